/- The law ImageOther: texts that its row leans on (6). -/
import Derived.Test.YtngkdkbpgoddlaaGreatKImageOther5
set_option linter.unusedVariables false
set_option linter.unusedSimpArgs false
set_option linter.unusedVariables false
set_option linter.unusedSimpArgs false
namespace Go.Proofs.YtngkdkbpgoddlaaGreat
open Go.RowKit Go.Rl
open Go.Gr
set_option maxHeartbeats 4000000 in
set_option maxRecDepth 100000 in
theorem needed_calls (n : Nat) (iv lv ov : Value) (ins : List Int) (ls : List I5) (lost : List Int) (w : World) (hi : Sl vI w iv ins) (hl : Sm i5cells w lv ls) (ho : Sl vI w ov lost) (v M : Int) (hT : TOk n M ins ls) (hM : 0 ≤ M) (hnM : (n : Int) * M ≤ 1152921504606846976) (hM2 : M ≤ 1152921504606846976) (hn : n ≤ 12) : Gives Tryz.prog 134 #[.agg #[.int .i64 (n : Int), iv, lv, ov], .int .i64 v] w fun r w' => ∃ out, OwnM i5cells 5 98 w' w.heap.size r out ∧ (∀ s ∈ out, NeedOk n ls v s) ∧ out.length ≤ 144 ∧ Ext w w' := by
 refine Gives.start Tryz.func134 rfl (Nat.le_of_ble_eq_true rfl) ?_
 rw [args2]
 have hN := Now.nil w none_
 have hil : (insOf ls v n).length ≤ n := filter_range_len _ n
 have hol : (outsOf ls v n).length ≤ n := filter_range_len _ n
 refine RW.seq (RW.region ?_)
 refine RL.op rfl rfl (opN_box (cs := [.int .i64 ((n : Int)), iv, lv, ov]) rfl rfl hN ?_)
 clear hN
 intro g1 w1 (hN : Now w none_ w1 [_])
 refine RL.ev (v := .slice none 0 0) rfl rfl ev_assign (RL.nil (thenN (RW.seq (RW.region (RL.ev rfl rfl (ev_loadAll (cs := [.int .i64 ((n : Int)), iv, lv, ov]) Tryz.underlying194 rfl sz194 rfl (hN.blk 0 rfl)) (RL.ev (v := .int .i64 (v)) rfl rfl ev_move ?_))))))
 refine RL.op rfl rfl (op_call2 Tryz.func138 rfl rfl rfl rfl ((ins_calls n _ _ _ ins ls lost _ (hi.o.now hN) (hl.o.now hN) (ho.o.now hN) v (by omega)).mono ?_))
 rintro v2 w2 ⟨ho_, he_⟩
 replace hN : Now w none_ w2 [_, _] := hN.pushOwn (l := insOf ls v n) ho_ he_
 clear ho_ he_
 refine RL.ev (v := v2) rfl rfl ev_assign (RL.nil (thenN (RW.seq (RW.region (RL.ev rfl rfl (ev_loadAll (cs := [.int .i64 ((n : Int)), iv, lv, ov]) Tryz.underlying194 rfl sz194 rfl (hN.blk 1 rfl)) (RL.ev (v := .int .i64 (v)) rfl rfl ev_move ?_))))))
 refine RL.op rfl rfl (op_call2 Tryz.func136 rfl rfl rfl rfl ((outs_calls n _ _ _ ins ls lost _ (hi.o.now hN) (hl.o.now hN) (ho.o.now hN) v (by omega)).mono ?_))
 rintro v3 w3 ⟨ho_, he_⟩
 replace hN : Now w none_ w3 [_, _, _] := hN.pushOwn (l := outsOf ls v n) ho_ he_
 clear ho_ he_
 refine RL.ev (v := v3) rfl rfl ev_assign (RL.nil (thenN (RW.seq (RW.region (RL.ev (v := .slice none 0 0) rfl rfl ev_assign (RL.nil (thenN ?_)))))))
 iterate 2 refine RW.seq ?_
 replace hN := hN.addNilM i5cells 5 98
 replace hN : Now w none_ w3 [.ownm i5cells 5 98 (.slice none 0 0) ([]), .own vI 3 (v3) (outsOf ls v n), .own vI 3 (v2) (insOf ls v n), .blk g1 [.int .i64 ((n : Int)), iv, lv, ov] 194] := hN
 refine RW.region (RL.ev (v := .int .i64 (0)) rfl rfl ev_assign (RL.nil (thenN (RW.block ?_))))
 refine RW.loop (fun k R0 w0' => ∃ va : Value, ∃ acc : List I5, ∃ i : Nat, R0 1 = .int .i64 (v) ∧ R0 2 = .pointer (some ⟨g1, 0, none⟩) ∧ R0 5 = v2 ∧ R0 6 = v3 ∧ R0 7 = va ∧ R0 8 = .int .i64 ((i : Int)) ∧ Now w none_ w0' [.ownm i5cells 5 98 (va) (acc), .own vI 3 (v3) (outsOf ls v n), .own vI 3 (v2) (insOf ls v n), .blk g1 [.int .i64 ((n : Int)), iv, lv, ov] 194] ∧ (i + k = (insOf ls v n).length) ∧ (∀ s ∈ acc, NeedOk n ls v s) ∧ (acc.length ≤ 12 * i)) ((insOf ls v n).length) ?_ ?_
 exact ⟨.slice none 0 0, [], 0, rfl, rfl, rfl, rfl, rfl, rfl, hN, by omega, (fun s hs => absurd hs List.not_mem_nil), Nat.le_refl _⟩
 clear hN
 rintro k R0 w0' ⟨va, acc, i, hr1_, hr2_, hr5_, hr6_, hr7_, hr8_, hN, hik, hok, hal⟩
 have hR_ : ∃ R0_, R0 = (upd (upd (upd (upd (upd (upd R0_ 1 _) 2 _) 5 _) 6 _) 7 _) 8 _) := ⟨R0, by rw [upd_self hr1_, upd_self hr2_, upd_self hr5_, upd_self hr6_, upd_self hr7_, upd_self hr8_]⟩
 obtain ⟨R0_, rfl⟩ := hR_
 clear hr1_ hr2_ hr5_ hr6_ hr7_ hr8_
 iterate 2 refine RW.seq ?_
 refine RW.region (RL.ev (v := .int .i64 ((i : Int))) rfl rfl ev_move (RL.ev (v := v2) rfl rfl ev_move ?_))
 have hL_4 := (hN.sl 2 rfl).len_le
 refine RL.ev rfl rfl (ev_lenS Tryz.underlying25 (hN.sl 2 rfl) rfl) (RL.ev rfl rfl (ev_lss rfl rfl) (RL.nil (thenN ?_)))
 refine RW.condP _ rfl (fun hlt => ?_) (fun hlt => ?_)
 refine RW.skip (thenN (RW.seq (RW.block (RW.seq ?_))))
 replace hN := hN.ext (Ext.drew w0')
 refine RW.drawR rfl (fun u => Now w none_ u [.ownm i5cells 5 98 (va) (acc), .own vI 3 (v3) (outsOf ls v n), .own vI 3 (v2) (insOf ls v n), .blk g1 [.int .i64 ((n : Int)), iv, lv, ov] 194]) 13 [(0,0), (1,0), (2,0), (3,0), (4,0), (5,0)] (by intro _ _ _ h; exact h) (by kernel_rfl) hN (RQ.ev rfl rfl (fun w hS => (ev_loadAll (cs := [.int .i64 ((n : Int)), iv, lv, ov]) Tryz.underlying194 rfl sz194 rfl (hS.blk 3 rfl))) (RQ.ev (v := v2) rfl rfl (fun w hS => ev_move) (RQ.ev (v := .int .i64 ((i : Int))) rfl rfl (fun w hS => ev_move) (RQ.ev rfl rfl (fun w hS => (ev_index Tryz.underlying25 sz3 (hS.sl 2 rfl) rfl rfl (by omega) (by omega))) ?_))))
 have hOb_ : ∃ a_, ((insOf ls v n))[i]? = some a_ := ⟨_, List.getElem?_eq_getElem (by omega)⟩
 obtain ⟨ap, hap⟩ := hOb_
 refine RQ.ev rfl rfl (fun w hS => (ev_loadG (m := i) (a := ap) Tryz.underlying3 rfl (hS.sl 2 rfl) rfl hap)) ?_
 have hOb_ := (mem_ins (List.mem_of_getElem? hap)).2.2.some
 obtain ⟨xp, hxp⟩ := hOb_
 have hlp : 0 ≤ xp.1 := (hT.ws _ (wayOf_mem hxp)).2.2.2.2.1
 have hmp : xp.1 ≤ M := (hT.ws _ (wayOf_mem hxp)).2.2.2.2.2
 refine RQ.ev (v := .int .i64 (v)) rfl rfl (fun w hS => ev_move) ?_
 refine RQ.two (i := 6) (j := 10) [(7,0), (8,0), (9,0), (10,1), (11,1), (12,0)] [(6,1), (7,0), (8,0), (9,0), (11,1), (12,0)] (by kernel_rfl) rfl rfl rfl rfl (by kernel_rfl) ?_ ?_
 refine (op_call3 Tryz.func137 rfl rfl rfl rfl rfl ((way_some n _ _ _ ins ls lost _ (hi.o.now hN) (hl.o.now hN) (ho.o.now hN) ap v xp hxp).mono ?_))
 rintro _ w5 ⟨rfl, he_⟩
 replace hN := hN.ext he_
 clear he_
 refine ⟨hN, ?_⟩
 refine RQ.ev (v := .tuple #[.agg #[.int .i64 (xp.1), .int .i64 (xp.2.1), .int .i64 (xp.2.2)], .bool true]) rfl rfl (fun w hS => ev_move) ?_
 iterate 2 refine RQ.ev rfl rfl (fun w hS => (ev_extract rfl rfl)) ?_
 refine RQ.do rfl rfl (opN_alloc (cs := [.int .i64 (0), .int .i64 (0), .int .i64 (0)]) zero96 rfl hN ?_)
 clear hN
 intro g6 w6 (hN : Now w none_ w6 [_, _, _, _, _])
 refine ⟨(hN.sub [1, 2, 3, 4] (by decide) rfl), ?_⟩
 refine RQ.do rfl rfl (opN_storeAll (vs := [.int .i64 (xp.1), .int .i64 (xp.2.1), .int .i64 (xp.2.2)]) sz96 rfl rfl rfl (by intro u hu; simp only [List.mem_cons, List.not_mem_nil, or_false] at hu; rcases hu with rfl | rfl | rfl <;> first | rfl) hN 0 rfl rfl ?_)
 clear hN
 intro w7 (hN : Now w none_ w7 [_, _, _, _, _])
 refine ⟨(hN.sub [1, 2, 3, 4] (by decide) rfl), ?_⟩
 refine RQ.ev (v := .bool true) rfl rfl (fun w hS => ev_assign) (RQ.done (by kernel_rfl) (thenN (RW.seq (RW.region (RL.ev (v := .int .i64 (0)) rfl rfl ev_assign (RL.nil (thenN (RW.block ?_))))))))
 refine RW.loop (fun k2 R1 w1' => ∃ va2 : Value, ∃ acc2 : List I5, ∃ q : Nat, R1 1 = .int .i64 (v) ∧ R1 2 = .pointer (some ⟨g1, 0, none⟩) ∧ R1 5 = v2 ∧ R1 6 = v3 ∧ R1 7 = va2 ∧ R1 8 = .int .i64 ((i : Int)) ∧ R1 9 = .pointer (some ⟨g6, 0, none⟩) ∧ R1 11 = .int .i64 ((q : Int)) ∧ Now w none_ w1' [.blk g6 [.int .i64 (xp.1), .int .i64 (xp.2.1), .int .i64 (xp.2.2)] 96, .ownm i5cells 5 98 (va2) (acc2), .own vI 3 (v3) (outsOf ls v n), .own vI 3 (v2) (insOf ls v n), .blk g1 [.int .i64 ((n : Int)), iv, lv, ov] 194] ∧ (q + k2 = (outsOf ls v n).length) ∧ (∀ s ∈ acc2, NeedOk n ls v s) ∧ (acc2.length ≤ 12 * i + q)) ((outsOf ls v n).length) ?_ ?_
 exact ⟨va, acc, 0, rfl, rfl, rfl, rfl, rfl, rfl, rfl, rfl, hN, by omega, hok, hal⟩
 clear hN
 rintro k2 R1 w1' ⟨va2, acc2, q, hr1_, hr2_, hr5_, hr6_, hr7_, hr8_, hr9_, hr11_, hN, hqk, hok2, hal2⟩
 have hR_ : ∃ R1_, R1 = (upd (upd (upd (upd (upd (upd (upd (upd R1_ 1 _) 2 _) 5 _) 6 _) 7 _) 8 _) 9 _) 11 _) := ⟨R1, by rw [upd_self hr1_, upd_self hr2_, upd_self hr5_, upd_self hr6_, upd_self hr7_, upd_self hr8_, upd_self hr9_, upd_self hr11_]⟩
 obtain ⟨R1_, rfl⟩ := hR_
 clear hr1_ hr2_ hr5_ hr6_ hr7_ hr8_ hr9_ hr11_
 iterate 2 refine RW.seq ?_
 refine RW.region (RL.ev (v := .int .i64 ((q : Int))) rfl rfl ev_move (RL.ev (v := v3) rfl rfl ev_move ?_))
 have hL_8 := (hN.sl 2 rfl).len_le
 refine RL.ev rfl rfl (ev_lenS Tryz.underlying25 (hN.sl 2 rfl) rfl) (RL.ev rfl rfl (ev_lss rfl rfl) (RL.nil (thenN ?_)))
 refine RW.condP _ rfl (fun hlt2 => ?_) (fun hlt2 => ?_)
 refine RW.skip (thenN (RW.seq (RW.block (RW.seq ?_))))
 replace hN := hN.ext (Ext.drew w1')
 refine RW.drawR rfl (fun u => Now w none_ u [.blk g6 [.int .i64 (xp.1), .int .i64 (xp.2.1), .int .i64 (xp.2.2)] 96, .ownm i5cells 5 98 (va2) (acc2), .own vI 3 (v3) (outsOf ls v n), .own vI 3 (v2) (insOf ls v n), .blk g1 [.int .i64 ((n : Int)), iv, lv, ov] 194]) 13 [(0,0), (1,0), (2,0), (3,0), (4,0), (5,0)] (by intro _ _ _ h; exact h) (by kernel_rfl) hN (RQ.ev rfl rfl (fun w hS => (ev_loadAll (cs := [.int .i64 ((n : Int)), iv, lv, ov]) Tryz.underlying194 rfl sz194 rfl (hS.blk 4 rfl))) (RQ.ev (v := .int .i64 (v)) rfl rfl (fun w hS => ev_move) (RQ.ev (v := v3) rfl rfl (fun w hS => ev_move) (RQ.ev (v := .int .i64 ((q : Int))) rfl rfl (fun w hS => ev_move) (RQ.ev rfl rfl (fun w hS => (ev_index Tryz.underlying25 sz3 (hS.sl 2 rfl) rfl rfl (by omega) (by omega))) ?_)))))
 have hOb_ : ∃ a_, ((outsOf ls v n))[q]? = some a_ := ⟨_, List.getElem?_eq_getElem (by omega)⟩
 obtain ⟨ar, har⟩ := hOb_
 refine RQ.ev rfl rfl (fun w hS => (ev_loadG (m := q) (a := ar) Tryz.underlying3 rfl (hS.sl 2 rfl) rfl har)) ?_
 have hOb_ := (mem_outs (List.mem_of_getElem? har)).2.2.some
 obtain ⟨xr, hxr⟩ := hOb_
 have hlr : 0 ≤ xr.1 := (hT.ws _ (wayOf_mem hxr)).2.2.2.2.1
 have hmr : xr.1 ≤ M := (hT.ws _ (wayOf_mem hxr)).2.2.2.2.2
 refine RQ.two (i := 6) (j := 10) [(7,0), (8,0), (9,0), (10,1), (11,1), (12,0)] [(6,1), (7,0), (8,0), (9,0), (11,1), (12,0)] (by kernel_rfl) rfl rfl rfl rfl (by kernel_rfl) ?_ ?_
 refine (op_call3 Tryz.func137 rfl rfl rfl rfl rfl ((way_some n _ _ _ ins ls lost _ (hi.o.now hN) (hl.o.now hN) (ho.o.now hN) v ar xr hxr).mono ?_))
 rintro _ w9 ⟨rfl, he_⟩
 replace hN := hN.ext he_
 clear he_
 refine ⟨hN, ?_⟩
 refine RQ.ev (v := .tuple #[.agg #[.int .i64 (xr.1), .int .i64 (xr.2.1), .int .i64 (xr.2.2)], .bool true]) rfl rfl (fun w hS => ev_move) ?_
 iterate 2 refine RQ.ev rfl rfl (fun w hS => (ev_extract rfl rfl)) ?_
 refine RQ.do rfl rfl (opN_alloc (cs := [.int .i64 (0), .int .i64 (0), .int .i64 (0)]) zero96 rfl hN ?_)
 clear hN
 intro g10 w10 (hN : Now w none_ w10 [_, _, _, _, _, _])
 refine ⟨(hN.sub [1, 2, 3, 4, 5] (by decide) rfl), ?_⟩
 refine RQ.do rfl rfl (opN_storeAll (vs := [.int .i64 (xr.1), .int .i64 (xr.2.1), .int .i64 (xr.2.2)]) sz96 rfl rfl rfl (by intro u hu; simp only [List.mem_cons, List.not_mem_nil, or_false] at hu; rcases hu with rfl | rfl | rfl <;> first | rfl) hN 0 rfl rfl ?_)
 clear hN
 intro w11 (hN : Now w none_ w11 [_, _, _, _, _, _])
 refine ⟨(hN.sub [1, 2, 3, 4, 5] (by decide) rfl), ?_⟩
 refine RQ.ev (v := .bool true) rfl rfl (fun w hS => ev_assign) (RQ.done (by kernel_rfl) (thenN (RW.seq ?_)))
 replace hN := hN.ext (Ext.drew w11)
 refine RW.drawR rfl (fun u => Now w none_ u [.blk g10 [.int .i64 (xr.1), .int .i64 (xr.2.1), .int .i64 (xr.2.2)] 96, .blk g6 [.int .i64 (xp.1), .int .i64 (xp.2.1), .int .i64 (xp.2.2)] 96, .ownm i5cells 5 98 (va2) (acc2), .own vI 3 (v3) (outsOf ls v n), .own vI 3 (v2) (insOf ls v n), .blk g1 [.int .i64 ((n : Int)), iv, lv, ov] 194]) 28 [(0,0), (1,0), (2,0), (3,0), (4,0), (5,0), (6,0), (7,0), (8,0), (9,0), (10,0), (11,0), (12,0), (13,0), (14,0), (15,0), (16,0), (17,0), (18,0), (19,0), (20,0), (21,0), (22,0), (23,0), (24,0), (25,1), (26,0), (27,0)] (by intro _ _ _ h; exact h) (by kernel_rfl) hN (RQ.ev (v := v2) rfl rfl (fun w hS => ev_move) (RQ.ev (v := .int .i64 ((i : Int))) rfl rfl (fun w hS => ev_move) (RQ.ev rfl rfl (fun w hS => (ev_index Tryz.underlying25 sz3 (hS.sl 4 rfl) rfl rfl (by omega) (by omega))) (RQ.ev rfl rfl (fun w hS => (ev_loadG (m := i) (a := ap) Tryz.underlying3 rfl (hS.sl 4 rfl) rfl hap)) (RQ.ev (v := v3) rfl rfl (fun w hS => ev_move) (RQ.ev (v := .int .i64 ((q : Int))) rfl rfl (fun w hS => ev_move) (RQ.ev rfl rfl (fun w hS => (ev_index Tryz.underlying25 sz3 (hS.sl 3 rfl) rfl rfl (by omega) (by omega))) (RQ.ev rfl rfl (fun w hS => (ev_loadG (m := q) (a := ar) Tryz.underlying3 rfl (hS.sl 3 rfl) rfl har)) (RQ.ev rfl rfl (fun w hS => (ev_neq rfl rfl)) ?_)))))))))
 refine RQ.ev (v := .bool (decide (¬ ap = ar))) rfl rfl (fun w hS => ev_move) ?_
 by_cases hg12_9 : ¬ ap = ar
 rw [decide_eq_true hg12_9]
 refine RQ.on rfl rfl rfl rfl (fun w hS => (ev_loadAll (cs := [.int .i64 ((n : Int)), iv, lv, ov]) Tryz.underlying194 rfl sz194 rfl (hS.blk 5 rfl))) (RQ.on (v := v2) rfl rfl rfl rfl (fun w hS => ev_move) (RQ.on (v := .int .i64 ((i : Int))) rfl rfl rfl rfl (fun w hS => ev_move) (RQ.on rfl rfl rfl rfl (fun w hS => (ev_index Tryz.underlying25 sz3 (hS.sl 4 rfl) rfl rfl (by omega) (by omega))) (RQ.on rfl rfl rfl rfl (fun w hS => (ev_loadG (m := i) (a := ap) Tryz.underlying3 rfl (hS.sl 4 rfl) rfl hap)) (RQ.on (v := v3) rfl rfl rfl rfl (fun w hS => ev_move) (RQ.on (v := .int .i64 ((q : Int))) rfl rfl rfl rfl (fun w hS => ev_move) (RQ.on rfl rfl rfl rfl (fun w hS => (ev_index Tryz.underlying25 sz3 (hS.sl 3 rfl) rfl rfl (by omega) (by omega))) (RQ.on rfl rfl rfl rfl (fun w hS => (ev_loadG (m := q) (a := ar) Tryz.underlying3 rfl (hS.sl 3 rfl) rfl har)) (RQ.on (v := .int .i64 (v)) rfl rfl rfl rfl (fun w hS => ev_move) ?_)))))))))
 refine RQ.on rfl rfl rfl rfl (fun w hS => (ev_fieldAddr Tryz.underlying96 rfl sz3 (by decide) rfl)) (RQ.on rfl rfl rfl rfl (fun w hS => (ev_loadB Tryz.underlying3 rfl rfl (hS.blk 1 rfl) rfl)) (RQ.on rfl rfl rfl rfl (fun w hS => (ev_fieldAddr Tryz.underlying96 rfl sz3 (by decide) rfl)) (RQ.on rfl rfl rfl rfl (fun w hS => (ev_loadB Tryz.underlying3 rfl rfl (hS.blk 0 rfl) rfl)) (RQ.on rfl rfl rfl rfl (fun w hS => (ev_arith rfl rfl rfl (add64 (by omega) (by omega)))) ?_))))
 refine RQ.doOn rfl rfl rfl rfl (op_call5 Tryz.func185 rfl rfl rfl rfl rfl rfl rfl ((near_calls n _ _ _ ins ls lost _ (hi.o.now hN) (hl.o.now hN) (ho.o.now hN) ap ar v (xp.1 + xr.1) M hT hM hnM (by omega)).mono ?_))
 rintro _ w16 ⟨b16, rfl, he_⟩
 replace hN := hN.ext he_
 clear he_
 refine ⟨hN, ?_⟩
 refine RQ.on rfl rfl rfl rfl (fun w hS => (ev_notP rfl)) (RQ.ev (v := .bool (decide (¬ (b16 = true)))) rfl rfl (fun w hS => (ev_pickT rfl)) (RQ.done (by kernel_rfl) (thenN ?_)))
 refine RW.condP _ rfl (fun hc79 => ?_) (fun hc79 => ?_)
 replace hN := hN.ext (Ext.drew w16)
 refine RW.drawR rfl (fun u => Now w none_ u [.blk g10 [.int .i64 (xr.1), .int .i64 (xr.2.1), .int .i64 (xr.2.2)] 96, .blk g6 [.int .i64 (xp.1), .int .i64 (xp.2.1), .int .i64 (xp.2.2)] 96, .own vI 3 (v3) (outsOf ls v n), .own vI 3 (v2) (insOf ls v n), .blk g1 [.int .i64 ((n : Int)), iv, lv, ov] 194]) 20 [(0,0), (1,0), (2,0), (3,0), (4,0), (5,0), (6,0), (7,0), (8,0), (9,0), (10,0), (11,0), (12,0), (13,0), (14,0), (15,0), (16,0), (17,1), (18,1), (19,0)] (by intro _ _ _ h; exact h) (by kernel_rfl) (hN.sub [0, 1, 3, 4, 5] (by decide) rfl) (RQ.ev (v := va2) rfl rfl (fun w hS => ev_move) (RQ.ev (v := v2) rfl rfl (fun w hS => ev_move) (RQ.ev (v := .int .i64 ((i : Int))) rfl rfl (fun w hS => ev_move) (RQ.ev rfl rfl (fun w hS => (ev_index Tryz.underlying25 sz3 (hS.sl 3 rfl) rfl rfl (by omega) (by omega))) (RQ.ev rfl rfl (fun w hS => (ev_loadG (m := i) (a := ap) Tryz.underlying3 rfl (hS.sl 3 rfl) rfl hap)) (RQ.ev (v := v3) rfl rfl (fun w hS => ev_move) (RQ.ev (v := .int .i64 ((q : Int))) rfl rfl (fun w hS => ev_move) (RQ.ev rfl rfl (fun w hS => (ev_index Tryz.underlying25 sz3 (hS.sl 2 rfl) rfl rfl (by omega) (by omega))) (RQ.ev rfl rfl (fun w hS => (ev_loadG (m := q) (a := ar) Tryz.underlying3 rfl (hS.sl 2 rfl) rfl har)) ?_)))))))))
 refine RQ.ev rfl rfl (fun w hS => (ev_fieldAddr Tryz.underlying96 rfl sz3 (by decide) rfl)) (RQ.ev rfl rfl (fun w hS => (ev_loadB Tryz.underlying3 rfl rfl (hS.blk 1 rfl) rfl)) (RQ.ev rfl rfl (fun w hS => (ev_fieldAddr Tryz.underlying96 rfl sz3 (by decide) rfl)) (RQ.ev rfl rfl (fun w hS => (ev_loadB Tryz.underlying3 rfl rfl (hS.blk 0 rfl) rfl)) (RQ.ev rfl rfl (fun w hS => (ev_arith rfl rfl rfl (add64 (by omega) (by omega)))) (RQ.ev (v := .int .i64 (v)) rfl rfl (fun w hS => ev_move) (RQ.ev rfl rfl (fun w hS => (ev_buildL (cs := [.int .i64 (xp.1 + xr.1), .int .i64 (v), .int .i64 (-1)]) Tryz.underlying96 zero96 (places := #[(0, 1), (1, 1), (2, 1)]) (by intro w; kernel_rfl) (pl := [(0, .tmp 93), (1, .tmp 94), (2, .const (.int .i64 (-1)))]) rfl (ps := [(0, .int .i64 (xp.1 + xr.1)), (1, .int .i64 (v)), (2, .int .i64 (-1))]) rfl (zc := [.int .i64 (0), .int .i64 (0), .int .i64 (0)]) rfl (fill_step (vs := [.int .i64 (xp.1 + xr.1)]) rfl rfl (Nat.le_of_ble_eq_true rfl) (fill_step (vs := [.int .i64 (v)]) rfl rfl (Nat.le_of_ble_eq_true rfl) (fill_step (vs := [.int .i64 (-1)]) rfl rfl (Nat.le_of_ble_eq_true rfl) rfl))))) (RQ.ev rfl rfl (fun w hS => (ev_buildL (cs := [.int .i64 (ap), .int .i64 (ar), .int .i64 (xp.1 + xr.1), .int .i64 (v), .int .i64 (-1)]) Tryz.underlying98 zero98 (places := #[(0, 1), (1, 1), (2, 3)]) (by intro w; kernel_rfl) (pl := [(0, .tmp 84), (1, .tmp 88), (2, .tmp 95)]) rfl (ps := [(0, .int .i64 (ap)), (1, .int .i64 (ar)), (2, .agg #[.int .i64 (xp.1 + xr.1), .int .i64 (v), .int .i64 (-1)])]) rfl (zc := [.int .i64 (0), .int .i64 (0), .int .i64 (0), .int .i64 (0), .int .i64 (0)]) rfl (fill_step (vs := [.int .i64 (ap)]) rfl rfl (Nat.le_of_ble_eq_true rfl) (fill_step (vs := [.int .i64 (ar)]) rfl rfl (Nat.le_of_ble_eq_true rfl) (fill_step (vs := [.int .i64 (xp.1 + xr.1), .int .i64 (v), .int .i64 (-1)]) rfl rfl (Nat.le_of_ble_eq_true rfl) rfl))))) ?_)))))))
 refine RQ.do rfl rfl (opN_litM (cf := i5cells) (s := 5) (pl := [(0, .tmp 96)]) (ps := [(0, .agg #[.int .i64 (ap), .int .i64 (ar), .int .i64 (xp.1 + xr.1), .int .i64 (v), .int .i64 (-1)])]) (zc := [.int .i64 (0), .int .i64 (0), .int .i64 (0), .int .i64 (0), .int .i64 (0)]) (l := [(ap, ar, xp.1 + xr.1, v, -1)]) Tryz.underlying26 inf98 (by kernel_rfl) rfl rfl (fill_step (vs := [.int .i64 (ap), .int .i64 (ar), .int .i64 (xp.1 + xr.1), .int .i64 (v), .int .i64 (-1)]) rfl rfl (Nat.le_of_ble_eq_true rfl) rfl) i5cells_len rfl (by decide) (by decide) (by decide) hN ?_)
 clear hN
 intro g19 w19 (hN : Now w none_ w19 [_, _, _, _, _, _, _])
 refine ⟨(hN.sub [1, 2, 4, 5, 6] (by decide) rfl), ?_⟩
 refine RQ.do rfl rfl (opN_appendM Tryz.underlying26 inf98 rfl (by decide) i5cells_one i5cells_len hN 3 rfl rfl (hN.sm 0 rfl) rfl (by (try simp only [List.length_append, List.length_singleton, List.length_cons, List.length_nil]); omega) (by decide) ?_)
 clear hN
 intro v20 w20 (hN : Now w none_ w20 [_, _, _, _, _, _, _])
 refine ⟨(hN.sub [1, 2, 4, 5, 6] (by decide) rfl), ?_⟩
 refine RQ.ev (v := v20) rfl rfl (fun w hS => ev_assign) (RQ.done (by kernel_rfl) (blockN (thenN (RW.region (RL.ev (v := .int .i64 ((q : Int))) rfl rfl ev_move (RL.ev rfl rfl (ev_arith rfl rfl rfl (add64 (by omega) (by omega))) (RL.ev (v := .int .i64 ((q : Int) + 1)) rfl rfl ev_assign (RL.nil (thenN ?_)))))))))
 exact ⟨k2 - 1, by omega, v20, acc2 ++ [(ap, ar, xp.1 + xr.1, v, -1)], q + 1, rfl, rfl, rfl, rfl, rfl, rfl, rfl, rfl, (hN.sub [2, 3, 4, 5, 6] (by decide) rfl), by omega, fun s hs => (List.mem_append.1 hs).elim (hok2 s) fun h => by rw [List.mem_singleton] at h; subst h; exact ⟨⟨hg12_9, rfl, rfl⟩, _, _, hxp, hxr, rfl⟩, by (try simp only [List.length_append, List.length_singleton]); omega⟩
 refine RW.skip (blockN (thenN (RW.region (RL.ev (v := .int .i64 ((q : Int))) rfl rfl ev_move (RL.ev rfl rfl (ev_arith rfl rfl rfl (add64 (by omega) (by omega))) (RL.ev (v := .int .i64 ((q : Int) + 1)) rfl rfl ev_assign (RL.nil (thenN ?_))))))))
 exact ⟨k2 - 1, by omega, va2, acc2, q + 1, rfl, rfl, rfl, rfl, rfl, rfl, rfl, rfl, (hN.sub [1, 2, 3, 4, 5] (by decide) rfl), by omega, hok2, by omega⟩
 rw [decide_eq_false hg12_9]
 iterate 17 refine RQ.off rfl rfl rfl rfl ?_
 refine RQ.ev (v := .bool false) rfl rfl (fun w hS => (ev_pickF rfl)) (RQ.done (by kernel_rfl) (thenN (RW.condF rfl (RW.skip (blockN (thenN (RW.region (RL.ev (v := .int .i64 ((q : Int))) rfl rfl ev_move (RL.ev rfl rfl (ev_arith rfl rfl rfl (add64 (by omega) (by omega))) ?_)))))))))
 refine RL.ev (v := .int .i64 ((q : Int) + 1)) rfl rfl ev_assign (RL.nil (thenN ?_))
 exact ⟨k2 - 1, by omega, va2, acc2, q + 1, rfl, rfl, rfl, rfl, rfl, rfl, rfl, rfl, (hN.sub [1, 2, 3, 4, 5] (by decide) rfl), by omega, hok2, by omega⟩
 refine (opN_alloc (cs := [.int .i64 (0), .int .i64 (0), .int .i64 (0)]) zero96 rfl hN ?_)
 clear hN
 intro g21 w21 (hN : Now w none_ w21 [_, _, _, _, _, _])
 refine ⟨(hN.sub [1, 2, 3, 4, 5] (by decide) rfl), ?_⟩
 refine RQ.do rfl rfl (op_call3 Tryz.func137 rfl rfl rfl rfl rfl ((way_some n _ _ _ ins ls lost _ (hi.o.now hN) (hl.o.now hN) (ho.o.now hN) v ar xr hxr).mono ?_))
 rintro _ w22 ⟨rfl, he_⟩
 replace hN := hN.ext he_
 clear he_
 refine ⟨(hN.sub [1, 2, 3, 4, 5] (by decide) rfl), ?_⟩
 refine RQ.ev (v := .tuple #[.agg #[.int .i64 (xr.1), .int .i64 (xr.2.1), .int .i64 (xr.2.2)], .bool true]) rfl rfl (fun w hS => ev_move) ?_
 iterate 2 refine RQ.ev rfl rfl (fun w hS => (ev_extract rfl rfl)) ?_
 refine RQ.do rfl rfl (opN_storeAll (vs := [.int .i64 (xr.1), .int .i64 (xr.2.1), .int .i64 (xr.2.2)]) sz96 rfl rfl rfl (by intro u hu; simp only [List.mem_cons, List.not_mem_nil, or_false] at hu; rcases hu with rfl | rfl | rfl <;> first | rfl) hN 0 rfl rfl ?_)
 clear hN
 intro w23 (hN : Now w none_ w23 [_, _, _, _, _, _])
 refine ⟨(hN.sub [1, 2, 3, 4, 5] (by decide) rfl), ?_⟩
 refine RQ.ev (v := .bool true) rfl rfl (fun w hS => ev_assign) (RQ.done (by kernel_rfl) (thenN (RW.seq ?_)))
 replace hN := hN.ext (Ext.drew w23)
 refine RW.drawR rfl (fun u => Now w none_ u [.blk g21 [.int .i64 (xr.1), .int .i64 (xr.2.1), .int .i64 (xr.2.2)] 96, .blk g6 [.int .i64 (xp.1), .int .i64 (xp.2.1), .int .i64 (xp.2.2)] 96, .ownm i5cells 5 98 (va2) (acc2), .own vI 3 (v3) (outsOf ls v n), .own vI 3 (v2) (insOf ls v n), .blk g1 [.int .i64 ((n : Int)), iv, lv, ov] 194]) 28 [(0,0), (1,0), (2,0), (3,0), (4,0), (5,0), (6,0), (7,0), (8,0), (9,0), (10,0), (11,0), (12,0), (13,0), (14,0), (15,0), (16,0), (17,0), (18,0), (19,0), (20,0), (21,0), (22,0), (23,0), (24,0), (25,1), (26,0), (27,0)] (by intro _ _ _ h; exact h) (by kernel_rfl) hN (RQ.ev (v := v2) rfl rfl (fun w hS => ev_move) (RQ.ev (v := .int .i64 ((i : Int))) rfl rfl (fun w hS => ev_move) (RQ.ev rfl rfl (fun w hS => (ev_index Tryz.underlying25 sz3 (hS.sl 4 rfl) rfl rfl (by omega) (by omega))) (RQ.ev rfl rfl (fun w hS => (ev_loadG (m := i) (a := ap) Tryz.underlying3 rfl (hS.sl 4 rfl) rfl hap)) (RQ.ev (v := v3) rfl rfl (fun w hS => ev_move) (RQ.ev (v := .int .i64 ((q : Int))) rfl rfl (fun w hS => ev_move) (RQ.ev rfl rfl (fun w hS => (ev_index Tryz.underlying25 sz3 (hS.sl 3 rfl) rfl rfl (by omega) (by omega))) (RQ.ev rfl rfl (fun w hS => (ev_loadG (m := q) (a := ar) Tryz.underlying3 rfl (hS.sl 3 rfl) rfl har)) (RQ.ev rfl rfl (fun w hS => (ev_neq rfl rfl)) ?_)))))))))
 refine RQ.ev (v := .bool (decide (¬ ap = ar))) rfl rfl (fun w hS => ev_move) ?_
 by_cases hg12_9 : ¬ ap = ar
 rw [decide_eq_true hg12_9]
 refine RQ.on rfl rfl rfl rfl (fun w hS => (ev_loadAll (cs := [.int .i64 ((n : Int)), iv, lv, ov]) Tryz.underlying194 rfl sz194 rfl (hS.blk 5 rfl))) (RQ.on (v := v2) rfl rfl rfl rfl (fun w hS => ev_move) (RQ.on (v := .int .i64 ((i : Int))) rfl rfl rfl rfl (fun w hS => ev_move) (RQ.on rfl rfl rfl rfl (fun w hS => (ev_index Tryz.underlying25 sz3 (hS.sl 4 rfl) rfl rfl (by omega) (by omega))) (RQ.on rfl rfl rfl rfl (fun w hS => (ev_loadG (m := i) (a := ap) Tryz.underlying3 rfl (hS.sl 4 rfl) rfl hap)) (RQ.on (v := v3) rfl rfl rfl rfl (fun w hS => ev_move) (RQ.on (v := .int .i64 ((q : Int))) rfl rfl rfl rfl (fun w hS => ev_move) (RQ.on rfl rfl rfl rfl (fun w hS => (ev_index Tryz.underlying25 sz3 (hS.sl 3 rfl) rfl rfl (by omega) (by omega))) (RQ.on rfl rfl rfl rfl (fun w hS => (ev_loadG (m := q) (a := ar) Tryz.underlying3 rfl (hS.sl 3 rfl) rfl har)) (RQ.on (v := .int .i64 (v)) rfl rfl rfl rfl (fun w hS => ev_move) ?_)))))))))
 refine RQ.on rfl rfl rfl rfl (fun w hS => (ev_fieldAddr Tryz.underlying96 rfl sz3 (by decide) rfl)) (RQ.on rfl rfl rfl rfl (fun w hS => (ev_loadB Tryz.underlying3 rfl rfl (hS.blk 1 rfl) rfl)) (RQ.on rfl rfl rfl rfl (fun w hS => (ev_fieldAddr Tryz.underlying96 rfl sz3 (by decide) rfl)) (RQ.on rfl rfl rfl rfl (fun w hS => (ev_loadB Tryz.underlying3 rfl rfl (hS.blk 0 rfl) rfl)) (RQ.on rfl rfl rfl rfl (fun w hS => (ev_arith rfl rfl rfl (add64 (by omega) (by omega)))) ?_))))
 refine RQ.doOn rfl rfl rfl rfl (op_call5 Tryz.func185 rfl rfl rfl rfl rfl rfl rfl ((near_calls n _ _ _ ins ls lost _ (hi.o.now hN) (hl.o.now hN) (ho.o.now hN) ap ar v (xp.1 + xr.1) M hT hM hnM (by omega)).mono ?_))
 rintro _ w28 ⟨b28, rfl, he_⟩
 replace hN := hN.ext he_
 clear he_
 refine ⟨hN, ?_⟩
 refine RQ.on rfl rfl rfl rfl (fun w hS => (ev_notP rfl)) (RQ.ev (v := .bool (decide (¬ (b28 = true)))) rfl rfl (fun w hS => (ev_pickT rfl)) (RQ.done (by kernel_rfl) (thenN ?_)))
 refine RW.condP _ rfl (fun hc79 => ?_) (fun hc79 => ?_)
 replace hN := hN.ext (Ext.drew w28)
 refine RW.drawR rfl (fun u => Now w none_ u [.blk g21 [.int .i64 (xr.1), .int .i64 (xr.2.1), .int .i64 (xr.2.2)] 96, .blk g6 [.int .i64 (xp.1), .int .i64 (xp.2.1), .int .i64 (xp.2.2)] 96, .own vI 3 (v3) (outsOf ls v n), .own vI 3 (v2) (insOf ls v n), .blk g1 [.int .i64 ((n : Int)), iv, lv, ov] 194]) 20 [(0,0), (1,0), (2,0), (3,0), (4,0), (5,0), (6,0), (7,0), (8,0), (9,0), (10,0), (11,0), (12,0), (13,0), (14,0), (15,0), (16,0), (17,1), (18,1), (19,0)] (by intro _ _ _ h; exact h) (by kernel_rfl) (hN.sub [0, 1, 3, 4, 5] (by decide) rfl) (RQ.ev (v := va2) rfl rfl (fun w hS => ev_move) (RQ.ev (v := v2) rfl rfl (fun w hS => ev_move) (RQ.ev (v := .int .i64 ((i : Int))) rfl rfl (fun w hS => ev_move) (RQ.ev rfl rfl (fun w hS => (ev_index Tryz.underlying25 sz3 (hS.sl 3 rfl) rfl rfl (by omega) (by omega))) (RQ.ev rfl rfl (fun w hS => (ev_loadG (m := i) (a := ap) Tryz.underlying3 rfl (hS.sl 3 rfl) rfl hap)) (RQ.ev (v := v3) rfl rfl (fun w hS => ev_move) (RQ.ev (v := .int .i64 ((q : Int))) rfl rfl (fun w hS => ev_move) (RQ.ev rfl rfl (fun w hS => (ev_index Tryz.underlying25 sz3 (hS.sl 2 rfl) rfl rfl (by omega) (by omega))) (RQ.ev rfl rfl (fun w hS => (ev_loadG (m := q) (a := ar) Tryz.underlying3 rfl (hS.sl 2 rfl) rfl har)) ?_)))))))))
 refine RQ.ev rfl rfl (fun w hS => (ev_fieldAddr Tryz.underlying96 rfl sz3 (by decide) rfl)) (RQ.ev rfl rfl (fun w hS => (ev_loadB Tryz.underlying3 rfl rfl (hS.blk 1 rfl) rfl)) (RQ.ev rfl rfl (fun w hS => (ev_fieldAddr Tryz.underlying96 rfl sz3 (by decide) rfl)) (RQ.ev rfl rfl (fun w hS => (ev_loadB Tryz.underlying3 rfl rfl (hS.blk 0 rfl) rfl)) (RQ.ev rfl rfl (fun w hS => (ev_arith rfl rfl rfl (add64 (by omega) (by omega)))) (RQ.ev (v := .int .i64 (v)) rfl rfl (fun w hS => ev_move) (RQ.ev rfl rfl (fun w hS => (ev_buildL (cs := [.int .i64 (xp.1 + xr.1), .int .i64 (v), .int .i64 (-1)]) Tryz.underlying96 zero96 (places := #[(0, 1), (1, 1), (2, 1)]) (by intro w; kernel_rfl) (pl := [(0, .tmp 93), (1, .tmp 94), (2, .const (.int .i64 (-1)))]) rfl (ps := [(0, .int .i64 (xp.1 + xr.1)), (1, .int .i64 (v)), (2, .int .i64 (-1))]) rfl (zc := [.int .i64 (0), .int .i64 (0), .int .i64 (0)]) rfl (fill_step (vs := [.int .i64 (xp.1 + xr.1)]) rfl rfl (Nat.le_of_ble_eq_true rfl) (fill_step (vs := [.int .i64 (v)]) rfl rfl (Nat.le_of_ble_eq_true rfl) (fill_step (vs := [.int .i64 (-1)]) rfl rfl (Nat.le_of_ble_eq_true rfl) rfl))))) (RQ.ev rfl rfl (fun w hS => (ev_buildL (cs := [.int .i64 (ap), .int .i64 (ar), .int .i64 (xp.1 + xr.1), .int .i64 (v), .int .i64 (-1)]) Tryz.underlying98 zero98 (places := #[(0, 1), (1, 1), (2, 3)]) (by intro w; kernel_rfl) (pl := [(0, .tmp 84), (1, .tmp 88), (2, .tmp 95)]) rfl (ps := [(0, .int .i64 (ap)), (1, .int .i64 (ar)), (2, .agg #[.int .i64 (xp.1 + xr.1), .int .i64 (v), .int .i64 (-1)])]) rfl (zc := [.int .i64 (0), .int .i64 (0), .int .i64 (0), .int .i64 (0), .int .i64 (0)]) rfl (fill_step (vs := [.int .i64 (ap)]) rfl rfl (Nat.le_of_ble_eq_true rfl) (fill_step (vs := [.int .i64 (ar)]) rfl rfl (Nat.le_of_ble_eq_true rfl) (fill_step (vs := [.int .i64 (xp.1 + xr.1), .int .i64 (v), .int .i64 (-1)]) rfl rfl (Nat.le_of_ble_eq_true rfl) rfl))))) ?_)))))))
 refine RQ.do rfl rfl (opN_litM (cf := i5cells) (s := 5) (pl := [(0, .tmp 96)]) (ps := [(0, .agg #[.int .i64 (ap), .int .i64 (ar), .int .i64 (xp.1 + xr.1), .int .i64 (v), .int .i64 (-1)])]) (zc := [.int .i64 (0), .int .i64 (0), .int .i64 (0), .int .i64 (0), .int .i64 (0)]) (l := [(ap, ar, xp.1 + xr.1, v, -1)]) Tryz.underlying26 inf98 (by kernel_rfl) rfl rfl (fill_step (vs := [.int .i64 (ap), .int .i64 (ar), .int .i64 (xp.1 + xr.1), .int .i64 (v), .int .i64 (-1)]) rfl rfl (Nat.le_of_ble_eq_true rfl) rfl) i5cells_len rfl (by decide) (by decide) (by decide) hN ?_)
 clear hN
 intro g31 w31 (hN : Now w none_ w31 [_, _, _, _, _, _, _])
 refine ⟨(hN.sub [1, 2, 4, 5, 6] (by decide) rfl), ?_⟩
 refine RQ.do rfl rfl (opN_appendM Tryz.underlying26 inf98 rfl (by decide) i5cells_one i5cells_len hN 3 rfl rfl (hN.sm 0 rfl) rfl (by (try simp only [List.length_append, List.length_singleton, List.length_cons, List.length_nil]); omega) (by decide) ?_)
 clear hN
 intro v32 w32 (hN : Now w none_ w32 [_, _, _, _, _, _, _])
 refine ⟨(hN.sub [1, 2, 4, 5, 6] (by decide) rfl), ?_⟩
 refine RQ.ev (v := v32) rfl rfl (fun w hS => ev_assign) (RQ.done (by kernel_rfl) (blockN (thenN (RW.region (RL.ev (v := .int .i64 ((q : Int))) rfl rfl ev_move (RL.ev rfl rfl (ev_arith rfl rfl rfl (add64 (by omega) (by omega))) (RL.ev (v := .int .i64 ((q : Int) + 1)) rfl rfl ev_assign (RL.nil (thenN ?_)))))))))
 exact ⟨k2 - 1, by omega, v32, acc2 ++ [(ap, ar, xp.1 + xr.1, v, -1)], q + 1, rfl, rfl, rfl, rfl, rfl, rfl, rfl, rfl, (hN.sub [2, 3, 4, 5, 6] (by decide) rfl), by omega, fun s hs => (List.mem_append.1 hs).elim (hok2 s) fun h => by rw [List.mem_singleton] at h; subst h; exact ⟨⟨hg12_9, rfl, rfl⟩, _, _, hxp, hxr, rfl⟩, by (try simp only [List.length_append, List.length_singleton]); omega⟩
 refine RW.skip (blockN (thenN (RW.region (RL.ev (v := .int .i64 ((q : Int))) rfl rfl ev_move (RL.ev rfl rfl (ev_arith rfl rfl rfl (add64 (by omega) (by omega))) (RL.ev (v := .int .i64 ((q : Int) + 1)) rfl rfl ev_assign (RL.nil (thenN ?_))))))))
 exact ⟨k2 - 1, by omega, va2, acc2, q + 1, rfl, rfl, rfl, rfl, rfl, rfl, rfl, rfl, (hN.sub [1, 2, 3, 4, 5] (by decide) rfl), by omega, hok2, by omega⟩
 rw [decide_eq_false hg12_9]
 iterate 17 refine RQ.off rfl rfl rfl rfl ?_
 refine RQ.ev (v := .bool false) rfl rfl (fun w hS => (ev_pickF rfl)) (RQ.done (by kernel_rfl) (thenN (RW.condF rfl (RW.skip (blockN (thenN (RW.region (RL.ev (v := .int .i64 ((q : Int))) rfl rfl ev_move (RL.ev rfl rfl (ev_arith rfl rfl rfl (add64 (by omega) (by omega))) ?_)))))))))
 refine RL.ev (v := .int .i64 ((q : Int) + 1)) rfl rfl ev_assign (RL.nil (thenN ?_))
 exact ⟨k2 - 1, by omega, va2, acc2, q + 1, rfl, rfl, rfl, rfl, rfl, rfl, rfl, rfl, (hN.sub [1, 2, 3, 4, 5] (by decide) rfl), by omega, hok2, by omega⟩
 refine RW.exit ?_
 iterate 2 refine thenX ?_
 refine blockHit (blockN (thenN (RW.region (RL.ev (v := .int .i64 ((i : Int))) rfl rfl ev_move (RL.ev rfl rfl (ev_arith rfl rfl rfl (add64 (by omega) (by omega))) (RL.ev (v := .int .i64 ((i : Int) + 1)) rfl rfl ev_assign (RL.nil (thenN ?_))))))))
 exact ⟨k - 1, by omega, va2, acc2, i + 1, rfl, rfl, rfl, rfl, rfl, rfl, (hN.sub [1, 2, 3, 4] (by decide) rfl), by omega, hok2, by omega⟩
 refine (opN_alloc (cs := [.int .i64 (0), .int .i64 (0), .int .i64 (0)]) zero96 rfl hN ?_)
 clear hN
 intro g33 w33 (hN : Now w none_ w33 [_, _, _, _, _])
 refine ⟨(hN.sub [1, 2, 3, 4] (by decide) rfl), ?_⟩
 refine RQ.do rfl rfl (op_call3 Tryz.func137 rfl rfl rfl rfl rfl ((way_some n _ _ _ ins ls lost _ (hi.o.now hN) (hl.o.now hN) (ho.o.now hN) ap v xp hxp).mono ?_))
 rintro _ w34 ⟨rfl, he_⟩
 replace hN := hN.ext he_
 clear he_
 refine ⟨(hN.sub [1, 2, 3, 4] (by decide) rfl), ?_⟩
 refine RQ.ev (v := .tuple #[.agg #[.int .i64 (xp.1), .int .i64 (xp.2.1), .int .i64 (xp.2.2)], .bool true]) rfl rfl (fun w hS => ev_move) ?_
 iterate 2 refine RQ.ev rfl rfl (fun w hS => (ev_extract rfl rfl)) ?_
 refine RQ.do rfl rfl (opN_storeAll (vs := [.int .i64 (xp.1), .int .i64 (xp.2.1), .int .i64 (xp.2.2)]) sz96 rfl rfl rfl (by intro u hu; simp only [List.mem_cons, List.not_mem_nil, or_false] at hu; rcases hu with rfl | rfl | rfl <;> first | rfl) hN 0 rfl rfl ?_)
 clear hN
 intro w35 (hN : Now w none_ w35 [_, _, _, _, _])
 refine ⟨(hN.sub [1, 2, 3, 4] (by decide) rfl), ?_⟩
 refine RQ.ev (v := .bool true) rfl rfl (fun w hS => ev_assign) (RQ.done (by kernel_rfl) (thenN (RW.seq (RW.region (RL.ev (v := .int .i64 (0)) rfl rfl ev_assign (RL.nil (thenN (RW.block ?_))))))))
 refine RW.loop (fun k2 R1 w1' => ∃ va2 : Value, ∃ acc2 : List I5, ∃ q : Nat, R1 1 = .int .i64 (v) ∧ R1 2 = .pointer (some ⟨g1, 0, none⟩) ∧ R1 5 = v2 ∧ R1 6 = v3 ∧ R1 7 = va2 ∧ R1 8 = .int .i64 ((i : Int)) ∧ R1 9 = .pointer (some ⟨g33, 0, none⟩) ∧ R1 11 = .int .i64 ((q : Int)) ∧ Now w none_ w1' [.blk g33 [.int .i64 (xp.1), .int .i64 (xp.2.1), .int .i64 (xp.2.2)] 96, .ownm i5cells 5 98 (va2) (acc2), .own vI 3 (v3) (outsOf ls v n), .own vI 3 (v2) (insOf ls v n), .blk g1 [.int .i64 ((n : Int)), iv, lv, ov] 194] ∧ (q + k2 = (outsOf ls v n).length) ∧ (∀ s ∈ acc2, NeedOk n ls v s) ∧ (acc2.length ≤ 12 * i + q)) ((outsOf ls v n).length) ?_ ?_
 exact ⟨va, acc, 0, rfl, rfl, rfl, rfl, rfl, rfl, rfl, rfl, hN, by omega, hok, hal⟩
 clear hN
 rintro k2 R1 w1' ⟨va2, acc2, q, hr1_, hr2_, hr5_, hr6_, hr7_, hr8_, hr9_, hr11_, hN, hqk, hok2, hal2⟩
 have hR_ : ∃ R1_, R1 = (upd (upd (upd (upd (upd (upd (upd (upd R1_ 1 _) 2 _) 5 _) 6 _) 7 _) 8 _) 9 _) 11 _) := ⟨R1, by rw [upd_self hr1_, upd_self hr2_, upd_self hr5_, upd_self hr6_, upd_self hr7_, upd_self hr8_, upd_self hr9_, upd_self hr11_]⟩
 obtain ⟨R1_, rfl⟩ := hR_
 clear hr1_ hr2_ hr5_ hr6_ hr7_ hr8_ hr9_ hr11_
 iterate 2 refine RW.seq ?_
 refine RW.region (RL.ev (v := .int .i64 ((q : Int))) rfl rfl ev_move (RL.ev (v := v3) rfl rfl ev_move ?_))
 have hL_36 := (hN.sl 2 rfl).len_le
 refine RL.ev rfl rfl (ev_lenS Tryz.underlying25 (hN.sl 2 rfl) rfl) (RL.ev rfl rfl (ev_lss rfl rfl) (RL.nil (thenN ?_)))
 refine RW.condP _ rfl (fun hlt2 => ?_) (fun hlt2 => ?_)
 refine RW.skip (thenN (RW.seq (RW.block (RW.seq ?_))))
 replace hN := hN.ext (Ext.drew w1')
 refine RW.drawR rfl (fun u => Now w none_ u [.blk g33 [.int .i64 (xp.1), .int .i64 (xp.2.1), .int .i64 (xp.2.2)] 96, .ownm i5cells 5 98 (va2) (acc2), .own vI 3 (v3) (outsOf ls v n), .own vI 3 (v2) (insOf ls v n), .blk g1 [.int .i64 ((n : Int)), iv, lv, ov] 194]) 13 [(0,0), (1,0), (2,0), (3,0), (4,0), (5,0)] (by intro _ _ _ h; exact h) (by kernel_rfl) hN (RQ.ev rfl rfl (fun w hS => (ev_loadAll (cs := [.int .i64 ((n : Int)), iv, lv, ov]) Tryz.underlying194 rfl sz194 rfl (hS.blk 4 rfl))) (RQ.ev (v := .int .i64 (v)) rfl rfl (fun w hS => ev_move) (RQ.ev (v := v3) rfl rfl (fun w hS => ev_move) (RQ.ev (v := .int .i64 ((q : Int))) rfl rfl (fun w hS => ev_move) (RQ.ev rfl rfl (fun w hS => (ev_index Tryz.underlying25 sz3 (hS.sl 2 rfl) rfl rfl (by omega) (by omega))) ?_)))))
 have hOb_ : ∃ a_, ((outsOf ls v n))[q]? = some a_ := ⟨_, List.getElem?_eq_getElem (by omega)⟩
 obtain ⟨ar, har⟩ := hOb_
 refine RQ.ev rfl rfl (fun w hS => (ev_loadG (m := q) (a := ar) Tryz.underlying3 rfl (hS.sl 2 rfl) rfl har)) ?_
 have hOb_ := (mem_outs (List.mem_of_getElem? har)).2.2.some
 obtain ⟨xr, hxr⟩ := hOb_
 have hlr : 0 ≤ xr.1 := (hT.ws _ (wayOf_mem hxr)).2.2.2.2.1
 have hmr : xr.1 ≤ M := (hT.ws _ (wayOf_mem hxr)).2.2.2.2.2
 refine RQ.two (i := 6) (j := 10) [(7,0), (8,0), (9,0), (10,1), (11,1), (12,0)] [(6,1), (7,0), (8,0), (9,0), (11,1), (12,0)] (by kernel_rfl) rfl rfl rfl rfl (by kernel_rfl) ?_ ?_
 refine (op_call3 Tryz.func137 rfl rfl rfl rfl rfl ((way_some n _ _ _ ins ls lost _ (hi.o.now hN) (hl.o.now hN) (ho.o.now hN) v ar xr hxr).mono ?_))
 rintro _ w37 ⟨rfl, he_⟩
 replace hN := hN.ext he_
 clear he_
 refine ⟨hN, ?_⟩
 refine RQ.ev (v := .tuple #[.agg #[.int .i64 (xr.1), .int .i64 (xr.2.1), .int .i64 (xr.2.2)], .bool true]) rfl rfl (fun w hS => ev_move) ?_
 iterate 2 refine RQ.ev rfl rfl (fun w hS => (ev_extract rfl rfl)) ?_
 refine RQ.do rfl rfl (opN_alloc (cs := [.int .i64 (0), .int .i64 (0), .int .i64 (0)]) zero96 rfl hN ?_)
 clear hN
 intro g38 w38 (hN : Now w none_ w38 [_, _, _, _, _, _])
 refine ⟨(hN.sub [1, 2, 3, 4, 5] (by decide) rfl), ?_⟩
 refine RQ.do rfl rfl (opN_storeAll (vs := [.int .i64 (xr.1), .int .i64 (xr.2.1), .int .i64 (xr.2.2)]) sz96 rfl rfl rfl (by intro u hu; simp only [List.mem_cons, List.not_mem_nil, or_false] at hu; rcases hu with rfl | rfl | rfl <;> first | rfl) hN 0 rfl rfl ?_)
 clear hN
 intro w39 (hN : Now w none_ w39 [_, _, _, _, _, _])
 refine ⟨(hN.sub [1, 2, 3, 4, 5] (by decide) rfl), ?_⟩
 refine RQ.ev (v := .bool true) rfl rfl (fun w hS => ev_assign) (RQ.done (by kernel_rfl) (thenN (RW.seq ?_)))
 replace hN := hN.ext (Ext.drew w39)
 refine RW.drawR rfl (fun u => Now w none_ u [.blk g38 [.int .i64 (xr.1), .int .i64 (xr.2.1), .int .i64 (xr.2.2)] 96, .blk g33 [.int .i64 (xp.1), .int .i64 (xp.2.1), .int .i64 (xp.2.2)] 96, .ownm i5cells 5 98 (va2) (acc2), .own vI 3 (v3) (outsOf ls v n), .own vI 3 (v2) (insOf ls v n), .blk g1 [.int .i64 ((n : Int)), iv, lv, ov] 194]) 28 [(0,0), (1,0), (2,0), (3,0), (4,0), (5,0), (6,0), (7,0), (8,0), (9,0), (10,0), (11,0), (12,0), (13,0), (14,0), (15,0), (16,0), (17,0), (18,0), (19,0), (20,0), (21,0), (22,0), (23,0), (24,0), (25,1), (26,0), (27,0)] (by intro _ _ _ h; exact h) (by kernel_rfl) hN (RQ.ev (v := v2) rfl rfl (fun w hS => ev_move) (RQ.ev (v := .int .i64 ((i : Int))) rfl rfl (fun w hS => ev_move) (RQ.ev rfl rfl (fun w hS => (ev_index Tryz.underlying25 sz3 (hS.sl 4 rfl) rfl rfl (by omega) (by omega))) (RQ.ev rfl rfl (fun w hS => (ev_loadG (m := i) (a := ap) Tryz.underlying3 rfl (hS.sl 4 rfl) rfl hap)) (RQ.ev (v := v3) rfl rfl (fun w hS => ev_move) (RQ.ev (v := .int .i64 ((q : Int))) rfl rfl (fun w hS => ev_move) (RQ.ev rfl rfl (fun w hS => (ev_index Tryz.underlying25 sz3 (hS.sl 3 rfl) rfl rfl (by omega) (by omega))) (RQ.ev rfl rfl (fun w hS => (ev_loadG (m := q) (a := ar) Tryz.underlying3 rfl (hS.sl 3 rfl) rfl har)) (RQ.ev rfl rfl (fun w hS => (ev_neq rfl rfl)) ?_)))))))))
 refine RQ.ev (v := .bool (decide (¬ ap = ar))) rfl rfl (fun w hS => ev_move) ?_
 by_cases hg12_9 : ¬ ap = ar
 rw [decide_eq_true hg12_9]
 refine RQ.on rfl rfl rfl rfl (fun w hS => (ev_loadAll (cs := [.int .i64 ((n : Int)), iv, lv, ov]) Tryz.underlying194 rfl sz194 rfl (hS.blk 5 rfl))) (RQ.on (v := v2) rfl rfl rfl rfl (fun w hS => ev_move) (RQ.on (v := .int .i64 ((i : Int))) rfl rfl rfl rfl (fun w hS => ev_move) (RQ.on rfl rfl rfl rfl (fun w hS => (ev_index Tryz.underlying25 sz3 (hS.sl 4 rfl) rfl rfl (by omega) (by omega))) (RQ.on rfl rfl rfl rfl (fun w hS => (ev_loadG (m := i) (a := ap) Tryz.underlying3 rfl (hS.sl 4 rfl) rfl hap)) (RQ.on (v := v3) rfl rfl rfl rfl (fun w hS => ev_move) (RQ.on (v := .int .i64 ((q : Int))) rfl rfl rfl rfl (fun w hS => ev_move) (RQ.on rfl rfl rfl rfl (fun w hS => (ev_index Tryz.underlying25 sz3 (hS.sl 3 rfl) rfl rfl (by omega) (by omega))) (RQ.on rfl rfl rfl rfl (fun w hS => (ev_loadG (m := q) (a := ar) Tryz.underlying3 rfl (hS.sl 3 rfl) rfl har)) (RQ.on (v := .int .i64 (v)) rfl rfl rfl rfl (fun w hS => ev_move) ?_)))))))))
 refine RQ.on rfl rfl rfl rfl (fun w hS => (ev_fieldAddr Tryz.underlying96 rfl sz3 (by decide) rfl)) (RQ.on rfl rfl rfl rfl (fun w hS => (ev_loadB Tryz.underlying3 rfl rfl (hS.blk 1 rfl) rfl)) (RQ.on rfl rfl rfl rfl (fun w hS => (ev_fieldAddr Tryz.underlying96 rfl sz3 (by decide) rfl)) (RQ.on rfl rfl rfl rfl (fun w hS => (ev_loadB Tryz.underlying3 rfl rfl (hS.blk 0 rfl) rfl)) (RQ.on rfl rfl rfl rfl (fun w hS => (ev_arith rfl rfl rfl (add64 (by omega) (by omega)))) ?_))))
 refine RQ.doOn rfl rfl rfl rfl (op_call5 Tryz.func185 rfl rfl rfl rfl rfl rfl rfl ((near_calls n _ _ _ ins ls lost _ (hi.o.now hN) (hl.o.now hN) (ho.o.now hN) ap ar v (xp.1 + xr.1) M hT hM hnM (by omega)).mono ?_))
 rintro _ w44 ⟨b44, rfl, he_⟩
 replace hN := hN.ext he_
 clear he_
 refine ⟨hN, ?_⟩
 refine RQ.on rfl rfl rfl rfl (fun w hS => (ev_notP rfl)) (RQ.ev (v := .bool (decide (¬ (b44 = true)))) rfl rfl (fun w hS => (ev_pickT rfl)) (RQ.done (by kernel_rfl) (thenN ?_)))
 refine RW.condP _ rfl (fun hc79 => ?_) (fun hc79 => ?_)
 replace hN := hN.ext (Ext.drew w44)
 refine RW.drawR rfl (fun u => Now w none_ u [.blk g38 [.int .i64 (xr.1), .int .i64 (xr.2.1), .int .i64 (xr.2.2)] 96, .blk g33 [.int .i64 (xp.1), .int .i64 (xp.2.1), .int .i64 (xp.2.2)] 96, .own vI 3 (v3) (outsOf ls v n), .own vI 3 (v2) (insOf ls v n), .blk g1 [.int .i64 ((n : Int)), iv, lv, ov] 194]) 20 [(0,0), (1,0), (2,0), (3,0), (4,0), (5,0), (6,0), (7,0), (8,0), (9,0), (10,0), (11,0), (12,0), (13,0), (14,0), (15,0), (16,0), (17,1), (18,1), (19,0)] (by intro _ _ _ h; exact h) (by kernel_rfl) (hN.sub [0, 1, 3, 4, 5] (by decide) rfl) (RQ.ev (v := va2) rfl rfl (fun w hS => ev_move) (RQ.ev (v := v2) rfl rfl (fun w hS => ev_move) (RQ.ev (v := .int .i64 ((i : Int))) rfl rfl (fun w hS => ev_move) (RQ.ev rfl rfl (fun w hS => (ev_index Tryz.underlying25 sz3 (hS.sl 3 rfl) rfl rfl (by omega) (by omega))) (RQ.ev rfl rfl (fun w hS => (ev_loadG (m := i) (a := ap) Tryz.underlying3 rfl (hS.sl 3 rfl) rfl hap)) (RQ.ev (v := v3) rfl rfl (fun w hS => ev_move) (RQ.ev (v := .int .i64 ((q : Int))) rfl rfl (fun w hS => ev_move) (RQ.ev rfl rfl (fun w hS => (ev_index Tryz.underlying25 sz3 (hS.sl 2 rfl) rfl rfl (by omega) (by omega))) (RQ.ev rfl rfl (fun w hS => (ev_loadG (m := q) (a := ar) Tryz.underlying3 rfl (hS.sl 2 rfl) rfl har)) ?_)))))))))
 refine RQ.ev rfl rfl (fun w hS => (ev_fieldAddr Tryz.underlying96 rfl sz3 (by decide) rfl)) (RQ.ev rfl rfl (fun w hS => (ev_loadB Tryz.underlying3 rfl rfl (hS.blk 1 rfl) rfl)) (RQ.ev rfl rfl (fun w hS => (ev_fieldAddr Tryz.underlying96 rfl sz3 (by decide) rfl)) (RQ.ev rfl rfl (fun w hS => (ev_loadB Tryz.underlying3 rfl rfl (hS.blk 0 rfl) rfl)) (RQ.ev rfl rfl (fun w hS => (ev_arith rfl rfl rfl (add64 (by omega) (by omega)))) (RQ.ev (v := .int .i64 (v)) rfl rfl (fun w hS => ev_move) (RQ.ev rfl rfl (fun w hS => (ev_buildL (cs := [.int .i64 (xp.1 + xr.1), .int .i64 (v), .int .i64 (-1)]) Tryz.underlying96 zero96 (places := #[(0, 1), (1, 1), (2, 1)]) (by intro w; kernel_rfl) (pl := [(0, .tmp 93), (1, .tmp 94), (2, .const (.int .i64 (-1)))]) rfl (ps := [(0, .int .i64 (xp.1 + xr.1)), (1, .int .i64 (v)), (2, .int .i64 (-1))]) rfl (zc := [.int .i64 (0), .int .i64 (0), .int .i64 (0)]) rfl (fill_step (vs := [.int .i64 (xp.1 + xr.1)]) rfl rfl (Nat.le_of_ble_eq_true rfl) (fill_step (vs := [.int .i64 (v)]) rfl rfl (Nat.le_of_ble_eq_true rfl) (fill_step (vs := [.int .i64 (-1)]) rfl rfl (Nat.le_of_ble_eq_true rfl) rfl))))) (RQ.ev rfl rfl (fun w hS => (ev_buildL (cs := [.int .i64 (ap), .int .i64 (ar), .int .i64 (xp.1 + xr.1), .int .i64 (v), .int .i64 (-1)]) Tryz.underlying98 zero98 (places := #[(0, 1), (1, 1), (2, 3)]) (by intro w; kernel_rfl) (pl := [(0, .tmp 84), (1, .tmp 88), (2, .tmp 95)]) rfl (ps := [(0, .int .i64 (ap)), (1, .int .i64 (ar)), (2, .agg #[.int .i64 (xp.1 + xr.1), .int .i64 (v), .int .i64 (-1)])]) rfl (zc := [.int .i64 (0), .int .i64 (0), .int .i64 (0), .int .i64 (0), .int .i64 (0)]) rfl (fill_step (vs := [.int .i64 (ap)]) rfl rfl (Nat.le_of_ble_eq_true rfl) (fill_step (vs := [.int .i64 (ar)]) rfl rfl (Nat.le_of_ble_eq_true rfl) (fill_step (vs := [.int .i64 (xp.1 + xr.1), .int .i64 (v), .int .i64 (-1)]) rfl rfl (Nat.le_of_ble_eq_true rfl) rfl))))) ?_)))))))
 refine RQ.do rfl rfl (opN_litM (cf := i5cells) (s := 5) (pl := [(0, .tmp 96)]) (ps := [(0, .agg #[.int .i64 (ap), .int .i64 (ar), .int .i64 (xp.1 + xr.1), .int .i64 (v), .int .i64 (-1)])]) (zc := [.int .i64 (0), .int .i64 (0), .int .i64 (0), .int .i64 (0), .int .i64 (0)]) (l := [(ap, ar, xp.1 + xr.1, v, -1)]) Tryz.underlying26 inf98 (by kernel_rfl) rfl rfl (fill_step (vs := [.int .i64 (ap), .int .i64 (ar), .int .i64 (xp.1 + xr.1), .int .i64 (v), .int .i64 (-1)]) rfl rfl (Nat.le_of_ble_eq_true rfl) rfl) i5cells_len rfl (by decide) (by decide) (by decide) hN ?_)
 clear hN
 intro g47 w47 (hN : Now w none_ w47 [_, _, _, _, _, _, _])
 refine ⟨(hN.sub [1, 2, 4, 5, 6] (by decide) rfl), ?_⟩
 refine RQ.do rfl rfl (opN_appendM Tryz.underlying26 inf98 rfl (by decide) i5cells_one i5cells_len hN 3 rfl rfl (hN.sm 0 rfl) rfl (by (try simp only [List.length_append, List.length_singleton, List.length_cons, List.length_nil]); omega) (by decide) ?_)
 clear hN
 intro v48 w48 (hN : Now w none_ w48 [_, _, _, _, _, _, _])
 refine ⟨(hN.sub [1, 2, 4, 5, 6] (by decide) rfl), ?_⟩
 refine RQ.ev (v := v48) rfl rfl (fun w hS => ev_assign) (RQ.done (by kernel_rfl) (blockN (thenN (RW.region (RL.ev (v := .int .i64 ((q : Int))) rfl rfl ev_move (RL.ev rfl rfl (ev_arith rfl rfl rfl (add64 (by omega) (by omega))) (RL.ev (v := .int .i64 ((q : Int) + 1)) rfl rfl ev_assign (RL.nil (thenN ?_)))))))))
 exact ⟨k2 - 1, by omega, v48, acc2 ++ [(ap, ar, xp.1 + xr.1, v, -1)], q + 1, rfl, rfl, rfl, rfl, rfl, rfl, rfl, rfl, (hN.sub [2, 3, 4, 5, 6] (by decide) rfl), by omega, fun s hs => (List.mem_append.1 hs).elim (hok2 s) fun h => by rw [List.mem_singleton] at h; subst h; exact ⟨⟨hg12_9, rfl, rfl⟩, _, _, hxp, hxr, rfl⟩, by (try simp only [List.length_append, List.length_singleton]); omega⟩
 refine RW.skip (blockN (thenN (RW.region (RL.ev (v := .int .i64 ((q : Int))) rfl rfl ev_move (RL.ev rfl rfl (ev_arith rfl rfl rfl (add64 (by omega) (by omega))) (RL.ev (v := .int .i64 ((q : Int) + 1)) rfl rfl ev_assign (RL.nil (thenN ?_))))))))
 exact ⟨k2 - 1, by omega, va2, acc2, q + 1, rfl, rfl, rfl, rfl, rfl, rfl, rfl, rfl, (hN.sub [1, 2, 3, 4, 5] (by decide) rfl), by omega, hok2, by omega⟩
 rw [decide_eq_false hg12_9]
 iterate 17 refine RQ.off rfl rfl rfl rfl ?_
 refine RQ.ev (v := .bool false) rfl rfl (fun w hS => (ev_pickF rfl)) (RQ.done (by kernel_rfl) (thenN (RW.condF rfl (RW.skip (blockN (thenN (RW.region (RL.ev (v := .int .i64 ((q : Int))) rfl rfl ev_move (RL.ev rfl rfl (ev_arith rfl rfl rfl (add64 (by omega) (by omega))) ?_)))))))))
 refine RL.ev (v := .int .i64 ((q : Int) + 1)) rfl rfl ev_assign (RL.nil (thenN ?_))
 exact ⟨k2 - 1, by omega, va2, acc2, q + 1, rfl, rfl, rfl, rfl, rfl, rfl, rfl, rfl, (hN.sub [1, 2, 3, 4, 5] (by decide) rfl), by omega, hok2, by omega⟩
 refine (opN_alloc (cs := [.int .i64 (0), .int .i64 (0), .int .i64 (0)]) zero96 rfl hN ?_)
 clear hN
 intro g49 w49 (hN : Now w none_ w49 [_, _, _, _, _, _])
 refine ⟨(hN.sub [1, 2, 3, 4, 5] (by decide) rfl), ?_⟩
 refine RQ.do rfl rfl (op_call3 Tryz.func137 rfl rfl rfl rfl rfl ((way_some n _ _ _ ins ls lost _ (hi.o.now hN) (hl.o.now hN) (ho.o.now hN) v ar xr hxr).mono ?_))
 rintro _ w50 ⟨rfl, he_⟩
 replace hN := hN.ext he_
 clear he_
 refine ⟨(hN.sub [1, 2, 3, 4, 5] (by decide) rfl), ?_⟩
 refine RQ.ev (v := .tuple #[.agg #[.int .i64 (xr.1), .int .i64 (xr.2.1), .int .i64 (xr.2.2)], .bool true]) rfl rfl (fun w hS => ev_move) ?_
 iterate 2 refine RQ.ev rfl rfl (fun w hS => (ev_extract rfl rfl)) ?_
 refine RQ.do rfl rfl (opN_storeAll (vs := [.int .i64 (xr.1), .int .i64 (xr.2.1), .int .i64 (xr.2.2)]) sz96 rfl rfl rfl (by intro u hu; simp only [List.mem_cons, List.not_mem_nil, or_false] at hu; rcases hu with rfl | rfl | rfl <;> first | rfl) hN 0 rfl rfl ?_)
 clear hN
 intro w51 (hN : Now w none_ w51 [_, _, _, _, _, _])
 refine ⟨(hN.sub [1, 2, 3, 4, 5] (by decide) rfl), ?_⟩
 refine RQ.ev (v := .bool true) rfl rfl (fun w hS => ev_assign) (RQ.done (by kernel_rfl) (thenN (RW.seq ?_)))
 replace hN := hN.ext (Ext.drew w51)
 refine RW.drawR rfl (fun u => Now w none_ u [.blk g49 [.int .i64 (xr.1), .int .i64 (xr.2.1), .int .i64 (xr.2.2)] 96, .blk g33 [.int .i64 (xp.1), .int .i64 (xp.2.1), .int .i64 (xp.2.2)] 96, .ownm i5cells 5 98 (va2) (acc2), .own vI 3 (v3) (outsOf ls v n), .own vI 3 (v2) (insOf ls v n), .blk g1 [.int .i64 ((n : Int)), iv, lv, ov] 194]) 28 [(0,0), (1,0), (2,0), (3,0), (4,0), (5,0), (6,0), (7,0), (8,0), (9,0), (10,0), (11,0), (12,0), (13,0), (14,0), (15,0), (16,0), (17,0), (18,0), (19,0), (20,0), (21,0), (22,0), (23,0), (24,0), (25,1), (26,0), (27,0)] (by intro _ _ _ h; exact h) (by kernel_rfl) hN (RQ.ev (v := v2) rfl rfl (fun w hS => ev_move) (RQ.ev (v := .int .i64 ((i : Int))) rfl rfl (fun w hS => ev_move) (RQ.ev rfl rfl (fun w hS => (ev_index Tryz.underlying25 sz3 (hS.sl 4 rfl) rfl rfl (by omega) (by omega))) (RQ.ev rfl rfl (fun w hS => (ev_loadG (m := i) (a := ap) Tryz.underlying3 rfl (hS.sl 4 rfl) rfl hap)) (RQ.ev (v := v3) rfl rfl (fun w hS => ev_move) (RQ.ev (v := .int .i64 ((q : Int))) rfl rfl (fun w hS => ev_move) (RQ.ev rfl rfl (fun w hS => (ev_index Tryz.underlying25 sz3 (hS.sl 3 rfl) rfl rfl (by omega) (by omega))) (RQ.ev rfl rfl (fun w hS => (ev_loadG (m := q) (a := ar) Tryz.underlying3 rfl (hS.sl 3 rfl) rfl har)) (RQ.ev rfl rfl (fun w hS => (ev_neq rfl rfl)) ?_)))))))))
 refine RQ.ev (v := .bool (decide (¬ ap = ar))) rfl rfl (fun w hS => ev_move) ?_
 by_cases hg12_9 : ¬ ap = ar
 rw [decide_eq_true hg12_9]
 refine RQ.on rfl rfl rfl rfl (fun w hS => (ev_loadAll (cs := [.int .i64 ((n : Int)), iv, lv, ov]) Tryz.underlying194 rfl sz194 rfl (hS.blk 5 rfl))) (RQ.on (v := v2) rfl rfl rfl rfl (fun w hS => ev_move) (RQ.on (v := .int .i64 ((i : Int))) rfl rfl rfl rfl (fun w hS => ev_move) (RQ.on rfl rfl rfl rfl (fun w hS => (ev_index Tryz.underlying25 sz3 (hS.sl 4 rfl) rfl rfl (by omega) (by omega))) (RQ.on rfl rfl rfl rfl (fun w hS => (ev_loadG (m := i) (a := ap) Tryz.underlying3 rfl (hS.sl 4 rfl) rfl hap)) (RQ.on (v := v3) rfl rfl rfl rfl (fun w hS => ev_move) (RQ.on (v := .int .i64 ((q : Int))) rfl rfl rfl rfl (fun w hS => ev_move) (RQ.on rfl rfl rfl rfl (fun w hS => (ev_index Tryz.underlying25 sz3 (hS.sl 3 rfl) rfl rfl (by omega) (by omega))) (RQ.on rfl rfl rfl rfl (fun w hS => (ev_loadG (m := q) (a := ar) Tryz.underlying3 rfl (hS.sl 3 rfl) rfl har)) (RQ.on (v := .int .i64 (v)) rfl rfl rfl rfl (fun w hS => ev_move) ?_)))))))))
 refine RQ.on rfl rfl rfl rfl (fun w hS => (ev_fieldAddr Tryz.underlying96 rfl sz3 (by decide) rfl)) (RQ.on rfl rfl rfl rfl (fun w hS => (ev_loadB Tryz.underlying3 rfl rfl (hS.blk 1 rfl) rfl)) (RQ.on rfl rfl rfl rfl (fun w hS => (ev_fieldAddr Tryz.underlying96 rfl sz3 (by decide) rfl)) (RQ.on rfl rfl rfl rfl (fun w hS => (ev_loadB Tryz.underlying3 rfl rfl (hS.blk 0 rfl) rfl)) (RQ.on rfl rfl rfl rfl (fun w hS => (ev_arith rfl rfl rfl (add64 (by omega) (by omega)))) ?_))))
 refine RQ.doOn rfl rfl rfl rfl (op_call5 Tryz.func185 rfl rfl rfl rfl rfl rfl rfl ((near_calls n _ _ _ ins ls lost _ (hi.o.now hN) (hl.o.now hN) (ho.o.now hN) ap ar v (xp.1 + xr.1) M hT hM hnM (by omega)).mono ?_))
 rintro _ w56 ⟨b56, rfl, he_⟩
 replace hN := hN.ext he_
 clear he_
 refine ⟨hN, ?_⟩
 refine RQ.on rfl rfl rfl rfl (fun w hS => (ev_notP rfl)) (RQ.ev (v := .bool (decide (¬ (b56 = true)))) rfl rfl (fun w hS => (ev_pickT rfl)) (RQ.done (by kernel_rfl) (thenN ?_)))
 refine RW.condP _ rfl (fun hc79 => ?_) (fun hc79 => ?_)
 replace hN := hN.ext (Ext.drew w56)
 refine RW.drawR rfl (fun u => Now w none_ u [.blk g49 [.int .i64 (xr.1), .int .i64 (xr.2.1), .int .i64 (xr.2.2)] 96, .blk g33 [.int .i64 (xp.1), .int .i64 (xp.2.1), .int .i64 (xp.2.2)] 96, .own vI 3 (v3) (outsOf ls v n), .own vI 3 (v2) (insOf ls v n), .blk g1 [.int .i64 ((n : Int)), iv, lv, ov] 194]) 20 [(0,0), (1,0), (2,0), (3,0), (4,0), (5,0), (6,0), (7,0), (8,0), (9,0), (10,0), (11,0), (12,0), (13,0), (14,0), (15,0), (16,0), (17,1), (18,1), (19,0)] (by intro _ _ _ h; exact h) (by kernel_rfl) (hN.sub [0, 1, 3, 4, 5] (by decide) rfl) (RQ.ev (v := va2) rfl rfl (fun w hS => ev_move) (RQ.ev (v := v2) rfl rfl (fun w hS => ev_move) (RQ.ev (v := .int .i64 ((i : Int))) rfl rfl (fun w hS => ev_move) (RQ.ev rfl rfl (fun w hS => (ev_index Tryz.underlying25 sz3 (hS.sl 3 rfl) rfl rfl (by omega) (by omega))) (RQ.ev rfl rfl (fun w hS => (ev_loadG (m := i) (a := ap) Tryz.underlying3 rfl (hS.sl 3 rfl) rfl hap)) (RQ.ev (v := v3) rfl rfl (fun w hS => ev_move) (RQ.ev (v := .int .i64 ((q : Int))) rfl rfl (fun w hS => ev_move) (RQ.ev rfl rfl (fun w hS => (ev_index Tryz.underlying25 sz3 (hS.sl 2 rfl) rfl rfl (by omega) (by omega))) (RQ.ev rfl rfl (fun w hS => (ev_loadG (m := q) (a := ar) Tryz.underlying3 rfl (hS.sl 2 rfl) rfl har)) ?_)))))))))
 refine RQ.ev rfl rfl (fun w hS => (ev_fieldAddr Tryz.underlying96 rfl sz3 (by decide) rfl)) (RQ.ev rfl rfl (fun w hS => (ev_loadB Tryz.underlying3 rfl rfl (hS.blk 1 rfl) rfl)) (RQ.ev rfl rfl (fun w hS => (ev_fieldAddr Tryz.underlying96 rfl sz3 (by decide) rfl)) (RQ.ev rfl rfl (fun w hS => (ev_loadB Tryz.underlying3 rfl rfl (hS.blk 0 rfl) rfl)) (RQ.ev rfl rfl (fun w hS => (ev_arith rfl rfl rfl (add64 (by omega) (by omega)))) (RQ.ev (v := .int .i64 (v)) rfl rfl (fun w hS => ev_move) (RQ.ev rfl rfl (fun w hS => (ev_buildL (cs := [.int .i64 (xp.1 + xr.1), .int .i64 (v), .int .i64 (-1)]) Tryz.underlying96 zero96 (places := #[(0, 1), (1, 1), (2, 1)]) (by intro w; kernel_rfl) (pl := [(0, .tmp 93), (1, .tmp 94), (2, .const (.int .i64 (-1)))]) rfl (ps := [(0, .int .i64 (xp.1 + xr.1)), (1, .int .i64 (v)), (2, .int .i64 (-1))]) rfl (zc := [.int .i64 (0), .int .i64 (0), .int .i64 (0)]) rfl (fill_step (vs := [.int .i64 (xp.1 + xr.1)]) rfl rfl (Nat.le_of_ble_eq_true rfl) (fill_step (vs := [.int .i64 (v)]) rfl rfl (Nat.le_of_ble_eq_true rfl) (fill_step (vs := [.int .i64 (-1)]) rfl rfl (Nat.le_of_ble_eq_true rfl) rfl))))) (RQ.ev rfl rfl (fun w hS => (ev_buildL (cs := [.int .i64 (ap), .int .i64 (ar), .int .i64 (xp.1 + xr.1), .int .i64 (v), .int .i64 (-1)]) Tryz.underlying98 zero98 (places := #[(0, 1), (1, 1), (2, 3)]) (by intro w; kernel_rfl) (pl := [(0, .tmp 84), (1, .tmp 88), (2, .tmp 95)]) rfl (ps := [(0, .int .i64 (ap)), (1, .int .i64 (ar)), (2, .agg #[.int .i64 (xp.1 + xr.1), .int .i64 (v), .int .i64 (-1)])]) rfl (zc := [.int .i64 (0), .int .i64 (0), .int .i64 (0), .int .i64 (0), .int .i64 (0)]) rfl (fill_step (vs := [.int .i64 (ap)]) rfl rfl (Nat.le_of_ble_eq_true rfl) (fill_step (vs := [.int .i64 (ar)]) rfl rfl (Nat.le_of_ble_eq_true rfl) (fill_step (vs := [.int .i64 (xp.1 + xr.1), .int .i64 (v), .int .i64 (-1)]) rfl rfl (Nat.le_of_ble_eq_true rfl) rfl))))) ?_)))))))
 refine RQ.do rfl rfl (opN_litM (cf := i5cells) (s := 5) (pl := [(0, .tmp 96)]) (ps := [(0, .agg #[.int .i64 (ap), .int .i64 (ar), .int .i64 (xp.1 + xr.1), .int .i64 (v), .int .i64 (-1)])]) (zc := [.int .i64 (0), .int .i64 (0), .int .i64 (0), .int .i64 (0), .int .i64 (0)]) (l := [(ap, ar, xp.1 + xr.1, v, -1)]) Tryz.underlying26 inf98 (by kernel_rfl) rfl rfl (fill_step (vs := [.int .i64 (ap), .int .i64 (ar), .int .i64 (xp.1 + xr.1), .int .i64 (v), .int .i64 (-1)]) rfl rfl (Nat.le_of_ble_eq_true rfl) rfl) i5cells_len rfl (by decide) (by decide) (by decide) hN ?_)
 clear hN
 intro g59 w59 (hN : Now w none_ w59 [_, _, _, _, _, _, _])
 refine ⟨(hN.sub [1, 2, 4, 5, 6] (by decide) rfl), ?_⟩
 refine RQ.do rfl rfl (opN_appendM Tryz.underlying26 inf98 rfl (by decide) i5cells_one i5cells_len hN 3 rfl rfl (hN.sm 0 rfl) rfl (by (try simp only [List.length_append, List.length_singleton, List.length_cons, List.length_nil]); omega) (by decide) ?_)
 clear hN
 intro v60 w60 (hN : Now w none_ w60 [_, _, _, _, _, _, _])
 refine ⟨(hN.sub [1, 2, 4, 5, 6] (by decide) rfl), ?_⟩
 refine RQ.ev (v := v60) rfl rfl (fun w hS => ev_assign) (RQ.done (by kernel_rfl) (blockN (thenN (RW.region (RL.ev (v := .int .i64 ((q : Int))) rfl rfl ev_move (RL.ev rfl rfl (ev_arith rfl rfl rfl (add64 (by omega) (by omega))) (RL.ev (v := .int .i64 ((q : Int) + 1)) rfl rfl ev_assign (RL.nil (thenN ?_)))))))))
 exact ⟨k2 - 1, by omega, v60, acc2 ++ [(ap, ar, xp.1 + xr.1, v, -1)], q + 1, rfl, rfl, rfl, rfl, rfl, rfl, rfl, rfl, (hN.sub [2, 3, 4, 5, 6] (by decide) rfl), by omega, fun s hs => (List.mem_append.1 hs).elim (hok2 s) fun h => by rw [List.mem_singleton] at h; subst h; exact ⟨⟨hg12_9, rfl, rfl⟩, _, _, hxp, hxr, rfl⟩, by (try simp only [List.length_append, List.length_singleton]); omega⟩
 refine RW.skip (blockN (thenN (RW.region (RL.ev (v := .int .i64 ((q : Int))) rfl rfl ev_move (RL.ev rfl rfl (ev_arith rfl rfl rfl (add64 (by omega) (by omega))) (RL.ev (v := .int .i64 ((q : Int) + 1)) rfl rfl ev_assign (RL.nil (thenN ?_))))))))
 exact ⟨k2 - 1, by omega, va2, acc2, q + 1, rfl, rfl, rfl, rfl, rfl, rfl, rfl, rfl, (hN.sub [1, 2, 3, 4, 5] (by decide) rfl), by omega, hok2, by omega⟩
 rw [decide_eq_false hg12_9]
 iterate 17 refine RQ.off rfl rfl rfl rfl ?_
 refine RQ.ev (v := .bool false) rfl rfl (fun w hS => (ev_pickF rfl)) (RQ.done (by kernel_rfl) (thenN (RW.condF rfl (RW.skip (blockN (thenN (RW.region (RL.ev (v := .int .i64 ((q : Int))) rfl rfl ev_move (RL.ev rfl rfl (ev_arith rfl rfl rfl (add64 (by omega) (by omega))) ?_)))))))))
 refine RL.ev (v := .int .i64 ((q : Int) + 1)) rfl rfl ev_assign (RL.nil (thenN ?_))
 exact ⟨k2 - 1, by omega, va2, acc2, q + 1, rfl, rfl, rfl, rfl, rfl, rfl, rfl, rfl, (hN.sub [1, 2, 3, 4, 5] (by decide) rfl), by omega, hok2, by omega⟩
 refine RW.exit ?_
 iterate 2 refine thenX ?_
 refine blockHit (blockN (thenN (RW.region (RL.ev (v := .int .i64 ((i : Int))) rfl rfl ev_move (RL.ev rfl rfl (ev_arith rfl rfl rfl (add64 (by omega) (by omega))) (RL.ev (v := .int .i64 ((i : Int) + 1)) rfl rfl ev_assign (RL.nil (thenN ?_))))))))
 exact ⟨k - 1, by omega, va2, acc2, i + 1, rfl, rfl, rfl, rfl, rfl, rfl, (hN.sub [1, 2, 3, 4] (by decide) rfl), by omega, hok2, by omega⟩
 refine RW.exit ?_
 iterate 2 refine thenX ?_
 refine blockHit (thenN (RW.seq (RW.region (RL.ev (v := va) rfl rfl ev_move (RL.ev (v := va) rfl rfl ev_assign (RL.nil (thenN (RW.ret (retI (RV.tmp rfl) ?_)))))))))
 exact ⟨acc, hN.ownmOut 0 rfl, hok, by omega, hN.ext0⟩
end Go.Proofs.YtngkdkbpgoddlaaGreat
set_option linter.unusedVariables false
set_option linter.unusedSimpArgs false
namespace Go.Proofs.YtngkdkbpgoddlaaGreat
open Go.RowKit Go.Rl
open Go.Gr
set_option maxHeartbeats 4000000 in
set_option maxRecDepth 100000 in
theorem build_calls (n : Nat) (v : Value) (l : List I3) (kv : Value) (ks : List Int) (w : World) (hv : Sm i3cells w v l) (hk : Sl vI w kv ks) (hlen : ks.length = l.length) (hl : l.length ≤ 40) (hn : n ≤ 12) (hla : ∀ a ∈ l, okA n a) (hks : ks = kept l) : Gives Tryz.prog 60 #[.agg #[.int .i64 (n : Int), v, kv]] w fun r w' => ∃ rv wv rk ways ins ls, r = .agg #[rv, wv] ∧ Now w none_ w' [.own vI 3 rv rk, .ownm i5cells 5 98 wv ways] ∧ BOk n l n rk ways ins ls := by
 refine Gives.start Tryz.func60 rfl (Nat.le_of_ble_eq_true rfl) ?_
 rw [args1]
 have hN := Now.nil w none_
 refine RW.seq (RW.region ?_)
 refine RL.op rfl rfl (opN_box (cs := [.int .i64 ((n : Int)), v, kv]) rfl rfl hN ?_)
 clear hN
 intro g1 w1 (hN : Now w none_ w1 [_])
 refine RL.op rfl rfl (opN_alloc (cs := [.slice none 0 0, .slice none 0 0]) zero28 rfl hN ?_)
 clear hN
 intro g2 w2 (hN : Now w none_ w2 [_, _])
 refine RL.nil (thenN (RW.seq (RW.region (RL.ev rfl rfl (ev_loadAll (cs := [.int .i64 ((n : Int)), v, kv]) Tryz.underlying111 rfl sz111 rfl (hN.blk 1 rfl)) ?_))))
 refine RL.op rfl rfl (op_call1 Tryz.func132 rfl rfl rfl ((tnew_calls n _ l _ ks _ (hv.o.now hN) (hk.o.now hN) hlen hl hn).mono ?_))
 rintro _ w3 ⟨iv, lv, ov, ls, lost, rfl, h1_, h2_, h3_, hpm, hlo, hls, he_⟩
 have hSi := Own.sloF h1_ (F := foots [.blk g2 [.slice none 0 0, .slice none 0 0] 28, .blk g1 [.int .i64 ((n : Int)), v, kv] 111]) (fun k hk => hN.feetLt hk)
 have hSl := OwnM.smoF h2_ (F := foots [.blk g2 [.slice none 0 0, .slice none 0 0] 28, .blk g1 [.int .i64 ((n : Int)), v, kv] 111]) (fun k hk => hN.feetLt hk)
 have hSo := Own.sloF h3_ (F := foots [.blk g2 [.slice none 0 0, .slice none 0 0] 28, .blk g1 [.int .i64 ((n : Int)), v, kv] 111]) (fun k hk => hN.feetLt hk)
 replace hN := hN.ext he_
 clear h1_ h2_ h3_ he_
 have hF4 := hN
 clear hN
 have hN := hF4.here
 replace hN : Now w3 (foots [.blk g2 [.slice none 0 0, .slice none 0 0] 28, .blk g1 [.int .i64 ((n : Int)), v, kv] 111]) w3 [.blk g2 [.slice none 0 0, .slice none 0 0] 28, .blk g1 [.int .i64 ((n : Int)), v, kv] 111] := hN
 refine RL.op rfl rfl (opN_alloc (cs := [.int .i64 (0), .slice none 0 0, .slice none 0 0, .slice none 0 0]) zero194 rfl hN ?_)
 clear hN
 intro g5 w5 (hN : Now w3 (foots [.blk g2 [.slice none 0 0, .slice none 0 0] 28, .blk g1 [.int .i64 ((n : Int)), v, kv] 111]) w5 [_, _, _])
 refine RL.op rfl rfl (opN_storeAll (vs := [.int .i64 ((n : Int)), iv, lv, ov]) sz194 rfl rfl rfl (by intro u hu; simp only [List.mem_cons, List.not_mem_nil, or_false] at hu; rcases hu with rfl | rfl | rfl | rfl <;> first | rfl | exact (hSi.now hN).one1 | exact (hSl.now hN).one1 | exact (hSo.now hN).one1) hN 0 rfl rfl ?_)
 clear hN
 intro w6 (hN : Now w3 (foots [.blk g2 [.slice none 0 0, .slice none 0 0] 28, .blk g1 [.int .i64 ((n : Int)), v, kv] 111]) w6 [_, _, _])
 refine RL.nil (thenN (RW.seq (RW.region (RL.ev rfl rfl (ev_buildL (cs := [.slice none 0 0, .slice none 0 0]) Tryz.underlying28 zero28 (places := #[(0, 1), (1, 1)]) (by intro w; kernel_rfl) (pl := []) rfl (ps := []) rfl (zc := [.slice none 0 0, .slice none 0 0]) rfl rfl) ?_))))
 refine RL.op rfl rfl (opN_alloc (cs := [.slice none 0 0, .slice none 0 0]) zero28 rfl hN ?_)
 clear hN
 intro g7 w7 (hN : Now w3 (foots [.blk g2 [.slice none 0 0, .slice none 0 0] 28, .blk g1 [.int .i64 ((n : Int)), v, kv] 111]) w7 [_, _, _, _])
 refine RL.op rfl rfl (opN_storeAll (vs := [.slice none 0 0, .slice none 0 0]) sz28 rfl rfl rfl (by intro u hu; simp only [List.mem_cons, List.not_mem_nil, or_false] at hu; rcases hu with rfl | rfl <;> first | rfl) hN 0 rfl rfl ?_)
 clear hN
 intro w8 (hN : Now w3 (foots [.blk g2 [.slice none 0 0, .slice none 0 0] 28, .blk g1 [.int .i64 ((n : Int)), v, kv] 111]) w8 [_, _, _, _])
 refine RL.nil (thenN ?_)
 iterate 2 refine RW.seq ?_
 replace hN := hN.addNilM i5cells 5 98
 replace hN := hN.addNil vI 3
 replace hN : Now w3 (foots [.blk g2 [.slice none 0 0, .slice none 0 0] 28, .blk g1 [.int .i64 ((n : Int)), v, kv] 111]) w8 [.own vI 3 (.slice none 0 0) ([]), .ownm i5cells 5 98 (.slice none 0 0) ([]), .blk g7 [.slice none 0 0, .slice none 0 0] 28, .blk g5 [.int .i64 ((n : Int)), iv, lv, ov] 194, .blk g2 [.slice none 0 0, .slice none 0 0] 28, .blk g1 [.int .i64 ((n : Int)), v, kv] 111] := hN
 refine RW.region (RL.ev (v := .int .i64 (0)) rfl rfl ev_assign (RL.nil (thenN (RW.block ?_))))
 refine RW.loop (fun k R0 w0' => ∃ v0 : Value, ∃ a0 : List Int, ∃ i : Nat, R0 1 = .pointer (some ⟨g1, 0, none⟩) ∧ R0 2 = .pointer (some ⟨g2, 0, none⟩) ∧ R0 3 = .pointer (some ⟨g5, 0, none⟩) ∧ R0 4 = .pointer (some ⟨g7, 0, none⟩) ∧ R0 5 = .int .i64 ((i : Int)) ∧ Now w3 (foots [.blk g2 [.slice none 0 0, .slice none 0 0] 28, .blk g1 [.int .i64 ((n : Int)), v, kv] 111]) w0' [.own vI 3 (v0) (a0), .ownm i5cells 5 98 (.slice none 0 0) ([]), .blk g7 [v0, .slice none 0 0] 28, .blk g5 [.int .i64 ((n : Int)), iv, lv, ov] 194, .blk g2 [.slice none 0 0, .slice none 0 0] 28, .blk g1 [.int .i64 ((n : Int)), v, kv] 111] ∧ (i + k = n) ∧ (a0 = List.replicate i 0) ∧ (a0.length = i)) (n) ?_ ?_
 exact ⟨.slice none 0 0, [], 0, rfl, rfl, rfl, rfl, rfl, hN, by omega, rfl, rfl⟩
 clear hN
 rintro k R0 w0' ⟨v0, a0, i, hr1_, hr2_, hr3_, hr4_, hr5_, hN, hik, h0, h0l⟩
 have hR_ : ∃ R0_, R0 = (upd (upd (upd (upd (upd R0_ 1 _) 2 _) 3 _) 4 _) 5 _) := ⟨R0, by rw [upd_self hr1_, upd_self hr2_, upd_self hr3_, upd_self hr4_, upd_self hr5_]⟩
 obtain ⟨R0_, rfl⟩ := hR_
 clear hr1_ hr2_ hr3_ hr4_ hr5_
 iterate 2 refine RW.seq ?_
 refine RW.region (RL.ev (v := .int .i64 ((i : Int))) rfl rfl ev_move (RL.ev rfl rfl (ev_fieldAddr Tryz.underlying111 rfl sz24 (by decide) rfl) (RL.ev rfl rfl (ev_fieldAddr Tryz.underlying24 rfl sz3 (by decide) rfl) (RL.ev rfl rfl (ev_loadB Tryz.underlying3 rfl rfl (hN.blk 5 rfl) rfl) (RL.ev rfl rfl (ev_lss rfl rfl) (RL.nil (thenN ?_)))))))
 refine RW.condP _ rfl (fun hlt => ?_) (fun hlt => ?_)
 refine RW.skip (thenN (RW.seq (RW.block (RW.region (RL.ev rfl rfl (ev_fieldAddr Tryz.underlying28 rfl sz25 (by decide) rfl) (RL.ev rfl rfl (ev_loadB Tryz.underlying25 rfl rfl (hN.blk 2 rfl) rfl) ?_))))))
 refine RL.op rfl rfl (opN_lit (enc := vI) (l := [0]) (xs := [.const (.int .i64 (0))]) Tryz.underlying25 sz3 zr3 rfl rfl (fun _ => rfl) rfl (by decide) (by decide) hN ?_)
 clear hN
 intro g9 w9 (hN : Now w3 (foots [.blk g2 [.slice none 0 0, .slice none 0 0] 28, .blk g1 [.int .i64 ((n : Int)), v, kv] 111]) w9 [_, _, _, _, _, _, _])
 refine RL.op rfl rfl (opN_append Tryz.underlying25 inf3 rfl (fun _ => rfl) hN 1 rfl rfl (hN.sl 0 rfl) rfl (by rw [h0l]; simp only [List.length_singleton, List.length_cons, List.length_nil]; omega) (by decide) ?_)
 clear hN
 intro v10 w10 (hN : Now w3 (foots [.blk g2 [.slice none 0 0, .slice none 0 0] 28, .blk g1 [.int .i64 ((n : Int)), v, kv] 111]) w10 [_, _, _, _, _, _, _])
 refine RL.ev rfl rfl (ev_fieldAddr Tryz.underlying28 rfl sz25 (by decide) rfl) ?_
 refine RL.op rfl rfl (opN_store sz25 rfl rfl (hN.sl 1 rfl).cells1 (hN.sl 1 rfl).one1 hN 3 rfl (Nat.le_of_ble_eq_true rfl) ?_)
 clear hN
 intro w11 (hN : Now w3 (foots [.blk g2 [.slice none 0 0, .slice none 0 0] 28, .blk g1 [.int .i64 ((n : Int)), v, kv] 111]) w11 [_, _, _, _, _, _, _])
 refine RL.nil (blockN (thenN (RW.region (RL.ev (v := .int .i64 ((i : Int))) rfl rfl ev_move (RL.ev rfl rfl (ev_arith rfl rfl rfl (add64 (by omega) (by omega))) (RL.ev (v := .int .i64 ((i : Int) + 1)) rfl rfl ev_assign (RL.nil (thenN ?_))))))))
 exact ⟨k - 1, by omega, v10, a0 ++ [0], i + 1, rfl, rfl, rfl, rfl, rfl, (hN.sub [1, 2, 3, 4, 5, 6] (by decide) rfl), by omega, by rw [List.replicate_succ', h0], by rw [List.length_append, h0l]; rfl⟩
 refine RW.exit ?_
 iterate 2 refine thenX ?_
 refine blockHit (thenN ?_)
 iterate 2 refine RW.seq ?_
 refine RW.region (RL.ev (v := .int .i64 (0)) rfl rfl ev_assign (RL.nil (thenN (RW.block ?_))))
 refine RW.loop (fun k1 R1 w1' => ∃ vr : Value, ∃ rk : List Int, ∃ vw : Value, ∃ ways : List I5, ∃ iv2 : Value, ∃ ins2 : List Int, ∃ lv2 : Value, ∃ ls2 : List I5, ∃ ov2 : Value, ∃ lost2 : List Int, ∃ r : Nat, R1 1 = .pointer (some ⟨g1, 0, none⟩) ∧ R1 2 = .pointer (some ⟨g2, 0, none⟩) ∧ R1 3 = .pointer (some ⟨g5, 0, none⟩) ∧ R1 4 = .pointer (some ⟨g7, 0, none⟩) ∧ R1 6 = .int .i64 ((r : Int)) ∧ Now w3 (foots [.blk g2 [.slice none 0 0, .slice none 0 0] 28, .blk g1 [.int .i64 ((n : Int)), v, kv] 111]) w1' [.own vI 3 (vr) (rk), .ownm i5cells 5 98 (vw) (ways), .blk g7 [vr, vw] 28, .blk g5 [.int .i64 ((n : Int)), iv2, lv2, ov2] 194, .blk g2 [.slice none 0 0, .slice none 0 0] 28, .blk g1 [.int .i64 ((n : Int)), v, kv] 111] ∧ (r + k1 = n) ∧ (BOk n l r rk ways ins2 ls2) ∧ (lost2.length = n) ∧ (ls2.length ≤ 480 + 144 * r) ∧ (SlO (foots [.own vI 3 (vr) (rk), .ownm i5cells 5 98 (vw) (ways), .blk g7 [vr, vw] 28, .blk g5 [.int .i64 ((n : Int)), iv2, lv2, ov2] 194, .blk g2 [.slice none 0 0, .slice none 0 0] 28, .blk g1 [.int .i64 ((n : Int)), v, kv] 111]) vI w1' iv2 ins2) ∧ (SmO (foots [.own vI 3 (vr) (rk), .ownm i5cells 5 98 (vw) (ways), .blk g7 [vr, vw] 28, .blk g5 [.int .i64 ((n : Int)), iv2, lv2, ov2] 194, .blk g2 [.slice none 0 0, .slice none 0 0] 28, .blk g1 [.int .i64 ((n : Int)), v, kv] 111]) i5cells w1' lv2 ls2) ∧ (SlO (foots [.own vI 3 (vr) (rk), .ownm i5cells 5 98 (vw) (ways), .blk g7 [vr, vw] 28, .blk g5 [.int .i64 ((n : Int)), iv2, lv2, ov2] 194, .blk g2 [.slice none 0 0, .slice none 0 0] 28, .blk g1 [.int .i64 ((n : Int)), v, kv] 111]) vI w1' ov2 lost2)) (n) ?_ ?_
 exact ⟨v0, a0, .slice none 0 0, [], iv, (List.replicate n 1), lv, ls, ov, lost, 0, rfl, rfl, rfl, rfl, rfl, hN, by omega, BOk.start hla hks hpm (by rw [h0, show i = n by omega]), hlo, by omega, hSi.step hN, SmO.step i5cells_ne hSl hN, hSo.step hN⟩
 clear hN
 rintro k1 R1 w1' ⟨vr, rk, vw, ways, iv2, ins2, lv2, ls2, ov2, lost2, r, hr1_, hr2_, hr3_, hr4_, hr6_, hN, hrk, hB, hlo2, hl2, hGi, hGl, hGo⟩
 have hR_ : ∃ R1_, R1 = (upd (upd (upd (upd (upd R1_ 1 _) 2 _) 3 _) 4 _) 6 _) := ⟨R1, by rw [upd_self hr1_, upd_self hr2_, upd_self hr3_, upd_self hr4_, upd_self hr6_]⟩
 obtain ⟨R1_, rfl⟩ := hR_
 clear hr1_ hr2_ hr3_ hr4_ hr6_
 have hF12 := hN
 clear hN
 have hN := hF12.here
 replace hN : Now w1' (foots [.own vI 3 (vr) (rk), .ownm i5cells 5 98 (vw) (ways), .blk g7 [vr, vw] 28, .blk g5 [.int .i64 ((n : Int)), iv2, lv2, ov2] 194, .blk g2 [.slice none 0 0, .slice none 0 0] 28, .blk g1 [.int .i64 ((n : Int)), v, kv] 111]) w1' [.own vI 3 (vr) (rk), .ownm i5cells 5 98 (vw) (ways), .blk g7 [vr, vw] 28, .blk g5 [.int .i64 ((n : Int)), iv2, lv2, ov2] 194, .blk g2 [.slice none 0 0, .slice none 0 0] 28, .blk g1 [.int .i64 ((n : Int)), v, kv] 111] := hN
 iterate 2 refine RW.seq ?_
 refine RW.region (RL.ev (v := .int .i64 ((r : Int))) rfl rfl ev_move (RL.ev rfl rfl (ev_fieldAddr Tryz.underlying111 rfl sz24 (by decide) rfl) (RL.ev rfl rfl (ev_fieldAddr Tryz.underlying24 rfl sz3 (by decide) rfl) (RL.ev rfl rfl (ev_loadB Tryz.underlying3 rfl rfl (hN.blk 5 rfl) rfl) (RL.ev rfl rfl (ev_lss rfl rfl) (RL.nil (thenN ?_)))))))
 refine RW.condP _ rfl (fun hlt1 => ?_) (fun hlt1 => ?_)
 refine RW.skip (thenN (RW.seq (RW.block (RW.seq (RW.region (RL.ev rfl rfl (ev_loadAll (cs := [.int .i64 ((n : Int)), iv2, lv2, ov2]) Tryz.underlying194 rfl sz194 rfl (hN.blk 3 rfl)) ?_))))))
 refine RL.op rfl rfl (op_call1 Tryz.func133 rfl rfl rfl ((next_calls n _ _ _ ins2 ls2 lost2 _ (hGi.now hN) (hGl.now hN) (hGo.now hN) hB.tok.ins hlo2 (by omega)).mono ?_))
 rintro _ w13 ⟨z13, rfl, hz13, he_⟩
 replace hN := hN.ext he_
 clear he_
 have hin := hz13 (hB.left (by omega))
 have hin0 := hin.1
 have hin1 := hin.2.1
 refine RL.ev (v := .int .i64 (z13)) rfl rfl ev_assign (RL.nil (thenN (RW.seq ?_)))
 have hrl := hB.rank
 refine RW.region (RL.ev rfl rfl (ev_fieldAddr Tryz.underlying28 rfl sz25 (by decide) rfl) (RL.ev rfl rfl (ev_loadB Tryz.underlying25 rfl rfl (hN.blk 2 rfl) rfl) (RL.ev (v := .int .i64 (z13)) rfl rfl ev_move (RL.ev (v := .int .i64 ((r : Int))) rfl rfl ev_move (RL.ev rfl rfl (ev_index Tryz.underlying25 sz3 (hN.sl 0 rfl) rfl rfl (by omega) (by omega)) ?_)))))
 refine RL.op rfl rfl (opN_storeOwn (m := (z13).toNat) (a := (r : Int)) sz3 hN 0 rfl rfl (by omega) rfl rfl rfl rfl ?_)
 clear hN
 intro w14 (hN : Now w1' (foots [.own vI 3 (vr) (rk), .ownm i5cells 5 98 (vw) (ways), .blk g7 [vr, vw] 28, .blk g5 [.int .i64 ((n : Int)), iv2, lv2, ov2] 194, .blk g2 [.slice none 0 0, .slice none 0 0] 28, .blk g1 [.int .i64 ((n : Int)), v, kv] 111]) w14 [_, _, _, _, _, _])
 refine RL.nil (thenN (RW.seq (RW.region (RL.ev rfl rfl (ev_loadAll (cs := [.int .i64 ((n : Int)), iv2, lv2, ov2]) Tryz.underlying194 rfl sz194 rfl (hN.blk 3 rfl)) (RL.ev (v := .int .i64 (z13)) rfl rfl ev_move ?_)))))
 refine RL.op rfl rfl (op_call2 Tryz.func134 rfl rfl rfl rfl ((needed_calls n _ _ _ ins2 ls2 lost2 _ (hGi.now hN) (hGl.now hN) (hGo.now hN) z13 (wmax r) hB.tok (wmax_pos r) (wmax_mul (by omega) hn) (Int.le_trans (wmax_le (by omega)) (by decide)) hn).mono ?_))
 rintro v15 w15 ⟨out, ho_, hno, hol, he_⟩
 replace hN : Now w1' (foots [.own vI 3 (vr) (rk), .ownm i5cells 5 98 (vw) (ways), .blk g7 [vr, vw] 28, .blk g5 [.int .i64 ((n : Int)), iv2, lv2, ov2] 194, .blk g2 [.slice none 0 0, .slice none 0 0] 28, .blk g1 [.int .i64 ((n : Int)), v, kv] 111]) w15 [_, _, _, _, _, _, _] := hN.pushOwnM ho_ he_
 clear ho_ he_
 refine RL.ev (v := v15) rfl rfl ev_assign (RL.nil (thenN ?_))
 iterate 2 refine RW.seq ?_
 refine RW.region (RL.ev (v := .int .i64 (0)) rfl rfl ev_assign (RL.nil (thenN (RW.block ?_))))
 refine RW.loop (fun k2 R2 w2' => ∃ lv3 : Value, ∃ q : Nat, R2 1 = .pointer (some ⟨g1, 0, none⟩) ∧ R2 2 = .pointer (some ⟨g2, 0, none⟩) ∧ R2 3 = .pointer (some ⟨g5, 0, none⟩) ∧ R2 4 = .pointer (some ⟨g7, 0, none⟩) ∧ R2 6 = .int .i64 ((r : Int)) ∧ R2 7 = .int .i64 (z13) ∧ R2 8 = v15 ∧ R2 9 = .int .i64 ((q : Int)) ∧ Now w1' (foots [.own vI 3 (vr) (rk), .ownm i5cells 5 98 (vw) (ways), .blk g7 [vr, vw] 28, .blk g5 [.int .i64 ((n : Int)), iv2, lv2, ov2] 194, .blk g2 [.slice none 0 0, .slice none 0 0] 28, .blk g1 [.int .i64 ((n : Int)), v, kv] 111]) w2' [.ownm i5cells 5 98 (v15) (out), .own vI 3 (vr) ((rk).set (z13).toNat ((r : Int))), .ownm i5cells 5 98 (vw) (ways), .blk g7 [vr, vw] 28, .blk g5 [.int .i64 ((n : Int)), iv2, lv3, ov2] 194, .blk g2 [.slice none 0 0, .slice none 0 0] 28, .blk g1 [.int .i64 ((n : Int)), v, kv] 111] ∧ (q + k2 = out.length) ∧ ((putAll n ins2 ls2 (out.take q)).length ≤ ls2.length + q) ∧ (SmO (foots [.ownm i5cells 5 98 (v15) (out), .own vI 3 (vr) ((rk).set (z13).toNat ((r : Int))), .ownm i5cells 5 98 (vw) (ways), .blk g7 [vr, vw] 28, .blk g5 [.int .i64 ((n : Int)), iv2, lv3, ov2] 194, .blk g2 [.slice none 0 0, .slice none 0 0] 28, .blk g1 [.int .i64 ((n : Int)), v, kv] 111]) i5cells w2' lv3 (putAll n ins2 ls2 (out.take q)))) (out.length) ?_ ?_
 exact ⟨lv2, 0, rfl, rfl, rfl, rfl, rfl, rfl, rfl, rfl, hN, by omega, Nat.le_refl _, (SmO.step i5cells_ne hGl hN)⟩
 clear hN
 rintro k2 R2 w2' ⟨lv3, q, hr1_, hr2_, hr3_, hr4_, hr6_, hr7_, hr8_, hr9_, hN, hqk, hl3, hGl3⟩
 have hR_ : ∃ R2_, R2 = (upd (upd (upd (upd (upd (upd (upd (upd R2_ 1 _) 2 _) 3 _) 4 _) 6 _) 7 _) 8 _) 9 _) := ⟨R2, by rw [upd_self hr1_, upd_self hr2_, upd_self hr3_, upd_self hr4_, upd_self hr6_, upd_self hr7_, upd_self hr8_, upd_self hr9_]⟩
 obtain ⟨R2_, rfl⟩ := hR_
 clear hr1_ hr2_ hr3_ hr4_ hr6_ hr7_ hr8_ hr9_
 have hF16 := hN
 clear hN
 have hN := hF16.here
 replace hN : Now w2' (foots [.ownm i5cells 5 98 (v15) (out), .own vI 3 (vr) ((rk).set (z13).toNat ((r : Int))), .ownm i5cells 5 98 (vw) (ways), .blk g7 [vr, vw] 28, .blk g5 [.int .i64 ((n : Int)), iv2, lv3, ov2] 194, .blk g2 [.slice none 0 0, .slice none 0 0] 28, .blk g1 [.int .i64 ((n : Int)), v, kv] 111]) w2' [.ownm i5cells 5 98 (v15) (out), .own vI 3 (vr) ((rk).set (z13).toNat ((r : Int))), .ownm i5cells 5 98 (vw) (ways), .blk g7 [vr, vw] 28, .blk g5 [.int .i64 ((n : Int)), iv2, lv3, ov2] 194, .blk g2 [.slice none 0 0, .slice none 0 0] 28, .blk g1 [.int .i64 ((n : Int)), v, kv] 111] := hN
 iterate 2 refine RW.seq ?_
 refine RW.region (RL.ev (v := .int .i64 ((q : Int))) rfl rfl ev_move (RL.ev (v := v15) rfl rfl ev_move ?_))
 have hL_17 := (hN.sm 0 rfl).len_le
 refine RL.ev rfl rfl (ev_lenM Tryz.underlying26 (hN.sm 0 rfl) rfl) (RL.ev rfl rfl (ev_lss rfl rfl) (RL.nil (thenN ?_)))
 refine RW.condP _ rfl (fun hlt2 => ?_) (fun hlt2 => ?_)
 refine RW.skip (thenN (RW.seq (RW.block (RW.seq ?_))))
 replace hN := hN.ext (Ext.drew w2')
 refine RW.drawR rfl (fun u => Now w2' (foots [.ownm i5cells 5 98 (v15) (out), .own vI 3 (vr) ((rk).set (z13).toNat ((r : Int))), .ownm i5cells 5 98 (vw) (ways), .blk g7 [vr, vw] 28, .blk g5 [.int .i64 ((n : Int)), iv2, lv3, ov2] 194, .blk g2 [.slice none 0 0, .slice none 0 0] 28, .blk g1 [.int .i64 ((n : Int)), v, kv] 111]) u [.ownm i5cells 5 98 (v15) (out), .own vI 3 (vr) ((rk).set (z13).toNat ((r : Int))), .ownm i5cells 5 98 (vw) (ways), .blk g7 [vr, vw] 28, .blk g5 [.int .i64 ((n : Int)), iv2, lv3, ov2] 194, .blk g2 [.slice none 0 0, .slice none 0 0] 28, .blk g1 [.int .i64 ((n : Int)), v, kv] 111]) 30 [(0,0), (1,0), (2,0), (3,0), (4,0), (5,0), (6,0), (7,0), (8,0), (9,0), (10,0), (11,0), (12,0), (13,0), (14,0), (15,0), (16,0), (17,0), (18,0), (19,0), (20,0), (21,0), (22,0)] (by intro _ _ _ h; exact h) (by kernel_rfl) hN (RQ.ev rfl rfl (fun w hS => (ev_loadAll (cs := [.int .i64 ((n : Int)), iv2, lv3, ov2]) Tryz.underlying194 rfl sz194 rfl (hS.blk 4 rfl))) (RQ.ev (v := v15) rfl rfl (fun w hS => ev_move) (RQ.ev (v := .int .i64 ((q : Int))) rfl rfl (fun w hS => ev_move) (RQ.ev rfl rfl (fun w hS => (ev_indexM Tryz.underlying26 sz98 i5cells_len (by decide) (hS.sm 0 rfl) rfl rfl (by omega) (by omega))) ?_))))
 have hOb_ : ∃ a_, (out)[q]? = some a_ := ⟨_, List.getElem?_eq_getElem (by omega)⟩
 obtain ⟨ap, hap⟩ := hOb_
 refine RQ.ev rfl rfl (fun w hS => (ev_fieldM (m := q) (b := 0) Tryz.underlying98 rfl sz3 (by decide) i5cells_len (hS.sm 0 rfl) hap rfl rfl)) (RQ.ev rfl rfl (fun w hS => (ev_loadMF (m := q) (j := 0) (a := ap) Tryz.underlying3 rfl i5cells_len (hS.sm 0 rfl) rfl hap rfl)) (RQ.ev (v := v15) rfl rfl (fun w hS => ev_move) (RQ.ev (v := .int .i64 ((q : Int))) rfl rfl (fun w hS => ev_move) (RQ.ev rfl rfl (fun w hS => (ev_indexM Tryz.underlying26 sz98 i5cells_len (by decide) (hS.sm 0 rfl) rfl rfl (by omega) (by omega))) (RQ.ev rfl rfl (fun w hS => (ev_fieldM (m := q) (b := 0) Tryz.underlying98 rfl sz3 (by decide) i5cells_len (hS.sm 0 rfl) hap rfl rfl)) (RQ.ev rfl rfl (fun w hS => (ev_loadMF (m := q) (j := 1) (a := ap) Tryz.underlying3 rfl i5cells_len (hS.sm 0 rfl) rfl hap rfl)) (RQ.ev (v := v15) rfl rfl (fun w hS => ev_move) (RQ.ev (v := .int .i64 ((q : Int))) rfl rfl (fun w hS => ev_move) (RQ.ev rfl rfl (fun w hS => (ev_indexM Tryz.underlying26 sz98 i5cells_len (by decide) (hS.sm 0 rfl) rfl rfl (by omega) (by omega))) ?_)))))))))
 refine RQ.ev rfl rfl (fun w hS => (ev_fieldM (m := q) (b := 0) Tryz.underlying98 rfl sz96 (by decide) i5cells_len (hS.sm 0 rfl) hap rfl rfl)) (RQ.ev rfl rfl (fun w hS => (ev_fieldM (m := q) (b := 2) Tryz.underlying96 rfl sz3 (by decide) i5cells_len (hS.sm 0 rfl) hap rfl rfl)) (RQ.ev rfl rfl (fun w hS => (ev_loadMF (m := q) (j := 2) (a := ap) Tryz.underlying3 rfl i5cells_len (hS.sm 0 rfl) rfl hap rfl)) (RQ.ev (v := v15) rfl rfl (fun w hS => ev_move) (RQ.ev (v := .int .i64 ((q : Int))) rfl rfl (fun w hS => ev_move) (RQ.ev rfl rfl (fun w hS => (ev_indexM Tryz.underlying26 sz98 i5cells_len (by decide) (hS.sm 0 rfl) rfl rfl (by omega) (by omega))) (RQ.ev rfl rfl (fun w hS => (ev_fieldM (m := q) (b := 0) Tryz.underlying98 rfl sz96 (by decide) i5cells_len (hS.sm 0 rfl) hap rfl rfl)) (RQ.ev rfl rfl (fun w hS => (ev_fieldM (m := q) (b := 2) Tryz.underlying96 rfl sz3 (by decide) i5cells_len (hS.sm 0 rfl) hap rfl rfl)) (RQ.ev rfl rfl (fun w hS => (ev_loadMF (m := q) (j := 3) (a := ap) Tryz.underlying3 rfl i5cells_len (hS.sm 0 rfl) rfl hap rfl)) ?_))))))))
 refine RQ.two (i := 23) (j := 27) [(24,0), (25,0), (26,0), (27,1), (28,1), (29,0)] [(23,1), (24,0), (25,0), (26,0), (28,1), (29,0)] (by kernel_rfl) rfl rfl rfl rfl (by kernel_rfl) ?_ ?_
 refine (op_call5 Tryz.func135 rfl rfl rfl rfl rfl rfl rfl ((putT_calls (foots [.ownm i5cells 5 98 (v15) (out), .own vI 3 (vr) ((rk).set (z13).toNat ((r : Int))), .ownm i5cells 5 98 (vw) (ways), .blk g7 [vr, vw] 28, .blk g5 [.int .i64 ((n : Int)), iv2, lv3, ov2] 194, .blk g2 [.slice none 0 0, .slice none 0 0] 28, .blk g1 [.int .i64 ((n : Int)), v, kv] 111]) (fun k hk => hN.feetLt hk) n _ _ _ ins2 (putAll n ins2 ls2 (out.take q)) lost2 ap.1 ap.2.1 ap.2.2.1 ap.2.2.2.1 ((hGi.step hF16).step hN) (SmO.step i5cells_ne hGl3 hN) ((hGo.step hF16).step hN) hB.tok.ins (by omega)).mono ?_))
 rintro _ w18 ⟨lv18, b18, rfl, hS18, he_⟩
 replace hN := hN.ext he_
 clear he_
 have hF19 := hN
 clear hN
 have hN := hF19.here
 replace hN : Now w18 (foots [.ownm i5cells 5 98 (v15) (out), .own vI 3 (vr) ((rk).set (z13).toNat ((r : Int))), .ownm i5cells 5 98 (vw) (ways), .blk g7 [vr, vw] 28, .blk g5 [.int .i64 ((n : Int)), iv2, lv3, ov2] 194, .blk g2 [.slice none 0 0, .slice none 0 0] 28, .blk g1 [.int .i64 ((n : Int)), v, kv] 111]) w18 [.ownm i5cells 5 98 (v15) (out), .own vI 3 (vr) ((rk).set (z13).toNat ((r : Int))), .ownm i5cells 5 98 (vw) (ways), .blk g7 [vr, vw] 28, .blk g5 [.int .i64 ((n : Int)), iv2, lv3, ov2] 194, .blk g2 [.slice none 0 0, .slice none 0 0] 28, .blk g1 [.int .i64 ((n : Int)), v, kv] 111] := hN
 refine ⟨(hF19.back hN), ?_⟩
 refine RQ.ev (v := .tuple #[.agg #[.int .i64 ((n : Int)), iv2, lv18, ov2], .bool b18]) rfl rfl (fun w hS => ev_move) ?_
 iterate 2 refine RQ.ev rfl rfl (fun w hS => (ev_extract rfl rfl)) ?_
 refine RQ.do rfl rfl (opN_alloc (cs := [.int .i64 (0), .slice none 0 0, .slice none 0 0, .slice none 0 0]) zero194 rfl hN ?_)
 clear hN
 intro g20 w20 (hN : Now w18 (foots [.ownm i5cells 5 98 (v15) (out), .own vI 3 (vr) ((rk).set (z13).toNat ((r : Int))), .ownm i5cells 5 98 (vw) (ways), .blk g7 [vr, vw] 28, .blk g5 [.int .i64 ((n : Int)), iv2, lv3, ov2] 194, .blk g2 [.slice none 0 0, .slice none 0 0] 28, .blk g1 [.int .i64 ((n : Int)), v, kv] 111]) w20 [_, _, _, _, _, _, _, _])
 refine ⟨((hF19.back hN).sub [1, 2, 3, 4, 5, 6, 7] (by decide) rfl), ?_⟩
 refine RQ.do rfl rfl (opN_storeAll (vs := [.int .i64 ((n : Int)), iv2, lv18, ov2]) sz194 rfl rfl rfl (by intro u hu; simp only [List.mem_cons, List.not_mem_nil, or_false] at hu; rcases hu with rfl | rfl | rfl | rfl <;> first | rfl | exact (((hGi.step hF16).step hF19).now hN).one1 | exact (((hGo.step hF16).step hF19).now hN).one1 | exact (hS18.now hN).one1) hN 0 rfl rfl ?_)
 clear hN
 intro w21 (hN : Now w18 (foots [.ownm i5cells 5 98 (v15) (out), .own vI 3 (vr) ((rk).set (z13).toNat ((r : Int))), .ownm i5cells 5 98 (vw) (ways), .blk g7 [vr, vw] 28, .blk g5 [.int .i64 ((n : Int)), iv2, lv3, ov2] 194, .blk g2 [.slice none 0 0, .slice none 0 0] 28, .blk g1 [.int .i64 ((n : Int)), v, kv] 111]) w21 [_, _, _, _, _, _, _, _])
 refine ⟨((hF19.back hN).sub [1, 2, 3, 4, 5, 6, 7] (by decide) rfl), ?_⟩
 refine RQ.ev (v := .bool b18) rfl rfl (fun w hS => ev_assign) (RQ.done (by kernel_rfl) (thenN (RW.region (RL.ev rfl rfl (ev_loadAll (cs := [.int .i64 ((n : Int)), iv2, lv18, ov2]) Tryz.underlying194 rfl sz194 rfl (hN.blk 0 rfl)) ?_))))
 refine RL.op rfl rfl (opN_storeAll (vs := [.int .i64 ((n : Int)), iv2, lv18, ov2]) sz194 rfl rfl rfl (by intro u hu; simp only [List.mem_cons, List.not_mem_nil, or_false] at hu; rcases hu with rfl | rfl | rfl | rfl <;> first | rfl | exact (((hGi.step hF16).step hF19).now hN).one1 | exact (((hGo.step hF16).step hF19).now hN).one1 | exact (hS18.now hN).one1) hN 5 rfl rfl ?_)
 clear hN
 intro w22 (hN : Now w18 (foots [.ownm i5cells 5 98 (v15) (out), .own vI 3 (vr) ((rk).set (z13).toNat ((r : Int))), .ownm i5cells 5 98 (vw) (ways), .blk g7 [vr, vw] 28, .blk g5 [.int .i64 ((n : Int)), iv2, lv3, ov2] 194, .blk g2 [.slice none 0 0, .slice none 0 0] 28, .blk g1 [.int .i64 ((n : Int)), v, kv] 111]) w22 [_, _, _, _, _, _, _, _])
 refine RL.nil (blockN (thenN (RW.region (RL.ev (v := .int .i64 ((q : Int))) rfl rfl ev_move (RL.ev rfl rfl (ev_arith rfl rfl rfl (add64 (by omega) (by omega))) (RL.ev (v := .int .i64 ((q : Int) + 1)) rfl rfl ev_assign (RL.nil (thenN ?_))))))))
 exact ⟨k2 - 1, by omega, lv18, q + 1, rfl, rfl, rfl, rfl, rfl, rfl, rfl, rfl, (hF16.back (hF19.back (hN.sub [1, 2, 3, 4, 5, 6, 7] (by decide) rfl))), by omega, by rw [putAll_succ hap]; have := putT_len n ins2 (putAll n ins2 ls2 (out.take q)) ap.1 ap.2.1 ap.2.2.1 ap.2.2.2.1; omega, by rw [putAll_succ hap]; exact SmO.step i5cells_ne hS18 (hN.sub [1, 2, 3, 4, 5, 6, 7] (by decide) rfl)⟩
 refine (opN_alloc (cs := [.int .i64 (0), .slice none 0 0, .slice none 0 0, .slice none 0 0]) zero194 rfl hN ?_)
 clear hN
 intro g23 w23 (hN : Now w2' (foots [.ownm i5cells 5 98 (v15) (out), .own vI 3 (vr) ((rk).set (z13).toNat ((r : Int))), .ownm i5cells 5 98 (vw) (ways), .blk g7 [vr, vw] 28, .blk g5 [.int .i64 ((n : Int)), iv2, lv3, ov2] 194, .blk g2 [.slice none 0 0, .slice none 0 0] 28, .blk g1 [.int .i64 ((n : Int)), v, kv] 111]) w23 [_, _, _, _, _, _, _, _])
 refine ⟨(hN.sub [1, 2, 3, 4, 5, 6, 7] (by decide) rfl), ?_⟩
 refine RQ.do rfl rfl (op_call5 Tryz.func135 rfl rfl rfl rfl rfl rfl rfl ((putT_calls (foots [.blk g23 [.int .i64 (0), .slice none 0 0, .slice none 0 0, .slice none 0 0] 194, .ownm i5cells 5 98 (v15) (out), .own vI 3 (vr) ((rk).set (z13).toNat ((r : Int))), .ownm i5cells 5 98 (vw) (ways), .blk g7 [vr, vw] 28, .blk g5 [.int .i64 ((n : Int)), iv2, lv3, ov2] 194, .blk g2 [.slice none 0 0, .slice none 0 0] 28, .blk g1 [.int .i64 ((n : Int)), v, kv] 111]) (fun k hk => hN.feetLt hk) n _ _ _ ins2 (putAll n ins2 ls2 (out.take q)) lost2 ap.1 ap.2.1 ap.2.2.1 ap.2.2.2.1 ((hGi.step hF16).step hN) (SmO.step i5cells_ne hGl3 hN) ((hGo.step hF16).step hN) hB.tok.ins (by omega)).mono ?_))
 rintro _ w24 ⟨lv24, b24, rfl, hS24, he_⟩
 replace hN := hN.ext he_
 clear he_
 have hF25 := hN
 clear hN
 have hN := hF25.here
 replace hN : Now w24 (foots [.blk g23 [.int .i64 (0), .slice none 0 0, .slice none 0 0, .slice none 0 0] 194, .ownm i5cells 5 98 (v15) (out), .own vI 3 (vr) ((rk).set (z13).toNat ((r : Int))), .ownm i5cells 5 98 (vw) (ways), .blk g7 [vr, vw] 28, .blk g5 [.int .i64 ((n : Int)), iv2, lv3, ov2] 194, .blk g2 [.slice none 0 0, .slice none 0 0] 28, .blk g1 [.int .i64 ((n : Int)), v, kv] 111]) w24 [.blk g23 [.int .i64 (0), .slice none 0 0, .slice none 0 0, .slice none 0 0] 194, .ownm i5cells 5 98 (v15) (out), .own vI 3 (vr) ((rk).set (z13).toNat ((r : Int))), .ownm i5cells 5 98 (vw) (ways), .blk g7 [vr, vw] 28, .blk g5 [.int .i64 ((n : Int)), iv2, lv3, ov2] 194, .blk g2 [.slice none 0 0, .slice none 0 0] 28, .blk g1 [.int .i64 ((n : Int)), v, kv] 111] := hN
 refine ⟨((hF25.back hN).sub [1, 2, 3, 4, 5, 6, 7] (by decide) rfl), ?_⟩
 refine RQ.ev (v := .tuple #[.agg #[.int .i64 ((n : Int)), iv2, lv24, ov2], .bool b24]) rfl rfl (fun w hS => ev_move) ?_
 iterate 2 refine RQ.ev rfl rfl (fun w hS => (ev_extract rfl rfl)) ?_
 refine RQ.do rfl rfl (opN_storeAll (vs := [.int .i64 ((n : Int)), iv2, lv24, ov2]) sz194 rfl rfl rfl (by intro u hu; simp only [List.mem_cons, List.not_mem_nil, or_false] at hu; rcases hu with rfl | rfl | rfl | rfl <;> first | rfl | exact (((hGi.step hF16).step hF25).now hN).one1 | exact (((hGo.step hF16).step hF25).now hN).one1 | exact (hS24.now hN).one1) hN 0 rfl rfl ?_)
 clear hN
 intro w26 (hN : Now w24 (foots [.blk g23 [.int .i64 (0), .slice none 0 0, .slice none 0 0, .slice none 0 0] 194, .ownm i5cells 5 98 (v15) (out), .own vI 3 (vr) ((rk).set (z13).toNat ((r : Int))), .ownm i5cells 5 98 (vw) (ways), .blk g7 [vr, vw] 28, .blk g5 [.int .i64 ((n : Int)), iv2, lv3, ov2] 194, .blk g2 [.slice none 0 0, .slice none 0 0] 28, .blk g1 [.int .i64 ((n : Int)), v, kv] 111]) w26 [_, _, _, _, _, _, _, _])
 refine ⟨((hF25.back hN).sub [1, 2, 3, 4, 5, 6, 7] (by decide) rfl), ?_⟩
 refine RQ.ev (v := .bool b24) rfl rfl (fun w hS => ev_assign) (RQ.done (by kernel_rfl) (thenN (RW.region (RL.ev rfl rfl (ev_loadAll (cs := [.int .i64 ((n : Int)), iv2, lv24, ov2]) Tryz.underlying194 rfl sz194 rfl (hN.blk 0 rfl)) ?_))))
 refine RL.op rfl rfl (opN_storeAll (vs := [.int .i64 ((n : Int)), iv2, lv24, ov2]) sz194 rfl rfl rfl (by intro u hu; simp only [List.mem_cons, List.not_mem_nil, or_false] at hu; rcases hu with rfl | rfl | rfl | rfl <;> first | rfl | exact (((hGi.step hF16).step hF25).now hN).one1 | exact (((hGo.step hF16).step hF25).now hN).one1 | exact (hS24.now hN).one1) hN 5 rfl rfl ?_)
 clear hN
 intro w27 (hN : Now w24 (foots [.blk g23 [.int .i64 (0), .slice none 0 0, .slice none 0 0, .slice none 0 0] 194, .ownm i5cells 5 98 (v15) (out), .own vI 3 (vr) ((rk).set (z13).toNat ((r : Int))), .ownm i5cells 5 98 (vw) (ways), .blk g7 [vr, vw] 28, .blk g5 [.int .i64 ((n : Int)), iv2, lv3, ov2] 194, .blk g2 [.slice none 0 0, .slice none 0 0] 28, .blk g1 [.int .i64 ((n : Int)), v, kv] 111]) w27 [_, _, _, _, _, _, _, _])
 refine RL.nil (blockN (thenN (RW.region (RL.ev (v := .int .i64 ((q : Int))) rfl rfl ev_move (RL.ev rfl rfl (ev_arith rfl rfl rfl (add64 (by omega) (by omega))) (RL.ev (v := .int .i64 ((q : Int) + 1)) rfl rfl ev_assign (RL.nil (thenN ?_))))))))
 exact ⟨k2 - 1, by omega, lv24, q + 1, rfl, rfl, rfl, rfl, rfl, rfl, rfl, rfl, (hF16.back (hF25.back (hN.sub [1, 2, 3, 4, 5, 6, 7] (by decide) rfl))), by omega, by rw [putAll_succ hap]; have := putT_len n ins2 (putAll n ins2 ls2 (out.take q)) ap.1 ap.2.1 ap.2.2.1 ap.2.2.2.1; omega, by rw [putAll_succ hap]; exact SmO.step i5cells_ne hS24 (hN.sub [1, 2, 3, 4, 5, 6, 7] (by decide) rfl)⟩
 refine RW.exit ?_
 iterate 2 refine thenX ?_
 refine blockHit (thenN (RW.seq ?_))
 have hq_ : q = out.length := by omega
 rw [hq_, List.take_length] at hGl3 hl3
 replace hN : Now w2' (foots [.ownm i5cells 5 98 (v15) (out), .own vI 3 (vr) ((rk).set (z13).toNat ((r : Int))), .ownm i5cells 5 98 (vw) (ways), .blk g7 [vr, vw] 28, .blk g5 [.int .i64 ((n : Int)), iv2, lv3, ov2] 194, .blk g2 [.slice none 0 0, .slice none 0 0] 28, .blk g1 [.int .i64 ((n : Int)), v, kv] 111]) w2' [.ownm i5cells 5 98 (v15) (out), .own vI 3 (vr) ((rk).set (z13).toNat ((r : Int))), .ownm i5cells 5 98 (vw) (ways), .blk g7 [vr, vw] 28, .blk g5 [.int .i64 ((n : Int)), iv2, lv3, ov2] 194, .blk g2 [.slice none 0 0, .slice none 0 0] 28, .blk g1 [.int .i64 ((n : Int)), v, kv] 111] := hN
 have hwsl := hB.wsl
 have hol3 : (outsOf (putAll n ins2 ls2 out) z13 n).length ≤ n := filter_range_len _ n
 have hil3 : (insOf (putAll n ins2 ls2 out) z13 n).length ≤ n := filter_range_len _ n
 refine RW.region (RL.ev rfl rfl (ev_loadAll (cs := [.int .i64 ((n : Int)), iv2, lv3, ov2]) Tryz.underlying194 rfl sz194 rfl (hN.blk 4 rfl)) (RL.ev (v := .int .i64 (z13)) rfl rfl ev_move ?_))
 refine RL.op rfl rfl (op_call2 Tryz.func136 rfl rfl rfl rfl ((outs_calls n _ _ _ ins2 (putAll n ins2 ls2 out) lost2 _ ((hGi.step hF16).now hN) (hGl3.now hN) ((hGo.step hF16).now hN) z13 (by omega)).mono ?_))
 rintro v28 w28 ⟨ho_, he_⟩
 replace hN : Now w2' (foots [.ownm i5cells 5 98 (v15) (out), .own vI 3 (vr) ((rk).set (z13).toNat ((r : Int))), .ownm i5cells 5 98 (vw) (ways), .blk g7 [vr, vw] 28, .blk g5 [.int .i64 ((n : Int)), iv2, lv3, ov2] 194, .blk g2 [.slice none 0 0, .slice none 0 0] 28, .blk g1 [.int .i64 ((n : Int)), v, kv] 111]) w28 [_, _, _, _, _, _, _, _] := hN.pushOwn (l := outsOf (putAll n ins2 ls2 out) z13 n) ho_ he_
 clear ho_ he_
 refine RL.ev (v := v28) rfl rfl ev_assign (RL.nil (thenN ?_))
 iterate 2 refine RW.seq ?_
 refine RW.region (RL.ev (v := .int .i64 (0)) rfl rfl ev_assign (RL.nil (thenN (RW.block ?_))))
 refine RW.loop (fun k3 R3 w3' => ∃ vw3 : Value, ∃ ways3 : List I5, ∃ i3 : Nat, R3 1 = .pointer (some ⟨g1, 0, none⟩) ∧ R3 2 = .pointer (some ⟨g2, 0, none⟩) ∧ R3 3 = .pointer (some ⟨g5, 0, none⟩) ∧ R3 4 = .pointer (some ⟨g7, 0, none⟩) ∧ R3 6 = .int .i64 ((r : Int)) ∧ R3 7 = .int .i64 (z13) ∧ R3 12 = v28 ∧ R3 13 = .int .i64 ((i3 : Int)) ∧ Now w2' (foots [.ownm i5cells 5 98 (v15) (out), .own vI 3 (vr) ((rk).set (z13).toNat ((r : Int))), .ownm i5cells 5 98 (vw) (ways), .blk g7 [vr, vw] 28, .blk g5 [.int .i64 ((n : Int)), iv2, lv3, ov2] 194, .blk g2 [.slice none 0 0, .slice none 0 0] 28, .blk g1 [.int .i64 ((n : Int)), v, kv] 111]) w3' [.own vI 3 (v28) (outsOf (putAll n ins2 ls2 out) z13 n), .ownm i5cells 5 98 (v15) (out), .own vI 3 (vr) ((rk).set (z13).toNat ((r : Int))), .ownm i5cells 5 98 (vw3) (ways3), .blk g7 [vr, vw3] 28, .blk g5 [.int .i64 ((n : Int)), iv2, lv3, ov2] 194, .blk g2 [.slice none 0 0, .slice none 0 0] 28, .blk g1 [.int .i64 ((n : Int)), v, kv] 111] ∧ (i3 + k3 = (outsOf (putAll n ins2 ls2 out) z13 n).length) ∧ (ways3 = ways ++ ((outsOf (putAll n ins2 ls2 out) z13 n).take i3).map (wOut (putAll n ins2 ls2 out) z13)) ∧ (ways3.length ≤ ways.length + i3)) ((outsOf (putAll n ins2 ls2 out) z13 n).length) ?_ ?_
 exact ⟨vw, ways, 0, rfl, rfl, rfl, rfl, rfl, rfl, rfl, rfl, hN, by omega, by simp, Nat.le_refl _⟩
 clear hN
 rintro k3 R3 w3' ⟨vw3, ways3, i3, hr1_, hr2_, hr3_, hr4_, hr6_, hr7_, hr12_, hr13_, hN, hk3, hways3, hways3l⟩
 have hR_ : ∃ R3_, R3 = (upd (upd (upd (upd (upd (upd (upd (upd R3_ 1 _) 2 _) 3 _) 4 _) 6 _) 7 _) 12 _) 13 _) := ⟨R3, by rw [upd_self hr1_, upd_self hr2_, upd_self hr3_, upd_self hr4_, upd_self hr6_, upd_self hr7_, upd_self hr12_, upd_self hr13_]⟩
 obtain ⟨R3_, rfl⟩ := hR_
 clear hr1_ hr2_ hr3_ hr4_ hr6_ hr7_ hr12_ hr13_
 iterate 2 refine RW.seq ?_
 refine RW.region (RL.ev (v := .int .i64 ((i3 : Int))) rfl rfl ev_move (RL.ev (v := v28) rfl rfl ev_move ?_))
 have hL_29 := (hN.sl 0 rfl).len_le
 refine RL.ev rfl rfl (ev_lenS Tryz.underlying25 (hN.sl 0 rfl) rfl) (RL.ev rfl rfl (ev_lss rfl rfl) (RL.nil (thenN ?_)))
 refine RW.condP _ rfl (fun hlt3 => ?_) (fun hlt3 => ?_)
 refine RW.skip (thenN (RW.seq (RW.block (RW.seq ?_))))
 replace hN := hN.ext (Ext.drew w3')
 refine RW.drawR rfl (fun u => Now w2' (foots [.ownm i5cells 5 98 (v15) (out), .own vI 3 (vr) ((rk).set (z13).toNat ((r : Int))), .ownm i5cells 5 98 (vw) (ways), .blk g7 [vr, vw] 28, .blk g5 [.int .i64 ((n : Int)), iv2, lv3, ov2] 194, .blk g2 [.slice none 0 0, .slice none 0 0] 28, .blk g1 [.int .i64 ((n : Int)), v, kv] 111]) u [.own vI 3 (v28) (outsOf (putAll n ins2 ls2 out) z13 n), .ownm i5cells 5 98 (v15) (out), .own vI 3 (vr) ((rk).set (z13).toNat ((r : Int))), .ownm i5cells 5 98 (vw3) (ways3), .blk g7 [vr, vw3] 28, .blk g5 [.int .i64 ((n : Int)), iv2, lv3, ov2] 194, .blk g2 [.slice none 0 0, .slice none 0 0] 28, .blk g1 [.int .i64 ((n : Int)), v, kv] 111]) 13 [(0,0), (1,0), (2,0), (3,0), (4,0), (5,0)] (by intro _ _ _ h; exact h) (by kernel_rfl) hN (RQ.ev rfl rfl (fun w hS => (ev_loadAll (cs := [.int .i64 ((n : Int)), iv2, lv3, ov2]) Tryz.underlying194 rfl sz194 rfl (hS.blk 5 rfl))) (RQ.ev (v := .int .i64 (z13)) rfl rfl (fun w hS => ev_move) (RQ.ev (v := v28) rfl rfl (fun w hS => ev_move) (RQ.ev (v := .int .i64 ((i3 : Int))) rfl rfl (fun w hS => ev_move) (RQ.ev rfl rfl (fun w hS => (ev_index Tryz.underlying25 sz3 (hS.sl 0 rfl) rfl rfl (by omega) (by omega))) ?_)))))
 have hOb_ : ∃ a_, ((outsOf (putAll n ins2 ls2 out) z13 n))[i3]? = some a_ := ⟨_, List.getElem?_eq_getElem (by omega)⟩
 obtain ⟨ac, hac⟩ := hOb_
 refine RQ.ev rfl rfl (fun w hS => (ev_loadG (m := i3) (a := ac) Tryz.underlying3 rfl (hS.sl 0 rfl) rfl hac)) ?_
 refine RQ.two (i := 6) (j := 10) [(7,0), (8,0), (9,0), (10,1), (11,1), (12,0)] [(6,1), (7,0), (8,0), (9,0), (11,1), (12,0)] (by kernel_rfl) rfl rfl rfl rfl (by kernel_rfl) ?_ ?_
 refine (op_call3 Tryz.func137 rfl rfl rfl rfl rfl ((way_calls n _ _ _ ins2 (putAll n ins2 ls2 out) lost2 _ ((hGi.step hF16).now hN) (hGl3.now hN) ((hGo.step hF16).now hN) z13 ac).mono ?_))
 rintro _ w30 ⟨rfl, he_⟩
 replace hN := hN.ext he_
 clear he_
 refine ⟨hN, ?_⟩
 refine RQ.ev (v := .tuple #[.agg #[.int .i64 (((wayOf (putAll n ins2 ls2 out) z13 ac).getD (0, 0, 0)).1), .int .i64 (((wayOf (putAll n ins2 ls2 out) z13 ac).getD (0, 0, 0)).2.1), .int .i64 (((wayOf (putAll n ins2 ls2 out) z13 ac).getD (0, 0, 0)).2.2)], .bool (decide (HasWay (putAll n ins2 ls2 out) z13 ac))]) rfl rfl (fun w hS => ev_move) ?_
 iterate 2 refine RQ.ev rfl rfl (fun w hS => (ev_extract rfl rfl)) ?_
 refine RQ.do rfl rfl (opN_alloc (cs := [.int .i64 (0), .int .i64 (0), .int .i64 (0)]) zero96 rfl hN ?_)
 clear hN
 intro g31 w31 (hN : Now w2' (foots [.ownm i5cells 5 98 (v15) (out), .own vI 3 (vr) ((rk).set (z13).toNat ((r : Int))), .ownm i5cells 5 98 (vw) (ways), .blk g7 [vr, vw] 28, .blk g5 [.int .i64 ((n : Int)), iv2, lv3, ov2] 194, .blk g2 [.slice none 0 0, .slice none 0 0] 28, .blk g1 [.int .i64 ((n : Int)), v, kv] 111]) w31 [_, _, _, _, _, _, _, _, _])
 refine ⟨(hN.sub [1, 2, 3, 4, 5, 6, 7, 8] (by decide) rfl), ?_⟩
 refine RQ.do rfl rfl (opN_storeAll (vs := [.int .i64 (((wayOf (putAll n ins2 ls2 out) z13 ac).getD (0, 0, 0)).1), .int .i64 (((wayOf (putAll n ins2 ls2 out) z13 ac).getD (0, 0, 0)).2.1), .int .i64 (((wayOf (putAll n ins2 ls2 out) z13 ac).getD (0, 0, 0)).2.2)]) sz96 rfl rfl rfl (by intro u hu; simp only [List.mem_cons, List.not_mem_nil, or_false] at hu; rcases hu with rfl | rfl | rfl <;> first | rfl) hN 0 rfl rfl ?_)
 clear hN
 intro w32 (hN : Now w2' (foots [.ownm i5cells 5 98 (v15) (out), .own vI 3 (vr) ((rk).set (z13).toNat ((r : Int))), .ownm i5cells 5 98 (vw) (ways), .blk g7 [vr, vw] 28, .blk g5 [.int .i64 ((n : Int)), iv2, lv3, ov2] 194, .blk g2 [.slice none 0 0, .slice none 0 0] 28, .blk g1 [.int .i64 ((n : Int)), v, kv] 111]) w32 [_, _, _, _, _, _, _, _, _])
 refine ⟨(hN.sub [1, 2, 3, 4, 5, 6, 7, 8] (by decide) rfl), ?_⟩
 refine RQ.ev (v := .bool (decide (HasWay (putAll n ins2 ls2 out) z13 ac))) rfl rfl (fun w hS => ev_assign) (RQ.done (by kernel_rfl) (thenN ?_))
 replace hN := hN.ext (Ext.drew w32)
 refine RW.drawR rfl (fun u => Now w2' (foots [.ownm i5cells 5 98 (v15) (out), .own vI 3 (vr) ((rk).set (z13).toNat ((r : Int))), .ownm i5cells 5 98 (vw) (ways), .blk g7 [vr, vw] 28, .blk g5 [.int .i64 ((n : Int)), iv2, lv3, ov2] 194, .blk g2 [.slice none 0 0, .slice none 0 0] 28, .blk g1 [.int .i64 ((n : Int)), v, kv] 111]) u [.blk g31 [.int .i64 (((wayOf (putAll n ins2 ls2 out) z13 ac).getD (0, 0, 0)).1), .int .i64 (((wayOf (putAll n ins2 ls2 out) z13 ac).getD (0, 0, 0)).2.1), .int .i64 (((wayOf (putAll n ins2 ls2 out) z13 ac).getD (0, 0, 0)).2.2)] 96, .own vI 3 (v28) (outsOf (putAll n ins2 ls2 out) z13 n), .ownm i5cells 5 98 (v15) (out), .own vI 3 (vr) ((rk).set (z13).toNat ((r : Int))), .blk g7 [vr, vw3] 28, .blk g5 [.int .i64 ((n : Int)), iv2, lv3, ov2] 194, .blk g2 [.slice none 0 0, .slice none 0 0] 28, .blk g1 [.int .i64 ((n : Int)), v, kv] 111]) 12 [(0,0), (1,0), (2,0), (3,0), (4,0), (5,0), (6,0), (7,0), (8,0), (9,1), (10,1), (11,0), (12,2)] (by intro _ _ _ h; exact h) (by kernel_rfl) (hN.sub [0, 1, 2, 3, 5, 6, 7, 8] (by decide) rfl) (RQ.ev rfl rfl (fun w hS => (ev_fieldAddr Tryz.underlying28 rfl sz26 (by decide) rfl)) (RQ.ev rfl rfl (fun w hS => (ev_loadB Tryz.underlying26 rfl rfl (hS.blk 4 rfl) rfl)) (RQ.ev (v := .int .i64 (z13)) rfl rfl (fun w hS => ev_move) (RQ.ev (v := v28) rfl rfl (fun w hS => ev_move) (RQ.ev (v := .int .i64 ((i3 : Int))) rfl rfl (fun w hS => ev_move) (RQ.ev rfl rfl (fun w hS => (ev_index Tryz.underlying25 sz3 (hS.sl 1 rfl) rfl rfl (by omega) (by omega))) (RQ.ev rfl rfl (fun w hS => (ev_loadG (m := i3) (a := ac) Tryz.underlying3 rfl (hS.sl 1 rfl) rfl hac)) ?_)))))))
 refine RQ.ev rfl rfl (fun w hS => (ev_loadAll (cs := [.int .i64 (((wayOf (putAll n ins2 ls2 out) z13 ac).getD (0, 0, 0)).1), .int .i64 (((wayOf (putAll n ins2 ls2 out) z13 ac).getD (0, 0, 0)).2.1), .int .i64 (((wayOf (putAll n ins2 ls2 out) z13 ac).getD (0, 0, 0)).2.2)]) Tryz.underlying96 rfl sz96 rfl (hS.blk 0 rfl))) (RQ.ev rfl rfl (fun w hS => (ev_buildL (cs := [.int .i64 (z13), .int .i64 (ac), .int .i64 (((wayOf (putAll n ins2 ls2 out) z13 ac).getD (0, 0, 0)).1), .int .i64 (((wayOf (putAll n ins2 ls2 out) z13 ac).getD (0, 0, 0)).2.1), .int .i64 (((wayOf (putAll n ins2 ls2 out) z13 ac).getD (0, 0, 0)).2.2)]) Tryz.underlying98 zero98 (places := #[(0, 1), (1, 1), (2, 3)]) (by intro w; kernel_rfl) (pl := [(0, .tmp 109), (1, .tmp 113), (2, .tmp 114)]) rfl (ps := [(0, .int .i64 (z13)), (1, .int .i64 (ac)), (2, .agg #[.int .i64 (((wayOf (putAll n ins2 ls2 out) z13 ac).getD (0, 0, 0)).1), .int .i64 (((wayOf (putAll n ins2 ls2 out) z13 ac).getD (0, 0, 0)).2.1), .int .i64 (((wayOf (putAll n ins2 ls2 out) z13 ac).getD (0, 0, 0)).2.2)])]) rfl (zc := [.int .i64 (0), .int .i64 (0), .int .i64 (0), .int .i64 (0), .int .i64 (0)]) rfl (fill_step (vs := [.int .i64 (z13)]) rfl rfl (Nat.le_of_ble_eq_true rfl) (fill_step (vs := [.int .i64 (ac)]) rfl rfl (Nat.le_of_ble_eq_true rfl) (fill_step (vs := [.int .i64 (((wayOf (putAll n ins2 ls2 out) z13 ac).getD (0, 0, 0)).1), .int .i64 (((wayOf (putAll n ins2 ls2 out) z13 ac).getD (0, 0, 0)).2.1), .int .i64 (((wayOf (putAll n ins2 ls2 out) z13 ac).getD (0, 0, 0)).2.2)]) rfl rfl (Nat.le_of_ble_eq_true rfl) rfl))))) ?_)
 refine RQ.do rfl rfl (opN_litM (cf := i5cells) (s := 5) (pl := [(0, .tmp 115)]) (ps := [(0, .agg #[.int .i64 (z13), .int .i64 (ac), .int .i64 (((wayOf (putAll n ins2 ls2 out) z13 ac).getD (0, 0, 0)).1), .int .i64 (((wayOf (putAll n ins2 ls2 out) z13 ac).getD (0, 0, 0)).2.1), .int .i64 (((wayOf (putAll n ins2 ls2 out) z13 ac).getD (0, 0, 0)).2.2)])]) (zc := [.int .i64 (0), .int .i64 (0), .int .i64 (0), .int .i64 (0), .int .i64 (0)]) (l := [(z13, ac, ((wayOf (putAll n ins2 ls2 out) z13 ac).getD (0, 0, 0)).1, ((wayOf (putAll n ins2 ls2 out) z13 ac).getD (0, 0, 0)).2.1, ((wayOf (putAll n ins2 ls2 out) z13 ac).getD (0, 0, 0)).2.2)]) Tryz.underlying26 inf98 (by kernel_rfl) rfl rfl (fill_step (vs := [.int .i64 (z13), .int .i64 (ac), .int .i64 (((wayOf (putAll n ins2 ls2 out) z13 ac).getD (0, 0, 0)).1), .int .i64 (((wayOf (putAll n ins2 ls2 out) z13 ac).getD (0, 0, 0)).2.1), .int .i64 (((wayOf (putAll n ins2 ls2 out) z13 ac).getD (0, 0, 0)).2.2)]) rfl rfl (Nat.le_of_ble_eq_true rfl) rfl) i5cells_len rfl (by decide) (by decide) (by decide) hN ?_)
 clear hN
 intro g34 w34 (hN : Now w2' (foots [.ownm i5cells 5 98 (v15) (out), .own vI 3 (vr) ((rk).set (z13).toNat ((r : Int))), .ownm i5cells 5 98 (vw) (ways), .blk g7 [vr, vw] 28, .blk g5 [.int .i64 ((n : Int)), iv2, lv3, ov2] 194, .blk g2 [.slice none 0 0, .slice none 0 0] 28, .blk g1 [.int .i64 ((n : Int)), v, kv] 111]) w34 [_, _, _, _, _, _, _, _, _, _])
 refine ⟨(hN.sub [1, 2, 3, 4, 6, 7, 8, 9] (by decide) rfl), ?_⟩
 refine RQ.do rfl rfl (opN_appendM Tryz.underlying26 inf98 rfl (by decide) i5cells_one i5cells_len hN 5 rfl rfl (hN.sm 0 rfl) rfl (by (try simp only [List.length_append, List.length_singleton, List.length_cons, List.length_nil, List.length_map, List.length_take]); omega) (by decide) ?_)
 clear hN
 intro v35 w35 (hN : Now w2' (foots [.ownm i5cells 5 98 (v15) (out), .own vI 3 (vr) ((rk).set (z13).toNat ((r : Int))), .ownm i5cells 5 98 (vw) (ways), .blk g7 [vr, vw] 28, .blk g5 [.int .i64 ((n : Int)), iv2, lv3, ov2] 194, .blk g2 [.slice none 0 0, .slice none 0 0] 28, .blk g1 [.int .i64 ((n : Int)), v, kv] 111]) w35 [_, _, _, _, _, _, _, _, _, _])
 refine ⟨(hN.sub [1, 2, 3, 4, 6, 7, 8, 9] (by decide) rfl), ?_⟩
 refine RQ.ev rfl rfl (fun w hS => (ev_fieldAddr Tryz.underlying28 rfl sz26 (by decide) rfl)) ?_
 refine RQ.last rfl rfl (opN_store sz26 rfl rfl (hN.sm 5 rfl).cells1 (hN.sm 5 rfl).one1 hN 6 rfl (Nat.le_of_ble_eq_true rfl) ?_)
 clear hN
 intro w36 (hN : Now w2' (foots [.ownm i5cells 5 98 (v15) (out), .own vI 3 (vr) ((rk).set (z13).toNat ((r : Int))), .ownm i5cells 5 98 (vw) (ways), .blk g7 [vr, vw] 28, .blk g5 [.int .i64 ((n : Int)), iv2, lv3, ov2] 194, .blk g2 [.slice none 0 0, .slice none 0 0] 28, .blk g1 [.int .i64 ((n : Int)), v, kv] 111]) w36 [_, _, _, _, _, _, _, _, _, _])
 refine RZ.done (by kernel_rfl) (blockN (thenN (RW.region (RL.ev (v := .int .i64 ((i3 : Int))) rfl rfl ev_move (RL.ev rfl rfl (ev_arith rfl rfl rfl (add64 (by omega) (by omega))) (RL.ev (v := .int .i64 ((i3 : Int) + 1)) rfl rfl ev_assign (RL.nil (thenN ?_))))))))
 exact ⟨k3 - 1, by omega, v35, ways3 ++ [(z13, ac, ((wayOf (putAll n ins2 ls2 out) z13 ac).getD (0, 0, 0)).1, ((wayOf (putAll n ins2 ls2 out) z13 ac).getD (0, 0, 0)).2.1, ((wayOf (putAll n ins2 ls2 out) z13 ac).getD (0, 0, 0)).2.2)], i3 + 1, rfl, rfl, rfl, rfl, rfl, rfl, rfl, rfl, (hN.sub [2, 3, 4, 5, 6, 7, 8, 9] (by decide) rfl), by omega, by rw [map_take_succ _ hac, hways3, List.append_assoc]; rfl, by (try simp only [List.length_append, List.length_singleton]); omega⟩
 refine (opN_alloc (cs := [.int .i64 (0), .int .i64 (0), .int .i64 (0)]) zero96 rfl hN ?_)
 clear hN
 intro g37 w37 (hN : Now w2' (foots [.ownm i5cells 5 98 (v15) (out), .own vI 3 (vr) ((rk).set (z13).toNat ((r : Int))), .ownm i5cells 5 98 (vw) (ways), .blk g7 [vr, vw] 28, .blk g5 [.int .i64 ((n : Int)), iv2, lv3, ov2] 194, .blk g2 [.slice none 0 0, .slice none 0 0] 28, .blk g1 [.int .i64 ((n : Int)), v, kv] 111]) w37 [_, _, _, _, _, _, _, _, _])
 refine ⟨(hN.sub [1, 2, 3, 4, 5, 6, 7, 8] (by decide) rfl), ?_⟩
 refine RQ.do rfl rfl (op_call3 Tryz.func137 rfl rfl rfl rfl rfl ((way_calls n _ _ _ ins2 (putAll n ins2 ls2 out) lost2 _ ((hGi.step hF16).now hN) (hGl3.now hN) ((hGo.step hF16).now hN) z13 ac).mono ?_))
 rintro _ w38 ⟨rfl, he_⟩
 replace hN := hN.ext he_
 clear he_
 refine ⟨(hN.sub [1, 2, 3, 4, 5, 6, 7, 8] (by decide) rfl), ?_⟩
 refine RQ.ev (v := .tuple #[.agg #[.int .i64 (((wayOf (putAll n ins2 ls2 out) z13 ac).getD (0, 0, 0)).1), .int .i64 (((wayOf (putAll n ins2 ls2 out) z13 ac).getD (0, 0, 0)).2.1), .int .i64 (((wayOf (putAll n ins2 ls2 out) z13 ac).getD (0, 0, 0)).2.2)], .bool (decide (HasWay (putAll n ins2 ls2 out) z13 ac))]) rfl rfl (fun w hS => ev_move) ?_
 iterate 2 refine RQ.ev rfl rfl (fun w hS => (ev_extract rfl rfl)) ?_
 refine RQ.do rfl rfl (opN_storeAll (vs := [.int .i64 (((wayOf (putAll n ins2 ls2 out) z13 ac).getD (0, 0, 0)).1), .int .i64 (((wayOf (putAll n ins2 ls2 out) z13 ac).getD (0, 0, 0)).2.1), .int .i64 (((wayOf (putAll n ins2 ls2 out) z13 ac).getD (0, 0, 0)).2.2)]) sz96 rfl rfl rfl (by intro u hu; simp only [List.mem_cons, List.not_mem_nil, or_false] at hu; rcases hu with rfl | rfl | rfl <;> first | rfl) hN 0 rfl rfl ?_)
 clear hN
 intro w39 (hN : Now w2' (foots [.ownm i5cells 5 98 (v15) (out), .own vI 3 (vr) ((rk).set (z13).toNat ((r : Int))), .ownm i5cells 5 98 (vw) (ways), .blk g7 [vr, vw] 28, .blk g5 [.int .i64 ((n : Int)), iv2, lv3, ov2] 194, .blk g2 [.slice none 0 0, .slice none 0 0] 28, .blk g1 [.int .i64 ((n : Int)), v, kv] 111]) w39 [_, _, _, _, _, _, _, _, _])
 refine ⟨(hN.sub [1, 2, 3, 4, 5, 6, 7, 8] (by decide) rfl), ?_⟩
 refine RQ.ev (v := .bool (decide (HasWay (putAll n ins2 ls2 out) z13 ac))) rfl rfl (fun w hS => ev_assign) (RQ.done (by kernel_rfl) (thenN ?_))
 replace hN := hN.ext (Ext.drew w39)
 refine RW.drawR rfl (fun u => Now w2' (foots [.ownm i5cells 5 98 (v15) (out), .own vI 3 (vr) ((rk).set (z13).toNat ((r : Int))), .ownm i5cells 5 98 (vw) (ways), .blk g7 [vr, vw] 28, .blk g5 [.int .i64 ((n : Int)), iv2, lv3, ov2] 194, .blk g2 [.slice none 0 0, .slice none 0 0] 28, .blk g1 [.int .i64 ((n : Int)), v, kv] 111]) u [.blk g37 [.int .i64 (((wayOf (putAll n ins2 ls2 out) z13 ac).getD (0, 0, 0)).1), .int .i64 (((wayOf (putAll n ins2 ls2 out) z13 ac).getD (0, 0, 0)).2.1), .int .i64 (((wayOf (putAll n ins2 ls2 out) z13 ac).getD (0, 0, 0)).2.2)] 96, .own vI 3 (v28) (outsOf (putAll n ins2 ls2 out) z13 n), .ownm i5cells 5 98 (v15) (out), .own vI 3 (vr) ((rk).set (z13).toNat ((r : Int))), .blk g7 [vr, vw3] 28, .blk g5 [.int .i64 ((n : Int)), iv2, lv3, ov2] 194, .blk g2 [.slice none 0 0, .slice none 0 0] 28, .blk g1 [.int .i64 ((n : Int)), v, kv] 111]) 12 [(0,0), (1,0), (2,0), (3,0), (4,0), (5,0), (6,0), (7,0), (8,0), (9,1), (10,1), (11,0), (12,2)] (by intro _ _ _ h; exact h) (by kernel_rfl) (hN.sub [0, 1, 2, 3, 5, 6, 7, 8] (by decide) rfl) (RQ.ev rfl rfl (fun w hS => (ev_fieldAddr Tryz.underlying28 rfl sz26 (by decide) rfl)) (RQ.ev rfl rfl (fun w hS => (ev_loadB Tryz.underlying26 rfl rfl (hS.blk 4 rfl) rfl)) (RQ.ev (v := .int .i64 (z13)) rfl rfl (fun w hS => ev_move) (RQ.ev (v := v28) rfl rfl (fun w hS => ev_move) (RQ.ev (v := .int .i64 ((i3 : Int))) rfl rfl (fun w hS => ev_move) (RQ.ev rfl rfl (fun w hS => (ev_index Tryz.underlying25 sz3 (hS.sl 1 rfl) rfl rfl (by omega) (by omega))) (RQ.ev rfl rfl (fun w hS => (ev_loadG (m := i3) (a := ac) Tryz.underlying3 rfl (hS.sl 1 rfl) rfl hac)) ?_)))))))
 refine RQ.ev rfl rfl (fun w hS => (ev_loadAll (cs := [.int .i64 (((wayOf (putAll n ins2 ls2 out) z13 ac).getD (0, 0, 0)).1), .int .i64 (((wayOf (putAll n ins2 ls2 out) z13 ac).getD (0, 0, 0)).2.1), .int .i64 (((wayOf (putAll n ins2 ls2 out) z13 ac).getD (0, 0, 0)).2.2)]) Tryz.underlying96 rfl sz96 rfl (hS.blk 0 rfl))) (RQ.ev rfl rfl (fun w hS => (ev_buildL (cs := [.int .i64 (z13), .int .i64 (ac), .int .i64 (((wayOf (putAll n ins2 ls2 out) z13 ac).getD (0, 0, 0)).1), .int .i64 (((wayOf (putAll n ins2 ls2 out) z13 ac).getD (0, 0, 0)).2.1), .int .i64 (((wayOf (putAll n ins2 ls2 out) z13 ac).getD (0, 0, 0)).2.2)]) Tryz.underlying98 zero98 (places := #[(0, 1), (1, 1), (2, 3)]) (by intro w; kernel_rfl) (pl := [(0, .tmp 109), (1, .tmp 113), (2, .tmp 114)]) rfl (ps := [(0, .int .i64 (z13)), (1, .int .i64 (ac)), (2, .agg #[.int .i64 (((wayOf (putAll n ins2 ls2 out) z13 ac).getD (0, 0, 0)).1), .int .i64 (((wayOf (putAll n ins2 ls2 out) z13 ac).getD (0, 0, 0)).2.1), .int .i64 (((wayOf (putAll n ins2 ls2 out) z13 ac).getD (0, 0, 0)).2.2)])]) rfl (zc := [.int .i64 (0), .int .i64 (0), .int .i64 (0), .int .i64 (0), .int .i64 (0)]) rfl (fill_step (vs := [.int .i64 (z13)]) rfl rfl (Nat.le_of_ble_eq_true rfl) (fill_step (vs := [.int .i64 (ac)]) rfl rfl (Nat.le_of_ble_eq_true rfl) (fill_step (vs := [.int .i64 (((wayOf (putAll n ins2 ls2 out) z13 ac).getD (0, 0, 0)).1), .int .i64 (((wayOf (putAll n ins2 ls2 out) z13 ac).getD (0, 0, 0)).2.1), .int .i64 (((wayOf (putAll n ins2 ls2 out) z13 ac).getD (0, 0, 0)).2.2)]) rfl rfl (Nat.le_of_ble_eq_true rfl) rfl))))) ?_)
 refine RQ.do rfl rfl (opN_litM (cf := i5cells) (s := 5) (pl := [(0, .tmp 115)]) (ps := [(0, .agg #[.int .i64 (z13), .int .i64 (ac), .int .i64 (((wayOf (putAll n ins2 ls2 out) z13 ac).getD (0, 0, 0)).1), .int .i64 (((wayOf (putAll n ins2 ls2 out) z13 ac).getD (0, 0, 0)).2.1), .int .i64 (((wayOf (putAll n ins2 ls2 out) z13 ac).getD (0, 0, 0)).2.2)])]) (zc := [.int .i64 (0), .int .i64 (0), .int .i64 (0), .int .i64 (0), .int .i64 (0)]) (l := [(z13, ac, ((wayOf (putAll n ins2 ls2 out) z13 ac).getD (0, 0, 0)).1, ((wayOf (putAll n ins2 ls2 out) z13 ac).getD (0, 0, 0)).2.1, ((wayOf (putAll n ins2 ls2 out) z13 ac).getD (0, 0, 0)).2.2)]) Tryz.underlying26 inf98 (by kernel_rfl) rfl rfl (fill_step (vs := [.int .i64 (z13), .int .i64 (ac), .int .i64 (((wayOf (putAll n ins2 ls2 out) z13 ac).getD (0, 0, 0)).1), .int .i64 (((wayOf (putAll n ins2 ls2 out) z13 ac).getD (0, 0, 0)).2.1), .int .i64 (((wayOf (putAll n ins2 ls2 out) z13 ac).getD (0, 0, 0)).2.2)]) rfl rfl (Nat.le_of_ble_eq_true rfl) rfl) i5cells_len rfl (by decide) (by decide) (by decide) hN ?_)
 clear hN
 intro g41 w41 (hN : Now w2' (foots [.ownm i5cells 5 98 (v15) (out), .own vI 3 (vr) ((rk).set (z13).toNat ((r : Int))), .ownm i5cells 5 98 (vw) (ways), .blk g7 [vr, vw] 28, .blk g5 [.int .i64 ((n : Int)), iv2, lv3, ov2] 194, .blk g2 [.slice none 0 0, .slice none 0 0] 28, .blk g1 [.int .i64 ((n : Int)), v, kv] 111]) w41 [_, _, _, _, _, _, _, _, _, _])
 refine ⟨(hN.sub [1, 2, 3, 4, 6, 7, 8, 9] (by decide) rfl), ?_⟩
 refine RQ.do rfl rfl (opN_appendM Tryz.underlying26 inf98 rfl (by decide) i5cells_one i5cells_len hN 5 rfl rfl (hN.sm 0 rfl) rfl (by (try simp only [List.length_append, List.length_singleton, List.length_cons, List.length_nil, List.length_map, List.length_take]); omega) (by decide) ?_)
 clear hN
 intro v42 w42 (hN : Now w2' (foots [.ownm i5cells 5 98 (v15) (out), .own vI 3 (vr) ((rk).set (z13).toNat ((r : Int))), .ownm i5cells 5 98 (vw) (ways), .blk g7 [vr, vw] 28, .blk g5 [.int .i64 ((n : Int)), iv2, lv3, ov2] 194, .blk g2 [.slice none 0 0, .slice none 0 0] 28, .blk g1 [.int .i64 ((n : Int)), v, kv] 111]) w42 [_, _, _, _, _, _, _, _, _, _])
 refine ⟨(hN.sub [1, 2, 3, 4, 6, 7, 8, 9] (by decide) rfl), ?_⟩
 refine RQ.ev rfl rfl (fun w hS => (ev_fieldAddr Tryz.underlying28 rfl sz26 (by decide) rfl)) ?_
 refine RQ.last rfl rfl (opN_store sz26 rfl rfl (hN.sm 5 rfl).cells1 (hN.sm 5 rfl).one1 hN 6 rfl (Nat.le_of_ble_eq_true rfl) ?_)
 clear hN
 intro w43 (hN : Now w2' (foots [.ownm i5cells 5 98 (v15) (out), .own vI 3 (vr) ((rk).set (z13).toNat ((r : Int))), .ownm i5cells 5 98 (vw) (ways), .blk g7 [vr, vw] 28, .blk g5 [.int .i64 ((n : Int)), iv2, lv3, ov2] 194, .blk g2 [.slice none 0 0, .slice none 0 0] 28, .blk g1 [.int .i64 ((n : Int)), v, kv] 111]) w43 [_, _, _, _, _, _, _, _, _, _])
 refine RZ.done (by kernel_rfl) (blockN (thenN (RW.region (RL.ev (v := .int .i64 ((i3 : Int))) rfl rfl ev_move (RL.ev rfl rfl (ev_arith rfl rfl rfl (add64 (by omega) (by omega))) (RL.ev (v := .int .i64 ((i3 : Int) + 1)) rfl rfl ev_assign (RL.nil (thenN ?_))))))))
 exact ⟨k3 - 1, by omega, v42, ways3 ++ [(z13, ac, ((wayOf (putAll n ins2 ls2 out) z13 ac).getD (0, 0, 0)).1, ((wayOf (putAll n ins2 ls2 out) z13 ac).getD (0, 0, 0)).2.1, ((wayOf (putAll n ins2 ls2 out) z13 ac).getD (0, 0, 0)).2.2)], i3 + 1, rfl, rfl, rfl, rfl, rfl, rfl, rfl, rfl, (hN.sub [2, 3, 4, 5, 6, 7, 8, 9] (by decide) rfl), by omega, by rw [map_take_succ _ hac, hways3, List.append_assoc]; rfl, by (try simp only [List.length_append, List.length_singleton]); omega⟩
 refine RW.exit ?_
 iterate 2 refine thenX ?_
 refine blockHit (thenN (RW.seq (RW.region (RL.ev rfl rfl (ev_loadAll (cs := [.int .i64 ((n : Int)), iv2, lv3, ov2]) Tryz.underlying194 rfl sz194 rfl (hN.blk 5 rfl)) (RL.ev (v := .int .i64 (z13)) rfl rfl ev_move ?_)))))
 refine RL.op rfl rfl (op_call2 Tryz.func138 rfl rfl rfl rfl ((ins_calls n _ _ _ ins2 (putAll n ins2 ls2 out) lost2 _ ((hGi.step hF16).now hN) (hGl3.now hN) ((hGo.step hF16).now hN) z13 (by omega)).mono ?_))
 rintro v44 w44 ⟨ho_, he_⟩
 replace hN : Now w2' (foots [.ownm i5cells 5 98 (v15) (out), .own vI 3 (vr) ((rk).set (z13).toNat ((r : Int))), .ownm i5cells 5 98 (vw) (ways), .blk g7 [vr, vw] 28, .blk g5 [.int .i64 ((n : Int)), iv2, lv3, ov2] 194, .blk g2 [.slice none 0 0, .slice none 0 0] 28, .blk g1 [.int .i64 ((n : Int)), v, kv] 111]) w44 [_, _, _, _, _, _, _, _, _] := hN.pushOwn (l := insOf (putAll n ins2 ls2 out) z13 n) ho_ he_
 clear ho_ he_
 refine RL.ev (v := v44) rfl rfl ev_assign (RL.nil (thenN ?_))
 iterate 2 refine RW.seq ?_
 refine RW.region (RL.ev (v := .int .i64 (0)) rfl rfl ev_assign (RL.nil (thenN (RW.block ?_))))
 refine RW.loop (fun k4 R4 w4' => ∃ vw4 : Value, ∃ ways4 : List I5, ∃ i4 : Nat, R4 1 = .pointer (some ⟨g1, 0, none⟩) ∧ R4 2 = .pointer (some ⟨g2, 0, none⟩) ∧ R4 3 = .pointer (some ⟨g5, 0, none⟩) ∧ R4 4 = .pointer (some ⟨g7, 0, none⟩) ∧ R4 6 = .int .i64 ((r : Int)) ∧ R4 7 = .int .i64 (z13) ∧ R4 16 = v44 ∧ R4 17 = .int .i64 ((i4 : Int)) ∧ Now w2' (foots [.ownm i5cells 5 98 (v15) (out), .own vI 3 (vr) ((rk).set (z13).toNat ((r : Int))), .ownm i5cells 5 98 (vw) (ways), .blk g7 [vr, vw] 28, .blk g5 [.int .i64 ((n : Int)), iv2, lv3, ov2] 194, .blk g2 [.slice none 0 0, .slice none 0 0] 28, .blk g1 [.int .i64 ((n : Int)), v, kv] 111]) w4' [.own vI 3 (v44) (insOf (putAll n ins2 ls2 out) z13 n), .own vI 3 (v28) (outsOf (putAll n ins2 ls2 out) z13 n), .ownm i5cells 5 98 (v15) (out), .own vI 3 (vr) ((rk).set (z13).toNat ((r : Int))), .ownm i5cells 5 98 (vw4) (ways4), .blk g7 [vr, vw4] 28, .blk g5 [.int .i64 ((n : Int)), iv2, lv3, ov2] 194, .blk g2 [.slice none 0 0, .slice none 0 0] 28, .blk g1 [.int .i64 ((n : Int)), v, kv] 111] ∧ (i4 + k4 = (insOf (putAll n ins2 ls2 out) z13 n).length) ∧ (ways4 = ways3 ++ ((insOf (putAll n ins2 ls2 out) z13 n).take i4).map (wIn (putAll n ins2 ls2 out) z13)) ∧ (ways4.length ≤ ways3.length + i4)) ((insOf (putAll n ins2 ls2 out) z13 n).length) ?_ ?_
 exact ⟨vw3, ways3, 0, rfl, rfl, rfl, rfl, rfl, rfl, rfl, rfl, hN, by omega, by simp, Nat.le_refl _⟩
 clear hN
 rintro k4 R4 w4' ⟨vw4, ways4, i4, hr1_, hr2_, hr3_, hr4_, hr6_, hr7_, hr16_, hr17_, hN, hk4, hways4, hways4l⟩
 have hR_ : ∃ R4_, R4 = (upd (upd (upd (upd (upd (upd (upd (upd R4_ 1 _) 2 _) 3 _) 4 _) 6 _) 7 _) 16 _) 17 _) := ⟨R4, by rw [upd_self hr1_, upd_self hr2_, upd_self hr3_, upd_self hr4_, upd_self hr6_, upd_self hr7_, upd_self hr16_, upd_self hr17_]⟩
 obtain ⟨R4_, rfl⟩ := hR_
 clear hr1_ hr2_ hr3_ hr4_ hr6_ hr7_ hr16_ hr17_
 iterate 2 refine RW.seq ?_
 refine RW.region (RL.ev (v := .int .i64 ((i4 : Int))) rfl rfl ev_move (RL.ev (v := v44) rfl rfl ev_move ?_))
 have hL_45 := (hN.sl 0 rfl).len_le
 refine RL.ev rfl rfl (ev_lenS Tryz.underlying25 (hN.sl 0 rfl) rfl) (RL.ev rfl rfl (ev_lss rfl rfl) (RL.nil (thenN ?_)))
 refine RW.condP _ rfl (fun hlt4 => ?_) (fun hlt4 => ?_)
 refine RW.skip (thenN (RW.seq (RW.block (RW.seq ?_))))
 replace hN := hN.ext (Ext.drew w4')
 refine RW.drawR rfl (fun u => Now w2' (foots [.ownm i5cells 5 98 (v15) (out), .own vI 3 (vr) ((rk).set (z13).toNat ((r : Int))), .ownm i5cells 5 98 (vw) (ways), .blk g7 [vr, vw] 28, .blk g5 [.int .i64 ((n : Int)), iv2, lv3, ov2] 194, .blk g2 [.slice none 0 0, .slice none 0 0] 28, .blk g1 [.int .i64 ((n : Int)), v, kv] 111]) u [.own vI 3 (v44) (insOf (putAll n ins2 ls2 out) z13 n), .own vI 3 (v28) (outsOf (putAll n ins2 ls2 out) z13 n), .ownm i5cells 5 98 (v15) (out), .own vI 3 (vr) ((rk).set (z13).toNat ((r : Int))), .ownm i5cells 5 98 (vw4) (ways4), .blk g7 [vr, vw4] 28, .blk g5 [.int .i64 ((n : Int)), iv2, lv3, ov2] 194, .blk g2 [.slice none 0 0, .slice none 0 0] 28, .blk g1 [.int .i64 ((n : Int)), v, kv] 111]) 13 [(0,0), (1,0), (2,0), (3,0), (4,0), (5,0)] (by intro _ _ _ h; exact h) (by kernel_rfl) hN (RQ.ev rfl rfl (fun w hS => (ev_loadAll (cs := [.int .i64 ((n : Int)), iv2, lv3, ov2]) Tryz.underlying194 rfl sz194 rfl (hS.blk 6 rfl))) (RQ.ev (v := v44) rfl rfl (fun w hS => ev_move) (RQ.ev (v := .int .i64 ((i4 : Int))) rfl rfl (fun w hS => ev_move) (RQ.ev rfl rfl (fun w hS => (ev_index Tryz.underlying25 sz3 (hS.sl 0 rfl) rfl rfl (by omega) (by omega))) ?_))))
 have hOb_ : ∃ a_, ((insOf (putAll n ins2 ls2 out) z13 n))[i4]? = some a_ := ⟨_, List.getElem?_eq_getElem (by omega)⟩
 obtain ⟨ad, had⟩ := hOb_
 refine RQ.ev rfl rfl (fun w hS => (ev_loadG (m := i4) (a := ad) Tryz.underlying3 rfl (hS.sl 0 rfl) rfl had)) (RQ.ev (v := .int .i64 (z13)) rfl rfl (fun w hS => ev_move) ?_)
 refine RQ.two (i := 6) (j := 10) [(7,0), (8,0), (9,0), (10,1), (11,1), (12,0)] [(6,1), (7,0), (8,0), (9,0), (11,1), (12,0)] (by kernel_rfl) rfl rfl rfl rfl (by kernel_rfl) ?_ ?_
 refine (op_call3 Tryz.func137 rfl rfl rfl rfl rfl ((way_calls n _ _ _ ins2 (putAll n ins2 ls2 out) lost2 _ ((hGi.step hF16).now hN) (hGl3.now hN) ((hGo.step hF16).now hN) ad z13).mono ?_))
 rintro _ w46 ⟨rfl, he_⟩
 replace hN := hN.ext he_
 clear he_
 refine ⟨hN, ?_⟩
 refine RQ.ev (v := .tuple #[.agg #[.int .i64 (((wayOf (putAll n ins2 ls2 out) ad z13).getD (0, 0, 0)).1), .int .i64 (((wayOf (putAll n ins2 ls2 out) ad z13).getD (0, 0, 0)).2.1), .int .i64 (((wayOf (putAll n ins2 ls2 out) ad z13).getD (0, 0, 0)).2.2)], .bool (decide (HasWay (putAll n ins2 ls2 out) ad z13))]) rfl rfl (fun w hS => ev_move) ?_
 iterate 2 refine RQ.ev rfl rfl (fun w hS => (ev_extract rfl rfl)) ?_
 refine RQ.do rfl rfl (opN_alloc (cs := [.int .i64 (0), .int .i64 (0), .int .i64 (0)]) zero96 rfl hN ?_)
 clear hN
 intro g47 w47 (hN : Now w2' (foots [.ownm i5cells 5 98 (v15) (out), .own vI 3 (vr) ((rk).set (z13).toNat ((r : Int))), .ownm i5cells 5 98 (vw) (ways), .blk g7 [vr, vw] 28, .blk g5 [.int .i64 ((n : Int)), iv2, lv3, ov2] 194, .blk g2 [.slice none 0 0, .slice none 0 0] 28, .blk g1 [.int .i64 ((n : Int)), v, kv] 111]) w47 [_, _, _, _, _, _, _, _, _, _])
 refine ⟨(hN.sub [1, 2, 3, 4, 5, 6, 7, 8, 9] (by decide) rfl), ?_⟩
 refine RQ.do rfl rfl (opN_storeAll (vs := [.int .i64 (((wayOf (putAll n ins2 ls2 out) ad z13).getD (0, 0, 0)).1), .int .i64 (((wayOf (putAll n ins2 ls2 out) ad z13).getD (0, 0, 0)).2.1), .int .i64 (((wayOf (putAll n ins2 ls2 out) ad z13).getD (0, 0, 0)).2.2)]) sz96 rfl rfl rfl (by intro u hu; simp only [List.mem_cons, List.not_mem_nil, or_false] at hu; rcases hu with rfl | rfl | rfl <;> first | rfl) hN 0 rfl rfl ?_)
 clear hN
 intro w48 (hN : Now w2' (foots [.ownm i5cells 5 98 (v15) (out), .own vI 3 (vr) ((rk).set (z13).toNat ((r : Int))), .ownm i5cells 5 98 (vw) (ways), .blk g7 [vr, vw] 28, .blk g5 [.int .i64 ((n : Int)), iv2, lv3, ov2] 194, .blk g2 [.slice none 0 0, .slice none 0 0] 28, .blk g1 [.int .i64 ((n : Int)), v, kv] 111]) w48 [_, _, _, _, _, _, _, _, _, _])
 refine ⟨(hN.sub [1, 2, 3, 4, 5, 6, 7, 8, 9] (by decide) rfl), ?_⟩
 refine RQ.ev (v := .bool (decide (HasWay (putAll n ins2 ls2 out) ad z13))) rfl rfl (fun w hS => ev_assign) (RQ.done (by kernel_rfl) (thenN ?_))
 replace hN := hN.ext (Ext.drew w48)
 refine RW.drawR rfl (fun u => Now w2' (foots [.ownm i5cells 5 98 (v15) (out), .own vI 3 (vr) ((rk).set (z13).toNat ((r : Int))), .ownm i5cells 5 98 (vw) (ways), .blk g7 [vr, vw] 28, .blk g5 [.int .i64 ((n : Int)), iv2, lv3, ov2] 194, .blk g2 [.slice none 0 0, .slice none 0 0] 28, .blk g1 [.int .i64 ((n : Int)), v, kv] 111]) u [.blk g47 [.int .i64 (((wayOf (putAll n ins2 ls2 out) ad z13).getD (0, 0, 0)).1), .int .i64 (((wayOf (putAll n ins2 ls2 out) ad z13).getD (0, 0, 0)).2.1), .int .i64 (((wayOf (putAll n ins2 ls2 out) ad z13).getD (0, 0, 0)).2.2)] 96, .own vI 3 (v44) (insOf (putAll n ins2 ls2 out) z13 n), .own vI 3 (v28) (outsOf (putAll n ins2 ls2 out) z13 n), .ownm i5cells 5 98 (v15) (out), .own vI 3 (vr) ((rk).set (z13).toNat ((r : Int))), .blk g7 [vr, vw4] 28, .blk g5 [.int .i64 ((n : Int)), iv2, lv3, ov2] 194, .blk g2 [.slice none 0 0, .slice none 0 0] 28, .blk g1 [.int .i64 ((n : Int)), v, kv] 111]) 12 [(0,0), (1,0), (2,0), (3,0), (4,0), (5,0), (6,0), (7,0), (8,0), (9,1), (10,1), (11,0), (12,2)] (by intro _ _ _ h; exact h) (by kernel_rfl) (hN.sub [0, 1, 2, 3, 4, 6, 7, 8, 9] (by decide) rfl) (RQ.ev rfl rfl (fun w hS => (ev_fieldAddr Tryz.underlying28 rfl sz26 (by decide) rfl)) (RQ.ev rfl rfl (fun w hS => (ev_loadB Tryz.underlying26 rfl rfl (hS.blk 5 rfl) rfl)) (RQ.ev (v := v44) rfl rfl (fun w hS => ev_move) (RQ.ev (v := .int .i64 ((i4 : Int))) rfl rfl (fun w hS => ev_move) (RQ.ev rfl rfl (fun w hS => (ev_index Tryz.underlying25 sz3 (hS.sl 1 rfl) rfl rfl (by omega) (by omega))) (RQ.ev rfl rfl (fun w hS => (ev_loadG (m := i4) (a := ad) Tryz.underlying3 rfl (hS.sl 1 rfl) rfl had)) ?_))))))
 refine RQ.ev (v := .int .i64 (z13)) rfl rfl (fun w hS => ev_move) (RQ.ev rfl rfl (fun w hS => (ev_loadAll (cs := [.int .i64 (((wayOf (putAll n ins2 ls2 out) ad z13).getD (0, 0, 0)).1), .int .i64 (((wayOf (putAll n ins2 ls2 out) ad z13).getD (0, 0, 0)).2.1), .int .i64 (((wayOf (putAll n ins2 ls2 out) ad z13).getD (0, 0, 0)).2.2)]) Tryz.underlying96 rfl sz96 rfl (hS.blk 0 rfl))) (RQ.ev rfl rfl (fun w hS => (ev_buildL (cs := [.int .i64 (ad), .int .i64 (z13), .int .i64 (((wayOf (putAll n ins2 ls2 out) ad z13).getD (0, 0, 0)).1), .int .i64 (((wayOf (putAll n ins2 ls2 out) ad z13).getD (0, 0, 0)).2.1), .int .i64 (((wayOf (putAll n ins2 ls2 out) ad z13).getD (0, 0, 0)).2.2)]) Tryz.underlying98 zero98 (places := #[(0, 1), (1, 1), (2, 3)]) (by intro w; kernel_rfl) (pl := [(0, .tmp 143), (1, .tmp 144), (2, .tmp 145)]) rfl (ps := [(0, .int .i64 (ad)), (1, .int .i64 (z13)), (2, .agg #[.int .i64 (((wayOf (putAll n ins2 ls2 out) ad z13).getD (0, 0, 0)).1), .int .i64 (((wayOf (putAll n ins2 ls2 out) ad z13).getD (0, 0, 0)).2.1), .int .i64 (((wayOf (putAll n ins2 ls2 out) ad z13).getD (0, 0, 0)).2.2)])]) rfl (zc := [.int .i64 (0), .int .i64 (0), .int .i64 (0), .int .i64 (0), .int .i64 (0)]) rfl (fill_step (vs := [.int .i64 (ad)]) rfl rfl (Nat.le_of_ble_eq_true rfl) (fill_step (vs := [.int .i64 (z13)]) rfl rfl (Nat.le_of_ble_eq_true rfl) (fill_step (vs := [.int .i64 (((wayOf (putAll n ins2 ls2 out) ad z13).getD (0, 0, 0)).1), .int .i64 (((wayOf (putAll n ins2 ls2 out) ad z13).getD (0, 0, 0)).2.1), .int .i64 (((wayOf (putAll n ins2 ls2 out) ad z13).getD (0, 0, 0)).2.2)]) rfl rfl (Nat.le_of_ble_eq_true rfl) rfl))))) ?_))
 refine RQ.do rfl rfl (opN_litM (cf := i5cells) (s := 5) (pl := [(0, .tmp 146)]) (ps := [(0, .agg #[.int .i64 (ad), .int .i64 (z13), .int .i64 (((wayOf (putAll n ins2 ls2 out) ad z13).getD (0, 0, 0)).1), .int .i64 (((wayOf (putAll n ins2 ls2 out) ad z13).getD (0, 0, 0)).2.1), .int .i64 (((wayOf (putAll n ins2 ls2 out) ad z13).getD (0, 0, 0)).2.2)])]) (zc := [.int .i64 (0), .int .i64 (0), .int .i64 (0), .int .i64 (0), .int .i64 (0)]) (l := [(ad, z13, ((wayOf (putAll n ins2 ls2 out) ad z13).getD (0, 0, 0)).1, ((wayOf (putAll n ins2 ls2 out) ad z13).getD (0, 0, 0)).2.1, ((wayOf (putAll n ins2 ls2 out) ad z13).getD (0, 0, 0)).2.2)]) Tryz.underlying26 inf98 (by kernel_rfl) rfl rfl (fill_step (vs := [.int .i64 (ad), .int .i64 (z13), .int .i64 (((wayOf (putAll n ins2 ls2 out) ad z13).getD (0, 0, 0)).1), .int .i64 (((wayOf (putAll n ins2 ls2 out) ad z13).getD (0, 0, 0)).2.1), .int .i64 (((wayOf (putAll n ins2 ls2 out) ad z13).getD (0, 0, 0)).2.2)]) rfl rfl (Nat.le_of_ble_eq_true rfl) rfl) i5cells_len rfl (by decide) (by decide) (by decide) hN ?_)
 clear hN
 intro g50 w50 (hN : Now w2' (foots [.ownm i5cells 5 98 (v15) (out), .own vI 3 (vr) ((rk).set (z13).toNat ((r : Int))), .ownm i5cells 5 98 (vw) (ways), .blk g7 [vr, vw] 28, .blk g5 [.int .i64 ((n : Int)), iv2, lv3, ov2] 194, .blk g2 [.slice none 0 0, .slice none 0 0] 28, .blk g1 [.int .i64 ((n : Int)), v, kv] 111]) w50 [_, _, _, _, _, _, _, _, _, _, _])
 refine ⟨(hN.sub [1, 2, 3, 4, 5, 7, 8, 9, 10] (by decide) rfl), ?_⟩
 refine RQ.do rfl rfl (opN_appendM Tryz.underlying26 inf98 rfl (by decide) i5cells_one i5cells_len hN 6 rfl rfl (hN.sm 0 rfl) rfl (by (try simp only [List.length_append, List.length_singleton, List.length_cons, List.length_nil, List.length_map, List.length_take]); omega) (by decide) ?_)
 clear hN
 intro v51 w51 (hN : Now w2' (foots [.ownm i5cells 5 98 (v15) (out), .own vI 3 (vr) ((rk).set (z13).toNat ((r : Int))), .ownm i5cells 5 98 (vw) (ways), .blk g7 [vr, vw] 28, .blk g5 [.int .i64 ((n : Int)), iv2, lv3, ov2] 194, .blk g2 [.slice none 0 0, .slice none 0 0] 28, .blk g1 [.int .i64 ((n : Int)), v, kv] 111]) w51 [_, _, _, _, _, _, _, _, _, _, _])
 refine ⟨(hN.sub [1, 2, 3, 4, 5, 7, 8, 9, 10] (by decide) rfl), ?_⟩
 refine RQ.ev rfl rfl (fun w hS => (ev_fieldAddr Tryz.underlying28 rfl sz26 (by decide) rfl)) ?_
 refine RQ.last rfl rfl (opN_store sz26 rfl rfl (hN.sm 6 rfl).cells1 (hN.sm 6 rfl).one1 hN 7 rfl (Nat.le_of_ble_eq_true rfl) ?_)
 clear hN
 intro w52 (hN : Now w2' (foots [.ownm i5cells 5 98 (v15) (out), .own vI 3 (vr) ((rk).set (z13).toNat ((r : Int))), .ownm i5cells 5 98 (vw) (ways), .blk g7 [vr, vw] 28, .blk g5 [.int .i64 ((n : Int)), iv2, lv3, ov2] 194, .blk g2 [.slice none 0 0, .slice none 0 0] 28, .blk g1 [.int .i64 ((n : Int)), v, kv] 111]) w52 [_, _, _, _, _, _, _, _, _, _, _])
 refine RZ.done (by kernel_rfl) (blockN (thenN (RW.region (RL.ev (v := .int .i64 ((i4 : Int))) rfl rfl ev_move (RL.ev rfl rfl (ev_arith rfl rfl rfl (add64 (by omega) (by omega))) (RL.ev (v := .int .i64 ((i4 : Int) + 1)) rfl rfl ev_assign (RL.nil (thenN ?_))))))))
 exact ⟨k4 - 1, by omega, v51, ways4 ++ [(ad, z13, ((wayOf (putAll n ins2 ls2 out) ad z13).getD (0, 0, 0)).1, ((wayOf (putAll n ins2 ls2 out) ad z13).getD (0, 0, 0)).2.1, ((wayOf (putAll n ins2 ls2 out) ad z13).getD (0, 0, 0)).2.2)], i4 + 1, rfl, rfl, rfl, rfl, rfl, rfl, rfl, rfl, (hN.sub [2, 3, 4, 5, 6, 7, 8, 9, 10] (by decide) rfl), by omega, by rw [map_take_succ _ had, hways4, List.append_assoc]; rfl, by (try simp only [List.length_append, List.length_singleton]); omega⟩
 refine (opN_alloc (cs := [.int .i64 (0), .int .i64 (0), .int .i64 (0)]) zero96 rfl hN ?_)
 clear hN
 intro g53 w53 (hN : Now w2' (foots [.ownm i5cells 5 98 (v15) (out), .own vI 3 (vr) ((rk).set (z13).toNat ((r : Int))), .ownm i5cells 5 98 (vw) (ways), .blk g7 [vr, vw] 28, .blk g5 [.int .i64 ((n : Int)), iv2, lv3, ov2] 194, .blk g2 [.slice none 0 0, .slice none 0 0] 28, .blk g1 [.int .i64 ((n : Int)), v, kv] 111]) w53 [_, _, _, _, _, _, _, _, _, _])
 refine ⟨(hN.sub [1, 2, 3, 4, 5, 6, 7, 8, 9] (by decide) rfl), ?_⟩
 refine RQ.do rfl rfl (op_call3 Tryz.func137 rfl rfl rfl rfl rfl ((way_calls n _ _ _ ins2 (putAll n ins2 ls2 out) lost2 _ ((hGi.step hF16).now hN) (hGl3.now hN) ((hGo.step hF16).now hN) ad z13).mono ?_))
 rintro _ w54 ⟨rfl, he_⟩
 replace hN := hN.ext he_
 clear he_
 refine ⟨(hN.sub [1, 2, 3, 4, 5, 6, 7, 8, 9] (by decide) rfl), ?_⟩
 refine RQ.ev (v := .tuple #[.agg #[.int .i64 (((wayOf (putAll n ins2 ls2 out) ad z13).getD (0, 0, 0)).1), .int .i64 (((wayOf (putAll n ins2 ls2 out) ad z13).getD (0, 0, 0)).2.1), .int .i64 (((wayOf (putAll n ins2 ls2 out) ad z13).getD (0, 0, 0)).2.2)], .bool (decide (HasWay (putAll n ins2 ls2 out) ad z13))]) rfl rfl (fun w hS => ev_move) ?_
 iterate 2 refine RQ.ev rfl rfl (fun w hS => (ev_extract rfl rfl)) ?_
 refine RQ.do rfl rfl (opN_storeAll (vs := [.int .i64 (((wayOf (putAll n ins2 ls2 out) ad z13).getD (0, 0, 0)).1), .int .i64 (((wayOf (putAll n ins2 ls2 out) ad z13).getD (0, 0, 0)).2.1), .int .i64 (((wayOf (putAll n ins2 ls2 out) ad z13).getD (0, 0, 0)).2.2)]) sz96 rfl rfl rfl (by intro u hu; simp only [List.mem_cons, List.not_mem_nil, or_false] at hu; rcases hu with rfl | rfl | rfl <;> first | rfl) hN 0 rfl rfl ?_)
 clear hN
 intro w55 (hN : Now w2' (foots [.ownm i5cells 5 98 (v15) (out), .own vI 3 (vr) ((rk).set (z13).toNat ((r : Int))), .ownm i5cells 5 98 (vw) (ways), .blk g7 [vr, vw] 28, .blk g5 [.int .i64 ((n : Int)), iv2, lv3, ov2] 194, .blk g2 [.slice none 0 0, .slice none 0 0] 28, .blk g1 [.int .i64 ((n : Int)), v, kv] 111]) w55 [_, _, _, _, _, _, _, _, _, _])
 refine ⟨(hN.sub [1, 2, 3, 4, 5, 6, 7, 8, 9] (by decide) rfl), ?_⟩
 refine RQ.ev (v := .bool (decide (HasWay (putAll n ins2 ls2 out) ad z13))) rfl rfl (fun w hS => ev_assign) (RQ.done (by kernel_rfl) (thenN ?_))
 replace hN := hN.ext (Ext.drew w55)
 refine RW.drawR rfl (fun u => Now w2' (foots [.ownm i5cells 5 98 (v15) (out), .own vI 3 (vr) ((rk).set (z13).toNat ((r : Int))), .ownm i5cells 5 98 (vw) (ways), .blk g7 [vr, vw] 28, .blk g5 [.int .i64 ((n : Int)), iv2, lv3, ov2] 194, .blk g2 [.slice none 0 0, .slice none 0 0] 28, .blk g1 [.int .i64 ((n : Int)), v, kv] 111]) u [.blk g53 [.int .i64 (((wayOf (putAll n ins2 ls2 out) ad z13).getD (0, 0, 0)).1), .int .i64 (((wayOf (putAll n ins2 ls2 out) ad z13).getD (0, 0, 0)).2.1), .int .i64 (((wayOf (putAll n ins2 ls2 out) ad z13).getD (0, 0, 0)).2.2)] 96, .own vI 3 (v44) (insOf (putAll n ins2 ls2 out) z13 n), .own vI 3 (v28) (outsOf (putAll n ins2 ls2 out) z13 n), .ownm i5cells 5 98 (v15) (out), .own vI 3 (vr) ((rk).set (z13).toNat ((r : Int))), .blk g7 [vr, vw4] 28, .blk g5 [.int .i64 ((n : Int)), iv2, lv3, ov2] 194, .blk g2 [.slice none 0 0, .slice none 0 0] 28, .blk g1 [.int .i64 ((n : Int)), v, kv] 111]) 12 [(0,0), (1,0), (2,0), (3,0), (4,0), (5,0), (6,0), (7,0), (8,0), (9,1), (10,1), (11,0), (12,2)] (by intro _ _ _ h; exact h) (by kernel_rfl) (hN.sub [0, 1, 2, 3, 4, 6, 7, 8, 9] (by decide) rfl) (RQ.ev rfl rfl (fun w hS => (ev_fieldAddr Tryz.underlying28 rfl sz26 (by decide) rfl)) (RQ.ev rfl rfl (fun w hS => (ev_loadB Tryz.underlying26 rfl rfl (hS.blk 5 rfl) rfl)) (RQ.ev (v := v44) rfl rfl (fun w hS => ev_move) (RQ.ev (v := .int .i64 ((i4 : Int))) rfl rfl (fun w hS => ev_move) (RQ.ev rfl rfl (fun w hS => (ev_index Tryz.underlying25 sz3 (hS.sl 1 rfl) rfl rfl (by omega) (by omega))) (RQ.ev rfl rfl (fun w hS => (ev_loadG (m := i4) (a := ad) Tryz.underlying3 rfl (hS.sl 1 rfl) rfl had)) ?_))))))
 refine RQ.ev (v := .int .i64 (z13)) rfl rfl (fun w hS => ev_move) (RQ.ev rfl rfl (fun w hS => (ev_loadAll (cs := [.int .i64 (((wayOf (putAll n ins2 ls2 out) ad z13).getD (0, 0, 0)).1), .int .i64 (((wayOf (putAll n ins2 ls2 out) ad z13).getD (0, 0, 0)).2.1), .int .i64 (((wayOf (putAll n ins2 ls2 out) ad z13).getD (0, 0, 0)).2.2)]) Tryz.underlying96 rfl sz96 rfl (hS.blk 0 rfl))) (RQ.ev rfl rfl (fun w hS => (ev_buildL (cs := [.int .i64 (ad), .int .i64 (z13), .int .i64 (((wayOf (putAll n ins2 ls2 out) ad z13).getD (0, 0, 0)).1), .int .i64 (((wayOf (putAll n ins2 ls2 out) ad z13).getD (0, 0, 0)).2.1), .int .i64 (((wayOf (putAll n ins2 ls2 out) ad z13).getD (0, 0, 0)).2.2)]) Tryz.underlying98 zero98 (places := #[(0, 1), (1, 1), (2, 3)]) (by intro w; kernel_rfl) (pl := [(0, .tmp 143), (1, .tmp 144), (2, .tmp 145)]) rfl (ps := [(0, .int .i64 (ad)), (1, .int .i64 (z13)), (2, .agg #[.int .i64 (((wayOf (putAll n ins2 ls2 out) ad z13).getD (0, 0, 0)).1), .int .i64 (((wayOf (putAll n ins2 ls2 out) ad z13).getD (0, 0, 0)).2.1), .int .i64 (((wayOf (putAll n ins2 ls2 out) ad z13).getD (0, 0, 0)).2.2)])]) rfl (zc := [.int .i64 (0), .int .i64 (0), .int .i64 (0), .int .i64 (0), .int .i64 (0)]) rfl (fill_step (vs := [.int .i64 (ad)]) rfl rfl (Nat.le_of_ble_eq_true rfl) (fill_step (vs := [.int .i64 (z13)]) rfl rfl (Nat.le_of_ble_eq_true rfl) (fill_step (vs := [.int .i64 (((wayOf (putAll n ins2 ls2 out) ad z13).getD (0, 0, 0)).1), .int .i64 (((wayOf (putAll n ins2 ls2 out) ad z13).getD (0, 0, 0)).2.1), .int .i64 (((wayOf (putAll n ins2 ls2 out) ad z13).getD (0, 0, 0)).2.2)]) rfl rfl (Nat.le_of_ble_eq_true rfl) rfl))))) ?_))
 refine RQ.do rfl rfl (opN_litM (cf := i5cells) (s := 5) (pl := [(0, .tmp 146)]) (ps := [(0, .agg #[.int .i64 (ad), .int .i64 (z13), .int .i64 (((wayOf (putAll n ins2 ls2 out) ad z13).getD (0, 0, 0)).1), .int .i64 (((wayOf (putAll n ins2 ls2 out) ad z13).getD (0, 0, 0)).2.1), .int .i64 (((wayOf (putAll n ins2 ls2 out) ad z13).getD (0, 0, 0)).2.2)])]) (zc := [.int .i64 (0), .int .i64 (0), .int .i64 (0), .int .i64 (0), .int .i64 (0)]) (l := [(ad, z13, ((wayOf (putAll n ins2 ls2 out) ad z13).getD (0, 0, 0)).1, ((wayOf (putAll n ins2 ls2 out) ad z13).getD (0, 0, 0)).2.1, ((wayOf (putAll n ins2 ls2 out) ad z13).getD (0, 0, 0)).2.2)]) Tryz.underlying26 inf98 (by kernel_rfl) rfl rfl (fill_step (vs := [.int .i64 (ad), .int .i64 (z13), .int .i64 (((wayOf (putAll n ins2 ls2 out) ad z13).getD (0, 0, 0)).1), .int .i64 (((wayOf (putAll n ins2 ls2 out) ad z13).getD (0, 0, 0)).2.1), .int .i64 (((wayOf (putAll n ins2 ls2 out) ad z13).getD (0, 0, 0)).2.2)]) rfl rfl (Nat.le_of_ble_eq_true rfl) rfl) i5cells_len rfl (by decide) (by decide) (by decide) hN ?_)
 clear hN
 intro g57 w57 (hN : Now w2' (foots [.ownm i5cells 5 98 (v15) (out), .own vI 3 (vr) ((rk).set (z13).toNat ((r : Int))), .ownm i5cells 5 98 (vw) (ways), .blk g7 [vr, vw] 28, .blk g5 [.int .i64 ((n : Int)), iv2, lv3, ov2] 194, .blk g2 [.slice none 0 0, .slice none 0 0] 28, .blk g1 [.int .i64 ((n : Int)), v, kv] 111]) w57 [_, _, _, _, _, _, _, _, _, _, _])
 refine ⟨(hN.sub [1, 2, 3, 4, 5, 7, 8, 9, 10] (by decide) rfl), ?_⟩
 refine RQ.do rfl rfl (opN_appendM Tryz.underlying26 inf98 rfl (by decide) i5cells_one i5cells_len hN 6 rfl rfl (hN.sm 0 rfl) rfl (by (try simp only [List.length_append, List.length_singleton, List.length_cons, List.length_nil, List.length_map, List.length_take]); omega) (by decide) ?_)
 clear hN
 intro v58 w58 (hN : Now w2' (foots [.ownm i5cells 5 98 (v15) (out), .own vI 3 (vr) ((rk).set (z13).toNat ((r : Int))), .ownm i5cells 5 98 (vw) (ways), .blk g7 [vr, vw] 28, .blk g5 [.int .i64 ((n : Int)), iv2, lv3, ov2] 194, .blk g2 [.slice none 0 0, .slice none 0 0] 28, .blk g1 [.int .i64 ((n : Int)), v, kv] 111]) w58 [_, _, _, _, _, _, _, _, _, _, _])
 refine ⟨(hN.sub [1, 2, 3, 4, 5, 7, 8, 9, 10] (by decide) rfl), ?_⟩
 refine RQ.ev rfl rfl (fun w hS => (ev_fieldAddr Tryz.underlying28 rfl sz26 (by decide) rfl)) ?_
 refine RQ.last rfl rfl (opN_store sz26 rfl rfl (hN.sm 6 rfl).cells1 (hN.sm 6 rfl).one1 hN 7 rfl (Nat.le_of_ble_eq_true rfl) ?_)
 clear hN
 intro w59 (hN : Now w2' (foots [.ownm i5cells 5 98 (v15) (out), .own vI 3 (vr) ((rk).set (z13).toNat ((r : Int))), .ownm i5cells 5 98 (vw) (ways), .blk g7 [vr, vw] 28, .blk g5 [.int .i64 ((n : Int)), iv2, lv3, ov2] 194, .blk g2 [.slice none 0 0, .slice none 0 0] 28, .blk g1 [.int .i64 ((n : Int)), v, kv] 111]) w59 [_, _, _, _, _, _, _, _, _, _, _])
 refine RZ.done (by kernel_rfl) (blockN (thenN (RW.region (RL.ev (v := .int .i64 ((i4 : Int))) rfl rfl ev_move (RL.ev rfl rfl (ev_arith rfl rfl rfl (add64 (by omega) (by omega))) (RL.ev (v := .int .i64 ((i4 : Int) + 1)) rfl rfl ev_assign (RL.nil (thenN ?_))))))))
 exact ⟨k4 - 1, by omega, v58, ways4 ++ [(ad, z13, ((wayOf (putAll n ins2 ls2 out) ad z13).getD (0, 0, 0)).1, ((wayOf (putAll n ins2 ls2 out) ad z13).getD (0, 0, 0)).2.1, ((wayOf (putAll n ins2 ls2 out) ad z13).getD (0, 0, 0)).2.2)], i4 + 1, rfl, rfl, rfl, rfl, rfl, rfl, rfl, rfl, (hN.sub [2, 3, 4, 5, 6, 7, 8, 9, 10] (by decide) rfl), by omega, by rw [map_take_succ _ had, hways4, List.append_assoc]; rfl, by (try simp only [List.length_append, List.length_singleton]); omega⟩
 refine RW.exit ?_
 iterate 2 refine thenX ?_
 refine blockHit (thenN (RW.seq ?_))
 have hw3_ : ways3 = ways ++ (outsOf (putAll n ins2 ls2 out) z13 n).map (wOut (putAll n ins2 ls2 out) z13) := by rw [hways3, show i3 = (outsOf (putAll n ins2 ls2 out) z13 n).length by omega, List.take_length]
 have hw4_ : ways4 = stepW n (putAll n ins2 ls2 out) z13 ways := by rw [hways4, show i4 = (insOf (putAll n ins2 ls2 out) z13 n).length by omega, List.take_length, hw3_]; rfl
 have hl4_ := putAll_len n ins2 out ls2
 refine RW.region (RL.ev rfl rfl (ev_loadAll (cs := [.int .i64 ((n : Int)), iv2, lv3, ov2]) Tryz.underlying194 rfl sz194 rfl (hN.blk 6 rfl)) (RL.ev (v := .int .i64 (z13)) rfl rfl ev_move ?_))
 refine RL.op rfl rfl (op_call2 Tryz.func139 rfl rfl rfl rfl ((takeG_calls (foots [.own vI 3 (v44) (insOf (putAll n ins2 ls2 out) z13 n), .own vI 3 (v28) (outsOf (putAll n ins2 ls2 out) z13 n), .ownm i5cells 5 98 (v15) (out), .own vI 3 (vr) ((rk).set (z13).toNat ((r : Int))), .ownm i5cells 5 98 (vw4) (ways4), .blk g7 [vr, vw4] 28, .blk g5 [.int .i64 ((n : Int)), iv2, lv3, ov2] 194, .blk g2 [.slice none 0 0, .slice none 0 0] 28, .blk g1 [.int .i64 ((n : Int)), v, kv] 111]) (fun k hk => hN.feetLt hk) n _ _ _ ins2 (putAll n ins2 ls2 out) lost2 z13 ((hGi.step hF16).step hN) (SmO.step i5cells_ne hGl3 hN) ((hGo.step hF16).step hN) hin hB.tok.ins hlo2 (by omega) (by omega)).mono ?_))
 rintro _ w60 ⟨iv60, lv60, ov60, lost60, b60, rfl, hTi60, hTl60, hTo60, hlo60, he_⟩
 replace hN := hN.ext he_
 clear he_
 have hF61 := hN
 clear hN
 have hN := hF61.here
 replace hN : Now w60 (foots [.own vI 3 (v44) (insOf (putAll n ins2 ls2 out) z13 n), .own vI 3 (v28) (outsOf (putAll n ins2 ls2 out) z13 n), .ownm i5cells 5 98 (v15) (out), .own vI 3 (vr) ((rk).set (z13).toNat ((r : Int))), .ownm i5cells 5 98 (vw4) (ways4), .blk g7 [vr, vw4] 28, .blk g5 [.int .i64 ((n : Int)), iv2, lv3, ov2] 194, .blk g2 [.slice none 0 0, .slice none 0 0] 28, .blk g1 [.int .i64 ((n : Int)), v, kv] 111]) w60 [.own vI 3 (v44) (insOf (putAll n ins2 ls2 out) z13 n), .own vI 3 (v28) (outsOf (putAll n ins2 ls2 out) z13 n), .ownm i5cells 5 98 (v15) (out), .own vI 3 (vr) ((rk).set (z13).toNat ((r : Int))), .ownm i5cells 5 98 (vw4) (ways4), .blk g7 [vr, vw4] 28, .blk g5 [.int .i64 ((n : Int)), iv2, lv3, ov2] 194, .blk g2 [.slice none 0 0, .slice none 0 0] 28, .blk g1 [.int .i64 ((n : Int)), v, kv] 111] := hN
 refine RL.ev (v := .tuple #[.agg #[.int .i64 ((n : Int)), iv60, lv60, ov60], .bool b60]) rfl rfl ev_move ?_
 iterate 2 refine RL.ev rfl rfl (ev_extract rfl rfl) ?_
 refine RL.op rfl rfl (opN_alloc (cs := [.int .i64 (0), .slice none 0 0, .slice none 0 0, .slice none 0 0]) zero194 rfl hN ?_)
 clear hN
 intro g62 w62 (hN : Now w60 (foots [.own vI 3 (v44) (insOf (putAll n ins2 ls2 out) z13 n), .own vI 3 (v28) (outsOf (putAll n ins2 ls2 out) z13 n), .ownm i5cells 5 98 (v15) (out), .own vI 3 (vr) ((rk).set (z13).toNat ((r : Int))), .ownm i5cells 5 98 (vw4) (ways4), .blk g7 [vr, vw4] 28, .blk g5 [.int .i64 ((n : Int)), iv2, lv3, ov2] 194, .blk g2 [.slice none 0 0, .slice none 0 0] 28, .blk g1 [.int .i64 ((n : Int)), v, kv] 111]) w62 [_, _, _, _, _, _, _, _, _, _])
 refine RL.op rfl rfl (opN_storeAll (vs := [.int .i64 ((n : Int)), iv60, lv60, ov60]) sz194 rfl rfl rfl (by intro u hu; simp only [List.mem_cons, List.not_mem_nil, or_false] at hu; rcases hu with rfl | rfl | rfl | rfl <;> first | rfl | exact (hTi60.now hN).one1 | exact (hTl60.now hN).one1 | exact (hTo60.now hN).one1) hN 0 rfl rfl ?_)
 clear hN
 intro w63 (hN : Now w60 (foots [.own vI 3 (v44) (insOf (putAll n ins2 ls2 out) z13 n), .own vI 3 (v28) (outsOf (putAll n ins2 ls2 out) z13 n), .ownm i5cells 5 98 (v15) (out), .own vI 3 (vr) ((rk).set (z13).toNat ((r : Int))), .ownm i5cells 5 98 (vw4) (ways4), .blk g7 [vr, vw4] 28, .blk g5 [.int .i64 ((n : Int)), iv2, lv3, ov2] 194, .blk g2 [.slice none 0 0, .slice none 0 0] 28, .blk g1 [.int .i64 ((n : Int)), v, kv] 111]) w63 [_, _, _, _, _, _, _, _, _, _])
 refine RL.ev (v := .bool b60) rfl rfl ev_assign (RL.nil (thenN (RW.region (RL.ev rfl rfl (ev_loadAll (cs := [.int .i64 ((n : Int)), iv60, lv60, ov60]) Tryz.underlying194 rfl sz194 rfl (hN.blk 0 rfl)) ?_))))
 refine RL.op rfl rfl (opN_storeAll (vs := [.int .i64 ((n : Int)), iv60, lv60, ov60]) sz194 rfl rfl rfl (by intro u hu; simp only [List.mem_cons, List.not_mem_nil, or_false] at hu; rcases hu with rfl | rfl | rfl | rfl <;> first | rfl | exact (hTi60.now hN).one1 | exact (hTl60.now hN).one1 | exact (hTo60.now hN).one1) hN 7 rfl rfl ?_)
 clear hN
 intro w64 (hN : Now w60 (foots [.own vI 3 (v44) (insOf (putAll n ins2 ls2 out) z13 n), .own vI 3 (v28) (outsOf (putAll n ins2 ls2 out) z13 n), .ownm i5cells 5 98 (v15) (out), .own vI 3 (vr) ((rk).set (z13).toNat ((r : Int))), .ownm i5cells 5 98 (vw4) (ways4), .blk g7 [vr, vw4] 28, .blk g5 [.int .i64 ((n : Int)), iv2, lv3, ov2] 194, .blk g2 [.slice none 0 0, .slice none 0 0] 28, .blk g1 [.int .i64 ((n : Int)), v, kv] 111]) w64 [_, _, _, _, _, _, _, _, _, _])
 refine RL.nil (blockN (thenN (RW.region (RL.ev (v := .int .i64 ((r : Int))) rfl rfl ev_move (RL.ev rfl rfl (ev_arith rfl rfl rfl (add64 (by omega) (by omega))) (RL.ev (v := .int .i64 ((r : Int) + 1)) rfl rfl ev_assign (RL.nil (thenN ?_))))))))
 exact ⟨k1 - 1, by omega, vr, (rk).set (z13).toNat ((r : Int)), vw4, ways4, iv60, (ins2.set (z13).toNat 0), lv60, (takeT (putAll n ins2 ls2 out) z13), ov60, lost60, r + 1, rfl, rfl, rfl, rfl, rfl, (hF12.back (hF16.back (hF61.back (hN.sub [4, 5, 6, 7, 8, 9] (by decide) rfl)))), by omega, by rw [hw4_]; exact hB.step (by omega) hn hin hno, hlo60, by have := takeT_len (putAll n ins2 ls2 out) z13; omega, hTi60.step (hN.sub [4, 5, 6, 7, 8, 9] (by decide) rfl), SmO.step i5cells_ne hTl60 (hN.sub [4, 5, 6, 7, 8, 9] (by decide) rfl), hTo60.step (hN.sub [4, 5, 6, 7, 8, 9] (by decide) rfl)⟩
 refine RW.exit ?_
 iterate 2 refine thenX ?_
 refine blockHit (thenN (RW.seq (RW.region (RL.ev rfl rfl (ev_loadAll (cs := [vr, vw]) Tryz.underlying28 rfl sz28 rfl (hN.blk 2 rfl)) ?_))))
 refine RL.op rfl rfl (opN_storeAll (vs := [vr, vw]) sz28 rfl rfl rfl (by intro u hu; simp only [List.mem_cons, List.not_mem_nil, or_false] at hu; rcases hu with rfl | rfl <;> first | rfl | exact (hN.sl 0 rfl).one1 | exact (hN.sm 1 rfl).one1) hN 4 rfl rfl ?_)
 clear hN
 intro w65 (hN : Now w1' (foots [.own vI 3 (vr) (rk), .ownm i5cells 5 98 (vw) (ways), .blk g7 [vr, vw] 28, .blk g5 [.int .i64 ((n : Int)), iv2, lv2, ov2] 194, .blk g2 [.slice none 0 0, .slice none 0 0] 28, .blk g1 [.int .i64 ((n : Int)), v, kv] 111]) w65 [_, _, _, _, _, _])
 refine RL.nil (thenN (RW.ret (retI (RV.cell rfl rfl (hN.blk 4 rfl) Tryz.underlying28 rfl sz28) ?_)))
 have hr_ : r = n := by omega
 subst hr_
 exact ⟨_, _, _, _, _, _, rfl, (hF4.back (hF12.back hN)).sub [0, 1] (by decide) rfl, hB⟩
end Go.Proofs.YtngkdkbpgoddlaaGreat
set_option linter.unusedVariables false
set_option linter.unusedSimpArgs false
namespace Go.Proofs.YtngkdkbpgoddlaaGreat
open Go.RowKit Go.Rl
open Go.Gr
set_option maxHeartbeats 4000000 in
set_option maxRecDepth 100000 in
theorem hof_calls (n : Nat) (v : Value) (l : List I3) (w : World) (hv : Sm i3cells w v l) (hok : mchk (n : Int) l = 0) (hl : l.length ≤ 40) (hn : n ≤ 12) : Gives Tryz.prog 25 #[.agg #[.int .i64 (n : Int), v]] w fun r w' => ∃ rv wv rk ways ins ls, r = .agg #[rv, wv] ∧ Now w none_ w' [.own vI 3 rv rk, .ownm i5cells 5 98 wv ways] ∧ BOk n l n rk ways ins ls := by
 refine Gives.start Tryz.func25 rfl (Nat.le_of_ble_eq_true rfl) ?_
 rw [args1]
 have hN := Now.nil w none_
 have hla := (mchk_ok hok).2.2.2
 refine RW.seq (RW.region ?_)
 refine RL.op rfl rfl (opN_box (cs := [.int .i64 ((n : Int)), v]) rfl rfl hN ?_)
 clear hN
 intro g1 w1 (hN : Now w none_ w1 [_])
 refine RL.op rfl rfl (opN_alloc (cs := [.slice none 0 0, .slice none 0 0]) zero28 rfl hN ?_)
 clear hN
 intro g2 w2 (hN : Now w none_ w2 [_, _])
 refine RL.nil (thenN (RW.seq (RW.region (RL.ev rfl rfl (ev_loadAll (cs := [.int .i64 ((n : Int)), v]) Tryz.underlying24 rfl sz24 rfl (hN.blk 1 rfl)) ?_))))
 refine RL.op rfl rfl (op_call1 Tryz.func58 rfl rfl rfl ((gnew_calls ((n : Int)) _ l _ (hv.o.now hN) hok).mono ?_))
 rintro _ w3 ⟨kv3, rfl, ho_, he_⟩
 replace hN : Now w none_ w3 [_, _, _] := hN.pushOwn ho_ he_
 clear ho_ he_
 refine RL.ev (v := .tuple #[.agg #[.int .i64 ((n : Int)), v, kv3], .bool true]) rfl rfl ev_move ?_
 iterate 2 refine RL.ev rfl rfl (ev_extract rfl rfl) ?_
 refine RL.op rfl rfl (opN_alloc (cs := [.int .i64 (0), .slice none 0 0, .slice none 0 0]) zero111 rfl hN ?_)
 clear hN
 intro g4 w4 (hN : Now w none_ w4 [_, _, _, _])
 refine RL.op rfl rfl (opN_storeAll (vs := [.int .i64 ((n : Int)), v, kv3]) sz111 rfl rfl rfl (by intro u hu; simp only [List.mem_cons, List.not_mem_nil, or_false] at hu; rcases hu with rfl | rfl | rfl <;> first | rfl | exact (hN.sl 1 rfl).one1 | exact (hv.o.now hN).one1) hN 0 rfl rfl ?_)
 clear hN
 intro w5 (hN : Now w none_ w5 [_, _, _, _])
 refine RL.ev (v := .bool true) rfl rfl ev_assign (RL.nil (thenN (RW.seq (RW.region (RL.ev rfl rfl (ev_loadAll (cs := [.int .i64 ((n : Int)), v, kv3]) Tryz.underlying111 rfl sz111 rfl (hN.blk 0 rfl)) ?_)))))
 refine RL.op rfl rfl (op_call1 Tryz.func60 rfl rfl rfl ((build_calls n _ l _ (kept l) _ (hv.o.now hN) (hN.sl 1 rfl) (kept_len _) hl hn hla rfl).mono ?_))
 rintro _ w6 ⟨rv, wv, rk, ways, ins, ls, rfl, hC_, hB⟩
 replace hN : Now w none_ w6 [_, _, _, _, _, _] := hN.call0 hC_
 clear hC_
 refine RL.op rfl rfl (opN_storeAll (vs := [rv, wv]) sz28 rfl rfl rfl (by intro u hu; simp only [List.mem_cons, List.not_mem_nil, or_false] at hu; rcases hu with rfl | rfl <;> first | rfl | exact (hN.sl 0 rfl).one1 | exact (hN.sm 1 rfl).one1) hN 4 rfl rfl ?_)
 clear hN
 intro w7 (hN : Now w none_ w7 [_, _, _, _, _, _])
 refine RL.nil (thenN (RW.ret (retI (RV.cell rfl rfl (hN.blk 4 rfl) Tryz.underlying28 rfl sz28) ?_)))
 exact ⟨_, _, _, _, _, _, rfl, hN.sub [0, 1] (by decide) rfl, hB⟩
set_option maxHeartbeats 4000000 in
set_option maxRecDepth 100000 in
theorem make_calls (n : Nat) (v : Value) (l : List I3) (kk : Int) (w : World) (hv : Sm i3cells w v l) (hok : mchk (n : Int) l = 0) (hl : l.length ≤ 40) (hn : n ≤ 12) : Gives Tryz.prog 8 #[.agg #[.int .i64 (n : Int), v], .int .i64 kk] w fun r w' => ∃ rv wv rk ways ins ls gv fv ov iv sov siv hsf far hso outs hsi inss hsso so hssi si, r = .tuple #[.agg #[.int .i64 (n : Int), v, rv, wv, gv, fv, ov, iv, sov, siv], .int .i64 0] ∧ Now w none_ w' [.own vI 3 rv rk, .ownm i5cells 5 98 wv ways, .own vI 3 gv (greatOf rk (lowOf (rk.length : Int) kk) rk.length), .own vh 25 fv hsf, .fam vI hsf far, .own vh 118 ov hso, .famm i2cells hso outs, .own vh 118 iv hsi, .famm i2cells hsi inss, .own vh 25 sov hsso, .fam vI hsso so, .own vh 25 siv hssi, .fam vI hssi si] ∧ BOk n l n rk ways ins ls ∧ GoodTab n rk (lowOf (rk.length : Int) kk) (greatOf rk (lowOf (rk.length : Int) kk) rk.length) far outs inss so si := by
 refine Gives.start Tryz.func8 rfl (Nat.le_of_ble_eq_true rfl) ?_
 rw [args2]
 have hN := Now.nil w none_
 refine RW.seq (RW.region ?_)
 refine RL.op rfl rfl (opN_box (cs := [.int .i64 ((n : Int)), v]) rfl rfl hN ?_)
 clear hN
 intro g1 w1 (hN : Now w none_ w1 [_])
 refine RL.op rfl rfl (opN_alloc (cs := [.int .i64 (0), .slice none 0 0, .slice none 0 0, .slice none 0 0, .slice none 0 0, .slice none 0 0, .slice none 0 0, .slice none 0 0, .slice none 0 0, .slice none 0 0]) zero34 rfl hN ?_)
 clear hN
 intro g2 w2 (hN : Now w none_ w2 [_, _])
 refine RL.ev (v := .int .i64 (0)) rfl rfl ev_assign (RL.nil (thenN (RW.seq (RW.region (RL.ev rfl rfl (ev_loadAll (cs := [.int .i64 ((n : Int)), v]) Tryz.underlying24 rfl sz24 rfl (hN.blk 1 rfl)) ?_)))))
 refine RL.op rfl rfl (op_call1 Tryz.func24 rfl rfl rfl ((mchk_zero ((n : Int)) _ l _ (hv.o.now hN) hok).mono ?_))
 rintro _ w3 ⟨rfl, he_⟩
 replace hN := hN.ext he_
 clear he_
 refine RL.ev (v := .int .i64 (0)) rfl rfl ev_assign (RL.nil (thenN ?_))
 iterate 2 refine RW.seq ?_
 refine RW.region (RL.ev (v := .int .i64 (0)) rfl rfl ev_move (RL.ev rfl rfl (ev_false (ev_neq rfl rfl) (fun h => h rfl)) (RL.nil (thenN (RW.condF rfl (RW.skip (thenN (RW.seq (RW.region ?_)))))))))
 refine RL.ev rfl rfl (ev_loadAll (cs := [.int .i64 ((n : Int)), v]) Tryz.underlying24 rfl sz24 rfl (hN.blk 1 rfl)) ?_
 refine RL.op rfl rfl (op_call1 Tryz.func25 rfl rfl rfl ((hof_calls n _ l _ (hv.o.now hN) hok hl hn).mono ?_))
 rintro _ w4 ⟨rv, wv, rk, ways, ins, ls, rfl, hC_, hB⟩
 replace hN : Now w none_ w4 [_, _, _, _] := hN.call0 hC_
 clear hC_
 have hH := hB.hok
 refine RL.op rfl rfl (opN_alloc (cs := [.slice none 0 0, .slice none 0 0]) zero28 rfl hN ?_)
 clear hN
 intro g5 w5 (hN : Now w none_ w5 [_, _, _, _, _])
 refine RL.op rfl rfl (opN_storeAll (vs := [rv, wv]) sz28 rfl rfl rfl (by intro u hu; simp only [List.mem_cons, List.not_mem_nil, or_false] at hu; rcases hu with rfl | rfl <;> first | rfl | exact (hN.sl 1 rfl).one1 | exact (hN.sm 2 rfl).one1) hN 0 rfl rfl ?_)
 clear hN
 intro w6 (hN : Now w none_ w6 [_, _, _, _, _])
 refine RL.nil (thenN (RW.seq ?_))
 replace hN := hN.ext (Ext.drew w6)
 refine RW.drawR rfl (fun u => Now w none_ u [.blk g5 [rv, wv] 28, .own vI 3 (rv) (rk), .ownm i5cells 5 98 (wv) (ways), .blk g1 [.int .i64 ((n : Int)), v] 24]) 8 [(0,0), (1,0), (2,0), (3,0), (4,1), (5,0), (6,1), (7,0)] (by intro _ _ _ h; exact h) (by kernel_rfl) (hN.sub [0, 1, 2, 4] (by decide) rfl) (RQ.ev rfl rfl (fun w hS => (ev_loadAll (cs := [.int .i64 ((n : Int)), v]) Tryz.underlying24 rfl sz24 rfl (hS.blk 3 rfl))) ?_)
 iterate 2 refine RQ.ev rfl rfl (fun w hS => (ev_loadAll (cs := [rv, wv]) Tryz.underlying28 rfl sz28 rfl (hS.blk 0 rfl))) ?_
 refine RQ.ev (v := .int .i64 (kk)) rfl rfl (fun w hS => ev_move) ?_
 refine RQ.do rfl rfl (op_call2 Tryz.func26 rfl rfl rfl rfl ((tab_calls n _ _ rk ways _ (hN.sl 1 rfl) (hN.sm 2 rfl) hH kk hn).mono ?_))
 rintro _ w7 ⟨gv, fv, ov, iv, sov, siv, hsf, far, hso, outs, hsi, inss, hsso, so, hssi, si, rfl, hC_, hGT⟩
 replace hN : Now w none_ w7 [_, _, _, _, _, _, _, _, _, _, _, _, _, _, _, _] := hN.call0 hC_
 clear hC_
 refine ⟨(hN.sub [11, 12, 13, 15] (by decide) rfl), ?_⟩
 refine RQ.ev rfl rfl (fun w hS => (ev_buildL (cs := [.int .i64 ((n : Int)), v, rv, wv, gv, fv, ov, iv, sov, siv]) Tryz.underlying34 zero34 (places := #[(0, 2), (2, 2), (4, 6)]) (by intro w; kernel_rfl) (pl := [(0, .tmp 16), (1, .tmp 17), (2, .tmp 20)]) rfl (ps := [(0, .agg #[.int .i64 ((n : Int)), v]), (1, .agg #[rv, wv]), (2, .agg #[gv, fv, ov, iv, sov, siv])]) rfl (zc := [.int .i64 (0), .slice none 0 0, .slice none 0 0, .slice none 0 0, .slice none 0 0, .slice none 0 0, .slice none 0 0, .slice none 0 0, .slice none 0 0, .slice none 0 0]) rfl (fill_step (vs := [.int .i64 ((n : Int)), v]) rfl rfl (Nat.le_of_ble_eq_true rfl) (fill_step (vs := [rv, wv]) rfl rfl (Nat.le_of_ble_eq_true rfl) (fill_step (vs := [gv, fv, ov, iv, sov, siv]) rfl rfl (Nat.le_of_ble_eq_true rfl) rfl))))) ?_
 refine RQ.do rfl rfl (opN_storeAll (vs := [.int .i64 ((n : Int)), v, rv, wv, gv, fv, ov, iv, sov, siv]) sz34 rfl rfl rfl (by intro u hu; simp only [List.mem_cons, List.not_mem_nil, or_false] at hu; rcases hu with rfl | rfl | rfl | rfl | rfl | rfl | rfl | rfl | rfl | rfl <;> first | rfl | exact (hN.sl 0 rfl).one1 | exact (hN.sl 1 rfl).one1 | exact (hN.sl 12 rfl).one1 | exact (hN.sl 3 rfl).one1 | exact (hN.sl 5 rfl).one1 | exact (hN.sl 7 rfl).one1 | exact (hN.sl 9 rfl).one1 | exact (hN.sm 13 rfl).one1 | exact (hv.o.now hN).one1) hN 14 rfl rfl ?_)
 clear hN
 intro w8 (hN : Now w none_ w8 [_, _, _, _, _, _, _, _, _, _, _, _, _, _, _, _])
 refine ⟨(hN.sub [11, 12, 13, 15] (by decide) rfl), ?_⟩
 refine RQ.ev (v := .int .i64 (0)) rfl rfl (fun w hS => ev_assign) (RQ.done (by kernel_rfl) (thenN (RW.ret (retI (RV.cellTmp rfl rfl (run_cell (hN.blk 14 rfl) Tryz.underlying34 rfl sz34)) ?_))))
 exact ⟨_, _, _, _, _, _, _, _, _, _, _, _, _, _, _, _, _, _, _, _, _, _, rfl, hN.sub [12, 13, 0, 1, 2, 3, 4, 5, 6, 7, 8, 9, 10] (by decide) rfl, hB, hGT⟩
end Go.Proofs.YtngkdkbpgoddlaaGreat
set_option linter.unusedVariables false
namespace Go.Gr
open Go.Rl Go.ChangeShapes Go.WideShapes
def Fit (x : Int) : Prop := -9223372036854775808 ≤ x ∧ x ≤ 9223372036854775807
abbrev t3Sh : Sh := .cons (.int .i64) (.cons (.int .i64) (.cons (.int .i64) .nil))
def mk3 (a : t3Sh.ty) : I3 := (a.1, a.2.1, a.2.2.1)
def Fit3 (a : I3) : Prop := Fit a.1 ∧ Fit a.2.1 ∧ Fit a.2.2
def Fit2 (a : I2) : Prop := Fit a.1 ∧ Fit a.2
def Fit5 (a : I5) : Prop := Fit a.1 ∧ Fit a.2.1 ∧ Fit a.2.2.1 ∧ Fit a.2.2.2.1 ∧ Fit a.2.2.2.2
variable {w : World}
theorem int_rd {c : Value} {a : Int} (h : (Sh.int .i64).rd w [c] a) : c = .int .i64 a ∧ Fit a := by
  obtain ⟨h1, h2⟩ := h
  exact ⟨by simpa using h1, wf_i64 h2⟩
theorem t3_rd {cs : List Value} {a : t3Sh.ty} (h : t3Sh.rd w cs a) : cs = i3cells (mk3 a) ∧ Fit3 (mk3 a) := by
  have hlen := t3Sh.rd_len h
  match cs, hlen with
  | [c1, c2, c3], _ =>
    obtain ⟨h1, h2, h3, _⟩ := h
    have e1 := int_rd h1
    have e2 := int_rd h2
    have e3 := int_rd h3
    exact ⟨by rw [e1.1, e2.1, e3.1]; rfl, e1.2, e2.2, e3.2⟩
theorem sl_tuple {sh : Sh} {α : Type} {cf : α → List Value} {s : Nat} {mk : sh.ty → α} {Pr : α → Prop} (hmk : ∀ cs a, sh.rd w cs a → cs = cf (mk a) ∧ Pr (mk a)) (hc : sh.cells = s) (hcf : ∀ a, (cf a).length = s) {c : Value} {l : List sh.ty} (h : (Sh.sl sh).rd w [c] l) :
    Sm cf w c (l.map mk) ∧ ∀ x ∈ l.map mk, Pr x := by
  obtain ⟨A, cap, hcs, h1, h2, h3⟩ := h
  cases hcs
  refine ⟨⟨A, cap, by rw [List.length_map], by rw [List.length_map]; exact h1, h2, fun q v hq => ?_⟩, fun x hx => ?_⟩
  · have hql : q < l.length * s := by
      have := (List.getElem?_eq_some_iff.1 hq).1
      rwa [flatMap_len hcf, List.length_map] at this
    have hs : 0 < s := by
      rcases Nat.eq_zero_or_pos s with e | e
      · rw [e, Nat.mul_zero] at hql; omega
      · exact e
    have hi : q / s < l.length := Nat.div_lt_of_lt_mul (by rw [Nat.mul_comm]; exact hql)
    have e : q = (q / s) * s + q % s := by rw [Nat.mul_comm]; exact (Nat.div_add_mod q s).symm
    have hm : (l.map mk)[q / s]? = some (mk l[q / s]) := by rw [List.getElem?_map, List.getElem?_eq_getElem hi]; rfl
    rw [e, flatMap_get hcf hm (Nat.mod_lt _ hs)] at hq
    obtain ⟨cs', g1, g2, g3⟩ := h3 (q / s) _ (List.getElem?_eq_getElem hi)
    rw [(hmk _ _ g2).1] at g3
    obtain ⟨ad, e1, e2⟩ := g3 _ _ hq
    rw [hc, ← e] at e2
    exact ⟨ad, e1, e2⟩
  · obtain ⟨a, ha, rfl⟩ := List.mem_map.1 hx
    obtain ⟨i, hi⟩ := List.getElem?_of_mem ha
    obtain ⟨cs', g1, g2, g3⟩ := h3 i a hi
    exact (hmk _ _ g2).2
section
variable {H : Type} {enc : TypeId × Value → H} {P : Program} {W : World} {base : Nat} {held : Bool} {t : TypeId} {d : DataW H} {ps : List MemPlace} {v : Value} {ts : List TypeId} {ds : List (DataW H)} {j : Nat}
theorem arcs_arg {e : TypeId} (hsz : (DataW.weightsEach P ts ds).all (· ≤ reachBytes) = true) (ht : ts[j]? = some t) (hd : ds[j]? = some d) (hu : P.underlying t = some (.slice e)) (hf : (Sh.sl t3Sh).fit P (.inl t) = true) (hh : (Sh.sl t3Sh).heavy P (.inl t) = true) (hv : Value.okWide P W .any base t v) (h : DataW.Trod enc P W 0 (fun _ => true) held t v d ps) :
    ∃ l : List I3, Sm i3cells W v l ∧ ∀ x ∈ l, Fit3 x := by
  obtain ⟨a, len, cap, rfl⟩ := okWide_slice hu hv
  obtain ⟨l, hr, _⟩ := open_sh2 hsz ht hd hf hh h
  exact ⟨_, sl_tuple (fun _ _ => t3_rd) rfl i3cells_len hr⟩
end
end Go.Gr
set_option linter.unusedVariables false
namespace Go.Gr
open Go.Rl Go.Codec Go.Crc
theorem massB_cons (l : List UInt8) (ls : List (List UInt8)) : massB (l :: ls) = l.length + 8 + massB ls := by unfold massB; simp
end Go.Gr
set_option linter.unusedVariables false
namespace Go.Gr
open Go.Rl Go.Codec Go.Crc
theorem flat_le {β : Type} (f : β → List UInt8) (M : Nat) : ∀ (l : List β), (∀ x ∈ l, (f x).length ≤ M) → ((l.map f).flatten).length ≤ l.length * M := by
  intro l
  induction l with
  | nil => intro _; simp
  | cons a r ih =>
    intro h
    have h1 := h a (List.mem_cons_self ..)
    have h2 := ih fun x hx => h x (List.mem_cons_of_mem _ hx)
    simp only [List.map_cons, List.flatten_cons, List.length_append, List.length_cons, Nat.add_mul]; omega
theorem rowsB_le {ls : List (List Int)} {M : Nat} (h : ∀ r ∈ ls, r.length ≤ M) : (rowsB ls).flatten.length ≤ 12 + ls.length * (4 + 8 * M) := by
  unfold rowsB
  have := flat_le putInts (4 + 8 * M) ls fun r hr => by rw [putInts_length]; have := h r hr; omega
  simp only [List.flatten_cons, List.length_append, putInts_length, List.length_cons, List.length_nil]; omega
theorem rowsB2_le {ls : List (List I2)} {M : Nat} (h : ∀ r ∈ ls, r.length ≤ M) : (rowsB2 ls).flatten.length ≤ 12 + ls.length * (8 + 16 * M) := by
  unfold rowsB2
  have e : (ls.flatMap rowB2).flatten = (ls.map fun r => (rowB2 r).flatten).flatten := by
    rw [List.flatMap_def, List.flatten_flatten, List.map_map]; rfl
  have := flat_le (fun r => (rowB2 r).flatten) (8 + 16 * M) ls fun r hr => by
    have := h r hr
    simp only [rowB2, List.flatten_cons, List.flatten_nil, List.length_append, List.length_nil, putInts_length, List.length_map]; omega
  simp only [List.flatten_cons, List.length_append, putInts_length, List.length_cons, List.length_nil, e]; omega
theorem mapB_len (n : Int) (ar : List I3) : (mapB n ar).flatten.length = 24 + 24 * ar.length := by
  simp only [mapB, List.flatten_cons, List.flatten_nil, List.length_append, List.length_nil, putInts_length, List.length_map, List.length_cons]; omega
theorem hierB_len (rk : List Int) (ws : List I5) : (hierB rk ws).flatten.length = 24 + 8 * rk.length + 40 * ws.length := by
  simp only [hierB, List.flatten_cons, List.flatten_nil, List.length_append, List.length_nil, putInts_length, List.length_map]; omega
structure Size (A R K : Nat) (ar : List I3) (rk : List Int) (ws : List I5) (g : List Int) (far : List (List Int)) (outs ins : List (List I2)) (so si : List (List Int)) : Prop where
  ar : ar.length ≤ A
  rk : rk.length ≤ R
  ws : ws.length ≤ A
  g : g.length ≤ K
  far : far.length ≤ K ∧ ∀ r ∈ far, r.length ≤ K
  outs : outs.length ≤ K ∧ ∀ r ∈ outs, r.length ≤ K
  ins : ins.length ≤ K ∧ ∀ r ∈ ins, r.length ≤ K
  so : so.length ≤ K ∧ ∀ r ∈ so, r.length ≤ K
  si : si.length ≤ K ∧ ∀ r ∈ si, r.length ≤ K
theorem Size.mass {A R K : Nat} {n : Int} {ar : List I3} {rk : List Int} {ws : List I5} {g : List Int} {far : List (List Int)} {outs ins : List (List I2)} {so si : List (List Int)} (h : Size A R K ar rk ws g far outs ins so si) :
    massB (encB n ar rk ws g far outs ins so si) ≤ 159 + 24 * A + 8 * R + 40 * A + 8 * K + 3 * (K * (4 + 8 * K)) + 2 * (K * (8 + 16 * K)) := by
  have h1 := rowsB_le h.far.2
  have h2 := rowsB2_le h.outs.2
  have h3 := rowsB2_le h.ins.2
  have h4 := rowsB_le h.so.2
  have h5 := rowsB_le h.si.2
  have m1 := Nat.mul_le_mul_right (4 + 8 * K) h.far.1
  have m2 := Nat.mul_le_mul_right (8 + 16 * K) h.outs.1
  have m3 := Nat.mul_le_mul_right (8 + 16 * K) h.ins.1
  have m4 := Nat.mul_le_mul_right (4 + 8 * K) h.so.1
  have m5 := Nat.mul_le_mul_right (4 + 8 * K) h.si.1
  have := h.ar
  have := h.rk
  have := h.ws
  have := h.g
  have e : massB (encB n ar rk ws g far outs ins so si) = 32 + (headB n ar).length + (mapB n ar).flatten.length + (hierB rk ws).flatten.length + (tabsB g far outs ins so si).flatten.length := by
    simp only [encB, massB, List.map_cons, List.map_nil, List.sum_cons, List.sum_nil]; omega
  rw [e, headB_len, mapB_len, hierB_len]
  unfold tabsB
  simp only [List.flatten_cons, List.flatten_append, List.length_append, putInts_length]
  omega
theorem GoodTab.size {n : Nat} {l : List I3} {rk : List Int} {ways : List I5} {lo : Int} {far : List (List Int)} {outs ins : List (List I2)} {so si : List (List Int)} {g : List Int} (hl : l.length ≤ 40) (hr : rk.length ≤ 12) (hw : ways.length ≤ 288) (hn : n ≤ 12) (h : GoodTab n rk lo g far outs ins so si) :
    Size 288 12 12 l rk ways g far outs ins so si := by
  have hg : g.length ≤ n := by rw [h.isGreat]; exact filter_range_len _ n
  have hL := h.lens
  have hf := h.farLen
  exact ⟨by omega, hr, hw, by omega, ⟨by omega, fun r hr => by have := (h.isFar.1 r hr).1; omega⟩, ⟨by omega, fun r hr => by have := (h.isOuts r hr).2; omega⟩, ⟨by omega, fun r hr => by have := (h.isIns r hr).2; omega⟩, ⟨by omega, fun r hr => by have := (h.isSo r hr).2; omega⟩, ⟨by omega, fun r hr => by have := (h.isSi r hr).2; omega⟩⟩
end Go.Gr
set_option linter.unusedVariables false
set_option linter.unusedSimpArgs false
namespace Go.Proofs.YtngkdkbpgoddlaaGreat
open Go.RowKit Go.Rl
open Go.Codec Go.Crc
set_option maxHeartbeats 4000000 in
set_option maxRecDepth 100000 in
theorem parts_calls (v : Value) (l : List UInt8) (w : World) (hv : Sl vb w v l) (hl : l.length ≤ 1048576) : Gives Tryz.prog 14 #[v] w fun r w' => ∃ hs, Now w none_ w' [.own vh 38 r hs, .fam vb hs (partsL l)] := by
 refine Gives.start Tryz.func14 rfl (Nat.le_of_ble_eq_true rfl) ?_
 rw [args1]
 have hN := Now.nil w none_
 refine RW.seq (RW.region (RL.ev rfl rfl ev_assign (RL.nil (thenN (RW.scope (RW.seq (RW.region (RL.ev rfl rfl ev_assign (RL.nil ?_)))))))))
 refine thenN (RW.seq (RW.region (RL.ev rfl rfl ev_move ?_)))
 refine RL.op rfl rfl (op_call1 Tryz.func36 rfl rfl rfl ((new_calls _ l _ (hv.ext hN.ext0) (by omega)).mono ?_))
 rintro _ w1 ⟨g1, rfl, hr_, he_⟩
 have hN_ := rdrPush hN hr_ he_
 clear hr_ he_
 generalize hlo1 : (w).heap.size = lo1 at hN_
 generalize hhi1 : (w1).heap.size = hi1 at hN_
 clear hN
 have hN : Now w none_ w1 [_] := hN_
 clear hN_
 refine RL.ev rfl rfl ev_assign ?_
 replace hN := hN.famNil vb
 replace hN := hN.addNil vh 38
 refine RL.nil (thenN (RW.seq (RW.label (thenN (RW.seq (RW.block ?_))))))
 refine RW.loop (fun k R0 w0' => ∃ rest : List UInt8, ∃ ls : List (List UInt8), ∃ vo : Value, ∃ hs : List Hd, R0 0 = v ∧ R0 3 = vo ∧ R0 4 = .pointer (some ⟨g1, 0, none⟩) ∧ Now w none_ w0' [.own vh 38 (vo) (hs), .fam vb (hs) (ls), Rdr 142 lo1 hi1 g1 (rest, 0)] ∧ (rest.length ≤ k) ∧ (rest.length ≤ l.length) ∧ (hs.length = ls.length ∧ hs.length + rest.length ≤ l.length) ∧ (parts l = (partsF (l.length : Int) k rest).map (ls ++ ·))) (l.length) ?_ ?_
 exact ⟨l, [], .slice none 0 0, [], rfl, rfl, rfl, hN, Nat.le_refl _, Nat.le_refl _, ⟨rfl, by simp⟩, by unfold parts; simp⟩
 clear hN
 rintro k R0 w0' ⟨rest, ls, vo, hs, hr0_, hr3_, hr4_, hN, hrk, hrl, hll, hp⟩
 have hR_ : ∃ R0_, R0 = (upd (upd (upd R0_ 0 _) 3 _) 4 _) := ⟨R0, by rw [upd_self hr0_, upd_self hr3_, upd_self hr4_]⟩
 obtain ⟨R0_, rfl⟩ := hR_
 clear hr0_ hr3_ hr4_
 iterate 2 refine RW.seq ?_
 refine RW.region (RL.ev rfl rfl ev_move ?_)
 refine RL.op rfl rfl (op_call1 Tryz.func37 rfl rfl rfl ((left_calls _ _ _ (rest, 0) _ (Rdr.says hN 2 rfl)).mono ?_))
 rintro _ _ ⟨rfl, rfl⟩
 refine RL.ev rfl rfl (ev_gtr rfl rfl) (RL.nil (thenN ?_))
 refine RW.condP _ rfl (fun hpos => ?_) (fun hpos => ?_)
 refine RW.skip (thenN (RW.block (RW.seq ?_)))
 have hne_ : rest ≠ [] := by intro e; rw [e] at hpos; simp at hpos
 have hk1 : k = (k - 1) + 1 := by have := List.length_pos_iff.2 hne_; omega
 have htl : (textR (rest, 0) (l.length : Int)).2.length ≤ rest.length := text_len (rest, 0) _
 refine RW.region ?_
 iterate 2 refine RL.ev rfl rfl ev_move ?_
 have hL_4 := (hv.ext hN.ext0).len_le
 refine RL.ev rfl rfl (ev_lenS Tryz.underlying38 (hv.ext hN.ext0) rfl) ?_
 refine RL.op rfl rfl (op_call2 Tryz.func39 rfl rfl rfl rfl ((rtext_at (Rdr.says hN 2 rfl) (rdrHi hN 2 rfl) (by omega) (by omega) (by show rest.length ≤ _; omega) (eta (textR (rest, 0) ((l.length : Int))))).mono ?_))
 rintro _ w5 ⟨rfl, hr_, hm_⟩
 replace hN : Now w none_ w5 [_, _, _] := rdrStep hN 2 rfl hr_ hm_
 clear hr_ hm_
 refine RL.op rfl rfl (opN_toBytes Tryz.underlying9 Tryz.underlying38 Tryz.underlying5 rfl (by (try simp only [List.length_append, List.length_take, List.length_drop, putInts_length, putText_length, put_length, wrapB_length, List.length_nil, List.length_cons]); omega) hN ?_)
 clear hN
 intro v6 w6 (hN : Now w none_ w6 [_, _, _, _])
 refine RL.op rfl rfl (op_call1 Tryz.func38 rfl rfl rfl ((open_calls _ ((textR (rest, 0) ((l.length : Int))).2) _ (hN.slr 0 rfl) (by (try simp only [List.length_append, List.length_take, List.length_drop, putInts_length, putText_length, put_length, wrapB_length, List.length_nil, List.length_cons]); omega)).mono ?_))
 intro r_ w7 hx_
 rcases hx_ with ⟨hok7, v7, rfl, ho_, he_⟩ | ⟨hok7, rfl, he_⟩
 replace hN : Now w none_ w7 [_, _, _, _, _] := hN.pushOwn ho_ he_
 clear ho_ he_
 refine RL.ev rfl rfl ev_move ?_
 iterate 2 refine RL.ev rfl rfl (ev_extract rfl rfl) ?_
 iterate 2 refine RL.ev rfl rfl ev_assign ?_
 refine RL.nil (thenN ?_)
 iterate 2 refine RW.seq ?_
 refine RW.region (RL.ev rfl rfl ev_move (RL.ev rfl rfl (ev_false (ev_neq rfl rfl) (fun h => h rfl)) (RL.ev rfl rfl ev_move (RL.onEv rfl rfl (by decide) rfl rfl ev_move ?_))))
 refine RL.on rfl rfl (by decide) rfl rfl (op_call1 Tryz.func40 rfl rfl rfl ((failed_calls _ _ _ ((textR (rest, 0) ((l.length : Int))).1) _ (Rdr.says hN 4 rfl)).mono ?_))
 rintro _ _ ⟨rfl, rfl⟩
 refine RL.onEv rfl rfl (by decide) rfl rfl (ev_neq rfl rfl) (RL.ev rfl rfl (ev_pickF rfl) (RL.nil (thenN ?_)))
 refine RW.condP _ rfl (fun hX => ?_) (fun hX => ?_)
 refine RW.seq ?_
 have hpn : parts l = none := by
   rw [hp, hk1, partsF_bad hne_ (by first | exact .inl (by assumption) | exact .inr (by assumption))]; rfl
 refine RW.region (RL.ev rfl rfl ev_assign (RL.nil (thenN (RW.exit (thenX (blockMiss (by decide) (thenX (blockHit (thenN ?_)))))))))
 iterate 2 refine RW.seq ?_
 refine RW.region (RL.ev rfl rfl ev_move ?_)
 refine RL.op rfl rfl (op_call1 Tryz.func40 rfl rfl rfl ((failed_calls _ _ _ ((textR (rest, 0) ((l.length : Int))).1) _ (Rdr.says hN 4 rfl)).mono ?_))
 rintro _ _ ⟨rfl, rfl⟩
 refine RL.ev rfl rfl (ev_neq rfl rfl) (RL.nil (thenN ?_))
 refine RW.condP _ rfl (fun hc34 => ?_) (fun hc34 => ?_)
 refine RW.seq (RW.region (RL.ev rfl rfl ev_assign (RL.nil (thenN (RW.ret (thenR (scopeR (retI (RV.tmp rfl) ?_))))))))
 have hq : partsL l = [] := by unfold partsL; rw [hpn]; rfl
 have hN2 : Now w none_ w7 [.own vh 38 (.slice none 0 0) [], .fam vb [] (partsL l)] := by
   rw [hq]; exact ((hN.sub (M := []) [] (by decide) rfl).famNil vb).addNil vh 38
 exact ⟨_, hN2⟩
 refine RW.skip (thenN (RW.seq (RW.region (RL.ev rfl rfl ev_move (RL.ev rfl rfl ev_assign (RL.nil (thenN (RW.ret (scopeR ?_)))))))))
 refine retI (RV.tmp rfl) ?_
 have hq : partsL l = [] := by unfold partsL; rw [hpn]; rfl
 have hN2 : Now w none_ w7 [.own vh 38 (.slice none 0 0) [], .fam vb [] (partsL l)] := by
   rw [hq]; exact ((hN.sub (M := []) [] (by decide) rfl).famNil vb).addNil vh 38
 exact ⟨_, hN2⟩
 refine RW.skip (thenN (RW.region ?_))
 iterate 2 refine RL.ev rfl rfl ev_move ?_
 have hOb_ := (hN.sl 0 rfl).hd
 obtain ⟨h11, hq_⟩ := hOb_
 subst hq_
 refine RL.op rfl rfl (opN_lit (enc := vh) (l := [h11]) (xs := [.tmp 29]) Tryz.underlying45 sz38 zr38 rfl rfl (fun _ => rfl) rfl (by decide) (by decide) hN ?_)
 clear hN
 intro g10 w10 (hN : Now w none_ w10 [_, _, _, _, _, _])
 refine RL.op rfl rfl (opN_append Tryz.underlying45 inf38 rfl vh_one hN 3 rfl rfl (hN.sl 0 rfl) rfl (by (try simp only [List.length_append, List.length_take, List.length_drop, putInts_length, putText_length, put_length, wrapB_length, List.length_nil, List.length_cons]); omega) (by decide) ?_)
 clear hN
 intro v12 w12 (hN : Now w none_ w12 [_, _, _, _, _, _])
 replace hN : Now w none_ w12 [_, _, _, _, _] := Now.famPush (L := [_, _, _, _, _]) (hN.sub [1, 0, 2, 3, 4, 5] (by decide) rfl) 3 rfl
 refine RL.ev rfl rfl ev_assign (RL.nil (blockN (thenN ?_)))
 have hg := textR_good (Decidable.not_not.1 hX)
 have hp1 := partsF_ok (k := k - 1) hne_ (Decidable.not_not.1 hX) (by assumption)
 have hp2 : parts l = (partsF (l.length : Int) (k - 1) (textR (rest, 0) (l.length : Int)).1.1).map ((ls ++ [((textR (rest, 0) ((l.length : Int))).2).take (((textR (rest, 0) ((l.length : Int))).2).length - 4)]) ++ ·) := by
   rw [hp, hk1, hp1, Option.map_map]
   congr 1; funext x; simp
 have hRX : (textR (rest, 0) (l.length : Int)).1 = ((textR (rest, 0) (l.length : Int)).1.1, 0) := Prod.ext rfl (Decidable.not_not.1 hX)
 rw [hRX] at hN
 exact ⟨k - 1, by omega, (textR (rest, 0) (l.length : Int)).1.1, ls ++ [((textR (rest, 0) ((l.length : Int))).2).take (((textR (rest, 0) ((l.length : Int))).2).length - 4)], v12, hs ++ [h11], rfl, rfl, rfl, (hN.sub [2, 3, 4] (by decide) rfl), by omega, by omega, ⟨by simp [hll.1], by rw [List.length_append, List.length_singleton]; omega⟩, hp2⟩
 replace hN := hN.ext he_
 clear he_
 refine RL.ev rfl rfl ev_move ?_
 iterate 2 refine RL.ev rfl rfl (ev_extract rfl rfl) ?_
 iterate 2 refine RL.ev rfl rfl ev_assign ?_
 refine RL.nil (thenN ?_)
 iterate 2 refine RW.seq ?_
 refine RW.region (RL.ev rfl rfl ev_move (RL.ev rfl rfl (ev_true (ev_neq rfl rfl) (by decide)) (RL.ev rfl rfl ev_move ?_)))
 iterate 3 refine RL.off rfl rfl (by decide) rfl rfl ?_
 refine RL.ev rfl rfl (ev_pickT rfl) (RL.nil (thenN (RW.condT rfl (RW.seq ?_))))
 have hpn : parts l = none := by
   rw [hp, hk1, partsF_bad hne_ (by first | exact .inl (by assumption) | exact .inr (by assumption))]; rfl
 refine RW.region (RL.ev rfl rfl ev_assign (RL.nil (thenN (RW.exit (thenX (blockMiss (by decide) (thenX (blockHit (thenN ?_)))))))))
 iterate 2 refine RW.seq ?_
 refine RW.region (RL.ev rfl rfl ev_move ?_)
 refine RL.op rfl rfl (op_call1 Tryz.func40 rfl rfl rfl ((failed_calls _ _ _ ((textR (rest, 0) ((l.length : Int))).1) _ (Rdr.says hN 3 rfl)).mono ?_))
 rintro _ _ ⟨rfl, rfl⟩
 refine RL.ev rfl rfl (ev_neq rfl rfl) (RL.nil (thenN ?_))
 refine RW.condP _ rfl (fun hc34 => ?_) (fun hc34 => ?_)
 refine RW.seq (RW.region (RL.ev rfl rfl ev_assign (RL.nil (thenN (RW.ret (thenR (scopeR (retI (RV.tmp rfl) ?_))))))))
 have hq : partsL l = [] := by unfold partsL; rw [hpn]; rfl
 have hN2 : Now w none_ w7 [.own vh 38 (.slice none 0 0) [], .fam vb [] (partsL l)] := by
   rw [hq]; exact ((hN.sub (M := []) [] (by decide) rfl).famNil vb).addNil vh 38
 exact ⟨_, hN2⟩
 refine RW.skip (thenN (RW.seq (RW.region (RL.ev rfl rfl ev_move (RL.ev rfl rfl ev_assign (RL.nil (thenN (RW.ret (scopeR ?_)))))))))
 refine retI (RV.tmp rfl) ?_
 have hq : partsL l = [] := by unfold partsL; rw [hpn]; rfl
 have hN2 : Now w none_ w7 [.own vh 38 (.slice none 0 0) [], .fam vb [] (partsL l)] := by
   rw [hq]; exact ((hN.sub (M := []) [] (by decide) rfl).famNil vb).addNil vh 38
 exact ⟨_, hN2⟩
 dsimp only at hpos
 refine RW.exit ?_
 iterate 2 refine thenX ?_
 refine blockHit (thenN ?_)
 iterate 2 refine RW.seq ?_
 refine RW.region (RL.ev rfl rfl ev_move ?_)
 refine RL.op rfl rfl (op_call1 Tryz.func40 rfl rfl rfl ((failed_calls _ _ _ (rest, 0) _ (Rdr.says hN 2 rfl)).mono ?_))
 rintro _ _ ⟨rfl, rfl⟩
 refine RL.ev rfl rfl (ev_false (ev_neq rfl rfl) (fun h => h rfl)) (RL.nil (thenN (RW.condF rfl (RW.skip (thenN (RW.seq (RW.region (RL.ev rfl rfl ev_move (RL.ev rfl rfl ev_assign ?_)))))))))
 refine RL.nil (thenN (RW.ret (scopeR (retI (RV.tmp rfl) ?_))))
 have hq0 : rest = [] := List.eq_nil_of_length_eq_zero (by omega)
 have hq1 : parts l = some ls := by rw [hp, hq0, partsF_nil]; simp
 have hq : partsL l = ls := by unfold partsL; rw [hq1]; rfl
 have hN2 : Now w none_ w0' [.own vh 38 vo hs, .fam vb hs (partsL l)] := by
   rw [hq]; exact hN.sub [0, 1] (by decide) rfl
 exact ⟨_, hN2⟩
end Go.Proofs.YtngkdkbpgoddlaaGreat
set_option linter.unusedVariables false
set_option linter.unusedSimpArgs false
namespace Go.Proofs.YtngkdkbpgoddlaaGreat
open Go.RowKit Go.Rl
open Go.Gr
theorem i2_ext {a b : I2} : (a.1 = b.1 ∧ a.2 = b.2) ↔ a = b := ⟨fun h => Prod.ext h.1 h.2, fun h => by rw [h]; exact ⟨rfl, rfl⟩⟩
theorem i3_ext {a b : I3} : (a.1 = b.1 ∧ a.2.1 = b.2.1 ∧ a.2.2 = b.2.2) ↔ a = b := ⟨fun h => Prod.ext h.1 (Prod.ext h.2.1 h.2.2), fun h => by rw [h]; exact ⟨rfl, rfl, rfl⟩⟩
theorem i5_ext {a b : I5} : (a.1 = b.1 ∧ a.2.1 = b.2.1 ∧ a.2.2.1 = b.2.2.1 ∧ a.2.2.2.1 = b.2.2.2.1 ∧ a.2.2.2.2 = b.2.2.2.2) ↔ a = b := ⟨fun h => Prod.ext h.1 (Prod.ext h.2.1 (Prod.ext h.2.2.1 (Prod.ext h.2.2.2.1 h.2.2.2.2))), fun h => by rw [h]; exact ⟨rfl, rfl, rfl, rfl, rfl⟩⟩
set_option maxHeartbeats 4000000 in
set_option maxRecDepth 100000 in
theorem sameRow_calls (av bv : Value) (a b : List I2) (w : World) (ha : Sm i2cells w av a) (hb : Sm i2cells w bv b) : Gives Tryz.prog 154 #[av, bv] w fun r w' => r = .bool (decide (a = b)) ∧ Ext w w' := by
 refine Gives.start Tryz.func154 rfl (Nat.le_of_ble_eq_true rfl) ?_
 rw [args2]
 have hN := Now.nil w none_
 refine RW.seq (RW.region (RL.ev (v := .bool false) rfl rfl ev_assign (RL.nil (thenN ?_))))
 iterate 2 refine RW.seq ?_
 refine RW.region (RL.ev (v := av) rfl rfl ev_move ?_)
 have hL_1 := (ha.o.now hN).len_le
 refine RL.ev rfl rfl (ev_lenM Tryz.underlying118 (ha.o.now hN) rfl) (RL.ev (v := bv) rfl rfl ev_move ?_)
 have hL_2 := (hb.o.now hN).len_le
 refine RL.ev rfl rfl (ev_lenM Tryz.underlying118 (hb.o.now hN) rfl) (RL.ev rfl rfl (ev_neq rfl rfl) (RL.nil (thenN ?_)))
 refine RW.condP _ rfl (fun hne => ?_) (fun hne => ?_)
 refine RW.seq (RW.region (RL.ev (v := .bool false) rfl rfl ev_assign (RL.nil (thenN (RW.ret (thenR (retI (RV.tmp rfl) ?_)))))))
 exact ⟨congrArg Value.bool (decide_eq_false (fun e : a = b => hne (by rw [e]))).symm, hN.ext0⟩
 refine RW.skip (thenN ?_)
 iterate 2 refine RW.seq ?_
 refine RW.region (RL.ev (v := .int .i64 (0)) rfl rfl ev_assign (RL.nil (thenN (RW.block ?_))))
 refine RW.loop (fun k R0 w0' => ∃ i : Nat, R0 0 = av ∧ R0 1 = bv ∧ R0 5 = .int .i64 ((i : Int)) ∧ Now w none_ w0' [] ∧ (i + k = a.length) ∧ (a.length = b.length) ∧ (a.take i = b.take i)) (a.length) ?_ ?_
 exact ⟨0, rfl, rfl, rfl, hN, by omega, by omega, rfl⟩
 clear hN
 rintro k R0 w0' ⟨i, hr0_, hr1_, hr5_, hN, hik, hxy, ht⟩
 have hR_ : ∃ R0_, R0 = (upd (upd (upd R0_ 0 _) 1 _) 5 _) := ⟨R0, by rw [upd_self hr0_, upd_self hr1_, upd_self hr5_]⟩
 obtain ⟨R0_, rfl⟩ := hR_
 clear hr0_ hr1_ hr5_
 iterate 2 refine RW.seq ?_
 refine RW.region (RL.ev (v := .int .i64 ((i : Int))) rfl rfl ev_move (RL.ev (v := av) rfl rfl ev_move (RL.ev rfl rfl (ev_lenM Tryz.underlying118 (ha.o.now hN) rfl) (RL.ev rfl rfl (ev_lss rfl rfl) (RL.nil (thenN ?_))))))
 refine RW.condP _ rfl (fun hlt => ?_) (fun hlt => ?_)
 refine RW.skip (thenN (RW.seq (RW.block (RW.seq ?_))))
 replace hN := hN.ext (Ext.drew w0')
 refine RW.drawR rfl (fun u => Now w none_ u []) 9 [(0,0), (1,0), (2,0), (3,0), (4,0), (5,0), (6,0), (7,0), (8,0)] (by intro _ _ _ h; exact h) (by kernel_rfl) hN (RQ.ev (v := av) rfl rfl (fun w hS => ev_move) (RQ.ev (v := .int .i64 ((i : Int))) rfl rfl (fun w hS => ev_move) (RQ.ev rfl rfl (fun w hS => (ev_indexM Tryz.underlying118 sz135 i2cells_len (by decide) (ha.o.now hS) rfl rfl (by omega) (by omega))) ?_)))
 have hOb_ : ∃ a_, (a)[i]? = some a_ := ⟨_, List.getElem?_eq_getElem (by omega)⟩
 obtain ⟨ap, hap⟩ := hOb_
 refine RQ.ev rfl rfl (fun w hS => (ev_loadM (m := i) (a := ap) Tryz.underlying135 rfl sz135 i2cells_len (by decide) (ha.o.now hS) rfl hap (cs := [.int .i64 (ap.1), .int .i64 (ap.2)]) rfl)) (RQ.ev (v := bv) rfl rfl (fun w hS => ev_move) (RQ.ev (v := .int .i64 ((i : Int))) rfl rfl (fun w hS => ev_move) (RQ.ev rfl rfl (fun w hS => (ev_indexM Tryz.underlying118 sz135 i2cells_len (by decide) (hb.o.now hS) rfl rfl (by omega) (by omega))) ?_)))
 have hOb_ : ∃ a_, (b)[i]? = some a_ := ⟨_, List.getElem?_eq_getElem (by omega)⟩
 obtain ⟨aq, haq⟩ := hOb_
 refine RQ.ev rfl rfl (fun w hS => (ev_loadM (m := i) (a := aq) Tryz.underlying135 rfl sz135 i2cells_len (by decide) (hb.o.now hS) rfl haq (cs := [.int .i64 (aq.1), .int .i64 (aq.2)]) rfl)) (RQ.ev rfl rfl (fun w hS => (ev_aggNe (p := ap.1 = aq.1 ∧ ap.2 = aq.2) rfl rfl (by kernel_rfl) (EqD.iff (EqD.struct Tryz.underlying135 (by kernel_rfl) rfl (EqF.cons (by decide) (PartAt.leaf Tryz.underlying3 rfl) (PartAt.leaf Tryz.underlying3 rfl) (EqD.int Tryz.underlying3) (EqF.cons (by decide) (PartAt.leaf Tryz.underlying3 rfl) (PartAt.leaf Tryz.underlying3 rfl) (EqD.int Tryz.underlying3) EqF.nil))) (by simp only [Bool.and_eq_true, decide_eq_true_eq, and_true])))) (RQ.done (by kernel_rfl) (thenN ?_)))
 refine RW.condP _ rfl (fun hne2 => ?_) (fun hne2 => ?_)
 refine RW.seq (RW.region (RL.ev (v := .bool false) rfl rfl ev_assign (RL.nil (thenN (RW.ret (blockR ?_))))))
 iterate 2 refine thenR ?_
 refine blockR (thenR (retI (RV.tmp rfl) ?_))
 exact ⟨congrArg Value.bool (decide_eq_false (fun e : a = b => hne2 (by subst e; rw [hap] at haq; exact i2_ext.2 (Option.some.inj haq)))).symm, hN.ext0⟩
 refine RW.skip (blockN (thenN (RW.region (RL.ev (v := .int .i64 ((i : Int))) rfl rfl ev_move (RL.ev rfl rfl (ev_arith rfl rfl rfl (add64 (by omega) (by omega))) (RL.ev (v := .int .i64 ((i : Int) + 1)) rfl rfl ev_assign (RL.nil (thenN ?_))))))))
 exact ⟨k - 1, by omega, i + 1, rfl, rfl, rfl, hN, by omega, by omega, by rw [takeAt hap, takeAt haq, ht, i2_ext.1 (Decidable.not_not.1 hne2)]⟩
 refine RW.exit ?_
 iterate 2 refine thenX ?_
 refine blockHit (thenN (RW.seq (RW.region (RL.ev (v := .bool true) rfl rfl ev_assign (RL.nil (thenN (RW.ret (retI (RV.tmp rfl) ?_))))))))
 rw [show i = a.length by omega, List.take_length, List.take_of_length_le (by omega)] at ht
 exact ⟨congrArg Value.bool (decide_eq_true ht).symm, hN.ext0⟩
set_option maxHeartbeats 4000000 in
set_option maxRecDepth 100000 in
theorem sameWays_calls (av bv : Value) (a b : List I5) (w : World) (ha : Sm i5cells w av a) (hb : Sm i5cells w bv b) : Gives Tryz.prog 87 #[av, bv] w fun r w' => r = .bool (decide (a = b)) ∧ Ext w w' := by
 refine Gives.start Tryz.func87 rfl (Nat.le_of_ble_eq_true rfl) ?_
 rw [args2]
 have hN := Now.nil w none_
 refine RW.seq (RW.region (RL.ev (v := .bool false) rfl rfl ev_assign (RL.nil (thenN ?_))))
 iterate 2 refine RW.seq ?_
 refine RW.region (RL.ev (v := av) rfl rfl ev_move ?_)
 have hL_1 := (ha.o.now hN).len_le
 refine RL.ev rfl rfl (ev_lenM Tryz.underlying26 (ha.o.now hN) rfl) (RL.ev (v := bv) rfl rfl ev_move ?_)
 have hL_2 := (hb.o.now hN).len_le
 refine RL.ev rfl rfl (ev_lenM Tryz.underlying26 (hb.o.now hN) rfl) (RL.ev rfl rfl (ev_neq rfl rfl) (RL.nil (thenN ?_)))
 refine RW.condP _ rfl (fun hne => ?_) (fun hne => ?_)
 refine RW.seq (RW.region (RL.ev (v := .bool false) rfl rfl ev_assign (RL.nil (thenN (RW.ret (thenR (retI (RV.tmp rfl) ?_)))))))
 exact ⟨congrArg Value.bool (decide_eq_false (fun e : a = b => hne (by rw [e]))).symm, hN.ext0⟩
 refine RW.skip (thenN ?_)
 iterate 2 refine RW.seq ?_
 refine RW.region (RL.ev (v := .int .i64 (0)) rfl rfl ev_assign (RL.nil (thenN (RW.block ?_))))
 refine RW.loop (fun k R0 w0' => ∃ i : Nat, R0 0 = av ∧ R0 1 = bv ∧ R0 5 = .int .i64 ((i : Int)) ∧ Now w none_ w0' [] ∧ (i + k = a.length) ∧ (a.length = b.length) ∧ (a.take i = b.take i)) (a.length) ?_ ?_
 exact ⟨0, rfl, rfl, rfl, hN, by omega, by omega, rfl⟩
 clear hN
 rintro k R0 w0' ⟨i, hr0_, hr1_, hr5_, hN, hik, hxy, ht⟩
 have hR_ : ∃ R0_, R0 = (upd (upd (upd R0_ 0 _) 1 _) 5 _) := ⟨R0, by rw [upd_self hr0_, upd_self hr1_, upd_self hr5_]⟩
 obtain ⟨R0_, rfl⟩ := hR_
 clear hr0_ hr1_ hr5_
 iterate 2 refine RW.seq ?_
 refine RW.region (RL.ev (v := .int .i64 ((i : Int))) rfl rfl ev_move (RL.ev (v := av) rfl rfl ev_move (RL.ev rfl rfl (ev_lenM Tryz.underlying26 (ha.o.now hN) rfl) (RL.ev rfl rfl (ev_lss rfl rfl) (RL.nil (thenN ?_))))))
 refine RW.condP _ rfl (fun hlt => ?_) (fun hlt => ?_)
 refine RW.skip (thenN (RW.seq (RW.block (RW.seq ?_))))
 replace hN := hN.ext (Ext.drew w0')
 refine RW.drawR rfl (fun u => Now w none_ u []) 9 [(0,0), (1,0), (2,0), (3,0), (4,0), (5,0), (6,0), (7,0), (8,0)] (by intro _ _ _ h; exact h) (by kernel_rfl) hN (RQ.ev (v := av) rfl rfl (fun w hS => ev_move) (RQ.ev (v := .int .i64 ((i : Int))) rfl rfl (fun w hS => ev_move) (RQ.ev rfl rfl (fun w hS => (ev_indexM Tryz.underlying26 sz98 i5cells_len (by decide) (ha.o.now hS) rfl rfl (by omega) (by omega))) ?_)))
 have hOb_ : ∃ a_, (a)[i]? = some a_ := ⟨_, List.getElem?_eq_getElem (by omega)⟩
 obtain ⟨ap, hap⟩ := hOb_
 refine RQ.ev rfl rfl (fun w hS => (ev_loadM (m := i) (a := ap) Tryz.underlying98 rfl sz98 i5cells_len (by decide) (ha.o.now hS) rfl hap (cs := [.int .i64 (ap.1), .int .i64 (ap.2.1), .int .i64 (ap.2.2.1), .int .i64 (ap.2.2.2.1), .int .i64 (ap.2.2.2.2)]) rfl)) (RQ.ev (v := bv) rfl rfl (fun w hS => ev_move) (RQ.ev (v := .int .i64 ((i : Int))) rfl rfl (fun w hS => ev_move) (RQ.ev rfl rfl (fun w hS => (ev_indexM Tryz.underlying26 sz98 i5cells_len (by decide) (hb.o.now hS) rfl rfl (by omega) (by omega))) ?_)))
 have hOb_ : ∃ a_, (b)[i]? = some a_ := ⟨_, List.getElem?_eq_getElem (by omega)⟩
 obtain ⟨aq, haq⟩ := hOb_
 refine RQ.ev rfl rfl (fun w hS => (ev_loadM (m := i) (a := aq) Tryz.underlying98 rfl sz98 i5cells_len (by decide) (hb.o.now hS) rfl haq (cs := [.int .i64 (aq.1), .int .i64 (aq.2.1), .int .i64 (aq.2.2.1), .int .i64 (aq.2.2.2.1), .int .i64 (aq.2.2.2.2)]) rfl)) (RQ.ev rfl rfl (fun w hS => (ev_aggNe (p := ap.1 = aq.1 ∧ ap.2.1 = aq.2.1 ∧ ap.2.2.1 = aq.2.2.1 ∧ ap.2.2.2.1 = aq.2.2.2.1 ∧ ap.2.2.2.2 = aq.2.2.2.2) rfl rfl (by kernel_rfl) (EqD.iff (EqD.struct Tryz.underlying98 (by kernel_rfl) rfl (EqF.cons (by decide) (PartAt.leaf Tryz.underlying3 rfl) (PartAt.leaf Tryz.underlying3 rfl) (EqD.int Tryz.underlying3) (EqF.cons (by decide) (PartAt.leaf Tryz.underlying3 rfl) (PartAt.leaf Tryz.underlying3 rfl) (EqD.int Tryz.underlying3) (EqF.cons (by decide) (PartAt.agg Tryz.underlying96 sz96 rfl) (PartAt.agg Tryz.underlying96 sz96 rfl) (EqD.struct Tryz.underlying96 (by kernel_rfl) rfl (EqF.cons (by decide) (PartAt.leaf Tryz.underlying3 rfl) (PartAt.leaf Tryz.underlying3 rfl) (EqD.int Tryz.underlying3) (EqF.cons (by decide) (PartAt.leaf Tryz.underlying3 rfl) (PartAt.leaf Tryz.underlying3 rfl) (EqD.int Tryz.underlying3) (EqF.cons (by decide) (PartAt.leaf Tryz.underlying3 rfl) (PartAt.leaf Tryz.underlying3 rfl) (EqD.int Tryz.underlying3) EqF.nil)))) EqF.nil)))) (by simp only [Bool.and_eq_true, decide_eq_true_eq, and_true])))) (RQ.done (by kernel_rfl) (thenN ?_)))
 refine RW.condP _ rfl (fun hne2 => ?_) (fun hne2 => ?_)
 refine RW.seq (RW.region (RL.ev (v := .bool false) rfl rfl ev_assign (RL.nil (thenN (RW.ret (blockR ?_))))))
 iterate 2 refine thenR ?_
 refine blockR (thenR (retI (RV.tmp rfl) ?_))
 exact ⟨congrArg Value.bool (decide_eq_false (fun e : a = b => hne2 (by subst e; rw [hap] at haq; exact i5_ext.2 (Option.some.inj haq)))).symm, hN.ext0⟩
 refine RW.skip (blockN (thenN (RW.region (RL.ev (v := .int .i64 ((i : Int))) rfl rfl ev_move (RL.ev rfl rfl (ev_arith rfl rfl rfl (add64 (by omega) (by omega))) (RL.ev (v := .int .i64 ((i : Int) + 1)) rfl rfl ev_assign (RL.nil (thenN ?_))))))))
 exact ⟨k - 1, by omega, i + 1, rfl, rfl, rfl, hN, by omega, by omega, by rw [takeAt hap, takeAt haq, ht, i5_ext.1 (Decidable.not_not.1 hne2)]⟩
 refine RW.exit ?_
 iterate 2 refine thenX ?_
 refine blockHit (thenN (RW.seq (RW.region (RL.ev (v := .bool true) rfl rfl ev_assign (RL.nil (thenN (RW.ret (retI (RV.tmp rfl) ?_))))))))
 rw [show i = a.length by omega, List.take_length, List.take_of_length_le (by omega)] at ht
 exact ⟨congrArg Value.bool (decide_eq_true ht).symm, hN.ext0⟩
set_option maxHeartbeats 4000000 in
set_option maxRecDepth 100000 in
theorem sameMap_calls (n m : Int) (av bv : Value) (a b : List I3) (w : World) (ha : Sm i3cells w av a) (hb : Sm i3cells w bv b) : Gives Tryz.prog 33 #[.agg #[.int .i64 n, av], .agg #[.int .i64 m, bv]] w fun r w' => r = .bool (decide (n = m ∧ a = b)) ∧ Ext w w' := by
 refine Gives.start Tryz.func33 rfl (Nat.le_of_ble_eq_true rfl) ?_
 rw [args2]
 have hN := Now.nil w none_
 refine RW.seq (RW.region ?_)
 refine RL.op rfl rfl (opN_box (cs := [.int .i64 (n), av]) rfl rfl hN ?_)
 clear hN
 intro g1 w1 (hN : Now w none_ w1 [_])
 refine RL.op rfl rfl (opN_box (cs := [.int .i64 (m), bv]) rfl rfl hN ?_)
 clear hN
 intro g2 w2 (hN : Now w none_ w2 [_, _])
 refine RL.ev (v := .bool false) rfl rfl ev_assign (RL.nil (thenN ?_))
 iterate 2 refine RW.seq ?_
 refine RW.region (RL.ev rfl rfl (ev_fieldAddr Tryz.underlying24 rfl sz3 (by decide) rfl) (RL.ev rfl rfl (ev_loadB Tryz.underlying3 rfl rfl (hN.blk 1 rfl) rfl) (RL.ev rfl rfl (ev_fieldAddr Tryz.underlying24 rfl sz3 (by decide) rfl) (RL.ev rfl rfl (ev_loadB Tryz.underlying3 rfl rfl (hN.blk 0 rfl) rfl) (RL.ev rfl rfl (ev_neq rfl rfl) (RL.ev (v := .bool (decide (¬ n = m))) rfl rfl ev_move ?_))))))
 by_cases hg1_5 : ¬ n = m
 rw [decide_eq_true hg1_5]
 iterate 7 refine RL.off rfl rfl (by decide) rfl rfl ?_
 refine RL.ev (v := .bool true) rfl rfl (ev_pickT rfl) (RL.nil (thenN (RW.condT rfl (RW.seq (RW.region (RL.ev (v := .bool false) rfl rfl ev_assign (RL.nil (thenN (RW.ret ?_)))))))))
 refine thenR (retI (RV.tmp rfl) ?_)
 exact ⟨congrArg Value.bool (decide_eq_false (fun e : n = m ∧ a = b => by obtain ⟨e1, e2⟩ := e; have e3 := congrArg List.length e2; first | contradiction | omega)).symm, hN.ext0⟩
 rw [decide_eq_false hg1_5]
 refine RL.onEv rfl rfl (by decide) rfl rfl (ev_fieldAddr Tryz.underlying24 rfl sz22 (by decide) rfl) (RL.onEv rfl rfl (by decide) rfl rfl (ev_loadB Tryz.underlying22 rfl rfl (hN.blk 1 rfl) rfl) ?_)
 have hL_3 := (ha.o.now hN).len_le
 refine RL.onEv rfl rfl (by decide) rfl rfl (ev_lenM Tryz.underlying22 (ha.o.now hN) rfl) (RL.onEv rfl rfl (by decide) rfl rfl (ev_fieldAddr Tryz.underlying24 rfl sz22 (by decide) rfl) (RL.onEv rfl rfl (by decide) rfl rfl (ev_loadB Tryz.underlying22 rfl rfl (hN.blk 0 rfl) rfl) ?_))
 have hL_4 := (hb.o.now hN).len_le
 refine RL.onEv rfl rfl (by decide) rfl rfl (ev_lenM Tryz.underlying22 (hb.o.now hN) rfl) (RL.onEv rfl rfl (by decide) rfl rfl (ev_neq rfl rfl) (RL.ev (v := .bool (decide (¬ (a.length : Int) = (b.length : Int)))) rfl rfl (ev_pickF rfl) (RL.nil (thenN ?_))))
 refine RW.condP _ rfl (fun hne => ?_) (fun hne => ?_)
 refine RW.seq (RW.region (RL.ev (v := .bool false) rfl rfl ev_assign (RL.nil (thenN (RW.ret (thenR (retI (RV.tmp rfl) ?_)))))))
 exact ⟨congrArg Value.bool (decide_eq_false (fun e : n = m ∧ a = b => by obtain ⟨e1, e2⟩ := e; have e3 := congrArg List.length e2; first | contradiction | omega)).symm, hN.ext0⟩
 refine RW.skip (thenN ?_)
 iterate 2 refine RW.seq ?_
 refine RW.region (RL.ev (v := .int .i64 (0)) rfl rfl ev_assign (RL.nil (thenN (RW.block ?_))))
 refine RW.loop (fun k R0 w0' => ∃ i : Nat, R0 2 = .pointer (some ⟨g1, 0, none⟩) ∧ R0 3 = .pointer (some ⟨g2, 0, none⟩) ∧ R0 5 = .int .i64 ((i : Int)) ∧ Now w none_ w0' [.blk g2 [.int .i64 (m), bv] 24, .blk g1 [.int .i64 (n), av] 24] ∧ (i + k = a.length) ∧ (a.length = b.length) ∧ (a.take i = b.take i)) (a.length) ?_ ?_
 exact ⟨0, rfl, rfl, rfl, hN, by omega, by omega, rfl⟩
 clear hN
 rintro k R0 w0' ⟨i, hr2_, hr3_, hr5_, hN, hik, hxy, ht⟩
 have hR_ : ∃ R0_, R0 = (upd (upd (upd R0_ 2 _) 3 _) 5 _) := ⟨R0, by rw [upd_self hr2_, upd_self hr3_, upd_self hr5_]⟩
 obtain ⟨R0_, rfl⟩ := hR_
 clear hr2_ hr3_ hr5_
 iterate 2 refine RW.seq ?_
 refine RW.region (RL.ev (v := .int .i64 ((i : Int))) rfl rfl ev_move (RL.ev rfl rfl (ev_fieldAddr Tryz.underlying24 rfl sz22 (by decide) rfl) (RL.ev rfl rfl (ev_loadB Tryz.underlying22 rfl rfl (hN.blk 1 rfl) rfl) (RL.ev rfl rfl (ev_lenM Tryz.underlying22 (ha.o.now hN) rfl) (RL.ev rfl rfl (ev_lss rfl rfl) (RL.nil (thenN ?_)))))))
 refine RW.condP _ rfl (fun hlt => ?_) (fun hlt => ?_)
 refine RW.skip (thenN (RW.seq (RW.block (RW.seq ?_))))
 replace hN := hN.ext (Ext.drew w0')
 refine RW.drawR rfl (fun u => Now w none_ u [.blk g2 [.int .i64 (m), bv] 24, .blk g1 [.int .i64 (n), av] 24]) 11 [(0,0), (1,0), (2,0), (3,0), (4,0), (5,0), (6,0), (7,0), (8,0), (9,0), (10,0)] (by intro _ _ _ h; exact h) (by kernel_rfl) hN (RQ.ev rfl rfl (fun w hS => (ev_fieldAddr Tryz.underlying24 rfl sz22 (by decide) rfl)) (RQ.ev rfl rfl (fun w hS => (ev_loadB Tryz.underlying22 rfl rfl (hS.blk 1 rfl) rfl)) (RQ.ev (v := .int .i64 ((i : Int))) rfl rfl (fun w hS => ev_move) (RQ.ev rfl rfl (fun w hS => (ev_indexM Tryz.underlying22 sz100 i3cells_len (by decide) (ha.o.now hS) rfl rfl (by omega) (by omega))) ?_))))
 have hOb_ : ∃ a_, (a)[i]? = some a_ := ⟨_, List.getElem?_eq_getElem (by omega)⟩
 obtain ⟨ap, hap⟩ := hOb_
 refine RQ.ev rfl rfl (fun w hS => (ev_loadM (m := i) (a := ap) Tryz.underlying100 rfl sz100 i3cells_len (by decide) (ha.o.now hS) rfl hap (cs := [.int .i64 (ap.1), .int .i64 (ap.2.1), .int .i64 (ap.2.2)]) rfl)) (RQ.ev rfl rfl (fun w hS => (ev_fieldAddr Tryz.underlying24 rfl sz22 (by decide) rfl)) (RQ.ev rfl rfl (fun w hS => (ev_loadB Tryz.underlying22 rfl rfl (hS.blk 0 rfl) rfl)) (RQ.ev (v := .int .i64 ((i : Int))) rfl rfl (fun w hS => ev_move) (RQ.ev rfl rfl (fun w hS => (ev_indexM Tryz.underlying22 sz100 i3cells_len (by decide) (hb.o.now hS) rfl rfl (by omega) (by omega))) ?_))))
 have hOb_ : ∃ a_, (b)[i]? = some a_ := ⟨_, List.getElem?_eq_getElem (by omega)⟩
 obtain ⟨aq, haq⟩ := hOb_
 refine RQ.ev rfl rfl (fun w hS => (ev_loadM (m := i) (a := aq) Tryz.underlying100 rfl sz100 i3cells_len (by decide) (hb.o.now hS) rfl haq (cs := [.int .i64 (aq.1), .int .i64 (aq.2.1), .int .i64 (aq.2.2)]) rfl)) (RQ.ev rfl rfl (fun w hS => (ev_aggNe (p := ap.1 = aq.1 ∧ ap.2.1 = aq.2.1 ∧ ap.2.2 = aq.2.2) rfl rfl (by kernel_rfl) (EqD.iff (EqD.struct Tryz.underlying100 (by kernel_rfl) rfl (EqF.cons (by decide) (PartAt.leaf Tryz.underlying3 rfl) (PartAt.leaf Tryz.underlying3 rfl) (EqD.int Tryz.underlying3) (EqF.cons (by decide) (PartAt.leaf Tryz.underlying3 rfl) (PartAt.leaf Tryz.underlying3 rfl) (EqD.int Tryz.underlying3) (EqF.cons (by decide) (PartAt.leaf Tryz.underlying3 rfl) (PartAt.leaf Tryz.underlying3 rfl) (EqD.int Tryz.underlying3) EqF.nil)))) (by simp only [Bool.and_eq_true, decide_eq_true_eq, and_true])))) (RQ.done (by kernel_rfl) (thenN ?_)))
 refine RW.condP _ rfl (fun hne2 => ?_) (fun hne2 => ?_)
 refine RW.seq (RW.region (RL.ev (v := .bool false) rfl rfl ev_assign (RL.nil (thenN (RW.ret (blockR ?_))))))
 iterate 2 refine thenR ?_
 refine blockR (thenR (retI (RV.tmp rfl) ?_))
 exact ⟨congrArg Value.bool (decide_eq_false (fun e : n = m ∧ a = b => hne2 (by have e := e.2; subst e; rw [hap] at haq; exact i3_ext.2 (Option.some.inj haq)))).symm, hN.ext0⟩
 refine RW.skip (blockN (thenN (RW.region (RL.ev (v := .int .i64 ((i : Int))) rfl rfl ev_move (RL.ev rfl rfl (ev_arith rfl rfl rfl (add64 (by omega) (by omega))) (RL.ev (v := .int .i64 ((i : Int) + 1)) rfl rfl ev_assign (RL.nil (thenN ?_))))))))
 exact ⟨k - 1, by omega, i + 1, rfl, rfl, rfl, hN, by omega, by omega, by rw [takeAt hap, takeAt haq, ht, i3_ext.1 (Decidable.not_not.1 hne2)]⟩
 refine RW.exit ?_
 iterate 2 refine thenX ?_
 refine blockHit (thenN (RW.seq (RW.region (RL.ev (v := .bool true) rfl rfl ev_assign (RL.nil (thenN (RW.ret (retI (RV.tmp rfl) ?_))))))))
 rw [show i = a.length by omega, List.take_length, List.take_of_length_le (by omega)] at ht
 exact ⟨congrArg Value.bool (decide_eq_true ⟨by omega, ht⟩).symm, hN.ext0⟩
end Go.Proofs.YtngkdkbpgoddlaaGreat
set_option linter.unusedVariables false
set_option linter.unusedSimpArgs false
namespace Go.Proofs.YtngkdkbpgoddlaaGreat
open Go.RowKit Go.Rl
open Go.Gr Go.Codec
set_option maxHeartbeats 4000000 in
set_option maxRecDepth 100000 in
theorem sameHier_calls (rv wv rv2 wv2 : Value) (rk rk2 : List Int) (ws ws2 : List I5) (w : World) (h1 : Sl vI w rv rk) (h2 : Sm i5cells w wv ws) (h3 : Sl vI w rv2 rk2) (h4 : Sm i5cells w wv2 ws2) : Gives Tryz.prog 34 #[.agg #[rv, wv], .agg #[rv2, wv2]] w fun r w' => r = .bool (decide (rk = rk2 ∧ ws = ws2)) ∧ Ext w w' := by
 refine Gives.start Tryz.func34 rfl (Nat.le_of_ble_eq_true rfl) ?_
 rw [args2]
 have hN := Now.nil w none_
 refine RW.seq (RW.region ?_)
 refine RL.op rfl rfl (opN_box (cs := [rv, wv]) rfl rfl hN ?_)
 clear hN
 intro g1 w1 (hN : Now w none_ w1 [_])
 refine RL.op rfl rfl (opN_box (cs := [rv2, wv2]) rfl rfl hN ?_)
 clear hN
 intro g2 w2 (hN : Now w none_ w2 [_, _])
 refine RL.ev (v := .bool false) rfl rfl ev_assign (RL.nil (thenN ?_))
 iterate 2 refine RW.seq ?_
 refine RW.region (RL.ev rfl rfl (ev_fieldAddr Tryz.underlying28 rfl sz25 (by decide) rfl) (RL.ev rfl rfl (ev_loadB Tryz.underlying25 rfl rfl (hN.blk 1 rfl) rfl) ?_))
 have hL_3 := (h1.o.now hN).len_le
 refine RL.ev rfl rfl (ev_lenS Tryz.underlying25 (h1.o.now hN) rfl) (RL.ev rfl rfl (ev_fieldAddr Tryz.underlying28 rfl sz25 (by decide) rfl) (RL.ev rfl rfl (ev_loadB Tryz.underlying25 rfl rfl (hN.blk 0 rfl) rfl) ?_))
 have hL_4 := (h3.o.now hN).len_le
 refine RL.ev rfl rfl (ev_lenS Tryz.underlying25 (h3.o.now hN) rfl) (RL.ev rfl rfl (ev_neq rfl rfl) (RL.nil (thenN ?_)))
 refine RW.condP _ rfl (fun hne => ?_) (fun hne => ?_)
 refine RW.seq (RW.region (RL.ev (v := .bool false) rfl rfl ev_assign (RL.nil (thenN (RW.ret (thenR (retI (RV.tmp rfl) ?_)))))))
 exact ⟨congrArg Value.bool (decide_eq_false (fun e => hne (by rw [e.1]))).symm, hN.ext0⟩
 refine RW.skip (thenN ?_)
 iterate 2 refine RW.seq ?_
 refine RW.region (RL.ev (v := .int .i64 (0)) rfl rfl ev_assign (RL.nil (thenN (RW.block ?_))))
 refine RW.loop (fun k R0 w0' => ∃ i : Nat, R0 2 = .pointer (some ⟨g1, 0, none⟩) ∧ R0 3 = .pointer (some ⟨g2, 0, none⟩) ∧ R0 5 = .int .i64 ((i : Int)) ∧ Now w none_ w0' [.blk g2 [rv2, wv2] 28, .blk g1 [rv, wv] 28] ∧ (i + k = rk.length) ∧ (rk.length = rk2.length) ∧ (rk.take i = rk2.take i)) (rk.length) ?_ ?_
 exact ⟨0, rfl, rfl, rfl, hN, by omega, by omega, rfl⟩
 clear hN
 rintro k R0 w0' ⟨i, hr2_, hr3_, hr5_, hN, hik, hxy, ht⟩
 have hR_ : ∃ R0_, R0 = (upd (upd (upd R0_ 2 _) 3 _) 5 _) := ⟨R0, by rw [upd_self hr2_, upd_self hr3_, upd_self hr5_]⟩
 obtain ⟨R0_, rfl⟩ := hR_
 clear hr2_ hr3_ hr5_
 iterate 2 refine RW.seq ?_
 refine RW.region (RL.ev (v := .int .i64 ((i : Int))) rfl rfl ev_move (RL.ev rfl rfl (ev_fieldAddr Tryz.underlying28 rfl sz25 (by decide) rfl) (RL.ev rfl rfl (ev_loadB Tryz.underlying25 rfl rfl (hN.blk 1 rfl) rfl) (RL.ev rfl rfl (ev_lenS Tryz.underlying25 (h1.o.now hN) rfl) (RL.ev rfl rfl (ev_lss rfl rfl) (RL.nil (thenN ?_)))))))
 refine RW.condP _ rfl (fun hlt => ?_) (fun hlt => ?_)
 refine RW.skip (thenN (RW.seq (RW.block (RW.seq ?_))))
 replace hN := hN.ext (Ext.drew w0')
 refine RW.drawR rfl (fun u => Now w none_ u [.blk g2 [rv2, wv2] 28, .blk g1 [rv, wv] 28]) 11 [(0,0), (1,0), (2,0), (3,0), (4,0), (5,0), (6,0), (7,0), (8,0), (9,0), (10,0)] (by intro _ _ _ h; exact h) (by kernel_rfl) hN (RQ.ev rfl rfl (fun w hS => (ev_fieldAddr Tryz.underlying28 rfl sz25 (by decide) rfl)) (RQ.ev rfl rfl (fun w hS => (ev_loadB Tryz.underlying25 rfl rfl (hS.blk 1 rfl) rfl)) (RQ.ev (v := .int .i64 ((i : Int))) rfl rfl (fun w hS => ev_move) (RQ.ev rfl rfl (fun w hS => (ev_index Tryz.underlying25 sz3 (h1.o.now hS) rfl rfl (by omega) (by omega))) ?_))))
 have hOb_ : ∃ a_, (rk)[i]? = some a_ := ⟨_, List.getElem?_eq_getElem (by omega)⟩
 obtain ⟨ap, hap⟩ := hOb_
 refine RQ.ev rfl rfl (fun w hS => (ev_loadG (m := i) (a := ap) Tryz.underlying3 rfl (h1.o.now hS) rfl hap)) (RQ.ev rfl rfl (fun w hS => (ev_fieldAddr Tryz.underlying28 rfl sz25 (by decide) rfl)) (RQ.ev rfl rfl (fun w hS => (ev_loadB Tryz.underlying25 rfl rfl (hS.blk 0 rfl) rfl)) (RQ.ev (v := .int .i64 ((i : Int))) rfl rfl (fun w hS => ev_move) (RQ.ev rfl rfl (fun w hS => (ev_index Tryz.underlying25 sz3 (h3.o.now hS) rfl rfl (by omega) (by omega))) ?_))))
 have hOb_ : ∃ a_, (rk2)[i]? = some a_ := ⟨_, List.getElem?_eq_getElem (by omega)⟩
 obtain ⟨aq, haq⟩ := hOb_
 refine RQ.ev rfl rfl (fun w hS => (ev_loadG (m := i) (a := aq) Tryz.underlying3 rfl (h3.o.now hS) rfl haq)) (RQ.ev rfl rfl (fun w hS => (ev_neq rfl rfl)) (RQ.done (by kernel_rfl) (thenN ?_)))
 refine RW.condP _ rfl (fun hne2 => ?_) (fun hne2 => ?_)
 refine RW.seq (RW.region (RL.ev (v := .bool false) rfl rfl ev_assign (RL.nil (thenN (RW.ret (blockR ?_))))))
 iterate 2 refine thenR ?_
 refine blockR (thenR (retI (RV.tmp rfl) ?_))
 exact ⟨congrArg Value.bool (decide_eq_false (fun e => hne2 (by have e := e.1; subst e; rw [hap] at haq; exact Option.some.inj haq))).symm, hN.ext0⟩
 refine RW.skip (blockN (thenN (RW.region (RL.ev (v := .int .i64 ((i : Int))) rfl rfl ev_move (RL.ev rfl rfl (ev_arith rfl rfl rfl (add64 (by omega) (by omega))) (RL.ev (v := .int .i64 ((i : Int) + 1)) rfl rfl ev_assign (RL.nil (thenN ?_))))))))
 exact ⟨k - 1, by omega, i + 1, rfl, rfl, rfl, hN, by omega, by omega, by rw [takeAt hap, takeAt haq, ht, Decidable.not_not.1 hne2]⟩
 refine RW.exit ?_
 iterate 2 refine thenX ?_
 refine blockHit (thenN (RW.seq (RW.region (RL.ev rfl rfl (ev_fieldAddr Tryz.underlying28 rfl sz26 (by decide) rfl) (RL.ev rfl rfl (ev_loadB Tryz.underlying26 rfl rfl (hN.blk 1 rfl) rfl) (RL.ev rfl rfl (ev_fieldAddr Tryz.underlying28 rfl sz26 (by decide) rfl) (RL.ev rfl rfl (ev_loadB Tryz.underlying26 rfl rfl (hN.blk 0 rfl) rfl) ?_)))))))
 refine RL.op rfl rfl (op_call2 Tryz.func87 rfl rfl rfl rfl ((sameWays_calls _ _ ws ws2 _ (h2.o.now hN) (h4.o.now hN)).mono ?_))
 rintro _ w5 ⟨rfl, he_⟩
 replace hN := hN.ext he_
 clear he_
 refine RL.ev (v := .bool (decide (ws = ws2))) rfl rfl ev_assign (RL.nil (thenN (RW.ret (retI (RV.tmp rfl) ?_))))
 rw [show i = rk.length by omega, List.take_length, List.take_of_length_le (by omega)] at ht
 exact ⟨congrArg Value.bool (decide_eq_decide.2 ⟨fun h => ⟨ht, h⟩, fun h => h.2⟩), hN.ext0⟩
set_option maxHeartbeats 4000000 in
set_option maxRecDepth 100000 in
theorem sameReaches_calls (av bv : Value) (hs1 hs2 : List Hd) (ls1 ls2 : List (List I2)) (w : World) (ha : Sl vh w av hs1) (hb : Sl vh w bv hs2) (hea : ElsM none_ i2cells w hs1 ls1) (heb : ElsM none_ i2cells w hs2 ls2) : Gives Tryz.prog 90 #[av, bv] w fun r w' => r = .bool (decide (ls1 = ls2)) ∧ Ext w w' := by
 refine Gives.start Tryz.func90 rfl (Nat.le_of_ble_eq_true rfl) ?_
 rw [args2]
 have hN := Now.nil w none_
 have hla := hea.1
 have hlb := heb.1
 refine RW.seq (RW.region (RL.ev (v := .bool false) rfl rfl ev_assign (RL.nil (thenN ?_))))
 iterate 2 refine RW.seq ?_
 refine RW.region (RL.ev (v := av) rfl rfl ev_move ?_)
 have hL_1 := (ha.o.now hN).len_le
 refine RL.ev rfl rfl (ev_lenS Tryz.underlying30 (ha.o.now hN) rfl) (RL.ev (v := bv) rfl rfl ev_move ?_)
 have hL_2 := (hb.o.now hN).len_le
 refine RL.ev rfl rfl (ev_lenS Tryz.underlying30 (hb.o.now hN) rfl) (RL.ev rfl rfl (ev_neq rfl rfl) (RL.nil (thenN ?_)))
 refine RW.condP _ rfl (fun hne => ?_) (fun hne => ?_)
 refine RW.seq (RW.region (RL.ev (v := .bool false) rfl rfl ev_assign (RL.nil (thenN (RW.ret (thenR (retI (RV.tmp rfl) ?_)))))))
 exact ⟨congrArg Value.bool (decide_eq_false (fun e : ls1 = ls2 => hne (by rw [hla, hlb, e]))).symm, hN.ext0⟩
 refine RW.skip (thenN ?_)
 iterate 2 refine RW.seq ?_
 refine RW.region (RL.ev (v := .int .i64 (0)) rfl rfl ev_assign (RL.nil (thenN (RW.block ?_))))
 refine RW.loop (fun k R0 w0' => ∃ i : Nat, R0 0 = av ∧ R0 1 = bv ∧ R0 5 = .int .i64 ((i : Int)) ∧ Now w none_ w0' [] ∧ (i + k = hs1.length) ∧ (hs1.length = hs2.length) ∧ (ls1.take i = ls2.take i)) (hs1.length) ?_ ?_
 exact ⟨0, rfl, rfl, rfl, hN, by omega, by omega, rfl⟩
 clear hN
 rintro k R0 w0' ⟨i, hr0_, hr1_, hr5_, hN, hik, hxy, ht⟩
 have hR_ : ∃ R0_, R0 = (upd (upd (upd R0_ 0 _) 1 _) 5 _) := ⟨R0, by rw [upd_self hr0_, upd_self hr1_, upd_self hr5_]⟩
 obtain ⟨R0_, rfl⟩ := hR_
 clear hr0_ hr1_ hr5_
 iterate 2 refine RW.seq ?_
 refine RW.region (RL.ev (v := .int .i64 ((i : Int))) rfl rfl ev_move (RL.ev (v := av) rfl rfl ev_move (RL.ev rfl rfl (ev_lenS Tryz.underlying30 (ha.o.now hN) rfl) (RL.ev rfl rfl (ev_lss rfl rfl) (RL.nil (thenN ?_))))))
 refine RW.condP _ rfl (fun hlt => ?_) (fun hlt => ?_)
 refine RW.skip (thenN (RW.seq (RW.block (RW.seq ?_))))
 have hOb_ : ∃ a_, hs1[i]? = some a_ := ⟨_, List.getElem?_eq_getElem (by omega)⟩
 obtain ⟨ap, hap⟩ := hOb_
 have hOb_ : ∃ a_, hs2[i]? = some a_ := ⟨_, List.getElem?_eq_getElem (by omega)⟩
 obtain ⟨aq, haq⟩ := hOb_
 have hOb_ : ∃ a_, ls1[i]? = some a_ := ⟨_, List.getElem?_eq_getElem (by omega)⟩
 obtain ⟨lp, hlp⟩ := hOb_
 have hOb_ : ∃ a_, ls2[i]? = some a_ := ⟨_, List.getElem?_eq_getElem (by omega)⟩
 obtain ⟨lq, hlq⟩ := hOb_
 replace hN := hN.ext (Ext.drew w0')
 refine RW.drawR rfl (fun u => Now w none_ u []) 10 [(0,0), (1,0), (2,0), (3,0), (4,0), (5,0), (6,0), (7,0), (8,1), (9,0)] (by intro _ _ _ h; exact h) (by kernel_rfl) hN (RQ.ev (v := av) rfl rfl (fun w hS => ev_move) (RQ.ev (v := .int .i64 ((i : Int))) rfl rfl (fun w hS => ev_move) (RQ.ev rfl rfl (fun w hS => (ev_index Tryz.underlying30 sz118 (ha.o.now hS) rfl rfl (by omega) (by omega))) (RQ.ev rfl rfl (fun w hS => (ev_loadG (m := i) (a := ap) Tryz.underlying118 rfl (ha.o.now hS) rfl hap)) (RQ.ev (v := bv) rfl rfl (fun w hS => ev_move) (RQ.ev (v := .int .i64 ((i : Int))) rfl rfl (fun w hS => ev_move) (RQ.ev rfl rfl (fun w hS => (ev_index Tryz.underlying30 sz118 (hb.o.now hS) rfl rfl (by omega) (by omega))) (RQ.ev rfl rfl (fun w hS => (ev_loadG (m := i) (a := aq) Tryz.underlying118 rfl (hb.o.now hS) rfl haq)) ?_))))))))
 refine RQ.do rfl rfl (op_call2 Tryz.func154 rfl rfl rfl rfl ((sameRow_calls _ _ lp lq _ ((hea.slo hap hlp).now hN) ((heb.slo haq hlq).now hN)).mono ?_))
 rintro _ w5 ⟨rfl, he_⟩
 replace hN := hN.ext he_
 clear he_
 refine ⟨hN, ?_⟩
 refine RQ.ev rfl rfl (fun w hS => (ev_notP rfl)) (RQ.done (by kernel_rfl) (thenN ?_))
 refine RW.condP _ rfl (fun hne2 => ?_) (fun hne2 => ?_)
 refine RW.seq (RW.region (RL.ev (v := .bool false) rfl rfl ev_assign (RL.nil (thenN (RW.ret (blockR ?_))))))
 iterate 2 refine thenR ?_
 refine blockR (thenR (retI (RV.tmp rfl) ?_))
 exact ⟨congrArg Value.bool (decide_eq_false (fun e : ls1 = ls2 => hne2 (by subst e; rw [hlp] at hlq; exact Option.some.inj hlq))).symm, hN.ext0⟩
 refine RW.skip (blockN (thenN (RW.region (RL.ev (v := .int .i64 ((i : Int))) rfl rfl ev_move (RL.ev rfl rfl (ev_arith rfl rfl rfl (add64 (by omega) (by omega))) (RL.ev (v := .int .i64 ((i : Int) + 1)) rfl rfl ev_assign (RL.nil (thenN ?_))))))))
 exact ⟨k - 1, by omega, i + 1, rfl, rfl, rfl, hN, by omega, by omega, by rw [takeAt hlp, takeAt hlq, ht, Decidable.not_not.1 hne2]⟩
 refine RW.exit ?_
 iterate 2 refine thenX ?_
 refine blockHit (thenN (RW.seq (RW.region (RL.ev (v := .bool true) rfl rfl ev_assign (RL.nil (thenN (RW.ret (retI (RV.tmp rfl) ?_))))))))
 rw [show i = ls1.length by omega, List.take_length, List.take_of_length_le (by omega)] at ht
 exact ⟨congrArg Value.bool (decide_eq_true ht).symm, hN.ext0⟩
set_option maxHeartbeats 4000000 in
set_option maxRecDepth 100000 in
theorem sameTable_calls (av bv : Value) (hs1 hs2 : List Hd) (ls1 ls2 : List (List Int)) (w : World) (ha : Sl vh w av hs1) (hb : Sl vh w bv hs2) (hea : Els none_ vI w hs1 ls1) (heb : Els none_ vI w hs2 ls2) : Gives Tryz.prog 89 #[av, bv] w fun r w' => r = .bool (decide (ls1 = ls2)) ∧ Ext w w' := by
 refine Gives.start Tryz.func89 rfl (Nat.le_of_ble_eq_true rfl) ?_
 rw [args2]
 have hN := Now.nil w none_
 have hla := hea.1
 have hlb := heb.1
 refine RW.seq (RW.region (RL.ev (v := .bool false) rfl rfl ev_assign (RL.nil (thenN ?_))))
 iterate 2 refine RW.seq ?_
 refine RW.region (RL.ev (v := av) rfl rfl ev_move ?_)
 have hL_1 := (ha.o.now hN).len_le
 refine RL.ev rfl rfl (ev_lenS Tryz.underlying29 (ha.o.now hN) rfl) (RL.ev (v := bv) rfl rfl ev_move ?_)
 have hL_2 := (hb.o.now hN).len_le
 refine RL.ev rfl rfl (ev_lenS Tryz.underlying29 (hb.o.now hN) rfl) (RL.ev rfl rfl (ev_neq rfl rfl) (RL.nil (thenN ?_)))
 refine RW.condP _ rfl (fun hne => ?_) (fun hne => ?_)
 refine RW.seq (RW.region (RL.ev (v := .bool false) rfl rfl ev_assign (RL.nil (thenN (RW.ret (thenR (retI (RV.tmp rfl) ?_)))))))
 exact ⟨congrArg Value.bool (decide_eq_false (fun e : ls1 = ls2 => hne (by rw [hla, hlb, e]))).symm, hN.ext0⟩
 refine RW.skip (thenN ?_)
 iterate 2 refine RW.seq ?_
 refine RW.region (RL.ev (v := .int .i64 (0)) rfl rfl ev_assign (RL.nil (thenN (RW.block ?_))))
 refine RW.loop (fun k R0 w0' => ∃ i : Nat, R0 0 = av ∧ R0 1 = bv ∧ R0 5 = .int .i64 ((i : Int)) ∧ Now w none_ w0' [] ∧ (i + k = hs1.length) ∧ (hs1.length = hs2.length) ∧ (ls1.take i = ls2.take i)) (hs1.length) ?_ ?_
 exact ⟨0, rfl, rfl, rfl, hN, by omega, by omega, rfl⟩
 clear hN
 rintro k R0 w0' ⟨i, hr0_, hr1_, hr5_, hN, hik, hxy, ht⟩
 have hR_ : ∃ R0_, R0 = (upd (upd (upd R0_ 0 _) 1 _) 5 _) := ⟨R0, by rw [upd_self hr0_, upd_self hr1_, upd_self hr5_]⟩
 obtain ⟨R0_, rfl⟩ := hR_
 clear hr0_ hr1_ hr5_
 iterate 2 refine RW.seq ?_
 refine RW.region (RL.ev (v := .int .i64 ((i : Int))) rfl rfl ev_move (RL.ev (v := av) rfl rfl ev_move (RL.ev rfl rfl (ev_lenS Tryz.underlying29 (ha.o.now hN) rfl) (RL.ev rfl rfl (ev_lss rfl rfl) (RL.nil (thenN ?_))))))
 refine RW.condP _ rfl (fun hlt => ?_) (fun hlt => ?_)
 refine RW.skip (thenN (RW.seq (RW.block ?_)))
 iterate 2 refine RW.seq ?_
 have hOb_ : ∃ a_, hs1[i]? = some a_ := ⟨_, List.getElem?_eq_getElem (by omega)⟩
 obtain ⟨ap, hap⟩ := hOb_
 have hOb_ : ∃ a_, hs2[i]? = some a_ := ⟨_, List.getElem?_eq_getElem (by omega)⟩
 obtain ⟨aq, haq⟩ := hOb_
 have hOb_ : ∃ a_, ls1[i]? = some a_ := ⟨_, List.getElem?_eq_getElem (by omega)⟩
 obtain ⟨lp, hlp⟩ := hOb_
 have hOb_ : ∃ a_, ls2[i]? = some a_ := ⟨_, List.getElem?_eq_getElem (by omega)⟩
 obtain ⟨lq, hlq⟩ := hOb_
 replace hN := hN.ext (Ext.drew w0')
 refine RW.drawR rfl (fun u => Now w none_ u []) 11 [(0,0), (1,0), (2,0), (3,0), (4,0), (5,0), (6,0), (7,0), (8,0), (9,0), (10,0)] (by intro _ _ _ h; exact h) (by kernel_rfl) hN (RQ.ev (v := av) rfl rfl (fun w hS => ev_move) (RQ.ev (v := .int .i64 ((i : Int))) rfl rfl (fun w hS => ev_move) (RQ.ev rfl rfl (fun w hS => (ev_index Tryz.underlying29 sz25 (ha.o.now hS) rfl rfl (by omega) (by omega))) (RQ.ev rfl rfl (fun w hS => (ev_loadG (m := i) (a := ap) Tryz.underlying25 rfl (ha.o.now hS) rfl hap)) ?_))))
 have hL_4 := ((hea.slo hap hlp).now hN).len_le
 refine RQ.ev rfl rfl (fun w hS => (ev_lenS Tryz.underlying25 ((hea.slo hap hlp).now hS) rfl)) (RQ.ev (v := bv) rfl rfl (fun w hS => ev_move) (RQ.ev (v := .int .i64 ((i : Int))) rfl rfl (fun w hS => ev_move) (RQ.ev rfl rfl (fun w hS => (ev_index Tryz.underlying29 sz25 (hb.o.now hS) rfl rfl (by omega) (by omega))) (RQ.ev rfl rfl (fun w hS => (ev_loadG (m := i) (a := aq) Tryz.underlying25 rfl (hb.o.now hS) rfl haq)) ?_))))
 have hL_6 := ((heb.slo haq hlq).now hN).len_le
 refine RQ.ev rfl rfl (fun w hS => (ev_lenS Tryz.underlying25 ((heb.slo haq hlq).now hS) rfl)) (RQ.ev rfl rfl (fun w hS => (ev_neq rfl rfl)) (RQ.done (by kernel_rfl) (thenN ?_)))
 refine RW.condP _ rfl (fun hne3 => ?_) (fun hne3 => ?_)
 refine RW.seq (RW.region (RL.ev (v := .bool false) rfl rfl ev_assign (RL.nil (thenN (RW.ret (thenR (blockR ?_)))))))
 iterate 2 refine thenR ?_
 refine blockR (thenR (retI (RV.tmp rfl) ?_))
 exact ⟨congrArg Value.bool (decide_eq_false (fun e : ls1 = ls2 => hne3 (by subst e; rw [hlp] at hlq; rw [Option.some.inj hlq]))).symm, hN.ext0⟩
 refine RW.skip (thenN (RW.seq (RW.region (RL.ev (v := .int .i64 (0)) rfl rfl ev_assign (RL.nil (thenN (RW.block ?_)))))))
 refine RW.loop (fun k2 R1 w1' => ∃ q : Nat, R1 0 = av ∧ R1 1 = bv ∧ R1 5 = .int .i64 ((i : Int)) ∧ R1 6 = .int .i64 ((q : Int)) ∧ Now w none_ w1' [] ∧ (q + k2 = lp.length) ∧ (lp.length = lq.length) ∧ (lp.take q = lq.take q)) (lp.length) ?_ ?_
 exact ⟨0, rfl, rfl, rfl, rfl, hN, by omega, by omega, rfl⟩
 clear hN
 rintro k2 R1 w1' ⟨q, hr0_, hr1_, hr5_, hr6_, hN, hqk, hpq, ht2⟩
 have hR_ : ∃ R1_, R1 = (upd (upd (upd (upd R1_ 0 _) 1 _) 5 _) 6 _) := ⟨R1, by rw [upd_self hr0_, upd_self hr1_, upd_self hr5_, upd_self hr6_]⟩
 obtain ⟨R1_, rfl⟩ := hR_
 clear hr0_ hr1_ hr5_ hr6_
 iterate 2 refine RW.seq ?_
 refine RW.region (RL.ev (v := .int .i64 ((q : Int))) rfl rfl ev_move (RL.ev (v := av) rfl rfl ev_move (RL.ev (v := .int .i64 ((i : Int))) rfl rfl ev_move (RL.ev rfl rfl (ev_index Tryz.underlying29 sz25 (ha.o.now hN) rfl rfl (by omega) (by omega)) (RL.ev rfl rfl (ev_loadG (m := i) (a := ap) Tryz.underlying25 rfl (ha.o.now hN) rfl hap) (RL.ev rfl rfl (ev_lenS Tryz.underlying25 ((hea.slo hap hlp).now hN) rfl) (RL.ev rfl rfl (ev_lss rfl rfl) (RL.nil (thenN ?_)))))))))
 refine RW.condP _ rfl (fun hlt2 => ?_) (fun hlt2 => ?_)
 refine RW.skip (thenN (RW.seq (RW.block (RW.seq ?_))))
 replace hN := hN.ext (Ext.drew w1')
 refine RW.drawR rfl (fun u => Now w none_ u []) 15 [(0,0), (1,0), (2,0), (3,0), (4,0), (5,0), (6,0), (7,0), (8,0), (9,0), (10,0), (11,0), (12,0), (13,0), (14,0)] (by intro _ _ _ h; exact h) (by kernel_rfl) hN (RQ.ev (v := av) rfl rfl (fun w hS => ev_move) (RQ.ev (v := .int .i64 ((i : Int))) rfl rfl (fun w hS => ev_move) (RQ.ev rfl rfl (fun w hS => (ev_index Tryz.underlying29 sz25 (ha.o.now hS) rfl rfl (by omega) (by omega))) (RQ.ev rfl rfl (fun w hS => (ev_loadG (m := i) (a := ap) Tryz.underlying25 rfl (ha.o.now hS) rfl hap)) (RQ.ev (v := .int .i64 ((q : Int))) rfl rfl (fun w hS => ev_move) (RQ.ev rfl rfl (fun w hS => (ev_index Tryz.underlying25 sz3 ((hea.slo hap hlp).now hS) rfl rfl (by omega) (by omega))) ?_))))))
 have hOb_ : ∃ a_, (lp)[q]? = some a_ := ⟨_, List.getElem?_eq_getElem (by omega)⟩
 obtain ⟨ac, hac⟩ := hOb_
 refine RQ.ev rfl rfl (fun w hS => (ev_loadG (m := q) (a := ac) Tryz.underlying3 rfl ((hea.slo hap hlp).now hS) rfl hac)) (RQ.ev (v := bv) rfl rfl (fun w hS => ev_move) (RQ.ev (v := .int .i64 ((i : Int))) rfl rfl (fun w hS => ev_move) (RQ.ev rfl rfl (fun w hS => (ev_index Tryz.underlying29 sz25 (hb.o.now hS) rfl rfl (by omega) (by omega))) (RQ.ev rfl rfl (fun w hS => (ev_loadG (m := i) (a := aq) Tryz.underlying25 rfl (hb.o.now hS) rfl haq)) (RQ.ev (v := .int .i64 ((q : Int))) rfl rfl (fun w hS => ev_move) (RQ.ev rfl rfl (fun w hS => (ev_index Tryz.underlying25 sz3 ((heb.slo haq hlq).now hS) rfl rfl (by omega) (by omega))) ?_))))))
 have hOb_ : ∃ a_, (lq)[q]? = some a_ := ⟨_, List.getElem?_eq_getElem (by omega)⟩
 obtain ⟨ad, had⟩ := hOb_
 refine RQ.ev rfl rfl (fun w hS => (ev_loadG (m := q) (a := ad) Tryz.underlying3 rfl ((heb.slo haq hlq).now hS) rfl had)) (RQ.ev rfl rfl (fun w hS => (ev_neq rfl rfl)) (RQ.done (by kernel_rfl) (thenN ?_)))
 refine RW.condP _ rfl (fun hne4 => ?_) (fun hne4 => ?_)
 refine RW.seq (RW.region (RL.ev (v := .bool false) rfl rfl ev_assign (RL.nil (thenN (RW.ret (blockR ?_))))))
 iterate 2 refine thenR ?_
 iterate 2 refine blockR ?_
 iterate 2 refine thenR ?_
 refine blockR (thenR (retI (RV.tmp rfl) ?_))
 exact ⟨congrArg Value.bool (decide_eq_false (fun e : ls1 = ls2 => hne4 (by subst e; rw [hlp] at hlq; cases hlq; rw [hac] at had; exact Option.some.inj had))).symm, hN.ext0⟩
 refine RW.skip (blockN (thenN (RW.region (RL.ev (v := .int .i64 ((q : Int))) rfl rfl ev_move (RL.ev rfl rfl (ev_arith rfl rfl rfl (add64 (by omega) (by omega))) (RL.ev (v := .int .i64 ((q : Int) + 1)) rfl rfl ev_assign (RL.nil (thenN ?_))))))))
 exact ⟨k2 - 1, by omega, q + 1, rfl, rfl, rfl, rfl, hN, by omega, by omega, by rw [takeAt hac, takeAt had, ht2, Decidable.not_not.1 hne4]⟩
 refine RW.exit ?_
 iterate 2 refine thenX ?_
 refine blockHit (blockN (thenN (RW.region (RL.ev (v := .int .i64 ((i : Int))) rfl rfl ev_move (RL.ev rfl rfl (ev_arith rfl rfl rfl (add64 (by omega) (by omega))) (RL.ev (v := .int .i64 ((i : Int) + 1)) rfl rfl ev_assign (RL.nil (thenN ?_))))))))
 exact ⟨k - 1, by omega, i + 1, rfl, rfl, rfl, hN, by omega, by omega, by rw [show q = lp.length by omega, List.take_length, List.take_of_length_le (by omega)] at ht2; rw [takeAt hlp, takeAt hlq, ht, ht2]⟩
 refine RW.exit ?_
 iterate 2 refine thenX ?_
 refine blockHit (thenN (RW.seq (RW.region (RL.ev (v := .bool true) rfl rfl ev_assign (RL.nil (thenN (RW.ret (retI (RV.tmp rfl) ?_))))))))
 rw [show i = ls1.length by omega, List.take_length, List.take_of_length_le (by omega)] at ht
 exact ⟨congrArg Value.bool (decide_eq_true ht).symm, hN.ext0⟩
end Go.Proofs.YtngkdkbpgoddlaaGreat
set_option linter.unusedVariables false
set_option linter.unusedSimpArgs false
namespace Go.Proofs.YtngkdkbpgoddlaaGreat
open Go.RowKit Go.Rl
open Go.Gr Go.Codec
set_option maxHeartbeats 4000000 in
set_option maxRecDepth 100000 in
theorem sameTab_calls (w : World) (gv1 : Value) (gl1 : List Int) (hg1 : Sl vI w gv1 gl1) (fv1 : Value) (fh1 : List Hd) (fl1 : List (List Int)) (hf1 : Sl vh w fv1 fh1) (hfe1 : Els none_ vI w fh1 fl1) (ov1 : Value) (oh1 : List Hd) (ol1 : List (List I2)) (ho1 : Sl vh w ov1 oh1) (hoe1 : ElsM none_ i2cells w oh1 ol1) (iv1 : Value) (ih1 : List Hd) (il1 : List (List I2)) (hi1 : Sl vh w iv1 ih1) (hie1 : ElsM none_ i2cells w ih1 il1) (sov1 : Value) (soh1 : List Hd) (sol1 : List (List Int)) (hso1 : Sl vh w sov1 soh1) (hsoe1 : Els none_ vI w soh1 sol1) (siv1 : Value) (sih1 : List Hd) (sil1 : List (List Int)) (hsi1 : Sl vh w siv1 sih1) (hsie1 : Els none_ vI w sih1 sil1) (gv2 : Value) (gl2 : List Int) (hg2 : Sl vI w gv2 gl2) (fv2 : Value) (fh2 : List Hd) (fl2 : List (List Int)) (hf2 : Sl vh w fv2 fh2) (hfe2 : Els none_ vI w fh2 fl2) (ov2 : Value) (oh2 : List Hd) (ol2 : List (List I2)) (ho2 : Sl vh w ov2 oh2) (hoe2 : ElsM none_ i2cells w oh2 ol2) (iv2 : Value) (ih2 : List Hd) (il2 : List (List I2)) (hi2 : Sl vh w iv2 ih2) (hie2 : ElsM none_ i2cells w ih2 il2) (sov2 : Value) (soh2 : List Hd) (sol2 : List (List Int)) (hso2 : Sl vh w sov2 soh2) (hsoe2 : Els none_ vI w soh2 sol2) (siv2 : Value) (sih2 : List Hd) (sil2 : List (List Int)) (hsi2 : Sl vh w siv2 sih2) (hsie2 : Els none_ vI w sih2 sil2) : Gives Tryz.prog 35 #[.agg #[gv1, fv1, ov1, iv1, sov1, siv1], .agg #[gv2, fv2, ov2, iv2, sov2, siv2]] w fun r w' => r = .bool (decide (gl1 = gl2 ∧ fl1 = fl2 ∧ ol1 = ol2 ∧ il1 = il2 ∧ sol1 = sol2 ∧ sil1 = sil2)) ∧ Ext w w' := by
 refine Gives.start Tryz.func35 rfl (Nat.le_of_ble_eq_true rfl) ?_
 rw [args2]
 have hN := Now.nil w none_
 refine RW.seq (RW.region ?_)
 refine RL.op rfl rfl (opN_box (cs := [gv1, fv1, ov1, iv1, sov1, siv1]) rfl rfl hN ?_)
 clear hN
 intro g1 w1 (hN : Now w none_ w1 [_])
 refine RL.op rfl rfl (opN_box (cs := [gv2, fv2, ov2, iv2, sov2, siv2]) rfl rfl hN ?_)
 clear hN
 intro g2 w2 (hN : Now w none_ w2 [_, _])
 refine RL.ev (v := .bool false) rfl rfl ev_assign (RL.nil (thenN (RW.seq (RW.region (RL.ev rfl rfl (ev_fieldAddr Tryz.underlying32 rfl sz25 (by decide) rfl) (RL.ev rfl rfl (ev_loadB Tryz.underlying25 rfl rfl (hN.blk 1 rfl) rfl) (RL.ev rfl rfl (ev_fieldAddr Tryz.underlying32 rfl sz25 (by decide) rfl) (RL.ev rfl rfl (ev_loadB Tryz.underlying25 rfl rfl (hN.blk 0 rfl) rfl) ?_))))))))
 refine RL.op rfl rfl (op_call2 Tryz.func88 rfl rfl rfl rfl ((sameInts_calls _ _ gl1 gl2 _ (hg1.o.now hN) (hg2.o.now hN)).mono ?_))
 rintro _ w3 ⟨rfl, he_⟩
 replace hN := hN.ext he_
 clear he_
 refine RL.ev (v := .bool (decide (gl1 = gl2))) rfl rfl ev_move ?_
 by_cases hg1_5 : gl1 = gl2
 rw [decide_eq_true hg1_5]
 refine RL.onEv rfl rfl (by decide) rfl rfl (ev_fieldAddr Tryz.underlying32 rfl sz29 (by decide) rfl) (RL.onEv rfl rfl (by decide) rfl rfl (ev_loadB Tryz.underlying29 rfl rfl (hN.blk 1 rfl) rfl) (RL.onEv rfl rfl (by decide) rfl rfl (ev_fieldAddr Tryz.underlying32 rfl sz29 (by decide) rfl) (RL.onEv rfl rfl (by decide) rfl rfl (ev_loadB Tryz.underlying29 rfl rfl (hN.blk 0 rfl) rfl) ?_)))
 refine RL.on rfl rfl (by decide) rfl rfl (op_call2 Tryz.func89 rfl rfl rfl rfl ((sameTable_calls _ _ fh1 fh2 fl1 fl2 _ (hf1.o.now hN) (hf2.o.now hN) (hfe1.nowN hN) (hfe2.nowN hN)).mono ?_))
 rintro _ w4 ⟨rfl, he_⟩
 replace hN := hN.ext he_
 clear he_
 refine RL.ev (v := .bool (decide (fl1 = fl2))) rfl rfl (ev_pickT rfl) (RL.ev (v := .bool (decide (fl1 = fl2))) rfl rfl ev_move ?_)
 by_cases hg1_12 : fl1 = fl2
 rw [decide_eq_true hg1_12]
 refine RL.onEv rfl rfl (by decide) rfl rfl (ev_fieldAddr Tryz.underlying32 rfl sz30 (by decide) rfl) (RL.onEv rfl rfl (by decide) rfl rfl (ev_loadB Tryz.underlying30 rfl rfl (hN.blk 1 rfl) rfl) (RL.onEv rfl rfl (by decide) rfl rfl (ev_fieldAddr Tryz.underlying32 rfl sz30 (by decide) rfl) (RL.onEv rfl rfl (by decide) rfl rfl (ev_loadB Tryz.underlying30 rfl rfl (hN.blk 0 rfl) rfl) ?_)))
 refine RL.on rfl rfl (by decide) rfl rfl (op_call2 Tryz.func90 rfl rfl rfl rfl ((sameReaches_calls _ _ oh1 oh2 ol1 ol2 _ (ho1.o.now hN) (ho2.o.now hN) (hoe1.ext hN.ext0) (hoe2.ext hN.ext0)).mono ?_))
 rintro _ w5 ⟨rfl, he_⟩
 replace hN := hN.ext he_
 clear he_
 refine RL.ev (v := .bool (decide (ol1 = ol2))) rfl rfl (ev_pickT rfl) (RL.ev (v := .bool (decide (ol1 = ol2))) rfl rfl ev_move ?_)
 by_cases hg1_19 : ol1 = ol2
 rw [decide_eq_true hg1_19]
 refine RL.onEv rfl rfl (by decide) rfl rfl (ev_fieldAddr Tryz.underlying32 rfl sz30 (by decide) rfl) (RL.onEv rfl rfl (by decide) rfl rfl (ev_loadB Tryz.underlying30 rfl rfl (hN.blk 1 rfl) rfl) (RL.onEv rfl rfl (by decide) rfl rfl (ev_fieldAddr Tryz.underlying32 rfl sz30 (by decide) rfl) (RL.onEv rfl rfl (by decide) rfl rfl (ev_loadB Tryz.underlying30 rfl rfl (hN.blk 0 rfl) rfl) ?_)))
 refine RL.on rfl rfl (by decide) rfl rfl (op_call2 Tryz.func90 rfl rfl rfl rfl ((sameReaches_calls _ _ ih1 ih2 il1 il2 _ (hi1.o.now hN) (hi2.o.now hN) (hie1.ext hN.ext0) (hie2.ext hN.ext0)).mono ?_))
 rintro _ w6 ⟨rfl, he_⟩
 replace hN := hN.ext he_
 clear he_
 refine RL.ev (v := .bool (decide (il1 = il2))) rfl rfl (ev_pickT rfl) (RL.ev (v := .bool (decide (il1 = il2))) rfl rfl ev_move ?_)
 by_cases hg1_26 : il1 = il2
 rw [decide_eq_true hg1_26]
 refine RL.onEv rfl rfl (by decide) rfl rfl (ev_fieldAddr Tryz.underlying32 rfl sz29 (by decide) rfl) (RL.onEv rfl rfl (by decide) rfl rfl (ev_loadB Tryz.underlying29 rfl rfl (hN.blk 1 rfl) rfl) (RL.onEv rfl rfl (by decide) rfl rfl (ev_fieldAddr Tryz.underlying32 rfl sz29 (by decide) rfl) (RL.onEv rfl rfl (by decide) rfl rfl (ev_loadB Tryz.underlying29 rfl rfl (hN.blk 0 rfl) rfl) ?_)))
 refine RL.on rfl rfl (by decide) rfl rfl (op_call2 Tryz.func89 rfl rfl rfl rfl ((sameTable_calls _ _ soh1 soh2 sol1 sol2 _ (hso1.o.now hN) (hso2.o.now hN) (hsoe1.nowN hN) (hsoe2.nowN hN)).mono ?_))
 rintro _ w7 ⟨rfl, he_⟩
 replace hN := hN.ext he_
 clear he_
 refine RL.ev (v := .bool (decide (sol1 = sol2))) rfl rfl (ev_pickT rfl) (RL.ev (v := .bool (decide (sol1 = sol2))) rfl rfl ev_move ?_)
 by_cases hg1_33 : sol1 = sol2
 rw [decide_eq_true hg1_33]
 refine RL.onEv rfl rfl (by decide) rfl rfl (ev_fieldAddr Tryz.underlying32 rfl sz29 (by decide) rfl) (RL.onEv rfl rfl (by decide) rfl rfl (ev_loadB Tryz.underlying29 rfl rfl (hN.blk 1 rfl) rfl) (RL.onEv rfl rfl (by decide) rfl rfl (ev_fieldAddr Tryz.underlying32 rfl sz29 (by decide) rfl) (RL.onEv rfl rfl (by decide) rfl rfl (ev_loadB Tryz.underlying29 rfl rfl (hN.blk 0 rfl) rfl) ?_)))
 refine RL.on rfl rfl (by decide) rfl rfl (op_call2 Tryz.func89 rfl rfl rfl rfl ((sameTable_calls _ _ sih1 sih2 sil1 sil2 _ (hsi1.o.now hN) (hsi2.o.now hN) (hsie1.nowN hN) (hsie2.nowN hN)).mono ?_))
 rintro _ w8 ⟨rfl, he_⟩
 replace hN := hN.ext he_
 clear he_
 refine RL.ev (v := .bool (decide (sil1 = sil2))) rfl rfl (ev_pickT rfl) (RL.ev (v := .bool (decide (sil1 = sil2))) rfl rfl ev_assign (RL.nil (thenN (RW.ret (retI (RV.tmp rfl) ?_)))))
 exact ⟨congrArg Value.bool (decide_eq_decide.2 ⟨fun h => by refine ⟨?_, ?_, ?_, ?_, ?_, ?_⟩ <;> first | exact h | assumption, fun e => by obtain ⟨e0, e1, e2, e3, e4, e5⟩ := e; assumption⟩), hN.ext0⟩
 rw [decide_eq_false hg1_33]
 iterate 5 refine RL.off rfl rfl (by decide) rfl rfl ?_
 refine RL.ev (v := .bool false) rfl rfl (ev_pickF rfl) (RL.ev (v := .bool false) rfl rfl ev_assign (RL.nil (thenN (RW.ret (retI (RV.tmp rfl) ?_)))))
 exact ⟨congrArg Value.bool (decide_eq_false (fun e => by obtain ⟨e0, e1, e2, e3, e4, e5⟩ := e; contradiction)).symm, hN.ext0⟩
 rw [decide_eq_false hg1_26]
 iterate 5 refine RL.off rfl rfl (by decide) rfl rfl ?_
 refine RL.ev (v := .bool false) rfl rfl (ev_pickF rfl) (RL.ev (v := .bool false) rfl rfl ev_move ?_)
 iterate 5 refine RL.off rfl rfl (by decide) rfl rfl ?_
 refine RL.ev (v := .bool false) rfl rfl (ev_pickF rfl) (RL.ev (v := .bool false) rfl rfl ev_assign (RL.nil (thenN (RW.ret (retI (RV.tmp rfl) ?_)))))
 exact ⟨congrArg Value.bool (decide_eq_false (fun e => by obtain ⟨e0, e1, e2, e3, e4, e5⟩ := e; contradiction)).symm, hN.ext0⟩
 rw [decide_eq_false hg1_19]
 iterate 5 refine RL.off rfl rfl (by decide) rfl rfl ?_
 refine RL.ev (v := .bool false) rfl rfl (ev_pickF rfl) (RL.ev (v := .bool false) rfl rfl ev_move ?_)
 iterate 5 refine RL.off rfl rfl (by decide) rfl rfl ?_
 refine RL.ev (v := .bool false) rfl rfl (ev_pickF rfl) (RL.ev (v := .bool false) rfl rfl ev_move ?_)
 iterate 5 refine RL.off rfl rfl (by decide) rfl rfl ?_
 refine RL.ev (v := .bool false) rfl rfl (ev_pickF rfl) (RL.ev (v := .bool false) rfl rfl ev_assign (RL.nil (thenN (RW.ret (retI (RV.tmp rfl) ?_)))))
 exact ⟨congrArg Value.bool (decide_eq_false (fun e => by obtain ⟨e0, e1, e2, e3, e4, e5⟩ := e; contradiction)).symm, hN.ext0⟩
 rw [decide_eq_false hg1_12]
 iterate 5 refine RL.off rfl rfl (by decide) rfl rfl ?_
 refine RL.ev (v := .bool false) rfl rfl (ev_pickF rfl) (RL.ev (v := .bool false) rfl rfl ev_move ?_)
 iterate 5 refine RL.off rfl rfl (by decide) rfl rfl ?_
 refine RL.ev (v := .bool false) rfl rfl (ev_pickF rfl) (RL.ev (v := .bool false) rfl rfl ev_move ?_)
 iterate 5 refine RL.off rfl rfl (by decide) rfl rfl ?_
 refine RL.ev (v := .bool false) rfl rfl (ev_pickF rfl) (RL.ev (v := .bool false) rfl rfl ev_move ?_)
 iterate 5 refine RL.off rfl rfl (by decide) rfl rfl ?_
 refine RL.ev (v := .bool false) rfl rfl (ev_pickF rfl) (RL.ev (v := .bool false) rfl rfl ev_assign (RL.nil (thenN (RW.ret (retI (RV.tmp rfl) ?_)))))
 exact ⟨congrArg Value.bool (decide_eq_false (fun e => by obtain ⟨e0, e1, e2, e3, e4, e5⟩ := e; contradiction)).symm, hN.ext0⟩
 rw [decide_eq_false hg1_5]
 iterate 5 refine RL.off rfl rfl (by decide) rfl rfl ?_
 refine RL.ev (v := .bool false) rfl rfl (ev_pickF rfl) (RL.ev (v := .bool false) rfl rfl ev_move ?_)
 iterate 5 refine RL.off rfl rfl (by decide) rfl rfl ?_
 refine RL.ev (v := .bool false) rfl rfl (ev_pickF rfl) (RL.ev (v := .bool false) rfl rfl ev_move ?_)
 iterate 5 refine RL.off rfl rfl (by decide) rfl rfl ?_
 refine RL.ev (v := .bool false) rfl rfl (ev_pickF rfl) (RL.ev (v := .bool false) rfl rfl ev_move ?_)
 iterate 5 refine RL.off rfl rfl (by decide) rfl rfl ?_
 refine RL.ev (v := .bool false) rfl rfl (ev_pickF rfl) (RL.ev (v := .bool false) rfl rfl ev_move ?_)
 iterate 5 refine RL.off rfl rfl (by decide) rfl rfl ?_
 refine RL.ev (v := .bool false) rfl rfl (ev_pickF rfl) (RL.ev (v := .bool false) rfl rfl ev_assign (RL.nil (thenN (RW.ret (retI (RV.tmp rfl) ?_)))))
 exact ⟨congrArg Value.bool (decide_eq_false (fun e => by obtain ⟨e0, e1, e2, e3, e4, e5⟩ := e; contradiction)).symm, hN.ext0⟩
set_option maxHeartbeats 4000000 in
set_option maxRecDepth 100000 in
theorem sameImg_calls (w : World) (n1 : Int) (av1 rv1 wv1 : Value) (l1 : List I3) (rk1 : List Int) (ws1 : List I5) (ha1 : Sm i3cells w av1 l1) (hr1 : Sl vI w rv1 rk1) (hw1 : Sm i5cells w wv1 ws1) (gv1 : Value) (gl1 : List Int) (hg1 : Sl vI w gv1 gl1) (fv1 : Value) (fh1 : List Hd) (fl1 : List (List Int)) (hf1 : Sl vh w fv1 fh1) (hfe1 : Els none_ vI w fh1 fl1) (ov1 : Value) (oh1 : List Hd) (ol1 : List (List I2)) (ho1 : Sl vh w ov1 oh1) (hoe1 : ElsM none_ i2cells w oh1 ol1) (iv1 : Value) (ih1 : List Hd) (il1 : List (List I2)) (hi1 : Sl vh w iv1 ih1) (hie1 : ElsM none_ i2cells w ih1 il1) (sov1 : Value) (soh1 : List Hd) (sol1 : List (List Int)) (hso1 : Sl vh w sov1 soh1) (hsoe1 : Els none_ vI w soh1 sol1) (siv1 : Value) (sih1 : List Hd) (sil1 : List (List Int)) (hsi1 : Sl vh w siv1 sih1) (hsie1 : Els none_ vI w sih1 sil1) (n2 : Int) (av2 rv2 wv2 : Value) (l2 : List I3) (rk2 : List Int) (ws2 : List I5) (ha2 : Sm i3cells w av2 l2) (hr2 : Sl vI w rv2 rk2) (hw2 : Sm i5cells w wv2 ws2) (gv2 : Value) (gl2 : List Int) (hg2 : Sl vI w gv2 gl2) (fv2 : Value) (fh2 : List Hd) (fl2 : List (List Int)) (hf2 : Sl vh w fv2 fh2) (hfe2 : Els none_ vI w fh2 fl2) (ov2 : Value) (oh2 : List Hd) (ol2 : List (List I2)) (ho2 : Sl vh w ov2 oh2) (hoe2 : ElsM none_ i2cells w oh2 ol2) (iv2 : Value) (ih2 : List Hd) (il2 : List (List I2)) (hi2 : Sl vh w iv2 ih2) (hie2 : ElsM none_ i2cells w ih2 il2) (sov2 : Value) (soh2 : List Hd) (sol2 : List (List Int)) (hso2 : Sl vh w sov2 soh2) (hsoe2 : Els none_ vI w soh2 sol2) (siv2 : Value) (sih2 : List Hd) (sil2 : List (List Int)) (hsi2 : Sl vh w siv2 sih2) (hsie2 : Els none_ vI w sih2 sil2) : Gives Tryz.prog 12 #[.agg #[.int .i64 n1, av1, rv1, wv1, gv1, fv1, ov1, iv1, sov1, siv1], .agg #[.int .i64 n2, av2, rv2, wv2, gv2, fv2, ov2, iv2, sov2, siv2]] w fun r w' => r = .bool (decide ((n1 = n2 ∧ l1 = l2) ∧ (rk1 = rk2 ∧ ws1 = ws2) ∧ gl1 = gl2 ∧ fl1 = fl2 ∧ ol1 = ol2 ∧ il1 = il2 ∧ sol1 = sol2 ∧ sil1 = sil2)) ∧ Ext w w' := by
 refine Gives.start Tryz.func12 rfl (Nat.le_of_ble_eq_true rfl) ?_
 rw [args2]
 have hN := Now.nil w none_
 refine RW.seq (RW.region ?_)
 refine RL.op rfl rfl (opN_box (cs := [.int .i64 (n1), av1, rv1, wv1, gv1, fv1, ov1, iv1, sov1, siv1]) rfl rfl hN ?_)
 clear hN
 intro g1 w1 (hN : Now w none_ w1 [_])
 refine RL.op rfl rfl (opN_box (cs := [.int .i64 (n2), av2, rv2, wv2, gv2, fv2, ov2, iv2, sov2, siv2]) rfl rfl hN ?_)
 clear hN
 intro g2 w2 (hN : Now w none_ w2 [_, _])
 refine RL.ev (v := .bool false) rfl rfl ev_assign (RL.nil (thenN (RW.seq (RW.region (RL.ev rfl rfl (ev_fieldAddr Tryz.underlying34 rfl sz24 (by decide) rfl) (RL.ev rfl rfl (ev_loadSub (cs := [.int .i64 (n1), av1, rv1, wv1, gv1, fv1, ov1, iv1, sov1, siv1]) (j := 0) (m := 2) Tryz.underlying24 rfl sz24 rfl (hN.blk 1 rfl) (Nat.le_of_ble_eq_true rfl)) (RL.ev rfl rfl (ev_fieldAddr Tryz.underlying34 rfl sz24 (by decide) rfl) (RL.ev rfl rfl (ev_loadSub (cs := [.int .i64 (n2), av2, rv2, wv2, gv2, fv2, ov2, iv2, sov2, siv2]) (j := 0) (m := 2) Tryz.underlying24 rfl sz24 rfl (hN.blk 0 rfl) (Nat.le_of_ble_eq_true rfl)) ?_))))))))
 refine RL.op rfl rfl (op_call2 Tryz.func33 rfl rfl rfl rfl ((sameMap_calls (n1) (n2) _ _ l1 l2 _ (ha1.o.now hN) (ha2.o.now hN)).mono ?_))
 rintro _ w3 ⟨rfl, he_⟩
 replace hN := hN.ext he_
 clear he_
 refine RL.ev (v := .bool (decide (n1 = n2 ∧ l1 = l2))) rfl rfl ev_move ?_
 by_cases hg1_5 : n1 = n2 ∧ l1 = l2
 rw [decide_eq_true hg1_5]
 refine RL.onEv rfl rfl (by decide) rfl rfl (ev_fieldAddr Tryz.underlying34 rfl sz28 (by decide) rfl) (RL.onEv rfl rfl (by decide) rfl rfl (ev_loadSub (cs := [.int .i64 (n1), av1, rv1, wv1, gv1, fv1, ov1, iv1, sov1, siv1]) (j := 2) (m := 2) Tryz.underlying28 rfl sz28 rfl (hN.blk 1 rfl) (Nat.le_of_ble_eq_true rfl)) (RL.onEv rfl rfl (by decide) rfl rfl (ev_fieldAddr Tryz.underlying34 rfl sz28 (by decide) rfl) (RL.onEv rfl rfl (by decide) rfl rfl (ev_loadSub (cs := [.int .i64 (n2), av2, rv2, wv2, gv2, fv2, ov2, iv2, sov2, siv2]) (j := 2) (m := 2) Tryz.underlying28 rfl sz28 rfl (hN.blk 0 rfl) (Nat.le_of_ble_eq_true rfl)) ?_)))
 refine RL.on rfl rfl (by decide) rfl rfl (op_call2 Tryz.func34 rfl rfl rfl rfl ((sameHier_calls _ _ _ _ rk1 rk2 ws1 ws2 _ (hr1.o.now hN) (hw1.o.now hN) (hr2.o.now hN) (hw2.o.now hN)).mono ?_))
 rintro _ w4 ⟨rfl, he_⟩
 replace hN := hN.ext he_
 clear he_
 refine RL.ev (v := .bool (decide (rk1 = rk2 ∧ ws1 = ws2))) rfl rfl (ev_pickT rfl) (RL.ev (v := .bool (decide (rk1 = rk2 ∧ ws1 = ws2))) rfl rfl ev_move ?_)
 by_cases hg1_12 : rk1 = rk2 ∧ ws1 = ws2
 rw [decide_eq_true hg1_12]
 refine RL.onEv rfl rfl (by decide) rfl rfl (ev_fieldAddr Tryz.underlying34 rfl sz32 (by decide) rfl) (RL.onEv rfl rfl (by decide) rfl rfl (ev_loadSub (cs := [.int .i64 (n1), av1, rv1, wv1, gv1, fv1, ov1, iv1, sov1, siv1]) (j := 4) (m := 6) Tryz.underlying32 rfl sz32 rfl (hN.blk 1 rfl) (Nat.le_of_ble_eq_true rfl)) (RL.onEv rfl rfl (by decide) rfl rfl (ev_fieldAddr Tryz.underlying34 rfl sz32 (by decide) rfl) (RL.onEv rfl rfl (by decide) rfl rfl (ev_loadSub (cs := [.int .i64 (n2), av2, rv2, wv2, gv2, fv2, ov2, iv2, sov2, siv2]) (j := 4) (m := 6) Tryz.underlying32 rfl sz32 rfl (hN.blk 0 rfl) (Nat.le_of_ble_eq_true rfl)) ?_)))
 refine RL.on rfl rfl (by decide) rfl rfl (op_call2 Tryz.func35 rfl rfl rfl rfl ((sameTab_calls _ _ gl1 (hg1.o.now hN) _ fh1 fl1 (hf1.o.now hN) (hfe1.nowN hN) _ oh1 ol1 (ho1.o.now hN) (hoe1.ext hN.ext0) _ ih1 il1 (hi1.o.now hN) (hie1.ext hN.ext0) _ soh1 sol1 (hso1.o.now hN) (hsoe1.nowN hN) _ sih1 sil1 (hsi1.o.now hN) (hsie1.nowN hN) _ gl2 (hg2.o.now hN) _ fh2 fl2 (hf2.o.now hN) (hfe2.nowN hN) _ oh2 ol2 (ho2.o.now hN) (hoe2.ext hN.ext0) _ ih2 il2 (hi2.o.now hN) (hie2.ext hN.ext0) _ soh2 sol2 (hso2.o.now hN) (hsoe2.nowN hN) _ sih2 sil2 (hsi2.o.now hN) (hsie2.nowN hN)).mono ?_))
 rintro _ w5 ⟨rfl, he_⟩
 replace hN := hN.ext he_
 clear he_
 refine RL.ev (v := .bool (decide (gl1 = gl2 ∧ fl1 = fl2 ∧ ol1 = ol2 ∧ il1 = il2 ∧ sol1 = sol2 ∧ sil1 = sil2))) rfl rfl (ev_pickT rfl) (RL.ev (v := .bool (decide (gl1 = gl2 ∧ fl1 = fl2 ∧ ol1 = ol2 ∧ il1 = il2 ∧ sol1 = sol2 ∧ sil1 = sil2))) rfl rfl ev_assign (RL.nil (thenN (RW.ret (retI (RV.tmp rfl) ?_)))))
 exact ⟨congrArg Value.bool (decide_eq_decide.2 ⟨fun h => by refine ⟨?_, ?_, ?_⟩ <;> first | exact h | assumption, fun e => by obtain ⟨e0, e1, e2⟩ := e; assumption⟩), hN.ext0⟩
 rw [decide_eq_false hg1_12]
 iterate 5 refine RL.off rfl rfl (by decide) rfl rfl ?_
 refine RL.ev (v := .bool false) rfl rfl (ev_pickF rfl) (RL.ev (v := .bool false) rfl rfl ev_assign (RL.nil (thenN (RW.ret (retI (RV.tmp rfl) ?_)))))
 exact ⟨congrArg Value.bool (decide_eq_false (fun e => by obtain ⟨e0, e1, e2⟩ := e; contradiction)).symm, hN.ext0⟩
 rw [decide_eq_false hg1_5]
 iterate 5 refine RL.off rfl rfl (by decide) rfl rfl ?_
 refine RL.ev (v := .bool false) rfl rfl (ev_pickF rfl) (RL.ev (v := .bool false) rfl rfl ev_move ?_)
 iterate 5 refine RL.off rfl rfl (by decide) rfl rfl ?_
 refine RL.ev (v := .bool false) rfl rfl (ev_pickF rfl) (RL.ev (v := .bool false) rfl rfl ev_assign (RL.nil (thenN (RW.ret (retI (RV.tmp rfl) ?_)))))
 exact ⟨congrArg Value.bool (decide_eq_false (fun e => by obtain ⟨e0, e1, e2⟩ := e; contradiction)).symm, hN.ext0⟩
end Go.Proofs.YtngkdkbpgoddlaaGreat
set_option linter.unusedVariables false
set_option linter.unusedSimpArgs false
namespace Go.Proofs.YtngkdkbpgoddlaaGreat
open Go.RowKit Go.Rl
open Go.Gr Go.Codec Go.Crc
set_option maxHeartbeats 4000000 in
set_option maxRecDepth 100000 in
theorem known_calls (w : World) : Gives Tryz.prog 13 #[] w fun r w' => r = .bool true ∧ Ext w w' := by
 refine Gives.start Tryz.func13 rfl (Nat.le_of_ble_eq_true rfl) ?_
 rw [args0]
 have hN := Now.nil w none_
 refine RW.seq (RW.region (RL.ev (v := .bool false) rfl rfl ev_assign (RL.nil (thenN (RW.seq (RW.region ?_))))))
 refine RL.op rfl rfl (opN_lit0 vb Tryz.underlying38 sz5 rfl hN ?_)
 clear hN
 intro v1 w1 (hN : Now w none_ w1 [_])
 have hOb_ := (hN.slr 0 rfl).hd
 obtain ⟨h3, hq_⟩ := hOb_
 subst hq_
 refine RL.op rfl rfl (opN_lit (enc := vh) (l := [h3]) (xs := [.tmp 2]) Tryz.underlying45 sz38 zr38 rfl rfl (fun _ => rfl) rfl (by decide) (by decide) hN ?_)
 clear hN
 intro g2 w2 (hN : Now w none_ w2 [_, _])
 refine RL.op rfl rfl (op_call1 Tryz.func18 rfl rfl rfl ((join_calls _ ([h3]) [[]] _ (hN.sl 0 rfl) (Els.cons (hN.slr 1 rfl) (Off.none _ _) (Els.nil _ _ _)) (by decide)).mono ?_))
 rintro v4 w4 ⟨ho_, he_⟩
 replace hN : Now w none_ w4 [_, _, _] := hN.pushOwn (l := joinB [[]]) ho_ he_
 clear ho_ he_
 replace hN := hN.relist 0 rfl (show _ = [4, 0, 0, 0, 0, 0, 0, 0] from joinKnown)
 replace hN : Now w none_ w4 [_, _, _] := hN
 refine RL.ev (v := v4) rfl rfl ev_assign (RL.nil (thenN (RW.seq (RW.region ?_))))
 refine RL.op rfl rfl (op_call1 Tryz.func18 rfl rfl rfl ((join_calls _ [] [] _ (Sl.nil _ _) (Els.nil _ _ _) (by decide)).mono ?_))
 rintro v5 w5 ⟨ho_, he_⟩
 replace hN : Now w none_ w5 [_, _, _, _] := hN.pushOwn (l := joinB []) ho_ he_
 clear ho_ he_
 have hL_6 := (hN.sl 0 rfl).len_le
 refine RL.ev rfl rfl (ev_lenS Tryz.underlying38 (hN.sl 0 rfl) rfl) (RL.ev rfl rfl (ev_true (ev_eql rfl rfl) rfl) (RL.ev (v := .bool true) rfl rfl ev_move (RL.onEv (v := v4) rfl rfl (by decide) rfl rfl ev_move ?_)))
 have hL_7 := (hN.sl 1 rfl).len_le
 refine RL.onEv rfl rfl (by decide) rfl rfl (ev_lenS Tryz.underlying38 (hN.sl 1 rfl) rfl) (RL.onEv rfl rfl (by decide) rfl rfl (ev_true (ev_eql rfl rfl) rfl) (RL.ev (v := .bool true) rfl rfl (ev_pickT rfl) (RL.ev (v := .bool true) rfl rfl ev_move (RL.onEv (v := v4) rfl rfl (by decide) rfl rfl ev_move (RL.onEv rfl rfl (by decide) rfl rfl (ev_index Tryz.underlying38 sz5 (hN.sl 1 rfl) rfl rfl (by decide) (by decide)) (RL.onEv rfl rfl (by decide) rfl rfl (ev_loadG (m := 0) (a := 4) Tryz.underlying5 rfl (hN.sl 1 rfl) rfl rfl) (RL.onEv rfl rfl (by decide) rfl rfl (ev_true (ev_eql rfl rfl) rfl) (RL.ev (v := .bool true) rfl rfl (ev_pickT rfl) (RL.ev (v := .bool true) rfl rfl ev_move ?_)))))))))
 refine RL.onEv (v := v4) rfl rfl (by decide) rfl rfl ev_move (RL.onEv rfl rfl (by decide) rfl rfl (ev_index Tryz.underlying38 sz5 (hN.sl 1 rfl) rfl rfl (by decide) (by decide)) (RL.onEv rfl rfl (by decide) rfl rfl (ev_loadG (m := 7) (a := 0) Tryz.underlying5 rfl (hN.sl 1 rfl) rfl rfl) (RL.onEv rfl rfl (by decide) rfl rfl (ev_true (ev_eql rfl rfl) rfl) (RL.ev (v := .bool true) rfl rfl (ev_pickT rfl) (RL.ev (v := .bool true) rfl rfl ev_move (RL.onEv (v := v4) rfl rfl (by decide) rfl rfl ev_move ?_))))))
 refine RL.on rfl rfl (by decide) rfl rfl (op_call1 Tryz.func14 rfl rfl rfl ((parts_calls _ ([4, 0, 0, 0, 0, 0, 0, 0]) _ (hN.sl 1 rfl) (by decide)).mono ?_))
 rintro v10 w10 ⟨hs10, hC_⟩
 replace hN : Now w none_ w10 [_, _, _, _, _, _] := hN.call0 hC_
 clear hC_
 have hp_ := parts_join [[]] (by decide)
 rw [joinKnown] at hp_
 have hel_ := (hN.els 1 rfl).1
 rw [hp_] at hel_
 have hL_11 := (hN.sl 0 rfl).len_le
 refine RL.onEv rfl rfl (by decide) rfl rfl (ev_lenS Tryz.underlying45 (hN.sl 0 rfl) rfl) (RL.onEv rfl rfl (by decide) rfl rfl (ev_true (ev_eql rfl rfl) (by rw [hel_]; rfl)) (RL.ev (v := .bool true) rfl rfl (ev_pickT rfl) (RL.ev (v := .bool true) rfl rfl ev_assign (RL.nil (thenN (RW.ret (retI (RV.tmp rfl) ?_)))))))
 exact ⟨rfl, hN.ext0⟩
set_option maxHeartbeats 4000000 in
set_option maxRecDepth 100000 in
theorem of7_calls (n : Int) (v : Value) (l : List I3) (w : World) (hv : Sm i3cells w v l) : Gives Tryz.prog 9 #[.int .i64 n, v] w fun r w' => ∃ v', r = .agg #[.int .i64 (ofN n), v'] ∧ OwnM i3cells 3 100 w' w.heap.size v' (ofArcs (ofN n) l) ∧ Ext w w' := by
 refine Gives.start Tryz.func9 rfl (Nat.le_of_ble_eq_true rfl) ?_
 rw [args2]
 have hN := Now.nil w none_
 refine RW.seq (RW.region ?_)
 refine RL.op rfl rfl (opN_alloc (cs := [.int .i64 (0), .slice none 0 0]) zero24 rfl hN ?_)
 clear hN
 intro g1 w1 (hN : Now w none_ w1 [_])
 refine RL.nil (thenN (RW.seq (RW.region (RL.ev (v := .int .i64 (n)) rfl rfl ev_move (RL.ev (v := v) rfl rfl ev_move ?_)))))
 refine RL.op rfl rfl (op_call2 Tryz.func27 rfl rfl rfl rfl ((of_calls (n) _ l _ (hv.o.now hN)).mono ?_))
 rintro _ w2 ⟨v2, rfl, ho_, he_⟩
 replace hN : Now w none_ w2 [_, _] := hN.pushOwnM ho_ he_
 clear ho_ he_
 refine RL.op rfl rfl (opN_storeAll (vs := [.int .i64 ((ofN (n))), v2]) sz24 rfl rfl rfl (by intro u hu; simp only [List.mem_cons, List.not_mem_nil, or_false] at hu; rcases hu with rfl | rfl <;> first | rfl | exact (hN.sm 0 rfl).one1) hN 1 rfl rfl ?_)
 clear hN
 intro w3 (hN : Now w none_ w3 [_, _])
 refine RL.nil (thenN (RW.ret (retI (RV.cell rfl rfl (hN.blk 1 rfl) Tryz.underlying24 rfl sz24) ?_)))
 exact ⟨_, rfl, hN.ownmOut 0 rfl, hN.ext0⟩
theorem ofQ_calls (n : Int) (v : Value) (l : List I3) (w : World) (hv : Sm i3cells w v l) : Gives Tryz.prog 9 #[.int .i64 n, v] w fun r w' => ∃ (q : Nat) (v' : Value), r = .agg #[.int .i64 (q : Int), v'] ∧ ((q : Int) = ofN n ∧ 1 ≤ q ∧ q ≤ 12 ∧ mchk (q : Int) (ofArcs (q : Int) l) = 0 ∧ (ofArcs (q : Int) l).length ≤ 40) ∧ OwnM i3cells 3 100 w' w.heap.size v' (ofArcs (q : Int) l) ∧ Ext w w' := by
  refine (of7_calls n v l w hv).mono ?_
  rintro r w' ⟨v', rfl, ho, he⟩
  have h1 := ofN_pos n
  have e : ((ofN n).toNat : Int) = ofN n := by omega
  refine ⟨(ofN n).toNat, v', by rw [e], ⟨e, by omega, by omega, by rw [e]; exact mchk_of n l, ofArcs_len _ l⟩, by rw [e]; exact ho, he⟩
end Go.Proofs.YtngkdkbpgoddlaaGreat
