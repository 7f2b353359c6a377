/- The law ImageOther: texts that its row leans on (5). -/
import Derived.Test.YtngkdkbpgoddlaaGreatKImageOther4
set_option linter.unusedVariables false
set_option linter.unusedSimpArgs false
set_option linter.unusedVariables false
set_option linter.unusedSimpArgs false
namespace Go.Proofs.YtngkdkbpgoddlaaGreat
open Go.RowKit Go.Rl
open Go.Gr
set_option maxHeartbeats 4000000 in
set_option maxRecDepth 100000 in
theorem counts_calls (n : Int) (v : Value) (l : List I3) (k : Nat) (w : World) (hv : Sm i3cells w v l) (hk : k < l.length) : Gives Tryz.prog 130 #[.agg #[.int .i64 n, v], .int .i64 (k : Int)] w fun r w' => r = .bool (decide (Counts l k)) ∧ Ext w w' := by
 refine Gives.start Tryz.func130 rfl (Nat.le_of_ble_eq_true rfl) ?_
 rw [args2]
 have hN := Now.nil w none_
 refine RW.seq (RW.region ?_)
 refine RL.op rfl rfl (opN_box (cs := [.int .i64 (n), v]) rfl rfl hN ?_)
 clear hN
 intro g1 w1 (hN : Now w none_ w1 [_])
 refine RL.ev (v := .bool false) rfl rfl ev_assign (RL.nil (thenN (RW.seq (RW.region (RL.ev rfl rfl (ev_fieldAddr Tryz.underlying24 rfl sz22 (by decide) rfl) (RL.ev rfl rfl (ev_loadB Tryz.underlying22 rfl rfl (hN.blk 0 rfl) rfl) (RL.ev (v := .int .i64 ((k : Int))) rfl rfl ev_move (RL.ev rfl rfl (ev_indexM Tryz.underlying22 sz100 i3cells_len (by decide) (hv.o.now hN) rfl rfl (by omega) (by omega)) ?_))))))))
 have hOb_ : ∃ a_, (l)[k]? = some a_ := ⟨_, List.getElem?_eq_getElem (by omega)⟩
 obtain ⟨ap, hap⟩ := hOb_
 refine RL.ev rfl rfl (ev_loadM (m := k) (a := ap) Tryz.underlying100 rfl sz100 i3cells_len (by decide) (hv.o.now hN) rfl hap (cs := [.int .i64 (ap.1), .int .i64 (ap.2.1), .int .i64 (ap.2.2)]) rfl) ?_
 refine RL.op rfl rfl (opN_alloc (cs := [.int .i64 (0), .int .i64 (0), .int .i64 (0)]) zero100 rfl hN ?_)
 clear hN
 intro g2 w2 (hN : Now w none_ w2 [_, _])
 refine RL.op rfl rfl (opN_storeAll (vs := [.int .i64 (ap.1), .int .i64 (ap.2.1), .int .i64 (ap.2.2)]) sz100 rfl rfl rfl (by intro u hu; simp only [List.mem_cons, List.not_mem_nil, or_false] at hu; rcases hu with rfl | rfl | rfl <;> first | rfl) hN 0 rfl rfl ?_)
 clear hN
 intro w3 (hN : Now w none_ w3 [_, _])
 refine RL.nil (thenN ?_)
 iterate 2 refine RW.seq ?_
 refine RW.region (RL.ev rfl rfl (ev_fieldAddr Tryz.underlying100 rfl sz3 (by decide) rfl) (RL.ev rfl rfl (ev_loadB Tryz.underlying3 rfl rfl (hN.blk 0 rfl) rfl) (RL.ev rfl rfl (ev_fieldAddr Tryz.underlying100 rfl sz3 (by decide) rfl) (RL.ev rfl rfl (ev_loadB Tryz.underlying3 rfl rfl (hN.blk 0 rfl) rfl) (RL.ev rfl rfl (ev_eql rfl rfl) (RL.nil (thenN ?_)))))))
 refine RW.condP _ rfl (fun hsame => ?_) (fun hsame => ?_)
 refine RW.seq (RW.region (RL.ev (v := .bool false) rfl rfl ev_assign (RL.nil (thenN (RW.ret (thenR (retI (RV.tmp rfl) ?_)))))))
 refine ⟨congrArg Value.bool (decide_eq_false ?_).symm, hN.ext0⟩
 rintro ⟨a, ha, hne, _⟩
 rw [hap] at ha
 cases ha
 exact hne hsame
 refine RW.skip (thenN ?_)
 iterate 2 refine RW.seq ?_
 refine RW.region (RL.ev (v := .int .i64 (0)) rfl rfl ev_assign (RL.nil (thenN (RW.block ?_))))
 refine RW.loop (fun q R0 w0' => ∃ i : Nat, R0 1 = .int .i64 ((k : Int)) ∧ R0 2 = .pointer (some ⟨g1, 0, none⟩) ∧ R0 5 = .pointer (some ⟨g2, 0, none⟩) ∧ R0 6 = .int .i64 ((i : Int)) ∧ Now w none_ w0' [.blk g2 [.int .i64 (ap.1), .int .i64 (ap.2.1), .int .i64 (ap.2.2)] 100, .blk g1 [.int .i64 (n), v] 24] ∧ (i + q = l.length) ∧ (∀ (j : Nat) b, j < i → l[j]? = some b → ¬ (b.1 = ap.1 ∧ b.2.1 = ap.2.1 ∧ (b.2.2 < ap.2.2 ∨ b.2.2 = ap.2.2 ∧ j < k)))) (l.length) ?_ ?_
 exact ⟨0, rfl, rfl, rfl, rfl, hN, by omega, fun j b hj => by omega⟩
 clear hN
 rintro q R0 w0' ⟨i, hr1_, hr2_, hr5_, hr6_, hN, hik, hno⟩
 have hR_ : ∃ R0_, R0 = (upd (upd (upd (upd R0_ 1 _) 2 _) 5 _) 6 _) := ⟨R0, by rw [upd_self hr1_, upd_self hr2_, upd_self hr5_, upd_self hr6_]⟩
 obtain ⟨R0_, rfl⟩ := hR_
 clear hr1_ hr2_ hr5_ hr6_
 iterate 2 refine RW.seq ?_
 refine RW.region (RL.ev (v := .int .i64 ((i : Int))) rfl rfl ev_move (RL.ev rfl rfl (ev_fieldAddr Tryz.underlying24 rfl sz22 (by decide) rfl) (RL.ev rfl rfl (ev_loadB Tryz.underlying22 rfl rfl (hN.blk 1 rfl) rfl) ?_)))
 have hL_4 := (hv.o.now hN).len_le
 refine RL.ev rfl rfl (ev_lenM Tryz.underlying22 (hv.o.now hN) rfl) (RL.ev rfl rfl (ev_lss rfl rfl) (RL.nil (thenN ?_)))
 refine RW.condP _ rfl (fun hlt => ?_) (fun hlt => ?_)
 refine RW.skip (thenN (RW.seq (RW.block (RW.seq (RW.region (RL.ev rfl rfl (ev_fieldAddr Tryz.underlying24 rfl sz22 (by decide) rfl) (RL.ev rfl rfl (ev_loadB Tryz.underlying22 rfl rfl (hN.blk 1 rfl) rfl) (RL.ev (v := .int .i64 ((i : Int))) rfl rfl ev_move (RL.ev rfl rfl (ev_indexM Tryz.underlying22 sz100 i3cells_len (by decide) (hv.o.now hN) rfl rfl (by omega) (by omega)) ?_)))))))))
 have hOb_ : ∃ a_, (l)[i]? = some a_ := ⟨_, List.getElem?_eq_getElem (by omega)⟩
 obtain ⟨ab, hab⟩ := hOb_
 refine RL.ev rfl rfl (ev_loadM (m := i) (a := ab) Tryz.underlying100 rfl sz100 i3cells_len (by decide) (hv.o.now hN) rfl hab (cs := [.int .i64 (ab.1), .int .i64 (ab.2.1), .int .i64 (ab.2.2)]) rfl) ?_
 refine RL.op rfl rfl (opN_alloc (cs := [.int .i64 (0), .int .i64 (0), .int .i64 (0)]) zero100 rfl hN ?_)
 clear hN
 intro g5 w5 (hN : Now w none_ w5 [_, _, _])
 refine RL.op rfl rfl (opN_storeAll (vs := [.int .i64 (ab.1), .int .i64 (ab.2.1), .int .i64 (ab.2.2)]) sz100 rfl rfl rfl (by intro u hu; simp only [List.mem_cons, List.not_mem_nil, or_false] at hu; rcases hu with rfl | rfl | rfl <;> first | rfl) hN 0 rfl rfl ?_)
 clear hN
 intro w6 (hN : Now w none_ w6 [_, _, _])
 refine RL.nil (thenN (RW.seq (RW.region (RL.ev rfl rfl (ev_fieldAddr Tryz.underlying100 rfl sz3 (by decide) rfl) (RL.ev rfl rfl (ev_loadB Tryz.underlying3 rfl rfl (hN.blk 0 rfl) rfl) (RL.ev rfl rfl (ev_fieldAddr Tryz.underlying100 rfl sz3 (by decide) rfl) (RL.ev rfl rfl (ev_loadB Tryz.underlying3 rfl rfl (hN.blk 1 rfl) rfl) (RL.ev rfl rfl (ev_eql rfl rfl) (RL.ev (v := .bool (decide (ab.1 = ap.1))) rfl rfl ev_move ?_)))))))))
 by_cases hg8_5 : ab.1 = ap.1
 rw [decide_eq_true hg8_5]
 refine RL.onEv rfl rfl (by decide) rfl rfl (ev_fieldAddr Tryz.underlying100 rfl sz3 (by decide) rfl) (RL.onEv rfl rfl (by decide) rfl rfl (ev_loadB Tryz.underlying3 rfl rfl (hN.blk 0 rfl) rfl) (RL.onEv rfl rfl (by decide) rfl rfl (ev_fieldAddr Tryz.underlying100 rfl sz3 (by decide) rfl) (RL.onEv rfl rfl (by decide) rfl rfl (ev_loadB Tryz.underlying3 rfl rfl (hN.blk 1 rfl) rfl) (RL.onEv rfl rfl (by decide) rfl rfl (ev_eql rfl rfl) (RL.ev (v := .bool (decide (ab.2.1 = ap.2.1))) rfl rfl (ev_pickT rfl) (RL.ev (v := .bool (decide (ab.2.1 = ap.2.1))) rfl rfl ev_move ?_))))))
 by_cases hg8_12 : ab.2.1 = ap.2.1
 rw [decide_eq_true hg8_12]
 refine RL.onEv rfl rfl (by decide) rfl rfl (ev_fieldAddr Tryz.underlying100 rfl sz3 (by decide) rfl) (RL.onEv rfl rfl (by decide) rfl rfl (ev_loadB Tryz.underlying3 rfl rfl (hN.blk 0 rfl) rfl) (RL.onEv rfl rfl (by decide) rfl rfl (ev_fieldAddr Tryz.underlying100 rfl sz3 (by decide) rfl) (RL.onEv rfl rfl (by decide) rfl rfl (ev_loadB Tryz.underlying3 rfl rfl (hN.blk 1 rfl) rfl) (RL.onEv rfl rfl (by decide) rfl rfl (ev_lss rfl rfl) (RL.onEv (v := .bool (decide (ab.2.2 < ap.2.2))) rfl rfl (by decide) rfl rfl ev_move ?_)))))
 by_cases hg8_18 : ab.2.2 < ap.2.2
 rw [decide_eq_true hg8_18]
 iterate 6 refine RL.off rfl rfl (by decide) rfl rfl ?_
 iterate 3 refine RL.offU rfl rfl (by decide) rfl rfl ?_
 refine RL.off rfl rfl (by decide) rfl rfl (RL.onEv (v := .bool true) rfl rfl (by decide) rfl rfl (ev_pickT rfl) (RL.ev (v := .bool true) rfl rfl (ev_pickT rfl) (RL.nil (thenN (RW.condT rfl (RW.seq (RW.region (RL.ev (v := .bool false) rfl rfl ev_assign (RL.nil ?_)))))))))
 refine thenN (RW.ret (blockR ?_))
 iterate 2 refine thenR ?_
 refine blockR (thenR (retI (RV.tmp rfl) ?_))
 refine ⟨congrArg Value.bool (decide_eq_false ?_).symm, hN.ext0⟩
 rintro ⟨a, ha, hne, hall⟩
 rw [hap] at ha
 cases ha
 exact hall i ab hab ⟨by omega, by omega, by omega⟩
 rw [decide_eq_false hg8_18]
 refine RL.onEv rfl rfl (by decide) rfl rfl (ev_fieldAddr Tryz.underlying100 rfl sz3 (by decide) rfl) (RL.onEv rfl rfl (by decide) rfl rfl (ev_loadB Tryz.underlying3 rfl rfl (hN.blk 0 rfl) rfl) (RL.onEv rfl rfl (by decide) rfl rfl (ev_fieldAddr Tryz.underlying100 rfl sz3 (by decide) rfl) (RL.onEv rfl rfl (by decide) rfl rfl (ev_loadB Tryz.underlying3 rfl rfl (hN.blk 1 rfl) rfl) (RL.onEv rfl rfl (by decide) rfl rfl (ev_eql rfl rfl) (RL.onEv (v := .bool (decide (ab.2.2 = ap.2.2))) rfl rfl (by decide) rfl rfl ev_move ?_)))))
 by_cases hg8_24 : ab.2.2 = ap.2.2
 rw [decide_eq_true hg8_24]
 refine RL.onEv (v := .int .i64 ((i : Int))) rfl rfl (by decide) rfl rfl ev_move (RL.onEv (v := .int .i64 ((k : Int))) rfl rfl (by decide) rfl rfl ev_move (RL.onEv rfl rfl (by decide) rfl rfl (ev_lss rfl rfl) (RL.onEv (v := .bool (decide ((i : Int) < (k : Int)))) rfl rfl (by decide) rfl rfl (ev_pickT rfl) (RL.onEv (v := .bool (decide ((i : Int) < (k : Int)))) rfl rfl (by decide) rfl rfl (ev_pickF rfl) (RL.ev (v := .bool (decide ((i : Int) < (k : Int)))) rfl rfl (ev_pickT rfl) (RL.nil (thenN ?_)))))))
 refine RW.condP _ rfl (fun hc60 => ?_) (fun hc60 => ?_)
 refine RW.seq (RW.region (RL.ev (v := .bool false) rfl rfl ev_assign (RL.nil (thenN (RW.ret (blockR ?_))))))
 iterate 2 refine thenR ?_
 refine blockR (thenR (retI (RV.tmp rfl) ?_))
 refine ⟨congrArg Value.bool (decide_eq_false ?_).symm, hN.ext0⟩
 rintro ⟨a, ha, hne, hall⟩
 rw [hap] at ha
 cases ha
 exact hall i ab hab ⟨by omega, by omega, by omega⟩
 refine RW.skip (blockN (thenN (RW.region (RL.ev (v := .int .i64 ((i : Int))) rfl rfl ev_move (RL.ev rfl rfl (ev_arith rfl rfl rfl (add64 (by omega) (by omega))) (RL.ev (v := .int .i64 ((i : Int) + 1)) rfl rfl ev_assign (RL.nil (thenN ?_))))))))
 exact ⟨q - 1, by omega, i + 1, rfl, rfl, rfl, rfl, (hN.sub [1, 2] (by decide) rfl), by omega, fun j b hj hb => (Nat.lt_succ_iff_lt_or_eq.1 hj).elim (fun h => hno j b h hb) (fun h => by subst h; rw [hab] at hb; cases hb; rintro ⟨h1, h2, h3⟩; omega)⟩
 rw [decide_eq_false hg8_24]
 iterate 3 refine RL.off rfl rfl (by decide) rfl rfl ?_
 iterate 2 refine RL.onEv (v := .bool false) rfl rfl (by decide) rfl rfl (ev_pickF rfl) ?_
 refine RL.ev (v := .bool false) rfl rfl (ev_pickT rfl) (RL.nil (thenN (RW.condF rfl (RW.skip (blockN (thenN (RW.region (RL.ev (v := .int .i64 ((i : Int))) rfl rfl ev_move (RL.ev rfl rfl (ev_arith rfl rfl rfl (add64 (by omega) (by omega))) ?_)))))))))
 refine RL.ev (v := .int .i64 ((i : Int) + 1)) rfl rfl ev_assign (RL.nil (thenN ?_))
 exact ⟨q - 1, by omega, i + 1, rfl, rfl, rfl, rfl, (hN.sub [1, 2] (by decide) rfl), by omega, fun j b hj hb => (Nat.lt_succ_iff_lt_or_eq.1 hj).elim (fun h => hno j b h hb) (fun h => by subst h; rw [hab] at hb; cases hb; rintro ⟨h1, h2, h3⟩; omega)⟩
 rw [decide_eq_false hg8_12]
 iterate 6 refine RL.off rfl rfl (by decide) rfl rfl ?_
 iterate 10 refine RL.offU rfl rfl (by decide) rfl rfl ?_
 refine RL.off rfl rfl (by decide) rfl rfl (RL.ev (v := .bool false) rfl rfl (ev_pickF rfl) (RL.nil (thenN (RW.condF rfl (RW.skip (blockN (thenN (RW.region (RL.ev (v := .int .i64 ((i : Int))) rfl rfl ev_move ?_)))))))))
 refine RL.ev rfl rfl (ev_arith rfl rfl rfl (add64 (by omega) (by omega))) (RL.ev (v := .int .i64 ((i : Int) + 1)) rfl rfl ev_assign (RL.nil (thenN ?_)))
 exact ⟨q - 1, by omega, i + 1, rfl, rfl, rfl, rfl, (hN.sub [1, 2] (by decide) rfl), by omega, fun j b hj hb => (Nat.lt_succ_iff_lt_or_eq.1 hj).elim (fun h => hno j b h hb) (fun h => by subst h; rw [hab] at hb; cases hb; rintro ⟨h1, h2, h3⟩; omega)⟩
 rw [decide_eq_false hg8_5]
 iterate 5 refine RL.off rfl rfl (by decide) rfl rfl ?_
 refine RL.ev (v := .bool false) rfl rfl (ev_pickF rfl) (RL.ev (v := .bool false) rfl rfl ev_move ?_)
 iterate 6 refine RL.off rfl rfl (by decide) rfl rfl ?_
 iterate 10 refine RL.offU rfl rfl (by decide) rfl rfl ?_
 refine RL.off rfl rfl (by decide) rfl rfl (RL.ev (v := .bool false) rfl rfl (ev_pickF rfl) (RL.nil (thenN (RW.condF rfl (RW.skip (blockN (thenN (RW.region (RL.ev (v := .int .i64 ((i : Int))) rfl rfl ev_move ?_)))))))))
 refine RL.ev rfl rfl (ev_arith rfl rfl rfl (add64 (by omega) (by omega))) (RL.ev (v := .int .i64 ((i : Int) + 1)) rfl rfl ev_assign (RL.nil (thenN ?_)))
 exact ⟨q - 1, by omega, i + 1, rfl, rfl, rfl, rfl, (hN.sub [1, 2] (by decide) rfl), by omega, fun j b hj hb => (Nat.lt_succ_iff_lt_or_eq.1 hj).elim (fun h => hno j b h hb) (fun h => by subst h; rw [hab] at hb; cases hb; rintro ⟨h1, h2, h3⟩; omega)⟩
 refine RW.exit ?_
 iterate 2 refine thenX ?_
 refine blockHit (thenN (RW.seq (RW.region (RL.ev (v := .bool true) rfl rfl ev_assign (RL.nil (thenN (RW.ret (retI (RV.tmp rfl) ?_))))))))
 refine ⟨congrArg Value.bool (decide_eq_true ⟨ap, hap, hsame, fun j b hb => hno j b (by have := (List.getElem?_eq_some_iff.1 hb).1; omega) hb⟩).symm, hN.ext0⟩
set_option maxHeartbeats 4000000 in
set_option maxRecDepth 100000 in
theorem gnew_calls (n : Int) (v : Value) (l : List I3) (w : World) (hv : Sm i3cells w v l) (hok : mchk n l = 0) : Gives Tryz.prog 58 #[.agg #[.int .i64 n, v]] w fun r w' => ∃ kv, r = .tuple #[.agg #[.int .i64 n, v, kv], .bool true] ∧ Own vI 3 w' w.heap.size kv (kept l) ∧ Ext w w' := by
 refine Gives.start Tryz.func58 rfl (Nat.le_of_ble_eq_true rfl) ?_
 rw [args1]
 have hN := Now.nil w none_
 have hl0 := (mchk_ok hok).2.2.1
 refine RW.seq (RW.region ?_)
 refine RL.op rfl rfl (opN_box (cs := [.int .i64 (n), v]) rfl rfl hN ?_)
 clear hN
 intro g1 w1 (hN : Now w none_ w1 [_])
 refine RL.op rfl rfl (opN_alloc (cs := [.int .i64 (0), .slice none 0 0, .slice none 0 0]) zero111 rfl hN ?_)
 clear hN
 intro g2 w2 (hN : Now w none_ w2 [_, _])
 refine RL.ev (v := .bool false) rfl rfl ev_assign (RL.nil (thenN ?_))
 iterate 2 refine RW.seq ?_
 refine RW.region (RL.ev rfl rfl (ev_loadAll (cs := [.int .i64 (n), v]) Tryz.underlying24 rfl sz24 rfl (hN.blk 1 rfl)) ?_)
 refine RL.op rfl rfl (op_call1 Tryz.func24 rfl rfl rfl ((mchk_zero (n) _ l _ (hv.o.now hN) hok).mono ?_))
 rintro _ w3 ⟨rfl, he_⟩
 replace hN := hN.ext he_
 clear he_
 refine RL.ev rfl rfl (ev_false (ev_neq rfl rfl) (fun h => h rfl)) (RL.nil (thenN (RW.condF rfl (RW.skip (thenN (RW.seq (RW.region (RL.ev rfl rfl (ev_loadAll (cs := [.int .i64 (n), v]) Tryz.underlying24 rfl sz24 rfl (hN.blk 1 rfl)) (RL.ev rfl rfl (ev_buildL (cs := [.int .i64 (n), v, .slice none 0 0]) Tryz.underlying111 zero111 (places := #[(0, 2), (2, 1)]) (by intro w; kernel_rfl) (pl := [(0, .tmp 11)]) rfl (ps := [(0, .agg #[.int .i64 (n), v])]) rfl (zc := [.int .i64 (0), .slice none 0 0, .slice none 0 0]) rfl (fill_step (vs := [.int .i64 (n), v]) rfl rfl (Nat.le_of_ble_eq_true rfl) rfl)) ?_)))))))))
 refine RL.op rfl rfl (opN_alloc (cs := [.int .i64 (0), .slice none 0 0, .slice none 0 0]) zero111 rfl hN ?_)
 clear hN
 intro g4 w4 (hN : Now w none_ w4 [_, _, _])
 refine RL.op rfl rfl (opN_storeAll (vs := [.int .i64 (n), v, .slice none 0 0]) sz111 rfl rfl rfl (by intro u hu; simp only [List.mem_cons, List.not_mem_nil, or_false] at hu; rcases hu with rfl | rfl | rfl <;> first | rfl | exact (hv.o.now hN).one1) hN 0 rfl rfl ?_)
 clear hN
 intro w5 (hN : Now w none_ w5 [_, _, _])
 refine RL.nil (thenN ?_)
 iterate 2 refine RW.seq ?_
 replace hN := hN.addNil vI 3
 replace hN : Now w none_ w5 [.own vI 3 (.slice none 0 0) ([]), .blk g4 [.int .i64 (n), v, .slice none 0 0] 111, .blk g2 [.int .i64 (0), .slice none 0 0, .slice none 0 0] 111, .blk g1 [.int .i64 (n), v] 24] := hN
 refine RW.region (RL.ev (v := .int .i64 (0)) rfl rfl ev_assign (RL.nil (thenN (RW.block ?_))))
 refine RW.loop (fun k R0 w0' => ∃ va : Value, ∃ acc : List Int, ∃ i : Nat, R0 1 = .pointer (some ⟨g1, 0, none⟩) ∧ R0 2 = .pointer (some ⟨g2, 0, none⟩) ∧ R0 4 = .pointer (some ⟨g4, 0, none⟩) ∧ R0 5 = .int .i64 ((i : Int)) ∧ Now w none_ w0' [.own vI 3 (va) (acc), .blk g4 [.int .i64 (n), v, va] 111, .blk g2 [.int .i64 (0), .slice none 0 0, .slice none 0 0] 111, .blk g1 [.int .i64 (n), v] 24] ∧ (i + k = l.length) ∧ (acc = (List.range i).map (fun k => if Counts l k then (1 : Int) else 0)) ∧ (acc.length = i)) (l.length) ?_ ?_
 exact ⟨.slice none 0 0, [], 0, rfl, rfl, rfl, rfl, hN, by omega, rfl, rfl⟩
 clear hN
 rintro k R0 w0' ⟨va, acc, i, hr1_, hr2_, hr4_, hr5_, hN, hik, ha, hal⟩
 have hR_ : ∃ R0_, R0 = (upd (upd (upd (upd R0_ 1 _) 2 _) 4 _) 5 _) := ⟨R0, by rw [upd_self hr1_, upd_self hr2_, upd_self hr4_, upd_self hr5_]⟩
 obtain ⟨R0_, rfl⟩ := hR_
 clear hr1_ hr2_ hr4_ hr5_
 iterate 2 refine RW.seq ?_
 refine RW.region (RL.ev (v := .int .i64 ((i : Int))) rfl rfl ev_move (RL.ev rfl rfl (ev_fieldAddr Tryz.underlying24 rfl sz22 (by decide) rfl) (RL.ev rfl rfl (ev_loadB Tryz.underlying22 rfl rfl (hN.blk 3 rfl) rfl) ?_)))
 have hL_6 := (hv.o.now hN).len_le
 refine RL.ev rfl rfl (ev_lenM Tryz.underlying22 (hv.o.now hN) rfl) (RL.ev rfl rfl (ev_lss rfl rfl) (RL.nil (thenN ?_)))
 refine RW.condP _ rfl (fun hlt => ?_) (fun hlt => ?_)
 refine RW.skip (thenN (RW.seq (RW.block (RW.seq (RW.region (RL.ev (v := .int .i64 (0)) rfl rfl ev_assign (RL.nil (thenN ?_))))))))
 iterate 2 refine RW.seq ?_
 refine RW.region (RL.ev rfl rfl (ev_loadAll (cs := [.int .i64 (n), v]) Tryz.underlying24 rfl sz24 rfl (hN.blk 3 rfl)) (RL.ev (v := .int .i64 ((i : Int))) rfl rfl ev_move ?_))
 refine RL.op rfl rfl (op_call2 Tryz.func130 rfl rfl rfl rfl ((counts_calls (n) _ l i _ (hv.o.now hN) (by omega)).mono ?_))
 rintro _ w7 ⟨rfl, he_⟩
 replace hN := hN.ext he_
 clear he_
 refine RL.nil (thenN ?_)
 refine RW.condP _ rfl (fun hcn => ?_) (fun hcn => ?_)
 refine RW.region (RL.ev (v := .int .i64 (1)) rfl rfl ev_assign (RL.nil (thenN (RW.region (RL.ev rfl rfl (ev_fieldAddr Tryz.underlying111 rfl sz25 (by decide) rfl) (RL.ev rfl rfl (ev_loadB Tryz.underlying25 rfl rfl (hN.blk 1 rfl) rfl) (RL.ev (v := .int .i64 (1)) rfl rfl ev_move ?_)))))))
 refine RL.op rfl rfl (opN_lit (enc := vI) (l := [1]) (xs := [.tmp 25]) Tryz.underlying25 sz3 zr3 rfl rfl (fun _ => rfl) rfl (by decide) (by decide) hN ?_)
 clear hN
 intro g8 w8 (hN : Now w none_ w8 [_, _, _, _, _])
 refine RL.op rfl rfl (opN_append Tryz.underlying25 inf3 rfl (fun _ => rfl) hN 1 rfl rfl (hN.sl 0 rfl) rfl (by rw [hal]; simp only [List.length_singleton, List.length_cons, List.length_nil]; omega) (by decide) ?_)
 clear hN
 intro v9 w9 (hN : Now w none_ w9 [_, _, _, _, _])
 refine RL.ev rfl rfl (ev_fieldAddr Tryz.underlying111 rfl sz25 (by decide) rfl) ?_
 refine RL.op rfl rfl (opN_store sz25 rfl rfl (hN.sl 1 rfl).cells1 (hN.sl 1 rfl).one1 hN 2 rfl (Nat.le_of_ble_eq_true rfl) ?_)
 clear hN
 intro w10 (hN : Now w none_ w10 [_, _, _, _, _])
 refine RL.nil (blockN (thenN (RW.region (RL.ev (v := .int .i64 ((i : Int))) rfl rfl ev_move (RL.ev rfl rfl (ev_arith rfl rfl rfl (add64 (by omega) (by omega))) (RL.ev (v := .int .i64 ((i : Int) + 1)) rfl rfl ev_assign (RL.nil (thenN ?_))))))))
 exact ⟨k - 1, by omega, v9, acc ++ [1], i + 1, rfl, rfl, rfl, rfl, (hN.sub [1, 2, 3, 4] (by decide) rfl), by omega, by rw [kept_snoc, ha, if_pos hcn], by rw [List.length_append, hal]; rfl⟩
 refine RW.skip (thenN (RW.region (RL.ev rfl rfl (ev_fieldAddr Tryz.underlying111 rfl sz25 (by decide) rfl) (RL.ev rfl rfl (ev_loadB Tryz.underlying25 rfl rfl (hN.blk 1 rfl) rfl) (RL.ev (v := .int .i64 (0)) rfl rfl ev_move ?_)))))
 refine RL.op rfl rfl (opN_lit (enc := vI) (l := [0]) (xs := [.tmp 25]) Tryz.underlying25 sz3 zr3 rfl rfl (fun _ => rfl) rfl (by decide) (by decide) hN ?_)
 clear hN
 intro g11 w11 (hN : Now w none_ w11 [_, _, _, _, _])
 refine RL.op rfl rfl (opN_append Tryz.underlying25 inf3 rfl (fun _ => rfl) hN 1 rfl rfl (hN.sl 0 rfl) rfl (by rw [hal]; simp only [List.length_singleton, List.length_cons, List.length_nil]; omega) (by decide) ?_)
 clear hN
 intro v12 w12 (hN : Now w none_ w12 [_, _, _, _, _])
 refine RL.ev rfl rfl (ev_fieldAddr Tryz.underlying111 rfl sz25 (by decide) rfl) ?_
 refine RL.op rfl rfl (opN_store sz25 rfl rfl (hN.sl 1 rfl).cells1 (hN.sl 1 rfl).one1 hN 2 rfl (Nat.le_of_ble_eq_true rfl) ?_)
 clear hN
 intro w13 (hN : Now w none_ w13 [_, _, _, _, _])
 refine RL.nil (blockN (thenN (RW.region (RL.ev (v := .int .i64 ((i : Int))) rfl rfl ev_move (RL.ev rfl rfl (ev_arith rfl rfl rfl (add64 (by omega) (by omega))) (RL.ev (v := .int .i64 ((i : Int) + 1)) rfl rfl ev_assign (RL.nil (thenN ?_))))))))
 exact ⟨k - 1, by omega, v12, acc ++ [0], i + 1, rfl, rfl, rfl, rfl, (hN.sub [1, 2, 3, 4] (by decide) rfl), by omega, by rw [kept_snoc, ha, if_neg hcn], by rw [List.length_append, hal]; rfl⟩
 refine RW.exit ?_
 iterate 2 refine thenX ?_
 refine blockHit (thenN (RW.seq (RW.region (RL.ev rfl rfl (ev_loadAll (cs := [.int .i64 (n), v, va]) Tryz.underlying111 rfl sz111 rfl (hN.blk 1 rfl)) ?_))))
 refine RL.op rfl rfl (opN_storeAll (vs := [.int .i64 (n), v, va]) sz111 rfl rfl rfl (by intro u hu; simp only [List.mem_cons, List.not_mem_nil, or_false] at hu; rcases hu with rfl | rfl | rfl <;> first | rfl | exact (hN.sl 0 rfl).one1 | exact (hv.o.now hN).one1) hN 2 rfl rfl ?_)
 clear hN
 intro w14 (hN : Now w none_ w14 [_, _, _, _])
 refine RL.ev (v := .bool true) rfl rfl ev_assign (RL.nil (thenN (RW.ret (retI (RV.cellTmp rfl rfl (run_cell (hN.blk 2 rfl) Tryz.underlying111 rfl sz111)) ?_))))
 have hi_ : i = l.length := by omega
 subst hi_
 subst ha
 exact ⟨va, rfl, hN.ownOut 0 rfl, hN.ext0⟩
set_option maxHeartbeats 4000000 in
set_option maxRecDepth 100000 in
theorem putG_calls (v : Value) (l : List I3) (e : I3) (w : World) (hv : Sm i3cells w v l) (hl : l.length ≤ 67108864) : Gives Tryz.prog 207 #[v, .agg #[.int .i64 e.1, .int .i64 e.2.1, .int .i64 e.2.2]] w fun r w' => ∃ k, k ≤ l.length ∧ OwnM i3cells 3 246 w' w.heap.size r (l.take k ++ [e] ++ l.drop k) ∧ Ext w w' := by
 refine Gives.start Tryz.func207 rfl (Nat.le_of_ble_eq_true rfl) ?_
 rw [args2]
 have hN := Now.nil w none_
 refine RW.seq (RW.region ?_)
 refine RL.op rfl rfl (opN_box (cs := [.int .i64 (e.1), .int .i64 (e.2.1), .int .i64 (e.2.2)]) rfl rfl hN ?_)
 clear hN
 intro g1 w1 (hN : Now w none_ w1 [_])
 refine RL.ev (v := .slice none 0 0) rfl rfl ev_assign (RL.nil (thenN (RW.seq (RW.region (RL.ev (v := .int .i64 (0)) rfl rfl ev_assign (RL.nil (thenN (RW.seq (RW.block ?_)))))))))
 refine RW.loop (fun k R0 w0' => ∃ i : Nat, R0 0 = v ∧ R0 3 = .pointer (some ⟨g1, 0, none⟩) ∧ R0 5 = .int .i64 ((i : Int)) ∧ Now w none_ w0' [.blk g1 [.int .i64 (e.1), .int .i64 (e.2.1), .int .i64 (e.2.2)] 246] ∧ (i + k = l.length)) (l.length) ?_ ?_
 exact ⟨0, rfl, rfl, rfl, hN, by omega⟩
 clear hN
 rintro k R0 w0' ⟨i, hr0_, hr3_, hr5_, hN, hik⟩
 have hR_ : ∃ R0_, R0 = (upd (upd (upd R0_ 0 _) 3 _) 5 _) := ⟨R0, by rw [upd_self hr0_, upd_self hr3_, upd_self hr5_]⟩
 obtain ⟨R0_, rfl⟩ := hR_
 clear hr0_ hr3_ hr5_
 iterate 2 refine RW.seq ?_
 replace hN := hN.ext (Ext.drew w0')
 refine RW.drawR rfl (fun u => Now w none_ u [.blk g1 [.int .i64 (e.1), .int .i64 (e.2.1), .int .i64 (e.2.2)] 246]) 14 [(0,0), (1,0), (2,0), (3,0), (4,0), (5,0), (6,0), (7,0), (8,0), (9,0), (10,0), (11,0), (12,0), (13,0)] (by intro _ _ _ h; exact h) (by kernel_rfl) hN (RQ.ev (v := .int .i64 ((i : Int))) rfl rfl (fun w hS => ev_move) (RQ.ev (v := v) rfl rfl (fun w hS => ev_move) ?_))
 have hL_2 := (hv.o.now hN).len_le
 refine RQ.ev rfl rfl (fun w hS => (ev_lenM Tryz.underlying207 (hv.o.now hS) rfl)) (RQ.ev rfl rfl (fun w hS => (ev_lss rfl rfl)) (RQ.ev (v := .bool (decide ((i : Int) < (l.length : Int)))) rfl rfl (fun w hS => ev_move) ?_))
 by_cases hlt : (i : Int) < (l.length : Int)
 rw [decide_eq_true hlt]
 refine RQ.on (v := v) rfl rfl rfl rfl (fun w hS => ev_move) (RQ.on (v := .int .i64 ((i : Int))) rfl rfl rfl rfl (fun w hS => ev_move) (RQ.on rfl rfl rfl rfl (fun w hS => (ev_indexM Tryz.underlying207 sz246 i3cells_len (by decide) (hv.o.now hS) rfl rfl (by omega) (by omega))) ?_))
 have hOb_ : ∃ a_, (l)[i]? = some a_ := ⟨_, List.getElem?_eq_getElem (by omega)⟩
 obtain ⟨ap, hap⟩ := hOb_
 refine RQ.on rfl rfl rfl rfl (fun w hS => (ev_fieldM (m := i) (b := 0) Tryz.underlying246 rfl sz3 (by decide) i3cells_len (hv.o.now hS) hap rfl rfl)) (RQ.on rfl rfl rfl rfl (fun w hS => (ev_loadMF (m := i) (j := 0) (a := ap) Tryz.underlying3 rfl i3cells_len (hv.o.now hS) rfl hap rfl)) (RQ.on rfl rfl rfl rfl (fun w hS => (ev_fieldAddr Tryz.underlying246 rfl sz3 (by decide) rfl)) (RQ.on rfl rfl rfl rfl (fun w hS => (ev_loadB Tryz.underlying3 rfl rfl (hS.blk 0 rfl) rfl)) (RQ.on rfl rfl rfl rfl (fun w hS => (ev_lss rfl rfl)) (RQ.ev (v := .bool (decide (ap.1 < e.1))) rfl rfl (fun w hS => (ev_pickT rfl)) (RQ.done (by kernel_rfl) (thenN ?_)))))))
 refine RW.condP _ rfl (fun hsm => ?_) (fun hsm => ?_)
 refine RW.skip (thenN (RW.block (RW.region (RL.ev (v := .int .i64 ((i : Int))) rfl rfl ev_move (RL.ev rfl rfl (ev_arith rfl rfl rfl (add64 (by omega) (by omega))) (RL.ev (v := .int .i64 ((i : Int) + 1)) rfl rfl ev_assign (RL.nil (blockN (thenN ?_)))))))))
 exact ⟨k - 1, by omega, i + 1, rfl, rfl, rfl, hN, by omega⟩
 refine RW.exit ?_
 iterate 2 refine thenX ?_
 refine blockHit (thenN (RW.seq (RW.region (RL.ev (v := .slice none 0 0) rfl rfl ev_assign (RL.nil (thenN (RW.seq (RW.region (RL.ev (v := .slice none 0 0) rfl rfl ev_move ?_)))))))))
 refine RL.ev (v := v) rfl rfl ev_move (RL.ev (v := .int .i64 ((i : Int))) rfl rfl ev_move (RL.ev rfl rfl (ev_cutToM Tryz.underlying207 sz246 (hv.o.now hN) rfl rfl (by omega) (by omega)) ?_))
 replace hN := hN.addNilM i3cells 3 246
 refine RL.op rfl rfl (opN_appendM Tryz.underlying207 inf246 rfl (by decide) i3cells_one i3cells_len hN 0 rfl rfl ((hv.o.now hN).cutTo i3cells_len (by omega)) rfl (by simp only [List.length_take, List.length_nil]; omega) (by decide) ?_)
 clear hN
 intro v3 w3 (hN : Now w none_ w3 [_, _])
 replace hN := hN.relistM 0 rfl (show _ = (l.take i) from List.nil_append _)
 replace hN : Now w none_ w3 [_, _] := hN
 refine RL.ev (v := v3) rfl rfl ev_assign (RL.nil (thenN (RW.seq (RW.region (RL.ev (v := v3) rfl rfl ev_move (RL.ev rfl rfl (ev_loadAll (cs := [.int .i64 (e.1), .int .i64 (e.2.1), .int .i64 (e.2.2)]) Tryz.underlying246 rfl sz246 rfl (hN.blk 1 rfl)) ?_))))))
 refine RL.op rfl rfl (opN_litM (cf := i3cells) (s := 3) (pl := [(0, .tmp 29)]) (ps := [(0, .agg #[.int .i64 (e.1), .int .i64 (e.2.1), .int .i64 (e.2.2)])]) (zc := [.int .i64 (0), .int .i64 (0), .int .i64 (0)]) (l := [(e.1, e.2.1, e.2.2)]) Tryz.underlying207 inf246 (by kernel_rfl) rfl rfl (fill_step (vs := [.int .i64 (e.1), .int .i64 (e.2.1), .int .i64 (e.2.2)]) rfl rfl (Nat.le_of_ble_eq_true rfl) rfl) i3cells_len rfl (by decide) (by decide) (by decide) hN ?_)
 clear hN
 intro g4 w4 (hN : Now w none_ w4 [_, _, _])
 refine RL.op rfl rfl (opN_appendM Tryz.underlying207 inf246 rfl (by decide) i3cells_one i3cells_len hN 1 rfl rfl (hN.sm 0 rfl) rfl (by simp only [List.length_take, List.length_cons, List.length_nil]; omega) (by decide) ?_)
 clear hN
 intro v5 w5 (hN : Now w none_ w5 [_, _, _])
 refine RL.ev (v := v5) rfl rfl ev_assign (RL.nil (thenN (RW.seq (RW.region (RL.ev (v := v5) rfl rfl ev_move (RL.ev (v := v) rfl rfl ev_move (RL.ev (v := .int .i64 ((i : Int))) rfl rfl ev_move (RL.ev rfl rfl (ev_cutFromM Tryz.underlying207 sz246 (hv.o.now hN) rfl rfl (by omega) (by omega)) ?_))))))))
 refine RL.op rfl rfl (opN_appendM Tryz.underlying207 inf246 rfl (by decide) i3cells_one i3cells_len hN 1 rfl rfl ((hv.o.now hN).cutFrom i3cells_len (by omega)) rfl (by simp only [List.length_append, List.length_take, List.length_drop, List.length_cons, List.length_nil]; omega) (by decide) ?_)
 clear hN
 intro v6 w6 (hN : Now w none_ w6 [_, _, _])
 refine RL.ev (v := v6) rfl rfl ev_assign (RL.nil (thenN (RW.ret (retI (RV.tmp rfl) ?_))))
 exact ⟨i, by omega, hN.ownmOut 1 rfl, hN.ext0⟩
 rw [decide_eq_false hlt]
 iterate 8 refine RQ.off rfl rfl rfl rfl ?_
 refine RQ.ev (v := .bool false) rfl rfl (fun w hS => (ev_pickF rfl)) (RQ.done (by kernel_rfl) (thenN (RW.condF rfl (RW.exit ?_))))
 iterate 2 refine thenX ?_
 refine blockHit (thenN (RW.seq (RW.region (RL.ev (v := .slice none 0 0) rfl rfl ev_assign (RL.nil (thenN (RW.seq (RW.region (RL.ev (v := .slice none 0 0) rfl rfl ev_move ?_)))))))))
 refine RL.ev (v := v) rfl rfl ev_move (RL.ev (v := .int .i64 ((i : Int))) rfl rfl ev_move (RL.ev rfl rfl (ev_cutToM Tryz.underlying207 sz246 (hv.o.now hN) rfl rfl (by omega) (by omega)) ?_))
 replace hN := hN.addNilM i3cells 3 246
 refine RL.op rfl rfl (opN_appendM Tryz.underlying207 inf246 rfl (by decide) i3cells_one i3cells_len hN 0 rfl rfl ((hv.o.now hN).cutTo i3cells_len (by omega)) rfl (by simp only [List.length_take, List.length_nil]; omega) (by decide) ?_)
 clear hN
 intro v7 w7 (hN : Now w none_ w7 [_, _])
 replace hN := hN.relistM 0 rfl (show _ = (l.take i) from List.nil_append _)
 replace hN : Now w none_ w7 [_, _] := hN
 refine RL.ev (v := v7) rfl rfl ev_assign (RL.nil (thenN (RW.seq (RW.region (RL.ev (v := v7) rfl rfl ev_move (RL.ev rfl rfl (ev_loadAll (cs := [.int .i64 (e.1), .int .i64 (e.2.1), .int .i64 (e.2.2)]) Tryz.underlying246 rfl sz246 rfl (hN.blk 1 rfl)) ?_))))))
 refine RL.op rfl rfl (opN_litM (cf := i3cells) (s := 3) (pl := [(0, .tmp 29)]) (ps := [(0, .agg #[.int .i64 (e.1), .int .i64 (e.2.1), .int .i64 (e.2.2)])]) (zc := [.int .i64 (0), .int .i64 (0), .int .i64 (0)]) (l := [(e.1, e.2.1, e.2.2)]) Tryz.underlying207 inf246 (by kernel_rfl) rfl rfl (fill_step (vs := [.int .i64 (e.1), .int .i64 (e.2.1), .int .i64 (e.2.2)]) rfl rfl (Nat.le_of_ble_eq_true rfl) rfl) i3cells_len rfl (by decide) (by decide) (by decide) hN ?_)
 clear hN
 intro g8 w8 (hN : Now w none_ w8 [_, _, _])
 refine RL.op rfl rfl (opN_appendM Tryz.underlying207 inf246 rfl (by decide) i3cells_one i3cells_len hN 1 rfl rfl (hN.sm 0 rfl) rfl (by simp only [List.length_take, List.length_cons, List.length_nil]; omega) (by decide) ?_)
 clear hN
 intro v9 w9 (hN : Now w none_ w9 [_, _, _])
 refine RL.ev (v := v9) rfl rfl ev_assign (RL.nil (thenN (RW.seq (RW.region (RL.ev (v := v9) rfl rfl ev_move (RL.ev (v := v) rfl rfl ev_move (RL.ev (v := .int .i64 ((i : Int))) rfl rfl ev_move (RL.ev rfl rfl (ev_cutFromM Tryz.underlying207 sz246 (hv.o.now hN) rfl rfl (by omega) (by omega)) ?_))))))))
 refine RL.op rfl rfl (opN_appendM Tryz.underlying207 inf246 rfl (by decide) i3cells_one i3cells_len hN 1 rfl rfl ((hv.o.now hN).cutFrom i3cells_len (by omega)) rfl (by simp only [List.length_append, List.length_take, List.length_drop, List.length_cons, List.length_nil]; omega) (by decide) ?_)
 clear hN
 intro v10 w10 (hN : Now w none_ w10 [_, _, _])
 refine RL.ev (v := v10) rfl rfl ev_assign (RL.nil (thenN (RW.ret (retI (RV.tmp rfl) ?_))))
 exact ⟨i, by omega, hN.ownmOut 1 rfl, hN.ext0⟩
set_option maxHeartbeats 4000000 in
set_option maxRecDepth 100000 in
theorem out_calls (n : Int) (v : Value) (l : List I3) (kv : Value) (ks : List Int) (x : Int) (w : World) (hv : Sm i3cells w v l) (hk : Sl vI w kv ks) (hlen : ks.length = l.length) (hl : l.length ≤ 67108864) : Gives Tryz.prog 182 #[.agg #[.int .i64 n, v, kv], .int .i64 x] w fun r w' => ∃ out, OwnM i3cells 3 246 w' w.heap.size r out ∧ out.Perm (sel l ks x l.length) ∧ Ext w w' := by
 refine Gives.start Tryz.func182 rfl (Nat.le_of_ble_eq_true rfl) ?_
 rw [args2]
 have hN := Now.nil w none_
 refine RW.seq (RW.region ?_)
 refine RL.op rfl rfl (opN_box (cs := [.int .i64 (n), v, kv]) rfl rfl hN ?_)
 clear hN
 intro g1 w1 (hN : Now w none_ w1 [_])
 refine RL.ev (v := .slice none 0 0) rfl rfl ev_assign (RL.nil (thenN (RW.seq (RW.region (RL.ev (v := .slice none 0 0) rfl rfl ev_assign (RL.nil (thenN ?_)))))))
 iterate 2 refine RW.seq ?_
 replace hN := hN.addNilM i3cells 3 246
 replace hN : Now w none_ w1 [.ownm i3cells 3 246 (.slice none 0 0) ([]), .blk g1 [.int .i64 (n), v, kv] 111] := hN
 refine RW.region (RL.ev (v := .int .i64 (0)) rfl rfl ev_assign (RL.nil (thenN (RW.block ?_))))
 refine RW.loop (fun k R0 w0' => ∃ va : Value, ∃ acc : List I3, ∃ i : Nat, R0 1 = .int .i64 (x) ∧ R0 2 = .pointer (some ⟨g1, 0, none⟩) ∧ R0 5 = va ∧ R0 6 = .int .i64 ((i : Int)) ∧ Now w none_ w0' [.ownm i3cells 3 246 (va) (acc), .blk g1 [.int .i64 (n), v, kv] 111] ∧ (i + k = ks.length) ∧ (acc.Perm (sel l ks x i)) ∧ (acc.length ≤ i)) (ks.length) ?_ ?_
 exact ⟨.slice none 0 0, [], 0, rfl, rfl, rfl, rfl, hN, by omega, .refl _, Nat.le_refl _⟩
 clear hN
 rintro k R0 w0' ⟨va, acc, i, hr1_, hr2_, hr5_, hr6_, hN, hik, ha, hal⟩
 have hR_ : ∃ R0_, R0 = (upd (upd (upd (upd R0_ 1 _) 2 _) 5 _) 6 _) := ⟨R0, by rw [upd_self hr1_, upd_self hr2_, upd_self hr5_, upd_self hr6_]⟩
 obtain ⟨R0_, rfl⟩ := hR_
 clear hr1_ hr2_ hr5_ hr6_
 iterate 2 refine RW.seq ?_
 refine RW.region (RL.ev (v := .int .i64 ((i : Int))) rfl rfl ev_move (RL.ev rfl rfl (ev_fieldAddr Tryz.underlying111 rfl sz25 (by decide) rfl) (RL.ev rfl rfl (ev_loadB Tryz.underlying25 rfl rfl (hN.blk 1 rfl) rfl) ?_)))
 have hL_2 := (hk.o.now hN).len_le
 refine RL.ev rfl rfl (ev_lenS Tryz.underlying25 (hk.o.now hN) rfl) (RL.ev rfl rfl (ev_lss rfl rfl) (RL.nil (thenN ?_)))
 refine RW.condP _ rfl (fun hlt => ?_) (fun hlt => ?_)
 refine RW.skip (thenN (RW.seq (RW.block (RW.seq ?_))))
 have hOb_ : ∃ a_, l[i]? = some a_ := ⟨_, List.getElem?_eq_getElem (by omega)⟩
 obtain ⟨ap, hap⟩ := hOb_
 have hOb_ : ∃ a_, ks[i]? = some a_ := ⟨_, List.getElem?_eq_getElem (by omega)⟩
 obtain ⟨s, hs⟩ := hOb_
 by_cases h1 : s = 1
 refine RW.region (RL.ev rfl rfl (ev_fieldAddr Tryz.underlying111 rfl sz25 (by decide) rfl) (RL.ev rfl rfl (ev_loadB Tryz.underlying25 rfl rfl (hN.blk 1 rfl) rfl) (RL.ev (v := .int .i64 ((i : Int))) rfl rfl ev_move (RL.ev rfl rfl (ev_index Tryz.underlying25 sz3 (hk.o.now hN) rfl rfl (by omega) (by omega)) (RL.ev rfl rfl (ev_loadG (m := i) (a := s) Tryz.underlying3 rfl (hk.o.now hN) rfl hs) (RL.ev rfl rfl (ev_true (ev_eql rfl rfl) h1) (RL.ev (v := .bool true) rfl rfl ev_move (RL.onEv rfl rfl (by decide) rfl rfl (ev_fieldAddr Tryz.underlying111 rfl sz24 (by decide) rfl) (RL.onEv rfl rfl (by decide) rfl rfl (ev_fieldAddr Tryz.underlying24 rfl sz22 (by decide) rfl) ?_)))))))))
 refine RL.onEv rfl rfl (by decide) rfl rfl (ev_loadB Tryz.underlying22 rfl rfl (hN.blk 1 rfl) rfl) ?_
 by_cases h2 : ap.1 = x
 refine RL.onEv (v := .int .i64 ((i : Int))) rfl rfl (by decide) rfl rfl ev_move (RL.onEv rfl rfl (by decide) rfl rfl (ev_indexM Tryz.underlying22 sz100 i3cells_len (by decide) (hv.o.now hN) rfl rfl (by omega) (by omega)) (RL.onEv rfl rfl (by decide) rfl rfl (ev_fieldM (m := i) (b := 0) Tryz.underlying100 rfl sz3 (by decide) i3cells_len (hv.o.now hN) hap rfl rfl) (RL.onEv rfl rfl (by decide) rfl rfl (ev_loadMF (m := i) (j := 0) (a := ap) Tryz.underlying3 rfl i3cells_len (hv.o.now hN) rfl hap rfl) (RL.onEv (v := .int .i64 (x)) rfl rfl (by decide) rfl rfl ev_move (RL.onEv rfl rfl (by decide) rfl rfl (ev_true (ev_eql rfl rfl) h2) (RL.ev (v := .bool true) rfl rfl (ev_pickT rfl) (RL.nil (thenN (RW.condT rfl ?_)))))))))
 replace hN := hN.ext (Ext.drew w0')
 refine RW.drawR rfl (fun u => Now w none_ u [.blk g1 [.int .i64 (n), v, kv] 111]) 19 [(0,0), (1,0), (2,0), (3,0), (4,0), (5,0), (6,0), (7,0), (8,0), (9,0), (10,0), (11,0), (12,0), (13,0), (14,0), (15,0), (16,0), (17,1), (18,0)] (by intro _ _ _ h; exact h) (by kernel_rfl) (hN.sub [1] (by decide) rfl) (RQ.ev (v := va) rfl rfl (fun w hS => ev_move) (RQ.ev rfl rfl (fun w hS => (ev_fieldAddr Tryz.underlying111 rfl sz24 (by decide) rfl)) (RQ.ev rfl rfl (fun w hS => (ev_fieldAddr Tryz.underlying24 rfl sz22 (by decide) rfl)) (RQ.ev rfl rfl (fun w hS => (ev_loadB Tryz.underlying22 rfl rfl (hS.blk 0 rfl) rfl)) (RQ.ev (v := .int .i64 ((i : Int))) rfl rfl (fun w hS => ev_move) (RQ.ev rfl rfl (fun w hS => (ev_indexM Tryz.underlying22 sz100 i3cells_len (by decide) (hv.o.now hS) rfl rfl (by omega) (by omega))) (RQ.ev rfl rfl (fun w hS => (ev_fieldM (m := i) (b := 0) Tryz.underlying100 rfl sz3 (by decide) i3cells_len (hv.o.now hS) hap rfl rfl)) (RQ.ev rfl rfl (fun w hS => (ev_loadMF (m := i) (j := 1) (a := ap) Tryz.underlying3 rfl i3cells_len (hv.o.now hS) rfl hap rfl)) (RQ.ev rfl rfl (fun w hS => (ev_fieldAddr Tryz.underlying111 rfl sz24 (by decide) rfl)) ?_)))))))))
 refine RQ.ev rfl rfl (fun w hS => (ev_fieldAddr Tryz.underlying24 rfl sz22 (by decide) rfl)) (RQ.ev rfl rfl (fun w hS => (ev_loadB Tryz.underlying22 rfl rfl (hS.blk 0 rfl) rfl)) (RQ.ev (v := .int .i64 ((i : Int))) rfl rfl (fun w hS => ev_move) (RQ.ev rfl rfl (fun w hS => (ev_indexM Tryz.underlying22 sz100 i3cells_len (by decide) (hv.o.now hS) rfl rfl (by omega) (by omega))) (RQ.ev rfl rfl (fun w hS => (ev_fieldM (m := i) (b := 0) Tryz.underlying100 rfl sz3 (by decide) i3cells_len (hv.o.now hS) hap rfl rfl)) (RQ.ev rfl rfl (fun w hS => (ev_loadMF (m := i) (j := 2) (a := ap) Tryz.underlying3 rfl i3cells_len (hv.o.now hS) rfl hap rfl)) (RQ.ev (v := .int .i64 ((i : Int))) rfl rfl (fun w hS => ev_move) (RQ.ev rfl rfl (fun w hS => (ev_buildL (cs := [.int .i64 (ap.2.1), .int .i64 (ap.2.2), .int .i64 ((i : Int))]) Tryz.underlying246 zero246 (places := #[(0, 1), (1, 1), (2, 1)]) (by intro w; kernel_rfl) (pl := [(0, .tmp 38), (1, .tmp 45), (2, .tmp 46)]) rfl (ps := [(0, .int .i64 (ap.2.1)), (1, .int .i64 (ap.2.2)), (2, .int .i64 ((i : Int)))]) rfl (zc := [.int .i64 (0), .int .i64 (0), .int .i64 (0)]) rfl (fill_step (vs := [.int .i64 (ap.2.1)]) rfl rfl (Nat.le_of_ble_eq_true rfl) (fill_step (vs := [.int .i64 (ap.2.2)]) rfl rfl (Nat.le_of_ble_eq_true rfl) (fill_step (vs := [.int .i64 ((i : Int))]) rfl rfl (Nat.le_of_ble_eq_true rfl) rfl))))) ?_)))))))
 refine RQ.do rfl rfl (op_call2 Tryz.func207 rfl rfl rfl rfl ((putG_calls _ acc (ap.2.1, ap.2.2, (i : Int)) _ (hN.sm 0 rfl) (by omega)).mono ?_))
 rintro v4 w4 ⟨k4, hk4, ho_, he_⟩
 replace hN : Now w none_ w4 [_, _, _] := hN.pushOwnM ho_ he_
 clear ho_ he_
 refine ⟨(hN.sub [2] (by decide) rfl), ?_⟩
 refine RQ.ev (v := v4) rfl rfl (fun w hS => ev_assign) (RQ.done (by kernel_rfl) (blockN (thenN (RW.region (RL.ev (v := .int .i64 ((i : Int))) rfl rfl ev_move (RL.ev rfl rfl (ev_arith rfl rfl rfl (add64 (by omega) (by omega))) (RL.ev (v := .int .i64 ((i : Int) + 1)) rfl rfl ev_assign (RL.nil (thenN ?_)))))))))
 exact ⟨k - 1, by omega, v4, (acc.take k4 ++ [(ap.2.1, ap.2.2, (i : Int))] ++ acc.drop k4), i + 1, rfl, rfl, rfl, rfl, (hN.sub [0, 2] (by decide) rfl), by omega, by rw [sel_succ, show selOne l ks x i = [(ap.2.1, ap.2.2, (i : Int))] from by unfold selOne; rw [hap]; exact if_pos ⟨by rw [hs, h1], h2⟩]; exact (perm_ins _ _ _).trans (List.Perm.append_right _ ha), by rw [len_ins]; omega⟩
 refine RL.onEv (v := .int .i64 ((i : Int))) rfl rfl (by decide) rfl rfl ev_move (RL.onEv rfl rfl (by decide) rfl rfl (ev_indexM Tryz.underlying22 sz100 i3cells_len (by decide) (hv.o.now hN) rfl rfl (by omega) (by omega)) (RL.onEv rfl rfl (by decide) rfl rfl (ev_fieldM (m := i) (b := 0) Tryz.underlying100 rfl sz3 (by decide) i3cells_len (hv.o.now hN) hap rfl rfl) (RL.onEv rfl rfl (by decide) rfl rfl (ev_loadMF (m := i) (j := 0) (a := ap) Tryz.underlying3 rfl i3cells_len (hv.o.now hN) rfl hap rfl) (RL.onEv (v := .int .i64 (x)) rfl rfl (by decide) rfl rfl ev_move (RL.onEv rfl rfl (by decide) rfl rfl (ev_false (ev_eql rfl rfl) h2) (RL.ev (v := .bool false) rfl rfl (ev_pickT rfl) (RL.nil (thenN (RW.condF rfl ?_)))))))))
 refine RW.skip (blockN (thenN (RW.region (RL.ev (v := .int .i64 ((i : Int))) rfl rfl ev_move (RL.ev rfl rfl (ev_arith rfl rfl rfl (add64 (by omega) (by omega))) (RL.ev (v := .int .i64 ((i : Int) + 1)) rfl rfl ev_assign (RL.nil (thenN ?_))))))))
 exact ⟨k - 1, by omega, va, acc, i + 1, rfl, rfl, rfl, rfl, hN, by omega, by rw [sel_succ, show selOne l ks x i = [] from by unfold selOne; rw [hap]; exact if_neg (fun h => h2 h.2)]; rw [List.append_nil]; exact ha, by omega⟩
 refine RW.region (RL.ev rfl rfl (ev_fieldAddr Tryz.underlying111 rfl sz25 (by decide) rfl) (RL.ev rfl rfl (ev_loadB Tryz.underlying25 rfl rfl (hN.blk 1 rfl) rfl) (RL.ev (v := .int .i64 ((i : Int))) rfl rfl ev_move (RL.ev rfl rfl (ev_index Tryz.underlying25 sz3 (hk.o.now hN) rfl rfl (by omega) (by omega)) (RL.ev rfl rfl (ev_loadG (m := i) (a := s) Tryz.underlying3 rfl (hk.o.now hN) rfl hs) (RL.ev rfl rfl (ev_false (ev_eql rfl rfl) h1) (RL.ev (v := .bool false) rfl rfl ev_move ?_)))))))
 iterate 9 refine RL.off rfl rfl (by decide) rfl rfl ?_
 refine RL.ev (v := .bool false) rfl rfl (ev_pickF rfl) (RL.nil (thenN (RW.condF rfl (RW.skip (blockN (thenN (RW.region (RL.ev (v := .int .i64 ((i : Int))) rfl rfl ev_move (RL.ev rfl rfl (ev_arith rfl rfl rfl (add64 (by omega) (by omega))) ?_)))))))))
 refine RL.ev (v := .int .i64 ((i : Int) + 1)) rfl rfl ev_assign (RL.nil (thenN ?_))
 exact ⟨k - 1, by omega, va, acc, i + 1, rfl, rfl, rfl, rfl, hN, by omega, by rw [sel_succ, show selOne l ks x i = [] from by unfold selOne; rw [hap]; exact if_neg (fun h => h1 (Option.some.inj (hs.symm.trans h.1)))]; rw [List.append_nil]; exact ha, by omega⟩
 refine RW.exit ?_
 iterate 2 refine thenX ?_
 refine blockHit (thenN (RW.seq (RW.region (RL.ev (v := va) rfl rfl ev_move (RL.ev (v := va) rfl rfl ev_assign (RL.nil (thenN (RW.ret (retI (RV.tmp rfl) ?_)))))))))
 have hi_ : i = l.length := by omega
 subst hi_
 exact ⟨acc, hN.ownmOut 0 rfl, ha, hN.ext0⟩
end Go.Proofs.YtngkdkbpgoddlaaGreat
set_option linter.unusedVariables false
set_option linter.unusedSimpArgs false
namespace Go.Proofs.YtngkdkbpgoddlaaGreat
open Go.RowKit Go.Rl
open Go.Gr
set_option maxHeartbeats 4000000 in
set_option maxRecDepth 100000 in
theorem is_calls (n : Nat) (iv lv ov : Value) (ins : List Int) (ls : List I5) (lost : List Int) (w : World) (hi : Sl vI w iv ins) (hl : Sm i5cells w lv ls) (ho : Sl vI w ov lost) (x : Int) (hln : ins.length = n) : Gives Tryz.prog 186 #[.agg #[.int .i64 (n : Int), iv, lv, ov], .int .i64 x] w fun r w' => r = .bool (decide (IsIn n ins x)) ∧ Ext w w' := by
 refine Gives.start Tryz.func186 rfl (Nat.le_of_ble_eq_true rfl) ?_
 rw [args2]
 have hN := Now.nil w none_
 refine RW.seq (RW.region ?_)
 refine RL.op rfl rfl (opN_box (cs := [.int .i64 ((n : Int)), iv, lv, ov]) rfl rfl hN ?_)
 clear hN
 intro g1 w1 (hN : Now w none_ w1 [_])
 refine RL.ev (v := .bool false) rfl rfl ev_assign (RL.nil (thenN (RW.seq ?_)))
 by_cases hin : IsIn n ins x
 have hx0 := hin.1
 have hx1 := hin.2.1
 refine RW.region (RL.ev (v := .int .i64 (x)) rfl rfl ev_move (RL.ev rfl rfl (ev_true (ev_geq rfl rfl) hin.1) (RL.ev (v := .bool true) rfl rfl ev_move (RL.onEv (v := .int .i64 (x)) rfl rfl (by decide) rfl rfl ev_move (RL.onEv rfl rfl (by decide) rfl rfl (ev_fieldAddr Tryz.underlying194 rfl sz3 (by decide) rfl) (RL.onEv rfl rfl (by decide) rfl rfl (ev_loadB Tryz.underlying3 rfl rfl (hN.blk 0 rfl) rfl) (RL.onEv rfl rfl (by decide) rfl rfl (ev_true (ev_lss rfl rfl) hin.2.1) (RL.ev (v := .bool true) rfl rfl (ev_pickT rfl) (RL.ev (v := .bool true) rfl rfl ev_move ?_)))))))))
 refine RL.onEv rfl rfl (by decide) rfl rfl (ev_fieldAddr Tryz.underlying194 rfl sz25 (by decide) rfl) (RL.onEv rfl rfl (by decide) rfl rfl (ev_loadB Tryz.underlying25 rfl rfl (hN.blk 0 rfl) rfl) (RL.onEv (v := .int .i64 (x)) rfl rfl (by decide) rfl rfl ev_move (RL.onEv rfl rfl (by decide) rfl rfl (ev_index Tryz.underlying25 sz3 (hi.o.now hN) rfl rfl (by omega) (by omega)) (RL.onEv rfl rfl (by decide) rfl rfl (ev_loadG (m := (x).toNat) (a := 1) Tryz.underlying3 rfl (hi.o.now hN) rfl hin.2.2) (RL.onEv rfl rfl (by decide) rfl rfl (ev_true (ev_eql rfl rfl) rfl) (RL.ev (v := .bool true) rfl rfl (ev_pickT rfl) (RL.ev (v := .bool true) rfl rfl ev_assign (RL.nil (thenN ?_)))))))))
 refine RW.ret (retI (RV.tmp rfl) ?_)
 exact ⟨congrArg Value.bool (decide_eq_true hin).symm, hN.ext0⟩
 refine RW.region (RL.ev (v := .int .i64 (x)) rfl rfl ev_move (RL.ev rfl rfl (ev_geq rfl rfl) (RL.ev (v := .bool (decide (0 ≤ x))) rfl rfl ev_move ?_)))
 by_cases hg1_2 : 0 ≤ x
 rw [decide_eq_true hg1_2]
 refine RL.onEv (v := .int .i64 (x)) rfl rfl (by decide) rfl rfl ev_move (RL.onEv rfl rfl (by decide) rfl rfl (ev_fieldAddr Tryz.underlying194 rfl sz3 (by decide) rfl) (RL.onEv rfl rfl (by decide) rfl rfl (ev_loadB Tryz.underlying3 rfl rfl (hN.blk 0 rfl) rfl) (RL.onEv rfl rfl (by decide) rfl rfl (ev_lss rfl rfl) (RL.ev (v := .bool (decide (x < (n : Int)))) rfl rfl (ev_pickT rfl) (RL.ev (v := .bool (decide (x < (n : Int)))) rfl rfl ev_move ?_)))))
 by_cases hg1_8 : x < (n : Int)
 rw [decide_eq_true hg1_8]
 refine RL.onEv rfl rfl (by decide) rfl rfl (ev_fieldAddr Tryz.underlying194 rfl sz25 (by decide) rfl) (RL.onEv rfl rfl (by decide) rfl rfl (ev_loadB Tryz.underlying25 rfl rfl (hN.blk 0 rfl) rfl) (RL.onEv (v := .int .i64 (x)) rfl rfl (by decide) rfl rfl ev_move (RL.onEv rfl rfl (by decide) rfl rfl (ev_index Tryz.underlying25 sz3 (hi.o.now hN) rfl rfl (by omega) (by omega)) ?_)))
 have hOb_ : ∃ a_, (ins)[(x).toNat]? = some a_ := ⟨_, List.getElem?_eq_getElem (by omega)⟩
 obtain ⟨ap, hap⟩ := hOb_
 refine RL.onEv rfl rfl (by decide) rfl rfl (ev_loadG (m := (x).toNat) (a := ap) Tryz.underlying3 rfl (hi.o.now hN) rfl hap) (RL.onEv rfl rfl (by decide) rfl rfl (ev_false (ev_eql rfl rfl) (fun h => hin ⟨hg1_2, hg1_8, by rw [hap, h]⟩)) (RL.ev (v := .bool false) rfl rfl (ev_pickT rfl) (RL.ev (v := .bool false) rfl rfl ev_assign (RL.nil (thenN (RW.ret (retI (RV.tmp rfl) ?_)))))))
 exact ⟨congrArg Value.bool (decide_eq_false hin).symm, hN.ext0⟩
 rw [decide_eq_false hg1_8]
 iterate 6 refine RL.off rfl rfl (by decide) rfl rfl ?_
 refine RL.ev (v := .bool false) rfl rfl (ev_pickF rfl) (RL.ev (v := .bool false) rfl rfl ev_assign (RL.nil (thenN (RW.ret (retI (RV.tmp rfl) ?_)))))
 exact ⟨congrArg Value.bool (decide_eq_false hin).symm, hN.ext0⟩
 rw [decide_eq_false hg1_2]
 iterate 4 refine RL.off rfl rfl (by decide) rfl rfl ?_
 refine RL.ev (v := .bool false) rfl rfl (ev_pickF rfl) (RL.ev (v := .bool false) rfl rfl ev_move ?_)
 iterate 6 refine RL.off rfl rfl (by decide) rfl rfl ?_
 refine RL.ev (v := .bool false) rfl rfl (ev_pickF rfl) (RL.ev (v := .bool false) rfl rfl ev_assign (RL.nil (thenN (RW.ret (retI (RV.tmp rfl) ?_)))))
 exact ⟨congrArg Value.bool (decide_eq_false hin).symm, hN.ext0⟩
theorem is_true (n : Nat) (iv lv ov : Value) (ins : List Int) (ls : List I5) (lost : List Int) (w : World) (hi : Sl vI w iv ins) (hl : Sm i5cells w lv ls) (ho : Sl vI w ov lost) (x : Int) (hh : IsIn n ins x ∧ ins.length = n) : Gives Tryz.prog 186 #[.agg #[.int .i64 (n : Int), iv, lv, ov], .int .i64 x] w fun r w' => r = .bool true ∧ Ext w w' := (is_calls n iv lv ov ins ls lost w hi hl ho x hh.2).mono fun r w' hr => by rw [decide_eq_true hh.1] at hr; exact hr
set_option maxHeartbeats 4000000 in
set_option maxRecDepth 100000 in
theorem places_calls (n : Nat) (iv lv ov : Value) (ins : List Int) (ls : List I5) (lost : List Int) (w : World) (hi : Sl vI w iv ins) (hl : Sm i5cells w lv ls) (ho : Sl vI w ov lost) (hln : ins.length = n) (hn : n ≤ 4096) : Gives Tryz.prog 183 #[.agg #[.int .i64 (n : Int), iv, lv, ov]] w fun r w' => Own vI 3 w' w.heap.size r (placesOf ins n) ∧ Ext w w' := by
 refine Gives.start Tryz.func183 rfl (Nat.le_of_ble_eq_true rfl) ?_
 rw [args1]
 have hN := Now.nil w none_
 refine RW.seq (RW.region ?_)
 refine RL.op rfl rfl (opN_box (cs := [.int .i64 ((n : Int)), iv, lv, ov]) rfl rfl hN ?_)
 clear hN
 intro g1 w1 (hN : Now w none_ w1 [_])
 refine RL.ev (v := .slice none 0 0) rfl rfl ev_assign (RL.nil (thenN (RW.seq (RW.region (RL.ev (v := .slice none 0 0) rfl rfl ev_assign (RL.nil (thenN ?_)))))))
 iterate 2 refine RW.seq ?_
 refine RW.region (RL.ev (v := .int .i64 (0)) rfl rfl ev_assign (RL.nil (thenN (RW.block ?_))))
 replace hN := hN.addNil vI 3
 refine RW.loop (fun k R0 w0' => ∃ va : Value, ∃ acc : List Int, ∃ i : Nat, R0 1 = .pointer (some ⟨g1, 0, none⟩) ∧ R0 3 = va ∧ R0 4 = .int .i64 ((i : Int)) ∧ Now w none_ w0' [.own vI 3 (va) (acc), .blk g1 [.int .i64 ((n : Int)), iv, lv, ov] 194] ∧ (i + k = n) ∧ (acc = placesOf ins i) ∧ (acc.length ≤ i)) (n) ?_ ?_
 exact ⟨.slice none 0 0, [], 0, rfl, rfl, rfl, hN, by omega, rfl, Nat.le_refl _⟩
 clear hN
 rintro k R0 w0' ⟨va, acc, i, hr1_, hr3_, hr4_, hN, hik, ha, hal⟩
 have hR_ : ∃ R0_, R0 = (upd (upd (upd R0_ 1 _) 3 _) 4 _) := ⟨R0, by rw [upd_self hr1_, upd_self hr3_, upd_self hr4_]⟩
 obtain ⟨R0_, rfl⟩ := hR_
 clear hr1_ hr3_ hr4_
 iterate 2 refine RW.seq ?_
 refine RW.region (RL.ev (v := .int .i64 ((i : Int))) rfl rfl ev_move (RL.ev rfl rfl (ev_fieldAddr Tryz.underlying194 rfl sz3 (by decide) rfl) (RL.ev rfl rfl (ev_loadB Tryz.underlying3 rfl rfl (hN.blk 1 rfl) rfl) (RL.ev rfl rfl (ev_lss rfl rfl) (RL.nil (thenN ?_))))))
 refine RW.condP _ rfl (fun hlt => ?_) (fun hlt => ?_)
 refine RW.skip (thenN (RW.seq (RW.block (RW.seq (RW.region (RL.ev rfl rfl (ev_fieldAddr Tryz.underlying194 rfl sz25 (by decide) rfl) (RL.ev rfl rfl (ev_loadB Tryz.underlying25 rfl rfl (hN.blk 1 rfl) rfl) (RL.ev (v := .int .i64 ((i : Int))) rfl rfl ev_move (RL.ev rfl rfl (ev_index Tryz.underlying25 sz3 (hi.o.now hN) rfl rfl (by omega) (by omega)) ?_)))))))))
 have hOb_ : ∃ a_, (ins)[i]? = some a_ := ⟨_, List.getElem?_eq_getElem (by omega)⟩
 obtain ⟨ap, hap⟩ := hOb_
 refine RL.ev rfl rfl (ev_loadG (m := i) (a := ap) Tryz.underlying3 rfl (hi.o.now hN) rfl hap) (RL.ev rfl rfl (ev_eql rfl rfl) (RL.nil (thenN ?_)))
 refine RW.condP _ rfl (fun hcx => ?_) (fun hcx => ?_)
 refine RW.region (RL.ev (v := va) rfl rfl ev_move (RL.ev (v := .int .i64 ((i : Int))) rfl rfl ev_move ?_))
 refine RL.op rfl rfl (opN_lit (enc := vI) (l := [(i : Int)]) (xs := [.tmp 18]) Tryz.underlying25 sz3 zr3 rfl rfl (fun _ => rfl) rfl (by decide) (by decide) hN ?_)
 clear hN
 intro g3 w3 (hN : Now w none_ w3 [_, _, _])
 refine RL.op rfl rfl (opN_append Tryz.underlying25 inf3 rfl (fun _ => rfl) hN 1 rfl rfl (hN.sl 0 rfl) rfl (by simp only [List.length_singleton, List.length_cons, List.length_nil]; omega) (by decide) ?_)
 clear hN
 intro v4 w4 (hN : Now w none_ w4 [_, _, _])
 refine RL.ev (v := v4) rfl rfl ev_assign (RL.nil (blockN (thenN (RW.region (RL.ev (v := .int .i64 ((i : Int))) rfl rfl ev_move (RL.ev rfl rfl (ev_arith rfl rfl rfl (add64 (by omega) (by omega))) (RL.ev (v := .int .i64 ((i : Int) + 1)) rfl rfl ev_assign (RL.nil (thenN ?_)))))))))
 exact ⟨k - 1, by omega, v4, acc ++ [(i : Int)], i + 1, rfl, rfl, rfl, (hN.sub [1, 2] (by decide) rfl), by omega, by unfold placesOf at *; rw [filter_range_succ, if_pos (decide_eq_true (by rw [hap, hcx])), ha]; try rfl, by (try simp only [List.length_append, List.length_singleton]); omega⟩
 refine RW.skip (blockN (thenN (RW.region (RL.ev (v := .int .i64 ((i : Int))) rfl rfl ev_move (RL.ev rfl rfl (ev_arith rfl rfl rfl (add64 (by omega) (by omega))) (RL.ev (v := .int .i64 ((i : Int) + 1)) rfl rfl ev_assign (RL.nil (thenN ?_))))))))
 exact ⟨k - 1, by omega, va, acc, i + 1, rfl, rfl, rfl, hN, by omega, by unfold placesOf at *; rw [filter_range_succ, if_neg (fun h => hcx (Option.some.inj (hap.symm.trans (of_decide_eq_true h)))), List.append_nil]; exact ha, by (try simp only [List.length_append, List.length_singleton]); omega⟩
 refine RW.exit ?_
 iterate 2 refine thenX ?_
 refine blockHit (thenN (RW.seq (RW.region (RL.ev (v := va) rfl rfl ev_move (RL.ev (v := va) rfl rfl ev_assign (RL.nil (thenN (RW.ret (retI (RV.tmp rfl) ?_)))))))))
 have hi_ : i = n := by omega
 subst hi_
 subst ha
 exact ⟨hN.ownOut 0 rfl, hN.ext0⟩
set_option maxHeartbeats 4000000 in
set_option maxRecDepth 100000 in
theorem way_calls (n : Nat) (iv lv ov : Value) (ins : List Int) (ls : List I5) (lost : List Int) (w : World) (hi : Sl vI w iv ins) (hl : Sm i5cells w lv ls) (ho : Sl vI w ov lost) (u v : Int) : Gives Tryz.prog 137 #[.agg #[.int .i64 (n : Int), iv, lv, ov], .int .i64 u, .int .i64 v] w fun r w' => r = wayR ls u v ∧ Ext w w' := by
 refine Gives.start Tryz.func137 rfl (Nat.le_of_ble_eq_true rfl) ?_
 rw [args3]
 have hN := Now.nil w none_
 refine RW.seq (RW.region ?_)
 refine RL.op rfl rfl (opN_box (cs := [.int .i64 ((n : Int)), iv, lv, ov]) rfl rfl hN ?_)
 clear hN
 intro g1 w1 (hN : Now w none_ w1 [_])
 refine RL.op rfl rfl (opN_alloc (cs := [.int .i64 (0), .int .i64 (0), .int .i64 (0)]) zero96 rfl hN ?_)
 clear hN
 intro g2 w2 (hN : Now w none_ w2 [_, _])
 refine RL.ev (v := .bool false) rfl rfl ev_assign (RL.nil (thenN ?_))
 iterate 2 refine RW.seq ?_
 refine RW.region (RL.ev (v := .int .i64 (0)) rfl rfl ev_assign (RL.nil (thenN (RW.block ?_))))
 refine RW.loop (fun k R0 w0' => ∃ i : Nat, R0 1 = .int .i64 (u) ∧ R0 2 = .int .i64 (v) ∧ R0 3 = .pointer (some ⟨g1, 0, none⟩) ∧ R0 6 = .pointer (some ⟨g2, 0, none⟩) ∧ R0 8 = .int .i64 ((i : Int)) ∧ Now w none_ w0' [.blk g2 [.int .i64 (0), .int .i64 (0), .int .i64 (0)] 96, .blk g1 [.int .i64 ((n : Int)), iv, lv, ov] 194] ∧ (i + k = ls.length) ∧ (∀ x ∈ ls.take i, ¬ (x.1 = u ∧ x.2.1 = v))) (ls.length) ?_ ?_
 exact ⟨0, rfl, rfl, rfl, rfl, rfl, hN, by omega, fun x hx => by cases hx⟩
 clear hN
 rintro k R0 w0' ⟨i, hr1_, hr2_, hr3_, hr6_, hr8_, hN, hik, hno⟩
 have hR_ : ∃ R0_, R0 = (upd (upd (upd (upd (upd R0_ 1 _) 2 _) 3 _) 6 _) 8 _) := ⟨R0, by rw [upd_self hr1_, upd_self hr2_, upd_self hr3_, upd_self hr6_, upd_self hr8_]⟩
 obtain ⟨R0_, rfl⟩ := hR_
 clear hr1_ hr2_ hr3_ hr6_ hr8_
 iterate 2 refine RW.seq ?_
 refine RW.region (RL.ev (v := .int .i64 ((i : Int))) rfl rfl ev_move (RL.ev rfl rfl (ev_fieldAddr Tryz.underlying194 rfl sz192 (by decide) rfl) (RL.ev rfl rfl (ev_loadB Tryz.underlying192 rfl rfl (hN.blk 1 rfl) rfl) ?_)))
 have hL_3 := (hl.o.now hN).len_le
 refine RL.ev rfl rfl (ev_lenM Tryz.underlying192 (hl.o.now hN) rfl) (RL.ev rfl rfl (ev_lss rfl rfl) (RL.nil (thenN ?_)))
 refine RW.condP _ rfl (fun hlt => ?_) (fun hlt => ?_)
 refine RW.skip (thenN (RW.seq (RW.block (RW.seq (RW.region (RL.ev rfl rfl (ev_fieldAddr Tryz.underlying194 rfl sz192 (by decide) rfl) (RL.ev rfl rfl (ev_loadB Tryz.underlying192 rfl rfl (hN.blk 1 rfl) rfl) (RL.ev (v := .int .i64 ((i : Int))) rfl rfl ev_move (RL.ev rfl rfl (ev_indexM Tryz.underlying192 sz248 i5cells_len (by decide) (hl.o.now hN) rfl rfl (by omega) (by omega)) ?_)))))))))
 have hOb_ : ∃ a_, (ls)[i]? = some a_ := ⟨_, List.getElem?_eq_getElem (by omega)⟩
 obtain ⟨ap, hap⟩ := hOb_
 refine RL.ev rfl rfl (ev_fieldM (m := i) (b := 0) Tryz.underlying248 rfl sz3 (by decide) i5cells_len (hl.o.now hN) hap rfl rfl) (RL.ev rfl rfl (ev_loadMF (m := i) (j := 0) (a := ap) Tryz.underlying3 rfl i5cells_len (hl.o.now hN) rfl hap rfl) (RL.ev (v := .int .i64 (u)) rfl rfl ev_move (RL.ev rfl rfl (ev_eql rfl rfl) (RL.ev (v := .bool (decide (ap.1 = u))) rfl rfl ev_move ?_))))
 by_cases hg4_8 : ap.1 = u
 rw [decide_eq_true hg4_8]
 refine RL.onEv rfl rfl (by decide) rfl rfl (ev_fieldAddr Tryz.underlying194 rfl sz192 (by decide) rfl) (RL.onEv rfl rfl (by decide) rfl rfl (ev_loadB Tryz.underlying192 rfl rfl (hN.blk 1 rfl) rfl) (RL.onEv (v := .int .i64 ((i : Int))) rfl rfl (by decide) rfl rfl ev_move (RL.onEv rfl rfl (by decide) rfl rfl (ev_indexM Tryz.underlying192 sz248 i5cells_len (by decide) (hl.o.now hN) rfl rfl (by omega) (by omega)) (RL.onEv rfl rfl (by decide) rfl rfl (ev_fieldM (m := i) (b := 0) Tryz.underlying248 rfl sz3 (by decide) i5cells_len (hl.o.now hN) hap rfl rfl) (RL.onEv rfl rfl (by decide) rfl rfl (ev_loadMF (m := i) (j := 1) (a := ap) Tryz.underlying3 rfl i5cells_len (hl.o.now hN) rfl hap rfl) (RL.onEv (v := .int .i64 (v)) rfl rfl (by decide) rfl rfl ev_move (RL.onEv rfl rfl (by decide) rfl rfl (ev_eql rfl rfl) (RL.ev (v := .bool (decide (ap.2.1 = v))) rfl rfl (ev_pickT rfl) (RL.nil ?_)))))))))
 refine thenN ?_
 refine RW.condP _ rfl (fun hc33 => ?_) (fun hc33 => ?_)
 refine RW.seq (RW.region (RL.ev rfl rfl (ev_fieldAddr Tryz.underlying194 rfl sz192 (by decide) rfl) (RL.ev rfl rfl (ev_loadB Tryz.underlying192 rfl rfl (hN.blk 1 rfl) rfl) (RL.ev (v := .int .i64 ((i : Int))) rfl rfl ev_move (RL.ev rfl rfl (ev_indexM Tryz.underlying192 sz248 i5cells_len (by decide) (hl.o.now hN) rfl rfl (by omega) (by omega)) (RL.ev rfl rfl (ev_fieldM (m := i) (b := 0) Tryz.underlying248 rfl sz96 (by decide) i5cells_len (hl.o.now hN) hap rfl rfl) (RL.ev rfl rfl (ev_loadMS (m := i) (j := 2) (a := ap) Tryz.underlying96 rfl sz96 i5cells_len (by decide) (by decide) (hl.o.now hN) rfl hap (cs := [.int .i64 (ap.2.2.1), .int .i64 (ap.2.2.2.1), .int .i64 (ap.2.2.2.2)]) rfl) ?_)))))))
 refine RL.op rfl rfl (opN_storeAll (vs := [.int .i64 (ap.2.2.1), .int .i64 (ap.2.2.2.1), .int .i64 (ap.2.2.2.2)]) sz96 rfl rfl rfl (by intro u hu; simp only [List.mem_cons, List.not_mem_nil, or_false] at hu; rcases hu with rfl | rfl | rfl <;> first | rfl) hN 0 rfl rfl ?_)
 clear hN
 intro w4 (hN : Now w none_ w4 [_, _])
 refine RL.ev (v := .bool true) rfl rfl ev_assign (RL.nil (thenN (RW.ret (blockR ?_))))
 iterate 2 refine thenR ?_
 refine blockR (thenR (retI (RV.cellTmp rfl rfl (run_cell (hN.blk 0 rfl) Tryz.underlying96 rfl sz96)) ?_))
 exact ⟨(wayR_some (wayOf_at hno hap hg4_8 hc33)).symm, hN.ext0⟩
 refine RW.skip (blockN (thenN (RW.region (RL.ev (v := .int .i64 ((i : Int))) rfl rfl ev_move (RL.ev rfl rfl (ev_arith rfl rfl rfl (add64 (by omega) (by omega))) (RL.ev (v := .int .i64 ((i : Int) + 1)) rfl rfl ev_assign (RL.nil (thenN ?_))))))))
 exact ⟨k - 1, by omega, i + 1, rfl, rfl, rfl, rfl, rfl, hN, by omega, fun x hx => (mem_take_succ hap hx).elim (hno x) (fun e => e ▸ fun h => by first | exact hg4_8 h.1 | exact hc33 h.2)⟩
 rw [decide_eq_false hg4_8]
 iterate 8 refine RL.off rfl rfl (by decide) rfl rfl ?_
 refine RL.ev (v := .bool false) rfl rfl (ev_pickF rfl) (RL.nil (thenN (RW.condF rfl (RW.skip (blockN (thenN (RW.region (RL.ev (v := .int .i64 ((i : Int))) rfl rfl ev_move (RL.ev rfl rfl (ev_arith rfl rfl rfl (add64 (by omega) (by omega))) ?_)))))))))
 refine RL.ev (v := .int .i64 ((i : Int) + 1)) rfl rfl ev_assign (RL.nil (thenN ?_))
 exact ⟨k - 1, by omega, i + 1, rfl, rfl, rfl, rfl, rfl, hN, by omega, fun x hx => (mem_take_succ hap hx).elim (hno x) (fun e => e ▸ fun h => by first | exact hg4_8 h.1 | exact hc33 h.2)⟩
 refine RW.exit ?_
 iterate 2 refine thenX ?_
 refine blockHit (thenN (RW.seq (RW.region (RL.ev rfl rfl (ev_buildL (cs := [.int .i64 (0), .int .i64 (0), .int .i64 (0)]) Tryz.underlying96 zero96 (places := #[(0, 1), (1, 1), (2, 1)]) (by intro w; kernel_rfl) (pl := []) rfl (ps := []) rfl (zc := [.int .i64 (0), .int .i64 (0), .int .i64 (0)]) rfl rfl) ?_))))
 refine RL.op rfl rfl (opN_storeAll (vs := [.int .i64 (0), .int .i64 (0), .int .i64 (0)]) sz96 rfl rfl rfl (by intro u hu; simp only [List.mem_cons, List.not_mem_nil, or_false] at hu; rcases hu with rfl | rfl | rfl <;> first | rfl) hN 0 rfl rfl ?_)
 clear hN
 intro w5 (hN : Now w none_ w5 [_, _])
 refine RL.ev (v := .bool false) rfl rfl ev_assign (RL.nil (thenN (RW.ret (retI (RV.cellTmp rfl rfl (run_cell (hN.blk 0 rfl) Tryz.underlying96 rfl sz96)) ?_))))
 rw [List.take_of_length_le (by omega)] at hno
 exact ⟨(wayR_none (wayOf_none hno)).symm, hN.ext0⟩
theorem way_some (n : Nat) (iv lv ov : Value) (ins : List Int) (ls : List I5) (lost : List Int) (w : World) (hi : Sl vI w iv ins) (hl : Sm i5cells w lv ls) (ho : Sl vI w ov lost) (u v : Int) (x : I3) (h : wayOf ls u v = some x) : Gives Tryz.prog 137 #[.agg #[.int .i64 (n : Int), iv, lv, ov], .int .i64 u, .int .i64 v] w fun r w' => r = .tuple #[.agg #[.int .i64 x.1, .int .i64 x.2.1, .int .i64 x.2.2], .bool true] ∧ Ext w w' := (way_calls n iv lv ov ins ls lost w hi hl ho u v).mono fun r w' hr => by rw [wayR_some h] at hr; exact hr
set_option maxHeartbeats 4000000 in
set_option maxRecDepth 100000 in
theorem outs_calls (n : Nat) (iv lv ov : Value) (ins : List Int) (ls : List I5) (lost : List Int) (w : World) (hi : Sl vI w iv ins) (hl : Sm i5cells w lv ls) (ho : Sl vI w ov lost) (v : Int) (hn : n ≤ 4096) : Gives Tryz.prog 136 #[.agg #[.int .i64 (n : Int), iv, lv, ov], .int .i64 v] w fun r w' => Own vI 3 w' w.heap.size r (outsOf ls v n) ∧ Ext w w' := by
 refine Gives.start Tryz.func136 rfl (Nat.le_of_ble_eq_true rfl) ?_
 rw [args2]
 have hN := Now.nil w none_
 refine RW.seq (RW.region ?_)
 refine RL.op rfl rfl (opN_box (cs := [.int .i64 ((n : Int)), iv, lv, ov]) rfl rfl hN ?_)
 clear hN
 intro g1 w1 (hN : Now w none_ w1 [_])
 refine RL.ev (v := .slice none 0 0) rfl rfl ev_assign (RL.nil (thenN (RW.seq (RW.region (RL.ev (v := .slice none 0 0) rfl rfl ev_assign (RL.nil (thenN ?_)))))))
 iterate 2 refine RW.seq ?_
 refine RW.region (RL.ev (v := .int .i64 (0)) rfl rfl ev_assign (RL.nil (thenN (RW.block ?_))))
 replace hN := hN.addNil vI 3
 refine RW.loop (fun k R0 w0' => ∃ va : Value, ∃ acc : List Int, ∃ i : Nat, R0 1 = .int .i64 (v) ∧ R0 2 = .pointer (some ⟨g1, 0, none⟩) ∧ R0 5 = va ∧ R0 6 = .int .i64 ((i : Int)) ∧ Now w none_ w0' [.own vI 3 (va) (acc), .blk g1 [.int .i64 ((n : Int)), iv, lv, ov] 194] ∧ (i + k = n) ∧ (acc = outsOf ls v i) ∧ (acc.length ≤ i)) (n) ?_ ?_
 exact ⟨.slice none 0 0, [], 0, rfl, rfl, rfl, rfl, hN, by omega, rfl, Nat.le_refl _⟩
 clear hN
 rintro k R0 w0' ⟨va, acc, i, hr1_, hr2_, hr5_, hr6_, hN, hik, ha, hal⟩
 have hR_ : ∃ R0_, R0 = (upd (upd (upd (upd R0_ 1 _) 2 _) 5 _) 6 _) := ⟨R0, by rw [upd_self hr1_, upd_self hr2_, upd_self hr5_, upd_self hr6_]⟩
 obtain ⟨R0_, rfl⟩ := hR_
 clear hr1_ hr2_ hr5_ hr6_
 iterate 2 refine RW.seq ?_
 refine RW.region (RL.ev (v := .int .i64 ((i : Int))) rfl rfl ev_move (RL.ev rfl rfl (ev_fieldAddr Tryz.underlying194 rfl sz3 (by decide) rfl) (RL.ev rfl rfl (ev_loadB Tryz.underlying3 rfl rfl (hN.blk 1 rfl) rfl) (RL.ev rfl rfl (ev_lss rfl rfl) (RL.nil (thenN ?_))))))
 refine RW.condP _ rfl (fun hlt => ?_) (fun hlt => ?_)
 refine RW.skip (thenN (RW.seq (RW.block (RW.seq (RW.region (RL.ev rfl rfl (ev_loadAll (cs := [.int .i64 ((n : Int)), iv, lv, ov]) Tryz.underlying194 rfl sz194 rfl (hN.blk 1 rfl)) (RL.ev (v := .int .i64 (v)) rfl rfl ev_move (RL.ev (v := .int .i64 ((i : Int))) rfl rfl ev_move ?_))))))))
 refine RL.op rfl rfl (op_call3 Tryz.func137 rfl rfl rfl rfl rfl ((way_calls n _ _ _ ins ls lost _ (hi.o.now hN) (hl.o.now hN) (ho.o.now hN) v (i : Int)).mono ?_))
 rintro _ w3 ⟨rfl, he_⟩
 replace hN := hN.ext he_
 clear he_
 refine RL.ev (v := .tuple #[.agg #[.int .i64 (((wayOf ls v (i : Int)).getD (0, 0, 0)).1), .int .i64 (((wayOf ls v (i : Int)).getD (0, 0, 0)).2.1), .int .i64 (((wayOf ls v (i : Int)).getD (0, 0, 0)).2.2)], .bool (decide (HasWay ls v (i : Int)))]) rfl rfl ev_move ?_
 iterate 2 refine RL.ev rfl rfl (ev_extract rfl rfl) ?_
 refine RL.op rfl rfl (opN_alloc (cs := [.int .i64 (0), .int .i64 (0), .int .i64 (0)]) zero96 rfl hN ?_)
 clear hN
 intro g4 w4 (hN : Now w none_ w4 [_, _, _])
 refine RL.op rfl rfl (opN_storeAll (vs := [.int .i64 (((wayOf ls v (i : Int)).getD (0, 0, 0)).1), .int .i64 (((wayOf ls v (i : Int)).getD (0, 0, 0)).2.1), .int .i64 (((wayOf ls v (i : Int)).getD (0, 0, 0)).2.2)]) sz96 rfl rfl rfl (by intro u hu; simp only [List.mem_cons, List.not_mem_nil, or_false] at hu; rcases hu with rfl | rfl | rfl <;> first | rfl) hN 0 rfl rfl ?_)
 clear hN
 intro w5 (hN : Now w none_ w5 [_, _, _])
 refine RL.ev (v := .bool (decide (HasWay ls v (i : Int)))) rfl rfl ev_assign (RL.nil (thenN (RW.seq (RW.region (RL.ev (v := .bool (decide (HasWay ls v (i : Int)))) rfl rfl ev_move (RL.nil (thenN ?_)))))))
 refine RW.condP _ rfl (fun hcx => ?_) (fun hcx => ?_)
 refine RW.region (RL.ev (v := va) rfl rfl ev_move (RL.ev (v := .int .i64 ((i : Int))) rfl rfl ev_move ?_))
 refine RL.op rfl rfl (opN_lit (enc := vI) (l := [(i : Int)]) (xs := [.tmp 24]) Tryz.underlying25 sz3 zr3 rfl rfl (fun _ => rfl) rfl (by decide) (by decide) hN ?_)
 clear hN
 intro g6 w6 (hN : Now w none_ w6 [_, _, _, _])
 refine RL.op rfl rfl (opN_append Tryz.underlying25 inf3 rfl (fun _ => rfl) hN 2 rfl rfl (hN.sl 0 rfl) rfl (by simp only [List.length_singleton, List.length_cons, List.length_nil]; omega) (by decide) ?_)
 clear hN
 intro v7 w7 (hN : Now w none_ w7 [_, _, _, _])
 refine RL.ev (v := v7) rfl rfl ev_assign (RL.nil (blockN (thenN (RW.region (RL.ev (v := .int .i64 ((i : Int))) rfl rfl ev_move (RL.ev rfl rfl (ev_arith rfl rfl rfl (add64 (by omega) (by omega))) (RL.ev (v := .int .i64 ((i : Int) + 1)) rfl rfl ev_assign (RL.nil (thenN ?_)))))))))
 exact ⟨k - 1, by omega, v7, acc ++ [(i : Int)], i + 1, rfl, rfl, rfl, rfl, (hN.sub [2, 3] (by decide) rfl), by omega, by unfold outsOf at *; rw [filter_range_succ, if_pos (decide_eq_true (show HasWay ls v (i : Int) from hcx)), ha]; try rfl, by (try simp only [List.length_append, List.length_singleton]); omega⟩
 refine RW.skip (blockN (thenN (RW.region (RL.ev (v := .int .i64 ((i : Int))) rfl rfl ev_move (RL.ev rfl rfl (ev_arith rfl rfl rfl (add64 (by omega) (by omega))) (RL.ev (v := .int .i64 ((i : Int) + 1)) rfl rfl ev_assign (RL.nil (thenN ?_))))))))
 exact ⟨k - 1, by omega, va, acc, i + 1, rfl, rfl, rfl, rfl, (hN.sub [1, 2] (by decide) rfl), by omega, by unfold outsOf at *; rw [filter_range_succ, if_neg (fun h => hcx (of_decide_eq_true (p := HasWay ls v (i : Int)) h)), List.append_nil]; exact ha, by (try simp only [List.length_append, List.length_singleton]); omega⟩
 refine RW.exit ?_
 iterate 2 refine thenX ?_
 refine blockHit (thenN (RW.seq (RW.region (RL.ev (v := va) rfl rfl ev_move (RL.ev (v := va) rfl rfl ev_assign (RL.nil (thenN (RW.ret (retI (RV.tmp rfl) ?_)))))))))
 have hi_ : i = n := by omega
 subst hi_
 subst ha
 exact ⟨hN.ownOut 0 rfl, hN.ext0⟩
set_option maxHeartbeats 4000000 in
set_option maxRecDepth 100000 in
theorem ins_calls (n : Nat) (iv lv ov : Value) (ins : List Int) (ls : List I5) (lost : List Int) (w : World) (hi : Sl vI w iv ins) (hl : Sm i5cells w lv ls) (ho : Sl vI w ov lost) (v : Int) (hn : n ≤ 4096) : Gives Tryz.prog 138 #[.agg #[.int .i64 (n : Int), iv, lv, ov], .int .i64 v] w fun r w' => Own vI 3 w' w.heap.size r (insOf ls v n) ∧ Ext w w' := by
 refine Gives.start Tryz.func138 rfl (Nat.le_of_ble_eq_true rfl) ?_
 rw [args2]
 have hN := Now.nil w none_
 refine RW.seq (RW.region ?_)
 refine RL.op rfl rfl (opN_box (cs := [.int .i64 ((n : Int)), iv, lv, ov]) rfl rfl hN ?_)
 clear hN
 intro g1 w1 (hN : Now w none_ w1 [_])
 refine RL.ev (v := .slice none 0 0) rfl rfl ev_assign (RL.nil (thenN (RW.seq (RW.region (RL.ev (v := .slice none 0 0) rfl rfl ev_assign (RL.nil (thenN ?_)))))))
 iterate 2 refine RW.seq ?_
 refine RW.region (RL.ev (v := .int .i64 (0)) rfl rfl ev_assign (RL.nil (thenN (RW.block ?_))))
 replace hN := hN.addNil vI 3
 refine RW.loop (fun k R0 w0' => ∃ va : Value, ∃ acc : List Int, ∃ i : Nat, R0 1 = .int .i64 (v) ∧ R0 2 = .pointer (some ⟨g1, 0, none⟩) ∧ R0 5 = va ∧ R0 6 = .int .i64 ((i : Int)) ∧ Now w none_ w0' [.own vI 3 (va) (acc), .blk g1 [.int .i64 ((n : Int)), iv, lv, ov] 194] ∧ (i + k = n) ∧ (acc = insOf ls v i) ∧ (acc.length ≤ i)) (n) ?_ ?_
 exact ⟨.slice none 0 0, [], 0, rfl, rfl, rfl, rfl, hN, by omega, rfl, Nat.le_refl _⟩
 clear hN
 rintro k R0 w0' ⟨va, acc, i, hr1_, hr2_, hr5_, hr6_, hN, hik, ha, hal⟩
 have hR_ : ∃ R0_, R0 = (upd (upd (upd (upd R0_ 1 _) 2 _) 5 _) 6 _) := ⟨R0, by rw [upd_self hr1_, upd_self hr2_, upd_self hr5_, upd_self hr6_]⟩
 obtain ⟨R0_, rfl⟩ := hR_
 clear hr1_ hr2_ hr5_ hr6_
 iterate 2 refine RW.seq ?_
 refine RW.region (RL.ev (v := .int .i64 ((i : Int))) rfl rfl ev_move (RL.ev rfl rfl (ev_fieldAddr Tryz.underlying194 rfl sz3 (by decide) rfl) (RL.ev rfl rfl (ev_loadB Tryz.underlying3 rfl rfl (hN.blk 1 rfl) rfl) (RL.ev rfl rfl (ev_lss rfl rfl) (RL.nil (thenN ?_))))))
 refine RW.condP _ rfl (fun hlt => ?_) (fun hlt => ?_)
 refine RW.skip (thenN (RW.seq (RW.block (RW.seq (RW.region (RL.ev rfl rfl (ev_loadAll (cs := [.int .i64 ((n : Int)), iv, lv, ov]) Tryz.underlying194 rfl sz194 rfl (hN.blk 1 rfl)) (RL.ev (v := .int .i64 ((i : Int))) rfl rfl ev_move (RL.ev (v := .int .i64 (v)) rfl rfl ev_move ?_))))))))
 refine RL.op rfl rfl (op_call3 Tryz.func137 rfl rfl rfl rfl rfl ((way_calls n _ _ _ ins ls lost _ (hi.o.now hN) (hl.o.now hN) (ho.o.now hN) (i : Int) v).mono ?_))
 rintro _ w3 ⟨rfl, he_⟩
 replace hN := hN.ext he_
 clear he_
 refine RL.ev (v := .tuple #[.agg #[.int .i64 (((wayOf ls (i : Int) v).getD (0, 0, 0)).1), .int .i64 (((wayOf ls (i : Int) v).getD (0, 0, 0)).2.1), .int .i64 (((wayOf ls (i : Int) v).getD (0, 0, 0)).2.2)], .bool (decide (HasWay ls (i : Int) v))]) rfl rfl ev_move ?_
 iterate 2 refine RL.ev rfl rfl (ev_extract rfl rfl) ?_
 refine RL.op rfl rfl (opN_alloc (cs := [.int .i64 (0), .int .i64 (0), .int .i64 (0)]) zero96 rfl hN ?_)
 clear hN
 intro g4 w4 (hN : Now w none_ w4 [_, _, _])
 refine RL.op rfl rfl (opN_storeAll (vs := [.int .i64 (((wayOf ls (i : Int) v).getD (0, 0, 0)).1), .int .i64 (((wayOf ls (i : Int) v).getD (0, 0, 0)).2.1), .int .i64 (((wayOf ls (i : Int) v).getD (0, 0, 0)).2.2)]) sz96 rfl rfl rfl (by intro u hu; simp only [List.mem_cons, List.not_mem_nil, or_false] at hu; rcases hu with rfl | rfl | rfl <;> first | rfl) hN 0 rfl rfl ?_)
 clear hN
 intro w5 (hN : Now w none_ w5 [_, _, _])
 refine RL.ev (v := .bool (decide (HasWay ls (i : Int) v))) rfl rfl ev_assign (RL.nil (thenN (RW.seq (RW.region (RL.ev (v := .bool (decide (HasWay ls (i : Int) v))) rfl rfl ev_move (RL.nil (thenN ?_)))))))
 refine RW.condP _ rfl (fun hcx => ?_) (fun hcx => ?_)
 refine RW.region (RL.ev (v := va) rfl rfl ev_move (RL.ev (v := .int .i64 ((i : Int))) rfl rfl ev_move ?_))
 refine RL.op rfl rfl (opN_lit (enc := vI) (l := [(i : Int)]) (xs := [.tmp 24]) Tryz.underlying25 sz3 zr3 rfl rfl (fun _ => rfl) rfl (by decide) (by decide) hN ?_)
 clear hN
 intro g6 w6 (hN : Now w none_ w6 [_, _, _, _])
 refine RL.op rfl rfl (opN_append Tryz.underlying25 inf3 rfl (fun _ => rfl) hN 2 rfl rfl (hN.sl 0 rfl) rfl (by simp only [List.length_singleton, List.length_cons, List.length_nil]; omega) (by decide) ?_)
 clear hN
 intro v7 w7 (hN : Now w none_ w7 [_, _, _, _])
 refine RL.ev (v := v7) rfl rfl ev_assign (RL.nil (blockN (thenN (RW.region (RL.ev (v := .int .i64 ((i : Int))) rfl rfl ev_move (RL.ev rfl rfl (ev_arith rfl rfl rfl (add64 (by omega) (by omega))) (RL.ev (v := .int .i64 ((i : Int) + 1)) rfl rfl ev_assign (RL.nil (thenN ?_)))))))))
 exact ⟨k - 1, by omega, v7, acc ++ [(i : Int)], i + 1, rfl, rfl, rfl, rfl, (hN.sub [2, 3] (by decide) rfl), by omega, by unfold insOf at *; rw [filter_range_succ, if_pos (decide_eq_true (show HasWay ls (i : Int) v from hcx)), ha]; try rfl, by (try simp only [List.length_append, List.length_singleton]); omega⟩
 refine RW.skip (blockN (thenN (RW.region (RL.ev (v := .int .i64 ((i : Int))) rfl rfl ev_move (RL.ev rfl rfl (ev_arith rfl rfl rfl (add64 (by omega) (by omega))) (RL.ev (v := .int .i64 ((i : Int) + 1)) rfl rfl ev_assign (RL.nil (thenN ?_))))))))
 exact ⟨k - 1, by omega, va, acc, i + 1, rfl, rfl, rfl, rfl, (hN.sub [1, 2] (by decide) rfl), by omega, by unfold insOf at *; rw [filter_range_succ, if_neg (fun h => hcx (of_decide_eq_true (p := HasWay ls (i : Int) v) h)), List.append_nil]; exact ha, by (try simp only [List.length_append, List.length_singleton]); omega⟩
 refine RW.exit ?_
 iterate 2 refine thenX ?_
 refine blockHit (thenN (RW.seq (RW.region (RL.ev (v := va) rfl rfl ev_move (RL.ev (v := va) rfl rfl ev_assign (RL.nil (thenN (RW.ret (retI (RV.tmp rfl) ?_)))))))))
 have hi_ : i = n := by omega
 subst hi_
 subst ha
 exact ⟨hN.ownOut 0 rfl, hN.ext0⟩
end Go.Proofs.YtngkdkbpgoddlaaGreat
set_option linter.unusedVariables false
set_option linter.unusedSimpArgs false
namespace Go.Proofs.YtngkdkbpgoddlaaGreat
open Go.RowKit Go.Rl
open Go.Gr
set_option maxHeartbeats 4000000 in
set_option maxRecDepth 100000 in
theorem putT_calls {w : World} (F : Nat → Prop) (hF : ∀ k, F k → k < w.heap.size) (n : Nat) (iv lv ov : Value) (ins : List Int) (ls : List I5) (lost : List Int) (u v x mid : Int) (hi : SlO F vI w iv ins) (hl : SmO F i5cells w lv ls) (ho : SlO F vI w ov lost) (hln : ins.length = n) (hlen : ls.length ≤ 67108864) : Gives Tryz.prog 135 #[.agg #[.int .i64 (n : Int), iv, lv, ov], .int .i64 u, .int .i64 v, .int .i64 x, .int .i64 mid] w fun r w' => ∃ lv' b, r = .tuple #[.agg #[.int .i64 (n : Int), iv, lv', ov], .bool b] ∧ SmO F i5cells w' lv' (putT n ins ls u v x mid) ∧ Ext w w' := by
 refine Gives.start Tryz.func135 rfl (Nat.le_of_ble_eq_true rfl) ?_
 rw [args5]
 have hN := Now.nil w none_
 refine RW.seq (RW.region ?_)
 refine RL.op rfl rfl (opN_box (cs := [.int .i64 ((n : Int)), iv, lv, ov]) rfl rfl hN ?_)
 clear hN
 intro g1 w1 (hN : Now w none_ w1 [_])
 refine RL.op rfl rfl (opN_alloc (cs := [.int .i64 (0), .slice none 0 0, .slice none 0 0, .slice none 0 0]) zero194 rfl hN ?_)
 clear hN
 intro g2 w2 (hN : Now w none_ w2 [_, _])
 refine RL.ev (v := .bool false) rfl rfl ev_assign (RL.nil (thenN (RW.seq (RW.region (RL.ev rfl rfl (ev_loadAll (cs := [.int .i64 ((n : Int)), iv, lv, ov]) Tryz.underlying194 rfl sz194 rfl (hN.blk 1 rfl)) (RL.ev (v := .int .i64 (u)) rfl rfl ev_move (RL.ev (v := .int .i64 (v)) rfl rfl ev_move ?_)))))))
 refine RL.op rfl rfl (op_call3 Tryz.func137 rfl rfl rfl rfl rfl ((way_calls n _ _ _ ins ls lost _ (hi.1.o.now hN) (hl.1.o.now hN) (ho.1.o.now hN) u v).mono ?_))
 rintro _ w3 ⟨rfl, he_⟩
 replace hN := hN.ext he_
 clear he_
 refine RL.ev (v := .tuple #[.agg #[.int .i64 (((wayOf ls u v).getD (0, 0, 0)).1), .int .i64 (((wayOf ls u v).getD (0, 0, 0)).2.1), .int .i64 (((wayOf ls u v).getD (0, 0, 0)).2.2)], .bool (decide (HasWay ls u v))]) rfl rfl ev_move ?_
 iterate 2 refine RL.ev rfl rfl (ev_extract rfl rfl) ?_
 refine RL.op rfl rfl (opN_alloc (cs := [.int .i64 (0), .int .i64 (0), .int .i64 (0)]) zero96 rfl hN ?_)
 clear hN
 intro g4 w4 (hN : Now w none_ w4 [_, _, _])
 refine RL.op rfl rfl (opN_storeAll (vs := [.int .i64 (((wayOf ls u v).getD (0, 0, 0)).1), .int .i64 (((wayOf ls u v).getD (0, 0, 0)).2.1), .int .i64 (((wayOf ls u v).getD (0, 0, 0)).2.2)]) sz96 rfl rfl rfl (by intro u hu; simp only [List.mem_cons, List.not_mem_nil, or_false] at hu; rcases hu with rfl | rfl | rfl <;> first | rfl) hN 0 rfl rfl ?_)
 clear hN
 intro w5 (hN : Now w none_ w5 [_, _, _])
 refine RL.ev (v := .bool (decide (HasWay ls u v))) rfl rfl ev_assign (RL.nil (thenN ?_))
 iterate 2 refine RW.seq ?_
 refine RW.region (RL.ev rfl rfl (ev_loadAll (cs := [.int .i64 ((n : Int)), iv, lv, ov]) Tryz.underlying194 rfl sz194 rfl (hN.blk 2 rfl)) (RL.ev (v := .int .i64 (u)) rfl rfl ev_move ?_))
 refine RL.op rfl rfl (op_call2 Tryz.func186 rfl rfl rfl rfl ((is_calls n _ _ _ ins ls lost _ (hi.1.o.now hN) (hl.1.o.now hN) (ho.1.o.now hN) u hln).mono ?_))
 rintro _ w6 ⟨rfl, he_⟩
 replace hN := hN.ext he_
 clear he_
 refine RL.ev rfl rfl (ev_notP rfl) (RL.ev (v := .bool (decide (¬ (IsIn n ins u)))) rfl rfl ev_move ?_)
 by_cases hg2_4 : ¬ (IsIn n ins u)
 rw [decide_eq_true hg2_4]
 iterate 4 refine RL.off rfl rfl (by decide) rfl rfl ?_
 refine RL.ev (v := .bool true) rfl rfl (ev_pickT rfl) (RL.ev (v := .bool true) rfl rfl ev_move ?_)
 iterate 3 refine RL.off rfl rfl (by decide) rfl rfl ?_
 refine RL.ev (v := .bool true) rfl rfl (ev_pickT rfl) (RL.ev (v := .bool true) rfl rfl ev_move ?_)
 iterate 2 refine RL.off rfl rfl (by decide) rfl rfl ?_
 refine RL.ev (v := .bool true) rfl rfl (ev_pickT rfl) (RL.ev (v := .bool true) rfl rfl ev_move ?_)
 iterate 2 refine RL.off rfl rfl (by decide) rfl rfl ?_
 refine RL.ev (v := .bool true) rfl rfl (ev_pickT rfl) (RL.ev (v := .bool true) rfl rfl ev_move ?_)
 iterate 2 refine RL.off rfl rfl (by decide) rfl rfl ?_
 iterate 4 refine RL.offU rfl rfl (by decide) rfl rfl ?_
 refine RL.off rfl rfl (by decide) rfl rfl (RL.ev (v := .bool true) rfl rfl (ev_pickT rfl) (RL.nil (thenN (RW.condT rfl (RW.seq (RW.region (RL.ev rfl rfl (ev_loadAll (cs := [.int .i64 ((n : Int)), iv, lv, ov]) Tryz.underlying194 rfl sz194 rfl (hN.blk 2 rfl)) ?_)))))))
 refine RL.op rfl rfl (opN_storeAll (vs := [.int .i64 ((n : Int)), iv, lv, ov]) sz194 rfl rfl rfl (by intro u hu; simp only [List.mem_cons, List.not_mem_nil, or_false] at hu; rcases hu with rfl | rfl | rfl | rfl <;> first | rfl | exact (hi.1.o.now hN).one1 | exact (hl.1.o.now hN).one1 | exact (ho.1.o.now hN).one1) hN 1 rfl rfl ?_)
 clear hN
 intro w7 (hN : Now w none_ w7 [_, _, _])
 refine RL.ev (v := .bool false) rfl rfl ev_assign (RL.nil (thenN (RW.ret (thenR (retI (RV.cellTmp rfl rfl (run_cell (hN.blk 1 rfl) Tryz.underlying194 rfl sz194)) ?_)))))
 have hnp : NoPut n ins ls u v x mid := by first | exact .inl (by assumption) | exact .inr (.inl (by assumption)) | exact .inr (.inr (.inl (by assumption))) | exact .inr (.inr (.inr (.inl (by assumption)))) | exact .inr (.inr (.inr (.inr (.inl (by assumption))))) | exact .inr (.inr (.inr (.inr (.inr ⟨by assumption, by assumption⟩))))
 exact ⟨_, _, rfl, by rw [putT, if_pos hnp]; exact hl.ext hN.ext0, hN.ext0⟩
 rw [decide_eq_false hg2_4]
 refine RL.onEv rfl rfl (by decide) rfl rfl (ev_loadAll (cs := [.int .i64 ((n : Int)), iv, lv, ov]) Tryz.underlying194 rfl sz194 rfl (hN.blk 2 rfl)) (RL.onEv (v := .int .i64 (v)) rfl rfl (by decide) rfl rfl ev_move ?_)
 refine RL.on rfl rfl (by decide) rfl rfl (op_call2 Tryz.func186 rfl rfl rfl rfl ((is_calls n _ _ _ ins ls lost _ (hi.1.o.now hN) (hl.1.o.now hN) (ho.1.o.now hN) v hln).mono ?_))
 rintro _ w8 ⟨rfl, he_⟩
 replace hN := hN.ext he_
 clear he_
 refine RL.onEv rfl rfl (by decide) rfl rfl (ev_notP rfl) (RL.ev (v := .bool (decide (¬ (IsIn n ins v)))) rfl rfl (ev_pickF rfl) (RL.ev (v := .bool (decide (¬ (IsIn n ins v)))) rfl rfl ev_move ?_))
 by_cases hg2_10 : ¬ (IsIn n ins v)
 rw [decide_eq_true hg2_10]
 iterate 3 refine RL.off rfl rfl (by decide) rfl rfl ?_
 refine RL.ev (v := .bool true) rfl rfl (ev_pickT rfl) (RL.ev (v := .bool true) rfl rfl ev_move ?_)
 iterate 2 refine RL.off rfl rfl (by decide) rfl rfl ?_
 refine RL.ev (v := .bool true) rfl rfl (ev_pickT rfl) (RL.ev (v := .bool true) rfl rfl ev_move ?_)
 iterate 2 refine RL.off rfl rfl (by decide) rfl rfl ?_
 refine RL.ev (v := .bool true) rfl rfl (ev_pickT rfl) (RL.ev (v := .bool true) rfl rfl ev_move ?_)
 iterate 2 refine RL.off rfl rfl (by decide) rfl rfl ?_
 iterate 4 refine RL.offU rfl rfl (by decide) rfl rfl ?_
 refine RL.off rfl rfl (by decide) rfl rfl (RL.ev (v := .bool true) rfl rfl (ev_pickT rfl) (RL.nil (thenN (RW.condT rfl (RW.seq (RW.region (RL.ev rfl rfl (ev_loadAll (cs := [.int .i64 ((n : Int)), iv, lv, ov]) Tryz.underlying194 rfl sz194 rfl (hN.blk 2 rfl)) ?_)))))))
 refine RL.op rfl rfl (opN_storeAll (vs := [.int .i64 ((n : Int)), iv, lv, ov]) sz194 rfl rfl rfl (by intro u hu; simp only [List.mem_cons, List.not_mem_nil, or_false] at hu; rcases hu with rfl | rfl | rfl | rfl <;> first | rfl | exact (hi.1.o.now hN).one1 | exact (hl.1.o.now hN).one1 | exact (ho.1.o.now hN).one1) hN 1 rfl rfl ?_)
 clear hN
 intro w9 (hN : Now w none_ w9 [_, _, _])
 refine RL.ev (v := .bool false) rfl rfl ev_assign (RL.nil (thenN (RW.ret (thenR (retI (RV.cellTmp rfl rfl (run_cell (hN.blk 1 rfl) Tryz.underlying194 rfl sz194)) ?_)))))
 have hnp : NoPut n ins ls u v x mid := by first | exact .inl (by assumption) | exact .inr (.inl (by assumption)) | exact .inr (.inr (.inl (by assumption))) | exact .inr (.inr (.inr (.inl (by assumption)))) | exact .inr (.inr (.inr (.inr (.inl (by assumption))))) | exact .inr (.inr (.inr (.inr (.inr ⟨by assumption, by assumption⟩))))
 exact ⟨_, _, rfl, by rw [putT, if_pos hnp]; exact hl.ext hN.ext0, hN.ext0⟩
 rw [decide_eq_false hg2_10]
 refine RL.onEv (v := .int .i64 (u)) rfl rfl (by decide) rfl rfl ev_move (RL.onEv (v := .int .i64 (v)) rfl rfl (by decide) rfl rfl ev_move (RL.onEv rfl rfl (by decide) rfl rfl (ev_eql rfl rfl) (RL.ev (v := .bool (decide (u = v))) rfl rfl (ev_pickF rfl) (RL.ev (v := .bool (decide (u = v))) rfl rfl ev_move ?_))))
 by_cases hg2_15 : u = v
 rw [decide_eq_true hg2_15]
 iterate 2 refine RL.off rfl rfl (by decide) rfl rfl ?_
 refine RL.ev (v := .bool true) rfl rfl (ev_pickT rfl) (RL.ev (v := .bool true) rfl rfl ev_move ?_)
 iterate 2 refine RL.off rfl rfl (by decide) rfl rfl ?_
 refine RL.ev (v := .bool true) rfl rfl (ev_pickT rfl) (RL.ev (v := .bool true) rfl rfl ev_move ?_)
 iterate 2 refine RL.off rfl rfl (by decide) rfl rfl ?_
 iterate 4 refine RL.offU rfl rfl (by decide) rfl rfl ?_
 refine RL.off rfl rfl (by decide) rfl rfl (RL.ev (v := .bool true) rfl rfl (ev_pickT rfl) (RL.nil (thenN (RW.condT rfl (RW.seq (RW.region (RL.ev rfl rfl (ev_loadAll (cs := [.int .i64 ((n : Int)), iv, lv, ov]) Tryz.underlying194 rfl sz194 rfl (hN.blk 2 rfl)) ?_)))))))
 refine RL.op rfl rfl (opN_storeAll (vs := [.int .i64 ((n : Int)), iv, lv, ov]) sz194 rfl rfl rfl (by intro u hu; simp only [List.mem_cons, List.not_mem_nil, or_false] at hu; rcases hu with rfl | rfl | rfl | rfl <;> first | rfl | exact (hi.1.o.now hN).one1 | exact (hl.1.o.now hN).one1 | exact (ho.1.o.now hN).one1) hN 1 rfl rfl ?_)
 clear hN
 intro w10 (hN : Now w none_ w10 [_, _, _])
 refine RL.ev (v := .bool false) rfl rfl ev_assign (RL.nil (thenN (RW.ret (thenR (retI (RV.cellTmp rfl rfl (run_cell (hN.blk 1 rfl) Tryz.underlying194 rfl sz194)) ?_)))))
 have hnp : NoPut n ins ls u v x mid := by first | exact .inl (by assumption) | exact .inr (.inl (by assumption)) | exact .inr (.inr (.inl (by assumption))) | exact .inr (.inr (.inr (.inl (by assumption)))) | exact .inr (.inr (.inr (.inr (.inl (by assumption))))) | exact .inr (.inr (.inr (.inr (.inr ⟨by assumption, by assumption⟩))))
 exact ⟨_, _, rfl, by rw [putT, if_pos hnp]; exact hl.ext hN.ext0, hN.ext0⟩
 rw [decide_eq_false hg2_15]
 refine RL.onEv (v := .int .i64 (x)) rfl rfl (by decide) rfl rfl ev_move (RL.onEv rfl rfl (by decide) rfl rfl (ev_lss rfl rfl) (RL.ev (v := .bool (decide (x < 0))) rfl rfl (ev_pickF rfl) (RL.ev (v := .bool (decide (x < 0))) rfl rfl ev_move ?_)))
 by_cases hg2_19 : x < 0
 rw [decide_eq_true hg2_19]
 iterate 2 refine RL.off rfl rfl (by decide) rfl rfl ?_
 refine RL.ev (v := .bool true) rfl rfl (ev_pickT rfl) (RL.ev (v := .bool true) rfl rfl ev_move ?_)
 iterate 2 refine RL.off rfl rfl (by decide) rfl rfl ?_
 iterate 4 refine RL.offU rfl rfl (by decide) rfl rfl ?_
 refine RL.off rfl rfl (by decide) rfl rfl (RL.ev (v := .bool true) rfl rfl (ev_pickT rfl) (RL.nil (thenN (RW.condT rfl (RW.seq (RW.region (RL.ev rfl rfl (ev_loadAll (cs := [.int .i64 ((n : Int)), iv, lv, ov]) Tryz.underlying194 rfl sz194 rfl (hN.blk 2 rfl)) ?_)))))))
 refine RL.op rfl rfl (opN_storeAll (vs := [.int .i64 ((n : Int)), iv, lv, ov]) sz194 rfl rfl rfl (by intro u hu; simp only [List.mem_cons, List.not_mem_nil, or_false] at hu; rcases hu with rfl | rfl | rfl | rfl <;> first | rfl | exact (hi.1.o.now hN).one1 | exact (hl.1.o.now hN).one1 | exact (ho.1.o.now hN).one1) hN 1 rfl rfl ?_)
 clear hN
 intro w11 (hN : Now w none_ w11 [_, _, _])
 refine RL.ev (v := .bool false) rfl rfl ev_assign (RL.nil (thenN (RW.ret (thenR (retI (RV.cellTmp rfl rfl (run_cell (hN.blk 1 rfl) Tryz.underlying194 rfl sz194)) ?_)))))
 have hnp : NoPut n ins ls u v x mid := by first | exact .inl (by assumption) | exact .inr (.inl (by assumption)) | exact .inr (.inr (.inl (by assumption))) | exact .inr (.inr (.inr (.inl (by assumption)))) | exact .inr (.inr (.inr (.inr (.inl (by assumption))))) | exact .inr (.inr (.inr (.inr (.inr ⟨by assumption, by assumption⟩))))
 exact ⟨_, _, rfl, by rw [putT, if_pos hnp]; exact hl.ext hN.ext0, hN.ext0⟩
 rw [decide_eq_false hg2_19]
 refine RL.onEv (v := .int .i64 (mid)) rfl rfl (by decide) rfl rfl ev_move (RL.onEv rfl rfl (by decide) rfl rfl (ev_lss rfl rfl) (RL.ev (v := .bool (decide (mid < 0))) rfl rfl (ev_pickF rfl) (RL.ev (v := .bool (decide (mid < 0))) rfl rfl ev_move ?_)))
 by_cases hg2_23 : mid < 0
 rw [decide_eq_true hg2_23]
 iterate 2 refine RL.off rfl rfl (by decide) rfl rfl ?_
 iterate 4 refine RL.offU rfl rfl (by decide) rfl rfl ?_
 refine RL.off rfl rfl (by decide) rfl rfl (RL.ev (v := .bool true) rfl rfl (ev_pickT rfl) (RL.nil (thenN (RW.condT rfl (RW.seq (RW.region (RL.ev rfl rfl (ev_loadAll (cs := [.int .i64 ((n : Int)), iv, lv, ov]) Tryz.underlying194 rfl sz194 rfl (hN.blk 2 rfl)) ?_)))))))
 refine RL.op rfl rfl (opN_storeAll (vs := [.int .i64 ((n : Int)), iv, lv, ov]) sz194 rfl rfl rfl (by intro u hu; simp only [List.mem_cons, List.not_mem_nil, or_false] at hu; rcases hu with rfl | rfl | rfl | rfl <;> first | rfl | exact (hi.1.o.now hN).one1 | exact (hl.1.o.now hN).one1 | exact (ho.1.o.now hN).one1) hN 1 rfl rfl ?_)
 clear hN
 intro w12 (hN : Now w none_ w12 [_, _, _])
 refine RL.ev (v := .bool false) rfl rfl ev_assign (RL.nil (thenN (RW.ret (thenR (retI (RV.cellTmp rfl rfl (run_cell (hN.blk 1 rfl) Tryz.underlying194 rfl sz194)) ?_)))))
 have hnp : NoPut n ins ls u v x mid := by first | exact .inl (by assumption) | exact .inr (.inl (by assumption)) | exact .inr (.inr (.inl (by assumption))) | exact .inr (.inr (.inr (.inl (by assumption)))) | exact .inr (.inr (.inr (.inr (.inl (by assumption))))) | exact .inr (.inr (.inr (.inr (.inr ⟨by assumption, by assumption⟩))))
 exact ⟨_, _, rfl, by rw [putT, if_pos hnp]; exact hl.ext hN.ext0, hN.ext0⟩
 rw [decide_eq_false hg2_23]
 iterate 2 refine RL.onEv (v := .bool (decide (HasWay ls u v))) rfl rfl (by decide) rfl rfl ev_move ?_
 by_cases hg2_25 : HasWay ls u v
 rw [decide_eq_true hg2_25]
 refine RL.onEv rfl rfl (by decide) rfl rfl (ev_fieldAddr Tryz.underlying96 rfl sz3 (by decide) rfl) (RL.onEv rfl rfl (by decide) rfl rfl (ev_loadB Tryz.underlying3 rfl rfl (hN.blk 0 rfl) rfl) (RL.onEv (v := .int .i64 (x)) rfl rfl (by decide) rfl rfl ev_move (RL.onEv rfl rfl (by decide) rfl rfl (ev_leq rfl rfl) (RL.onEv (v := .bool (decide (((wayOf ls u v).getD (0, 0, 0)).1 ≤ x))) rfl rfl (by decide) rfl rfl (ev_pickT rfl) (RL.ev (v := .bool (decide (((wayOf ls u v).getD (0, 0, 0)).1 ≤ x))) rfl rfl (ev_pickF rfl) (RL.nil (thenN ?_)))))))
 refine RW.condP _ rfl (fun hc54 => ?_) (fun hc54 => ?_)
 refine RW.seq (RW.region (RL.ev rfl rfl (ev_loadAll (cs := [.int .i64 ((n : Int)), iv, lv, ov]) Tryz.underlying194 rfl sz194 rfl (hN.blk 2 rfl)) ?_))
 refine RL.op rfl rfl (opN_storeAll (vs := [.int .i64 ((n : Int)), iv, lv, ov]) sz194 rfl rfl rfl (by intro u hu; simp only [List.mem_cons, List.not_mem_nil, or_false] at hu; rcases hu with rfl | rfl | rfl | rfl <;> first | rfl | exact (hi.1.o.now hN).one1 | exact (hl.1.o.now hN).one1 | exact (ho.1.o.now hN).one1) hN 1 rfl rfl ?_)
 clear hN
 intro w13 (hN : Now w none_ w13 [_, _, _])
 refine RL.ev (v := .bool false) rfl rfl ev_assign (RL.nil (thenN (RW.ret (thenR (retI (RV.cellTmp rfl rfl (run_cell (hN.blk 1 rfl) Tryz.underlying194 rfl sz194)) ?_)))))
 have hnp : NoPut n ins ls u v x mid := by first | exact .inl (by assumption) | exact .inr (.inl (by assumption)) | exact .inr (.inr (.inl (by assumption))) | exact .inr (.inr (.inr (.inl (by assumption)))) | exact .inr (.inr (.inr (.inr (.inl (by assumption))))) | exact .inr (.inr (.inr (.inr (.inr ⟨by assumption, by assumption⟩))))
 exact ⟨_, _, rfl, by rw [putT, if_pos hnp]; exact hl.ext hN.ext0, hN.ext0⟩
 refine RW.skip (thenN (RW.seq (RW.region (RL.ev (v := .slice none 0 0) rfl rfl ev_assign (RL.nil (thenN ?_))))))
 iterate 2 refine RW.seq ?_
 refine RW.region (RL.ev (v := .int .i64 (0)) rfl rfl ev_assign (RL.nil (thenN (RW.block ?_))))
 replace hN := hN.addNilM i5cells 5 248
 refine RW.loop (fun k R0 w0' => ∃ va : Value, ∃ acc : List I5, ∃ i : Nat, R0 1 = .int .i64 (u) ∧ R0 2 = .int .i64 (v) ∧ R0 3 = .int .i64 (x) ∧ R0 4 = .int .i64 (mid) ∧ R0 5 = .pointer (some ⟨g1, 0, none⟩) ∧ R0 10 = .pointer (some ⟨g2, 0, none⟩) ∧ R0 14 = va ∧ R0 15 = .int .i64 ((i : Int)) ∧ Now w none_ w0' [.ownm i5cells 5 248 (va) (acc), .blk g4 [.int .i64 (((wayOf ls u v).getD (0, 0, 0)).1), .int .i64 (((wayOf ls u v).getD (0, 0, 0)).2.1), .int .i64 (((wayOf ls u v).getD (0, 0, 0)).2.2)] 96, .blk g2 [.int .i64 (0), .slice none 0 0, .slice none 0 0, .slice none 0 0] 194, .blk g1 [.int .i64 ((n : Int)), iv, lv, ov] 194] ∧ (i + k = ls.length) ∧ (acc = (ls.take i).filter (fun y => decide (¬ y.1 = u ∨ ¬ y.2.1 = v))) ∧ (acc.length ≤ i)) (ls.length) ?_ ?_
 exact ⟨.slice none 0 0, [], 0, rfl, rfl, rfl, rfl, rfl, rfl, rfl, rfl, hN, by omega, rfl, Nat.le_refl _⟩
 clear hN
 rintro k R0 w0' ⟨va, acc, i, hr1_, hr2_, hr3_, hr4_, hr5_, hr10_, hr14_, hr15_, hN, hik, ha, hal⟩
 have hR_ : ∃ R0_, R0 = (upd (upd (upd (upd (upd (upd (upd (upd R0_ 1 _) 2 _) 3 _) 4 _) 5 _) 10 _) 14 _) 15 _) := ⟨R0, by rw [upd_self hr1_, upd_self hr2_, upd_self hr3_, upd_self hr4_, upd_self hr5_, upd_self hr10_, upd_self hr14_, upd_self hr15_]⟩
 obtain ⟨R0_, rfl⟩ := hR_
 clear hr1_ hr2_ hr3_ hr4_ hr5_ hr10_ hr14_ hr15_
 iterate 2 refine RW.seq ?_
 refine RW.region (RL.ev (v := .int .i64 ((i : Int))) rfl rfl ev_move (RL.ev rfl rfl (ev_fieldAddr Tryz.underlying194 rfl sz192 (by decide) rfl) (RL.ev rfl rfl (ev_loadB Tryz.underlying192 rfl rfl (hN.blk 3 rfl) rfl) ?_)))
 have hL_15 := (hl.1.o.now hN).len_le
 refine RL.ev rfl rfl (ev_lenM Tryz.underlying192 (hl.1.o.now hN) rfl) (RL.ev rfl rfl (ev_lss rfl rfl) (RL.nil (thenN ?_)))
 refine RW.condP _ rfl (fun hlt => ?_) (fun hlt => ?_)
 refine RW.skip (thenN (RW.seq (RW.block (RW.seq (RW.region (RL.ev rfl rfl (ev_fieldAddr Tryz.underlying194 rfl sz192 (by decide) rfl) (RL.ev rfl rfl (ev_loadB Tryz.underlying192 rfl rfl (hN.blk 3 rfl) rfl) (RL.ev (v := .int .i64 ((i : Int))) rfl rfl ev_move (RL.ev rfl rfl (ev_indexM Tryz.underlying192 sz248 i5cells_len (by decide) (hl.1.o.now hN) rfl rfl (by omega) (by omega)) ?_)))))))))
 have hOb_ : ∃ a_, (ls)[i]? = some a_ := ⟨_, List.getElem?_eq_getElem (by omega)⟩
 obtain ⟨ap, hap⟩ := hOb_
 refine RL.ev rfl rfl (ev_fieldM (m := i) (b := 0) Tryz.underlying248 rfl sz3 (by decide) i5cells_len (hl.1.o.now hN) hap rfl rfl) (RL.ev rfl rfl (ev_loadMF (m := i) (j := 0) (a := ap) Tryz.underlying3 rfl i5cells_len (hl.1.o.now hN) rfl hap rfl) (RL.ev (v := .int .i64 (u)) rfl rfl ev_move (RL.ev rfl rfl (ev_neq rfl rfl) (RL.ev (v := .bool (decide (¬ ap.1 = u))) rfl rfl ev_move ?_))))
 by_cases hg8_8 : ¬ ap.1 = u
 rw [decide_eq_true hg8_8]
 iterate 8 refine RL.off rfl rfl (by decide) rfl rfl ?_
 refine RL.ev (v := .bool true) rfl rfl (ev_pickT rfl) (RL.nil (thenN (RW.condT rfl (RW.region (RL.ev (v := va) rfl rfl ev_move (RL.ev rfl rfl (ev_fieldAddr Tryz.underlying194 rfl sz192 (by decide) rfl) (RL.ev rfl rfl (ev_loadB Tryz.underlying192 rfl rfl (hN.blk 3 rfl) rfl) (RL.ev (v := .int .i64 ((i : Int))) rfl rfl ev_move (RL.ev rfl rfl (ev_indexM Tryz.underlying192 sz248 i5cells_len (by decide) (hl.1.o.now hN) rfl rfl (by omega) (by omega)) ?_)))))))))
 refine RL.ev rfl rfl (ev_loadM (m := i) (a := ap) Tryz.underlying248 rfl sz248 i5cells_len (by decide) (hl.1.o.now hN) rfl hap (cs := [.int .i64 (ap.1), .int .i64 (ap.2.1), .int .i64 (ap.2.2.1), .int .i64 (ap.2.2.2.1), .int .i64 (ap.2.2.2.2)]) rfl) ?_
 refine RL.op rfl rfl (opN_litM (cf := i5cells) (s := 5) (pl := [(0, .tmp 86)]) (ps := [(0, .agg #[.int .i64 (ap.1), .int .i64 (ap.2.1), .int .i64 (ap.2.2.1), .int .i64 (ap.2.2.2.1), .int .i64 (ap.2.2.2.2)])]) (zc := [.int .i64 (0), .int .i64 (0), .int .i64 (0), .int .i64 (0), .int .i64 (0)]) (l := [(ap.1, ap.2.1, ap.2.2.1, ap.2.2.2.1, ap.2.2.2.2)]) Tryz.underlying192 inf248 (by kernel_rfl) rfl rfl (fill_step (vs := [.int .i64 (ap.1), .int .i64 (ap.2.1), .int .i64 (ap.2.2.1), .int .i64 (ap.2.2.2.1), .int .i64 (ap.2.2.2.2)]) rfl rfl (Nat.le_of_ble_eq_true rfl) rfl) i5cells_len rfl (by decide) (by decide) (by decide) hN ?_)
 clear hN
 intro g16 w16 (hN : Now w none_ w16 [_, _, _, _, _])
 refine RL.op rfl rfl (opN_appendM Tryz.underlying192 inf248 rfl (by decide) i5cells_one i5cells_len hN 1 rfl rfl (hN.sm 0 rfl) rfl (by (try simp only [List.length_append, List.length_singleton, List.length_cons, List.length_nil]); omega) (by decide) ?_)
 clear hN
 intro v17 w17 (hN : Now w none_ w17 [_, _, _, _, _])
 refine RL.ev (v := v17) rfl rfl ev_assign (RL.nil (blockN (thenN (RW.region (RL.ev (v := .int .i64 ((i : Int))) rfl rfl ev_move (RL.ev rfl rfl (ev_arith rfl rfl rfl (add64 (by omega) (by omega))) (RL.ev (v := .int .i64 ((i : Int) + 1)) rfl rfl ev_assign (RL.nil (thenN ?_)))))))))
 exact ⟨k - 1, by omega, v17, acc ++ [(ap.1, ap.2.1, ap.2.2.1, ap.2.2.2.1, ap.2.2.2.2)], i + 1, rfl, rfl, rfl, rfl, rfl, rfl, rfl, rfl, (hN.sub [1, 2, 3, 4] (by decide) rfl), by omega, by rw [filter_take_succ hap, if_pos (decide_eq_true (by first | exact .inl (by assumption) | exact .inr (by assumption))), ha], by (try simp only [List.length_append, List.length_singleton]); omega⟩
 rw [decide_eq_false hg8_8]
 refine RL.onEv rfl rfl (by decide) rfl rfl (ev_fieldAddr Tryz.underlying194 rfl sz192 (by decide) rfl) (RL.onEv rfl rfl (by decide) rfl rfl (ev_loadB Tryz.underlying192 rfl rfl (hN.blk 3 rfl) rfl) (RL.onEv (v := .int .i64 ((i : Int))) rfl rfl (by decide) rfl rfl ev_move (RL.onEv rfl rfl (by decide) rfl rfl (ev_indexM Tryz.underlying192 sz248 i5cells_len (by decide) (hl.1.o.now hN) rfl rfl (by omega) (by omega)) (RL.onEv rfl rfl (by decide) rfl rfl (ev_fieldM (m := i) (b := 0) Tryz.underlying248 rfl sz3 (by decide) i5cells_len (hl.1.o.now hN) hap rfl rfl) (RL.onEv rfl rfl (by decide) rfl rfl (ev_loadMF (m := i) (j := 1) (a := ap) Tryz.underlying3 rfl i5cells_len (hl.1.o.now hN) rfl hap rfl) (RL.onEv (v := .int .i64 (v)) rfl rfl (by decide) rfl rfl ev_move (RL.onEv rfl rfl (by decide) rfl rfl (ev_neq rfl rfl) (RL.ev (v := .bool (decide (¬ ap.2.1 = v))) rfl rfl (ev_pickF rfl) (RL.nil ?_)))))))))
 refine thenN ?_
 refine RW.condP _ rfl (fun hc80 => ?_) (fun hc80 => ?_)
 refine RW.region (RL.ev (v := va) rfl rfl ev_move (RL.ev rfl rfl (ev_fieldAddr Tryz.underlying194 rfl sz192 (by decide) rfl) (RL.ev rfl rfl (ev_loadB Tryz.underlying192 rfl rfl (hN.blk 3 rfl) rfl) (RL.ev (v := .int .i64 ((i : Int))) rfl rfl ev_move (RL.ev rfl rfl (ev_indexM Tryz.underlying192 sz248 i5cells_len (by decide) (hl.1.o.now hN) rfl rfl (by omega) (by omega)) (RL.ev rfl rfl (ev_loadM (m := i) (a := ap) Tryz.underlying248 rfl sz248 i5cells_len (by decide) (hl.1.o.now hN) rfl hap (cs := [.int .i64 (ap.1), .int .i64 (ap.2.1), .int .i64 (ap.2.2.1), .int .i64 (ap.2.2.2.1), .int .i64 (ap.2.2.2.2)]) rfl) ?_))))))
 refine RL.op rfl rfl (opN_litM (cf := i5cells) (s := 5) (pl := [(0, .tmp 86)]) (ps := [(0, .agg #[.int .i64 (ap.1), .int .i64 (ap.2.1), .int .i64 (ap.2.2.1), .int .i64 (ap.2.2.2.1), .int .i64 (ap.2.2.2.2)])]) (zc := [.int .i64 (0), .int .i64 (0), .int .i64 (0), .int .i64 (0), .int .i64 (0)]) (l := [(ap.1, ap.2.1, ap.2.2.1, ap.2.2.2.1, ap.2.2.2.2)]) Tryz.underlying192 inf248 (by kernel_rfl) rfl rfl (fill_step (vs := [.int .i64 (ap.1), .int .i64 (ap.2.1), .int .i64 (ap.2.2.1), .int .i64 (ap.2.2.2.1), .int .i64 (ap.2.2.2.2)]) rfl rfl (Nat.le_of_ble_eq_true rfl) rfl) i5cells_len rfl (by decide) (by decide) (by decide) hN ?_)
 clear hN
 intro g18 w18 (hN : Now w none_ w18 [_, _, _, _, _])
 refine RL.op rfl rfl (opN_appendM Tryz.underlying192 inf248 rfl (by decide) i5cells_one i5cells_len hN 1 rfl rfl (hN.sm 0 rfl) rfl (by (try simp only [List.length_append, List.length_singleton, List.length_cons, List.length_nil]); omega) (by decide) ?_)
 clear hN
 intro v19 w19 (hN : Now w none_ w19 [_, _, _, _, _])
 refine RL.ev (v := v19) rfl rfl ev_assign (RL.nil (blockN (thenN (RW.region (RL.ev (v := .int .i64 ((i : Int))) rfl rfl ev_move (RL.ev rfl rfl (ev_arith rfl rfl rfl (add64 (by omega) (by omega))) (RL.ev (v := .int .i64 ((i : Int) + 1)) rfl rfl ev_assign (RL.nil (thenN ?_)))))))))
 exact ⟨k - 1, by omega, v19, acc ++ [(ap.1, ap.2.1, ap.2.2.1, ap.2.2.2.1, ap.2.2.2.2)], i + 1, rfl, rfl, rfl, rfl, rfl, rfl, rfl, rfl, (hN.sub [1, 2, 3, 4] (by decide) rfl), by omega, by rw [filter_take_succ hap, if_pos (decide_eq_true (by first | exact .inl (by assumption) | exact .inr (by assumption))), ha], by (try simp only [List.length_append, List.length_singleton]); omega⟩
 refine RW.skip (blockN (thenN (RW.region (RL.ev (v := .int .i64 ((i : Int))) rfl rfl ev_move (RL.ev rfl rfl (ev_arith rfl rfl rfl (add64 (by omega) (by omega))) (RL.ev (v := .int .i64 ((i : Int) + 1)) rfl rfl ev_assign (RL.nil (thenN ?_))))))))
 exact ⟨k - 1, by omega, va, acc, i + 1, rfl, rfl, rfl, rfl, rfl, rfl, rfl, rfl, hN, by omega, by rw [filter_take_succ hap, if_neg (fun h => (of_decide_eq_true h).elim (fun h => hg8_8 h) (fun h => hc80 h)), List.append_nil]; exact ha, by (try simp only [List.length_append, List.length_singleton]); omega⟩
 refine RW.exit ?_
 iterate 2 refine thenX ?_
 refine blockHit (thenN (RW.seq (RW.region (RL.ev (v := va) rfl rfl ev_move (RL.ev (v := .int .i64 (u)) rfl rfl ev_move (RL.ev (v := .int .i64 (v)) rfl rfl ev_move (RL.ev (v := .int .i64 (x)) rfl rfl ev_move (RL.ev (v := .int .i64 (mid)) rfl rfl ev_move (RL.ev rfl rfl (ev_buildL (cs := [.int .i64 (x), .int .i64 (mid), .int .i64 (-1)]) Tryz.underlying96 zero96 (places := #[(0, 1), (1, 1), (2, 1)]) (by intro w; kernel_rfl) (pl := [(0, .tmp 92), (1, .tmp 93), (2, .const (.int .i64 (-1)))]) rfl (ps := [(0, .int .i64 (x)), (1, .int .i64 (mid)), (2, .int .i64 (-1))]) rfl (zc := [.int .i64 (0), .int .i64 (0), .int .i64 (0)]) rfl (fill_step (vs := [.int .i64 (x)]) rfl rfl (Nat.le_of_ble_eq_true rfl) (fill_step (vs := [.int .i64 (mid)]) rfl rfl (Nat.le_of_ble_eq_true rfl) (fill_step (vs := [.int .i64 (-1)]) rfl rfl (Nat.le_of_ble_eq_true rfl) rfl)))) ?_)))))))))
 refine RL.ev rfl rfl (ev_buildL (cs := [.int .i64 (u), .int .i64 (v), .int .i64 (x), .int .i64 (mid), .int .i64 (-1)]) Tryz.underlying248 zero248 (places := #[(0, 1), (1, 1), (2, 3)]) (by intro w; kernel_rfl) (pl := [(0, .tmp 90), (1, .tmp 91), (2, .tmp 94)]) rfl (ps := [(0, .int .i64 (u)), (1, .int .i64 (v)), (2, .agg #[.int .i64 (x), .int .i64 (mid), .int .i64 (-1)])]) rfl (zc := [.int .i64 (0), .int .i64 (0), .int .i64 (0), .int .i64 (0), .int .i64 (0)]) rfl (fill_step (vs := [.int .i64 (u)]) rfl rfl (Nat.le_of_ble_eq_true rfl) (fill_step (vs := [.int .i64 (v)]) rfl rfl (Nat.le_of_ble_eq_true rfl) (fill_step (vs := [.int .i64 (x), .int .i64 (mid), .int .i64 (-1)]) rfl rfl (Nat.le_of_ble_eq_true rfl) rfl)))) ?_
 refine RL.op rfl rfl (opN_litM (cf := i5cells) (s := 5) (pl := [(0, .tmp 95)]) (ps := [(0, .agg #[.int .i64 (u), .int .i64 (v), .int .i64 (x), .int .i64 (mid), .int .i64 (-1)])]) (zc := [.int .i64 (0), .int .i64 (0), .int .i64 (0), .int .i64 (0), .int .i64 (0)]) (l := [(u, v, x, mid, -1)]) Tryz.underlying192 inf248 (by kernel_rfl) rfl rfl (fill_step (vs := [.int .i64 (u), .int .i64 (v), .int .i64 (x), .int .i64 (mid), .int .i64 (-1)]) rfl rfl (Nat.le_of_ble_eq_true rfl) rfl) i5cells_len rfl (by decide) (by decide) (by decide) hN ?_)
 clear hN
 intro g20 w20 (hN : Now w none_ w20 [_, _, _, _, _])
 refine RL.op rfl rfl (opN_appendM Tryz.underlying192 inf248 rfl (by decide) i5cells_one i5cells_len hN 1 rfl rfl (hN.sm 0 rfl) rfl (by (try simp only [List.length_append, List.length_singleton, List.length_cons, List.length_nil]); omega) (by decide) ?_)
 clear hN
 intro v21 w21 (hN : Now w none_ w21 [_, _, _, _, _])
 refine RL.ev (v := v21) rfl rfl ev_assign (RL.nil (thenN (RW.seq (RW.region (RL.ev (v := v21) rfl rfl ev_move (RL.ev rfl rfl (ev_fieldAddr Tryz.underlying194 rfl sz192 (by decide) rfl) ?_))))))
 refine RL.op rfl rfl (opN_store sz192 rfl rfl (hN.sm 1 rfl).cells1 (hN.sm 1 rfl).one1 hN 4 rfl (Nat.le_of_ble_eq_true rfl) ?_)
 clear hN
 intro w22 (hN : Now w none_ w22 [_, _, _, _, _])
 refine RL.nil (thenN (RW.seq (RW.region (RL.ev rfl rfl (ev_loadAll (cs := [.int .i64 ((n : Int)), iv, v21, ov]) Tryz.underlying194 rfl sz194 rfl (hN.blk 4 rfl)) ?_))))
 refine RL.op rfl rfl (opN_storeAll (vs := [.int .i64 ((n : Int)), iv, v21, ov]) sz194 rfl rfl rfl (by intro u hu; simp only [List.mem_cons, List.not_mem_nil, or_false] at hu; rcases hu with rfl | rfl | rfl | rfl <;> first | rfl | exact (hN.sm 1 rfl).one1 | exact (hi.1.o.now hN).one1 | exact (ho.1.o.now hN).one1) hN 3 rfl rfl ?_)
 clear hN
 intro w23 (hN : Now w none_ w23 [_, _, _, _, _])
 refine RL.ev (v := .bool true) rfl rfl ev_assign (RL.nil (thenN (RW.ret (retI (RV.cellTmp rfl rfl (run_cell (hN.blk 3 rfl) Tryz.underlying194 rfl sz194)) ?_))))
 have hi_ : i = ls.length := by omega
 rw [hi_, List.take_length] at ha
 have hnp : ¬ NoPut n ins ls u v x mid := by rintro (h | h | h | h | h | ⟨h, h2⟩) <;> first | contradiction | omega
 have hq_ : acc ++ [(u, v, x, mid, -1)] = putT n ins ls u v x mid := by rw [putT, if_neg hnp, ha]; rfl
 exact ⟨_, _, rfl, OwnM.smoF (hq_ ▸ hN.ownmOut 1 rfl) hF, hN.ext0⟩
 rw [decide_eq_false hg2_25]
 iterate 4 refine RL.off rfl rfl (by decide) rfl rfl ?_
 refine RL.onEv (v := .bool false) rfl rfl (by decide) rfl rfl (ev_pickF rfl) (RL.ev (v := .bool false) rfl rfl (ev_pickF rfl) (RL.nil (thenN (RW.condF rfl (RW.skip (thenN (RW.seq (RW.region (RL.ev (v := .slice none 0 0) rfl rfl ev_assign ?_)))))))))
 refine RL.nil (thenN ?_)
 iterate 2 refine RW.seq ?_
 refine RW.region (RL.ev (v := .int .i64 (0)) rfl rfl ev_assign (RL.nil (thenN (RW.block ?_))))
 replace hN := hN.addNilM i5cells 5 248
 refine RW.loop (fun k R0 w0' => ∃ va : Value, ∃ acc : List I5, ∃ i : Nat, R0 1 = .int .i64 (u) ∧ R0 2 = .int .i64 (v) ∧ R0 3 = .int .i64 (x) ∧ R0 4 = .int .i64 (mid) ∧ R0 5 = .pointer (some ⟨g1, 0, none⟩) ∧ R0 10 = .pointer (some ⟨g2, 0, none⟩) ∧ R0 14 = va ∧ R0 15 = .int .i64 ((i : Int)) ∧ Now w none_ w0' [.ownm i5cells 5 248 (va) (acc), .blk g4 [.int .i64 (((wayOf ls u v).getD (0, 0, 0)).1), .int .i64 (((wayOf ls u v).getD (0, 0, 0)).2.1), .int .i64 (((wayOf ls u v).getD (0, 0, 0)).2.2)] 96, .blk g2 [.int .i64 (0), .slice none 0 0, .slice none 0 0, .slice none 0 0] 194, .blk g1 [.int .i64 ((n : Int)), iv, lv, ov] 194] ∧ (i + k = ls.length) ∧ (acc = (ls.take i).filter (fun y => decide (¬ y.1 = u ∨ ¬ y.2.1 = v))) ∧ (acc.length ≤ i)) (ls.length) ?_ ?_
 exact ⟨.slice none 0 0, [], 0, rfl, rfl, rfl, rfl, rfl, rfl, rfl, rfl, hN, by omega, rfl, Nat.le_refl _⟩
 clear hN
 rintro k R0 w0' ⟨va, acc, i, hr1_, hr2_, hr3_, hr4_, hr5_, hr10_, hr14_, hr15_, hN, hik, ha, hal⟩
 have hR_ : ∃ R0_, R0 = (upd (upd (upd (upd (upd (upd (upd (upd R0_ 1 _) 2 _) 3 _) 4 _) 5 _) 10 _) 14 _) 15 _) := ⟨R0, by rw [upd_self hr1_, upd_self hr2_, upd_self hr3_, upd_self hr4_, upd_self hr5_, upd_self hr10_, upd_self hr14_, upd_self hr15_]⟩
 obtain ⟨R0_, rfl⟩ := hR_
 clear hr1_ hr2_ hr3_ hr4_ hr5_ hr10_ hr14_ hr15_
 iterate 2 refine RW.seq ?_
 refine RW.region (RL.ev (v := .int .i64 ((i : Int))) rfl rfl ev_move (RL.ev rfl rfl (ev_fieldAddr Tryz.underlying194 rfl sz192 (by decide) rfl) (RL.ev rfl rfl (ev_loadB Tryz.underlying192 rfl rfl (hN.blk 3 rfl) rfl) ?_)))
 have hL_25 := (hl.1.o.now hN).len_le
 refine RL.ev rfl rfl (ev_lenM Tryz.underlying192 (hl.1.o.now hN) rfl) (RL.ev rfl rfl (ev_lss rfl rfl) (RL.nil (thenN ?_)))
 refine RW.condP _ rfl (fun hlt => ?_) (fun hlt => ?_)
 refine RW.skip (thenN (RW.seq (RW.block (RW.seq (RW.region (RL.ev rfl rfl (ev_fieldAddr Tryz.underlying194 rfl sz192 (by decide) rfl) (RL.ev rfl rfl (ev_loadB Tryz.underlying192 rfl rfl (hN.blk 3 rfl) rfl) (RL.ev (v := .int .i64 ((i : Int))) rfl rfl ev_move (RL.ev rfl rfl (ev_indexM Tryz.underlying192 sz248 i5cells_len (by decide) (hl.1.o.now hN) rfl rfl (by omega) (by omega)) ?_)))))))))
 have hOb_ : ∃ a_, (ls)[i]? = some a_ := ⟨_, List.getElem?_eq_getElem (by omega)⟩
 obtain ⟨ap, hap⟩ := hOb_
 refine RL.ev rfl rfl (ev_fieldM (m := i) (b := 0) Tryz.underlying248 rfl sz3 (by decide) i5cells_len (hl.1.o.now hN) hap rfl rfl) (RL.ev rfl rfl (ev_loadMF (m := i) (j := 0) (a := ap) Tryz.underlying3 rfl i5cells_len (hl.1.o.now hN) rfl hap rfl) (RL.ev (v := .int .i64 (u)) rfl rfl ev_move (RL.ev rfl rfl (ev_neq rfl rfl) (RL.ev (v := .bool (decide (¬ ap.1 = u))) rfl rfl ev_move ?_))))
 by_cases hg8_8 : ¬ ap.1 = u
 rw [decide_eq_true hg8_8]
 iterate 8 refine RL.off rfl rfl (by decide) rfl rfl ?_
 refine RL.ev (v := .bool true) rfl rfl (ev_pickT rfl) (RL.nil (thenN (RW.condT rfl (RW.region (RL.ev (v := va) rfl rfl ev_move (RL.ev rfl rfl (ev_fieldAddr Tryz.underlying194 rfl sz192 (by decide) rfl) (RL.ev rfl rfl (ev_loadB Tryz.underlying192 rfl rfl (hN.blk 3 rfl) rfl) (RL.ev (v := .int .i64 ((i : Int))) rfl rfl ev_move (RL.ev rfl rfl (ev_indexM Tryz.underlying192 sz248 i5cells_len (by decide) (hl.1.o.now hN) rfl rfl (by omega) (by omega)) ?_)))))))))
 refine RL.ev rfl rfl (ev_loadM (m := i) (a := ap) Tryz.underlying248 rfl sz248 i5cells_len (by decide) (hl.1.o.now hN) rfl hap (cs := [.int .i64 (ap.1), .int .i64 (ap.2.1), .int .i64 (ap.2.2.1), .int .i64 (ap.2.2.2.1), .int .i64 (ap.2.2.2.2)]) rfl) ?_
 refine RL.op rfl rfl (opN_litM (cf := i5cells) (s := 5) (pl := [(0, .tmp 86)]) (ps := [(0, .agg #[.int .i64 (ap.1), .int .i64 (ap.2.1), .int .i64 (ap.2.2.1), .int .i64 (ap.2.2.2.1), .int .i64 (ap.2.2.2.2)])]) (zc := [.int .i64 (0), .int .i64 (0), .int .i64 (0), .int .i64 (0), .int .i64 (0)]) (l := [(ap.1, ap.2.1, ap.2.2.1, ap.2.2.2.1, ap.2.2.2.2)]) Tryz.underlying192 inf248 (by kernel_rfl) rfl rfl (fill_step (vs := [.int .i64 (ap.1), .int .i64 (ap.2.1), .int .i64 (ap.2.2.1), .int .i64 (ap.2.2.2.1), .int .i64 (ap.2.2.2.2)]) rfl rfl (Nat.le_of_ble_eq_true rfl) rfl) i5cells_len rfl (by decide) (by decide) (by decide) hN ?_)
 clear hN
 intro g26 w26 (hN : Now w none_ w26 [_, _, _, _, _])
 refine RL.op rfl rfl (opN_appendM Tryz.underlying192 inf248 rfl (by decide) i5cells_one i5cells_len hN 1 rfl rfl (hN.sm 0 rfl) rfl (by (try simp only [List.length_append, List.length_singleton, List.length_cons, List.length_nil]); omega) (by decide) ?_)
 clear hN
 intro v27 w27 (hN : Now w none_ w27 [_, _, _, _, _])
 refine RL.ev (v := v27) rfl rfl ev_assign (RL.nil (blockN (thenN (RW.region (RL.ev (v := .int .i64 ((i : Int))) rfl rfl ev_move (RL.ev rfl rfl (ev_arith rfl rfl rfl (add64 (by omega) (by omega))) (RL.ev (v := .int .i64 ((i : Int) + 1)) rfl rfl ev_assign (RL.nil (thenN ?_)))))))))
 exact ⟨k - 1, by omega, v27, acc ++ [(ap.1, ap.2.1, ap.2.2.1, ap.2.2.2.1, ap.2.2.2.2)], i + 1, rfl, rfl, rfl, rfl, rfl, rfl, rfl, rfl, (hN.sub [1, 2, 3, 4] (by decide) rfl), by omega, by rw [filter_take_succ hap, if_pos (decide_eq_true (by first | exact .inl (by assumption) | exact .inr (by assumption))), ha], by (try simp only [List.length_append, List.length_singleton]); omega⟩
 rw [decide_eq_false hg8_8]
 refine RL.onEv rfl rfl (by decide) rfl rfl (ev_fieldAddr Tryz.underlying194 rfl sz192 (by decide) rfl) (RL.onEv rfl rfl (by decide) rfl rfl (ev_loadB Tryz.underlying192 rfl rfl (hN.blk 3 rfl) rfl) (RL.onEv (v := .int .i64 ((i : Int))) rfl rfl (by decide) rfl rfl ev_move (RL.onEv rfl rfl (by decide) rfl rfl (ev_indexM Tryz.underlying192 sz248 i5cells_len (by decide) (hl.1.o.now hN) rfl rfl (by omega) (by omega)) (RL.onEv rfl rfl (by decide) rfl rfl (ev_fieldM (m := i) (b := 0) Tryz.underlying248 rfl sz3 (by decide) i5cells_len (hl.1.o.now hN) hap rfl rfl) (RL.onEv rfl rfl (by decide) rfl rfl (ev_loadMF (m := i) (j := 1) (a := ap) Tryz.underlying3 rfl i5cells_len (hl.1.o.now hN) rfl hap rfl) (RL.onEv (v := .int .i64 (v)) rfl rfl (by decide) rfl rfl ev_move (RL.onEv rfl rfl (by decide) rfl rfl (ev_neq rfl rfl) (RL.ev (v := .bool (decide (¬ ap.2.1 = v))) rfl rfl (ev_pickF rfl) (RL.nil ?_)))))))))
 refine thenN ?_
 refine RW.condP _ rfl (fun hc80 => ?_) (fun hc80 => ?_)
 refine RW.region (RL.ev (v := va) rfl rfl ev_move (RL.ev rfl rfl (ev_fieldAddr Tryz.underlying194 rfl sz192 (by decide) rfl) (RL.ev rfl rfl (ev_loadB Tryz.underlying192 rfl rfl (hN.blk 3 rfl) rfl) (RL.ev (v := .int .i64 ((i : Int))) rfl rfl ev_move (RL.ev rfl rfl (ev_indexM Tryz.underlying192 sz248 i5cells_len (by decide) (hl.1.o.now hN) rfl rfl (by omega) (by omega)) (RL.ev rfl rfl (ev_loadM (m := i) (a := ap) Tryz.underlying248 rfl sz248 i5cells_len (by decide) (hl.1.o.now hN) rfl hap (cs := [.int .i64 (ap.1), .int .i64 (ap.2.1), .int .i64 (ap.2.2.1), .int .i64 (ap.2.2.2.1), .int .i64 (ap.2.2.2.2)]) rfl) ?_))))))
 refine RL.op rfl rfl (opN_litM (cf := i5cells) (s := 5) (pl := [(0, .tmp 86)]) (ps := [(0, .agg #[.int .i64 (ap.1), .int .i64 (ap.2.1), .int .i64 (ap.2.2.1), .int .i64 (ap.2.2.2.1), .int .i64 (ap.2.2.2.2)])]) (zc := [.int .i64 (0), .int .i64 (0), .int .i64 (0), .int .i64 (0), .int .i64 (0)]) (l := [(ap.1, ap.2.1, ap.2.2.1, ap.2.2.2.1, ap.2.2.2.2)]) Tryz.underlying192 inf248 (by kernel_rfl) rfl rfl (fill_step (vs := [.int .i64 (ap.1), .int .i64 (ap.2.1), .int .i64 (ap.2.2.1), .int .i64 (ap.2.2.2.1), .int .i64 (ap.2.2.2.2)]) rfl rfl (Nat.le_of_ble_eq_true rfl) rfl) i5cells_len rfl (by decide) (by decide) (by decide) hN ?_)
 clear hN
 intro g28 w28 (hN : Now w none_ w28 [_, _, _, _, _])
 refine RL.op rfl rfl (opN_appendM Tryz.underlying192 inf248 rfl (by decide) i5cells_one i5cells_len hN 1 rfl rfl (hN.sm 0 rfl) rfl (by (try simp only [List.length_append, List.length_singleton, List.length_cons, List.length_nil]); omega) (by decide) ?_)
 clear hN
 intro v29 w29 (hN : Now w none_ w29 [_, _, _, _, _])
 refine RL.ev (v := v29) rfl rfl ev_assign (RL.nil (blockN (thenN (RW.region (RL.ev (v := .int .i64 ((i : Int))) rfl rfl ev_move (RL.ev rfl rfl (ev_arith rfl rfl rfl (add64 (by omega) (by omega))) (RL.ev (v := .int .i64 ((i : Int) + 1)) rfl rfl ev_assign (RL.nil (thenN ?_)))))))))
 exact ⟨k - 1, by omega, v29, acc ++ [(ap.1, ap.2.1, ap.2.2.1, ap.2.2.2.1, ap.2.2.2.2)], i + 1, rfl, rfl, rfl, rfl, rfl, rfl, rfl, rfl, (hN.sub [1, 2, 3, 4] (by decide) rfl), by omega, by rw [filter_take_succ hap, if_pos (decide_eq_true (by first | exact .inl (by assumption) | exact .inr (by assumption))), ha], by (try simp only [List.length_append, List.length_singleton]); omega⟩
 refine RW.skip (blockN (thenN (RW.region (RL.ev (v := .int .i64 ((i : Int))) rfl rfl ev_move (RL.ev rfl rfl (ev_arith rfl rfl rfl (add64 (by omega) (by omega))) (RL.ev (v := .int .i64 ((i : Int) + 1)) rfl rfl ev_assign (RL.nil (thenN ?_))))))))
 exact ⟨k - 1, by omega, va, acc, i + 1, rfl, rfl, rfl, rfl, rfl, rfl, rfl, rfl, hN, by omega, by rw [filter_take_succ hap, if_neg (fun h => (of_decide_eq_true h).elim (fun h => hg8_8 h) (fun h => hc80 h)), List.append_nil]; exact ha, by (try simp only [List.length_append, List.length_singleton]); omega⟩
 refine RW.exit ?_
 iterate 2 refine thenX ?_
 refine blockHit (thenN (RW.seq (RW.region (RL.ev (v := va) rfl rfl ev_move (RL.ev (v := .int .i64 (u)) rfl rfl ev_move (RL.ev (v := .int .i64 (v)) rfl rfl ev_move (RL.ev (v := .int .i64 (x)) rfl rfl ev_move (RL.ev (v := .int .i64 (mid)) rfl rfl ev_move (RL.ev rfl rfl (ev_buildL (cs := [.int .i64 (x), .int .i64 (mid), .int .i64 (-1)]) Tryz.underlying96 zero96 (places := #[(0, 1), (1, 1), (2, 1)]) (by intro w; kernel_rfl) (pl := [(0, .tmp 92), (1, .tmp 93), (2, .const (.int .i64 (-1)))]) rfl (ps := [(0, .int .i64 (x)), (1, .int .i64 (mid)), (2, .int .i64 (-1))]) rfl (zc := [.int .i64 (0), .int .i64 (0), .int .i64 (0)]) rfl (fill_step (vs := [.int .i64 (x)]) rfl rfl (Nat.le_of_ble_eq_true rfl) (fill_step (vs := [.int .i64 (mid)]) rfl rfl (Nat.le_of_ble_eq_true rfl) (fill_step (vs := [.int .i64 (-1)]) rfl rfl (Nat.le_of_ble_eq_true rfl) rfl)))) ?_)))))))))
 refine RL.ev rfl rfl (ev_buildL (cs := [.int .i64 (u), .int .i64 (v), .int .i64 (x), .int .i64 (mid), .int .i64 (-1)]) Tryz.underlying248 zero248 (places := #[(0, 1), (1, 1), (2, 3)]) (by intro w; kernel_rfl) (pl := [(0, .tmp 90), (1, .tmp 91), (2, .tmp 94)]) rfl (ps := [(0, .int .i64 (u)), (1, .int .i64 (v)), (2, .agg #[.int .i64 (x), .int .i64 (mid), .int .i64 (-1)])]) rfl (zc := [.int .i64 (0), .int .i64 (0), .int .i64 (0), .int .i64 (0), .int .i64 (0)]) rfl (fill_step (vs := [.int .i64 (u)]) rfl rfl (Nat.le_of_ble_eq_true rfl) (fill_step (vs := [.int .i64 (v)]) rfl rfl (Nat.le_of_ble_eq_true rfl) (fill_step (vs := [.int .i64 (x), .int .i64 (mid), .int .i64 (-1)]) rfl rfl (Nat.le_of_ble_eq_true rfl) rfl)))) ?_
 refine RL.op rfl rfl (opN_litM (cf := i5cells) (s := 5) (pl := [(0, .tmp 95)]) (ps := [(0, .agg #[.int .i64 (u), .int .i64 (v), .int .i64 (x), .int .i64 (mid), .int .i64 (-1)])]) (zc := [.int .i64 (0), .int .i64 (0), .int .i64 (0), .int .i64 (0), .int .i64 (0)]) (l := [(u, v, x, mid, -1)]) Tryz.underlying192 inf248 (by kernel_rfl) rfl rfl (fill_step (vs := [.int .i64 (u), .int .i64 (v), .int .i64 (x), .int .i64 (mid), .int .i64 (-1)]) rfl rfl (Nat.le_of_ble_eq_true rfl) rfl) i5cells_len rfl (by decide) (by decide) (by decide) hN ?_)
 clear hN
 intro g30 w30 (hN : Now w none_ w30 [_, _, _, _, _])
 refine RL.op rfl rfl (opN_appendM Tryz.underlying192 inf248 rfl (by decide) i5cells_one i5cells_len hN 1 rfl rfl (hN.sm 0 rfl) rfl (by (try simp only [List.length_append, List.length_singleton, List.length_cons, List.length_nil]); omega) (by decide) ?_)
 clear hN
 intro v31 w31 (hN : Now w none_ w31 [_, _, _, _, _])
 refine RL.ev (v := v31) rfl rfl ev_assign (RL.nil (thenN (RW.seq (RW.region (RL.ev (v := v31) rfl rfl ev_move (RL.ev rfl rfl (ev_fieldAddr Tryz.underlying194 rfl sz192 (by decide) rfl) ?_))))))
 refine RL.op rfl rfl (opN_store sz192 rfl rfl (hN.sm 1 rfl).cells1 (hN.sm 1 rfl).one1 hN 4 rfl (Nat.le_of_ble_eq_true rfl) ?_)
 clear hN
 intro w32 (hN : Now w none_ w32 [_, _, _, _, _])
 refine RL.nil (thenN (RW.seq (RW.region (RL.ev rfl rfl (ev_loadAll (cs := [.int .i64 ((n : Int)), iv, v31, ov]) Tryz.underlying194 rfl sz194 rfl (hN.blk 4 rfl)) ?_))))
 refine RL.op rfl rfl (opN_storeAll (vs := [.int .i64 ((n : Int)), iv, v31, ov]) sz194 rfl rfl rfl (by intro u hu; simp only [List.mem_cons, List.not_mem_nil, or_false] at hu; rcases hu with rfl | rfl | rfl | rfl <;> first | rfl | exact (hN.sm 1 rfl).one1 | exact (hi.1.o.now hN).one1 | exact (ho.1.o.now hN).one1) hN 3 rfl rfl ?_)
 clear hN
 intro w33 (hN : Now w none_ w33 [_, _, _, _, _])
 refine RL.ev (v := .bool true) rfl rfl ev_assign (RL.nil (thenN (RW.ret (retI (RV.cellTmp rfl rfl (run_cell (hN.blk 3 rfl) Tryz.underlying194 rfl sz194)) ?_))))
 have hi_ : i = ls.length := by omega
 rw [hi_, List.take_length] at ha
 have hnp : ¬ NoPut n ins ls u v x mid := by rintro (h | h | h | h | h | ⟨h, h2⟩) <;> first | contradiction | omega
 have hq_ : acc ++ [(u, v, x, mid, -1)] = putT n ins ls u v x mid := by rw [putT, if_neg hnp, ha]; rfl
 exact ⟨_, _, rfl, OwnM.smoF (hq_ ▸ hN.ownmOut 1 rfl) hF, hN.ext0⟩
end Go.Proofs.YtngkdkbpgoddlaaGreat
set_option linter.unusedVariables false
set_option linter.unusedSimpArgs false
namespace Go.Proofs.YtngkdkbpgoddlaaGreat
open Go.RowKit Go.Rl
open Go.Gr
set_option maxHeartbeats 4000000 in
set_option maxRecDepth 100000 in
theorem takeG_calls {w : World} (F : Nat → Prop) (hF : ∀ k, F k → k < w.heap.size) (n : Nat) (iv lv ov : Value) (ins : List Int) (ls : List I5) (lost : List Int) (v : Int) (hi : SlO F vI w iv ins) (hl : SmO F i5cells w lv ls) (ho : SlO F vI w ov lost) (hin : IsIn n ins v) (hln : ins.length = n) (hlo : lost.length = n) (hlen : ls.length ≤ 67108864) (hn : n ≤ 4096) : Gives Tryz.prog 139 #[.agg #[.int .i64 (n : Int), iv, lv, ov], .int .i64 v] w fun r w' => ∃ iv' lv' ov' lost' b, r = .tuple #[.agg #[.int .i64 (n : Int), iv', lv', ov'], .bool b] ∧ SlO F vI w' iv' (ins.set v.toNat 0) ∧ SmO F i5cells w' lv' (takeT ls v) ∧ SlO F vI w' ov' lost' ∧ lost'.length = n ∧ Ext w w' := by
 refine Gives.start Tryz.func139 rfl (Nat.le_of_ble_eq_true rfl) ?_
 rw [args2]
 have hN := Now.nil w none_
 have hv0 := hin.1
 have hv1 := hin.2.1
 refine RW.seq (RW.region ?_)
 refine RL.op rfl rfl (opN_box (cs := [.int .i64 ((n : Int)), iv, lv, ov]) rfl rfl hN ?_)
 clear hN
 intro g1 w1 (hN : Now w none_ w1 [_])
 refine RL.op rfl rfl (opN_alloc (cs := [.int .i64 (0), .slice none 0 0, .slice none 0 0, .slice none 0 0]) zero194 rfl hN ?_)
 clear hN
 intro g2 w2 (hN : Now w none_ w2 [_, _])
 refine RL.ev (v := .bool false) rfl rfl ev_assign (RL.nil (thenN ?_))
 iterate 2 refine RW.seq ?_
 refine RW.region (RL.ev rfl rfl (ev_loadAll (cs := [.int .i64 ((n : Int)), iv, lv, ov]) Tryz.underlying194 rfl sz194 rfl (hN.blk 1 rfl)) (RL.ev (v := .int .i64 (v)) rfl rfl ev_move ?_))
 refine RL.op rfl rfl (op_call2 Tryz.func186 rfl rfl rfl rfl ((is_true n _ _ _ ins ls lost _ (hi.1.o.now hN) (hl.1.o.now hN) (ho.1.o.now hN) v ⟨hin, hln⟩).mono ?_))
 rintro _ w3 ⟨rfl, he_⟩
 replace hN := hN.ext he_
 clear he_
 refine RL.ev rfl rfl (ev_not rfl) (RL.nil (thenN (RW.condF rfl (RW.skip (thenN (RW.seq (RW.region (RL.ev rfl rfl (ev_fieldAddr Tryz.underlying194 rfl sz3 (by decide) rfl) (RL.ev rfl rfl (ev_loadB Tryz.underlying3 rfl rfl (hN.blk 1 rfl) rfl) ?_)))))))))
 refine RL.ev rfl rfl (ev_buildL (cs := [.int .i64 ((n : Int)), .slice none 0 0, .slice none 0 0, .slice none 0 0]) Tryz.underlying194 zero194 (places := #[(0, 1), (1, 1), (2, 1), (3, 1)]) (by intro w; kernel_rfl) (pl := [(0, .tmp 21)]) rfl (ps := [(0, .int .i64 ((n : Int)))]) rfl (zc := [.int .i64 (0), .slice none 0 0, .slice none 0 0, .slice none 0 0]) rfl (fill_step (vs := [.int .i64 ((n : Int))]) rfl rfl (Nat.le_of_ble_eq_true rfl) rfl)) ?_
 refine RL.op rfl rfl (opN_alloc (cs := [.int .i64 (0), .slice none 0 0, .slice none 0 0, .slice none 0 0]) zero194 rfl hN ?_)
 clear hN
 intro g4 w4 (hN : Now w none_ w4 [_, _, _])
 refine RL.op rfl rfl (opN_storeAll (vs := [.int .i64 ((n : Int)), .slice none 0 0, .slice none 0 0, .slice none 0 0]) sz194 rfl rfl rfl (by intro u hu; simp only [List.mem_cons, List.not_mem_nil, or_false] at hu; rcases hu with rfl | rfl | rfl | rfl <;> first | rfl) hN 0 rfl rfl ?_)
 clear hN
 intro w5 (hN : Now w none_ w5 [_, _, _])
 refine RL.nil (thenN ?_)
 iterate 2 refine RW.seq ?_
 replace hN := hN.addNilM i5cells 5 248
 replace hN := hN.addNil vI 3
 replace hN := hN.addNil vI 3
 replace hN : Now w none_ w5 [.own vI 3 (.slice none 0 0) ([]), .own vI 3 (.slice none 0 0) ([]), .ownm i5cells 5 248 (.slice none 0 0) ([]), .blk g4 [.int .i64 ((n : Int)), .slice none 0 0, .slice none 0 0, .slice none 0 0] 194, .blk g2 [.int .i64 (0), .slice none 0 0, .slice none 0 0, .slice none 0 0] 194, .blk g1 [.int .i64 ((n : Int)), iv, lv, ov] 194] := hN
 refine RW.region (RL.ev (v := .int .i64 (0)) rfl rfl ev_assign (RL.nil (thenN (RW.block ?_))))
 refine RW.loop (fun k R0 w0' => ∃ v1 : Value, ∃ a1 : List Int, ∃ v2 : Value, ∃ a2 : List Int, ∃ i : Nat, R0 1 = .int .i64 (v) ∧ R0 2 = .pointer (some ⟨g1, 0, none⟩) ∧ R0 4 = .pointer (some ⟨g2, 0, none⟩) ∧ R0 6 = .pointer (some ⟨g4, 0, none⟩) ∧ R0 7 = .int .i64 ((i : Int)) ∧ Now w none_ w0' [.own vI 3 (v1) (a1), .own vI 3 (v2) (a2), .ownm i5cells 5 248 (.slice none 0 0) ([]), .blk g4 [.int .i64 ((n : Int)), v1, .slice none 0 0, v2] 194, .blk g2 [.int .i64 (0), .slice none 0 0, .slice none 0 0, .slice none 0 0] 194, .blk g1 [.int .i64 ((n : Int)), iv, lv, ov] 194] ∧ (i + k = n) ∧ (a1 = (ins.set v.toNat 0).take i) ∧ (a1.length = i) ∧ (a2.length = i)) (n) ?_ ?_
 exact ⟨.slice none 0 0, [], .slice none 0 0, [], 0, rfl, rfl, rfl, rfl, rfl, hN, by omega, rfl, rfl, rfl⟩
 clear hN
 rintro k R0 w0' ⟨v1, a1, v2, a2, i, hr1_, hr2_, hr4_, hr6_, hr7_, hN, hik, h1, h1l, h2l⟩
 have hR_ : ∃ R0_, R0 = (upd (upd (upd (upd (upd R0_ 1 _) 2 _) 4 _) 6 _) 7 _) := ⟨R0, by rw [upd_self hr1_, upd_self hr2_, upd_self hr4_, upd_self hr6_, upd_self hr7_]⟩
 obtain ⟨R0_, rfl⟩ := hR_
 clear hr1_ hr2_ hr4_ hr6_ hr7_
 iterate 2 refine RW.seq ?_
 refine RW.region (RL.ev (v := .int .i64 ((i : Int))) rfl rfl ev_move (RL.ev rfl rfl (ev_fieldAddr Tryz.underlying194 rfl sz3 (by decide) rfl) (RL.ev rfl rfl (ev_loadB Tryz.underlying3 rfl rfl (hN.blk 5 rfl) rfl) (RL.ev rfl rfl (ev_lss rfl rfl) (RL.nil (thenN ?_))))))
 refine RW.condP _ rfl (fun hlt => ?_) (fun hlt => ?_)
 refine RW.skip (thenN (RW.seq (RW.block (RW.seq (RW.region (RL.ev rfl rfl (ev_fieldAddr Tryz.underlying194 rfl sz25 (by decide) rfl) (RL.ev rfl rfl (ev_loadB Tryz.underlying25 rfl rfl (hN.blk 5 rfl) rfl) (RL.ev (v := .int .i64 ((i : Int))) rfl rfl ev_move (RL.ev rfl rfl (ev_index Tryz.underlying25 sz3 (hi.1.o.now hN) rfl rfl (by omega) (by omega)) ?_)))))))))
 have hOb_ : ∃ a_, (ins)[i]? = some a_ := ⟨_, List.getElem?_eq_getElem (by omega)⟩
 obtain ⟨ap, hap⟩ := hOb_
 refine RL.ev rfl rfl (ev_loadG (m := i) (a := ap) Tryz.underlying3 rfl (hi.1.o.now hN) rfl hap) (RL.ev (v := .int .i64 (ap)) rfl rfl ev_assign (RL.nil (thenN (RW.seq (RW.region (RL.ev rfl rfl (ev_fieldAddr Tryz.underlying194 rfl sz25 (by decide) rfl) (RL.ev rfl rfl (ev_loadB Tryz.underlying25 rfl rfl (hN.blk 5 rfl) rfl) (RL.ev (v := .int .i64 ((i : Int))) rfl rfl ev_move (RL.ev rfl rfl (ev_index Tryz.underlying25 sz3 (ho.1.o.now hN) rfl rfl (by omega) (by omega)) ?_)))))))))
 have hOb_ : ∃ a_, (lost)[i]? = some a_ := ⟨_, List.getElem?_eq_getElem (by omega)⟩
 obtain ⟨ao, hao⟩ := hOb_
 refine RL.ev rfl rfl (ev_loadG (m := i) (a := ao) Tryz.underlying3 rfl (ho.1.o.now hN) rfl hao) (RL.ev (v := .int .i64 (ao)) rfl rfl ev_assign (RL.nil (thenN (RW.seq (RW.region (RL.ev rfl rfl (ev_loadAll (cs := [.int .i64 ((n : Int)), iv, lv, ov]) Tryz.underlying194 rfl sz194 rfl (hN.blk 5 rfl)) (RL.ev (v := .int .i64 (v)) rfl rfl ev_move (RL.ev (v := .int .i64 ((i : Int))) rfl rfl ev_move ?_))))))))
 refine RL.op rfl rfl (op_call3 Tryz.func137 rfl rfl rfl rfl rfl ((way_calls n _ _ _ ins ls lost _ (hi.1.o.now hN) (hl.1.o.now hN) (ho.1.o.now hN) v (i : Int)).mono ?_))
 rintro _ w6 ⟨rfl, he_⟩
 replace hN := hN.ext he_
 clear he_
 refine RL.ev (v := .tuple #[.agg #[.int .i64 (((wayOf ls v (i : Int)).getD (0, 0, 0)).1), .int .i64 (((wayOf ls v (i : Int)).getD (0, 0, 0)).2.1), .int .i64 (((wayOf ls v (i : Int)).getD (0, 0, 0)).2.2)], .bool (decide (HasWay ls v (i : Int)))]) rfl rfl ev_move ?_
 iterate 2 refine RL.ev rfl rfl (ev_extract rfl rfl) ?_
 refine RL.op rfl rfl (opN_alloc (cs := [.int .i64 (0), .int .i64 (0), .int .i64 (0)]) zero96 rfl hN ?_)
 clear hN
 intro g7 w7 (hN : Now w none_ w7 [_, _, _, _, _, _, _])
 refine RL.op rfl rfl (opN_storeAll (vs := [.int .i64 (((wayOf ls v (i : Int)).getD (0, 0, 0)).1), .int .i64 (((wayOf ls v (i : Int)).getD (0, 0, 0)).2.1), .int .i64 (((wayOf ls v (i : Int)).getD (0, 0, 0)).2.2)]) sz96 rfl rfl rfl (by intro u hu; simp only [List.mem_cons, List.not_mem_nil, or_false] at hu; rcases hu with rfl | rfl | rfl <;> first | rfl) hN 0 rfl rfl ?_)
 clear hN
 intro w8 (hN : Now w none_ w8 [_, _, _, _, _, _, _])
 refine RL.ev (v := .bool (decide (HasWay ls v (i : Int)))) rfl rfl ev_assign (RL.nil (thenN (RW.seq (RW.region (RL.ev rfl rfl (ev_loadAll (cs := [.int .i64 ((n : Int)), iv, lv, ov]) Tryz.underlying194 rfl sz194 rfl (hN.blk 6 rfl)) (RL.ev (v := .int .i64 ((i : Int))) rfl rfl ev_move (RL.ev (v := .int .i64 (v)) rfl rfl ev_move ?_)))))))
 refine RL.op rfl rfl (op_call3 Tryz.func137 rfl rfl rfl rfl rfl ((way_calls n _ _ _ ins ls lost _ (hi.1.o.now hN) (hl.1.o.now hN) (ho.1.o.now hN) (i : Int) v).mono ?_))
 rintro _ w9 ⟨rfl, he_⟩
 replace hN := hN.ext he_
 clear he_
 refine RL.ev (v := .tuple #[.agg #[.int .i64 (((wayOf ls (i : Int) v).getD (0, 0, 0)).1), .int .i64 (((wayOf ls (i : Int) v).getD (0, 0, 0)).2.1), .int .i64 (((wayOf ls (i : Int) v).getD (0, 0, 0)).2.2)], .bool (decide (HasWay ls (i : Int) v))]) rfl rfl ev_move ?_
 iterate 2 refine RL.ev rfl rfl (ev_extract rfl rfl) ?_
 refine RL.op rfl rfl (opN_alloc (cs := [.int .i64 (0), .int .i64 (0), .int .i64 (0)]) zero96 rfl hN ?_)
 clear hN
 intro g10 w10 (hN : Now w none_ w10 [_, _, _, _, _, _, _, _])
 refine RL.op rfl rfl (opN_storeAll (vs := [.int .i64 (((wayOf ls (i : Int) v).getD (0, 0, 0)).1), .int .i64 (((wayOf ls (i : Int) v).getD (0, 0, 0)).2.1), .int .i64 (((wayOf ls (i : Int) v).getD (0, 0, 0)).2.2)]) sz96 rfl rfl rfl (by intro u hu; simp only [List.mem_cons, List.not_mem_nil, or_false] at hu; rcases hu with rfl | rfl | rfl <;> first | rfl) hN 0 rfl rfl ?_)
 clear hN
 intro w11 (hN : Now w none_ w11 [_, _, _, _, _, _, _, _])
 refine RL.ev (v := .bool (decide (HasWay ls (i : Int) v))) rfl rfl ev_assign (RL.nil (thenN ?_))
 iterate 2 refine RW.seq ?_
 refine RW.region (RL.ev (v := .int .i64 ((i : Int))) rfl rfl ev_move (RL.ev (v := .int .i64 (v)) rfl rfl ev_move (RL.ev rfl rfl (ev_eql rfl rfl) (RL.nil (thenN ?_)))))
 refine RW.condP _ rfl (fun heq => ?_) (fun heq => ?_)
 refine RW.region (RL.ev (v := .int .i64 (0)) rfl rfl ev_assign (RL.nil (thenN ?_)))
 iterate 2 refine RW.seq ?_
 refine RW.region ?_
 iterate 2 refine RL.ev (v := .bool (decide (HasWay ls v (i : Int)))) rfl rfl ev_move ?_
 by_cases hg13_1 : HasWay ls v (i : Int)
 rw [decide_eq_true hg13_1]
 refine RL.off rfl rfl (by decide) rfl rfl (RL.ev (v := .bool true) rfl rfl (ev_pickT rfl) (RL.nil (thenN (RW.condT rfl (RW.region (RL.ev (v := .int .i64 (ao)) rfl rfl ev_move (RL.ev rfl rfl (ev_arith rfl rfl rfl rfl) (RL.ev (v := .int .i64 (IntKind.i64.wrap (ao + 1))) rfl rfl ev_assign (RL.nil ?_)))))))))
 refine thenN (RW.seq (RW.region (RL.ev rfl rfl (ev_fieldAddr Tryz.underlying194 rfl sz25 (by decide) rfl) (RL.ev rfl rfl (ev_loadB Tryz.underlying25 rfl rfl (hN.blk 5 rfl) rfl) (RL.ev (v := .int .i64 (0)) rfl rfl ev_move ?_)))))
 refine RL.op rfl rfl (opN_lit (enc := vI) (l := [0]) (xs := [.tmp 64]) Tryz.underlying25 sz3 zr3 rfl rfl (fun _ => rfl) rfl (by decide) (by decide) hN ?_)
 clear hN
 intro g12 w12 (hN : Now w none_ w12 [_, _, _, _, _, _, _, _, _])
 refine RL.op rfl rfl (opN_append Tryz.underlying25 inf3 rfl (fun _ => rfl) hN 3 rfl rfl (hN.sl 0 rfl) rfl (by rw [h1l]; simp only [List.length_singleton, List.length_cons, List.length_nil]; omega) (by decide) ?_)
 clear hN
 intro v13 w13 (hN : Now w none_ w13 [_, _, _, _, _, _, _, _, _])
 refine RL.ev rfl rfl (ev_fieldAddr Tryz.underlying194 rfl sz25 (by decide) rfl) ?_
 refine RL.op rfl rfl (opN_store sz25 rfl rfl (hN.sl 3 rfl).cells1 (hN.sl 3 rfl).one1 hN 6 rfl (Nat.le_of_ble_eq_true rfl) ?_)
 clear hN
 intro w14 (hN : Now w none_ w14 [_, _, _, _, _, _, _, _, _])
 refine RL.nil (thenN (RW.region (RL.ev rfl rfl (ev_fieldAddr Tryz.underlying194 rfl sz25 (by decide) rfl) (RL.ev rfl rfl (ev_loadB Tryz.underlying25 rfl rfl (hN.blk 6 rfl) rfl) (RL.ev (v := .int .i64 (IntKind.i64.wrap (ao + 1))) rfl rfl ev_move ?_)))))
 refine RL.op rfl rfl (opN_lit (enc := vI) (l := [IntKind.i64.wrap (ao + 1)]) (xs := [.tmp 70]) Tryz.underlying25 sz3 zr3 rfl rfl (fun _ => rfl) rfl (by decide) (by decide) hN ?_)
 clear hN
 intro g15 w15 (hN : Now w none_ w15 [_, _, _, _, _, _, _, _, _, _])
 refine RL.op rfl rfl (opN_append Tryz.underlying25 inf3 rfl (fun _ => rfl) hN 5 rfl rfl (hN.sl 0 rfl) rfl (by rw [h2l]; simp only [List.length_singleton, List.length_cons, List.length_nil]; omega) (by decide) ?_)
 clear hN
 intro v16 w16 (hN : Now w none_ w16 [_, _, _, _, _, _, _, _, _, _])
 refine RL.ev rfl rfl (ev_fieldAddr Tryz.underlying194 rfl sz25 (by decide) rfl) ?_
 refine RL.op rfl rfl (opN_store sz25 rfl rfl (hN.sl 5 rfl).cells1 (hN.sl 5 rfl).one1 hN 7 rfl (Nat.le_of_ble_eq_true rfl) ?_)
 clear hN
 intro w17 (hN : Now w none_ w17 [_, _, _, _, _, _, _, _, _, _])
 refine RL.nil (blockN (thenN (RW.region (RL.ev (v := .int .i64 ((i : Int))) rfl rfl ev_move (RL.ev rfl rfl (ev_arith rfl rfl rfl (add64 (by omega) (by omega))) (RL.ev (v := .int .i64 ((i : Int) + 1)) rfl rfl ev_assign (RL.nil (thenN ?_))))))))
 exact ⟨k - 1, by omega, v13, a1 ++ [0], v16, a2 ++ [IntKind.i64.wrap (ao + 1)], i + 1, rfl, rfl, rfl, rfl, rfl, (hN.sub [4, 5, 6, 7, 8, 9] (by decide) rfl), by omega, by rw [takeAt (show (ins.set v.toNat 0)[i]? = some 0 from by rw [List.getElem?_set, if_pos (by omega), if_pos (by omega)]), h1], by rw [List.length_append, h1l]; rfl, by rw [List.length_append, h2l]; rfl⟩
 rw [decide_eq_false hg13_1]
 refine RL.onEv (v := .bool (decide (HasWay ls (i : Int) v))) rfl rfl (by decide) rfl rfl ev_move (RL.ev (v := .bool (decide (HasWay ls (i : Int) v))) rfl rfl (ev_pickF rfl) (RL.nil (thenN ?_)))
 refine RW.condP _ rfl (fun hc59 => ?_) (fun hc59 => ?_)
 refine RW.region (RL.ev (v := .int .i64 (ao)) rfl rfl ev_move (RL.ev rfl rfl (ev_arith rfl rfl rfl rfl) (RL.ev (v := .int .i64 (IntKind.i64.wrap (ao + 1))) rfl rfl ev_assign (RL.nil (thenN (RW.seq (RW.region (RL.ev rfl rfl (ev_fieldAddr Tryz.underlying194 rfl sz25 (by decide) rfl) (RL.ev rfl rfl (ev_loadB Tryz.underlying25 rfl rfl (hN.blk 5 rfl) rfl) ?_)))))))))
 refine RL.ev (v := .int .i64 (0)) rfl rfl ev_move ?_
 refine RL.op rfl rfl (opN_lit (enc := vI) (l := [0]) (xs := [.tmp 64]) Tryz.underlying25 sz3 zr3 rfl rfl (fun _ => rfl) rfl (by decide) (by decide) hN ?_)
 clear hN
 intro g18 w18 (hN : Now w none_ w18 [_, _, _, _, _, _, _, _, _])
 refine RL.op rfl rfl (opN_append Tryz.underlying25 inf3 rfl (fun _ => rfl) hN 3 rfl rfl (hN.sl 0 rfl) rfl (by rw [h1l]; simp only [List.length_singleton, List.length_cons, List.length_nil]; omega) (by decide) ?_)
 clear hN
 intro v19 w19 (hN : Now w none_ w19 [_, _, _, _, _, _, _, _, _])
 refine RL.ev rfl rfl (ev_fieldAddr Tryz.underlying194 rfl sz25 (by decide) rfl) ?_
 refine RL.op rfl rfl (opN_store sz25 rfl rfl (hN.sl 3 rfl).cells1 (hN.sl 3 rfl).one1 hN 6 rfl (Nat.le_of_ble_eq_true rfl) ?_)
 clear hN
 intro w20 (hN : Now w none_ w20 [_, _, _, _, _, _, _, _, _])
 refine RL.nil (thenN (RW.region (RL.ev rfl rfl (ev_fieldAddr Tryz.underlying194 rfl sz25 (by decide) rfl) (RL.ev rfl rfl (ev_loadB Tryz.underlying25 rfl rfl (hN.blk 6 rfl) rfl) (RL.ev (v := .int .i64 (IntKind.i64.wrap (ao + 1))) rfl rfl ev_move ?_)))))
 refine RL.op rfl rfl (opN_lit (enc := vI) (l := [IntKind.i64.wrap (ao + 1)]) (xs := [.tmp 70]) Tryz.underlying25 sz3 zr3 rfl rfl (fun _ => rfl) rfl (by decide) (by decide) hN ?_)
 clear hN
 intro g21 w21 (hN : Now w none_ w21 [_, _, _, _, _, _, _, _, _, _])
 refine RL.op rfl rfl (opN_append Tryz.underlying25 inf3 rfl (fun _ => rfl) hN 5 rfl rfl (hN.sl 0 rfl) rfl (by rw [h2l]; simp only [List.length_singleton, List.length_cons, List.length_nil]; omega) (by decide) ?_)
 clear hN
 intro v22 w22 (hN : Now w none_ w22 [_, _, _, _, _, _, _, _, _, _])
 refine RL.ev rfl rfl (ev_fieldAddr Tryz.underlying194 rfl sz25 (by decide) rfl) ?_
 refine RL.op rfl rfl (opN_store sz25 rfl rfl (hN.sl 5 rfl).cells1 (hN.sl 5 rfl).one1 hN 7 rfl (Nat.le_of_ble_eq_true rfl) ?_)
 clear hN
 intro w23 (hN : Now w none_ w23 [_, _, _, _, _, _, _, _, _, _])
 refine RL.nil (blockN (thenN (RW.region (RL.ev (v := .int .i64 ((i : Int))) rfl rfl ev_move (RL.ev rfl rfl (ev_arith rfl rfl rfl (add64 (by omega) (by omega))) (RL.ev (v := .int .i64 ((i : Int) + 1)) rfl rfl ev_assign (RL.nil (thenN ?_))))))))
 exact ⟨k - 1, by omega, v19, a1 ++ [0], v22, a2 ++ [IntKind.i64.wrap (ao + 1)], i + 1, rfl, rfl, rfl, rfl, rfl, (hN.sub [4, 5, 6, 7, 8, 9] (by decide) rfl), by omega, by rw [takeAt (show (ins.set v.toNat 0)[i]? = some 0 from by rw [List.getElem?_set, if_pos (by omega), if_pos (by omega)]), h1], by rw [List.length_append, h1l]; rfl, by rw [List.length_append, h2l]; rfl⟩
 refine RW.skip (thenN (RW.seq (RW.region (RL.ev rfl rfl (ev_fieldAddr Tryz.underlying194 rfl sz25 (by decide) rfl) (RL.ev rfl rfl (ev_loadB Tryz.underlying25 rfl rfl (hN.blk 5 rfl) rfl) (RL.ev (v := .int .i64 (0)) rfl rfl ev_move ?_))))))
 refine RL.op rfl rfl (opN_lit (enc := vI) (l := [0]) (xs := [.tmp 64]) Tryz.underlying25 sz3 zr3 rfl rfl (fun _ => rfl) rfl (by decide) (by decide) hN ?_)
 clear hN
 intro g24 w24 (hN : Now w none_ w24 [_, _, _, _, _, _, _, _, _])
 refine RL.op rfl rfl (opN_append Tryz.underlying25 inf3 rfl (fun _ => rfl) hN 3 rfl rfl (hN.sl 0 rfl) rfl (by rw [h1l]; simp only [List.length_singleton, List.length_cons, List.length_nil]; omega) (by decide) ?_)
 clear hN
 intro v25 w25 (hN : Now w none_ w25 [_, _, _, _, _, _, _, _, _])
 refine RL.ev rfl rfl (ev_fieldAddr Tryz.underlying194 rfl sz25 (by decide) rfl) ?_
 refine RL.op rfl rfl (opN_store sz25 rfl rfl (hN.sl 3 rfl).cells1 (hN.sl 3 rfl).one1 hN 6 rfl (Nat.le_of_ble_eq_true rfl) ?_)
 clear hN
 intro w26 (hN : Now w none_ w26 [_, _, _, _, _, _, _, _, _])
 refine RL.nil (thenN (RW.region (RL.ev rfl rfl (ev_fieldAddr Tryz.underlying194 rfl sz25 (by decide) rfl) (RL.ev rfl rfl (ev_loadB Tryz.underlying25 rfl rfl (hN.blk 6 rfl) rfl) (RL.ev (v := .int .i64 (ao)) rfl rfl ev_move ?_)))))
 refine RL.op rfl rfl (opN_lit (enc := vI) (l := [ao]) (xs := [.tmp 70]) Tryz.underlying25 sz3 zr3 rfl rfl (fun _ => rfl) rfl (by decide) (by decide) hN ?_)
 clear hN
 intro g27 w27 (hN : Now w none_ w27 [_, _, _, _, _, _, _, _, _, _])
 refine RL.op rfl rfl (opN_append Tryz.underlying25 inf3 rfl (fun _ => rfl) hN 5 rfl rfl (hN.sl 0 rfl) rfl (by rw [h2l]; simp only [List.length_singleton, List.length_cons, List.length_nil]; omega) (by decide) ?_)
 clear hN
 intro v28 w28 (hN : Now w none_ w28 [_, _, _, _, _, _, _, _, _, _])
 refine RL.ev rfl rfl (ev_fieldAddr Tryz.underlying194 rfl sz25 (by decide) rfl) ?_
 refine RL.op rfl rfl (opN_store sz25 rfl rfl (hN.sl 5 rfl).cells1 (hN.sl 5 rfl).one1 hN 7 rfl (Nat.le_of_ble_eq_true rfl) ?_)
 clear hN
 intro w29 (hN : Now w none_ w29 [_, _, _, _, _, _, _, _, _, _])
 refine RL.nil (blockN (thenN (RW.region (RL.ev (v := .int .i64 ((i : Int))) rfl rfl ev_move (RL.ev rfl rfl (ev_arith rfl rfl rfl (add64 (by omega) (by omega))) (RL.ev (v := .int .i64 ((i : Int) + 1)) rfl rfl ev_assign (RL.nil (thenN ?_))))))))
 exact ⟨k - 1, by omega, v25, a1 ++ [0], v28, a2 ++ [ao], i + 1, rfl, rfl, rfl, rfl, rfl, (hN.sub [4, 5, 6, 7, 8, 9] (by decide) rfl), by omega, by rw [takeAt (show (ins.set v.toNat 0)[i]? = some 0 from by rw [List.getElem?_set, if_pos (by omega), if_pos (by omega)]), h1], by rw [List.length_append, h1l]; rfl, by rw [List.length_append, h2l]; rfl⟩
 refine RW.skip (thenN ?_)
 iterate 2 refine RW.seq ?_
 refine RW.region ?_
 iterate 2 refine RL.ev (v := .bool (decide (HasWay ls v (i : Int)))) rfl rfl ev_move ?_
 by_cases hg13_1 : HasWay ls v (i : Int)
 rw [decide_eq_true hg13_1]
 refine RL.off rfl rfl (by decide) rfl rfl (RL.ev (v := .bool true) rfl rfl (ev_pickT rfl) (RL.nil (thenN (RW.condT rfl (RW.region (RL.ev (v := .int .i64 (ao)) rfl rfl ev_move (RL.ev rfl rfl (ev_arith rfl rfl rfl rfl) (RL.ev (v := .int .i64 (IntKind.i64.wrap (ao + 1))) rfl rfl ev_assign (RL.nil ?_)))))))))
 refine thenN (RW.seq (RW.region (RL.ev rfl rfl (ev_fieldAddr Tryz.underlying194 rfl sz25 (by decide) rfl) (RL.ev rfl rfl (ev_loadB Tryz.underlying25 rfl rfl (hN.blk 5 rfl) rfl) (RL.ev (v := .int .i64 (ap)) rfl rfl ev_move ?_)))))
 refine RL.op rfl rfl (opN_lit (enc := vI) (l := [ap]) (xs := [.tmp 64]) Tryz.underlying25 sz3 zr3 rfl rfl (fun _ => rfl) rfl (by decide) (by decide) hN ?_)
 clear hN
 intro g30 w30 (hN : Now w none_ w30 [_, _, _, _, _, _, _, _, _])
 refine RL.op rfl rfl (opN_append Tryz.underlying25 inf3 rfl (fun _ => rfl) hN 3 rfl rfl (hN.sl 0 rfl) rfl (by rw [h1l]; simp only [List.length_singleton, List.length_cons, List.length_nil]; omega) (by decide) ?_)
 clear hN
 intro v31 w31 (hN : Now w none_ w31 [_, _, _, _, _, _, _, _, _])
 refine RL.ev rfl rfl (ev_fieldAddr Tryz.underlying194 rfl sz25 (by decide) rfl) ?_
 refine RL.op rfl rfl (opN_store sz25 rfl rfl (hN.sl 3 rfl).cells1 (hN.sl 3 rfl).one1 hN 6 rfl (Nat.le_of_ble_eq_true rfl) ?_)
 clear hN
 intro w32 (hN : Now w none_ w32 [_, _, _, _, _, _, _, _, _])
 refine RL.nil (thenN (RW.region (RL.ev rfl rfl (ev_fieldAddr Tryz.underlying194 rfl sz25 (by decide) rfl) (RL.ev rfl rfl (ev_loadB Tryz.underlying25 rfl rfl (hN.blk 6 rfl) rfl) (RL.ev (v := .int .i64 (IntKind.i64.wrap (ao + 1))) rfl rfl ev_move ?_)))))
 refine RL.op rfl rfl (opN_lit (enc := vI) (l := [IntKind.i64.wrap (ao + 1)]) (xs := [.tmp 70]) Tryz.underlying25 sz3 zr3 rfl rfl (fun _ => rfl) rfl (by decide) (by decide) hN ?_)
 clear hN
 intro g33 w33 (hN : Now w none_ w33 [_, _, _, _, _, _, _, _, _, _])
 refine RL.op rfl rfl (opN_append Tryz.underlying25 inf3 rfl (fun _ => rfl) hN 5 rfl rfl (hN.sl 0 rfl) rfl (by rw [h2l]; simp only [List.length_singleton, List.length_cons, List.length_nil]; omega) (by decide) ?_)
 clear hN
 intro v34 w34 (hN : Now w none_ w34 [_, _, _, _, _, _, _, _, _, _])
 refine RL.ev rfl rfl (ev_fieldAddr Tryz.underlying194 rfl sz25 (by decide) rfl) ?_
 refine RL.op rfl rfl (opN_store sz25 rfl rfl (hN.sl 5 rfl).cells1 (hN.sl 5 rfl).one1 hN 7 rfl (Nat.le_of_ble_eq_true rfl) ?_)
 clear hN
 intro w35 (hN : Now w none_ w35 [_, _, _, _, _, _, _, _, _, _])
 refine RL.nil (blockN (thenN (RW.region (RL.ev (v := .int .i64 ((i : Int))) rfl rfl ev_move (RL.ev rfl rfl (ev_arith rfl rfl rfl (add64 (by omega) (by omega))) (RL.ev (v := .int .i64 ((i : Int) + 1)) rfl rfl ev_assign (RL.nil (thenN ?_))))))))
 exact ⟨k - 1, by omega, v31, a1 ++ [ap], v34, a2 ++ [IntKind.i64.wrap (ao + 1)], i + 1, rfl, rfl, rfl, rfl, rfl, (hN.sub [4, 5, 6, 7, 8, 9] (by decide) rfl), by omega, by rw [takeAt (show (ins.set v.toNat 0)[i]? = some ap from by rw [List.getElem?_set, if_neg (by omega)]; exact hap), h1], by rw [List.length_append, h1l]; rfl, by rw [List.length_append, h2l]; rfl⟩
 rw [decide_eq_false hg13_1]
 refine RL.onEv (v := .bool (decide (HasWay ls (i : Int) v))) rfl rfl (by decide) rfl rfl ev_move (RL.ev (v := .bool (decide (HasWay ls (i : Int) v))) rfl rfl (ev_pickF rfl) (RL.nil (thenN ?_)))
 refine RW.condP _ rfl (fun hc59 => ?_) (fun hc59 => ?_)
 refine RW.region (RL.ev (v := .int .i64 (ao)) rfl rfl ev_move (RL.ev rfl rfl (ev_arith rfl rfl rfl rfl) (RL.ev (v := .int .i64 (IntKind.i64.wrap (ao + 1))) rfl rfl ev_assign (RL.nil (thenN (RW.seq (RW.region (RL.ev rfl rfl (ev_fieldAddr Tryz.underlying194 rfl sz25 (by decide) rfl) (RL.ev rfl rfl (ev_loadB Tryz.underlying25 rfl rfl (hN.blk 5 rfl) rfl) ?_)))))))))
 refine RL.ev (v := .int .i64 (ap)) rfl rfl ev_move ?_
 refine RL.op rfl rfl (opN_lit (enc := vI) (l := [ap]) (xs := [.tmp 64]) Tryz.underlying25 sz3 zr3 rfl rfl (fun _ => rfl) rfl (by decide) (by decide) hN ?_)
 clear hN
 intro g36 w36 (hN : Now w none_ w36 [_, _, _, _, _, _, _, _, _])
 refine RL.op rfl rfl (opN_append Tryz.underlying25 inf3 rfl (fun _ => rfl) hN 3 rfl rfl (hN.sl 0 rfl) rfl (by rw [h1l]; simp only [List.length_singleton, List.length_cons, List.length_nil]; omega) (by decide) ?_)
 clear hN
 intro v37 w37 (hN : Now w none_ w37 [_, _, _, _, _, _, _, _, _])
 refine RL.ev rfl rfl (ev_fieldAddr Tryz.underlying194 rfl sz25 (by decide) rfl) ?_
 refine RL.op rfl rfl (opN_store sz25 rfl rfl (hN.sl 3 rfl).cells1 (hN.sl 3 rfl).one1 hN 6 rfl (Nat.le_of_ble_eq_true rfl) ?_)
 clear hN
 intro w38 (hN : Now w none_ w38 [_, _, _, _, _, _, _, _, _])
 refine RL.nil (thenN (RW.region (RL.ev rfl rfl (ev_fieldAddr Tryz.underlying194 rfl sz25 (by decide) rfl) (RL.ev rfl rfl (ev_loadB Tryz.underlying25 rfl rfl (hN.blk 6 rfl) rfl) (RL.ev (v := .int .i64 (IntKind.i64.wrap (ao + 1))) rfl rfl ev_move ?_)))))
 refine RL.op rfl rfl (opN_lit (enc := vI) (l := [IntKind.i64.wrap (ao + 1)]) (xs := [.tmp 70]) Tryz.underlying25 sz3 zr3 rfl rfl (fun _ => rfl) rfl (by decide) (by decide) hN ?_)
 clear hN
 intro g39 w39 (hN : Now w none_ w39 [_, _, _, _, _, _, _, _, _, _])
 refine RL.op rfl rfl (opN_append Tryz.underlying25 inf3 rfl (fun _ => rfl) hN 5 rfl rfl (hN.sl 0 rfl) rfl (by rw [h2l]; simp only [List.length_singleton, List.length_cons, List.length_nil]; omega) (by decide) ?_)
 clear hN
 intro v40 w40 (hN : Now w none_ w40 [_, _, _, _, _, _, _, _, _, _])
 refine RL.ev rfl rfl (ev_fieldAddr Tryz.underlying194 rfl sz25 (by decide) rfl) ?_
 refine RL.op rfl rfl (opN_store sz25 rfl rfl (hN.sl 5 rfl).cells1 (hN.sl 5 rfl).one1 hN 7 rfl (Nat.le_of_ble_eq_true rfl) ?_)
 clear hN
 intro w41 (hN : Now w none_ w41 [_, _, _, _, _, _, _, _, _, _])
 refine RL.nil (blockN (thenN (RW.region (RL.ev (v := .int .i64 ((i : Int))) rfl rfl ev_move (RL.ev rfl rfl (ev_arith rfl rfl rfl (add64 (by omega) (by omega))) (RL.ev (v := .int .i64 ((i : Int) + 1)) rfl rfl ev_assign (RL.nil (thenN ?_))))))))
 exact ⟨k - 1, by omega, v37, a1 ++ [ap], v40, a2 ++ [IntKind.i64.wrap (ao + 1)], i + 1, rfl, rfl, rfl, rfl, rfl, (hN.sub [4, 5, 6, 7, 8, 9] (by decide) rfl), by omega, by rw [takeAt (show (ins.set v.toNat 0)[i]? = some ap from by rw [List.getElem?_set, if_neg (by omega)]; exact hap), h1], by rw [List.length_append, h1l]; rfl, by rw [List.length_append, h2l]; rfl⟩
 refine RW.skip (thenN (RW.seq (RW.region (RL.ev rfl rfl (ev_fieldAddr Tryz.underlying194 rfl sz25 (by decide) rfl) (RL.ev rfl rfl (ev_loadB Tryz.underlying25 rfl rfl (hN.blk 5 rfl) rfl) (RL.ev (v := .int .i64 (ap)) rfl rfl ev_move ?_))))))
 refine RL.op rfl rfl (opN_lit (enc := vI) (l := [ap]) (xs := [.tmp 64]) Tryz.underlying25 sz3 zr3 rfl rfl (fun _ => rfl) rfl (by decide) (by decide) hN ?_)
 clear hN
 intro g42 w42 (hN : Now w none_ w42 [_, _, _, _, _, _, _, _, _])
 refine RL.op rfl rfl (opN_append Tryz.underlying25 inf3 rfl (fun _ => rfl) hN 3 rfl rfl (hN.sl 0 rfl) rfl (by rw [h1l]; simp only [List.length_singleton, List.length_cons, List.length_nil]; omega) (by decide) ?_)
 clear hN
 intro v43 w43 (hN : Now w none_ w43 [_, _, _, _, _, _, _, _, _])
 refine RL.ev rfl rfl (ev_fieldAddr Tryz.underlying194 rfl sz25 (by decide) rfl) ?_
 refine RL.op rfl rfl (opN_store sz25 rfl rfl (hN.sl 3 rfl).cells1 (hN.sl 3 rfl).one1 hN 6 rfl (Nat.le_of_ble_eq_true rfl) ?_)
 clear hN
 intro w44 (hN : Now w none_ w44 [_, _, _, _, _, _, _, _, _])
 refine RL.nil (thenN (RW.region (RL.ev rfl rfl (ev_fieldAddr Tryz.underlying194 rfl sz25 (by decide) rfl) (RL.ev rfl rfl (ev_loadB Tryz.underlying25 rfl rfl (hN.blk 6 rfl) rfl) (RL.ev (v := .int .i64 (ao)) rfl rfl ev_move ?_)))))
 refine RL.op rfl rfl (opN_lit (enc := vI) (l := [ao]) (xs := [.tmp 70]) Tryz.underlying25 sz3 zr3 rfl rfl (fun _ => rfl) rfl (by decide) (by decide) hN ?_)
 clear hN
 intro g45 w45 (hN : Now w none_ w45 [_, _, _, _, _, _, _, _, _, _])
 refine RL.op rfl rfl (opN_append Tryz.underlying25 inf3 rfl (fun _ => rfl) hN 5 rfl rfl (hN.sl 0 rfl) rfl (by rw [h2l]; simp only [List.length_singleton, List.length_cons, List.length_nil]; omega) (by decide) ?_)
 clear hN
 intro v46 w46 (hN : Now w none_ w46 [_, _, _, _, _, _, _, _, _, _])
 refine RL.ev rfl rfl (ev_fieldAddr Tryz.underlying194 rfl sz25 (by decide) rfl) ?_
 refine RL.op rfl rfl (opN_store sz25 rfl rfl (hN.sl 5 rfl).cells1 (hN.sl 5 rfl).one1 hN 7 rfl (Nat.le_of_ble_eq_true rfl) ?_)
 clear hN
 intro w47 (hN : Now w none_ w47 [_, _, _, _, _, _, _, _, _, _])
 refine RL.nil (blockN (thenN (RW.region (RL.ev (v := .int .i64 ((i : Int))) rfl rfl ev_move (RL.ev rfl rfl (ev_arith rfl rfl rfl (add64 (by omega) (by omega))) (RL.ev (v := .int .i64 ((i : Int) + 1)) rfl rfl ev_assign (RL.nil (thenN ?_))))))))
 exact ⟨k - 1, by omega, v43, a1 ++ [ap], v46, a2 ++ [ao], i + 1, rfl, rfl, rfl, rfl, rfl, (hN.sub [4, 5, 6, 7, 8, 9] (by decide) rfl), by omega, by rw [takeAt (show (ins.set v.toNat 0)[i]? = some ap from by rw [List.getElem?_set, if_neg (by omega)]; exact hap), h1], by rw [List.length_append, h1l]; rfl, by rw [List.length_append, h2l]; rfl⟩
 refine RW.exit ?_
 iterate 2 refine thenX ?_
 refine blockHit (thenN ?_)
 iterate 2 refine RW.seq ?_
 refine RW.region (RL.ev (v := .int .i64 (0)) rfl rfl ev_assign (RL.nil (thenN (RW.block ?_))))
 refine RW.loop (fun k2 R1 w1' => ∃ v3 : Value, ∃ a3 : List I5, ∃ q : Nat, R1 1 = .int .i64 (v) ∧ R1 2 = .pointer (some ⟨g1, 0, none⟩) ∧ R1 4 = .pointer (some ⟨g2, 0, none⟩) ∧ R1 6 = .pointer (some ⟨g4, 0, none⟩) ∧ R1 14 = .int .i64 ((q : Int)) ∧ Now w none_ w1' [.own vI 3 (v1) (a1), .own vI 3 (v2) (a2), .ownm i5cells 5 248 (v3) (a3), .blk g4 [.int .i64 ((n : Int)), v1, v3, v2] 194, .blk g2 [.int .i64 (0), .slice none 0 0, .slice none 0 0, .slice none 0 0] 194, .blk g1 [.int .i64 ((n : Int)), iv, lv, ov] 194] ∧ (q + k2 = ls.length) ∧ (a3 = (ls.take q).filter (fun y => decide (¬ y.1 = v ∧ ¬ y.2.1 = v))) ∧ (a3.length ≤ q)) (ls.length) ?_ ?_
 exact ⟨.slice none 0 0, [], 0, rfl, rfl, rfl, rfl, rfl, hN, by omega, rfl, Nat.le_refl _⟩
 clear hN
 rintro k2 R1 w1' ⟨v3, a3, q, hr1_, hr2_, hr4_, hr6_, hr14_, hN, hqk, h3, h3l⟩
 have hR_ : ∃ R1_, R1 = (upd (upd (upd (upd (upd R1_ 1 _) 2 _) 4 _) 6 _) 14 _) := ⟨R1, by rw [upd_self hr1_, upd_self hr2_, upd_self hr4_, upd_self hr6_, upd_self hr14_]⟩
 obtain ⟨R1_, rfl⟩ := hR_
 clear hr1_ hr2_ hr4_ hr6_ hr14_
 iterate 2 refine RW.seq ?_
 refine RW.region (RL.ev (v := .int .i64 ((q : Int))) rfl rfl ev_move (RL.ev rfl rfl (ev_fieldAddr Tryz.underlying194 rfl sz192 (by decide) rfl) (RL.ev rfl rfl (ev_loadB Tryz.underlying192 rfl rfl (hN.blk 5 rfl) rfl) ?_)))
 have hL_48 := (hl.1.o.now hN).len_le
 refine RL.ev rfl rfl (ev_lenM Tryz.underlying192 (hl.1.o.now hN) rfl) (RL.ev rfl rfl (ev_lss rfl rfl) (RL.nil (thenN ?_)))
 refine RW.condP _ rfl (fun hlt2 => ?_) (fun hlt2 => ?_)
 refine RW.skip (thenN (RW.seq (RW.block (RW.seq (RW.region (RL.ev rfl rfl (ev_fieldAddr Tryz.underlying194 rfl sz192 (by decide) rfl) (RL.ev rfl rfl (ev_loadB Tryz.underlying192 rfl rfl (hN.blk 5 rfl) rfl) (RL.ev (v := .int .i64 ((q : Int))) rfl rfl ev_move (RL.ev rfl rfl (ev_indexM Tryz.underlying192 sz248 i5cells_len (by decide) (hl.1.o.now hN) rfl rfl (by omega) (by omega)) ?_)))))))))
 have hOb_ : ∃ a_, (ls)[q]? = some a_ := ⟨_, List.getElem?_eq_getElem (by omega)⟩
 obtain ⟨aq, haq⟩ := hOb_
 refine RL.ev rfl rfl (ev_fieldM (m := q) (b := 0) Tryz.underlying248 rfl sz3 (by decide) i5cells_len (hl.1.o.now hN) haq rfl rfl) (RL.ev rfl rfl (ev_loadMF (m := q) (j := 0) (a := aq) Tryz.underlying3 rfl i5cells_len (hl.1.o.now hN) rfl haq rfl) (RL.ev (v := .int .i64 (v)) rfl rfl ev_move (RL.ev rfl rfl (ev_neq rfl rfl) (RL.ev (v := .bool (decide (¬ aq.1 = v))) rfl rfl ev_move ?_))))
 by_cases hg20_8 : ¬ aq.1 = v
 rw [decide_eq_true hg20_8]
 refine RL.onEv rfl rfl (by decide) rfl rfl (ev_fieldAddr Tryz.underlying194 rfl sz192 (by decide) rfl) (RL.onEv rfl rfl (by decide) rfl rfl (ev_loadB Tryz.underlying192 rfl rfl (hN.blk 5 rfl) rfl) (RL.onEv (v := .int .i64 ((q : Int))) rfl rfl (by decide) rfl rfl ev_move (RL.onEv rfl rfl (by decide) rfl rfl (ev_indexM Tryz.underlying192 sz248 i5cells_len (by decide) (hl.1.o.now hN) rfl rfl (by omega) (by omega)) (RL.onEv rfl rfl (by decide) rfl rfl (ev_fieldM (m := q) (b := 0) Tryz.underlying248 rfl sz3 (by decide) i5cells_len (hl.1.o.now hN) haq rfl rfl) (RL.onEv rfl rfl (by decide) rfl rfl (ev_loadMF (m := q) (j := 1) (a := aq) Tryz.underlying3 rfl i5cells_len (hl.1.o.now hN) rfl haq rfl) (RL.onEv (v := .int .i64 (v)) rfl rfl (by decide) rfl rfl ev_move (RL.onEv rfl rfl (by decide) rfl rfl (ev_neq rfl rfl) (RL.ev (v := .bool (decide (¬ aq.2.1 = v))) rfl rfl (ev_pickT rfl) (RL.nil ?_)))))))))
 refine thenN ?_
 refine RW.condP _ rfl (fun hc98 => ?_) (fun hc98 => ?_)
 replace hN := hN.ext (Ext.drew w1')
 refine RW.drawR rfl (fun u => Now w none_ u [.own vI 3 (v1) (a1), .own vI 3 (v2) (a2), .blk g4 [.int .i64 ((n : Int)), v1, v3, v2] 194, .blk g2 [.int .i64 (0), .slice none 0 0, .slice none 0 0, .slice none 0 0] 194, .blk g1 [.int .i64 ((n : Int)), iv, lv, ov] 194]) 10 [(0,0), (1,0), (2,0), (3,0), (4,0), (5,0), (6,0), (7,1), (8,1), (9,0), (10,2)] (by intro _ _ _ h; exact h) (by kernel_rfl) (hN.sub [0, 1, 3, 4, 5] (by decide) rfl) (RQ.ev rfl rfl (fun w hS => (ev_fieldAddr Tryz.underlying194 rfl sz192 (by decide) rfl)) (RQ.ev rfl rfl (fun w hS => (ev_loadB Tryz.underlying192 rfl rfl (hS.blk 2 rfl) rfl)) (RQ.ev rfl rfl (fun w hS => (ev_fieldAddr Tryz.underlying194 rfl sz192 (by decide) rfl)) (RQ.ev rfl rfl (fun w hS => (ev_loadB Tryz.underlying192 rfl rfl (hS.blk 4 rfl) rfl)) (RQ.ev (v := .int .i64 ((q : Int))) rfl rfl (fun w hS => ev_move) (RQ.ev rfl rfl (fun w hS => (ev_indexM Tryz.underlying192 sz248 i5cells_len (by decide) (hl.1.o.now hS) rfl rfl (by omega) (by omega))) (RQ.ev rfl rfl (fun w hS => (ev_loadM (m := q) (a := aq) Tryz.underlying248 rfl sz248 i5cells_len (by decide) (hl.1.o.now hS) rfl haq (cs := [.int .i64 (aq.1), .int .i64 (aq.2.1), .int .i64 (aq.2.2.1), .int .i64 (aq.2.2.2.1), .int .i64 (aq.2.2.2.2)]) rfl)) ?_)))))))
 refine RQ.do rfl rfl (opN_litM (cf := i5cells) (s := 5) (pl := [(0, .tmp 105)]) (ps := [(0, .agg #[.int .i64 (aq.1), .int .i64 (aq.2.1), .int .i64 (aq.2.2.1), .int .i64 (aq.2.2.2.1), .int .i64 (aq.2.2.2.2)])]) (zc := [.int .i64 (0), .int .i64 (0), .int .i64 (0), .int .i64 (0), .int .i64 (0)]) (l := [(aq.1, aq.2.1, aq.2.2.1, aq.2.2.2.1, aq.2.2.2.2)]) Tryz.underlying192 inf248 (by kernel_rfl) rfl rfl (fill_step (vs := [.int .i64 (aq.1), .int .i64 (aq.2.1), .int .i64 (aq.2.2.1), .int .i64 (aq.2.2.2.1), .int .i64 (aq.2.2.2.2)]) rfl rfl (Nat.le_of_ble_eq_true rfl) rfl) i5cells_len rfl (by decide) (by decide) (by decide) hN ?_)
 clear hN
 intro g49 w49 (hN : Now w none_ w49 [_, _, _, _, _, _, _])
 refine ⟨(hN.sub [1, 2, 4, 5, 6] (by decide) rfl), ?_⟩
 refine RQ.do rfl rfl (opN_appendM Tryz.underlying192 inf248 rfl (by decide) i5cells_one i5cells_len hN 3 rfl rfl (hN.sm 0 rfl) rfl (by (try simp only [List.length_append, List.length_singleton, List.length_cons, List.length_nil]); omega) (by decide) ?_)
 clear hN
 intro v50 w50 (hN : Now w none_ w50 [_, _, _, _, _, _, _])
 refine ⟨(hN.sub [1, 2, 4, 5, 6] (by decide) rfl), ?_⟩
 refine RQ.ev rfl rfl (fun w hS => (ev_fieldAddr Tryz.underlying194 rfl sz192 (by decide) rfl)) ?_
 refine RQ.last rfl rfl (opN_store sz192 rfl rfl (hN.sm 3 rfl).cells1 (hN.sm 3 rfl).one1 hN 4 rfl (Nat.le_of_ble_eq_true rfl) ?_)
 clear hN
 intro w51 (hN : Now w none_ w51 [_, _, _, _, _, _, _])
 refine RZ.done (by kernel_rfl) (blockN (thenN (RW.region (RL.ev (v := .int .i64 ((q : Int))) rfl rfl ev_move (RL.ev rfl rfl (ev_arith rfl rfl rfl (add64 (by omega) (by omega))) (RL.ev (v := .int .i64 ((q : Int) + 1)) rfl rfl ev_assign (RL.nil (thenN ?_))))))))
 exact ⟨k2 - 1, by omega, v50, a3 ++ [(aq.1, aq.2.1, aq.2.2.1, aq.2.2.2.1, aq.2.2.2.2)], q + 1, rfl, rfl, rfl, rfl, rfl, (hN.sub [1, 2, 3, 4, 5, 6] (by decide) rfl), by omega, by rw [filter_take_succ haq, if_pos (decide_eq_true ⟨hg20_8, hc98⟩), h3], by (try simp only [List.length_append, List.length_singleton]); omega⟩
 refine RW.skip (blockN (thenN (RW.region (RL.ev (v := .int .i64 ((q : Int))) rfl rfl ev_move (RL.ev rfl rfl (ev_arith rfl rfl rfl (add64 (by omega) (by omega))) (RL.ev (v := .int .i64 ((q : Int) + 1)) rfl rfl ev_assign (RL.nil (thenN ?_))))))))
 exact ⟨k2 - 1, by omega, v3, a3, q + 1, rfl, rfl, rfl, rfl, rfl, hN, by omega, by rw [filter_take_succ haq, if_neg (fun h => by have h := of_decide_eq_true h; first | exact hg20_8 h.1 | exact hc98 h.2), List.append_nil]; exact h3, by (try simp only [List.length_append, List.length_singleton]); omega⟩
 rw [decide_eq_false hg20_8]
 iterate 8 refine RL.off rfl rfl (by decide) rfl rfl ?_
 refine RL.ev (v := .bool false) rfl rfl (ev_pickF rfl) (RL.nil (thenN (RW.condF rfl (RW.skip (blockN (thenN (RW.region (RL.ev (v := .int .i64 ((q : Int))) rfl rfl ev_move (RL.ev rfl rfl (ev_arith rfl rfl rfl (add64 (by omega) (by omega))) ?_)))))))))
 refine RL.ev (v := .int .i64 ((q : Int) + 1)) rfl rfl ev_assign (RL.nil (thenN ?_))
 exact ⟨k2 - 1, by omega, v3, a3, q + 1, rfl, rfl, rfl, rfl, rfl, hN, by omega, by rw [filter_take_succ haq, if_neg (fun h => by have h := of_decide_eq_true h; first | exact hg20_8 h.1 | exact hc98 h.2), List.append_nil]; exact h3, by (try simp only [List.length_append, List.length_singleton]); omega⟩
 refine RW.exit ?_
 iterate 2 refine thenX ?_
 refine blockHit (thenN (RW.seq (RW.region (RL.ev rfl rfl (ev_loadAll (cs := [.int .i64 ((n : Int)), v1, v3, v2]) Tryz.underlying194 rfl sz194 rfl (hN.blk 3 rfl)) ?_))))
 refine RL.op rfl rfl (opN_storeAll (vs := [.int .i64 ((n : Int)), v1, v3, v2]) sz194 rfl rfl rfl (by intro u hu; simp only [List.mem_cons, List.not_mem_nil, or_false] at hu; rcases hu with rfl | rfl | rfl | rfl <;> first | rfl | exact (hN.sl 0 rfl).one1 | exact (hN.sl 1 rfl).one1 | exact (hN.sm 2 rfl).one1) hN 4 rfl rfl ?_)
 clear hN
 intro w52 (hN : Now w none_ w52 [_, _, _, _, _, _])
 refine RL.ev (v := .bool true) rfl rfl ev_assign (RL.nil (thenN (RW.ret (retI (RV.cellTmp rfl rfl (run_cell (hN.blk 4 rfl) Tryz.underlying194 rfl sz194)) ?_))))
 have hi_ : i = n := by omega
 subst hi_
 rw [List.take_of_length_le (by rw [List.length_set]; omega)] at h1
 have hq_ : q = ls.length := by omega
 rw [hq_, List.take_length] at h3
 subst h1
 have h3_ : a3 = takeT ls v := h3
 subst h3_
 exact ⟨_, _, _, _, _, rfl, Own.sloF (hN.ownOut 0 rfl) hF, OwnM.smoF (hN.ownmOut 2 rfl) hF, Own.sloF (hN.ownOut 1 rfl) hF, h2l, hN.ext0⟩
set_option maxHeartbeats 4000000 in
set_option maxRecDepth 100000 in
theorem cost_calls (n : Nat) (iv lv ov : Value) (ins : List Int) (ls : List I5) (lost : List Int) (w : World) (hi : Sl vI w iv ins) (hl : Sm i5cells w lv ls) (ho : Sl vI w ov lost) (v : Int) (hln : ins.length = n) (hlo : lost.length = n) (hn : n ≤ 4096) : Gives Tryz.prog 184 #[.agg #[.int .i64 (n : Int), iv, lv, ov], .int .i64 v] w fun r w' => ∃ z : Int, r = .int .i64 z ∧ Ext w w' := by
 refine Gives.start Tryz.func184 rfl (Nat.le_of_ble_eq_true rfl) ?_
 rw [args2]
 have hN := Now.nil w none_
 refine RW.seq (RW.region ?_)
 refine RL.op rfl rfl (opN_box (cs := [.int .i64 ((n : Int)), iv, lv, ov]) rfl rfl hN ?_)
 clear hN
 intro g1 w1 (hN : Now w none_ w1 [_])
 refine RL.ev (v := .int .i64 (0)) rfl rfl ev_assign (RL.nil (thenN ?_))
 iterate 2 refine RW.seq ?_
 refine RW.region (RL.ev rfl rfl (ev_loadAll (cs := [.int .i64 ((n : Int)), iv, lv, ov]) Tryz.underlying194 rfl sz194 rfl (hN.blk 0 rfl)) (RL.ev (v := .int .i64 (v)) rfl rfl ev_move ?_))
 refine RL.op rfl rfl (op_call2 Tryz.func186 rfl rfl rfl rfl ((is_calls n _ _ _ ins ls lost _ (hi.o.now hN) (hl.o.now hN) (ho.o.now hN) v hln).mono ?_))
 rintro _ w2 ⟨rfl, he_⟩
 replace hN := hN.ext he_
 clear he_
 refine RL.ev rfl rfl (ev_notP rfl) (RL.nil (thenN ?_))
 refine RW.condP _ rfl (fun hin => ?_) (fun hin => ?_)
 refine RW.seq (RW.region (RL.ev (v := .int .i64 (0)) rfl rfl ev_assign (RL.nil (thenN (RW.ret (thenR (retI (RV.tmp rfl) ?_)))))))
 exact ⟨_, rfl, hN.ext0⟩
 refine RW.skip (thenN (RW.seq ?_))
 have hin2 := Decidable.not_not.1 hin
 have hv0 := hin2.1
 have hv1 := hin2.2.1
 refine RW.region (RL.ev rfl rfl (ev_loadAll (cs := [.int .i64 ((n : Int)), iv, lv, ov]) Tryz.underlying194 rfl sz194 rfl (hN.blk 0 rfl)) (RL.ev (v := .int .i64 (v)) rfl rfl ev_move ?_))
 refine RL.op rfl rfl (op_call2 Tryz.func138 rfl rfl rfl rfl ((ins_calls n _ _ _ ins ls lost _ (hi.o.now hN) (hl.o.now hN) (ho.o.now hN) v (by omega)).mono ?_))
 rintro v3 w3 ⟨ho_, he_⟩
 replace hN : Now w none_ w3 [_, _] := hN.pushOwn (l := insOf ls v n) ho_ he_
 clear ho_ he_
 refine RL.ev (v := v3) rfl rfl ev_assign (RL.nil (thenN (RW.seq (RW.region (RL.ev rfl rfl (ev_loadAll (cs := [.int .i64 ((n : Int)), iv, lv, ov]) Tryz.underlying194 rfl sz194 rfl (hN.blk 1 rfl)) (RL.ev (v := .int .i64 (v)) rfl rfl ev_move ?_))))))
 refine RL.op rfl rfl (op_call2 Tryz.func136 rfl rfl rfl rfl ((outs_calls n _ _ _ ins ls lost _ (hi.o.now hN) (hl.o.now hN) (ho.o.now hN) v (by omega)).mono ?_))
 rintro v4 w4 ⟨ho_, he_⟩
 replace hN : Now w none_ w4 [_, _, _] := hN.pushOwn (l := outsOf ls v n) ho_ he_
 clear ho_ he_
 refine RL.ev (v := v4) rfl rfl ev_assign (RL.nil (thenN (RW.seq (RW.region (RL.ev (v := .int .i64 (0)) rfl rfl ev_assign (RL.nil (thenN ?_)))))))
 iterate 2 refine RW.seq ?_
 refine RW.region (RL.ev (v := .int .i64 (0)) rfl rfl ev_assign (RL.nil (thenN (RW.block ?_))))
 refine RW.loop (fun k R0 w0' => ∃ z : Int, ∃ i : Nat, R0 1 = .int .i64 (v) ∧ R0 2 = .pointer (some ⟨g1, 0, none⟩) ∧ R0 5 = v3 ∧ R0 6 = v4 ∧ R0 7 = .int .i64 (z) ∧ R0 8 = .int .i64 ((i : Int)) ∧ Now w none_ w0' [.own vI 3 (v4) (outsOf ls v n), .own vI 3 (v3) (insOf ls v n), .blk g1 [.int .i64 ((n : Int)), iv, lv, ov] 194] ∧ (i + k = (insOf ls v n).length)) ((insOf ls v n).length) ?_ ?_
 exact ⟨0, 0, rfl, rfl, rfl, rfl, rfl, rfl, hN, by omega⟩
 clear hN
 rintro k R0 w0' ⟨z, i, hr1_, hr2_, hr5_, hr6_, hr7_, hr8_, hN, hik⟩
 have hR_ : ∃ R0_, R0 = (upd (upd (upd (upd (upd (upd R0_ 1 _) 2 _) 5 _) 6 _) 7 _) 8 _) := ⟨R0, by rw [upd_self hr1_, upd_self hr2_, upd_self hr5_, upd_self hr6_, upd_self hr7_, upd_self hr8_]⟩
 obtain ⟨R0_, rfl⟩ := hR_
 clear hr1_ hr2_ hr5_ hr6_ hr7_ hr8_
 iterate 2 refine RW.seq ?_
 refine RW.region (RL.ev (v := .int .i64 ((i : Int))) rfl rfl ev_move (RL.ev (v := v3) rfl rfl ev_move ?_))
 have hL_5 := (hN.sl 1 rfl).len_le
 refine RL.ev rfl rfl (ev_lenS Tryz.underlying25 (hN.sl 1 rfl) rfl) (RL.ev rfl rfl (ev_lss rfl rfl) (RL.nil (thenN ?_)))
 refine RW.condP _ rfl (fun hlt => ?_) (fun hlt => ?_)
 refine RW.skip (thenN (RW.seq (RW.block (RW.seq (RW.region (RL.ev (v := .int .i64 (0)) rfl rfl ev_assign (RL.nil (thenN (RW.block ?_)))))))))
 refine RW.loop (fun k2 R1 w1' => ∃ z2 : Int, ∃ q : Nat, R1 1 = .int .i64 (v) ∧ R1 2 = .pointer (some ⟨g1, 0, none⟩) ∧ R1 5 = v3 ∧ R1 6 = v4 ∧ R1 7 = .int .i64 (z2) ∧ R1 8 = .int .i64 ((i : Int)) ∧ R1 9 = .int .i64 ((q : Int)) ∧ Now w none_ w1' [.own vI 3 (v4) (outsOf ls v n), .own vI 3 (v3) (insOf ls v n), .blk g1 [.int .i64 ((n : Int)), iv, lv, ov] 194] ∧ (q + k2 = (outsOf ls v n).length)) ((outsOf ls v n).length) ?_ ?_
 exact ⟨z, 0, rfl, rfl, rfl, rfl, rfl, rfl, rfl, hN, by omega⟩
 clear hN
 rintro k2 R1 w1' ⟨z2, q, hr1_, hr2_, hr5_, hr6_, hr7_, hr8_, hr9_, hN, hqk⟩
 have hR_ : ∃ R1_, R1 = (upd (upd (upd (upd (upd (upd (upd R1_ 1 _) 2 _) 5 _) 6 _) 7 _) 8 _) 9 _) := ⟨R1, by rw [upd_self hr1_, upd_self hr2_, upd_self hr5_, upd_self hr6_, upd_self hr7_, upd_self hr8_, upd_self hr9_]⟩
 obtain ⟨R1_, rfl⟩ := hR_
 clear hr1_ hr2_ hr5_ hr6_ hr7_ hr8_ hr9_
 iterate 2 refine RW.seq ?_
 refine RW.region (RL.ev (v := .int .i64 ((q : Int))) rfl rfl ev_move (RL.ev (v := v4) rfl rfl ev_move ?_))
 have hL_6 := (hN.sl 0 rfl).len_le
 refine RL.ev rfl rfl (ev_lenS Tryz.underlying25 (hN.sl 0 rfl) rfl) (RL.ev rfl rfl (ev_lss rfl rfl) (RL.nil (thenN ?_)))
 refine RW.condP _ rfl (fun hlt2 => ?_) (fun hlt2 => ?_)
 refine RW.skip (thenN (RW.seq (RW.block (RW.seq ?_))))
 replace hN := hN.ext (Ext.drew w1')
 refine RW.drawR rfl (fun u => Now w none_ u [.own vI 3 (v4) (outsOf ls v n), .own vI 3 (v3) (insOf ls v n), .blk g1 [.int .i64 ((n : Int)), iv, lv, ov] 194]) 9 [(0,0), (1,0), (2,0), (3,0), (4,0), (5,0), (6,0), (7,0), (8,0)] (by intro _ _ _ h; exact h) (by kernel_rfl) hN (RQ.ev (v := v3) rfl rfl (fun w hS => ev_move) (RQ.ev (v := .int .i64 ((i : Int))) rfl rfl (fun w hS => ev_move) (RQ.ev rfl rfl (fun w hS => (ev_index Tryz.underlying25 sz3 (hS.sl 1 rfl) rfl rfl (by omega) (by omega))) ?_)))
 have hOb_ : ∃ a_, ((insOf ls v n))[i]? = some a_ := ⟨_, List.getElem?_eq_getElem (by omega)⟩
 obtain ⟨a7, ha7⟩ := hOb_
 refine RQ.ev rfl rfl (fun w hS => (ev_loadG (m := i) (a := a7) Tryz.underlying3 rfl (hS.sl 1 rfl) rfl ha7)) (RQ.ev (v := v4) rfl rfl (fun w hS => ev_move) (RQ.ev (v := .int .i64 ((q : Int))) rfl rfl (fun w hS => ev_move) (RQ.ev rfl rfl (fun w hS => (ev_index Tryz.underlying25 sz3 (hS.sl 0 rfl) rfl rfl (by omega) (by omega))) ?_)))
 have hOb_ : ∃ a_, ((outsOf ls v n))[q]? = some a_ := ⟨_, List.getElem?_eq_getElem (by omega)⟩
 obtain ⟨a8, ha8⟩ := hOb_
 refine RQ.ev rfl rfl (fun w hS => (ev_loadG (m := q) (a := a8) Tryz.underlying3 rfl (hS.sl 0 rfl) rfl ha8)) (RQ.ev rfl rfl (fun w hS => (ev_neq rfl rfl)) (RQ.done (by kernel_rfl) (thenN ?_)))
 refine RW.condP _ rfl (fun hne => ?_) (fun hne => ?_)
 refine RW.region (RL.ev (v := .int .i64 (z2)) rfl rfl ev_move (RL.ev rfl rfl (ev_arith rfl rfl rfl rfl) (RL.ev (v := .int .i64 (IntKind.i64.wrap (z2 + 1))) rfl rfl ev_assign (RL.nil (blockN (thenN (RW.region (RL.ev (v := .int .i64 ((q : Int))) rfl rfl ev_move (RL.ev rfl rfl (ev_arith rfl rfl rfl (add64 (by omega) (by omega))) ?_)))))))))
 refine RL.ev (v := .int .i64 ((q : Int) + 1)) rfl rfl ev_assign (RL.nil (thenN ?_))
 exact ⟨k2 - 1, by omega, IntKind.i64.wrap (z2 + 1), q + 1, rfl, rfl, rfl, rfl, rfl, rfl, rfl, hN, by omega⟩
 refine RW.skip (blockN (thenN (RW.region (RL.ev (v := .int .i64 ((q : Int))) rfl rfl ev_move (RL.ev rfl rfl (ev_arith rfl rfl rfl (add64 (by omega) (by omega))) (RL.ev (v := .int .i64 ((q : Int) + 1)) rfl rfl ev_assign (RL.nil (thenN ?_))))))))
 exact ⟨k2 - 1, by omega, z2, q + 1, rfl, rfl, rfl, rfl, rfl, rfl, rfl, hN, by omega⟩
 refine RW.exit ?_
 iterate 2 refine thenX ?_
 refine blockHit (blockN (thenN (RW.region (RL.ev (v := .int .i64 ((i : Int))) rfl rfl ev_move (RL.ev rfl rfl (ev_arith rfl rfl rfl (add64 (by omega) (by omega))) (RL.ev (v := .int .i64 ((i : Int) + 1)) rfl rfl ev_assign (RL.nil (thenN ?_))))))))
 exact ⟨k - 1, by omega, z2, i + 1, rfl, rfl, rfl, rfl, rfl, rfl, hN, by omega⟩
 refine RW.exit ?_
 iterate 2 refine thenX ?_
 refine blockHit (thenN (RW.seq (RW.region (RL.ev (v := .int .i64 (z)) rfl rfl ev_move (RL.ev (v := v3) rfl rfl ev_move (RL.ev rfl rfl (ev_lenS Tryz.underlying25 (hN.sl 1 rfl) rfl) (RL.ev rfl rfl (ev_arith rfl rfl rfl rfl) (RL.ev (v := v4) rfl rfl ev_move ?_))))))))
 have hL_9 := (hN.sl 0 rfl).len_le
 refine RL.ev rfl rfl (ev_lenS Tryz.underlying25 (hN.sl 0 rfl) rfl) (RL.ev rfl rfl (ev_arith rfl rfl rfl rfl) (RL.ev rfl rfl (ev_fieldAddr Tryz.underlying194 rfl sz25 (by decide) rfl) (RL.ev rfl rfl (ev_loadB Tryz.underlying25 rfl rfl (hN.blk 2 rfl) rfl) (RL.ev (v := .int .i64 (v)) rfl rfl ev_move (RL.ev rfl rfl (ev_index Tryz.underlying25 sz3 (ho.o.now hN) rfl rfl (by omega) (by omega)) ?_)))))
 have hOb_ : ∃ a_, (lost)[(v).toNat]? = some a_ := ⟨_, List.getElem?_eq_getElem (by omega)⟩
 obtain ⟨ac, hac⟩ := hOb_
 refine RL.ev rfl rfl (ev_loadG (m := (v).toNat) (a := ac) Tryz.underlying3 rfl (ho.o.now hN) rfl hac) (RL.ev rfl rfl (ev_arith rfl rfl rfl rfl) (RL.ev (v := .int .i64 (IntKind.i64.wrap (IntKind.i64.wrap (IntKind.i64.wrap (z - ((insOf ls v n).length : Int)) - ((outsOf ls v n).length : Int)) + ac))) rfl rfl ev_assign (RL.nil (thenN (RW.ret (retI (RV.tmp rfl) ?_))))))
 exact ⟨_, rfl, hN.ext0⟩
end Go.Proofs.YtngkdkbpgoddlaaGreat
set_option linter.unusedVariables false
set_option linter.unusedSimpArgs false
namespace Go.Proofs.YtngkdkbpgoddlaaGreat
open Go.RowKit Go.Rl
open Go.Gr
set_option maxHeartbeats 4000000 in
set_option maxRecDepth 100000 in
theorem tnew_calls (n : Nat) (v : Value) (l : List I3) (kv : Value) (ks : List Int) (w : World) (hv : Sm i3cells w v l) (hk : Sl vI w kv ks) (hlen : ks.length = l.length) (hl : l.length ≤ 40) (hn : n ≤ 12) : Gives Tryz.prog 132 #[.agg #[.int .i64 (n : Int), v, kv]] w fun r w' => ∃ iv lv ov ls lost, r = .agg #[.int .i64 (n : Int), iv, lv, ov] ∧ Own vI 3 w' w.heap.size iv (List.replicate n 1) ∧ OwnM i5cells 5 248 w' w.heap.size lv ls ∧ Own vI 3 w' w.heap.size ov lost ∧ ls.Perm (newL l ks n) ∧ lost.length = n ∧ ls.length ≤ 480 ∧ Ext w w' := by
 refine Gives.start Tryz.func132 rfl (Nat.le_of_ble_eq_true rfl) ?_
 rw [args1]
 have hN := Now.nil w none_
 refine RW.seq (RW.region ?_)
 refine RL.op rfl rfl (opN_box (cs := [.int .i64 ((n : Int)), v, kv]) rfl rfl hN ?_)
 clear hN
 intro g1 w1 (hN : Now w none_ w1 [_])
 refine RL.op rfl rfl (opN_alloc (cs := [.int .i64 (0), .slice none 0 0, .slice none 0 0, .slice none 0 0]) zero194 rfl hN ?_)
 clear hN
 intro g2 w2 (hN : Now w none_ w2 [_, _])
 refine RL.nil (thenN (RW.seq (RW.region (RL.ev rfl rfl (ev_fieldAddr Tryz.underlying111 rfl sz24 (by decide) rfl) (RL.ev rfl rfl (ev_fieldAddr Tryz.underlying24 rfl sz3 (by decide) rfl) (RL.ev rfl rfl (ev_loadB Tryz.underlying3 rfl rfl (hN.blk 1 rfl) rfl) (RL.ev rfl rfl (ev_buildL (cs := [.int .i64 ((n : Int)), .slice none 0 0, .slice none 0 0, .slice none 0 0]) Tryz.underlying194 zero194 (places := #[(0, 1), (1, 1), (2, 1), (3, 1)]) (by intro w; kernel_rfl) (pl := [(0, .tmp 9)]) rfl (ps := [(0, .int .i64 ((n : Int)))]) rfl (zc := [.int .i64 (0), .slice none 0 0, .slice none 0 0, .slice none 0 0]) rfl (fill_step (vs := [.int .i64 ((n : Int))]) rfl rfl (Nat.le_of_ble_eq_true rfl) rfl)) ?_)))))))
 refine RL.op rfl rfl (opN_alloc (cs := [.int .i64 (0), .slice none 0 0, .slice none 0 0, .slice none 0 0]) zero194 rfl hN ?_)
 clear hN
 intro g3 w3 (hN : Now w none_ w3 [_, _, _])
 refine RL.op rfl rfl (opN_storeAll (vs := [.int .i64 ((n : Int)), .slice none 0 0, .slice none 0 0, .slice none 0 0]) sz194 rfl rfl rfl (by intro u hu; simp only [List.mem_cons, List.not_mem_nil, or_false] at hu; rcases hu with rfl | rfl | rfl | rfl <;> first | rfl) hN 0 rfl rfl ?_)
 clear hN
 intro w4 (hN : Now w none_ w4 [_, _, _])
 refine RL.nil (thenN ?_)
 iterate 2 refine RW.seq ?_
 replace hN := hN.addNilM i5cells 5 248
 replace hN := hN.addNil vI 3
 replace hN := hN.addNil vI 3
 replace hN : Now w none_ w4 [.own vI 3 (.slice none 0 0) ([]), .own vI 3 (.slice none 0 0) ([]), .ownm i5cells 5 248 (.slice none 0 0) ([]), .blk g3 [.int .i64 ((n : Int)), .slice none 0 0, .slice none 0 0, .slice none 0 0] 194, .blk g2 [.int .i64 (0), .slice none 0 0, .slice none 0 0, .slice none 0 0] 194, .blk g1 [.int .i64 ((n : Int)), v, kv] 111] := hN
 refine RW.region (RL.ev (v := .int .i64 (0)) rfl rfl ev_assign (RL.nil (thenN (RW.block ?_))))
 refine RW.loop (fun k R0 w0' => ∃ v1 : Value, ∃ a1 : List Int, ∃ v2 : Value, ∃ a2 : List Int, ∃ v3 : Value, ∃ a3 : List I5, ∃ i : Nat, R0 1 = .pointer (some ⟨g1, 0, none⟩) ∧ R0 2 = .pointer (some ⟨g2, 0, none⟩) ∧ R0 3 = .pointer (some ⟨g3, 0, none⟩) ∧ R0 4 = .int .i64 ((i : Int)) ∧ Now w none_ w0' [.own vI 3 (v1) (a1), .own vI 3 (v2) (a2), .ownm i5cells 5 248 (v3) (a3), .blk g3 [.int .i64 ((n : Int)), v1, v3, v2] 194, .blk g2 [.int .i64 (0), .slice none 0 0, .slice none 0 0, .slice none 0 0] 194, .blk g1 [.int .i64 ((n : Int)), v, kv] 111] ∧ (i + k = n) ∧ (a1 = List.replicate i 1) ∧ (a1.length = i) ∧ (a2.length = i) ∧ (a3.Perm (newL l ks i)) ∧ (a3.length ≤ 40 * i)) (n) ?_ ?_
 exact ⟨.slice none 0 0, [], .slice none 0 0, [], .slice none 0 0, [], 0, rfl, rfl, rfl, rfl, hN, by omega, rfl, rfl, rfl, .refl _, Nat.le_refl _⟩
 clear hN
 rintro k R0 w0' ⟨v1, a1, v2, a2, v3, a3, i, hr1_, hr2_, hr3_, hr4_, hN, hik, h1, h1l, h2l, h3, h3l⟩
 have hR_ : ∃ R0_, R0 = (upd (upd (upd (upd R0_ 1 _) 2 _) 3 _) 4 _) := ⟨R0, by rw [upd_self hr1_, upd_self hr2_, upd_self hr3_, upd_self hr4_]⟩
 obtain ⟨R0_, rfl⟩ := hR_
 clear hr1_ hr2_ hr3_ hr4_
 iterate 2 refine RW.seq ?_
 refine RW.region (RL.ev (v := .int .i64 ((i : Int))) rfl rfl ev_move (RL.ev rfl rfl (ev_fieldAddr Tryz.underlying194 rfl sz3 (by decide) rfl) (RL.ev rfl rfl (ev_loadB Tryz.underlying3 rfl rfl (hN.blk 3 rfl) rfl) (RL.ev rfl rfl (ev_lss rfl rfl) (RL.nil (thenN ?_))))))
 refine RW.condP _ rfl (fun hlt => ?_) (fun hlt => ?_)
 refine RW.skip (thenN (RW.seq (RW.block (RW.seq (RW.region (RL.ev rfl rfl (ev_fieldAddr Tryz.underlying194 rfl sz25 (by decide) rfl) (RL.ev rfl rfl (ev_loadB Tryz.underlying25 rfl rfl (hN.blk 3 rfl) rfl) ?_)))))))
 refine RL.op rfl rfl (opN_lit (enc := vI) (l := [1]) (xs := [.const (.int .i64 (1))]) Tryz.underlying25 sz3 zr3 rfl rfl (fun _ => rfl) rfl (by decide) (by decide) hN ?_)
 clear hN
 intro g5 w5 (hN : Now w none_ w5 [_, _, _, _, _, _, _])
 refine RL.op rfl rfl (opN_append Tryz.underlying25 inf3 rfl (fun _ => rfl) hN 1 rfl rfl (hN.sl 0 rfl) rfl (by rw [h1l]; simp only [List.length_singleton, List.length_cons, List.length_nil]; omega) (by decide) ?_)
 clear hN
 intro v6 w6 (hN : Now w none_ w6 [_, _, _, _, _, _, _])
 refine RL.ev rfl rfl (ev_fieldAddr Tryz.underlying194 rfl sz25 (by decide) rfl) ?_
 refine RL.op rfl rfl (opN_store sz25 rfl rfl (hN.sl 1 rfl).cells1 (hN.sl 1 rfl).one1 hN 4 rfl (Nat.le_of_ble_eq_true rfl) ?_)
 clear hN
 intro w7 (hN : Now w none_ w7 [_, _, _, _, _, _, _])
 refine RL.nil (thenN (RW.seq (RW.region (RL.ev rfl rfl (ev_fieldAddr Tryz.underlying194 rfl sz25 (by decide) rfl) (RL.ev rfl rfl (ev_loadB Tryz.underlying25 rfl rfl (hN.blk 4 rfl) rfl) ?_)))))
 refine RL.op rfl rfl (opN_lit (enc := vI) (l := [0]) (xs := [.const (.int .i64 (0))]) Tryz.underlying25 sz3 zr3 rfl rfl (fun _ => rfl) rfl (by decide) (by decide) hN ?_)
 clear hN
 intro g8 w8 (hN : Now w none_ w8 [_, _, _, _, _, _, _, _])
 refine RL.op rfl rfl (opN_append Tryz.underlying25 inf3 rfl (fun _ => rfl) hN 3 rfl rfl (hN.sl 0 rfl) rfl (by rw [h2l]; simp only [List.length_singleton, List.length_cons, List.length_nil]; omega) (by decide) ?_)
 clear hN
 intro v9 w9 (hN : Now w none_ w9 [_, _, _, _, _, _, _, _])
 refine RL.ev rfl rfl (ev_fieldAddr Tryz.underlying194 rfl sz25 (by decide) rfl) ?_
 refine RL.op rfl rfl (opN_store sz25 rfl rfl (hN.sl 3 rfl).cells1 (hN.sl 3 rfl).one1 hN 5 rfl (Nat.le_of_ble_eq_true rfl) ?_)
 clear hN
 intro w10 (hN : Now w none_ w10 [_, _, _, _, _, _, _, _])
 refine RL.nil (thenN (RW.seq (RW.region (RL.ev rfl rfl (ev_loadAll (cs := [.int .i64 ((n : Int)), v, kv]) Tryz.underlying111 rfl sz111 rfl (hN.blk 7 rfl)) (RL.ev (v := .int .i64 ((i : Int))) rfl rfl ev_move ?_)))))
 refine RL.op rfl rfl (op_call2 Tryz.func182 rfl rfl rfl rfl ((out_calls ((n : Int)) _ l _ ks ((i : Int)) _ (hv.o.now hN) (hk.o.now hN) hlen (by omega)).mono ?_))
 rintro v11 w11 ⟨out11, ho_, hp11, he_⟩
 replace hN : Now w none_ w11 [_, _, _, _, _, _, _, _, _] := hN.pushOwnM ho_ he_
 clear ho_ he_
 have hol11 := hp11.length_eq
 have hsl11 := sel_len l ks ((i : Int)) l.length
 refine RL.ev (v := v11) rfl rfl ev_assign (RL.nil (thenN (RW.seq (RW.region (RL.ev (v := .int .i64 (0)) rfl rfl ev_assign (RL.nil (thenN (RW.block ?_))))))))
 refine RW.loop (fun k2 R1 w1' => ∃ v4 : Value, ∃ a4 : List I5, ∃ q : Nat, R1 1 = .pointer (some ⟨g1, 0, none⟩) ∧ R1 2 = .pointer (some ⟨g2, 0, none⟩) ∧ R1 3 = .pointer (some ⟨g3, 0, none⟩) ∧ R1 4 = .int .i64 ((i : Int)) ∧ R1 5 = v11 ∧ R1 6 = .int .i64 ((q : Int)) ∧ Now w none_ w1' [.ownm i3cells 3 246 (v11) (out11), .own vI 3 (.slice (some ⟨g8, 0, none⟩) 1 1) ([0]), .own vI 3 (.slice (some ⟨g5, 0, none⟩) 1 1) ([1]), .own vI 3 (v6) (a1 ++ [1]), .own vI 3 (v9) (a2 ++ [0]), .ownm i5cells 5 248 (v4) (a4), .blk g3 [.int .i64 ((n : Int)), v6, v4, v9] 194, .blk g2 [.int .i64 (0), .slice none 0 0, .slice none 0 0, .slice none 0 0] 194, .blk g1 [.int .i64 ((n : Int)), v, kv] 111] ∧ (q + k2 = out11.length) ∧ (a4 = a3 ++ (out11.take q).map (edgeW (i : Int))) ∧ (a4.length ≤ 40 * i + q)) (out11.length) ?_ ?_
 exact ⟨v3, a3, 0, rfl, rfl, rfl, rfl, rfl, rfl, hN, by omega, by simp, h3l⟩
 clear hN
 rintro k2 R1 w1' ⟨v4, a4, q, hr1_, hr2_, hr3_, hr4_, hr5_, hr6_, hN, hqk, h4, h4l⟩
 have hR_ : ∃ R1_, R1 = (upd (upd (upd (upd (upd (upd R1_ 1 _) 2 _) 3 _) 4 _) 5 _) 6 _) := ⟨R1, by rw [upd_self hr1_, upd_self hr2_, upd_self hr3_, upd_self hr4_, upd_self hr5_, upd_self hr6_]⟩
 obtain ⟨R1_, rfl⟩ := hR_
 clear hr1_ hr2_ hr3_ hr4_ hr5_ hr6_
 iterate 2 refine RW.seq ?_
 refine RW.region (RL.ev (v := .int .i64 ((q : Int))) rfl rfl ev_move (RL.ev (v := v11) rfl rfl ev_move ?_))
 have hL_12 := (hN.sm 0 rfl).len_le
 refine RL.ev rfl rfl (ev_lenM Tryz.underlying207 (hN.sm 0 rfl) rfl) (RL.ev rfl rfl (ev_lss rfl rfl) (RL.nil (thenN ?_)))
 refine RW.condP _ rfl (fun hlt2 => ?_) (fun hlt2 => ?_)
 refine RW.skip (thenN (RW.seq (RW.block ?_)))
 replace hN := hN.ext (Ext.drew w1')
 refine RW.drawR rfl (fun u => Now w none_ u [.ownm i3cells 3 246 (v11) (out11), .own vI 3 (.slice (some ⟨g8, 0, none⟩) 1 1) ([0]), .own vI 3 (.slice (some ⟨g5, 0, none⟩) 1 1) ([1]), .own vI 3 (v6) (a1 ++ [1]), .own vI 3 (v9) (a2 ++ [0]), .blk g3 [.int .i64 ((n : Int)), v6, v4, v9] 194, .blk g2 [.int .i64 (0), .slice none 0 0, .slice none 0 0, .slice none 0 0] 194, .blk g1 [.int .i64 ((n : Int)), v, kv] 111]) 23 [(0,0), (1,0), (2,0), (3,0), (4,0), (5,0), (6,0), (7,0), (8,0), (9,0), (10,0), (11,0), (12,0), (13,0), (14,0), (15,0), (16,0), (17,0), (18,0), (19,0), (20,1), (21,1), (22,0), (23,2)] (by intro _ _ _ h; exact h) (by kernel_rfl) (hN.sub [0, 1, 2, 3, 4, 6, 7, 8] (by decide) rfl) (RQ.ev rfl rfl (fun w hS => (ev_fieldAddr Tryz.underlying194 rfl sz192 (by decide) rfl)) (RQ.ev rfl rfl (fun w hS => (ev_loadB Tryz.underlying192 rfl rfl (hS.blk 5 rfl) rfl)) (RQ.ev (v := .int .i64 ((i : Int))) rfl rfl (fun w hS => ev_move) (RQ.ev (v := v11) rfl rfl (fun w hS => ev_move) (RQ.ev (v := .int .i64 ((q : Int))) rfl rfl (fun w hS => ev_move) (RQ.ev rfl rfl (fun w hS => (ev_indexM Tryz.underlying207 sz246 i3cells_len (by decide) (hS.sm 0 rfl) rfl rfl (by omega) (by omega))) ?_))))))
 have hOb_ : ∃ a_, (out11)[q]? = some a_ := ⟨_, List.getElem?_eq_getElem (by omega)⟩
 obtain ⟨aq, haq⟩ := hOb_
 refine RQ.ev rfl rfl (fun w hS => (ev_fieldM (m := q) (b := 0) Tryz.underlying246 rfl sz3 (by decide) i3cells_len (hS.sm 0 rfl) haq rfl rfl)) (RQ.ev rfl rfl (fun w hS => (ev_loadMF (m := q) (j := 0) (a := aq) Tryz.underlying3 rfl i3cells_len (hS.sm 0 rfl) rfl haq rfl)) (RQ.ev (v := v11) rfl rfl (fun w hS => ev_move) (RQ.ev (v := .int .i64 ((q : Int))) rfl rfl (fun w hS => ev_move) (RQ.ev rfl rfl (fun w hS => (ev_indexM Tryz.underlying207 sz246 i3cells_len (by decide) (hS.sm 0 rfl) rfl rfl (by omega) (by omega))) (RQ.ev rfl rfl (fun w hS => (ev_fieldM (m := q) (b := 0) Tryz.underlying246 rfl sz3 (by decide) i3cells_len (hS.sm 0 rfl) haq rfl rfl)) (RQ.ev rfl rfl (fun w hS => (ev_loadMF (m := q) (j := 1) (a := aq) Tryz.underlying3 rfl i3cells_len (hS.sm 0 rfl) rfl haq rfl)) (RQ.ev (v := v11) rfl rfl (fun w hS => ev_move) (RQ.ev (v := .int .i64 ((q : Int))) rfl rfl (fun w hS => ev_move) (RQ.ev rfl rfl (fun w hS => (ev_indexM Tryz.underlying207 sz246 i3cells_len (by decide) (hS.sm 0 rfl) rfl rfl (by omega) (by omega))) ?_)))))))))
 refine RQ.ev rfl rfl (fun w hS => (ev_fieldM (m := q) (b := 0) Tryz.underlying246 rfl sz3 (by decide) i3cells_len (hS.sm 0 rfl) haq rfl rfl)) (RQ.ev rfl rfl (fun w hS => (ev_loadMF (m := q) (j := 2) (a := aq) Tryz.underlying3 rfl i3cells_len (hS.sm 0 rfl) rfl haq rfl)) (RQ.ev rfl rfl (fun w hS => (ev_buildL (cs := [.int .i64 (aq.2.1), .int .i64 (-1), .int .i64 (aq.2.2)]) Tryz.underlying96 zero96 (places := #[(0, 1), (1, 1), (2, 1)]) (by intro w; kernel_rfl) (pl := [(0, .tmp 48), (1, .const (.int .i64 (-1))), (2, .tmp 53)]) rfl (ps := [(0, .int .i64 (aq.2.1)), (1, .int .i64 (-1)), (2, .int .i64 (aq.2.2))]) rfl (zc := [.int .i64 (0), .int .i64 (0), .int .i64 (0)]) rfl (fill_step (vs := [.int .i64 (aq.2.1)]) rfl rfl (Nat.le_of_ble_eq_true rfl) (fill_step (vs := [.int .i64 (-1)]) rfl rfl (Nat.le_of_ble_eq_true rfl) (fill_step (vs := [.int .i64 (aq.2.2)]) rfl rfl (Nat.le_of_ble_eq_true rfl) rfl))))) (RQ.ev rfl rfl (fun w hS => (ev_buildL (cs := [.int .i64 ((i : Int)), .int .i64 (aq.1), .int .i64 (aq.2.1), .int .i64 (-1), .int .i64 (aq.2.2)]) Tryz.underlying248 zero248 (places := #[(0, 1), (1, 1), (2, 3)]) (by intro w; kernel_rfl) (pl := [(0, .tmp 38), (1, .tmp 43), (2, .tmp 54)]) rfl (ps := [(0, .int .i64 ((i : Int))), (1, .int .i64 (aq.1)), (2, .agg #[.int .i64 (aq.2.1), .int .i64 (-1), .int .i64 (aq.2.2)])]) rfl (zc := [.int .i64 (0), .int .i64 (0), .int .i64 (0), .int .i64 (0), .int .i64 (0)]) rfl (fill_step (vs := [.int .i64 ((i : Int))]) rfl rfl (Nat.le_of_ble_eq_true rfl) (fill_step (vs := [.int .i64 (aq.1)]) rfl rfl (Nat.le_of_ble_eq_true rfl) (fill_step (vs := [.int .i64 (aq.2.1), .int .i64 (-1), .int .i64 (aq.2.2)]) rfl rfl (Nat.le_of_ble_eq_true rfl) rfl))))) ?_)))
 refine RQ.do rfl rfl (opN_litM (cf := i5cells) (s := 5) (pl := [(0, .tmp 55)]) (ps := [(0, .agg #[.int .i64 ((i : Int)), .int .i64 (aq.1), .int .i64 (aq.2.1), .int .i64 (-1), .int .i64 (aq.2.2)])]) (zc := [.int .i64 (0), .int .i64 (0), .int .i64 (0), .int .i64 (0), .int .i64 (0)]) (l := [((i : Int), aq.1, aq.2.1, -1, aq.2.2)]) Tryz.underlying192 inf248 (by kernel_rfl) rfl rfl (fill_step (vs := [.int .i64 ((i : Int)), .int .i64 (aq.1), .int .i64 (aq.2.1), .int .i64 (-1), .int .i64 (aq.2.2)]) rfl rfl (Nat.le_of_ble_eq_true rfl) rfl) i5cells_len rfl (by decide) (by decide) (by decide) hN ?_)
 clear hN
 intro g13 w13 (hN : Now w none_ w13 [_, _, _, _, _, _, _, _, _, _])
 refine ⟨(hN.sub [1, 2, 3, 4, 5, 7, 8, 9] (by decide) rfl), ?_⟩
 refine RQ.do rfl rfl (opN_appendM Tryz.underlying192 inf248 rfl (by decide) i5cells_one i5cells_len hN 6 rfl rfl (hN.sm 0 rfl) rfl (by (try simp only [List.length_append, List.length_singleton, List.length_cons, List.length_nil, List.length_map, List.length_take]); omega) (by decide) ?_)
 clear hN
 intro v14 w14 (hN : Now w none_ w14 [_, _, _, _, _, _, _, _, _, _])
 refine ⟨(hN.sub [1, 2, 3, 4, 5, 7, 8, 9] (by decide) rfl), ?_⟩
 refine RQ.ev rfl rfl (fun w hS => (ev_fieldAddr Tryz.underlying194 rfl sz192 (by decide) rfl)) ?_
 refine RQ.last rfl rfl (opN_store sz192 rfl rfl (hN.sm 6 rfl).cells1 (hN.sm 6 rfl).one1 hN 7 rfl (Nat.le_of_ble_eq_true rfl) ?_)
 clear hN
 intro w15 (hN : Now w none_ w15 [_, _, _, _, _, _, _, _, _, _])
 refine RZ.done (by kernel_rfl) (blockN (thenN (RW.region (RL.ev (v := .int .i64 ((q : Int))) rfl rfl ev_move (RL.ev rfl rfl (ev_arith rfl rfl rfl (add64 (by omega) (by omega))) (RL.ev (v := .int .i64 ((q : Int) + 1)) rfl rfl ev_assign (RL.nil (thenN ?_))))))))
 exact ⟨k2 - 1, by omega, v14, a4 ++ [((i : Int), aq.1, aq.2.1, -1, aq.2.2)], q + 1, rfl, rfl, rfl, rfl, rfl, rfl, (hN.sub [1, 2, 3, 4, 5, 6, 7, 8, 9] (by decide) rfl), by omega, by rw [map_take_succ _ haq, h4, List.append_assoc]; rfl, by (try simp only [List.length_append, List.length_singleton]); omega⟩
 refine RW.exit ?_
 iterate 2 refine thenX ?_
 refine blockHit (blockN (thenN (RW.region (RL.ev (v := .int .i64 ((i : Int))) rfl rfl ev_move (RL.ev rfl rfl (ev_arith rfl rfl rfl (add64 (by omega) (by omega))) (RL.ev (v := .int .i64 ((i : Int) + 1)) rfl rfl ev_assign (RL.nil (thenN ?_))))))))
 exact ⟨k - 1, by omega, v6, a1 ++ [1], v9, a2 ++ [0], v4, a4, i + 1, rfl, rfl, rfl, rfl, (hN.sub [3, 4, 5, 6, 7, 8] (by decide) rfl), by omega, by rw [List.replicate_succ', h1], by rw [List.length_append, h1l]; rfl, by rw [List.length_append, h2l]; rfl, by rw [h4, show q = out11.length by omega, List.take_length, newL_succ]; exact h3.append (hp11.map _), by omega⟩
 refine RW.exit ?_
 iterate 2 refine thenX ?_
 refine blockHit (thenN (RW.seq (RW.region (RL.ev rfl rfl (ev_loadAll (cs := [.int .i64 ((n : Int)), v1, v3, v2]) Tryz.underlying194 rfl sz194 rfl (hN.blk 3 rfl)) ?_))))
 refine RL.op rfl rfl (opN_storeAll (vs := [.int .i64 ((n : Int)), v1, v3, v2]) sz194 rfl rfl rfl (by intro u hu; simp only [List.mem_cons, List.not_mem_nil, or_false] at hu; rcases hu with rfl | rfl | rfl | rfl <;> first | rfl | exact (hN.sl 0 rfl).one1 | exact (hN.sl 1 rfl).one1 | exact (hN.sm 2 rfl).one1) hN 4 rfl rfl ?_)
 clear hN
 intro w16 (hN : Now w none_ w16 [_, _, _, _, _, _])
 refine RL.nil (thenN (RW.ret (retI (RV.cell rfl rfl (hN.blk 4 rfl) Tryz.underlying194 rfl sz194) ?_)))
 have hi_ : i = n := by omega
 subst hi_
 subst h1
 exact ⟨_, _, _, _, _, rfl, hN.ownOut 0 rfl, hN.ownmOut 2 rfl, hN.ownOut 1 rfl, h3, h2l, by omega, hN.ext0⟩
end Go.Proofs.YtngkdkbpgoddlaaGreat
set_option linter.unusedVariables false
set_option linter.unusedSimpArgs false
namespace Go.Proofs.YtngkdkbpgoddlaaGreat
open Go.RowKit Go.Rl
open Go.Gr
set_option maxHeartbeats 4000000 in
set_option maxRecDepth 100000 in
theorem next_calls (n : Nat) (iv lv ov : Value) (ins : List Int) (ls : List I5) (lost : List Int) (w : World) (hi : Sl vI w iv ins) (hl : Sm i5cells w lv ls) (ho : Sl vI w ov lost) (hln : ins.length = n) (hlo : lost.length = n) (hn : n ≤ 4096) : Gives Tryz.prog 133 #[.agg #[.int .i64 (n : Int), iv, lv, ov]] w fun r w' => ∃ z : Int, r = .int .i64 z ∧ ((∃ x, IsIn n ins x) → IsIn n ins z) ∧ Ext w w' := by
 refine Gives.start Tryz.func133 rfl (Nat.le_of_ble_eq_true rfl) ?_
 rw [args1]
 have hN := Now.nil w none_
 refine RW.seq (RW.region ?_)
 refine RL.op rfl rfl (opN_box (cs := [.int .i64 ((n : Int)), iv, lv, ov]) rfl rfl hN ?_)
 clear hN
 intro g1 w1 (hN : Now w none_ w1 [_])
 refine RL.ev (v := .int .i64 (0)) rfl rfl ev_assign (RL.nil (thenN (RW.seq (RW.region (RL.ev rfl rfl (ev_loadAll (cs := [.int .i64 ((n : Int)), iv, lv, ov]) Tryz.underlying194 rfl sz194 rfl (hN.blk 0 rfl)) ?_)))))
 refine RL.op rfl rfl (op_call1 Tryz.func183 rfl rfl rfl ((places_calls n _ _ _ ins ls lost _ (hi.o.now hN) (hl.o.now hN) (ho.o.now hN) hln (by omega)).mono ?_))
 rintro v2 w2 ⟨ho_, he_⟩
 replace hN : Now w none_ w2 [_, _] := hN.pushOwn (l := placesOf ins n) ho_ he_
 clear ho_ he_
 refine RL.ev (v := v2) rfl rfl ev_assign (RL.nil (thenN (RW.seq (RW.region (RL.ev (v := .int .i64 (-1)) rfl rfl ev_assign (RL.nil (thenN ?_)))))))
 iterate 2 refine RW.seq ?_
 refine RW.region (RL.ev (v := .int .i64 (0)) rfl rfl ev_assign (RL.nil (thenN (RW.block ?_))))
 refine RW.loop (fun k R0 w0' => ∃ z : Int, ∃ i : Nat, R0 1 = .pointer (some ⟨g1, 0, none⟩) ∧ R0 3 = v2 ∧ R0 4 = .int .i64 (z) ∧ R0 5 = .int .i64 ((i : Int)) ∧ Now w none_ w0' [.own vI 3 (v2) (placesOf ins n), .blk g1 [.int .i64 ((n : Int)), iv, lv, ov] 194] ∧ (i + k = (placesOf ins n).length) ∧ ((i = 0 ∧ z = -1) ∨ IsIn n ins z)) ((placesOf ins n).length) ?_ ?_
 exact ⟨-1, 0, rfl, rfl, rfl, rfl, hN, by omega, .inl ⟨rfl, rfl⟩⟩
 clear hN
 rintro k R0 w0' ⟨z, i, hr1_, hr3_, hr4_, hr5_, hN, hik, hz⟩
 have hR_ : ∃ R0_, R0 = (upd (upd (upd (upd R0_ 1 _) 3 _) 4 _) 5 _) := ⟨R0, by rw [upd_self hr1_, upd_self hr3_, upd_self hr4_, upd_self hr5_]⟩
 obtain ⟨R0_, rfl⟩ := hR_
 clear hr1_ hr3_ hr4_ hr5_
 iterate 2 refine RW.seq ?_
 refine RW.region (RL.ev (v := .int .i64 ((i : Int))) rfl rfl ev_move (RL.ev (v := v2) rfl rfl ev_move ?_))
 have hL_3 := (hN.sl 0 rfl).len_le
 refine RL.ev rfl rfl (ev_lenS Tryz.underlying25 (hN.sl 0 rfl) rfl) (RL.ev rfl rfl (ev_lss rfl rfl) (RL.nil (thenN ?_)))
 refine RW.condP _ rfl (fun hlt => ?_) (fun hlt => ?_)
 refine RW.skip (thenN (RW.seq (RW.block (RW.seq ?_))))
 replace hN := hN.ext (Ext.drew w0')
 refine RW.drawR rfl (fun u => Now w none_ u [.own vI 3 (v2) (placesOf ins n), .blk g1 [.int .i64 ((n : Int)), iv, lv, ov] 194]) 14 [(0,0), (1,0), (2,0), (3,0), (4,0), (5,0), (6,0), (7,0), (9,0), (10,0), (8,1), (11,1), (12,0), (13,0)] (by intro _ _ _ h; exact h) (by kernel_rfl) hN (RQ.ev (v := .int .i64 (z)) rfl rfl (fun w hS => ev_move) (RQ.ev rfl rfl (fun w hS => (ev_lss rfl rfl)) (RQ.ev (v := .bool (decide (z < 0))) rfl rfl (fun w hS => ev_move) ?_)))
 by_cases hg6_2 : z < 0
 rw [decide_eq_true hg6_2]
 iterate 10 refine RQ.off rfl rfl rfl rfl ?_
 refine RQ.ev (v := .bool true) rfl rfl (fun w hS => (ev_pickT rfl)) (RQ.done (by kernel_rfl) (thenN (RW.condT rfl (RW.region (RL.ev (v := v2) rfl rfl ev_move (RL.ev (v := .int .i64 ((i : Int))) rfl rfl ev_move (RL.ev rfl rfl (ev_index Tryz.underlying25 sz3 (hN.sl 0 rfl) rfl rfl (by omega) (by omega)) ?_)))))))
 have hOb_ : ∃ a_, ((placesOf ins n))[i]? = some a_ := ⟨_, List.getElem?_eq_getElem (by omega)⟩
 obtain ⟨ac, hac⟩ := hOb_
 refine RL.ev rfl rfl (ev_loadG (m := i) (a := ac) Tryz.underlying3 rfl (hN.sl 0 rfl) rfl hac) (RL.ev (v := .int .i64 (ac)) rfl rfl ev_assign (RL.nil (blockN (thenN (RW.region (RL.ev (v := .int .i64 ((i : Int))) rfl rfl ev_move (RL.ev rfl rfl (ev_arith rfl rfl rfl (add64 (by omega) (by omega))) (RL.ev (v := .int .i64 ((i : Int) + 1)) rfl rfl ev_assign (RL.nil ?_)))))))))
 refine thenN ?_
 exact ⟨k - 1, by omega, ac, i + 1, rfl, rfl, rfl, rfl, hN, by omega, .inr (mem_places.1 (List.mem_of_getElem? hac))⟩
 rw [decide_eq_false hg6_2]
 refine RQ.on rfl rfl rfl rfl (fun w hS => (ev_loadAll (cs := [.int .i64 ((n : Int)), iv, lv, ov]) Tryz.underlying194 rfl sz194 rfl (hS.blk 1 rfl))) (RQ.on (v := v2) rfl rfl rfl rfl (fun w hS => ev_move) (RQ.on (v := .int .i64 ((i : Int))) rfl rfl rfl rfl (fun w hS => ev_move) (RQ.on rfl rfl rfl rfl (fun w hS => (ev_index Tryz.underlying25 sz3 (hS.sl 0 rfl) rfl rfl (by omega) (by omega))) ?_)))
 have hOb_ : ∃ a_, ((placesOf ins n))[i]? = some a_ := ⟨_, List.getElem?_eq_getElem (by omega)⟩
 obtain ⟨ap, hap⟩ := hOb_
 refine RQ.on rfl rfl rfl rfl (fun w hS => (ev_loadG (m := i) (a := ap) Tryz.underlying3 rfl (hS.sl 0 rfl) rfl hap)) (RQ.on rfl rfl rfl rfl (fun w hS => (ev_loadAll (cs := [.int .i64 ((n : Int)), iv, lv, ov]) Tryz.underlying194 rfl sz194 rfl (hS.blk 1 rfl))) (RQ.on (v := .int .i64 (z)) rfl rfl rfl rfl (fun w hS => ev_move) ?_))
 refine RQ.doOn rfl rfl rfl rfl (op_call2 Tryz.func184 rfl rfl rfl rfl ((cost_calls n _ _ _ ins ls lost _ (hi.o.now hN) (hl.o.now hN) (ho.o.now hN) ap hln hlo hn).mono ?_))
 rintro _ w4 ⟨z4, rfl, he_⟩
 replace hN := hN.ext he_
 clear he_
 refine ⟨hN, ?_⟩
 refine RQ.doOn rfl rfl rfl rfl (op_call2 Tryz.func184 rfl rfl rfl rfl ((cost_calls n _ _ _ ins ls lost _ (hi.o.now hN) (hl.o.now hN) (ho.o.now hN) z hln hlo hn).mono ?_))
 rintro _ w5 ⟨z5, rfl, he_⟩
 replace hN := hN.ext he_
 clear he_
 refine ⟨hN, ?_⟩
 refine RQ.on rfl rfl rfl rfl (fun w hS => (ev_lss rfl rfl)) (RQ.ev (v := .bool (decide (z4 < z5))) rfl rfl (fun w hS => (ev_pickF rfl)) (RQ.done (by kernel_rfl) (thenN ?_)))
 refine RW.condP _ rfl (fun hc27 => ?_) (fun hc27 => ?_)
 refine RW.region (RL.ev (v := v2) rfl rfl ev_move (RL.ev (v := .int .i64 ((i : Int))) rfl rfl ev_move (RL.ev rfl rfl (ev_index Tryz.underlying25 sz3 (hN.sl 0 rfl) rfl rfl (by omega) (by omega)) ?_)))
 have hOb_ : ∃ a_, ((placesOf ins n))[i]? = some a_ := ⟨_, List.getElem?_eq_getElem (by omega)⟩
 obtain ⟨ac, hac⟩ := hOb_
 refine RL.ev rfl rfl (ev_loadG (m := i) (a := ac) Tryz.underlying3 rfl (hN.sl 0 rfl) rfl hac) (RL.ev (v := .int .i64 (ac)) rfl rfl ev_assign (RL.nil (blockN (thenN (RW.region (RL.ev (v := .int .i64 ((i : Int))) rfl rfl ev_move (RL.ev rfl rfl (ev_arith rfl rfl rfl (add64 (by omega) (by omega))) (RL.ev (v := .int .i64 ((i : Int) + 1)) rfl rfl ev_assign (RL.nil ?_)))))))))
 refine thenN ?_
 exact ⟨k - 1, by omega, ac, i + 1, rfl, rfl, rfl, rfl, hN, by omega, .inr (mem_places.1 (List.mem_of_getElem? hac))⟩
 refine RW.skip (blockN (thenN (RW.region (RL.ev (v := .int .i64 ((i : Int))) rfl rfl ev_move (RL.ev rfl rfl (ev_arith rfl rfl rfl (add64 (by omega) (by omega))) (RL.ev (v := .int .i64 ((i : Int) + 1)) rfl rfl ev_assign (RL.nil (thenN ?_))))))))
 exact ⟨k - 1, by omega, z, i + 1, rfl, rfl, rfl, rfl, hN, by omega, .inr (hz.elim (fun h => absurd h.2 (by omega)) id)⟩
 refine RW.exit ?_
 iterate 2 refine thenX ?_
 refine blockHit (thenN (RW.seq (RW.region (RL.ev (v := .int .i64 (z)) rfl rfl ev_move (RL.ev (v := .int .i64 (z)) rfl rfl ev_assign (RL.nil (thenN (RW.ret (retI (RV.tmp rfl) ?_)))))))))
 refine ⟨z, rfl, fun ⟨x, hx⟩ => ?_, hN.ext0⟩
 have hm := mem_places.2 hx
 rcases hz with h | h
 · have := List.length_pos_of_mem hm; omega
 · exact h
end Go.Proofs.YtngkdkbpgoddlaaGreat
set_option linter.unusedVariables false
set_option linter.unusedSimpArgs false
namespace Go.Proofs.YtngkdkbpgoddlaaGreat
open Go.RowKit Go.Rl
open Go.Gr
set_option maxHeartbeats 4000000 in
set_option maxRecDepth 100000 in
theorem near_calls (n : Nat) (iv lv ov : Value) (ins : List Int) (ls : List I5) (lost : List Int) (w : World) (hi : Sl vI w iv ins) (hl : Sm i5cells w lv ls) (ho : Sl vI w ov lost) (u v wo most M : Int) (hT : TOk n M ins ls) (hM : 0 ≤ M) (hnM : (n : Int) * M ≤ 1152921504606846976) (hn : n ≤ 4096) : Gives Tryz.prog 185 #[.agg #[.int .i64 (n : Int), iv, lv, ov], .int .i64 u, .int .i64 v, .int .i64 wo, .int .i64 most] w fun r w' => ∃ b : Bool, r = .bool (decide (b = true)) ∧ Ext w w' := by
 refine Gives.start Tryz.func185 rfl (Nat.le_of_ble_eq_true rfl) ?_
 rw [args5]
 have hN := Now.nil w none_
 have hln := hT.ins
 refine RW.seq (RW.region ?_)
 refine RL.op rfl rfl (opN_box (cs := [.int .i64 ((n : Int)), iv, lv, ov]) rfl rfl hN ?_)
 clear hN
 intro g1 w1 (hN : Now w none_ w1 [_])
 refine RL.ev (v := .bool false) rfl rfl ev_assign (RL.nil (thenN ?_))
 iterate 2 refine RW.seq ?_
 refine RW.region (RL.ev rfl rfl (ev_loadAll (cs := [.int .i64 ((n : Int)), iv, lv, ov]) Tryz.underlying194 rfl sz194 rfl (hN.blk 0 rfl)) (RL.ev (v := .int .i64 (u)) rfl rfl ev_move ?_))
 refine RL.op rfl rfl (op_call2 Tryz.func186 rfl rfl rfl rfl ((is_calls n _ _ _ ins ls lost _ (hi.o.now hN) (hl.o.now hN) (ho.o.now hN) u hln).mono ?_))
 rintro _ w2 ⟨rfl, he_⟩
 replace hN := hN.ext he_
 clear he_
 refine RL.ev rfl rfl (ev_notP rfl) (RL.ev (v := .bool (decide (¬ (IsIn n ins u)))) rfl rfl ev_move ?_)
 by_cases hg1_4 : ¬ (IsIn n ins u)
 rw [decide_eq_true hg1_4]
 iterate 4 refine RL.off rfl rfl (by decide) rfl rfl ?_
 refine RL.ev (v := .bool true) rfl rfl (ev_pickT rfl) (RL.ev (v := .bool true) rfl rfl ev_move ?_)
 iterate 3 refine RL.off rfl rfl (by decide) rfl rfl ?_
 refine RL.ev (v := .bool true) rfl rfl (ev_pickT rfl) (RL.ev (v := .bool true) rfl rfl ev_move ?_)
 iterate 3 refine RL.off rfl rfl (by decide) rfl rfl ?_
 refine RL.ev (v := .bool true) rfl rfl (ev_pickT rfl) (RL.nil (thenN (RW.condT rfl (RW.seq (RW.region (RL.ev (v := .bool false) rfl rfl ev_assign (RL.nil (thenN (RW.ret ?_)))))))))
 refine thenR (retI (RV.tmp rfl) ?_)
 exact ⟨_, boolEx _, hN.ext0⟩
 rw [decide_eq_false hg1_4]
 refine RL.onEv rfl rfl (by decide) rfl rfl (ev_loadAll (cs := [.int .i64 ((n : Int)), iv, lv, ov]) Tryz.underlying194 rfl sz194 rfl (hN.blk 0 rfl)) (RL.onEv (v := .int .i64 (v)) rfl rfl (by decide) rfl rfl ev_move ?_)
 refine RL.on rfl rfl (by decide) rfl rfl (op_call2 Tryz.func186 rfl rfl rfl rfl ((is_calls n _ _ _ ins ls lost _ (hi.o.now hN) (hl.o.now hN) (ho.o.now hN) v hln).mono ?_))
 rintro _ w3 ⟨rfl, he_⟩
 replace hN := hN.ext he_
 clear he_
 refine RL.onEv rfl rfl (by decide) rfl rfl (ev_notP rfl) (RL.ev (v := .bool (decide (¬ (IsIn n ins v)))) rfl rfl (ev_pickF rfl) (RL.ev (v := .bool (decide (¬ (IsIn n ins v)))) rfl rfl ev_move ?_))
 by_cases hg1_10 : ¬ (IsIn n ins v)
 rw [decide_eq_true hg1_10]
 iterate 3 refine RL.off rfl rfl (by decide) rfl rfl ?_
 refine RL.ev (v := .bool true) rfl rfl (ev_pickT rfl) (RL.ev (v := .bool true) rfl rfl ev_move ?_)
 iterate 3 refine RL.off rfl rfl (by decide) rfl rfl ?_
 refine RL.ev (v := .bool true) rfl rfl (ev_pickT rfl) (RL.nil (thenN (RW.condT rfl (RW.seq (RW.region (RL.ev (v := .bool false) rfl rfl ev_assign (RL.nil (thenN (RW.ret ?_)))))))))
 refine thenR (retI (RV.tmp rfl) ?_)
 exact ⟨_, boolEx _, hN.ext0⟩
 rw [decide_eq_false hg1_10]
 refine RL.onEv (v := .int .i64 (u)) rfl rfl (by decide) rfl rfl ev_move (RL.onEv (v := .int .i64 (wo)) rfl rfl (by decide) rfl rfl ev_move (RL.onEv rfl rfl (by decide) rfl rfl (ev_eql rfl rfl) (RL.ev (v := .bool (decide (u = wo))) rfl rfl (ev_pickF rfl) (RL.ev (v := .bool (decide (u = wo))) rfl rfl ev_move ?_))))
 by_cases hg1_15 : u = wo
 rw [decide_eq_true hg1_15]
 iterate 3 refine RL.off rfl rfl (by decide) rfl rfl ?_
 refine RL.ev (v := .bool true) rfl rfl (ev_pickT rfl) (RL.nil (thenN (RW.condT rfl (RW.seq (RW.region (RL.ev (v := .bool false) rfl rfl ev_assign (RL.nil (thenN (RW.ret ?_)))))))))
 refine thenR (retI (RV.tmp rfl) ?_)
 exact ⟨_, boolEx _, hN.ext0⟩
 rw [decide_eq_false hg1_15]
 refine RL.onEv (v := .int .i64 (v)) rfl rfl (by decide) rfl rfl ev_move (RL.onEv (v := .int .i64 (wo)) rfl rfl (by decide) rfl rfl ev_move (RL.onEv rfl rfl (by decide) rfl rfl (ev_eql rfl rfl) (RL.ev (v := .bool (decide (v = wo))) rfl rfl (ev_pickF rfl) (RL.nil (thenN ?_)))))
 refine RW.condP _ rfl (fun hc35 => ?_) (fun hc35 => ?_)
 refine RW.seq (RW.region (RL.ev (v := .bool false) rfl rfl ev_assign (RL.nil (thenN (RW.ret (thenR (retI (RV.tmp rfl) ?_)))))))
 exact ⟨_, boolEx _, hN.ext0⟩
 refine RW.skip (thenN (RW.seq ?_))
 have hu := Decidable.not_not.1 hg1_4
 have hv := Decidable.not_not.1 hg1_10
 have hu0 := hu.1
 have hu1 := hu.2.1
 have hv0 := hv.1
 have hv1 := hv.2.1
 refine RW.region (RL.ev rfl rfl (ev_fieldAddr Tryz.underlying194 rfl sz3 (by decide) rfl) (RL.ev rfl rfl (ev_loadB Tryz.underlying3 rfl rfl (hN.blk 0 rfl) rfl) ?_))
 refine RL.op rfl rfl (opN_make (enc := vI) (z := 0) Tryz.underlying25 inf3 rfl hN rfl (by omega) (by omega) (by omega) ?_)
 clear hN
 intro v4 w4 (hN : Now w none_ w4 [_, _])
 refine RL.ev (v := v4) rfl rfl ev_assign (RL.nil (thenN ?_))
 iterate 2 refine RW.seq ?_
 refine RW.region (RL.ev (v := .int .i64 (0)) rfl rfl ev_assign (RL.nil (thenN (RW.block ?_))))
 refine RW.loop (fun k R0 w0' => ∃ d0 : List Int, ∃ i : Nat, R0 1 = .int .i64 (u) ∧ R0 2 = .int .i64 (v) ∧ R0 3 = .int .i64 (wo) ∧ R0 4 = .int .i64 (most) ∧ R0 5 = .pointer (some ⟨g1, 0, none⟩) ∧ R0 11 = v4 ∧ R0 12 = .int .i64 ((i : Int)) ∧ Now w none_ w0' [.own vI 3 (v4) (d0), .blk g1 [.int .i64 ((n : Int)), iv, lv, ov] 194] ∧ (i + k = n) ∧ (d0.length = n) ∧ (∀ j, j < i → d0[j]? = some (-1))) (n) ?_ ?_
 exact ⟨List.replicate n 0, 0, rfl, rfl, rfl, rfl, rfl, rfl, rfl, hN, by omega, List.length_replicate, fun j hj => by omega⟩
 clear hN
 rintro k R0 w0' ⟨d0, i, hr1_, hr2_, hr3_, hr4_, hr5_, hr11_, hr12_, hN, hik, h0l, h0⟩
 have hR_ : ∃ R0_, R0 = (upd (upd (upd (upd (upd (upd (upd R0_ 1 _) 2 _) 3 _) 4 _) 5 _) 11 _) 12 _) := ⟨R0, by rw [upd_self hr1_, upd_self hr2_, upd_self hr3_, upd_self hr4_, upd_self hr5_, upd_self hr11_, upd_self hr12_]⟩
 obtain ⟨R0_, rfl⟩ := hR_
 clear hr1_ hr2_ hr3_ hr4_ hr5_ hr11_ hr12_
 iterate 2 refine RW.seq ?_
 refine RW.region (RL.ev (v := .int .i64 ((i : Int))) rfl rfl ev_move (RL.ev rfl rfl (ev_fieldAddr Tryz.underlying194 rfl sz3 (by decide) rfl) (RL.ev rfl rfl (ev_loadB Tryz.underlying3 rfl rfl (hN.blk 1 rfl) rfl) (RL.ev rfl rfl (ev_lss rfl rfl) (RL.nil (thenN ?_))))))
 refine RW.condP _ rfl (fun hlt => ?_) (fun hlt => ?_)
 refine RW.skip (thenN (RW.seq (RW.block (RW.region (RL.ev (v := v4) rfl rfl ev_move (RL.ev (v := .int .i64 ((i : Int))) rfl rfl ev_move (RL.ev rfl rfl (ev_index Tryz.underlying25 sz3 (hN.sl 0 rfl) rfl rfl (by omega) (by omega)) ?_)))))))
 refine RL.op rfl rfl (opN_storeOwn (m := i) (a := (-1)) sz3 hN 0 rfl rfl (by omega) rfl rfl rfl rfl ?_)
 clear hN
 intro w5 (hN : Now w none_ w5 [_, _])
 refine RL.nil (blockN (thenN (RW.region (RL.ev (v := .int .i64 ((i : Int))) rfl rfl ev_move (RL.ev rfl rfl (ev_arith rfl rfl rfl (add64 (by omega) (by omega))) (RL.ev (v := .int .i64 ((i : Int) + 1)) rfl rfl ev_assign (RL.nil (thenN ?_))))))))
 exact ⟨k - 1, by omega, (d0).set i ((-1)), i + 1, rfl, rfl, rfl, rfl, rfl, rfl, rfl, hN, by omega, by rw [List.length_set]; exact h0l, all_set (by omega) h0⟩
 refine RW.exit ?_
 iterate 2 refine thenX ?_
 refine blockHit (thenN (RW.seq ?_))
 have hd0 : d0 = List.replicate n (-1) := all_rep h0l (fun j hj => h0 j (by omega))
 have hrl : (List.replicate n (-1 : Int)).length = n := List.length_replicate
 replace hN := hN.relist 0 rfl (show _ = (List.replicate n (-1)) from hd0)
 replace hN : Now w none_ w0' [_, _] := hN
 refine RW.region (RL.ev (v := v4) rfl rfl ev_move (RL.ev (v := .int .i64 (u)) rfl rfl ev_move (RL.ev rfl rfl (ev_index Tryz.underlying25 sz3 (hN.sl 0 rfl) rfl rfl (by omega) (by omega)) ?_)))
 refine RL.op rfl rfl (opN_storeOwn (m := (u).toNat) (a := 0) sz3 hN 0 rfl rfl (by omega) rfl rfl rfl rfl ?_)
 clear hN
 intro w6 (hN : Now w none_ w6 [_, _])
 refine RL.nil (thenN ?_)
 iterate 2 refine RW.seq ?_
 refine RW.region (RL.ev (v := .bool true) rfl rfl ev_assign (RL.nil (thenN (RW.block ?_))))
 refine RW.loop (fun k1 R1 w1' => ∃ d1 : List Int, ∃ m : Bool, R1 2 = .int .i64 (v) ∧ R1 3 = .int .i64 (wo) ∧ R1 4 = .int .i64 (most) ∧ R1 5 = .pointer (some ⟨g1, 0, none⟩) ∧ R1 11 = v4 ∧ R1 13 = .bool (decide (m = true)) ∧ Now w none_ w1' [.own vI 3 (v4) (d1), .blk g1 [.int .i64 ((n : Int)), iv, lv, ov] 194] ∧ (k1 = 2 * pot ((n : Int) * M).toNat d1 + m.toNat) ∧ (Dist n M d1)) (2 * pot ((n : Int) * M).toNat ((List.replicate n (-1)).set (u).toNat (0)) + 1) ?_ ?_
 exact ⟨(List.replicate n (-1)).set (u).toNat (0), true, rfl, rfl, rfl, rfl, rfl, rfl, hN, rfl, Dist.start hM (show (u).toNat < n by omega)⟩
 clear hN
 rintro k1 R1 w1' ⟨d1, m, hr2_, hr3_, hr4_, hr5_, hr11_, hr13_, hN, hk1, hD⟩
 have hR_ : ∃ R1_, R1 = (upd (upd (upd (upd (upd (upd R1_ 2 _) 3 _) 4 _) 5 _) 11 _) 13 _) := ⟨R1, by rw [upd_self hr2_, upd_self hr3_, upd_self hr4_, upd_self hr5_, upd_self hr11_, upd_self hr13_]⟩
 obtain ⟨R1_, rfl⟩ := hR_
 clear hr2_ hr3_ hr4_ hr5_ hr11_ hr13_
 iterate 2 refine RW.seq ?_
 refine RW.region (RL.ev (v := .bool (decide (m = true))) rfl rfl ev_move (RL.nil (thenN ?_)))
 refine RW.condP _ rfl (fun hm => ?_) (fun hm => ?_)
 refine RW.skip (thenN (RW.block (RW.seq (RW.region (RL.ev (v := .bool false) rfl rfl ev_assign (RL.nil (thenN (RW.seq (RW.region ?_)))))))))
 refine RL.ev (v := .int .i64 (0)) rfl rfl ev_assign (RL.nil (thenN (RW.block ?_)))
 refine RW.loop (fun k2 R2 w2' => ∃ d2 : List Int, ∃ m2 : Bool, ∃ q : Nat, R2 2 = .int .i64 (v) ∧ R2 3 = .int .i64 (wo) ∧ R2 4 = .int .i64 (most) ∧ R2 5 = .pointer (some ⟨g1, 0, none⟩) ∧ R2 11 = v4 ∧ R2 13 = .bool (decide (m2 = true)) ∧ R2 14 = .int .i64 ((q : Int)) ∧ Now w none_ w2' [.own vI 3 (v4) (d2), .blk g1 [.int .i64 ((n : Int)), iv, lv, ov] 194] ∧ (q + k2 = ls.length) ∧ (Dist n M d2) ∧ (pot ((n : Int) * M).toNat d2 + m2.toNat ≤ pot ((n : Int) * M).toNat d1)) (ls.length) ?_ ?_
 exact ⟨d1, false, 0, rfl, rfl, rfl, rfl, rfl, rfl, rfl, hN, by omega, hD, Nat.le_refl _⟩
 clear hN
 rintro k2 R2 w2' ⟨d2, m2, q, hr2_, hr3_, hr4_, hr5_, hr11_, hr13_, hr14_, hN, hqk, hD2, hp⟩
 have hR_ : ∃ R2_, R2 = (upd (upd (upd (upd (upd (upd (upd R2_ 2 _) 3 _) 4 _) 5 _) 11 _) 13 _) 14 _) := ⟨R2, by rw [upd_self hr2_, upd_self hr3_, upd_self hr4_, upd_self hr5_, upd_self hr11_, upd_self hr13_, upd_self hr14_]⟩
 obtain ⟨R2_, rfl⟩ := hR_
 clear hr2_ hr3_ hr4_ hr5_ hr11_ hr13_ hr14_
 iterate 2 refine RW.seq ?_
 refine RW.region (RL.ev (v := .int .i64 ((q : Int))) rfl rfl ev_move (RL.ev rfl rfl (ev_fieldAddr Tryz.underlying194 rfl sz192 (by decide) rfl) (RL.ev rfl rfl (ev_loadB Tryz.underlying192 rfl rfl (hN.blk 1 rfl) rfl) ?_)))
 have hL_7 := (hl.o.now hN).len_le
 refine RL.ev rfl rfl (ev_lenM Tryz.underlying192 (hl.o.now hN) rfl) (RL.ev rfl rfl (ev_lss rfl rfl) (RL.nil (thenN ?_)))
 refine RW.condP _ rfl (fun hlt2 => ?_) (fun hlt2 => ?_)
 refine RW.skip (thenN (RW.seq (RW.block (RW.seq (RW.region (RL.ev rfl rfl (ev_fieldAddr Tryz.underlying194 rfl sz192 (by decide) rfl) (RL.ev rfl rfl (ev_loadB Tryz.underlying192 rfl rfl (hN.blk 1 rfl) rfl) (RL.ev (v := .int .i64 ((q : Int))) rfl rfl ev_move (RL.ev rfl rfl (ev_indexM Tryz.underlying192 sz248 i5cells_len (by decide) (hl.o.now hN) rfl rfl (by omega) (by omega)) ?_)))))))))
 have hOb_ : ∃ a_, (ls)[q]? = some a_ := ⟨_, List.getElem?_eq_getElem (by omega)⟩
 obtain ⟨ap, hap⟩ := hOb_
 refine RL.ev rfl rfl (ev_loadM (m := q) (a := ap) Tryz.underlying248 rfl sz248 i5cells_len (by decide) (hl.o.now hN) rfl hap (cs := [.int .i64 (ap.1), .int .i64 (ap.2.1), .int .i64 (ap.2.2.1), .int .i64 (ap.2.2.2.1), .int .i64 (ap.2.2.2.2)]) rfl) ?_
 have hx := hT.ws ap (List.mem_of_getElem? hap)
 have hOb_ := hT.ws ap (List.mem_of_getElem? hap)
 obtain ⟨hx1, hx2, hx3, hx4, hx5, hx6⟩ := hOb_
 have hdl := hD2.len
 refine RL.op rfl rfl (opN_alloc (cs := [.int .i64 (0), .int .i64 (0), .int .i64 (0), .int .i64 (0), .int .i64 (0)]) zero248 rfl hN ?_)
 clear hN
 intro g8 w8 (hN : Now w none_ w8 [_, _, _])
 refine RL.op rfl rfl (opN_storeAll (vs := [.int .i64 (ap.1), .int .i64 (ap.2.1), .int .i64 (ap.2.2.1), .int .i64 (ap.2.2.2.1), .int .i64 (ap.2.2.2.2)]) sz248 rfl rfl rfl (by intro u hu; simp only [List.mem_cons, List.not_mem_nil, or_false] at hu; rcases hu with rfl | rfl | rfl | rfl | rfl <;> first | rfl) hN 0 rfl rfl ?_)
 clear hN
 intro w9 (hN : Now w none_ w9 [_, _, _])
 have hOb_ : ∃ a_, d2[(ap.1).toNat]? = some a_ := ⟨_, List.getElem?_eq_getElem (by omega)⟩
 obtain ⟨aa, haa⟩ := hOb_
 have hOb_ : ∃ a_, d2[(ap.2.1).toNat]? = some a_ := ⟨_, List.getElem?_eq_getElem (by omega)⟩
 obtain ⟨ab, hab⟩ := hOb_
 have hta := hD2.top hM (List.mem_of_getElem? haa)
 have htl := hD2.low aa (List.mem_of_getElem? haa)
 have hMM : M ≤ 1152921504606846976 := by
   have h1 : (1 : Int) * M ≤ (n : Int) * M := Int.mul_le_mul_of_nonneg_right (by omega) hM
   omega
 refine RL.nil (thenN (RW.seq ?_))
 replace hN := hN.ext (Ext.drew w9)
 refine RW.drawR rfl (fun u => Now w none_ u [.blk g8 [.int .i64 (ap.1), .int .i64 (ap.2.1), .int .i64 (ap.2.2.1), .int .i64 (ap.2.2.2.1), .int .i64 (ap.2.2.2.2)] 248, .own vI 3 (v4) (d2), .blk g1 [.int .i64 ((n : Int)), iv, lv, ov] 194]) 43 [(0,0), (1,0), (2,0), (3,0), (4,0), (5,0), (6,0), (7,0), (8,0), (9,0), (10,0), (11,0), (12,0), (13,0), (14,0), (15,0), (16,0), (17,0), (18,0), (19,0), (20,0), (21,0), (22,0), (23,0), (24,0), (25,0), (26,0), (27,0), (28,0), (29,0), (30,0), (31,0), (32,0), (33,0), (34,0), (35,0), (36,0), (37,0), (38,0), (39,0), (40,0), (41,0), (42,0)] (by intro _ _ _ h; exact h) (by kernel_rfl) hN (RQ.ev rfl rfl (fun w hS => (ev_fieldAddr Tryz.underlying248 rfl sz3 (by decide) rfl)) (RQ.ev rfl rfl (fun w hS => (ev_loadB Tryz.underlying3 rfl rfl (hS.blk 0 rfl) rfl)) (RQ.ev (v := .int .i64 (wo)) rfl rfl (fun w hS => ev_move) (RQ.ev rfl rfl (fun w hS => (ev_neq rfl rfl)) (RQ.ev (v := .bool (decide (¬ ap.1 = wo))) rfl rfl (fun w hS => ev_move) ?_)))))
 by_cases hg16_4 : ¬ ap.1 = wo
 rw [decide_eq_true hg16_4]
 refine RQ.on rfl rfl rfl rfl (fun w hS => (ev_fieldAddr Tryz.underlying248 rfl sz3 (by decide) rfl)) (RQ.on rfl rfl rfl rfl (fun w hS => (ev_loadB Tryz.underlying3 rfl rfl (hS.blk 0 rfl) rfl)) (RQ.on (v := .int .i64 (wo)) rfl rfl rfl rfl (fun w hS => ev_move) (RQ.on rfl rfl rfl rfl (fun w hS => (ev_neq rfl rfl)) (RQ.ev (v := .bool (decide (¬ ap.2.1 = wo))) rfl rfl (fun w hS => (ev_pickT rfl)) (RQ.ev (v := .bool (decide (¬ ap.2.1 = wo))) rfl rfl (fun w hS => ev_move) ?_)))))
 by_cases hg16_10 : ¬ ap.2.1 = wo
 rw [decide_eq_true hg16_10]
 refine RQ.on (v := v4) rfl rfl rfl rfl (fun w hS => ev_move) (RQ.on rfl rfl rfl rfl (fun w hS => (ev_fieldAddr Tryz.underlying248 rfl sz3 (by decide) rfl)) (RQ.on rfl rfl rfl rfl (fun w hS => (ev_loadB Tryz.underlying3 rfl rfl (hS.blk 0 rfl) rfl)) (RQ.on rfl rfl rfl rfl (fun w hS => (ev_index Tryz.underlying25 sz3 (hS.sl 1 rfl) rfl rfl (by omega) (by omega))) (RQ.on rfl rfl rfl rfl (fun w hS => (ev_loadG (m := (ap.1).toNat) (a := aa) Tryz.underlying3 rfl (hS.sl 1 rfl) rfl haa)) (RQ.on rfl rfl rfl rfl (fun w hS => (ev_geq rfl rfl)) (RQ.ev (v := .bool (decide (0 ≤ aa))) rfl rfl (fun w hS => (ev_pickT rfl)) (RQ.ev (v := .bool (decide (0 ≤ aa))) rfl rfl (fun w hS => ev_move) ?_)))))))
 by_cases hg16_18 : 0 ≤ aa
 rw [decide_eq_true hg16_18]
 refine RQ.on (v := v4) rfl rfl rfl rfl (fun w hS => ev_move) (RQ.on rfl rfl rfl rfl (fun w hS => (ev_fieldAddr Tryz.underlying248 rfl sz3 (by decide) rfl)) (RQ.on rfl rfl rfl rfl (fun w hS => (ev_loadB Tryz.underlying3 rfl rfl (hS.blk 0 rfl) rfl)) (RQ.on rfl rfl rfl rfl (fun w hS => (ev_index Tryz.underlying25 sz3 (hS.sl 1 rfl) rfl rfl (by omega) (by omega))) (RQ.on rfl rfl rfl rfl (fun w hS => (ev_loadG (m := (ap.2.1).toNat) (a := ab) Tryz.underlying3 rfl (hS.sl 1 rfl) rfl hab)) (RQ.on rfl rfl rfl rfl (fun w hS => (ev_lss rfl rfl)) (RQ.on (v := .bool (decide (ab < 0))) rfl rfl rfl rfl (fun w hS => ev_move) ?_))))))
 by_cases hg16_25 : ab < 0
 rw [decide_eq_true hg16_25]
 iterate 15 refine RQ.off rfl rfl rfl rfl ?_
 refine RQ.on (v := .bool true) rfl rfl rfl rfl (fun w hS => (ev_pickT rfl)) (RQ.ev (v := .bool true) rfl rfl (fun w hS => (ev_pickT rfl)) (RQ.done (by kernel_rfl) (thenN (RW.condT rfl (RW.seq ?_)))))
 have hcnd : ab < 0 ∨ aa + ap.2.2.1 < ab := by first | exact .inl (by assumption) | exact .inr (by assumption)
 replace hN := hN.ext (Ext.drew w9.drew)
 refine RW.drawR rfl (fun u => Now w none_ u [.blk g8 [.int .i64 (ap.1), .int .i64 (ap.2.1), .int .i64 (ap.2.2.1), .int .i64 (ap.2.2.2.1), .int .i64 (ap.2.2.2.2)] 248, .own vI 3 (v4) (d2), .blk g1 [.int .i64 ((n : Int)), iv, lv, ov] 194]) 13 [(0,0), (1,0), (2,0), (3,0), (4,0), (5,0), (6,0), (7,0), (8,0), (9,0), (10,0), (11,0), (12,0), (13,2)] (by intro _ _ _ h; exact h) (by kernel_rfl) hN (RQ.ev (v := v4) rfl rfl (fun w hS => ev_move) (RQ.ev rfl rfl (fun w hS => (ev_fieldAddr Tryz.underlying248 rfl sz3 (by decide) rfl)) (RQ.ev rfl rfl (fun w hS => (ev_loadB Tryz.underlying3 rfl rfl (hS.blk 0 rfl) rfl)) (RQ.ev (v := v4) rfl rfl (fun w hS => ev_move) (RQ.ev rfl rfl (fun w hS => (ev_fieldAddr Tryz.underlying248 rfl sz3 (by decide) rfl)) (RQ.ev rfl rfl (fun w hS => (ev_loadB Tryz.underlying3 rfl rfl (hS.blk 0 rfl) rfl)) (RQ.ev rfl rfl (fun w hS => (ev_index Tryz.underlying25 sz3 (hS.sl 1 rfl) rfl rfl (by omega) (by omega))) (RQ.ev rfl rfl (fun w hS => (ev_loadG (m := (ap.1).toNat) (a := aa) Tryz.underlying3 rfl (hS.sl 1 rfl) rfl haa)) (RQ.ev rfl rfl (fun w hS => (ev_fieldAddr Tryz.underlying248 rfl sz96 (by decide) rfl)) ?_)))))))))
 refine RQ.ev rfl rfl (fun w hS => (ev_fieldAddr Tryz.underlying96 rfl sz3 (by decide) rfl)) (RQ.ev rfl rfl (fun w hS => (ev_loadB Tryz.underlying3 rfl rfl (hS.blk 0 rfl) rfl)) (RQ.ev rfl rfl (fun w hS => (ev_arith rfl rfl rfl (add64 (by omega) (by omega)))) (RQ.ev rfl rfl (fun w hS => (ev_index Tryz.underlying25 sz3 (hS.sl 1 rfl) rfl rfl (by omega) (by omega))) ?_)))
 refine RQ.last rfl rfl (opN_storeOwn (m := (ap.2.1).toNat) (a := (aa + ap.2.2.1)) sz3 hN 1 rfl rfl (by omega) rfl rfl rfl rfl ?_)
 clear hN
 intro w13 (hN : Now w none_ w13 [_, _, _])
 refine RZ.done (by kernel_rfl) (thenN (RW.region (RL.ev (v := .bool true) rfl rfl ev_assign (RL.nil (blockN (thenN (RW.region (RL.ev (v := .int .i64 ((q : Int))) rfl rfl ev_move (RL.ev rfl rfl (ev_arith rfl rfl rfl (add64 (by omega) (by omega))) ?_)))))))))
 refine RL.ev (v := .int .i64 ((q : Int) + 1)) rfl rfl ev_assign (RL.nil (thenN ?_))
 have hst := hD2.step hM haa hab (by assumption) ⟨hx.2.2.2.2.1, hx.2.2.2.2.2⟩ hcnd
 exact ⟨k2 - 1, by omega, (d2).set (ap.2.1).toNat ((aa + ap.2.2.1)), true, q + 1, rfl, rfl, rfl, rfl, rfl, rfl, rfl, (hN.sub [1, 2] (by decide) rfl), by omega, hst.1, Nat.le_trans hst.2 (by omega)⟩
 rw [decide_eq_false hg16_25]
 refine RQ.on (v := v4) rfl rfl rfl rfl (fun w hS => ev_move) (RQ.on rfl rfl rfl rfl (fun w hS => (ev_fieldAddr Tryz.underlying248 rfl sz3 (by decide) rfl)) (RQ.on rfl rfl rfl rfl (fun w hS => (ev_loadB Tryz.underlying3 rfl rfl (hS.blk 0 rfl) rfl)) (RQ.on rfl rfl rfl rfl (fun w hS => (ev_index Tryz.underlying25 sz3 (hS.sl 1 rfl) rfl rfl (by omega) (by omega))) (RQ.on rfl rfl rfl rfl (fun w hS => (ev_loadG (m := (ap.1).toNat) (a := aa) Tryz.underlying3 rfl (hS.sl 1 rfl) rfl haa)) (RQ.on rfl rfl rfl rfl (fun w hS => (ev_fieldAddr Tryz.underlying248 rfl sz96 (by decide) rfl)) (RQ.on rfl rfl rfl rfl (fun w hS => (ev_fieldAddr Tryz.underlying96 rfl sz3 (by decide) rfl)) (RQ.on rfl rfl rfl rfl (fun w hS => (ev_loadB Tryz.underlying3 rfl rfl (hS.blk 0 rfl) rfl)) (RQ.on rfl rfl rfl rfl (fun w hS => (ev_arith rfl rfl rfl (add64 (by omega) (by omega)))) (RQ.on (v := v4) rfl rfl rfl rfl (fun w hS => ev_move) ?_)))))))))
 refine RQ.on rfl rfl rfl rfl (fun w hS => (ev_fieldAddr Tryz.underlying248 rfl sz3 (by decide) rfl)) (RQ.on rfl rfl rfl rfl (fun w hS => (ev_loadB Tryz.underlying3 rfl rfl (hS.blk 0 rfl) rfl)) (RQ.on rfl rfl rfl rfl (fun w hS => (ev_index Tryz.underlying25 sz3 (hS.sl 1 rfl) rfl rfl (by omega) (by omega))) (RQ.on rfl rfl rfl rfl (fun w hS => (ev_loadG (m := (ap.2.1).toNat) (a := ab) Tryz.underlying3 rfl (hS.sl 1 rfl) rfl hab)) (RQ.on rfl rfl rfl rfl (fun w hS => (ev_lss rfl rfl)) (RQ.on (v := .bool (decide (aa + ap.2.2.1 < ab))) rfl rfl rfl rfl (fun w hS => (ev_pickF rfl)) (RQ.ev (v := .bool (decide (aa + ap.2.2.1 < ab))) rfl rfl (fun w hS => (ev_pickT rfl)) (RQ.done (by kernel_rfl) (thenN ?_))))))))
 refine RW.condP _ rfl (fun hc106 => ?_) (fun hc106 => ?_)
 refine RW.seq ?_
 have hcnd : ab < 0 ∨ aa + ap.2.2.1 < ab := by first | exact .inl (by assumption) | exact .inr (by assumption)
 replace hN := hN.ext (Ext.drew w9.drew)
 refine RW.drawR rfl (fun u => Now w none_ u [.blk g8 [.int .i64 (ap.1), .int .i64 (ap.2.1), .int .i64 (ap.2.2.1), .int .i64 (ap.2.2.2.1), .int .i64 (ap.2.2.2.2)] 248, .own vI 3 (v4) (d2), .blk g1 [.int .i64 ((n : Int)), iv, lv, ov] 194]) 13 [(0,0), (1,0), (2,0), (3,0), (4,0), (5,0), (6,0), (7,0), (8,0), (9,0), (10,0), (11,0), (12,0), (13,2)] (by intro _ _ _ h; exact h) (by kernel_rfl) hN (RQ.ev (v := v4) rfl rfl (fun w hS => ev_move) (RQ.ev rfl rfl (fun w hS => (ev_fieldAddr Tryz.underlying248 rfl sz3 (by decide) rfl)) (RQ.ev rfl rfl (fun w hS => (ev_loadB Tryz.underlying3 rfl rfl (hS.blk 0 rfl) rfl)) (RQ.ev (v := v4) rfl rfl (fun w hS => ev_move) (RQ.ev rfl rfl (fun w hS => (ev_fieldAddr Tryz.underlying248 rfl sz3 (by decide) rfl)) (RQ.ev rfl rfl (fun w hS => (ev_loadB Tryz.underlying3 rfl rfl (hS.blk 0 rfl) rfl)) (RQ.ev rfl rfl (fun w hS => (ev_index Tryz.underlying25 sz3 (hS.sl 1 rfl) rfl rfl (by omega) (by omega))) (RQ.ev rfl rfl (fun w hS => (ev_loadG (m := (ap.1).toNat) (a := aa) Tryz.underlying3 rfl (hS.sl 1 rfl) rfl haa)) (RQ.ev rfl rfl (fun w hS => (ev_fieldAddr Tryz.underlying248 rfl sz96 (by decide) rfl)) ?_)))))))))
 refine RQ.ev rfl rfl (fun w hS => (ev_fieldAddr Tryz.underlying96 rfl sz3 (by decide) rfl)) (RQ.ev rfl rfl (fun w hS => (ev_loadB Tryz.underlying3 rfl rfl (hS.blk 0 rfl) rfl)) (RQ.ev rfl rfl (fun w hS => (ev_arith rfl rfl rfl (add64 (by omega) (by omega)))) (RQ.ev rfl rfl (fun w hS => (ev_index Tryz.underlying25 sz3 (hS.sl 1 rfl) rfl rfl (by omega) (by omega))) ?_)))
 refine RQ.last rfl rfl (opN_storeOwn (m := (ap.2.1).toNat) (a := (aa + ap.2.2.1)) sz3 hN 1 rfl rfl (by omega) rfl rfl rfl rfl ?_)
 clear hN
 intro w17 (hN : Now w none_ w17 [_, _, _])
 refine RZ.done (by kernel_rfl) (thenN (RW.region (RL.ev (v := .bool true) rfl rfl ev_assign (RL.nil (blockN (thenN (RW.region (RL.ev (v := .int .i64 ((q : Int))) rfl rfl ev_move (RL.ev rfl rfl (ev_arith rfl rfl rfl (add64 (by omega) (by omega))) ?_)))))))))
 refine RL.ev (v := .int .i64 ((q : Int) + 1)) rfl rfl ev_assign (RL.nil (thenN ?_))
 have hst := hD2.step hM haa hab (by assumption) ⟨hx.2.2.2.2.1, hx.2.2.2.2.2⟩ hcnd
 exact ⟨k2 - 1, by omega, (d2).set (ap.2.1).toNat ((aa + ap.2.2.1)), true, q + 1, rfl, rfl, rfl, rfl, rfl, rfl, rfl, (hN.sub [1, 2] (by decide) rfl), by omega, hst.1, Nat.le_trans hst.2 (by omega)⟩
 refine RW.skip (blockN (thenN (RW.region (RL.ev (v := .int .i64 ((q : Int))) rfl rfl ev_move (RL.ev rfl rfl (ev_arith rfl rfl rfl (add64 (by omega) (by omega))) (RL.ev (v := .int .i64 ((q : Int) + 1)) rfl rfl ev_assign (RL.nil (thenN ?_))))))))
 exact ⟨k2 - 1, by omega, _, _, q + 1, rfl, rfl, rfl, rfl, rfl, rfl, rfl, (hN.sub [1, 2] (by decide) rfl), by omega, by omega, by omega⟩
 rw [decide_eq_false hg16_18]
 iterate 7 refine RQ.off rfl rfl rfl rfl ?_
 iterate 15 refine RQ.offU rfl rfl rfl rfl ?_
 refine RQ.off rfl rfl rfl rfl (RQ.ev (v := .bool false) rfl rfl (fun w hS => (ev_pickF rfl)) (RQ.done (by kernel_rfl) (thenN (RW.condF rfl (RW.skip (blockN (thenN (RW.region (RL.ev (v := .int .i64 ((q : Int))) rfl rfl ev_move ?_)))))))))
 refine RL.ev rfl rfl (ev_arith rfl rfl rfl (add64 (by omega) (by omega))) (RL.ev (v := .int .i64 ((q : Int) + 1)) rfl rfl ev_assign (RL.nil (thenN ?_)))
 exact ⟨k2 - 1, by omega, _, _, q + 1, rfl, rfl, rfl, rfl, rfl, rfl, rfl, (hN.sub [1, 2] (by decide) rfl), by omega, by omega, by omega⟩
 rw [decide_eq_false hg16_10]
 iterate 6 refine RQ.off rfl rfl rfl rfl ?_
 refine RQ.ev (v := .bool false) rfl rfl (fun w hS => (ev_pickF rfl)) (RQ.ev (v := .bool false) rfl rfl (fun w hS => ev_move) ?_)
 iterate 7 refine RQ.off rfl rfl rfl rfl ?_
 iterate 15 refine RQ.offU rfl rfl rfl rfl ?_
 refine RQ.off rfl rfl rfl rfl (RQ.ev (v := .bool false) rfl rfl (fun w hS => (ev_pickF rfl)) (RQ.done (by kernel_rfl) (thenN (RW.condF rfl (RW.skip (blockN (thenN (RW.region (RL.ev (v := .int .i64 ((q : Int))) rfl rfl ev_move ?_)))))))))
 refine RL.ev rfl rfl (ev_arith rfl rfl rfl (add64 (by omega) (by omega))) (RL.ev (v := .int .i64 ((q : Int) + 1)) rfl rfl ev_assign (RL.nil (thenN ?_)))
 exact ⟨k2 - 1, by omega, _, _, q + 1, rfl, rfl, rfl, rfl, rfl, rfl, rfl, (hN.sub [1, 2] (by decide) rfl), by omega, by omega, by omega⟩
 rw [decide_eq_false hg16_4]
 iterate 4 refine RQ.off rfl rfl rfl rfl ?_
 refine RQ.ev (v := .bool false) rfl rfl (fun w hS => (ev_pickF rfl)) (RQ.ev (v := .bool false) rfl rfl (fun w hS => ev_move) ?_)
 iterate 6 refine RQ.off rfl rfl rfl rfl ?_
 refine RQ.ev (v := .bool false) rfl rfl (fun w hS => (ev_pickF rfl)) (RQ.ev (v := .bool false) rfl rfl (fun w hS => ev_move) ?_)
 iterate 7 refine RQ.off rfl rfl rfl rfl ?_
 iterate 15 refine RQ.offU rfl rfl rfl rfl ?_
 refine RQ.off rfl rfl rfl rfl (RQ.ev (v := .bool false) rfl rfl (fun w hS => (ev_pickF rfl)) (RQ.done (by kernel_rfl) (thenN (RW.condF rfl (RW.skip (blockN (thenN (RW.region (RL.ev (v := .int .i64 ((q : Int))) rfl rfl ev_move ?_)))))))))
 refine RL.ev rfl rfl (ev_arith rfl rfl rfl (add64 (by omega) (by omega))) (RL.ev (v := .int .i64 ((q : Int) + 1)) rfl rfl ev_assign (RL.nil (thenN ?_)))
 exact ⟨k2 - 1, by omega, _, _, q + 1, rfl, rfl, rfl, rfl, rfl, rfl, rfl, (hN.sub [1, 2] (by decide) rfl), by omega, by omega, by omega⟩
 refine RW.exit ?_
 iterate 2 refine thenX ?_
 refine blockHit (blockN (thenN ?_))
 exact ⟨2 * pot ((n : Int) * M).toNat d2 + m2.toNat, by subst hm; have : (true : Bool).toNat = 1 := rfl; omega, d2, m2, rfl, rfl, rfl, rfl, rfl, rfl, hN, rfl, hD2⟩
 refine RW.exit ?_
 iterate 2 refine thenX ?_
 refine blockHit (thenN (RW.seq ?_))
 have hdl := hD.len
 refine RW.region (RL.ev (v := v4) rfl rfl ev_move (RL.ev (v := .int .i64 (v)) rfl rfl ev_move (RL.ev rfl rfl (ev_index Tryz.underlying25 sz3 (hN.sl 0 rfl) rfl rfl (by omega) (by omega)) ?_)))
 have hOb_ : ∃ a_, (d1)[(v).toNat]? = some a_ := ⟨_, List.getElem?_eq_getElem (by omega)⟩
 obtain ⟨a18, ha18⟩ := hOb_
 refine RL.ev rfl rfl (ev_loadG (m := (v).toNat) (a := a18) Tryz.underlying3 rfl (hN.sl 0 rfl) rfl ha18) (RL.ev rfl rfl (ev_geq rfl rfl) (RL.ev (v := .bool (decide (0 ≤ a18))) rfl rfl ev_move ?_))
 by_cases hg19_5 : 0 ≤ a18
 rw [decide_eq_true hg19_5]
 refine RL.onEv (v := v4) rfl rfl (by decide) rfl rfl ev_move (RL.onEv (v := .int .i64 (v)) rfl rfl (by decide) rfl rfl ev_move (RL.onEv rfl rfl (by decide) rfl rfl (ev_index Tryz.underlying25 sz3 (hN.sl 0 rfl) rfl rfl (by omega) (by omega)) ?_))
 have hOb_ : ∃ a_, (d1)[(v).toNat]? = some a_ := ⟨_, List.getElem?_eq_getElem (by omega)⟩
 obtain ⟨a19, ha19⟩ := hOb_
 refine RL.onEv rfl rfl (by decide) rfl rfl (ev_loadG (m := (v).toNat) (a := a19) Tryz.underlying3 rfl (hN.sl 0 rfl) rfl ha19) (RL.onEv (v := .int .i64 (most)) rfl rfl (by decide) rfl rfl ev_move (RL.onEv rfl rfl (by decide) rfl rfl (ev_leq rfl rfl) (RL.ev (v := .bool (decide (a19 ≤ most))) rfl rfl (ev_pickT rfl) (RL.ev (v := .bool (decide (a19 ≤ most))) rfl rfl ev_assign (RL.nil (thenN (RW.ret (retI (RV.tmp rfl) ?_))))))))
 exact ⟨_, boolEx _, hN.ext0⟩
 rw [decide_eq_false hg19_5]
 iterate 6 refine RL.off rfl rfl (by decide) rfl rfl ?_
 refine RL.ev (v := .bool false) rfl rfl (ev_pickF rfl) (RL.ev (v := .bool false) rfl rfl ev_assign (RL.nil (thenN (RW.ret (retI (RV.tmp rfl) ?_)))))
 exact ⟨_, boolEx _, hN.ext0⟩
end Go.Proofs.YtngkdkbpgoddlaaGreat
