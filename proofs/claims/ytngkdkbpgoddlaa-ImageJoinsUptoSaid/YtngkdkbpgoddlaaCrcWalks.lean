import Derived.Test.YtngkdkbpgoddlaaFacts
import Derived.Test.YtngkdkbpgoddlaaCrcBits
set_option linter.unusedVariables false
set_option linter.unusedSimpArgs false
namespace Go.Proofs.Ytngkdkbpgoddlaa
open Go.RowKit Go.Rl

open Go.Crc
theorem zero256 : (Try.prog.info? 70).map (·.zero) = some (some (.agg (List.replicate 256 (.int .u32 0)).toArray)) := by kernel_rfl

set_option maxHeartbeats 4000000 in
set_option maxRecDepth 100000 in
/-- postroad/crc.step -/
theorem step_calls (x : BitVec 32) (w : World) : Gives Try.prog 42 #[u32 x] w fun v w' => v = u32 (Crc.step x) ∧ w = w' := by
  refine Gives.start Try.func42 rfl (Nat.le_of_ble_eq_true rfl) ?_
  rw [args1]
  refine RW.seq ?_
  refine RW.region ?_
  refine RL.ev rfl rfl ev_assign ?_
  refine RL.nil ?_
  refine thenN ?_
  refine RW.seq ?_
  refine RW.region ?_
  refine RL.ev rfl rfl ev_move ?_
  refine RL.ev rfl rfl (ev_shr rfl rfl (by decide) (b_shr _ 1 (by decide))) ?_
  refine RL.ev rfl rfl ev_move ?_
  refine RL.ev rfl rfl (ev_arith rfl rfl rfl (b_and _ 1#32)) ?_
  refine RL.ev rfl rfl (ev_neg rfl (b_neg _)) ?_
  refine RL.ev rfl rfl (ev_arith rfl rfl rfl (b_and _ poly)) ?_
  refine RL.ev rfl rfl (ev_arith rfl rfl rfl (b_xor _ _)) ?_
  refine RL.ev rfl rfl ev_assign ?_
  refine RL.nil ?_
  refine thenN ?_
  refine RW.ret ?_
  refine retI (RV.tmp rfl) ?_
  exact ⟨rfl, rfl⟩

set_option maxHeartbeats 4000000 in
set_option maxRecDepth 100000 in
/-- postroad/crc.table -/
theorem table_calls (w : World) : Gives Try.prog 40 #[] w fun v w' => v = .agg (tabRow 256).toArray ∧ Ext w w' := by
  refine Gives.start Try.func40 rfl (Nat.le_of_ble_eq_true rfl) ?_
  rw [args0]
  refine RW.seq ?_
  refine RW.region ?_
  refine RL.op rfl rfl (op_alloc zero256 rfl ?_)
  intro w1 hb0 he1 hs1
  refine RL.nil ?_
  refine thenN ?_
  refine RW.seq ?_
  refine RW.region ?_
  refine RL.op rfl rfl (op_alloc zero256 rfl ?_)
  intro w2 hb1 he2 hs2
  refine RL.nil ?_
  refine thenN ?_
  refine RW.seq ?_
  refine RW.seq ?_
  refine RW.region ?_
  refine RL.ev rfl rfl ev_move ?_
  refine RL.nil ?_
  refine thenN ?_
  refine RW.block ?_
  refine RW.loop (fun k R w' => ∃ i : Nat, R 4 = .int .i64 (i : Int) ∧ R 0 = .pointer (some ⟨w.heap.size, 0, none⟩) ∧ R 1 = .pointer (some ⟨w1.heap.size, 0, none⟩) ∧ (i + k = 256) ∧ (Blk w' w.heap.size (List.replicate 256 (.int .u32 0)) 70) ∧ (Blk w' w1.heap.size (tabRow i) 70) ∧ (Ext w w')) 256 ?_ ?_
  · exact ⟨0, rfl, rfl, rfl, rfl, hb0.ext he2, by rw [tabRow_zero]; exact hb1, he1.trans he2⟩
  · rintro k R w' ⟨i, hr4_, hr0_, hr1_, hik, hbz, hbt, hext⟩
    have hR_ : ∃ R0, R = (upd (upd (upd R0 4 _) 0 _) 1 _) := ⟨R, by rw [upd_self hr4_, upd_self hr0_, upd_self hr1_]⟩
    obtain ⟨R0, rfl⟩ := hR_
    clear hr4_ hr0_ hr1_
    refine RW.seq ?_
    refine RW.region ?_
    refine RL.ev rfl rfl (ev_lss rfl rfl) ?_
    refine RL.nil ?_
    refine thenN ?_
    refine RW.seq ?_
    refine RW.condP _ rfl (fun hlt => ?_) (fun hlt => ?_)
    · skip
      refine RW.skip ?_
      refine thenN ?_
      refine RW.seq ?_
      refine RW.block ?_
      refine RW.seq ?_
      refine RW.region ?_
      refine RL.ev rfl rfl ev_move ?_
      refine RL.ev rfl rfl ev_assign ?_
      refine RL.nil ?_
      refine thenN ?_
      refine RW.seq ?_
      refine RW.region ?_
      refine RL.ev rfl rfl ev_move ?_
      refine RL.ev rfl rfl (ev_conv Try.underlying3 Try.underlying52 rfl (conv_u32 i)) ?_
      refine RL.ev rfl rfl ev_assign ?_
      refine RL.nil ?_
      refine thenN ?_
      refine RW.seq ?_
      refine RW.seq ?_
      refine RW.region ?_
      refine RL.ev rfl rfl ev_move ?_
      refine RL.nil ?_
      refine thenN ?_
      refine RW.block ?_
      refine RW.loop (fun k2 R2 w'' => ∃ j : Nat, R2 9 = .int .i64 (j : Int) ∧ R2 3 = u32 (stepN j (BitVec.ofNat 32 i)) ∧ R2 2 = .int .i64 (i : Int) ∧ R2 4 = .int .i64 (i : Int) ∧ R2 0 = .pointer (some ⟨w.heap.size, 0, none⟩) ∧ R2 1 = .pointer (some ⟨w1.heap.size, 0, none⟩) ∧ (j + k2 = 8) ∧ (w'' = w')) 8 ?_ ?_
      · exact ⟨0, rfl, rfl, rfl, rfl, rfl, rfl, rfl, rfl⟩
      · rintro k2 R2 w'' ⟨j, hr9_, hr3_, hr2_, hr4_, hr0_, hr1_, hjk, hw⟩
        have hR_ : ∃ R20, R2 = (upd (upd (upd (upd (upd (upd R20 9 _) 3 _) 2 _) 4 _) 0 _) 1 _) := ⟨R2, by rw [upd_self hr9_, upd_self hr3_, upd_self hr2_, upd_self hr4_, upd_self hr0_, upd_self hr1_]⟩
        obtain ⟨R20, rfl⟩ := hR_
        clear hr9_ hr3_ hr2_ hr4_ hr0_ hr1_
        subst hw
        refine RW.seq ?_
        refine RW.region ?_
        refine RL.ev rfl rfl (ev_lss rfl rfl) ?_
        refine RL.nil ?_
        refine thenN ?_
        refine RW.seq ?_
        refine RW.condP _ rfl (fun hlt2 => ?_) (fun hlt2 => ?_)
        · skip
          refine RW.skip ?_
          refine thenN ?_
          refine RW.seq ?_
          refine RW.block ?_
          refine RW.region ?_
          refine RL.ev rfl rfl ev_move ?_
          refine RL.op rfl rfl (op_call1 Try.func42 rfl rfl rfl ((step_calls (stepN j (BitVec.ofNat 32 i)) _).mono ?_))
          rintro _ _ ⟨rfl, rfl⟩
          refine RL.ev rfl rfl ev_assign ?_
          refine RL.nil ?_
          refine blockN ?_
          refine thenN ?_
          refine RW.region ?_
          refine RL.ev rfl rfl (ev_arith rfl rfl rfl (add64 (by omega) (by omega))) ?_
          refine RL.ev rfl rfl ev_move ?_
          refine RL.nil ?_
          refine thenN ?_
          exact ⟨k2 - 1, by omega, j + 1, rfl, by rw [stepN_succ]; rfl, rfl, rfl, rfl, rfl, by omega, rfl⟩
        · skip
          refine RW.exit ?_
          refine thenX ?_
          refine thenX ?_
          refine blockHit ?_
          refine thenN ?_
          refine RW.region ?_
          refine RL.ev rfl rfl ev_move ?_
          refine RL.ev rfl rfl ev_move ?_
          refine RL.ev rfl rfl (ev_indexArr Try.underlying70 sz52 rfl rfl (by omega) (by omega)) ?_
          refine RL.op rfl rfl (op_storeB sz52 rfl rfl rfl rfl hbt (by rw [tabRow_length]; omega) ?_)
          intro w3 hb3 hm3 hs3
          refine RL.nil ?_
          refine blockN ?_
          refine thenN ?_
          refine RW.region ?_
          refine RL.ev rfl rfl (ev_arith rfl rfl rfl (add64 (by omega) (by omega))) ?_
          refine RL.ev rfl rfl ev_move ?_
          refine RL.nil ?_
          refine thenN ?_
          have hj8 : j = 8 := by omega
          subst hj8
          exact ⟨k - 1, by omega, i + 1, rfl, rfl, rfl, by omega, hbz.mod hm3 (by omega), by rw [tabRow_succ i]; exact hb3, hext.then hm3 (by have := hext.size; omega)⟩
    · skip
      refine RW.exit ?_
      refine thenX ?_
      refine thenX ?_
      refine blockHit ?_
      refine thenN ?_
      refine RW.seq ?_
      refine RW.region ?_
      refine RL.ev rfl rfl (ev_loadAll (cs := tabRow 256) Try.underlying70 rfl (by rw [tabRow_length]; exact sz70) rfl (by rw [show i = 256 from by omega] at hbt; exact hbt)) ?_
      refine RL.op rfl rfl (op_storeAll (vs := tabRow 256) (by rw [tabRow_length]; exact sz70) rfl rfl rfl (tabRow_one 256) hbz (by rw [tabRow_length]; simp) ?_)
      intro w4 hb4 hm4 hs4
      refine RL.nil ?_
      refine thenN ?_
      refine RW.ret ?_
      refine retI (RV.cell rfl rfl hb4 Try.underlying70 rfl (by rw [List.size_toArray, tabRow_length]; exact sz70)) ?_
      exact ⟨rfl, hext.then hm4 (by omega)⟩

set_option maxHeartbeats 4000000 in
set_option maxRecDepth 100000 in
/-- postroad/crc.More -/
theorem more_calls (n : BitVec 32) (v : Value) (l : List UInt8) (w : World) (hv : Sl vb w v l) : Gives Try.prog 32 #[u32 n, v] w fun r w' => r = u32 (Crc.more n l) ∧ Ext w w' := by
  refine Gives.start Try.func32 rfl (Nat.le_of_ble_eq_true rfl) ?_
  rw [args2]
  refine RW.seq ?_
  refine RW.region ?_
  refine RL.ev rfl rfl ev_assign ?_
  refine RL.nil ?_
  refine thenN ?_
  refine RW.seq ?_
  refine RW.region ?_
  refine RL.op rfl rfl (op_call0 Try.func40 rfl rfl ((table_calls _).mono ?_))
  rintro _ w1 ⟨rfl, he1⟩
  refine RL.op rfl rfl (op_alloc zero256 rfl ?_)
  intro w2 hb2 he2 hs2
  refine RL.op rfl rfl (op_storeAll (vs := tabRow 256) (by rw [tabRow_length]; exact sz70) rfl rfl rfl (tabRow_one 256) hb2 (by rw [tabRow_length]; simp) ?_)
  intro w3 hb3 hm3 hs3
  have he3 : Ext w w3 := (he1.trans he2).then hm3 (by have := he1.size; omega)
  have hv3 := hv.ext he3
  have hlen := hv.len_le
  refine RL.nil ?_
  refine thenN ?_
  refine RW.seq ?_
  refine RW.region ?_
  refine RL.ev rfl rfl ev_move ?_
  refine RL.ev rfl rfl (ev_compl rfl (b_not _)) ?_
  refine RL.ev rfl rfl ev_assign ?_
  refine RL.nil ?_
  refine thenN ?_
  refine RW.seq ?_
  refine RW.seq ?_
  refine RW.region ?_
  refine RL.ev rfl rfl ev_move ?_
  refine RL.ev rfl rfl (ev_lenS Try.underlying23 hv3 rfl) ?_
  refine RL.ev rfl rfl ev_move ?_
  refine RL.nil ?_
  refine thenN ?_
  refine RW.block ?_
  refine RW.loop (fun k R w' => ∃ i : Nat, R 13 = .int .i64 (i : Int) ∧ R 0 = u32 (moreR (~~~n) (l.take i)) ∧ R 11 = v ∧ R 12 = .int .i64 (l.length : Int) ∧ R 5 = .pointer (some ⟨w1.heap.size, 0, none⟩) ∧ (i + k = l.length) ∧ (w' = w3)) l.length ?_ ?_
  · exact ⟨0, rfl, rfl, rfl, rfl, rfl, by omega, rfl⟩
  · rintro k R w' ⟨i, hr13_, hr0_, hr11_, hr12_, hr5_, hik, hw⟩
    have hR_ : ∃ R0, R = (upd (upd (upd (upd (upd R0 13 _) 0 _) 11 _) 12 _) 5 _) := ⟨R, by rw [upd_self hr13_, upd_self hr0_, upd_self hr11_, upd_self hr12_, upd_self hr5_]⟩
    obtain ⟨R0, rfl⟩ := hR_
    clear hr13_ hr0_ hr11_ hr12_ hr5_
    subst hw
    refine RW.seq ?_
    refine RW.region ?_
    refine RL.ev rfl rfl (ev_lss rfl rfl) ?_
    refine RL.nil ?_
    refine thenN ?_
    refine RW.seq ?_
    refine RW.condP _ rfl (fun hlt => ?_) (fun hlt => ?_)
    · skip
      refine RW.skip ?_
      refine thenN ?_
      refine RW.seq ?_
      refine RW.block ?_
      refine RW.seq ?_
      refine RW.region ?_
      refine RL.ev rfl rfl (ev_index Try.underlying23 sz5 hv3 rfl rfl (by omega) (by omega)) ?_
      refine RL.ev rfl rfl (ev_loadS Try.underlying5 rfl hv3 rfl (by omega)) ?_
      refine RL.ev rfl rfl ev_assign ?_
      refine RL.nil ?_
      refine thenN ?_
      refine RW.region ?_
      refine RL.ev rfl rfl ev_move ?_
      refine RL.ev rfl rfl (ev_shr rfl rfl (by decide) (b_shr _ 8 (by decide))) ?_
      refine RL.ev rfl rfl ev_move ?_
      refine RL.ev rfl rfl (ev_conv Try.underlying52 Try.underlying5 rfl (b_u8 _)) ?_
      refine RL.ev rfl rfl ev_move ?_
      refine RL.ev rfl rfl (ev_arith rfl rfl rfl (b_xor8 _ _)) ?_
      refine RL.ev rfl rfl (ev_indexArr Try.underlying70 sz52 rfl rfl (by omega) (by have := and255 (moreR (~~~n) (l.take i) ^^^ wide l[(i : Int).toNat]); omega)) ?_
      refine RL.ev rfl rfl (ev_loadB Try.underlying52 rfl rfl hb3 (tab_get _ (and255 _))) ?_
      refine RL.ev rfl rfl (ev_arith rfl rfl rfl (crc8i _ _)) ?_
      refine RL.ev rfl rfl ev_assign ?_
      refine RL.nil ?_
      refine blockN ?_
      refine thenN ?_
      refine RW.region ?_
      refine RL.ev rfl rfl (ev_arith rfl rfl rfl (add64 (by omega) (by omega))) ?_
      refine RL.ev rfl rfl ev_move ?_
      refine RL.nil ?_
      refine thenN ?_
      refine ⟨k - 1, by omega, i + 1, rfl, ?_, rfl, rfl, rfl, by omega, rfl⟩
      rw [← moreR_snoc (~~~n) l i (by omega)]; rfl
    · skip
      refine RW.exit ?_
      refine thenX ?_
      refine thenX ?_
      refine blockHit ?_
      refine thenN ?_
      refine RW.seq ?_
      refine RW.region ?_
      refine RL.ev rfl rfl ev_move ?_
      refine RL.ev rfl rfl (ev_compl rfl (b_not _)) ?_
      refine RL.ev rfl rfl ev_assign ?_
      refine RL.nil ?_
      refine thenN ?_
      refine RW.ret ?_
      refine retI (RV.tmp rfl) ?_
      refine ⟨?_, he3⟩
      show u32 (~~~(moreR (~~~n) (l.take i))) = _
      rw [List.take_of_length_le (by omega)]; rfl

set_option maxHeartbeats 4000000 in
set_option maxRecDepth 100000 in
/-- postroad/crc.Sum -/
theorem sum_calls (v : Value) (l : List UInt8) (w : World) (hv : Sl vb w v l) : Gives Try.prog 25 #[v] w fun r w' => r = u32 (Crc.sum l) ∧ Ext w w' := by
  refine Gives.start Try.func25 rfl (Nat.le_of_ble_eq_true rfl) ?_
  rw [args1]
  refine RW.seq ?_
  refine RW.region ?_
  refine RL.ev rfl rfl ev_assign ?_
  refine RL.nil ?_
  refine thenN ?_
  refine RW.seq ?_
  refine RW.region ?_
  refine RL.ev rfl rfl ev_move ?_
  refine RL.op rfl rfl (op_call2 Try.func32 rfl rfl rfl rfl ((more_calls 0#32 v l _ hv).mono ?_))
  rintro _ w1 ⟨rfl, he1⟩
  refine RL.ev rfl rfl ev_assign ?_
  refine RL.nil ?_
  refine thenN ?_
  refine RW.ret ?_
  refine retI (RV.tmp rfl) ?_
  exact ⟨rfl, he1⟩

set_option maxHeartbeats 4000000 in
set_option maxRecDepth 100000 in
/-- postroad/crc.tail -/
theorem tail_calls (n : BitVec 32) (w : World) : Gives Try.prog 24 #[u32 n] w fun r w' => Own vb 5 w' w.heap.size r (tailB n) ∧ Ext w w' := by
  refine Gives.start Try.func24 rfl (Nat.le_of_ble_eq_true rfl) ?_
  rw [args1]
  refine RW.seq ?_
  refine RW.region ?_
  refine RL.ev rfl rfl ev_assign ?_
  refine RL.nil ?_
  refine thenN ?_
  refine RW.seq ?_
  refine RW.region ?_
  refine RL.ev rfl rfl ev_move ?_
  refine RL.ev rfl rfl (ev_conv Try.underlying52 Try.underlying5 rfl (b_u8at0 _)) ?_
  refine RL.ev rfl rfl ev_move ?_
  refine RL.ev rfl rfl (ev_shr rfl rfl (by decide) (b_shr _ 8 (by decide))) ?_
  refine RL.ev rfl rfl (ev_conv Try.underlying52 Try.underlying5 rfl (b_u8at _ 8)) ?_
  refine RL.ev rfl rfl ev_move ?_
  refine RL.ev rfl rfl (ev_shr rfl rfl (by decide) (b_shr _ 16 (by decide))) ?_
  refine RL.ev rfl rfl (ev_conv Try.underlying52 Try.underlying5 rfl (b_u8at _ 16)) ?_
  refine RL.ev rfl rfl ev_move ?_
  refine RL.ev rfl rfl (ev_shr rfl rfl (by decide) (b_shr _ 24 (by decide))) ?_
  refine RL.ev rfl rfl (ev_conv Try.underlying52 Try.underlying5 rfl (b_u8at _ 24)) ?_
  refine RL.op rfl rfl (op_lit (enc := vb) (l := tailB n) (xs := [.tmp 4, .tmp 7, .tmp 10, .tmp 13]) Try.underlying23 sz5 zr5 rfl rfl vb_cells rfl (by decide) (by decide) ?_)
  intro w1 ho1 hb1 he1 hs1
  refine RL.ev rfl rfl ev_assign ?_
  refine RL.nil ?_
  refine thenN ?_
  refine RW.ret ?_
  refine retI (RV.tmp rfl) ?_
  exact ⟨ho1, he1⟩

set_option maxHeartbeats 4000000 in
set_option maxRecDepth 100000 in
/-- postroad/crc.Wrap -/
theorem wrap_calls (v : Value) (l : List UInt8) (w : World) (hv : Sl vb w v l) (hl : l.length ≤ 140737488355324) : Gives Try.prog 13 #[v] w fun r w' => Own vb 5 w' w.heap.size r (l ++ tailB (Crc.sum l)) ∧ Ext w w' := by
  refine Gives.start Try.func13 rfl (Nat.le_of_ble_eq_true rfl) ?_
  rw [args1]
  refine RW.seq ?_
  refine RW.region ?_
  refine RL.ev rfl rfl ev_assign ?_
  refine RL.nil ?_
  refine thenN ?_
  refine RW.seq ?_
  refine RW.region ?_
  refine RL.ev rfl rfl ev_move ?_
  refine RL.op rfl rfl (op_append (l := []) Try.underlying23 inf5 rfl vb_one (Own.nil vb 5 w w.heap.size) rfl hv rfl (by simp; omega) (by decide) (Nat.le_refl _) ?_)
  intro v1 w1 ho1 hm1 hk1
  rw [List.nil_append] at ho1
  have he1 : Ext w w1 := hm1.mono (by intro i _ h; cases h)
  refine RL.ev rfl rfl ev_assign ?_
  refine RL.nil ?_
  refine thenN ?_
  refine RW.seq ?_
  refine RW.region ?_
  refine RL.ev rfl rfl ev_move ?_
  refine RL.ev rfl rfl ev_move ?_
  refine RL.op rfl rfl (op_call1 Try.func25 rfl rfl rfl ((sum_calls v l _ (hv.ext he1)).mono ?_))
  rintro _ w2 ⟨rfl, he2⟩
  refine RL.op rfl rfl (op_call1 Try.func24 rfl rfl rfl ((tail_calls (Crc.sum l) _).mono ?_))
  rintro vt w3 ⟨hot, he3⟩
  refine RL.op rfl rfl (op_append Try.underlying23 inf5 rfl vb_one (ho1.ext (he2.trans he3)) rfl hot.sl rfl (by simp [tailB]; omega) (by decide) (by have := he1.size; have := he2.size; have := he3.size; omega) ?_)
  intro v4 w4 ho4 hm4 hk4
  refine RL.ev rfl rfl ev_assign ?_
  refine RL.nil ?_
  refine thenN ?_
  refine RW.ret ?_
  refine retI (RV.tmp rfl) ?_
  exact ⟨ho4, ((he1.trans he2).trans he3).then hm4 (fun i hi e => by have := (ho1.lt _ e).1; omega)⟩

set_option maxHeartbeats 4000000 in
set_option maxRecDepth 100000 in
/-- postroad/crc.Open -/
theorem open_calls (v : Value) (l : List UInt8) (w : World) (hv : Sl vb w v l) (hl : l.length ≤ 140737488355328) : Gives Try.prog 20 #[v] w fun r w' => (openOk l = true ∧ ∃ x, r = .tuple #[x, .int .i64 0] ∧ Own vb 5 w' w.heap.size x (l.take (l.length - 4)) ∧ Ext w w') ∨ (openOk l = false ∧ r = .tuple #[.slice none 0 0, .int .i64 5] ∧ Ext w w') := by
  refine Gives.start Try.func20 rfl (Nat.le_of_ble_eq_true rfl) ?_
  rw [args1]
  refine RW.seq ?_
  refine RW.region ?_
  refine RL.ev rfl rfl ev_assign ?_
  refine RL.ev rfl rfl ev_assign ?_
  refine RL.nil ?_
  refine thenN ?_
  refine RW.seq ?_
  refine RW.region ?_
  have hlen := hv.len_le
  refine RL.ev rfl rfl ev_move ?_
  refine RL.ev rfl rfl (ev_lenS Try.underlying23 hv rfl) ?_
  refine RL.ev rfl rfl (ev_arith rfl rfl rfl (sub64 (by omega) (by omega))) ?_
  refine RL.ev rfl rfl ev_assign ?_
  refine RL.nil ?_
  refine thenN ?_
  refine RW.seq ?_
  refine RW.seq ?_
  by_cases hneg : (l.length : Int) - 4 < 0
  · skip
    refine RW.draw rfl (fun w' => Ext w w') ?_
    have hS : Ext w w.drew := Ext.drew w
    have hgb : decide ((l.length : Int) - 4 < 0) = true := decide_eq_true hneg
    refine RA.take (i := 0) rfl rfl (by kernel_rfl) (by kernel_rfl) (by kernel_rfl) (by intro _ _ _ h; exact h) rfl hS (fun w hS => ev_move) ?_
    refine RA.take (i := 1) rfl rfl (by kernel_rfl) (by kernel_rfl) (by kernel_rfl) (by intro _ _ _ h; exact h) rfl hS (fun w hS => (ev_lss rfl rfl)) ?_
    refine RA.take (i := 2) rfl rfl (by kernel_rfl) (by kernel_rfl) (by kernel_rfl) (by intro _ _ _ h; exact h) rfl hS (fun w hS => ev_move) ?_
    refine RA.takeOff (i := 3) rfl rfl rfl (by decide) (congrArg Value.bool hgb) (by kernel_rfl) (by kernel_rfl) (by kernel_rfl) (by intro _ _ _ h; exact h) rfl hS ?_
    refine RA.takeOff (i := 4) rfl rfl rfl (by decide) (congrArg Value.bool hgb) (by kernel_rfl) (by kernel_rfl) (by kernel_rfl) (by intro _ _ _ h; exact h) rfl hS ?_
    refine RA.takeOff (i := 5) rfl rfl rfl (by decide) (congrArg Value.bool hgb) (by kernel_rfl) (by kernel_rfl) (by kernel_rfl) (by intro _ _ _ h; exact h) rfl hS ?_
    refine RA.takeOff (i := 6) rfl rfl rfl (by decide) (congrArg Value.bool hgb) (by kernel_rfl) (by kernel_rfl) (by kernel_rfl) (by intro _ _ _ h; exact h) rfl hS ?_
    refine RA.takeOff (i := 7) rfl rfl rfl (by decide) (congrArg Value.bool hgb) (by kernel_rfl) (by kernel_rfl) (by kernel_rfl) (by intro _ _ _ h; exact h) rfl hS ?_
    refine RA.takeOff (i := 8) rfl rfl rfl (by decide) (congrArg Value.bool hgb) (by kernel_rfl) (by kernel_rfl) (by kernel_rfl) (by intro _ _ _ h; exact h) rfl hS ?_
    refine RA.takeOff (i := 9) rfl rfl rfl (by decide) (congrArg Value.bool hgb) (by kernel_rfl) (by kernel_rfl) (by kernel_rfl) (by intro _ _ _ h; exact h) rfl hS ?_
    refine RA.takeOff (i := 10) rfl rfl rfl (by decide) (congrArg Value.bool hgb) (by kernel_rfl) (by kernel_rfl) (by kernel_rfl) (by intro _ _ _ h; exact h) rfl hS ?_
    refine RA.takeOff (i := 11) rfl rfl rfl (by decide) (congrArg Value.bool hgb) (by kernel_rfl) (by kernel_rfl) (by kernel_rfl) (by intro _ _ _ h; exact h) rfl hS ?_
    refine RA.takeOff (i := 12) rfl rfl rfl (by decide) (congrArg Value.bool hgb) (by kernel_rfl) (by kernel_rfl) (by kernel_rfl) (by intro _ _ _ h; exact h) rfl hS ?_
    refine RA.takeOff (i := 13) rfl rfl rfl (by decide) (congrArg Value.bool hgb) (by kernel_rfl) (by kernel_rfl) (by kernel_rfl) (by intro _ _ _ h; exact h) rfl hS ?_
    refine RA.take (i := 14) rfl rfl (by kernel_rfl) (by kernel_rfl) (by kernel_rfl) (by intro _ _ _ h; exact h) rfl hS (fun w hS => (ev_pickT (by exact congrArg Value.bool hgb))) ?_
    refine RA.done (by kernel_rfl) ?_
    refine thenN ?_
    refine RW.condT rfl ?_
    refine RW.seq ?_
    refine RW.region ?_
    refine RL.ev rfl rfl ev_assign ?_
    refine RL.ev rfl rfl ev_assign ?_
    refine RL.nil ?_
    refine thenN ?_
    refine RW.ret ?_
    refine thenR ?_
    refine retI (RV.tmp2 rfl) ?_
    refine .inr ⟨?_, rfl, Ext.drew w⟩
    unfold openOk; exact decide_eq_false (by omega)
  · skip
    refine RW.draw rfl (fun w' => Ext w w') ?_
    have hS : Ext w w.drew := Ext.drew w
    have hgb : decide ((l.length : Int) - 4 < 0) = false := decide_eq_false hneg
    have htn : ((l.length : Int) - 4).toNat = l.length - 4 := by omega
    refine RA.take (i := 0) rfl rfl (by kernel_rfl) (by kernel_rfl) (by kernel_rfl) (by intro _ _ _ h; exact h) rfl hS (fun w hS => ev_move) ?_
    refine RA.take (i := 1) rfl rfl (by kernel_rfl) (by kernel_rfl) (by kernel_rfl) (by intro _ _ _ h; exact h) rfl hS (fun w hS => (ev_lss rfl rfl)) ?_
    refine RA.take (i := 2) rfl rfl (by kernel_rfl) (by kernel_rfl) (by kernel_rfl) (by intro _ _ _ h; exact h) rfl hS (fun w hS => ev_move) ?_
    refine RA.takeOn (i := 3) rfl rfl rfl (by decide) (congrArg Value.bool hgb) (by kernel_rfl) (by kernel_rfl) (by kernel_rfl) (by intro _ _ _ h; exact h) rfl hS (fun w hS => ev_move) ?_
    refine RA.takeOn (i := 4) rfl rfl rfl (by decide) (congrArg Value.bool hgb) (by kernel_rfl) (by kernel_rfl) (by kernel_rfl) (by intro _ _ _ h; exact h) rfl hS (fun w hS => ev_move) ?_
    refine RA.takeOn (i := 5) rfl rfl rfl (by decide) (congrArg Value.bool hgb) (by kernel_rfl) (by kernel_rfl) (by kernel_rfl) (by intro _ _ _ h; exact h) rfl hS (fun w hS => (ev_cutTo Try.underlying23 sz5 (hv.ext hS) rfl rfl (by omega) (by omega))) ?_
    refine RA.takeOn (i := 9) rfl rfl rfl (by decide) (congrArg Value.bool hgb) (by kernel_rfl) (by kernel_rfl) (by kernel_rfl) (by intro _ _ _ h; exact h) rfl hS (fun w hS => ev_move) ?_
    refine RA.takeOn (i := 10) rfl rfl rfl (by decide) (congrArg Value.bool hgb) (by kernel_rfl) (by kernel_rfl) (by kernel_rfl) (by intro _ _ _ h; exact h) rfl hS (fun w hS => ev_move) ?_
    refine RA.takeOn (i := 11) rfl rfl rfl (by decide) (congrArg Value.bool hgb) (by kernel_rfl) (by kernel_rfl) (by kernel_rfl) (by intro _ _ _ h; exact h) rfl hS (fun w hS => (ev_cutFrom Try.underlying23 sz5 (hv.ext hS) rfl rfl (by omega) (by omega))) ?_
    refine RA.takeOn (i := 12) rfl rfl rfl (by decide) (congrArg Value.bool hgb) (by kernel_rfl) (by kernel_rfl) (by kernel_rfl) (by intro _ _ _ h; exact h) rfl hS (fun w hS => (ev_toStr Try.underlying23 Try.underlying5 Try.underlying9 ((hv.ext hS).cutFrom (by omega)) rfl)) ?_
    refine RA.onlyOn (i := 6) (by kernel_rfl) rfl rfl rfl (by decide) (congrArg Value.bool hgb) rfl (op_call1 Try.func25 rfl rfl rfl ((sum_calls _ _ _ ((hv.ext hS).cutTo (by omega))).mono ?_))
    rintro _ w1 ⟨rfl, he1⟩
    have hS1 : Ext w w1 := hS.trans he1
    refine ⟨hS1, ?_⟩
    clear hS
    have hS := hS1
    refine RA.onlyOn (i := 7) (by kernel_rfl) rfl rfl rfl (by decide) (congrArg Value.bool hgb) rfl (op_call1 Try.func24 rfl rfl rfl ((tail_calls _ _).mono ?_))
    rintro vt w2 ⟨hot, he2⟩
    have hS2 : Ext w w2 := hS.trans he2
    refine ⟨hS2, ?_⟩
    clear hS
    have hS := hS2
    refine RA.onlyOn (i := 8) (by kernel_rfl) rfl rfl rfl (by decide) (congrArg Value.bool hgb) rfl (OpR.ev (ev_toStr Try.underlying23 Try.underlying5 Try.underlying9 hot.sl rfl) ⟨hS, ?_⟩)
    refine RA.takeOn (i := 13) rfl rfl rfl (by decide) (congrArg Value.bool hgb) (by kernel_rfl) (by kernel_rfl) (by kernel_rfl) (by intro _ _ _ h; exact h) rfl hS (fun w hS => (ev_strNe rfl rfl)) ?_
    refine RA.take (i := 14) rfl rfl (by kernel_rfl) (by kernel_rfl) (by kernel_rfl) (by intro _ _ _ h; exact h) rfl hS (fun w hS => (ev_pickF (by exact congrArg Value.bool hgb))) ?_
    refine RA.done (by kernel_rfl) ?_
    refine thenN ?_
    refine RW.condP _ rfl (fun hne => ?_) (fun hne => ?_)
    · skip
      simp only [htn] at hne
      refine RW.seq ?_
      refine RW.region ?_
      refine RL.ev rfl rfl ev_assign ?_
      refine RL.ev rfl rfl ev_assign ?_
      refine RL.nil ?_
      refine thenN ?_
      refine RW.ret ?_
      refine thenR ?_
      refine retI (RV.tmp2 rfl) ?_
      first
        | exact .inl ⟨by unfold openOk; exact decide_eq_true ⟨by omega, Decidable.not_not.1 hne⟩, v5, rfl, ho5, he5⟩
        | exact .inr ⟨by unfold openOk; exact decide_eq_false (fun h => hne h.2), rfl, hS⟩
    · skip
      simp only [htn] at hne
      refine RW.skip ?_
      refine thenN ?_
      refine RW.seq ?_
      refine RW.region ?_
      refine RL.ev rfl rfl ev_move ?_
      refine RL.ev rfl rfl ev_move ?_
      refine RL.ev rfl rfl (ev_cutTo Try.underlying23 sz5 (hv.ext hS) rfl rfl (by omega) (by omega)) ?_
      refine RL.op rfl rfl (op_append (l := []) Try.underlying23 inf5 rfl vb_one (Own.nil vb 5 _ w.heap.size) rfl ((hv.ext hS).cutTo (by omega)) rfl (by simp; omega) (by decide) hS.size ?_)
      intro v5 w5 ho5 hm5 hk5
      rw [List.nil_append, htn] at ho5
      have he5 : Ext w w5 := hS.trans (hm5.mono (by intro i _ h; cases h))
      refine RL.ev rfl rfl ev_assign ?_
      refine RL.ev rfl rfl ev_assign ?_
      refine RL.nil ?_
      refine thenN ?_
      refine RW.ret ?_
      refine retI (RV.tmp2 rfl) ?_
      first
        | exact .inl ⟨by unfold openOk; exact decide_eq_true ⟨by omega, Decidable.not_not.1 hne⟩, v5, rfl, ho5, he5⟩
        | exact .inr ⟨by unfold openOk; exact decide_eq_false (fun h => hne h.2), rfl, hS⟩

end Go.Proofs.Ytngkdkbpgoddlaa
