import Derived.Test.YtngkdkbpgoddlaaCrcWalks
set_option linter.unusedVariables false
set_option linter.unusedSimpArgs false
namespace Go.Proofs.Ytngkdkbpgoddlaa
open Go.RowKit Go.Rl

open Go.Crc
set_option maxHeartbeats 4000000 in
set_option maxRecDepth 100000 in
/-- postroad/postroadref01.Step -/
theorem refStep_calls (x : BitVec 32) (w : World) : Gives Try.prog 41 #[u32 x] w fun v w' => v = u32 (Crc.step x) ∧ w = w' := by
  refine Gives.start Try.func41 rfl (Nat.le_of_ble_eq_true rfl) ?_
  rw [args1]
  refine RW.seq ?_
  refine RW.region ?_
  refine RL.ev rfl rfl ev_assign ?_
  refine RL.nil ?_
  refine thenN ?_
  refine RW.seq ?_
  refine RW.seq ?_
  refine RW.region ?_
  refine RL.ev rfl rfl ev_move ?_
  refine RL.ev rfl rfl (ev_rem rfl rfl (by decide) (b_mod2 x)) ?_
  refine RL.ev rfl rfl (ev_eql rfl rfl) ?_
  refine RL.nil ?_
  refine thenN ?_
  refine RW.condP _ rfl (fun hodd => ?_) (fun hodd => ?_)
  · skip
    refine RW.seq ?_
    refine RW.region ?_
    refine RL.ev rfl rfl ev_move ?_
    refine RL.ev rfl rfl (ev_quo rfl rfl (by decide) (b_half x)) ?_
    refine RL.ev rfl rfl (ev_arith rfl rfl rfl (b_xor _ poly)) ?_
    refine RL.ev rfl rfl ev_assign ?_
    refine RL.nil ?_
    refine thenN ?_
    refine RW.ret ?_
    refine thenR ?_
    refine retI (RV.tmp rfl) ?_
    refine ⟨?_, rfl⟩
    rw [step_eq]
    first
      | rw [if_pos ((odd_bit x).1 hodd)]; rfl
      | rw [if_neg (fun e => hodd ((odd_bit x).2 e)), BitVec.xor_zero]; rfl
  · skip
    refine RW.skip ?_
    refine thenN ?_
    refine RW.seq ?_
    refine RW.region ?_
    refine RL.ev rfl rfl ev_move ?_
    refine RL.ev rfl rfl (ev_quo rfl rfl (by decide) (b_half x)) ?_
    refine RL.ev rfl rfl ev_assign ?_
    refine RL.nil ?_
    refine thenN ?_
    refine RW.ret ?_
    refine retI (RV.tmp rfl) ?_
    refine ⟨?_, rfl⟩
    rw [step_eq]
    first
      | rw [if_pos ((odd_bit x).1 hodd)]; rfl
      | rw [if_neg (fun e => hodd ((odd_bit x).2 e)), BitVec.xor_zero]; rfl

set_option maxHeartbeats 4000000 in
set_option maxRecDepth 100000 in
/-- postroad/postroadref01.More -/
theorem refMore_calls (n : BitVec 32) (v : Value) (l : List UInt8) (w : World) (hv : Sl vb w v l) : Gives Try.prog 36 #[u32 n, v] w fun r w' => r = u32 (Crc.more n l) ∧ w = w' := by
  refine Gives.start Try.func36 rfl (Nat.le_of_ble_eq_true rfl) ?_
  rw [args2]
  have hlen := hv.len_le
  refine RW.seq ?_
  refine RW.region ?_
  refine RL.ev rfl rfl ev_assign ?_
  refine RL.nil ?_
  refine thenN ?_
  refine RW.seq ?_
  refine RW.region ?_
  refine RL.ev rfl rfl ev_move ?_
  refine RL.ev rfl rfl (ev_arith rfl rfl rfl (xnot _)) ?_
  refine RL.ev rfl rfl ev_assign ?_
  refine RL.nil ?_
  refine thenN ?_
  refine RW.seq ?_
  refine RW.seq ?_
  refine RW.region ?_
  refine RL.ev rfl rfl ev_assign ?_
  refine RL.nil ?_
  refine thenN ?_
  refine RW.block ?_
  refine RW.loop (fun k R w' => ∃ i : Nat, R 5 = .int .i64 (i : Int) ∧ R 0 = u32 (moreR (~~~n) (l.take i)) ∧ R 1 = v ∧ (i + k = l.length) ∧ (w' = w)) l.length ?_ ?_
  · exact ⟨0, rfl, rfl, rfl, by omega, rfl⟩
  · rintro k R w' ⟨i, hr5_, hr0_, hr1_, hik, hw⟩
    have hR_ : ∃ R0, R = (upd (upd (upd R0 5 _) 0 _) 1 _) := ⟨R, by rw [upd_self hr5_, upd_self hr0_, upd_self hr1_]⟩
    obtain ⟨R0, rfl⟩ := hR_
    clear hr5_ hr0_ hr1_
    subst hw
    refine RW.seq ?_
    refine RW.seq ?_
    refine RW.region ?_
    refine RL.ev rfl rfl ev_move ?_
    refine RL.ev rfl rfl ev_move ?_
    refine RL.ev rfl rfl (ev_lenS Try.underlying23 hv rfl) ?_
    refine RL.ev rfl rfl (ev_lss rfl rfl) ?_
    refine RL.nil ?_
    refine thenN ?_
    refine RW.condP _ rfl (fun hlt => ?_) (fun hlt => ?_)
    · skip
      refine RW.skip ?_
      refine thenN ?_
      refine RW.seq ?_
      refine RW.block ?_
      refine RW.seq ?_
      refine RW.region ?_
      refine RL.ev rfl rfl ev_move ?_
      refine RL.ev rfl rfl ev_move ?_
      refine RL.ev rfl rfl ev_move ?_
      refine RL.ev rfl rfl (ev_index Try.underlying23 sz5 hv rfl rfl (by omega) (by omega)) ?_
      refine RL.ev rfl rfl (ev_loadS Try.underlying5 rfl hv rfl (by omega)) ?_
      refine RL.ev rfl rfl (ev_conv Try.underlying5 Try.underlying52 rfl (wide_conv _)) ?_
      refine RL.ev rfl rfl (ev_arith rfl rfl rfl (b_xor _ _)) ?_
      refine RL.ev rfl rfl ev_assign ?_
      refine RL.nil ?_
      refine thenN ?_
      refine RW.seq ?_
      refine RW.region ?_
      refine RL.ev rfl rfl ev_assign ?_
      refine RL.nil ?_
      refine thenN ?_
      refine RW.block ?_
      refine RW.loop (fun k2 R2 w'' => ∃ j : Nat, R2 6 = .int .i64 (j : Int) ∧ R2 5 = .int .i64 (i : Int) ∧ R2 0 = u32 (stepN j (moreR (~~~n) (l.take i) ^^^ wide (l[(i : Int).toNat]'(by omega)))) ∧ R2 1 = v ∧ (j + k2 = 8) ∧ (w'' = w')) 8 ?_ ?_
      · exact ⟨0, rfl, rfl, rfl, rfl, rfl, rfl⟩
      · rintro k2 R2 w'' ⟨j, hr6_, hr5_, hr0_, hr1_, hjk, hw⟩
        have hR_ : ∃ R20, R2 = (upd (upd (upd (upd R20 6 _) 5 _) 0 _) 1 _) := ⟨R2, by rw [upd_self hr6_, upd_self hr5_, upd_self hr0_, upd_self hr1_]⟩
        obtain ⟨R20, rfl⟩ := hR_
        clear hr6_ hr5_ hr0_ hr1_
        subst hw
        refine RW.seq ?_
        refine RW.seq ?_
        refine RW.region ?_
        refine RL.ev rfl rfl ev_move ?_
        refine RL.ev rfl rfl (ev_lss rfl rfl) ?_
        refine RL.nil ?_
        refine thenN ?_
        refine RW.condP _ rfl (fun hlt2 => ?_) (fun hlt2 => ?_)
        · skip
          refine RW.skip ?_
          refine thenN ?_
          refine RW.seq ?_
          refine RW.block ?_
          refine RW.region ?_
          refine RL.ev rfl rfl ev_move ?_
          refine RL.op rfl rfl (op_call1 Try.func41 rfl rfl rfl ((refStep_calls _ _).mono ?_))
          rintro _ _ ⟨rfl, rfl⟩
          refine RL.ev rfl rfl ev_assign ?_
          refine RL.nil ?_
          refine blockN ?_
          refine thenN ?_
          refine RW.region ?_
          refine RL.ev rfl rfl ev_move ?_
          refine RL.ev rfl rfl (ev_arith rfl rfl rfl (add64 (by omega) (by omega))) ?_
          refine RL.ev rfl rfl ev_assign ?_
          refine RL.nil ?_
          refine thenN ?_
          exact ⟨k2 - 1, by omega, j + 1, rfl, rfl, by rw [stepN_succ]; rfl, rfl, by omega, rfl⟩
        · skip
          refine RW.exit ?_
          refine thenX ?_
          refine thenX ?_
          refine blockHit ?_
          refine blockN ?_
          refine thenN ?_
          refine RW.region ?_
          refine RL.ev rfl rfl ev_move ?_
          refine RL.ev rfl rfl (ev_arith rfl rfl rfl (add64 (by omega) (by omega))) ?_
          refine RL.ev rfl rfl ev_assign ?_
          refine RL.nil ?_
          refine thenN ?_
          have hj : j = 8 := by omega
          subst hj
          refine ⟨k - 1, by omega, i + 1, rfl, ?_, rfl, by omega, rfl⟩
          rw [← moreR_snoc (~~~n) l i (by omega)]; rfl
    · skip
      refine RW.exit ?_
      refine thenX ?_
      refine thenX ?_
      refine blockHit ?_
      refine thenN ?_
      refine RW.seq ?_
      refine RW.region ?_
      refine RL.ev rfl rfl ev_move ?_
      refine RL.ev rfl rfl (ev_arith rfl rfl rfl (xnot _)) ?_
      refine RL.ev rfl rfl ev_assign ?_
      refine RL.nil ?_
      refine thenN ?_
      refine RW.ret ?_
      refine retI (RV.tmp rfl) ?_
      refine ⟨?_, rfl⟩
      show u32 (~~~(moreR (~~~n) (l.take i))) = _
      rw [List.take_of_length_le (by omega)]; rfl

set_option maxHeartbeats 4000000 in
set_option maxRecDepth 100000 in
/-- postroad/postroadref01.Sum -/
theorem refSum_calls (v : Value) (l : List UInt8) (w : World) (hv : Sl vb w v l) : Gives Try.prog 28 #[v] w fun r w' => r = u32 (Crc.sum l) ∧ w = w' := by
  refine Gives.start Try.func28 rfl (Nat.le_of_ble_eq_true rfl) ?_
  rw [args1]
  refine RW.seq ?_
  refine RW.region ?_
  refine RL.ev rfl rfl ev_assign ?_
  refine RL.nil ?_
  refine thenN ?_
  refine RW.seq ?_
  refine RW.region ?_
  refine RL.ev rfl rfl ev_move ?_
  refine RL.op rfl rfl (op_call2 Try.func36 rfl rfl rfl rfl ((refMore_calls 0#32 v l _ hv).mono ?_))
  rintro _ _ ⟨rfl, rfl⟩
  refine RL.ev rfl rfl ev_assign ?_
  refine RL.nil ?_
  refine thenN ?_
  refine RW.ret ?_
  refine retI (RV.tmp rfl) ?_
  exact ⟨rfl, rfl⟩

end Go.Proofs.Ytngkdkbpgoddlaa
