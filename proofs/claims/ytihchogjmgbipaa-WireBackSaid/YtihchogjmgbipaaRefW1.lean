import Derived.Test.YtihchogjmgbipaaCodecW3
import Derived.Test.YtihchogjmgbipaaRefBits
set_option linter.unusedVariables false
set_option linter.unusedSimpArgs false
namespace Go.Proofs.Ytihchogjmgbipaa
open Go.RowKit Go.Rl

open Go.Codec
theorem zeroT : (Try.prog.info? 73).map (·.zero) = some (some (.agg #[.slice none 0 0, .int .i64 0])) := by kernel_rfl

set_option maxHeartbeats 4000000 in
set_option maxRecDepth 100000 in
/-- postroad/postroadref02.fail -/
theorem refFail_calls (e : Int) (w : World) : Gives Try.prog 57 #[vi e] w fun r w' => r = TV (.slice none 0 0) e ∧ Ext w w' := by
  refine Gives.start Try.func57 rfl (Nat.le_of_ble_eq_true rfl) ?_
  rw [args1]
  refine RW.seq ?_
  refine RW.region ?_
  refine RL.op rfl rfl (op_alloc (cs := [.slice none 0 0, .int .i64 0]) zeroT rfl ?_)
  intro w1 hb1 he1 hs1
  refine RL.nil ?_
  refine thenN ?_
  refine RW.seq ?_
  refine RW.region ?_
  refine RL.ev rfl rfl ev_move ?_
  refine RL.ev rfl rfl (ev_build (cs := [.slice none 0 0, .int .i64 e]) Try.underlying73 zeroT (places := #[(0, 1), (1, 1)]) (by intro w; kernel_rfl) (pl := [(1, .tmp 3)]) rfl rfl rfl) ?_
  refine RL.op rfl rfl (op_storeAll (vs := [.slice none 0 0, .int .i64 e]) sz73 rfl rfl rfl (oneTV _ _ _ _) hb1 rfl ?_)
  intro w2 hb2 hm2 hs2
  refine RL.nil ?_
  refine thenN ?_
  refine RW.ret ?_
  refine retI (RV.cell rfl rfl hb2 Try.underlying73 rfl sz73) ?_
  exact ⟨rfl, he1.then hm2 (fun i hi e => by omega)⟩

set_option maxHeartbeats 4000000 in
set_option maxRecDepth 100000 in
/-- postroad/postroadref02.Num -/
theorem refNum_calls (b : Nat) (v : Value) (s : St) (wide : Int) (w : World) (hB : SlB vb b w v s.1) (hbw : b ≤ w.heap.size) : Gives Try.prog 37 #[TV v s.2, vi wide] w fun r w' => ∃ x, r = .tuple #[TV x (numR s (clip wide)).1.2, .int .u64 ((numR s (clip wide)).2 : Int)] ∧ SlB vb b w' x (numR s (clip wide)).1.1 ∧ Ext w w' := by
  refine Gives.start Try.func37 rfl (Nat.le_of_ble_eq_true rfl) ?_
  rw [args2]
  have hv := hB.sl
  have hOb_ := id hv
  obtain ⟨A0, c0, hv1, hcc, hmm, hcell⟩ := hOb_
  subst hv1
  refine RW.seq ?_
  refine RW.region ?_
  refine RL.op rfl rfl (op_box (cs := [.slice A0 s.1.length c0, .int .i64 s.2]) rfl rfl ?_)
  intro w1 hb1 he1 hs1
  refine RL.op rfl rfl (op_alloc (cs := [.slice none 0 0, .int .i64 0]) zeroT rfl ?_)
  intro w2 hb2 he2 hs2
  replace hb1 := hb1.ext he2
  have hv2 := (hv.ext he1).ext he2
  have hz1 := he1.size
  have hlen := hv.len_le
  refine RL.ev rfl rfl ev_assign ?_
  refine RL.nil ?_
  refine thenN ?_
  refine RW.seq ?_
  refine RW.region ?_
  refine RL.ev rfl rfl ev_move ?_
  refine RL.op rfl rfl (op_call1 Try.func51 rfl rfl rfl ((refClip_calls wide _).mono ?_))
  rintro _ _ ⟨rfl, rfl⟩
  have hc8 := clip_le wide
  generalize hk : clip wide = kk at hc8 ⊢
  refine RL.ev rfl rfl ev_assign ?_
  refine RL.nil ?_
  refine thenN ?_
  refine RW.seq ?_
  refine RW.seq ?_
  refine RW.region ?_
  refine RL.ev rfl rfl (ev_fieldAddr Try.underlying73 rfl sz3 (by decide) rfl) ?_
  refine RL.ev rfl rfl (ev_loadB Try.underlying3 rfl rfl hb1 rfl) ?_
  refine RL.ev rfl rfl (ev_neq rfl rfl) ?_
  refine RL.nil ?_
  refine thenN ?_
  refine RW.condP _ rfl (fun hne => ?_) (fun hne => ?_)
  · skip
    refine RW.seq ?_
    refine RW.region ?_
    refine RL.ev rfl rfl (ev_loadAll (cs := [.slice A0 s.1.length c0, .int .i64 s.2]) Try.underlying73 rfl sz73 rfl hb1) ?_
    refine RL.op rfl rfl (op_storeAll (vs := [.slice A0 s.1.length c0, .int .i64 s.2]) sz73 rfl rfl rfl (oneTV _ _ _ _) hb2 rfl ?_)
    intro w3 hb3 hm3 hs3
    refine RL.ev rfl rfl ev_assign ?_
    refine RL.nil ?_
    refine thenN ?_
    refine RW.ret ?_
    refine thenR ?_
    skip
    rw [numR_bad kk hne]
    have hE : Ext w w3 := (he1.trans he2).then hm3 (fun i hi e => by omega)
    refine retI (RV.cellTmp rfl rfl (run_cell hb3 Try.underlying73 rfl sz73)) ?_
    exact ⟨_, rfl, hB.ext hE, hE⟩
  · skip
    refine RW.skip ?_
    refine thenN ?_
    refine RW.seq ?_
    refine RW.seq ?_
    refine RW.region ?_
    have hz : s.2 = 0 := Decidable.not_not.1 hne
    refine RL.ev rfl rfl (ev_fieldAddr Try.underlying73 rfl sz23 (by decide) rfl) ?_
    refine RL.ev rfl rfl (ev_loadB Try.underlying23 rfl rfl hb1 rfl) ?_
    refine RL.ev rfl rfl (ev_lenS Try.underlying23 hv2 rfl) ?_
    refine RL.ev rfl rfl ev_move ?_
    refine RL.ev rfl rfl (ev_lss rfl rfl) ?_
    refine RL.nil ?_
    refine thenN ?_
    refine RW.condP _ rfl (fun hlt => ?_) (fun hlt => ?_)
    · skip
      refine RW.seq ?_
      refine RW.region ?_
      refine RL.op rfl rfl (op_call1 Try.func57 rfl rfl rfl ((refFail_calls 10 _).mono ?_))
      rintro _ w3 ⟨rfl, he3⟩
      replace hb2 := hb2.ext he3
      refine RL.op rfl rfl (op_storeAll (vs := [.slice none 0 0, .int .i64 10]) sz73 rfl rfl rfl (oneTV _ _ _ _) hb2 rfl ?_)
      intro w4 hb4 hm4 hs4
      refine RL.ev rfl rfl ev_assign ?_
      refine RL.nil ?_
      refine thenN ?_
      refine RW.ret ?_
      refine thenR ?_
      skip
      rw [numR_short hz (by omega)]
      have hE : Ext w w4 := ((he1.trans he2).trans he3).then hm4 (fun i hi e => by omega)
      refine retI (RV.cellTmp rfl rfl (run_cell hb4 Try.underlying73 rfl sz73)) ?_
      exact ⟨_, rfl, SlB.nil _ _ _, hE⟩
    · skip
      refine RW.skip ?_
      refine thenN ?_
      refine RW.seq ?_
      refine RW.region ?_
      have hkl : kk ≤ s.1.length := by omega
      refine RL.ev rfl rfl ev_assign ?_
      refine RL.nil ?_
      refine thenN ?_
      refine RW.seq ?_
      refine RW.seq ?_
      refine RW.region ?_
      refine RL.ev rfl rfl ev_move ?_
      refine RL.ev rfl rfl (ev_arith rfl rfl rfl (sub64 (by omega) (by omega))) ?_
      refine RL.ev rfl rfl ev_assign ?_
      refine RL.nil ?_
      refine thenN ?_
      refine RW.block ?_
      refine RW.loop (fun k R w' => ∃ j : Nat, ∃ z : Int, ∃ nn : Nat, R 8 = vi z ∧ R 7 = .int .u64 (nn : Int) ∧ R 6 = vi (kk : Int) ∧ R 2 = .pointer (some ⟨w.heap.size, 0, none⟩) ∧ R 4 = .pointer (some ⟨w1.heap.size, 0, none⟩) ∧ (j = k) ∧ (z = (j : Int) - 1) ∧ (j ≤ kk) ∧ (nn = le ((s.1.take kk).drop j)) ∧ (w' = w2)) kk ?_ ?_
      · exact ⟨kk, _, 0, rfl, rfl, rfl, rfl, rfl, rfl, rfl, Nat.le_refl _, by rw [List.drop_of_length_le (by simp; omega)]; rfl, rfl⟩
      · rintro k R w' ⟨j, z, nn, hr8_, hr7_, hr6_, hr2_, hr4_, hjk, hz1, hjl, hn, hw⟩
        have hR_ : ∃ R0, R = (upd (upd (upd (upd (upd R0 8 _) 7 _) 6 _) 2 _) 4 _) := ⟨R, by rw [upd_self hr8_, upd_self hr7_, upd_self hr6_, upd_self hr2_, upd_self hr4_]⟩
        obtain ⟨R0, rfl⟩ := hR_
        clear hr8_ hr7_ hr6_ hr2_ hr4_
        subst hw
        refine RW.seq ?_
        refine RW.seq ?_
        refine RW.region ?_
        refine RL.ev rfl rfl ev_move ?_
        refine RL.ev rfl rfl (ev_geq rfl rfl) ?_
        refine RL.nil ?_
        refine thenN ?_
        refine RW.condP _ rfl (fun hge => ?_) (fun hge => ?_)
        · skip
          refine RW.skip ?_
          refine thenN ?_
          refine RW.seq ?_
          refine RW.block ?_
          refine RW.region ?_
          have hjn : (z.toNat) = j - 1 := by omega
          have hbk := le_back s.1 kk j (by omega) hjl hkl
          have hbl := le_back_lt s.1 kk (j - 1) hc8
          rw [← hn] at hbk
          refine RL.ev rfl rfl ev_move ?_
          refine RL.ev rfl rfl (ev_arith rfl rfl rfl (mulu nn (by omega))) ?_
          refine RL.ev rfl rfl (ev_fieldAddr Try.underlying73 rfl sz23 (by decide) rfl) ?_
          refine RL.ev rfl rfl (ev_loadB Try.underlying23 rfl rfl hb1 rfl) ?_
          refine RL.ev rfl rfl ev_move ?_
          refine RL.ev rfl rfl (ev_index Try.underlying23 sz5 hv2 rfl rfl (by omega) (by omega)) ?_
          refine RL.ev rfl rfl (ev_loadG (m := z.toNat) (a := s.1[j - 1]'(by omega)) Try.underlying5 rfl hv2 rfl (by rw [hjn]; exact List.getElem?_eq_getElem _)) ?_
          refine RL.ev rfl rfl (ev_conv Try.underlying5 Try.underlying39 rfl (wrap_u64n _ (by omega))) ?_
          refine RL.ev rfl rfl (ev_arith rfl rfl rfl (addu _ _ (by omega))) ?_
          refine RL.ev rfl rfl ev_assign ?_
          refine RL.nil ?_
          refine blockN ?_
          refine thenN ?_
          refine RW.region ?_
          refine RL.ev rfl rfl ev_move ?_
          refine RL.ev rfl rfl (ev_arith rfl rfl rfl (sub64 (by omega) (by omega))) ?_
          refine RL.ev rfl rfl ev_assign ?_
          refine RL.nil ?_
          refine thenN ?_
          exact ⟨k - 1, by omega, j - 1, _, _, rfl, rfl, rfl, rfl, rfl, by omega, by omega, by omega, hbk.symm, rfl⟩
        · skip
          refine RW.exit ?_
          refine thenX ?_
          refine thenX ?_
          refine blockHit ?_
          refine thenN ?_
          refine RW.seq ?_
          refine RW.region ?_
          refine RL.ev rfl rfl (ev_fieldAddr Try.underlying73 rfl sz23 (by decide) rfl) ?_
          refine RL.ev rfl rfl (ev_loadB Try.underlying23 rfl rfl hb1 rfl) ?_
          refine RL.ev rfl rfl ev_move ?_
          refine RL.ev rfl rfl (ev_cutFrom Try.underlying23 sz5 hv2 rfl rfl (by omega) (by omega)) ?_
          refine RL.ev rfl rfl (ev_build (cs := [cutV (.slice A0 s.1.length c0) kk s.1.length, .int .i64 0]) Try.underlying73 zeroT (places := #[(0, 1), (1, 1)]) (by intro w; kernel_rfl) (pl := [(0, .tmp 39)]) rfl rfl rfl) ?_
          refine RL.ev rfl rfl ev_move ?_
          refine RL.op rfl rfl (op_storeAll (vs := [cutV (.slice A0 s.1.length c0) kk s.1.length, .int .i64 0]) sz73 rfl rfl rfl (oneTV _ _ _ _) hb2 rfl ?_)
          intro w5 hb5 hm5 hs5
          refine RL.ev rfl rfl ev_assign ?_
          refine RL.nil ?_
          refine thenN ?_
          refine RW.ret ?_
          skip
          rw [show numR s kk = ((s.1.drop kk, 0), le (s.1.take kk)) by unfold numR; rw [takeR_ok hz hkl]]
          have hE : Ext w w5 := (he1.trans he2).then hm5 (fun i hi e => by omega)
          refine retI (RV.cellTmp rfl rfl (run_cell hb5 Try.underlying73 rfl sz73)) ?_
          have hj0 : j = 0 := by omega
          subst hj0
          rw [List.drop_zero] at hn
          subst hn
          exact ⟨_, rfl, (hB.ext hE).cutFrom hkl, hE⟩

theorem refNum_at {v : Value} {s s' : St} {wide : Int} {k m : Nat} {w : World} {b : Nat} (hB : SlB vb b w v s.1) (hbw : b ≤ w.heap.size) (hk : clip wide = k) (hn : numR s k = (s', m)) :
    Gives Try.prog 37 #[TV v s.2, vi wide] w (fun r w' => ∃ x, r = .tuple #[TV x s'.2, .int .u64 (m : Int)] ∧ SlB vb b w' x s'.1 ∧ Ext w w') := by
  subst hk
  have h := refNum_calls b v s wide w hB hbw
  rw [hn] at h
  exact h

set_option maxHeartbeats 4000000 in
set_option maxRecDepth 100000 in
/-- postroad/postroadref02.many -/
theorem refMany_calls (b : Nat) (v : Value) (s : St) (most : Int) (size : Nat) (w : World) (hB : SlB vb b w v s.1) (hbw : b ≤ w.heap.size) (hz0 : 0 < size) (hm0 : -9223372036854775808 ≤ most) (hm1 : most ≤ 9223372036854775807) : Gives Try.prog 58 #[TV v s.2, vi most, vi (size : Int)] w fun r w' => ∃ x, r = .tuple #[TV x (manyR s most size).1.2, vi (manyR s most size).2] ∧ SlB vb b w' x (manyR s most size).1.1 ∧ Ext w w' := by
  refine Gives.start Try.func58 rfl (Nat.le_of_ble_eq_true rfl) ?_
  rw [args3]
  have hv := hB.sl
  have hOb_ := id hv
  obtain ⟨A0, c0, hv1, hcc, hmm, hcell⟩ := hOb_
  subst hv1
  have hn32 := numR_lt32 s
  unfold manyR
  generalize hq : numR s 4 = q at hn32 ⊢
  obtain ⟨t, n⟩ := q
  simp only at hn32 ⊢
  refine RW.seq ?_
  refine RW.region ?_
  refine RL.op rfl rfl (op_box (cs := [.slice A0 s.1.length c0, .int .i64 s.2]) rfl rfl ?_)
  intro w1 hb1 he1 hs1
  refine RL.op rfl rfl (op_alloc (cs := [.slice none 0 0, .int .i64 0]) zeroT rfl ?_)
  intro w2 hb2 he2 hs2
  replace hb1 := hb1.ext he2
  have hv2 := (hv.ext he1).ext he2
  have hz1 := he1.size
  refine RL.ev rfl rfl ev_assign ?_
  refine RL.nil ?_
  refine thenN ?_
  refine RW.seq ?_
  refine RW.region ?_
  refine RL.ev rfl rfl (ev_loadAll (cs := [.slice A0 s.1.length c0, .int .i64 s.2]) Try.underlying73 rfl sz73 rfl hb1) ?_
  refine RL.op rfl rfl (op_call2 Try.func37 rfl rfl rfl rfl ((refNum_at ((hB.ext he1).ext he2) (by omega) clip_4 hq).mono ?_))
  rintro _ w3 ⟨x, rfl, hx, he3⟩
  have hOb_ := id hx.sl
  obtain ⟨A3, c3, hx1, _, hmx, _⟩ := hOb_
  subst hx1
  replace hb2 := hb2.ext he3
  have hz3 := he3.size
  refine RL.ev rfl rfl ev_move ?_
  refine RL.ev rfl rfl (ev_extract rfl rfl) ?_
  refine RL.ev rfl rfl (ev_extract rfl rfl) ?_
  refine RL.op rfl rfl (op_alloc (cs := [.slice none 0 0, .int .i64 0]) zeroT rfl ?_)
  intro w4 hb4 he4 hs4
  replace hb2 := hb2.ext he4
  replace hx := hx.ext he4
  refine RL.op rfl rfl (op_storeAll (vs := [.slice A3 t.1.length c3, .int .i64 t.2]) sz73 rfl rfl rfl (oneTV _ _ _ _) hb4 rfl ?_)
  intro w5 hb5 hm5 hs5
  replace hb2 := hb2.mod hm5 (fun e => by omega)
  have hE5 : Ext w w5 := (((he1.trans he2).trans he3).trans he4).then hm5 (fun i hi e => by omega)
  replace hx := hx.mod hm5 (fun k hk e => by omega)
  have hx5 := hx.sl
  refine RL.ev rfl rfl ev_assign ?_
  refine RL.nil ?_
  refine thenN ?_
  refine RW.seq ?_
  refine RW.seq ?_
  refine RW.region ?_
  refine RL.ev rfl rfl (ev_fieldAddr Try.underlying73 rfl sz3 (by decide) rfl) ?_
  refine RL.ev rfl rfl (ev_loadB Try.underlying3 rfl rfl hb5 rfl) ?_
  refine RL.ev rfl rfl (ev_neq rfl rfl) ?_
  refine RL.nil ?_
  refine thenN ?_
  refine RW.condP _ rfl (fun hne => ?_) (fun hne => ?_)
  · skip
    refine RW.seq ?_
    refine RW.region ?_
    refine RL.ev rfl rfl (ev_loadAll (cs := [.slice A3 t.1.length c3, .int .i64 t.2]) Try.underlying73 rfl sz73 rfl hb5) ?_
    refine RL.op rfl rfl (op_storeAll (vs := [.slice A3 t.1.length c3, .int .i64 t.2]) sz73 rfl rfl rfl (oneTV _ _ _ _) hb2 rfl ?_)
    intro w6 hb6 hm6 hs6
    refine RL.ev rfl rfl ev_assign ?_
    refine RL.nil ?_
    refine thenN ?_
    refine RW.ret ?_
    refine thenR ?_
    skip
    rw [if_pos hne]
    have hE : Ext w w6 := (hE5).then hm6 (fun i hi e => by omega)
    refine retI (RV.cellTmp rfl rfl (run_cell hb6 Try.underlying73 rfl sz73)) ?_
    exact ⟨_, rfl, hx.mod hm6 (fun k hk e => by omega), hE⟩
  · skip
    refine RW.skip ?_
    refine thenN ?_
    refine RW.seq ?_
    refine RW.seq ?_
    rcases (show most < 0 ∨ (¬ most < 0 ∧ most < (n : Int)) ∨ (¬ most < 0 ∧ ¬ most < (n : Int)) by omega) with hc | hc | hc
    · skip
      refine RW.region ?_
      refine RL.ev rfl rfl ev_move ?_
      refine RL.ev rfl rfl (ev_true (ev_lss rfl rfl) hc) ?_
      refine RL.ev rfl rfl ev_move ?_
      refine RL.off rfl rfl (by decide) rfl rfl ?_
      refine RL.off rfl rfl (by decide) rfl rfl ?_
      refine RL.off rfl rfl (by decide) rfl rfl ?_
      refine RL.off rfl rfl (by decide) rfl rfl ?_
      refine RL.ev rfl rfl (ev_pickT rfl) ?_
      refine RL.nil ?_
      refine thenN ?_
      refine RW.condT rfl ?_
      refine RW.seq ?_
      refine RW.region ?_
      refine RL.op rfl rfl (op_call1 Try.func57 rfl rfl rfl ((refFail_calls 3 _).mono ?_))
      rintro _ w6 ⟨rfl, he6⟩
      replace hb2 := hb2.ext he6
      refine RL.op rfl rfl (op_storeAll (vs := [.slice none 0 0, .int .i64 3]) sz73 rfl rfl rfl (oneTV _ _ _ _) hb2 rfl ?_)
      intro w7 hb7 hm7 hs7
      refine RL.ev rfl rfl ev_assign ?_
      refine RL.nil ?_
      refine thenN ?_
      refine RW.ret ?_
      refine thenR ?_
      skip
      rw [if_neg hne, if_pos (by omega)]
      have hE : Ext w w7 := (hE5.trans he6).then hm7 (fun i hi e => by omega)
      refine retI (RV.cellTmp rfl rfl (run_cell hb7 Try.underlying73 rfl sz73)) ?_
      exact ⟨_, rfl, SlB.nil _ _ _, hE⟩
    · skip
      refine RW.region ?_
      refine RL.ev rfl rfl ev_move ?_
      refine RL.ev rfl rfl (ev_false (ev_lss rfl rfl) hc.1) ?_
      refine RL.ev rfl rfl ev_move ?_
      refine RL.onEv rfl rfl (by decide) rfl rfl ev_move ?_
      refine RL.onEv rfl rfl (by decide) rfl rfl ev_move ?_
      refine RL.onEv rfl rfl (by decide) rfl rfl (ev_conv Try.underlying3 Try.underlying39 rfl ((wrap_u64 most).trans (show (toU most : Int) = most by unfold toU; omega))) ?_
      refine RL.onEv rfl rfl (by decide) rfl rfl (ev_true (ev_gtr rfl rfl) hc.2) ?_
      refine RL.ev rfl rfl (ev_pickF rfl) ?_
      refine RL.nil ?_
      refine thenN ?_
      refine RW.condT rfl ?_
      refine RW.seq ?_
      refine RW.region ?_
      refine RL.op rfl rfl (op_call1 Try.func57 rfl rfl rfl ((refFail_calls 3 _).mono ?_))
      rintro _ w6 ⟨rfl, he6⟩
      replace hb2 := hb2.ext he6
      refine RL.op rfl rfl (op_storeAll (vs := [.slice none 0 0, .int .i64 3]) sz73 rfl rfl rfl (oneTV _ _ _ _) hb2 rfl ?_)
      intro w7 hb7 hm7 hs7
      refine RL.ev rfl rfl ev_assign ?_
      refine RL.nil ?_
      refine thenN ?_
      refine RW.ret ?_
      refine thenR ?_
      skip
      rw [if_neg hne, if_pos (by omega)]
      have hE : Ext w w7 := (hE5.trans he6).then hm7 (fun i hi e => by omega)
      refine retI (RV.cellTmp rfl rfl (run_cell hb7 Try.underlying73 rfl sz73)) ?_
      exact ⟨_, rfl, SlB.nil _ _ _, hE⟩
    · skip
      refine RW.region ?_
      refine RL.ev rfl rfl ev_move ?_
      refine RL.ev rfl rfl (ev_false (ev_lss rfl rfl) hc.1) ?_
      refine RL.ev rfl rfl ev_move ?_
      refine RL.onEv rfl rfl (by decide) rfl rfl ev_move ?_
      refine RL.onEv rfl rfl (by decide) rfl rfl ev_move ?_
      refine RL.onEv rfl rfl (by decide) rfl rfl (ev_conv Try.underlying3 Try.underlying39 rfl ((wrap_u64 most).trans (show (toU most : Int) = most by unfold toU; omega))) ?_
      refine RL.onEv rfl rfl (by decide) rfl rfl (ev_false (ev_gtr rfl rfl) hc.2) ?_
      refine RL.ev rfl rfl (ev_pickF rfl) ?_
      refine RL.nil ?_
      refine thenN ?_
      refine RW.condF rfl ?_
      refine RW.skip ?_
      refine thenN ?_
      refine RW.seq ?_
      refine RW.seq ?_
      refine RW.region ?_
      refine RL.ev rfl rfl ev_move ?_
      refine RL.ev rfl rfl (ev_fieldAddr Try.underlying73 rfl sz23 (by decide) rfl) ?_
      refine RL.ev rfl rfl (ev_loadB Try.underlying23 rfl rfl hb5 rfl) ?_
      refine RL.ev rfl rfl (ev_lenS Try.underlying23 hx5 rfl) ?_
      refine RL.ev rfl rfl ev_move ?_
      refine RL.ev rfl rfl (ev_quo rfl rfl (by omega) (quoN t.1.length size (by have := hx5.len_le; omega))) ?_
      refine RL.ev rfl rfl (ev_conv Try.underlying3 Try.underlying39 rfl (wrap_u64n _ (by have := Nat.div_le_self t.1.length size; have := hx5.len_le; omega))) ?_
      refine RL.ev rfl rfl (ev_gtr rfl rfl) ?_
      refine RL.nil ?_
      refine thenN ?_
      refine RW.condP _ rfl (fun hgt => ?_) (fun hgt => ?_)
      · skip
        refine RW.seq ?_
        refine RW.region ?_
        refine RL.op rfl rfl (op_call1 Try.func57 rfl rfl rfl ((refFail_calls 10 _).mono ?_))
        rintro _ w6 ⟨rfl, he6⟩
        replace hb2 := hb2.ext he6
        refine RL.op rfl rfl (op_storeAll (vs := [.slice none 0 0, .int .i64 10]) sz73 rfl rfl rfl (oneTV _ _ _ _) hb2 rfl ?_)
        intro w7 hb7 hm7 hs7
        refine RL.ev rfl rfl ev_assign ?_
        refine RL.nil ?_
        refine thenN ?_
        refine RW.ret ?_
        refine thenR ?_
        skip
        rw [if_neg hne, if_neg (by omega)]
        first
          | rw [if_pos (show t.1.length / size < n by omega)]
            have hE : Ext w w7 := (hE5.trans he6).then hm7 (fun i hi e => by omega)
            refine retI (RV.cellTmp rfl rfl (run_cell hb7 Try.underlying73 rfl sz73)) ?_
            exact ⟨_, rfl, SlB.nil _ _ _, hE⟩
          | rw [if_neg (show ¬ t.1.length / size < n by omega)]
            have hE : Ext w w8 := (hE5).then hm8 (fun i hi e => by omega)
            refine retI (RV.cellTmp rfl rfl (run_cell hb8 Try.underlying73 rfl sz73)) ?_
            exact ⟨_, rfl, hx.mod hm8 (fun k hk e => by omega), hE⟩
      · skip
        skip
        refine RW.skip ?_
        refine thenN ?_
        refine RW.seq ?_
        refine RW.region ?_
        refine RL.ev rfl rfl (ev_loadAll (cs := [.slice A3 t.1.length c3, .int .i64 t.2]) Try.underlying73 rfl sz73 rfl hb5) ?_
        refine RL.ev rfl rfl ev_move ?_
        refine RL.ev rfl rfl (ev_conv Try.underlying39 Try.underlying3 rfl ((wrap_i64n n (by omega)).trans (toI_small n (by omega)))) ?_
        refine RL.op rfl rfl (op_storeAll (vs := [.slice A3 t.1.length c3, .int .i64 t.2]) sz73 rfl rfl rfl (oneTV _ _ _ _) hb2 rfl ?_)
        intro w8 hb8 hm8 hs8
        refine RL.ev rfl rfl ev_assign ?_
        refine RL.nil ?_
        refine thenN ?_
        refine RW.ret ?_
        skip
        rw [if_neg hne, if_neg (by omega)]
        first
          | rw [if_pos (show t.1.length / size < n by omega)]
            have hE : Ext w w7 := (hE5.trans he6).then hm7 (fun i hi e => by omega)
            refine retI (RV.cellTmp rfl rfl (run_cell hb7 Try.underlying73 rfl sz73)) ?_
            exact ⟨_, rfl, SlB.nil _ _ _, hE⟩
          | rw [if_neg (show ¬ t.1.length / size < n by omega)]
            have hE : Ext w w8 := (hE5).then hm8 (fun i hi e => by omega)
            refine retI (RV.cellTmp rfl rfl (run_cell hb8 Try.underlying73 rfl sz73)) ?_
            exact ⟨_, rfl, hx.mod hm8 (fun k hk e => by omega), hE⟩

end Go.Proofs.Ytihchogjmgbipaa
