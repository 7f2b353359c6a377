import Derived.Test.YtihchogjmgbipaaRefW1
set_option linter.unusedVariables false
set_option linter.unusedSimpArgs false
namespace Go.Proofs.Ytihchogjmgbipaa
open Go.RowKit Go.Rl

open Go.Codec
theorem refMany_at {v : Value} {s t : St} {most m : Int} {size : Nat} {w : World} {b : Nat} (hB : SlB vb b w v s.1) (hbw : b ≤ w.heap.size) (hz0 : 0 < size) (hm0 : -9223372036854775808 ≤ most) (hm1 : most ≤ 9223372036854775807) (hq : manyR s most size = (t, m)) :
    Gives Try.prog 58 #[TV v s.2, vi most, vi (size : Int)] w (fun r w' => ∃ x, r = .tuple #[TV x t.2, vi m] ∧ SlB vb b w' x t.1 ∧ Ext w w') := by
  have h := refMany_calls b v s most size w hB hbw hz0 hm0 hm1
  rw [hq] at h
  exact h

set_option maxHeartbeats 4000000 in
set_option maxRecDepth 100000 in
/-- postroad/postroadref02.End -/
theorem refEnd_calls (v : Value) (s : St) (w : World) (hv : Sl vb w v s.1) : Gives Try.prog 39 #[TV v s.2] w fun r w' => r = vi (endR s) ∧ Ext w w' := by
  refine Gives.start Try.func39 rfl (Nat.le_of_ble_eq_true rfl) ?_
  rw [args1]
  have hOb_ := id hv
  obtain ⟨A0, c0, hv1, hcc, hmm, hcell⟩ := hOb_
  subst hv1
  refine RW.seq ?_
  refine RW.region ?_
  refine RL.op rfl rfl (op_box (cs := [.slice A0 s.1.length c0, .int .i64 s.2]) rfl rfl ?_)
  intro w1 hb1 he1 hs1
  have hv1 := hv.ext he1
  refine RL.ev rfl rfl ev_assign ?_
  refine RL.nil ?_
  refine thenN ?_
  refine RW.seq ?_
  refine RW.seq ?_
  by_cases h0 : s.2 = 0
  · skip
    refine RW.region ?_
    refine RL.ev rfl rfl (ev_fieldAddr Try.underlying73 rfl sz3 (by decide) rfl) ?_
    refine RL.ev rfl rfl (ev_loadB Try.underlying3 rfl rfl hb1 rfl) ?_
    refine RL.ev rfl rfl (ev_true (ev_eql rfl rfl) h0) ?_
    refine RL.ev rfl rfl ev_move ?_
    refine RL.onEv rfl rfl (by decide) rfl rfl (ev_fieldAddr Try.underlying73 rfl sz23 (by decide) rfl) ?_
    refine RL.onEv rfl rfl (by decide) rfl rfl (ev_loadB Try.underlying23 rfl rfl hb1 rfl) ?_
    refine RL.onEv rfl rfl (by decide) rfl rfl (ev_lenS Try.underlying23 hv1 rfl) ?_
    refine RL.onEv rfl rfl (by decide) rfl rfl (ev_gtr rfl rfl) ?_
    refine RL.ev rfl rfl (ev_pickT rfl) ?_
    refine RL.nil ?_
    refine thenN ?_
    refine RW.condP _ rfl (fun hgt => ?_) (fun hgt => ?_)
    · skip
      refine RW.seq ?_
      refine RW.region ?_
      refine RL.ev rfl rfl ev_assign ?_
      refine RL.nil ?_
      refine thenN ?_
      refine RW.ret ?_
      refine thenR ?_
      refine retI (RV.tmp rfl) ?_
      refine ⟨?_, he1⟩
      unfold endR
      rw [if_neg (by simp [h0])]
      first
        | rw [if_pos (by omega)]; rfl
        | (rw [if_neg (by omega), h0]; rfl)
        | (rw [if_neg (by omega)]; show vi s.2 = _; rw [h0])
    · skip
      refine RW.skip ?_
      refine thenN ?_
      refine RW.seq ?_
      refine RW.region ?_
      refine RL.ev rfl rfl (ev_fieldAddr Try.underlying73 rfl sz3 (by decide) rfl) ?_
      refine RL.ev rfl rfl (ev_loadB Try.underlying3 rfl rfl hb1 rfl) ?_
      refine RL.ev rfl rfl ev_assign ?_
      refine RL.nil ?_
      refine thenN ?_
      refine RW.ret ?_
      refine retI (RV.tmp rfl) ?_
      refine ⟨?_, he1⟩
      unfold endR
      rw [if_neg (by simp [h0])]
      first
        | rw [if_pos (by omega)]; rfl
        | (rw [if_neg (by omega), h0]; rfl)
        | (rw [if_neg (by omega)]; show vi s.2 = _; rw [h0])
  · skip
    refine RW.region ?_
    refine RL.ev rfl rfl (ev_fieldAddr Try.underlying73 rfl sz3 (by decide) rfl) ?_
    refine RL.ev rfl rfl (ev_loadB Try.underlying3 rfl rfl hb1 rfl) ?_
    refine RL.ev rfl rfl (ev_false (ev_eql rfl rfl) h0) ?_
    refine RL.ev rfl rfl ev_move ?_
    refine RL.off rfl rfl (by decide) rfl rfl ?_
    refine RL.off rfl rfl (by decide) rfl rfl ?_
    refine RL.off rfl rfl (by decide) rfl rfl ?_
    refine RL.off rfl rfl (by decide) rfl rfl ?_
    refine RL.ev rfl rfl (ev_pickF rfl) ?_
    refine RL.nil ?_
    refine thenN ?_
    refine RW.condF rfl ?_
    refine RW.skip ?_
    refine thenN ?_
    refine RW.seq ?_
    refine RW.region ?_
    refine RL.ev rfl rfl (ev_fieldAddr Try.underlying73 rfl sz3 (by decide) rfl) ?_
    refine RL.ev rfl rfl (ev_loadB Try.underlying3 rfl rfl hb1 rfl) ?_
    refine RL.ev rfl rfl ev_assign ?_
    refine RL.nil ?_
    refine thenN ?_
    refine RW.ret ?_
    refine retI (RV.tmp rfl) ?_
    refine ⟨?_, he1⟩
    unfold endR
    rw [if_pos h0]; rfl

set_option maxHeartbeats 4000000 in
set_option maxRecDepth 100000 in
/-- postroad/postroadref02.TakeInts -/
theorem refTakeInts_calls (b : Nat) (v : Value) (s : St) (most : Int) (w : World) (hB : SlB vb b w v s.1) (hbw : b ≤ w.heap.size) (hm0 : -9223372036854775808 ≤ most) (hm1 : most ≤ 9223372036854775807) : Gives Try.prog 38 #[TV v s.2, vi most] w fun r w' => ∃ x y, r = .tuple #[TV x (intsR s most).1.2, y] ∧ SlB vb b w' x (intsR s most).1.1 ∧ Own vi 3 w' w.heap.size y (intsR s most).2 ∧ Ext w w' := by
  refine Gives.start Try.func38 rfl (Nat.le_of_ble_eq_true rfl) ?_
  rw [args2]
  have hv := hB.sl
  have hOb_ := id hv
  obtain ⟨A0, c0, hv1, hcc, hmm, hcell⟩ := hOb_
  subst hv1
  have hmi := many_ints s most
  generalize hq : manyR s most 8 = q at hmi
  obtain ⟨t, m⟩ := q
  obtain ⟨N, hN1, hN2, hN3, hN4, hN5, hN6, hN7⟩ := hmi
  rw [hN6, hN7]
  simp only at hN2 hN3 hN4 hN5 ⊢
  clear hN6 hN7
  refine RW.seq ?_
  refine RW.region ?_
  refine RL.op rfl rfl (op_box (cs := [.slice A0 s.1.length c0, .int .i64 s.2]) rfl rfl ?_)
  intro w1 hb1 he1 hs1
  refine RL.op rfl rfl (op_alloc (cs := [.slice none 0 0, .int .i64 0]) zeroT rfl ?_)
  intro w2 hb2 he2 hs2
  replace hb1 := hb1.ext he2
  have hz1 := he1.size
  refine RL.ev rfl rfl ev_assign ?_
  refine RL.nil ?_
  refine thenN ?_
  refine RW.seq ?_
  refine RW.region ?_
  refine RL.ev rfl rfl (ev_loadAll (cs := [.slice A0 s.1.length c0, .int .i64 s.2]) Try.underlying73 rfl sz73 rfl hb1) ?_
  refine RL.ev rfl rfl ev_move ?_
  refine RL.op rfl rfl (op_call3 Try.func58 rfl rfl rfl rfl rfl ((refMany_at ((hB.ext he1).ext he2) (by omega) (by decide) hm0 hm1 hq).mono ?_))
  rintro _ w3 ⟨x, rfl, hx, he3⟩
  have hA3 := hx.sl
  obtain ⟨A3, c3, hx1, _, hmx, _⟩ := hA3
  subst hx1
  replace hb2 := hb2.ext he3
  have hz3 := he3.size
  refine RL.ev rfl rfl ev_move ?_
  refine RL.ev rfl rfl (ev_extract rfl rfl) ?_
  refine RL.ev rfl rfl (ev_extract rfl rfl) ?_
  refine RL.op rfl rfl (op_alloc (cs := [.slice none 0 0, .int .i64 0]) zeroT rfl ?_)
  intro w4 hb4 he4 hs4
  replace hb2 := hb2.ext he4
  replace hx := hx.ext he4
  refine RL.op rfl rfl (op_storeAll (vs := [.slice A3 t.1.length c3, .int .i64 t.2]) sz73 rfl rfl rfl (oneTV _ _ _ _) hb4 rfl ?_)
  intro w5 hb5 hm5 hs5
  replace hb2 := hb2.mod hm5 (fun e => by omega)
  have hE5 : Ext w w5 := (((he1.trans he2).trans he3).trans he4).then hm5 (fun i hi e => by omega)
  replace hx := hx.mod hm5 (fun k hk e => by omega)
  refine RL.ev rfl rfl ev_assign ?_
  refine RL.nil ?_
  refine thenN ?_
  refine RW.seq ?_
  refine RW.region ?_
  refine RL.ev rfl rfl ev_assign ?_
  refine RL.nil ?_
  refine thenN ?_
  refine RW.seq ?_
  refine RW.seq ?_
  refine RW.region ?_
  refine RL.ev rfl rfl ev_assign ?_
  refine RL.nil ?_
  refine thenN ?_
  refine RW.block ?_
  refine RW.loop (fun k R w' => ∃ i : Nat, ∃ vo : Value, ∃ xi : Value, R 9 = .int .i64 (i : Int) ∧ R 8 = vo ∧ R 7 = vi m ∧ R 6 = .pointer (some ⟨w3.heap.size, 0, none⟩) ∧ R 4 = .pointer (some ⟨w1.heap.size, 0, none⟩) ∧ (i + k = N) ∧ (SlB vb b w' xi (t.1.drop (i * 8))) ∧ (Blk w' w3.heap.size [xi, .int .i64 t.2] 73) ∧ (Blk w' w1.heap.size [.slice none 0 0, .int .i64 0] 73) ∧ (Own vi 3 w' w5.heap.size vo (ints8 i t.1)) ∧ (Ext w w') ∧ (w5.heap.size ≤ w'.heap.size)) N ?_ ?_
  · exact ⟨0, .slice none 0 0, _, rfl, rfl, rfl, rfl, rfl, by omega, by simpa using hx, hb5, hb2, Own.nil _ _ _ _, hE5, Nat.le_refl _⟩
  · rintro k R w' ⟨i, vo, xi, hr9_, hr8_, hr7_, hr6_, hr4_, hik, hxi, hbt, hbr, ho, hext, hsz⟩
    have hR_ : ∃ R0, R = (upd (upd (upd (upd (upd R0 9 _) 8 _) 7 _) 6 _) 4 _) := ⟨R, by rw [upd_self hr9_, upd_self hr8_, upd_self hr7_, upd_self hr6_, upd_self hr4_]⟩
    obtain ⟨R0, rfl⟩ := hR_
    clear hr9_ hr8_ hr7_ hr6_ hr4_
    have hxs := hxi.sl
    obtain ⟨A5, c5, hx5, _, hmx5, _⟩ := hxs
    subst hx5
    have hob := ho.lt
    refine RW.seq ?_
    refine RW.seq ?_
    refine RW.region ?_
    refine RL.ev rfl rfl ev_move ?_
    refine RL.ev rfl rfl ev_move ?_
    refine RL.ev rfl rfl (ev_lss rfl rfl) ?_
    refine RL.nil ?_
    refine thenN ?_
    refine RW.condP _ rfl (fun hlt => ?_) (fun hlt => ?_)
    · skip
      refine RW.skip ?_
      refine thenN ?_
      refine RW.seq ?_
      refine RW.block ?_
      refine RW.seq ?_
      refine RW.region ?_
      have hiN : i < N := by
        rcases Nat.eq_zero_or_pos N with h | h
        · have := hN3 h; omega
        · have := hN2 h; omega
      have ht0 : t.2 = 0 := hN5 (by omega)
      have hst := numR_step t.1 t.2 i ht0 (by omega)
      refine RL.ev rfl rfl (ev_loadAll (cs := [.slice A5 (t.1.drop (i * 8)).length c5, .int .i64 t.2]) Try.underlying73 rfl sz73 rfl hbt) ?_
      refine RL.op rfl rfl (op_call2 Try.func37 rfl rfl rfl rfl ((refNum_at (s := (t.1.drop (i * 8), t.2)) hxi (by omega) clip_8 hst).mono ?_))
      rintro _ w6 ⟨x2, rfl, hx2, he6⟩
      have hA6 := hx2.sl
      obtain ⟨A6, c6, hx6, _, hmx6, _⟩ := hA6
      subst hx6
      have hz6 := he6.size
      refine RL.ev rfl rfl ev_move ?_
      refine RL.ev rfl rfl (ev_extract rfl rfl) ?_
      refine RL.ev rfl rfl (ev_extract rfl rfl) ?_
      refine RL.op rfl rfl (op_alloc (cs := [.slice none 0 0, .int .i64 0]) zeroT rfl ?_)
      intro w7 hb7 he7 hs7
      refine RL.op rfl rfl (op_storeAll (vs := [.slice A6 (t.1.drop ((i + 1) * 8)).length c6, .int .i64 0]) sz73 rfl rfl rfl (oneTV _ _ _ _) hb7 rfl ?_)
      intro w8 hb8 hm8 hs8
      have hbt8 := ((hbt.ext he6).ext he7).mod hm8 (fun e => by omega)
      have hbr8 := ((hbr.ext he6).ext he7).mod hm8 (fun e => by omega)
      have ho8 := ((ho.ext he6).ext he7).mod hm8 (fun k hk e => by have := hob k hk; omega)
      have hx8 := (hx2.ext he7).mod hm8 (fun k hk e => by omega)
      have hE8 : Ext w w8 := ((hext.trans he6).trans he7).then hm8 (fun i hi e => by have := hext.size; omega)
      refine RL.ev rfl rfl ev_assign ?_
      refine RL.nil ?_
      refine thenN ?_
      refine RW.seq ?_
      refine RW.region ?_
      refine RL.ev rfl rfl (ev_loadAll (cs := [.slice A6 (t.1.drop ((i + 1) * 8)).length c6, .int .i64 0]) Try.underlying73 rfl sz73 rfl hb8) ?_
      refine RL.op rfl rfl (op_storeAll (vs := [.slice A6 (t.1.drop ((i + 1) * 8)).length c6, .int .i64 0]) sz73 rfl rfl rfl (oneTV _ _ _ _) hbt8 rfl ?_)
      intro w9 hb9 hm9 hs9
      refine RL.nil ?_
      refine thenN ?_
      refine RW.region ?_
      refine RL.ev rfl rfl ev_move ?_
      refine RL.ev rfl rfl ev_move ?_
      refine RL.ev rfl rfl (ev_conv Try.underlying39 Try.underlying3 rfl (wrap_i64n _ (le8_lt _))) ?_
      refine RL.op rfl rfl (op_lit (enc := vi) (l := [toI (le ((t.1.drop (i * 8)).take 8))]) (xs := [.tmp 31]) Try.underlying36 sz3 zr3 rfl rfl (fun _ => rfl) rfl (by decide) (by decide) ?_)
      intro w10 ho10 hb10 he10 hs10
      refine RL.op rfl rfl (op_append Try.underlying36 inf3 rfl (fun _ => rfl) ((ho8.mod hm9 (fun k hk e => by have := hob k hk; omega)).ext he10) rfl ho10.sl rfl (by simp only [List.length_cons, List.length_nil, ints8_length]; omega) (by decide) (by omega) ?_)
      intro v11 w11 ho11 hm11 hk11
      refine RL.ev rfl rfl ev_assign ?_
      refine RL.nil ?_
      refine blockN ?_
      refine thenN ?_
      refine RW.region ?_
      refine RL.ev rfl rfl ev_move ?_
      refine RL.ev rfl rfl (ev_arith rfl rfl rfl (add64 (by omega) (by omega))) ?_
      refine RL.ev rfl rfl ev_assign ?_
      refine RL.nil ?_
      refine thenN ?_
      refine ⟨k - 1, by omega, i + 1, v11, _, rfl, rfl, rfl, rfl, rfl, by omega, ((hx8.mod hm9 (fun k hk e => by omega)).ext he10).mod hm11 (fun k hk e => by have := hob k e; omega), ?_, ((hbr8.mod hm9 (fun e => by omega)).ext he10).mod hm11 (fun e => by have := hob _ e; omega), by rw [ints8_snoc]; exact ho11, ((hE8.then hm9 (fun k hk e => by omega)).trans he10).then hm11 (fun k hk e => by have := hob k e; omega), by have := hm11.size; omega⟩
      rw [ht0]
      exact (hb9.ext he10).mod hm11 (fun e => by have := hob _ e; omega)
    · skip
      refine RW.exit ?_
      refine thenX ?_
      refine thenX ?_
      refine blockHit ?_
      refine thenN ?_
      refine RW.seq ?_
      refine RW.region ?_
      refine RL.ev rfl rfl (ev_loadAll (cs := [.slice A5 (t.1.drop (i * 8)).length c5, .int .i64 t.2]) Try.underlying73 rfl sz73 rfl hbt) ?_
      refine RL.ev rfl rfl ev_move ?_
      refine RL.op rfl rfl (op_storeAll (vs := [.slice A5 (t.1.drop (i * 8)).length c5, .int .i64 t.2]) sz73 rfl rfl rfl (oneTV _ _ _ _) hbr rfl ?_)
      intro w20 hb20 hm20 hs20
      refine RL.ev rfl rfl ev_assign ?_
      refine RL.nil ?_
      refine thenN ?_
      refine RW.ret ?_
      skip
      have hiN : i = N := by
        rcases Nat.eq_zero_or_pos N with h | h
        · omega
        · have := hN2 h; omega
      subst hiN
      have hE : Ext w w20 := hext.then hm20 (fun i hi e => by omega)
      refine retI (RV.cellTmp rfl rfl (run_cell hb20 Try.underlying73 rfl sz73)) ?_
      exact ⟨_, _, rfl, hxi.mod hm20 (fun k hk e => by omega), (ho.mod hm20 (fun k hk e => by have := hob k hk; omega)).lower (by omega), hE⟩

end Go.Proofs.Ytihchogjmgbipaa
