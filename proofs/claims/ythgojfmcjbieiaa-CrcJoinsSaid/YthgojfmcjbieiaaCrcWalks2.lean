import Derived.Test.YthgojfmcjbieiaaCrcWalks
set_option linter.unusedVariables false
set_option linter.unusedSimpArgs false
namespace Go.Proofs.Ythgojfmcjbieiaa
open Go.RowKit Go.Rl

open Go.Crc
set_option maxHeartbeats 4000000 in
set_option maxRecDepth 100000 in
/-- (postroad/crc.moves).of -/
theorem of_calls (k : Nat) (n : BitVec 32) (w : World) : Gives Try.prog 31 #[.agg (movRow k).toArray, u32 n] w fun r w' => r = u32 (stepN k n) ∧ Ext w w' := by
  refine Gives.start Try.func31 rfl (Nat.le_of_ble_eq_true rfl) ?_
  rw [args2]
  refine RW.seq ?_
  refine RW.region ?_
  refine RL.op rfl rfl (op_box rfl rfl ?_)
  intro w1 hb1 he1 hs1
  refine RL.ev rfl rfl ev_assign ?_
  refine RL.nil ?_
  refine thenN ?_
  refine RW.seq ?_
  refine RW.region ?_
  refine RL.ev rfl rfl ev_assign ?_
  refine RL.nil ?_
  refine thenN ?_
  refine RW.seq ?_
  refine RW.seq ?_
  refine RW.region ?_
  refine RL.ev rfl rfl ev_move ?_
  refine RL.nil ?_
  refine thenN ?_
  refine RW.block ?_
  refine RW.loop (fun k1 R w' => ∃ i : Nat, R 7 = .int .i64 (i : Int) ∧ R 5 = u32 (stepN k (low n i)) ∧ R 1 = u32 n ∧ R 2 = .pointer (some ⟨w.heap.size, 0, none⟩) ∧ (i + k1 = 32) ∧ (w' = w1)) 32 ?_ ?_
  · exact ⟨0, rfl, by rw [low, stepN_zero]; rfl, rfl, rfl, rfl, rfl⟩
  · rintro k1 R w' ⟨i, hr7_, hr5_, hr1_, hr2_, hik, hw⟩
    have hR_ : ∃ R0, R = (upd (upd (upd (upd R0 7 _) 5 _) 1 _) 2 _) := ⟨R, by rw [upd_self hr7_, upd_self hr5_, upd_self hr1_, upd_self hr2_]⟩
    obtain ⟨R0, rfl⟩ := hR_
    clear hr7_ hr5_ hr1_ hr2_
    subst hw
    refine RW.seq ?_
    refine RW.region ?_
    refine RL.ev rfl rfl (ev_lss rfl rfl) ?_
    refine RL.nil ?_
    refine thenN ?_
    refine RW.seq ?_
    refine RW.condP _ rfl (fun hlt => ?_) (fun hlt => ?_)
    · skip
      refine RW.skip ?_
      refine thenN ?_
      refine RW.seq ?_
      refine RW.block ?_
      refine RW.seq ?_
      refine RW.region ?_
      refine RL.ev rfl rfl ev_move ?_
      refine RL.ev rfl rfl ev_assign ?_
      refine RL.nil ?_
      refine thenN ?_
      refine RW.seq ?_
      refine RW.region ?_
      refine RL.ev rfl rfl ev_move ?_
      refine RL.ev rfl rfl ev_move ?_
      refine RL.ev rfl rfl (ev_shr rfl rfl (by omega) (b_shr _ i (by omega))) ?_
      refine RL.ev rfl rfl (ev_arith rfl rfl rfl (b_and _ 1#32)) ?_
      refine RL.ev rfl rfl (ev_eql rfl rfl) ?_
      refine RL.nil ?_
      refine thenN ?_
      refine RW.condP _ rfl (fun hbit => ?_) (fun hbit => ?_)
      · skip
        refine RW.region ?_
        refine RL.ev rfl rfl ev_move ?_
        refine RL.ev rfl rfl ev_move ?_
        refine RL.ev rfl rfl (ev_indexArr Try.underlying49 sz34 rfl rfl (by omega) (by omega)) ?_
        refine RL.ev rfl rfl (ev_loadB Try.underlying34 rfl rfl hb1 (by rw [Int.toNat_natCast]; exact movRow_get k i (by omega))) ?_
        refine RL.ev rfl rfl (ev_arith rfl rfl rfl (b_xor _ _)) ?_
        refine RL.ev rfl rfl ev_assign ?_
        refine RL.nil ?_
        refine blockN ?_
        refine thenN ?_
        refine RW.region ?_
        refine RL.ev rfl rfl (ev_arith rfl rfl rfl (add64 (by omega) (by omega))) ?_
        refine RL.ev rfl rfl ev_move ?_
        refine RL.nil ?_
        refine thenN ?_
        refine ⟨k1 - 1, by omega, i + 1, rfl, ?_, rfl, rfl, by omega, rfl⟩
        rw [low_step]
        first
          | rw [if_pos ((bit_int n i).1 hbit)]; rfl
          | rw [if_neg (fun e => hbit ((bit_int n i).2 e))]; rfl
      · skip
        refine RW.skip ?_
        refine blockN ?_
        refine thenN ?_
        refine RW.region ?_
        refine RL.ev rfl rfl (ev_arith rfl rfl rfl (add64 (by omega) (by omega))) ?_
        refine RL.ev rfl rfl ev_move ?_
        refine RL.nil ?_
        refine thenN ?_
        refine ⟨k1 - 1, by omega, i + 1, rfl, ?_, rfl, rfl, by omega, rfl⟩
        rw [low_step]
        first
          | rw [if_pos ((bit_int n i).1 hbit)]; rfl
          | rw [if_neg (fun e => hbit ((bit_int n i).2 e))]; rfl
    · skip
      refine RW.exit ?_
      refine thenX ?_
      refine thenX ?_
      refine blockHit ?_
      refine thenN ?_
      refine RW.seq ?_
      refine RW.region ?_
      refine RL.ev rfl rfl ev_move ?_
      refine RL.ev rfl rfl ev_assign ?_
      refine RL.nil ?_
      refine thenN ?_
      refine RW.ret ?_
      refine retI (RV.tmp rfl) ?_
      refine ⟨?_, he1⟩
      have hi : i = 32 := by omega
      subst hi
      rw [← low_all n]; simp only [low_all]; rfl

set_option maxHeartbeats 4000000 in
set_option maxRecDepth 100000 in
/-- (postroad/crc.moves).twice -/
theorem twice_calls (k : Nat) (w : World) : Gives Try.prog 30 #[.agg (movRow k).toArray] w fun r w' => r = .agg (movRow (k + k)).toArray ∧ Ext w w' := by
  refine Gives.start Try.func30 rfl (Nat.le_of_ble_eq_true rfl) ?_
  rw [args1]
  refine RW.seq ?_
  refine RW.region ?_
  refine RL.op rfl rfl (op_box rfl rfl ?_)
  intro w1 hb1 he1 hs1
  refine RL.op rfl rfl (op_alloc zero32 rfl ?_)
  intro w2 hb2 he2 hs2
  refine RL.nil ?_
  refine thenN ?_
  refine RW.seq ?_
  refine RW.region ?_
  refine RL.ev rfl rfl (ev_loadAll (cs := movRow k) Try.underlying49 rfl (by rw [movRow_length]; exact sz49) rfl (hb1.ext he2)) ?_
  refine RL.op rfl rfl (op_alloc zero32 rfl ?_)
  intro w3 hb3 he3 hs3
  refine RL.op rfl rfl (op_storeAll (vs := movRow k) (by rw [movRow_length]; exact sz49) rfl rfl rfl (movRow_one k) hb3 (by rw [movRow_length]; simp) ?_)
  intro w4 hb4 hm4 hs4
  have h1 := he1.size
  have h2 := he2.size
  have hb1 := (hb1.ext (he2.trans he3)).mod hm4 (by omega)
  have hb2 := (hb2.ext he3).mod hm4 (by omega)
  have he4 : Ext w w4 := ((he1.trans he2).trans he3).then hm4 (by omega)
  refine RL.nil ?_
  refine thenN ?_
  refine RW.seq ?_
  refine RW.seq ?_
  refine RW.region ?_
  refine RL.ev rfl rfl ev_move ?_
  refine RL.nil ?_
  refine thenN ?_
  refine RW.block ?_
  refine RW.loop (fun k1 R w' => ∃ i : Nat, R 6 = .int .i64 (i : Int) ∧ R 1 = .pointer (some ⟨w.heap.size, 0, none⟩) ∧ R 2 = .pointer (some ⟨w1.heap.size, 0, none⟩) ∧ R 3 = .pointer (some ⟨w2.heap.size, 0, none⟩) ∧ (i + k1 = 32) ∧ (Blk w' w.heap.size (movRow k) 49) ∧ (Blk w' w1.heap.size (List.replicate 32 (.int .u32 0)) 49) ∧ (Blk w' w2.heap.size (movOf (k + k) i fun j => u32 (stepN k (1#32 <<< j))) 49) ∧ (Ext w w')) 32 ?_ ?_
  · exact ⟨0, rfl, rfl, rfl, rfl, rfl, hb1, hb2, by rw [movOf_zero' k]; exact hb4, he4⟩
  · rintro k1 R w' ⟨i, hr6_, hr1_, hr2_, hr3_, hik, hbm, hbr, hbo, hext⟩
    have hR_ : ∃ R0, R = (upd (upd (upd (upd R0 6 _) 1 _) 2 _) 3 _) := ⟨R, by rw [upd_self hr6_, upd_self hr1_, upd_self hr2_, upd_self hr3_]⟩
    obtain ⟨R0, rfl⟩ := hR_
    clear hr6_ hr1_ hr2_ hr3_
    refine RW.seq ?_
    refine RW.region ?_
    refine RL.ev rfl rfl (ev_lss rfl rfl) ?_
    refine RL.nil ?_
    refine thenN ?_
    refine RW.seq ?_
    refine RW.condP _ rfl (fun hlt => ?_) (fun hlt => ?_)
    · skip
      refine RW.skip ?_
      refine thenN ?_
      refine RW.seq ?_
      refine RW.block ?_
      refine RW.seq ?_
      refine RW.region ?_
      refine RL.ev rfl rfl ev_move ?_
      refine RL.ev rfl rfl ev_assign ?_
      refine RL.nil ?_
      refine thenN ?_
      refine RW.draw rfl (fun w' => Blk w' w.heap.size (movRow k) 49) ?_
      have hS : Blk w'.drew w.heap.size (movRow k) 49 := hbm
      have hrow := movRow_get k i (by omega)
      refine RA.take (i := 0) rfl rfl (by kernel_rfl) (by kernel_rfl) (by kernel_rfl) (by intro _ _ _ h; exact h) rfl hS (fun w hS => ev_move) ?_
      refine RA.take (i := 1) rfl rfl (by kernel_rfl) (by kernel_rfl) (by kernel_rfl) (by intro _ _ _ h; exact h) rfl hS (fun w hS => (ev_loadAll (cs := movRow k) Try.underlying49 rfl (by rw [movRow_length]; exact sz49) rfl hS)) ?_
      refine RA.take (i := 2) rfl rfl (by kernel_rfl) (by kernel_rfl) (by kernel_rfl) (by intro _ _ _ h; exact h) rfl hS (fun w hS => ev_move) ?_
      refine RA.take (i := 3) rfl rfl (by kernel_rfl) (by kernel_rfl) (by kernel_rfl) (by intro _ _ _ h; exact h) rfl hS (fun w hS => (ev_indexArr Try.underlying49 sz34 rfl rfl (by omega) (by omega))) ?_
      refine RA.take (i := 4) rfl rfl (by kernel_rfl) (by kernel_rfl) (by kernel_rfl) (by intro _ _ _ h; exact h) rfl hS (fun w hS => (ev_loadB Try.underlying34 rfl rfl hS (by rw [Int.toNat_natCast]; exact hrow))) ?_
      refine RA.only (i := 5) (by kernel_rfl) rfl rfl rfl (op_call2 Try.func31 rfl rfl rfl rfl ((of_calls k (stepN k (1#32 <<< i)) _).mono ?_))
      rintro _ w5 ⟨rfl, he5⟩
      refine ⟨hS.ext he5, ?_⟩
      have hS := hS.ext he5
      have hbr := Blk.ext (w := w'.drew) hbr he5
      have hbo := Blk.ext (w := w'.drew) hbo he5
      have hext : Ext w w5 := hext.trans ((Ext.drew w').trans he5)
      refine RA.take (i := 6) rfl rfl (by kernel_rfl) (by kernel_rfl) (by kernel_rfl) (by intro _ _ _ h; exact h) rfl hS (fun w hS => (ev_indexArr Try.underlying49 sz34 rfl rfl (by omega) (by omega))) ?_
      refine RA.only (i := 7) (by kernel_rfl) rfl rfl rfl (op_storeB (v := u32 (stepN k (stepN k (1#32 <<< i)))) sz34 rfl rfl rfl rfl hbo (by rw [movOf_length]; omega) ?_)
      intro w6 hb6 hm6 hs6
      refine ⟨hS.mod hm6 (by omega), ?_⟩
      have hS := hS.mod hm6 (by omega)
      have hbr := hbr.mod hm6 (by omega)
      have hext := hext.then hm6 (by omega)
      rw [← stepN_add k k, Int.toNat_natCast, ← movOf_succ] at hb6
      refine RA.done (by kernel_rfl) ?_
      refine blockN ?_
      refine thenN ?_
      refine RW.region ?_
      refine RL.ev rfl rfl (ev_arith rfl rfl rfl (add64 (by omega) (by omega))) ?_
      refine RL.ev rfl rfl ev_move ?_
      refine RL.nil ?_
      refine thenN ?_
      exact ⟨k1 - 1, by omega, i + 1, rfl, rfl, rfl, rfl, by omega, hS, hbr, hb6, hext⟩
    · skip
      refine RW.exit ?_
      refine thenX ?_
      refine thenX ?_
      refine blockHit ?_
      refine thenN ?_
      refine RW.seq ?_
      refine RW.region ?_
      have hi : i = 32 := by omega
      subst hi
      rw [movOf_full] at hbo
      refine RL.ev rfl rfl (ev_loadAll (cs := movRow (k + k)) Try.underlying49 rfl (by rw [movRow_length]; exact sz49) rfl hbo) ?_
      refine RL.op rfl rfl (op_storeAll (vs := movRow (k + k)) (by rw [movRow_length]; exact sz49) rfl rfl rfl (movRow_one _) hbr (by rw [movRow_length]; simp) ?_)
      intro w7 hb7 hm7 hs7
      refine RL.nil ?_
      refine thenN ?_
      refine RW.ret ?_
      refine retI (RV.cell rfl rfl hb7 Try.underlying49 rfl (by rw [List.size_toArray, movRow_length]; exact sz49)) ?_
      exact ⟨rfl, hext.then hm7 (by omega)⟩

set_option maxHeartbeats 4000000 in
set_option maxRecDepth 100000 in
/-- postroad/crc.Join -/
theorem join_calls (a b : BitVec 32) (m : Int) (w : World) (hm0 : -9223372036854775808 ≤ m) (hm1 : m ≤ 9223372036854775807) : Gives Try.prog 24 #[u32 a, u32 b, .int .i64 m] w fun r w' => r = u32 (join a b m) ∧ Ext w w' := by
  refine Gives.start Try.func24 rfl (Nat.le_of_ble_eq_true rfl) ?_
  rw [args3]
  refine RW.seq ?_
  refine RW.region ?_
  refine RL.ev rfl rfl ev_assign ?_
  refine RL.nil ?_
  refine thenN ?_
  refine RW.seq ?_
  refine RW.region ?_
  refine RL.op rfl rfl (op_alloc zero32 rfl ?_)
  intro w1 hb1 he1 hs1
  refine RL.nil ?_
  refine thenN ?_
  refine RW.seq ?_
  refine RW.seq ?_
  refine RW.region ?_
  refine RL.ev rfl rfl ev_move ?_
  refine RL.nil ?_
  refine thenN ?_
  refine RW.block ?_
  refine RW.loop (fun k R w' => ∃ i : Nat, R 9 = .int .i64 (i : Int) ∧ R 0 = u32 a ∧ R 1 = u32 b ∧ R 2 = .int .i64 m ∧ R 7 = .pointer (some ⟨w.heap.size, 0, none⟩) ∧ (i + k = 32) ∧ (Blk w' w.heap.size (movOf 1 i fun _ => u32 0#32) 49) ∧ (Ext w w')) 32 ?_ ?_
  · exact ⟨0, rfl, rfl, rfl, rfl, rfl, rfl, by rw [movOf_zero]; exact hb1, he1⟩
  · rintro k R w' ⟨i, hr9_, hr0_, hr1_, hr2_, hr7_, hik, hb, hext⟩
    have hR_ : ∃ R0, R = (upd (upd (upd (upd (upd R0 9 _) 0 _) 1 _) 2 _) 7 _) := ⟨R, by rw [upd_self hr9_, upd_self hr0_, upd_self hr1_, upd_self hr2_, upd_self hr7_]⟩
    obtain ⟨R0, rfl⟩ := hR_
    clear hr9_ hr0_ hr1_ hr2_ hr7_
    refine RW.seq ?_
    refine RW.region ?_
    refine RL.ev rfl rfl (ev_lss rfl rfl) ?_
    refine RL.nil ?_
    refine thenN ?_
    refine RW.seq ?_
    refine RW.condP _ rfl (fun hlt => ?_) (fun hlt => ?_)
    · skip
      refine RW.skip ?_
      refine thenN ?_
      refine RW.seq ?_
      refine RW.block ?_
      refine RW.seq ?_
      refine RW.region ?_
      refine RL.ev rfl rfl ev_move ?_
      refine RL.ev rfl rfl ev_assign ?_
      refine RL.nil ?_
      refine thenN ?_
      refine RW.region ?_
      refine RL.ev rfl rfl ev_move ?_
      refine RL.ev rfl rfl ev_move ?_
      refine RL.ev rfl rfl (ev_shl rfl rfl (by omega) (b_shl1 i (by omega))) ?_
      refine RL.op rfl rfl (op_call1 Try.func29 rfl rfl rfl ((step_calls (1#32 <<< i) _).mono ?_))
      rintro _ _ ⟨rfl, rfl⟩
      rw [show Crc.step (1#32 <<< i) = stepN 1 (1#32 <<< i) from rfl]
      refine RL.ev rfl rfl (ev_indexArr Try.underlying49 sz34 rfl rfl (by omega) (by omega)) ?_
      refine RL.op rfl rfl (op_storeB (v := u32 (stepN 1 (1#32 <<< i))) sz34 rfl rfl rfl rfl hb (by rw [movOf_length]; omega) ?_)
      intro w2 hb2 hm2 hs2
      rw [Int.toNat_natCast, ← movOf_succ] at hb2
      refine RL.nil ?_
      refine blockN ?_
      refine thenN ?_
      refine RW.region ?_
      refine RL.ev rfl rfl (ev_arith rfl rfl rfl (add64 (by omega) (by omega))) ?_
      refine RL.ev rfl rfl ev_move ?_
      refine RL.nil ?_
      refine thenN ?_
      exact ⟨k - 1, by omega, i + 1, rfl, rfl, rfl, rfl, rfl, by omega, hb2, hext.then hm2 (by omega)⟩
    · skip
      refine RW.exit ?_
      refine thenX ?_
      refine thenX ?_
      refine blockHit ?_
      refine thenN ?_
      refine RW.seq ?_
      refine RW.seq ?_
      refine RW.region ?_
      have hi : i = 32 := by omega
      subst hi
      rw [movOf_full] at hb
      refine RL.ev rfl rfl ev_move ?_
      refine RL.nil ?_
      refine thenN ?_
      refine RW.block ?_
      refine RW.loop (fun k2 R2 w' => ∃ j : Nat, ∃ q : Nat, R2 18 = .int .i64 (j : Int) ∧ R2 0 = u32 a ∧ R2 1 = u32 b ∧ R2 2 = .int .i64 m ∧ R2 7 = .pointer (some ⟨w.heap.size, 0, none⟩) ∧ (j + k2 = 3) ∧ (q = 2 ^ j) ∧ (Blk w' w.heap.size (movRow q) 49) ∧ (Ext w w')) 3 ?_ ?_
      · exact ⟨0, 1, rfl, rfl, rfl, rfl, rfl, rfl, rfl, hb, hext⟩
      · rintro k2 R2 w' ⟨j, q, hr18_, hr0_, hr1_, hr2_, hr7_, hjk, hq, hb, hext⟩
        have hR_ : ∃ R20, R2 = (upd (upd (upd (upd (upd R20 18 _) 0 _) 1 _) 2 _) 7 _) := ⟨R2, by rw [upd_self hr18_, upd_self hr0_, upd_self hr1_, upd_self hr2_, upd_self hr7_]⟩
        obtain ⟨R20, rfl⟩ := hR_
        clear hr18_ hr0_ hr1_ hr2_ hr7_
        refine RW.seq ?_
        refine RW.region ?_
        refine RL.ev rfl rfl (ev_lss rfl rfl) ?_
        refine RL.nil ?_
        refine thenN ?_
        refine RW.seq ?_
        refine RW.condP _ rfl (fun hlt2 => ?_) (fun hlt2 => ?_)
        · skip
          refine RW.skip ?_
          refine thenN ?_
          refine RW.seq ?_
          refine RW.block ?_
          refine RW.region ?_
          refine RL.ev rfl rfl (ev_loadAll (cs := movRow q) Try.underlying49 rfl (by rw [movRow_length]; exact sz49) rfl hb) ?_
          refine RL.op rfl rfl (op_call1 Try.func30 rfl rfl rfl ((twice_calls (q) _).mono ?_))
          rintro _ w3 ⟨rfl, he3⟩
          refine RL.op rfl rfl (op_storeAll (vs := movRow (q + q)) (by rw [movRow_length]; exact sz49) rfl rfl rfl (movRow_one _) (hb.ext he3) (by rw [movRow_length, movRow_length]) ?_)
          intro w4 hb4 hm4 hs4
          have hext4 : Ext w w4 := (hext.trans he3).then hm4 (by omega)
          refine RL.nil ?_
          refine blockN ?_
          refine thenN ?_
          refine RW.region ?_
          refine RL.ev rfl rfl (ev_arith rfl rfl rfl (add64 (by omega) (by omega))) ?_
          refine RL.ev rfl rfl ev_move ?_
          refine RL.nil ?_
          refine thenN ?_
          exact ⟨k2 - 1, by omega, j + 1, q + q, rfl, rfl, rfl, rfl, rfl, by omega, by rw [hq, Nat.pow_succ]; omega, hb4, hext4⟩
        · skip
          refine RW.exit ?_
          refine thenX ?_
          refine thenX ?_
          refine blockHit ?_
          refine thenN ?_
          refine RW.seq ?_
          refine RW.block ?_
          refine RW.loop (fun k3 R3 w' => ∃ c : BitVec 32, ∃ q : Nat, ∃ z : Int, ∃ g : Nat, R3 0 = u32 c ∧ R3 1 = u32 b ∧ R3 2 = .int .i64 z ∧ R3 7 = .pointer (some ⟨w.heap.size, 0, none⟩) ∧ (g ≤ k3) ∧ (z.toNat = g ∧ z ≤ 9223372036854775807 ∧ -9223372036854775808 ≤ z) ∧ (stepN (q * z.toNat) c = stepN (8 * m.toNat) a) ∧ (Blk w' w.heap.size (movRow q) 49) ∧ (Ext w w')) m.toNat ?_ ?_
          · obtain rfl : q = 8 := by rw [hq, show j = 3 from by omega]
            exact ⟨a, 8, m, m.toNat, rfl, rfl, rfl, rfl, Nat.le_refl _, ⟨rfl, hm1, hm0⟩, rfl, hb, hext⟩
          · rintro k3 R3 w' ⟨c, q, z, g, hr0_, hr1_, hr2_, hr7_, hg, hz, hc, hb, hext⟩
            have hR_ : ∃ R30, R3 = (upd (upd (upd (upd R30 0 _) 1 _) 2 _) 7 _) := ⟨R3, by rw [upd_self hr0_, upd_self hr1_, upd_self hr2_, upd_self hr7_]⟩
            obtain ⟨R30, rfl⟩ := hR_
            clear hr0_ hr1_ hr2_ hr7_
            refine RW.seq ?_
            refine RW.seq ?_
            refine RW.region ?_
            refine RL.ev rfl rfl ev_move ?_
            refine RL.ev rfl rfl (ev_gtr rfl rfl) ?_
            refine RL.nil ?_
            refine thenN ?_
            refine RW.condP _ rfl (fun hpos => ?_) (fun hpos => ?_)
            · skip
              obtain ⟨y, rfl⟩ : ∃ y : Nat, z = y := ⟨z.toNat, by omega⟩
              obtain ⟨hz, hzl, _⟩ := hz
              rw [Int.toNat_natCast] at hz hc
              subst hz
              refine RW.skip ?_
              refine thenN ?_
              refine RW.seq ?_
              refine RW.block ?_
              refine RW.seq ?_
              refine RW.seq ?_
              refine RW.region ?_
              refine RL.ev rfl rfl ev_move ?_
              refine RL.ev rfl rfl (ev_arith rfl rfl rfl (and1_64 y (by omega))) ?_
              refine RL.ev rfl rfl (ev_eql rfl rfl) ?_
              refine RL.nil ?_
              refine thenN ?_
              refine RW.condP _ rfl (fun hodd => ?_) (fun hodd => ?_)
              · skip
                refine RW.region ?_
                refine RL.ev rfl rfl (ev_loadAll (cs := movRow q) Try.underlying49 rfl (by rw [movRow_length]; exact sz49) rfl hb) ?_
                refine RL.ev rfl rfl ev_move ?_
                refine RL.op rfl rfl (op_call2 Try.func31 rfl rfl rfl rfl ((of_calls q c _).mono ?_))
                rintro _ w5 ⟨rfl, he5⟩
                have hb := hb.ext he5
                have hext := hext.trans he5
                refine RL.ev rfl rfl ev_assign ?_
                refine RL.nil ?_
                refine thenN ?_
                refine RW.region ?_
                refine RL.ev rfl rfl (ev_loadAll (cs := movRow q) Try.underlying49 rfl (by rw [movRow_length]; exact sz49) rfl hb) ?_
                refine RL.op rfl rfl (op_call1 Try.func30 rfl rfl rfl ((twice_calls (q) _).mono ?_))
                rintro _ w6 ⟨rfl, he6⟩
                refine RL.op rfl rfl (op_storeAll (vs := movRow (q + q)) (by rw [movRow_length]; exact sz49) rfl rfl rfl (movRow_one _) (hb.ext he6) (by rw [movRow_length, movRow_length]) ?_)
                intro w7 hb7 hm7 hs7
                have hext7 : Ext w w7 := (hext.trans he6).then hm7 (by omega)
                refine RL.nil ?_
                refine blockN ?_
                refine thenN ?_
                refine RW.region ?_
                refine RL.ev rfl rfl ev_move ?_
                refine RL.ev rfl rfl (ev_shr rfl rfl (by decide) (shr1_64 y)) ?_
                refine RL.ev rfl rfl ev_assign ?_
                refine RL.nil ?_
                refine thenN ?_
                first
                  | exact ⟨y / 2, by omega, stepN q c, q + q, ((y / 2 : Nat) : Int), y / 2, rfl, rfl, rfl, rfl, Nat.le_refl _, ⟨by omega, by omega, by omega⟩, by rw [← hc, ← stepN_add, Int.toNat_natCast]; congr 1; exact odd_half q y (by omega), hb7, hext7⟩
                  | exact ⟨y / 2, by omega, c, q + q, ((y / 2 : Nat) : Int), y / 2, rfl, rfl, rfl, rfl, Nat.le_refl _, ⟨by omega, by omega, by omega⟩, by rw [← hc, Int.toNat_natCast]; congr 1; exact even_half q y (by omega), hb7, hext7⟩
              · skip
                refine RW.skip ?_
                refine thenN ?_
                refine RW.region ?_
                refine RL.ev rfl rfl (ev_loadAll (cs := movRow q) Try.underlying49 rfl (by rw [movRow_length]; exact sz49) rfl hb) ?_
                refine RL.op rfl rfl (op_call1 Try.func30 rfl rfl rfl ((twice_calls (q) _).mono ?_))
                rintro _ w6 ⟨rfl, he6⟩
                refine RL.op rfl rfl (op_storeAll (vs := movRow (q + q)) (by rw [movRow_length]; exact sz49) rfl rfl rfl (movRow_one _) (hb.ext he6) (by rw [movRow_length, movRow_length]) ?_)
                intro w7 hb7 hm7 hs7
                have hext7 : Ext w w7 := (hext.trans he6).then hm7 (by omega)
                refine RL.nil ?_
                refine blockN ?_
                refine thenN ?_
                refine RW.region ?_
                refine RL.ev rfl rfl ev_move ?_
                refine RL.ev rfl rfl (ev_shr rfl rfl (by decide) (shr1_64 y)) ?_
                refine RL.ev rfl rfl ev_assign ?_
                refine RL.nil ?_
                refine thenN ?_
                first
                  | exact ⟨y / 2, by omega, stepN q c, q + q, ((y / 2 : Nat) : Int), y / 2, rfl, rfl, rfl, rfl, Nat.le_refl _, ⟨by omega, by omega, by omega⟩, by rw [← hc, ← stepN_add, Int.toNat_natCast]; congr 1; exact odd_half q y (by omega), hb7, hext7⟩
                  | exact ⟨y / 2, by omega, c, q + q, ((y / 2 : Nat) : Int), y / 2, rfl, rfl, rfl, rfl, Nat.le_refl _, ⟨by omega, by omega, by omega⟩, by rw [← hc, Int.toNat_natCast]; congr 1; exact even_half q y (by omega), hb7, hext7⟩
            · skip
              refine RW.exit ?_
              refine thenX ?_
              refine thenX ?_
              refine blockHit ?_
              refine thenN ?_
              refine RW.seq ?_
              refine RW.region ?_
              refine RL.ev rfl rfl ev_move ?_
              refine RL.ev rfl rfl ev_move ?_
              refine RL.ev rfl rfl (ev_arith rfl rfl rfl (b_xor _ _)) ?_
              refine RL.ev rfl rfl ev_assign ?_
              refine RL.nil ?_
              refine thenN ?_
              refine RW.ret ?_
              refine retI (RV.tmp rfl) ?_
              refine ⟨?_, hext⟩
              rw [show z.toNat = 0 from by omega, Nat.mul_zero] at hc
              rw [join, ← hc]; rfl

set_option maxHeartbeats 4000000 in
set_option maxRecDepth 100000 in
/-- postroad/postroadref01.Step -/
theorem refStep_calls (x : BitVec 32) (w : World) : Gives Try.prog 28 #[u32 x] w fun v w' => v = u32 (Crc.step x) ∧ w = w' := by
  refine Gives.start Try.func28 rfl (Nat.le_of_ble_eq_true rfl) ?_
  rw [args1]
  refine RW.seq ?_
  refine RW.region ?_
  refine RL.ev rfl rfl ev_assign ?_
  refine RL.nil ?_
  refine thenN ?_
  refine RW.seq ?_
  refine RW.seq ?_
  refine RW.region ?_
  refine RL.ev rfl rfl ev_move ?_
  refine RL.ev rfl rfl (ev_rem rfl rfl (by decide) (b_mod2 x)) ?_
  refine RL.ev rfl rfl (ev_eql rfl rfl) ?_
  refine RL.nil ?_
  refine thenN ?_
  refine RW.condP _ rfl (fun hodd => ?_) (fun hodd => ?_)
  · skip
    refine RW.seq ?_
    refine RW.region ?_
    refine RL.ev rfl rfl ev_move ?_
    refine RL.ev rfl rfl (ev_quo rfl rfl (by decide) (b_half x)) ?_
    refine RL.ev rfl rfl (ev_arith rfl rfl rfl (b_xor _ poly)) ?_
    refine RL.ev rfl rfl ev_assign ?_
    refine RL.nil ?_
    refine thenN ?_
    refine RW.ret ?_
    refine thenR ?_
    refine retI (RV.tmp rfl) ?_
    refine ⟨?_, rfl⟩
    rw [step_eq]
    first
      | rw [if_pos ((odd_bit x).1 hodd)]; rfl
      | rw [if_neg (fun e => hodd ((odd_bit x).2 e)), BitVec.xor_zero]; rfl
  · skip
    refine RW.skip ?_
    refine thenN ?_
    refine RW.seq ?_
    refine RW.region ?_
    refine RL.ev rfl rfl ev_move ?_
    refine RL.ev rfl rfl (ev_quo rfl rfl (by decide) (b_half x)) ?_
    refine RL.ev rfl rfl ev_assign ?_
    refine RL.nil ?_
    refine thenN ?_
    refine RW.ret ?_
    refine retI (RV.tmp rfl) ?_
    refine ⟨?_, rfl⟩
    rw [step_eq]
    first
      | rw [if_pos ((odd_bit x).1 hodd)]; rfl
      | rw [if_neg (fun e => hodd ((odd_bit x).2 e)), BitVec.xor_zero]; rfl

set_option maxHeartbeats 4000000 in
set_option maxRecDepth 100000 in
/-- postroad/postroadref01.More -/
theorem refMore_calls (n : BitVec 32) (v : Value) (l : List UInt8) (w : World) (hv : Sl vb w v l) : Gives Try.prog 23 #[u32 n, v] w fun r w' => r = u32 (Crc.more n l) ∧ w = w' := by
  refine Gives.start Try.func23 rfl (Nat.le_of_ble_eq_true rfl) ?_
  rw [args2]
  have hlen := hv.len_le
  refine RW.seq ?_
  refine RW.region ?_
  refine RL.ev rfl rfl ev_assign ?_
  refine RL.nil ?_
  refine thenN ?_
  refine RW.seq ?_
  refine RW.region ?_
  refine RL.ev rfl rfl ev_move ?_
  refine RL.ev rfl rfl (ev_arith rfl rfl rfl (xnot _)) ?_
  refine RL.ev rfl rfl ev_assign ?_
  refine RL.nil ?_
  refine thenN ?_
  refine RW.seq ?_
  refine RW.seq ?_
  refine RW.region ?_
  refine RL.ev rfl rfl ev_assign ?_
  refine RL.nil ?_
  refine thenN ?_
  refine RW.block ?_
  refine RW.loop (fun k R w' => ∃ i : Nat, R 5 = .int .i64 (i : Int) ∧ R 0 = u32 (moreR (~~~n) (l.take i)) ∧ R 1 = v ∧ (i + k = l.length) ∧ (w' = w)) l.length ?_ ?_
  · exact ⟨0, rfl, rfl, rfl, by omega, rfl⟩
  · rintro k R w' ⟨i, hr5_, hr0_, hr1_, hik, hw⟩
    have hR_ : ∃ R0, R = (upd (upd (upd R0 5 _) 0 _) 1 _) := ⟨R, by rw [upd_self hr5_, upd_self hr0_, upd_self hr1_]⟩
    obtain ⟨R0, rfl⟩ := hR_
    clear hr5_ hr0_ hr1_
    subst hw
    refine RW.seq ?_
    refine RW.seq ?_
    refine RW.region ?_
    refine RL.ev rfl rfl ev_move ?_
    refine RL.ev rfl rfl ev_move ?_
    refine RL.ev rfl rfl (ev_lenS Try.underlying22 hv rfl) ?_
    refine RL.ev rfl rfl (ev_lss rfl rfl) ?_
    refine RL.nil ?_
    refine thenN ?_
    refine RW.condP _ rfl (fun hlt => ?_) (fun hlt => ?_)
    · skip
      refine RW.skip ?_
      refine thenN ?_
      refine RW.seq ?_
      refine RW.block ?_
      refine RW.seq ?_
      refine RW.region ?_
      refine RL.ev rfl rfl ev_move ?_
      refine RL.ev rfl rfl ev_move ?_
      refine RL.ev rfl rfl ev_move ?_
      refine RL.ev rfl rfl (ev_index Try.underlying22 sz5 hv rfl rfl (by omega) (by omega)) ?_
      refine RL.ev rfl rfl (ev_loadS Try.underlying5 rfl hv rfl (by omega)) ?_
      refine RL.ev rfl rfl (ev_conv Try.underlying5 Try.underlying34 rfl (wide_conv _)) ?_
      refine RL.ev rfl rfl (ev_arith rfl rfl rfl (b_xor _ _)) ?_
      refine RL.ev rfl rfl ev_assign ?_
      refine RL.nil ?_
      refine thenN ?_
      refine RW.seq ?_
      refine RW.region ?_
      refine RL.ev rfl rfl ev_assign ?_
      refine RL.nil ?_
      refine thenN ?_
      refine RW.block ?_
      refine RW.loop (fun k2 R2 w'' => ∃ j : Nat, R2 6 = .int .i64 (j : Int) ∧ R2 5 = .int .i64 (i : Int) ∧ R2 0 = u32 (stepN j (moreR (~~~n) (l.take i) ^^^ wide (l[(i : Int).toNat]'(by omega)))) ∧ R2 1 = v ∧ (j + k2 = 8) ∧ (w'' = w')) 8 ?_ ?_
      · exact ⟨0, rfl, rfl, rfl, rfl, rfl, rfl⟩
      · rintro k2 R2 w'' ⟨j, hr6_, hr5_, hr0_, hr1_, hjk, hw⟩
        have hR_ : ∃ R20, R2 = (upd (upd (upd (upd R20 6 _) 5 _) 0 _) 1 _) := ⟨R2, by rw [upd_self hr6_, upd_self hr5_, upd_self hr0_, upd_self hr1_]⟩
        obtain ⟨R20, rfl⟩ := hR_
        clear hr6_ hr5_ hr0_ hr1_
        subst hw
        refine RW.seq ?_
        refine RW.seq ?_
        refine RW.region ?_
        refine RL.ev rfl rfl ev_move ?_
        refine RL.ev rfl rfl (ev_lss rfl rfl) ?_
        refine RL.nil ?_
        refine thenN ?_
        refine RW.condP _ rfl (fun hlt2 => ?_) (fun hlt2 => ?_)
        · skip
          refine RW.skip ?_
          refine thenN ?_
          refine RW.seq ?_
          refine RW.block ?_
          refine RW.region ?_
          refine RL.ev rfl rfl ev_move ?_
          refine RL.op rfl rfl (op_call1 Try.func28 rfl rfl rfl ((refStep_calls _ _).mono ?_))
          rintro _ _ ⟨rfl, rfl⟩
          refine RL.ev rfl rfl ev_assign ?_
          refine RL.nil ?_
          refine blockN ?_
          refine thenN ?_
          refine RW.region ?_
          refine RL.ev rfl rfl ev_move ?_
          refine RL.ev rfl rfl (ev_arith rfl rfl rfl (add64 (by omega) (by omega))) ?_
          refine RL.ev rfl rfl ev_assign ?_
          refine RL.nil ?_
          refine thenN ?_
          exact ⟨k2 - 1, by omega, j + 1, rfl, rfl, by rw [stepN_succ]; rfl, rfl, by omega, rfl⟩
        · skip
          refine RW.exit ?_
          refine thenX ?_
          refine thenX ?_
          refine blockHit ?_
          refine blockN ?_
          refine thenN ?_
          refine RW.region ?_
          refine RL.ev rfl rfl ev_move ?_
          refine RL.ev rfl rfl (ev_arith rfl rfl rfl (add64 (by omega) (by omega))) ?_
          refine RL.ev rfl rfl ev_assign ?_
          refine RL.nil ?_
          refine thenN ?_
          have hj : j = 8 := by omega
          subst hj
          refine ⟨k - 1, by omega, i + 1, rfl, ?_, rfl, by omega, rfl⟩
          rw [← moreR_snoc (~~~n) l i (by omega)]; rfl
    · skip
      refine RW.exit ?_
      refine thenX ?_
      refine thenX ?_
      refine blockHit ?_
      refine thenN ?_
      refine RW.seq ?_
      refine RW.region ?_
      refine RL.ev rfl rfl ev_move ?_
      refine RL.ev rfl rfl (ev_arith rfl rfl rfl (xnot _)) ?_
      refine RL.ev rfl rfl ev_assign ?_
      refine RL.nil ?_
      refine thenN ?_
      refine RW.ret ?_
      refine retI (RV.tmp rfl) ?_
      refine ⟨?_, rfl⟩
      show u32 (~~~(moreR (~~~n) (l.take i))) = _
      rw [List.take_of_length_le (by omega)]; rfl

set_option maxHeartbeats 4000000 in
set_option maxRecDepth 100000 in
/-- postroad/postroadref01.Sum -/
theorem refSum_calls (v : Value) (l : List UInt8) (w : World) (hv : Sl vb w v l) : Gives Try.prog 21 #[v] w fun r w' => r = u32 (Crc.sum l) ∧ w = w' := by
  refine Gives.start Try.func21 rfl (Nat.le_of_ble_eq_true rfl) ?_
  rw [args1]
  refine RW.seq ?_
  refine RW.region ?_
  refine RL.ev rfl rfl ev_assign ?_
  refine RL.nil ?_
  refine thenN ?_
  refine RW.seq ?_
  refine RW.region ?_
  refine RL.ev rfl rfl ev_move ?_
  refine RL.op rfl rfl (op_call2 Try.func23 rfl rfl rfl rfl ((refMore_calls 0#32 v l _ hv).mono ?_))
  rintro _ _ ⟨rfl, rfl⟩
  refine RL.ev rfl rfl ev_assign ?_
  refine RL.nil ?_
  refine thenN ?_
  refine RW.ret ?_
  refine retI (RV.tmp rfl) ?_
  exact ⟨rfl, rfl⟩

end Go.Proofs.Ythgojfmcjbieiaa
