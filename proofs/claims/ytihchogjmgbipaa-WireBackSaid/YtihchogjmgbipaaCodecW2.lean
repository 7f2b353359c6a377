import Derived.Test.YtihchogjmgbipaaCodecW1
set_option linter.unusedVariables false
set_option linter.unusedSimpArgs false
namespace Go.Proofs.Ytihchogjmgbipaa
open Go.RowKit Go.Rl

open Go.Codec
theorem zeroRd : (Try.prog.info? 94).map (·.zero) = some (some (.agg #[.slice none 0 0, .int .i64 0])) := by kernel_rfl

set_option maxHeartbeats 4000000 in
set_option maxRecDepth 100000 in
/-- postroad/codec.New -/
theorem new_calls (v : Value) (l : List UInt8) (w : World) (hv : Sl vb w v l) (hl : l.length ≤ 140737488355328) : Gives Try.prog 32 #[v] w fun r w' => ∃ g, r = .pointer (some ⟨g, 0, none⟩) ∧ Rd 94 w' w.heap.size w'.heap.size g (l, 0) ∧ Ext w w' := by
  refine Gives.start Try.func32 rfl (Nat.le_of_ble_eq_true rfl) ?_
  rw [args1]
  refine RW.seq ?_
  refine RW.region ?_
  refine RL.ev rfl rfl ev_assign ?_
  refine RL.nil ?_
  refine thenN ?_
  refine RW.seq ?_
  refine RW.region ?_
  refine RL.ev rfl rfl ev_move ?_
  refine RL.op rfl rfl (op_append (l := []) Try.underlying23 inf5 rfl vb_one (Own.nil vb 5 w w.heap.size) rfl hv rfl (by simp; omega) (by decide) (Nat.le_refl _) ?_)
  intro v1 w1 ho1 hm1 hk1
  rw [List.nil_append] at ho1
  have he1 : Ext w w1 := hm1.mono (by intro i _ h; cases h)
  have hs1 := ho1.sl
  have hb1 := ho1.lt
  obtain ⟨A1, c1, rfl, hc1, hm1, hcell1⟩ := hs1
  refine RL.ev rfl rfl (ev_build (cs := [.slice A1 l.length c1, .int .i64 0]) Try.underlying94 zeroRd (places := #[(0, 1), (1, 1)]) (by intro w; kernel_rfl) (pl := [(0, .tmp 4)]) rfl rfl rfl) ?_
  refine RL.op rfl rfl (op_box (cs := [.slice A1 l.length c1, .int .i64 0]) rfl rfl ?_)
  intro w2 hb2 he2 hs2
  refine RL.ev rfl rfl ev_assign ?_
  refine RL.nil ?_
  refine thenN ?_
  refine RW.ret ?_
  refine retI (RV.tmp rfl) ?_
  refine ⟨w1.heap.size, rfl, ⟨he1.size, by omega, _, hb2, Sl.ext ⟨A1, c1, rfl, hc1, hm1, hcell1⟩ he2, fun k hk => ?_⟩, he1.trans he2⟩
  have := hb1 k hk
  exact ⟨this.1, by omega, by omega⟩

set_option maxHeartbeats 4000000 in
set_option maxRecDepth 100000 in
/-- (*postroad/codec.Reader).fail -/
theorem fail_calls (lo hi g : Nat) (s : St) (e : Int) (w : World) (hr : Rd 94 w lo hi g s) : Gives Try.prog 66 #[.pointer (some ⟨g, 0, none⟩), vi e] w fun r w' => Rd 94 w' lo hi g ([], e) ∧ Rl.Mod (fun k => k = g) w w' ∧ w'.heap.size = w.heap.size := by
  refine Gives.start Try.func66 rfl (Nat.le_of_ble_eq_true rfl) ?_
  rw [args2]
  obtain ⟨hlo, hhi, v, hb, hs, hv⟩ := hr
  refine RW.region ?_
  refine RL.ev rfl rfl ev_move ?_
  refine RL.ev rfl rfl ev_move ?_
  refine RL.ev rfl rfl ev_move ?_
  refine RL.ev rfl rfl (ev_nilCheck rfl) ?_
  refine RL.ev rfl rfl (ev_fieldAddr Try.underlying94 rfl sz23 (by decide) rfl) ?_
  refine RL.op rfl rfl (op_storeB (v := .slice none 0 0) sz23 rfl rfl rfl rfl hb (by simp) ?_)
  intro w1 hb1 hm1 hs1
  refine RL.ev rfl rfl (ev_nilCheck rfl) ?_
  refine RL.ev rfl rfl (ev_fieldAddr Try.underlying94 rfl sz25 (by decide) rfl) ?_
  refine RL.op rfl rfl (op_storeB (v := vi e) sz25 rfl rfl rfl rfl hb1 (by simp) ?_)
  intro w2 hb2 hm2 hs2
  refine RL.nil ?_
  refine retN (RV.zero rfl) ?_
  exact ⟨⟨hlo, hhi, _, hb2, Sl.nil _ _, fun k hk => by cases hk⟩, Mod.trans hm1 hm2 (fun _ _ => id) (fun _ _ => id), by omega⟩

set_option maxHeartbeats 4000000 in
set_option maxRecDepth 100000 in
/-- (*postroad/codec.Reader).take -/
theorem take_calls (lo hi g : Nat) (s : St) (n : Nat) (w : World) (hr : Rd 94 w lo hi g s) : Gives Try.prog 52 #[.pointer (some ⟨g, 0, none⟩), vi (n : Int)] w fun r w' => ∃ x b, r = .tuple #[x, .bool b] ∧ Sl vb w' x (takeR s n).2 ∧ (∀ k, x.ownBlock = some k → lo ≤ k ∧ k < hi ∧ k ≠ g) ∧ Rd 94 w' lo hi g (takeR s n).1 ∧ Rl.Mod (fun k => k = g) w w' ∧ w'.heap.size = w.heap.size := by
  refine Gives.start Try.func52 rfl (Nat.le_of_ble_eq_true rfl) ?_
  rw [args2]
  have hr0 := hr
  obtain ⟨hlo, hhi, v, hb, hs, hv⟩ := hr
  refine RW.seq ?_
  refine RW.region ?_
  refine RL.ev rfl rfl ev_assign ?_
  refine RL.ev rfl rfl ev_assign ?_
  refine RL.nil ?_
  refine thenN ?_
  refine RW.seq ?_
  refine RW.block ?_
  refine RW.seq ?_
  refine RW.region ?_
  refine RL.ev rfl rfl ev_move ?_
  refine RL.ev rfl rfl (ev_false (ev_isNil Try.underlying66 rfl rfl) (by simp)) ?_
  refine RL.ev rfl rfl ev_move ?_
  refine RL.onEv rfl rfl (by decide) rfl rfl ev_move ?_
  refine RL.onEv rfl rfl (by decide) rfl rfl (ev_nilCheck rfl) ?_
  refine RL.onEv rfl rfl (by decide) rfl rfl (ev_fieldAddr Try.underlying94 rfl sz25 (by decide) rfl) ?_
  refine RL.onEv rfl rfl (by decide) rfl rfl (ev_loadB Try.underlying25 rfl rfl hb rfl) ?_
  refine RL.onEv rfl rfl (by decide) rfl rfl (ev_neq rfl rfl) ?_
  refine RL.ev rfl rfl (ev_pickF rfl) ?_
  refine RL.ev rfl rfl ev_assign ?_
  refine RL.nil ?_
  refine thenN ?_
  refine RW.condP _ rfl (fun hne => ?_) (fun hne => ?_)
  · skip
    refine RW.seq ?_
    refine RW.region ?_
    refine RL.ev rfl rfl ev_assign ?_
    refine RL.ev rfl rfl ev_assign ?_
    refine RL.nil ?_
    refine thenN ?_
    refine RW.ret ?_
    refine blockR ?_
    refine thenR ?_
    refine retI (RV.tmp2 rfl) ?_
    rw [takeR_bad n hne]
    exact ⟨_, _, rfl, Sl.nil _ _, (fun k hk => by cases hk), hr0, Mod.refl _ _, rfl⟩
  · skip
    refine RW.seq ?_
    refine RW.region ?_
    have hz : s.2 = 0 := Decidable.not_not.1 hne
    have hlen := hs.len_le
    refine RL.ev rfl rfl ev_move ?_
    refine RL.ev rfl rfl ev_move ?_
    refine RL.ev rfl rfl (ev_nilCheck rfl) ?_
    refine RL.ev rfl rfl (ev_fieldAddr Try.underlying94 rfl sz23 (by decide) rfl) ?_
    refine RL.ev rfl rfl (ev_loadB Try.underlying23 rfl rfl hb rfl) ?_
    refine RL.ev rfl rfl (ev_lenS Try.underlying23 hs rfl) ?_
    refine RL.ev rfl rfl (ev_gtr rfl rfl) ?_
    refine RL.ev rfl rfl ev_assign ?_
    refine RL.nil ?_
    refine thenN ?_
    refine RW.condP _ rfl (fun hlt => ?_) (fun hlt => ?_)
    · skip
      refine RW.seq ?_
      refine RW.region ?_
      refine RL.ev rfl rfl ev_move ?_
      refine RL.op rfl rfl (op_call2 Try.func66 rfl rfl rfl rfl ((fail_calls lo hi g s 10 _ hr0).mono ?_))
      rintro _ w1 ⟨hr1, hm1, hs1⟩
      refine RL.nil ?_
      refine thenN ?_
      refine RW.seq ?_
      refine RW.region ?_
      refine RL.ev rfl rfl ev_assign ?_
      refine RL.ev rfl rfl ev_assign ?_
      refine RL.nil ?_
      refine thenN ?_
      refine RW.ret ?_
      refine blockR ?_
      refine thenR ?_
      refine retI (RV.tmp2 rfl) ?_
      rw [takeR_short hz (by omega)]
      exact ⟨_, _, rfl, Sl.nil _ _, (fun k hk => by cases hk), hr1, hm1, hs1⟩
    · skip
      refine RW.skip ?_
      refine blockN ?_
      refine thenN ?_
      refine RW.seq ?_
      refine RW.region ?_
      refine RL.ev rfl rfl ev_move ?_
      refine RL.ev rfl rfl (ev_nilCheck rfl) ?_
      refine RL.ev rfl rfl (ev_fieldAddr Try.underlying94 rfl sz23 (by decide) rfl) ?_
      refine RL.ev rfl rfl (ev_loadB Try.underlying23 rfl rfl hb rfl) ?_
      refine RL.ev rfl rfl ev_move ?_
      refine RL.ev rfl rfl ev_move ?_
      refine RL.ev rfl rfl (ev_cap Try.underlying23 sz5 hs rfl rfl rfl (by omega) (by omega)) ?_
      refine RL.ev rfl rfl ev_assign ?_
      refine RL.nil ?_
      refine thenN ?_
      refine RW.seq ?_
      refine RW.region ?_
      refine RL.ev rfl rfl ev_move ?_
      refine RL.ev rfl rfl ev_move ?_
      refine RL.ev rfl rfl (ev_nilCheck rfl) ?_
      refine RL.ev rfl rfl (ev_fieldAddr Try.underlying94 rfl sz23 (by decide) rfl) ?_
      refine RL.ev rfl rfl (ev_loadB Try.underlying23 rfl rfl hb rfl) ?_
      refine RL.ev rfl rfl ev_move ?_
      refine RL.ev rfl rfl (ev_cutFrom Try.underlying23 sz5 hs rfl rfl (by omega) (by omega)) ?_
      refine RL.ev rfl rfl (ev_nilCheck rfl) ?_
      refine RL.ev rfl rfl (ev_fieldAddr Try.underlying94 rfl sz23 (by decide) rfl) ?_
      refine RL.op rfl rfl (op_storeB (v := cutV v (n : Int).toNat s.1.length) sz23 rfl rfl (by obtain ⟨A1, c1, rfl, _⟩ := hs; rfl) (by obtain ⟨A1, c1, rfl, _⟩ := hs; rfl) hb (by simp) ?_)
      intro w1 hb1 hm1 hs1
      refine RL.nil ?_
      refine thenN ?_
      refine RW.seq ?_
      refine RW.region ?_
      refine RL.ev rfl rfl ev_move ?_
      refine RL.ev rfl rfl ev_assign ?_
      refine RL.ev rfl rfl ev_assign ?_
      refine RL.nil ?_
      refine thenN ?_
      refine RW.ret ?_
      refine retI (RV.tmp2 rfl) ?_
      rw [takeR_ok hz (by omega)]
      simp only [Int.toNat_natCast] at hb1 ⊢
      have hs1 := hs.mod hm1 (fun k hk e => (hv k hk).2.2 e)
      refine ⟨capV v n, true, rfl, hs1.capV (by omega), fun k hk => hv k (by rw [capV_block hs1] at hk; exact hk), ⟨hlo, hhi, _, by rw [hz] at hb1; exact hb1, hs1.cutFrom (by omega), fun k hk => hv k (by rw [cutV_block hs1] at hk; exact hk)⟩, hm1, by omega⟩

set_option maxHeartbeats 4000000 in
set_option maxRecDepth 100000 in
/-- (*postroad/codec.Reader).Num -/
theorem num_calls (lo hi g : Nat) (s : St) (wide : Int) (w : World) (hr : Rd 94 w lo hi g s) : Gives Try.prog 33 #[.pointer (some ⟨g, 0, none⟩), vi wide] w fun r w' => r = .int .u64 ((numR s (clip wide)).2 : Int) ∧ Rd 94 w' lo hi g (numR s (clip wide)).1 ∧ Rl.Mod (fun k => k = g) w w' ∧ w'.heap.size = w.heap.size := by
  refine Gives.start Try.func33 rfl (Nat.le_of_ble_eq_true rfl) ?_
  rw [args2]
  refine RW.seq ?_
  refine RW.region ?_
  refine RL.ev rfl rfl ev_assign ?_
  refine RL.nil ?_
  refine thenN ?_
  refine RW.seq ?_
  refine RW.region ?_
  refine RL.ev rfl rfl ev_move ?_
  refine RL.ev rfl rfl ev_move ?_
  refine RL.op rfl rfl (op_call1 Try.func53 rfl rfl rfl ((clip_calls wide _).mono ?_))
  rintro _ _ ⟨rfl, rfl⟩
  refine RL.op rfl rfl (op_call2 Try.func52 rfl rfl rfl rfl ((take_calls lo hi g s (clip wide) _ hr).mono ?_))
  rintro _ w1 ⟨x, b, rfl, hx, hxb, hr1, hm1, hs1⟩
  have hlen := takeR_len s (clip wide)
  have hc8 := clip_le wide
  have hle : ∀ i, le ((takeR s (clip wide)).2.take i) < 256 ^ ((takeR s (clip wide)).2.take i).length := fun i => le_lt _
  unfold numR
  generalize hl : (takeR s (clip wide)).2 = l at hx hlen hle
  refine RL.ev rfl rfl ev_move ?_
  refine RL.ev rfl rfl (ev_extract rfl rfl) ?_
  refine RL.ev rfl rfl (ev_extract rfl rfl) ?_
  refine RL.ev rfl rfl ev_assign ?_
  refine RL.ev rfl rfl ev_assign ?_
  refine RL.nil ?_
  refine thenN ?_
  refine RW.seq ?_
  refine RW.region ?_
  refine RL.ev rfl rfl ev_assign ?_
  refine RL.nil ?_
  refine thenN ?_
  refine RW.seq ?_
  refine RW.seq ?_
  refine RW.region ?_
  refine RL.ev rfl rfl ev_move ?_
  refine RL.ev rfl rfl (ev_lenS Try.underlying23 hx rfl) ?_
  refine RL.ev rfl rfl ev_move ?_
  refine RL.nil ?_
  refine thenN ?_
  refine RW.block ?_
  refine RW.loop (fun k R w' => ∃ i : Nat, R 19 = .int .i64 (i : Int) ∧ R 18 = .int .i64 (l.length : Int) ∧ R 17 = x ∧ R 7 = .int .u64 (le (l.take i) : Int) ∧ (i + k = l.length) ∧ (w1 = w')) l.length ?_ ?_
  · exact ⟨0, rfl, rfl, rfl, rfl, by omega, rfl⟩
  · rintro k R w' ⟨i, hr19_, hr18_, hr17_, hr7_, hik, hw⟩
    have hR_ : ∃ R0, R = (upd (upd (upd (upd R0 19 _) 18 _) 17 _) 7 _) := ⟨R, by rw [upd_self hr19_, upd_self hr18_, upd_self hr17_, upd_self hr7_]⟩
    obtain ⟨R0, rfl⟩ := hR_
    clear hr19_ hr18_ hr17_ hr7_
    subst hw
    refine RW.seq ?_
    refine RW.region ?_
    refine RL.ev rfl rfl (ev_lss rfl rfl) ?_
    refine RL.nil ?_
    refine thenN ?_
    refine RW.seq ?_
    refine RW.condP _ rfl (fun hlt => ?_) (fun hlt => ?_)
    · skip
      refine RW.skip ?_
      refine thenN ?_
      refine RW.seq ?_
      refine RW.block ?_
      refine RW.seq ?_
      refine RW.region ?_
      refine RL.ev rfl rfl ev_move ?_
      refine RL.ev rfl rfl (ev_index Try.underlying23 sz5 hx rfl rfl (by omega) (by omega)) ?_
      refine RL.ev rfl rfl (ev_loadS Try.underlying5 rfl hx rfl (by omega)) ?_
      refine RL.ev rfl rfl ev_assign ?_
      refine RL.ev rfl rfl ev_assign ?_
      refine RL.nil ?_
      refine thenN ?_
      refine RW.region ?_
      refine RL.ev rfl rfl ev_move ?_
      refine RL.ev rfl rfl ev_move ?_
      refine RL.ev rfl rfl (ev_conv Try.underlying5 Try.underlying39 rfl (wrap_u64n _ (by have := (l[(i : Int).toNat]'(by omega)).toNat_lt; omega))) ?_
      refine RL.ev rfl rfl ev_move ?_
      refine RL.ev rfl rfl (ev_arith rfl rfl rfl (mul64 (by omega) (by omega))) ?_
      refine RL.ev rfl rfl (ev_shl rfl rfl (by omega) (shl_byte _ i (by omega))) ?_
      refine RL.ev rfl rfl (ev_arith rfl rfl rfl (or_byte _ _ i (by have := hle i; rwa [List.length_take, Nat.min_eq_left (by omega)] at this) (l[(i : Int).toNat]'(by omega)).toNat_lt (by omega))) ?_
      refine RL.ev rfl rfl ev_assign ?_
      refine RL.nil ?_
      refine blockN ?_
      refine thenN ?_
      refine RW.region ?_
      refine RL.ev rfl rfl (ev_arith rfl rfl rfl (add64 (by omega) (by omega))) ?_
      refine RL.ev rfl rfl ev_move ?_
      refine RL.nil ?_
      refine thenN ?_
      refine ⟨k - 1, by omega, i + 1, rfl, rfl, rfl, ?_, by omega, rfl⟩
      rw [le_snoc l i (by omega)]; rfl
    · skip
      refine RW.exit ?_
      refine thenX ?_
      refine thenX ?_
      refine blockHit ?_
      refine thenN ?_
      refine RW.seq ?_
      refine RW.region ?_
      refine RL.ev rfl rfl ev_move ?_
      refine RL.ev rfl rfl ev_assign ?_
      refine RL.nil ?_
      refine thenN ?_
      refine RW.ret ?_
      refine retI (RV.tmp rfl) ?_
      refine ⟨?_, hr1, hm1, hs1⟩
      exact congrArg (fun l => Value.int .u64 ((le l : Nat) : Int)) (List.take_of_length_le (by omega))

set_option maxHeartbeats 4000000 in
set_option maxRecDepth 100000 in
/-- (*postroad/codec.Reader).Left -/
theorem left_calls (lo hi g : Nat) (s : St) (w : World) (hr : Rd 94 w lo hi g s) : Gives Try.prog 56 #[.pointer (some ⟨g, 0, none⟩)] w fun r w' => r = vi (s.1.length : Int) ∧ w = w' := by
  refine Gives.start Try.func56 rfl (Nat.le_of_ble_eq_true rfl) ?_
  rw [args1]
  obtain ⟨hlo, hhi, v, hb, hs, hv⟩ := hr
  refine RW.seq ?_
  refine RW.region ?_
  refine RL.ev rfl rfl ev_assign ?_
  refine RL.nil ?_
  refine thenN ?_
  refine RW.seq ?_
  refine RW.seq ?_
  refine RW.region ?_
  refine RL.ev rfl rfl ev_move ?_
  refine RL.ev rfl rfl (ev_false (ev_isNil Try.underlying66 rfl rfl) (by simp)) ?_
  refine RL.nil ?_
  refine thenN ?_
  refine RW.condF rfl ?_
  refine RW.skip ?_
  refine thenN ?_
  refine RW.seq ?_
  refine RW.region ?_
  refine RL.ev rfl rfl ev_move ?_
  refine RL.ev rfl rfl (ev_nilCheck rfl) ?_
  refine RL.ev rfl rfl (ev_fieldAddr Try.underlying94 rfl sz23 (by decide) rfl) ?_
  refine RL.ev rfl rfl (ev_loadB Try.underlying23 rfl rfl hb rfl) ?_
  refine RL.ev rfl rfl (ev_lenS Try.underlying23 hs rfl) ?_
  refine RL.ev rfl rfl ev_assign ?_
  refine RL.nil ?_
  refine thenN ?_
  refine RW.ret ?_
  refine retI (RV.tmp rfl) ?_
  exact ⟨rfl, rfl⟩

set_option maxHeartbeats 4000000 in
set_option maxRecDepth 100000 in
/-- (*postroad/codec.Reader).Failed -/
theorem failed_calls (lo hi g : Nat) (s : St) (w : World) (hr : Rd 94 w lo hi g s) : Gives Try.prog 46 #[.pointer (some ⟨g, 0, none⟩)] w fun r w' => r = vi s.2 ∧ w = w' := by
  refine Gives.start Try.func46 rfl (Nat.le_of_ble_eq_true rfl) ?_
  rw [args1]
  obtain ⟨hlo, hhi, v, hb, hs, hv⟩ := hr
  refine RW.seq ?_
  refine RW.region ?_
  refine RL.ev rfl rfl ev_assign ?_
  refine RL.nil ?_
  refine thenN ?_
  refine RW.seq ?_
  refine RW.seq ?_
  refine RW.region ?_
  refine RL.ev rfl rfl ev_move ?_
  refine RL.ev rfl rfl (ev_false (ev_isNil Try.underlying66 rfl rfl) (by simp)) ?_
  refine RL.nil ?_
  refine thenN ?_
  refine RW.condF rfl ?_
  refine RW.skip ?_
  refine thenN ?_
  refine RW.seq ?_
  refine RW.region ?_
  refine RL.ev rfl rfl ev_move ?_
  refine RL.ev rfl rfl (ev_nilCheck rfl) ?_
  refine RL.ev rfl rfl (ev_fieldAddr Try.underlying94 rfl sz25 (by decide) rfl) ?_
  refine RL.ev rfl rfl (ev_loadB Try.underlying25 rfl rfl hb rfl) ?_
  refine RL.ev rfl rfl ev_assign ?_
  refine RL.nil ?_
  refine thenN ?_
  refine RW.ret ?_
  refine retI (RV.tmp rfl) ?_
  exact ⟨rfl, rfl⟩

set_option maxHeartbeats 4000000 in
set_option maxRecDepth 100000 in
/-- (*postroad/codec.Reader).Failed -/
theorem failedNil_calls (w : World) : Gives Try.prog 46 #[.pointer none] w fun r w' => r = vi 1 ∧ w = w' := by
  refine Gives.start Try.func46 rfl (Nat.le_of_ble_eq_true rfl) ?_
  rw [args1]
  refine RW.seq ?_
  refine RW.region ?_
  refine RL.ev rfl rfl ev_assign ?_
  refine RL.nil ?_
  refine thenN ?_
  refine RW.seq ?_
  refine RW.seq ?_
  refine RW.region ?_
  refine RL.ev rfl rfl ev_move ?_
  refine RL.ev rfl rfl (ev_true (ev_isNil Try.underlying66 rfl rfl) rfl) ?_
  refine RL.nil ?_
  refine thenN ?_
  refine RW.condT rfl ?_
  refine RW.seq ?_
  refine RW.region ?_
  refine RL.ev rfl rfl ev_assign ?_
  refine RL.nil ?_
  refine thenN ?_
  refine RW.ret ?_
  refine thenR ?_
  refine retI (RV.tmp rfl) ?_
  exact ⟨rfl, rfl⟩

set_option maxHeartbeats 4000000 in
set_option maxRecDepth 100000 in
/-- (*postroad/codec.Reader).End -/
theorem end_calls (lo hi g : Nat) (s : St) (w : World) (hr : Rd 94 w lo hi g s) : Gives Try.prog 36 #[.pointer (some ⟨g, 0, none⟩)] w fun r w' => r = vi (endR s) ∧ w = w' := by
  refine Gives.start Try.func36 rfl (Nat.le_of_ble_eq_true rfl) ?_
  rw [args1]
  refine RW.seq ?_
  refine RW.region ?_
  refine RL.ev rfl rfl ev_assign ?_
  refine RL.nil ?_
  refine thenN ?_
  refine RW.seq ?_
  refine RW.seq ?_
  refine RW.region ?_
  refine RL.ev rfl rfl ev_move ?_
  refine RL.op rfl rfl (op_call1 Try.func46 rfl rfl rfl ((failed_calls lo hi g s _ hr).mono ?_))
  rintro _ _ ⟨rfl, rfl⟩
  refine RL.ev rfl rfl ev_assign ?_
  refine RL.nil ?_
  refine thenN ?_
  refine RW.seq ?_
  refine RW.region ?_
  refine RL.ev rfl rfl ev_move ?_
  refine RL.ev rfl rfl (ev_neq rfl rfl) ?_
  refine RL.nil ?_
  refine thenN ?_
  refine RW.condP _ rfl (fun hne => ?_) (fun hne => ?_)
  · skip
    refine RW.seq ?_
    refine RW.region ?_
    refine RL.ev rfl rfl ev_move ?_
    refine RL.ev rfl rfl ev_assign ?_
    refine RL.nil ?_
    refine thenN ?_
    refine RW.ret ?_
    refine thenR ?_
    refine retI (RV.tmp rfl) ?_
    refine ⟨?_, rfl⟩
    unfold endR; rw [if_pos hne]; rfl
  · skip
    refine RW.skip ?_
    refine thenN ?_
    refine RW.seq ?_
    refine RW.seq ?_
    refine RW.region ?_
    refine RL.ev rfl rfl ev_move ?_
    refine RL.op rfl rfl (op_call1 Try.func56 rfl rfl rfl ((left_calls lo hi g s _ hr).mono ?_))
    rintro _ _ ⟨rfl, rfl⟩
    refine RL.ev rfl rfl (ev_gtr rfl rfl) ?_
    refine RL.nil ?_
    refine thenN ?_
    refine RW.condP _ rfl (fun hlt => ?_) (fun hlt => ?_)
    · skip
      refine RW.seq ?_
      refine RW.region ?_
      refine RL.ev rfl rfl ev_assign ?_
      refine RL.nil ?_
      refine thenN ?_
      refine RW.ret ?_
      refine thenR ?_
      refine retI (RV.tmp rfl) ?_
      refine ⟨?_, rfl⟩
      unfold endR; rw [if_neg hne, if_pos (by omega)]; rfl
    · skip
      refine RW.skip ?_
      refine thenN ?_
      refine RW.seq ?_
      refine RW.region ?_
      refine RL.ev rfl rfl ev_assign ?_
      refine RL.nil ?_
      refine thenN ?_
      refine RW.ret ?_
      refine retI (RV.tmp rfl) ?_
      refine ⟨?_, rfl⟩
      unfold endR; rw [if_neg hne, if_neg (by omega)]; rfl

set_option maxHeartbeats 4000000 in
set_option maxRecDepth 100000 in
/-- (*postroad/codec.Reader).End -/
theorem endNil_calls (w : World) : Gives Try.prog 36 #[.pointer none] w fun r w' => r = vi 1 ∧ w = w' := by
  refine Gives.start Try.func36 rfl (Nat.le_of_ble_eq_true rfl) ?_
  rw [args1]
  refine RW.seq ?_
  refine RW.region ?_
  refine RL.ev rfl rfl ev_assign ?_
  refine RL.nil ?_
  refine thenN ?_
  refine RW.seq ?_
  refine RW.seq ?_
  refine RW.region ?_
  refine RL.ev rfl rfl ev_move ?_
  refine RL.op rfl rfl (op_call1 Try.func46 rfl rfl rfl ((failedNil_calls _).mono ?_))
  rintro _ _ ⟨rfl, rfl⟩
  refine RL.ev rfl rfl ev_assign ?_
  refine RL.nil ?_
  refine thenN ?_
  refine RW.seq ?_
  refine RW.region ?_
  refine RL.ev rfl rfl ev_move ?_
  refine RL.ev rfl rfl (ev_neq rfl rfl) ?_
  refine RL.nil ?_
  refine thenN ?_
  refine RW.condPT _ rfl (by decide) ?_
  refine RW.seq ?_
  refine RW.region ?_
  refine RL.ev rfl rfl ev_move ?_
  refine RL.ev rfl rfl ev_assign ?_
  refine RL.nil ?_
  refine thenN ?_
  refine RW.ret ?_
  refine thenR ?_
  refine retI (RV.tmp rfl) ?_
  exact ⟨rfl, rfl⟩

set_option maxHeartbeats 4000000 in
set_option maxRecDepth 100000 in
/-- (*postroad/codec.Reader).Ints$1 -/
theorem intOne_calls (v : Value) (l : List UInt8) (w : World) (hv : Sl vb w v l) (hl : l.length = 8) : Gives Try.prog 55 #[v] w fun r w' => r = vi (toI (le l)) ∧ Ext w w' := by
  refine Gives.start Try.func55 rfl (Nat.le_of_ble_eq_true rfl) ?_
  rw [args1]
  refine RW.seq ?_
  refine RW.region ?_
  refine RL.ev rfl rfl ev_assign ?_
  refine RL.nil ?_
  refine thenN ?_
  refine RW.seq ?_
  refine RW.region ?_
  refine RL.ev rfl rfl ev_move ?_
  refine RL.op rfl rfl (op_call1 Try.func32 rfl rfl rfl ((new_calls v l _ hv (by omega)).mono ?_))
  rintro _ w1 ⟨g, rfl, hr1, he1⟩
  refine RL.op rfl rfl (op_call2 Try.func33 rfl rfl rfl rfl ((num_calls _ _ g _ 8 _ hr1).mono ?_))
  rintro _ w2 ⟨rfl, hr2, hm2, hs2⟩
  have hnum : (numR (l, 0) (clip 8)).2 = le l := by
    unfold numR; rw [clip_8, takeR_ok rfl (show 8 ≤ l.length by omega)]
    exact congrArg le (List.take_of_length_le (show l.length ≤ 8 by omega))
  rw [hnum]
  have hg := hr1.lt
  refine RL.ev rfl rfl (ev_conv Try.underlying39 Try.underlying3 rfl (wrap_i64n _ (le_lt64 l (by omega)))) ?_
  refine RL.ev rfl rfl ev_assign ?_
  refine RL.nil ?_
  refine thenN ?_
  refine RW.ret ?_
  refine retI (RV.tmp rfl) ?_
  exact ⟨rfl, he1.then hm2 (fun i hi e => by omega)⟩

set_option maxHeartbeats 4000000 in
set_option maxRecDepth 100000 in
/-- (*postroad/codec.Reader).Text$1 -/
theorem byteOne_calls (v : Value) (b : UInt8) (w : World) (hv : Sl vb w v [b]) : Gives Try.prog 68 #[v] w fun r w' => r = vb b ∧ w = w' := by
  refine Gives.start Try.func68 rfl (Nat.le_of_ble_eq_true rfl) ?_
  rw [args1]
  refine RW.seq ?_
  refine RW.region ?_
  refine RL.ev rfl rfl ev_assign ?_
  refine RL.nil ?_
  refine thenN ?_
  refine RW.seq ?_
  refine RW.region ?_
  refine RL.ev rfl rfl ev_move ?_
  refine RL.ev rfl rfl (ev_index Try.underlying23 sz5 hv rfl rfl (by decide) (by simp)) ?_
  refine RL.ev rfl rfl (ev_loadG Try.underlying5 rfl hv rfl (m := 0) rfl) ?_
  refine RL.ev rfl rfl ev_assign ?_
  refine RL.nil ?_
  refine thenN ?_
  refine RW.ret ?_
  refine retI (RV.tmp rfl) ?_
  exact ⟨rfl, rfl⟩

set_option maxHeartbeats 4000000 in
set_option maxRecDepth 100000 in
/-- postroad/codec.row[int] -/
theorem rowInt_calls (lo hi g : Nat) (s : St) (most : Int) (w : World) (hr : Rd 94 w lo hi g s) (hhi : hi ≤ w.heap.size) (hm0 : -9223372036854775808 ≤ most) (hm1 : most ≤ 9223372036854775807) (hsl : s.1.length ≤ 140737488351232) : Gives Try.prog 54 #[.pointer (some ⟨g, 0, none⟩), vi most, vi 8, .func (.func 55) #[] #[]] w fun r w' => Own vi 3 w' w.heap.size r (ints8 ((rowR s most 8).2.length / 8) (rowR s most 8).2) ∧ Rd 94 w' lo hi g (rowR s most 8).1 ∧ Rl.Mod (fun k => k = g) w w' := by
  refine Gives.start Try.func54 rfl (Nat.le_of_ble_eq_true rfl) ?_
  rw [args4]
  refine RW.seq ?_
  refine RW.region ?_
  refine RL.ev rfl rfl ev_assign ?_
  refine RL.nil ?_
  refine thenN ?_
  refine RW.seq ?_
  refine RW.region ?_
  refine RL.ev rfl rfl ev_move ?_
  refine RL.op rfl rfl (op_call2 Try.func33 rfl rfl rfl rfl ((num_calls lo hi g s 4 _ hr).mono ?_))
  rintro _ w1 ⟨rfl, hr1, hmm1, hs1⟩
  rw [clip_4] at hr1 ⊢
  have hn32 := numR_lt32 s
  have hsl1 : (numR s 4).1.1.length ≤ s.1.length := (takeR_sub s 4).1
  unfold rowR
  generalize (numR s 4).1 = s1 at hr1 hsl1 ⊢
  generalize (numR s 4).2 = m at hn32 ⊢
  have hr1c := hr1
  obtain ⟨hlo, hhg, v1, hb1, hsv1, hv1⟩ := hr1c
  refine RL.ev rfl rfl ev_assign ?_
  refine RL.nil ?_
  refine thenN ?_
  refine RW.seq ?_
  refine RW.seq ?_
  refine RW.region ?_
  refine RL.ev rfl rfl ev_move ?_
  refine RL.ev rfl rfl (ev_false (ev_isNil Try.underlying66 rfl rfl) (by simp)) ?_
  refine RL.ev rfl rfl ev_move ?_
  refine RL.onEv rfl rfl (by decide) rfl rfl ev_move ?_
  refine RL.onEv rfl rfl (by decide) rfl rfl (ev_nilCheck rfl) ?_
  refine RL.onEv rfl rfl (by decide) rfl rfl (ev_fieldAddr Try.underlying94 rfl sz25 (by decide) rfl) ?_
  refine RL.onEv rfl rfl (by decide) rfl rfl (ev_loadB Try.underlying25 rfl rfl hb1 rfl) ?_
  refine RL.onEv rfl rfl (by decide) rfl rfl (ev_neq rfl rfl) ?_
  refine RL.ev rfl rfl (ev_pickF rfl) ?_
  refine RL.nil ?_
  refine thenN ?_
  refine RW.condP _ rfl (fun hne => ?_) (fun hne => ?_)
  · skip
    refine RW.seq ?_
    refine RW.region ?_
    refine RL.ev rfl rfl ev_assign ?_
    refine RL.nil ?_
    refine thenN ?_
    refine RW.ret ?_
    refine thenR ?_
    refine retI (RV.tmp rfl) ?_
    rw [if_pos hne]
    exact ⟨ownNil8 _ _ _, hr1, hmm1⟩
  · skip
    refine RW.skip ?_
    refine thenN ?_
    refine RW.seq ?_
    refine RW.seq ?_
    rcases (show most < 0 ∨ (¬ most < 0 ∧ most < (m : Int)) ∨ (¬ most < 0 ∧ ¬ most < (m : Int)) by omega) with hc | hc | hc
    · skip
      refine RW.region ?_
      have hz : s1.2 = 0 := Decidable.not_not.1 hne
      rw [if_neg hne]
      refine RL.ev rfl rfl ev_move ?_
      refine RL.ev rfl rfl (ev_true (ev_lss rfl rfl) hc) ?_
      refine RL.ev rfl rfl ev_move ?_
      refine RL.off rfl rfl (by decide) rfl rfl ?_
      refine RL.off rfl rfl (by decide) rfl rfl ?_
      refine RL.off rfl rfl (by decide) rfl rfl ?_
      refine RL.off rfl rfl (by decide) rfl rfl ?_
      refine RL.ev rfl rfl (ev_pickT rfl) ?_
      refine RL.nil ?_
      refine thenN ?_
      refine RW.condT rfl ?_
      refine RW.seq ?_
      refine RW.region ?_
      refine RL.ev rfl rfl ev_move ?_
      refine RL.op rfl rfl (op_call2 Try.func66 rfl rfl rfl rfl ((fail_calls lo hi g s1 3 _ hr1).mono ?_))
      rintro _ w2 ⟨hr2, hmm2, hs2⟩
      refine RL.nil ?_
      refine thenN ?_
      refine RW.seq ?_
      refine RW.region ?_
      refine RL.ev rfl rfl ev_assign ?_
      refine RL.nil ?_
      refine thenN ?_
      refine RW.ret ?_
      refine thenR ?_
      refine retI (RV.tmp rfl) ?_
      rw [if_pos (show most < 0 ∨ most < (m : Int) by omega)]
      exact ⟨ownNil8 _ _ _, hr2, Mod.trans hmm1 hmm2 (fun _ _ => id) (fun _ _ => id)⟩
    · skip
      refine RW.region ?_
      have hz : s1.2 = 0 := Decidable.not_not.1 hne
      rw [if_neg hne]
      refine RL.ev rfl rfl ev_move ?_
      refine RL.ev rfl rfl (ev_false (ev_lss rfl rfl) hc.1) ?_
      refine RL.ev rfl rfl ev_move ?_
      refine RL.onEv rfl rfl (by decide) rfl rfl ev_move ?_
      refine RL.onEv rfl rfl (by decide) rfl rfl ev_move ?_
      refine RL.onEv rfl rfl (by decide) rfl rfl (ev_conv Try.underlying3 Try.underlying39 rfl ((wrap_u64 most).trans (show (toU most : Int) = most by unfold toU; omega))) ?_
      refine RL.onEv rfl rfl (by decide) rfl rfl (ev_true (ev_gtr rfl rfl) hc.2) ?_
      refine RL.ev rfl rfl (ev_pickF rfl) ?_
      refine RL.nil ?_
      refine thenN ?_
      refine RW.condT rfl ?_
      refine RW.seq ?_
      refine RW.region ?_
      refine RL.ev rfl rfl ev_move ?_
      refine RL.op rfl rfl (op_call2 Try.func66 rfl rfl rfl rfl ((fail_calls lo hi g s1 3 _ hr1).mono ?_))
      rintro _ w2 ⟨hr2, hmm2, hs2⟩
      refine RL.nil ?_
      refine thenN ?_
      refine RW.seq ?_
      refine RW.region ?_
      refine RL.ev rfl rfl ev_assign ?_
      refine RL.nil ?_
      refine thenN ?_
      refine RW.ret ?_
      refine thenR ?_
      refine retI (RV.tmp rfl) ?_
      rw [if_pos (show most < 0 ∨ most < (m : Int) by omega)]
      exact ⟨ownNil8 _ _ _, hr2, Mod.trans hmm1 hmm2 (fun _ _ => id) (fun _ _ => id)⟩
    · skip
      refine RW.region ?_
      have hz : s1.2 = 0 := Decidable.not_not.1 hne
      rw [if_neg hne]
      refine RL.ev rfl rfl ev_move ?_
      refine RL.ev rfl rfl (ev_false (ev_lss rfl rfl) hc.1) ?_
      refine RL.ev rfl rfl ev_move ?_
      refine RL.onEv rfl rfl (by decide) rfl rfl ev_move ?_
      refine RL.onEv rfl rfl (by decide) rfl rfl ev_move ?_
      refine RL.onEv rfl rfl (by decide) rfl rfl (ev_conv Try.underlying3 Try.underlying39 rfl ((wrap_u64 most).trans (show (toU most : Int) = most by unfold toU; omega))) ?_
      refine RL.onEv rfl rfl (by decide) rfl rfl (ev_false (ev_gtr rfl rfl) hc.2) ?_
      refine RL.ev rfl rfl (ev_pickF rfl) ?_
      refine RL.nil ?_
      refine thenN ?_
      refine RW.condF rfl ?_
      refine RW.skip ?_
      refine thenN ?_
      refine RW.seq ?_
      refine RW.region ?_
      refine RL.ev rfl rfl ev_move ?_
      refine RL.ev rfl rfl ev_move ?_
      refine RL.ev rfl rfl (ev_conv Try.underlying39 Try.underlying3 rfl (wrap_i64 (by omega) (by omega))) ?_
      refine RL.ev rfl rfl ev_move ?_
      refine RL.ev rfl rfl (ev_arith rfl rfl rfl ((mul64 (by omega) (by omega)).trans (show (m : Int) * 8 = ((m * 8 : Nat) : Int) by norm_cast))) ?_
      refine RL.op rfl rfl (op_call2 Try.func52 rfl rfl rfl rfl ((take_calls lo hi g s1 (m * 8) _ hr1).mono ?_))
      rintro _ w2 ⟨x, b, rfl, hx, hxb, hr2, hmm2, hs2⟩
      have hM2 : Rl.Mod (fun k => k = g) w w2 := Mod.trans hmm1 hmm2 (fun _ _ => id) (fun _ _ => id)
      rw [if_neg (show ¬ (most < 0 ∨ most < (m : Int)) by omega)]
      have hdvd := takeR_dvd s1 m 8
      have hlt2 := (takeR_sub s1 (m * 8)).2
      have hxlen := hx.len_le
      generalize (takeR s1 (m * 8)).1 = s2 at hr2 ⊢
      generalize (takeR s1 (m * 8)).2 = l at hx hdvd hlt2 hxlen ⊢
      refine RL.ev rfl rfl ev_move ?_
      refine RL.ev rfl rfl (ev_extract rfl rfl) ?_
      refine RL.ev rfl rfl (ev_extract rfl rfl) ?_
      refine RL.ev rfl rfl ev_assign ?_
      refine RL.ev rfl rfl ev_assign ?_
      refine RL.nil ?_
      refine thenN ?_
      refine RW.seq ?_
      refine RW.region ?_
      refine RL.ev rfl rfl ev_assign ?_
      refine RL.nil ?_
      refine thenN ?_
      refine RW.seq ?_
      refine RW.block ?_
      refine RW.loop (fun k R w' => ∃ i : Nat, ∃ vo : Value, ∃ xr : Value, R 12 = vo ∧ R 10 = xr ∧ R 2 = vi 8 ∧ R 3 = .func (.func 55) #[] #[] ∧ (i * 8 + k = l.length) ∧ (Sl vb w' xr (l.drop (i * 8))) ∧ (xr.ownBlock = x.ownBlock) ∧ (Own vi 3 w' w.heap.size vo (ints8 i l)) ∧ (Ext w2 w')) l.length ?_ ?_
      · exact ⟨0, .slice none 0 0, x, rfl, rfl, rfl, rfl, by simp, by simpa using hx, rfl, Own.nil _ _ _ _, Mod.refl _ _⟩
      · rintro k R w' ⟨i, vo, xr, hr12_, hr10_, hr2_, hr3_, hik, hxr, hxk, ho, hext⟩
        have hR_ : ∃ R0, R = (upd (upd (upd (upd R0 12 _) 10 _) 2 _) 3 _) := ⟨R, by rw [upd_self hr12_, upd_self hr10_, upd_self hr2_, upd_self hr3_]⟩
        obtain ⟨R0, rfl⟩ := hR_
        clear hr12_ hr10_ hr2_ hr3_
        refine RW.seq ?_
        refine RW.seq ?_
        refine RW.region ?_
        refine RL.ev rfl rfl ev_move ?_
        refine RL.ev rfl rfl (ev_lenS Try.underlying23 hxr rfl) ?_
        refine RL.ev rfl rfl (ev_gtr rfl rfl) ?_
        refine RL.nil ?_
        refine thenN ?_
        refine RW.condP _ rfl (fun hpos => ?_) (fun hpos => ?_)
        · skip
          refine RW.skip ?_
          refine thenN ?_
          refine RW.seq ?_
          refine RW.block ?_
          refine RW.region ?_
          have hdl : (l.drop (i * 8)).length = l.length - i * 8 := by simp
          rw [hdl] at hpos
          have h8 : 8 ≤ l.length - i * 8 := by obtain ⟨c, hc⟩ := hdvd; omega
          have hi8 : i < l.length := by omega
          have hsz1 := hM2.size
          have hsz2 := hext.size
          refine RL.ev rfl rfl ev_move ?_
          refine RL.ev rfl rfl ev_move ?_
          refine RL.ev rfl rfl ev_move ?_
          refine RL.ev rfl rfl ev_move ?_
          refine RL.ev rfl rfl (ev_cutTo Try.underlying23 sz5 hxr rfl rfl (by decide) (by rw [hdl]; omega)) ?_
          refine RL.op rfl rfl (op_callf1 Try.func55 rfl rfl rfl rfl ((intOne_calls _ _ _ (hxr.cutTo (hi := 8) (by rw [hdl]; omega)) (by rw [List.length_take, hdl]; omega)).mono ?_))
          rintro _ w3 ⟨rfl, he3⟩
          refine RL.op rfl rfl (op_lit (enc := vi) (l := [toI (le ((l.drop (i * 8)).take 8))]) (xs := [.tmp 54]) Try.underlying36 sz3 zr3 rfl rfl (fun _ => rfl) rfl (by decide) (by decide) ?_)
          intro w4 ho4 hb4 he4 hs4
          have hsz3 := he3.size
          have hsz4 := he4.size
          refine RL.op rfl rfl (op_append Try.underlying36 inf3 rfl (fun _ => rfl) (ho.ext (he3.trans he4)) rfl ho4.sl rfl (by simp only [List.length_append, List.length_cons, List.length_nil, ints8_length]; omega) (by decide) (by omega) ?_)
          intro v5 w5 ho5 hm5 hk5
          have hxr5 := (hxr.ext (he3.trans he4)).mod hm5 (fun k hk e => by have h1 := (ho.lt _ e).1; rw [hxk] at hk; have h2 := (hxb _ hk).2.1; omega)
          have hob := ho.lt
          refine RL.ev rfl rfl ev_assign ?_
          refine RL.nil ?_
          refine blockN ?_
          refine thenN ?_
          refine RW.region ?_
          refine RL.ev rfl rfl ev_move ?_
          refine RL.ev rfl rfl ev_move ?_
          refine RL.ev rfl rfl (ev_cutFrom Try.underlying23 sz5 hxr5 rfl rfl (by decide) (by rw [hdl]; omega)) ?_
          refine RL.ev rfl rfl ev_assign ?_
          refine RL.nil ?_
          refine thenN ?_
          have hcf := hxr5.cutFrom (lo := 8) (by rw [hdl]; omega)
          rw [List.drop_drop, show i * 8 + 8 = (i + 1) * 8 by omega] at hcf
          refine ⟨k - 8, by omega, i + 1, v5, _, rfl, rfl, rfl, rfl, by omega, hcf, (cutV_block hxr5 _ _).trans hxk, ?_, (hext.trans (he3.trans he4)).then hm5 (fun x hx e => by have := (ho.lt _ e).1; omega)⟩
          rw [ints8_snoc]
          exact ho5
        · skip
          refine RW.exit ?_
          refine thenX ?_
          refine thenX ?_
          refine blockHit ?_
          refine thenN ?_
          refine RW.seq ?_
          refine RW.region ?_
          refine RL.ev rfl rfl ev_move ?_
          refine RL.ev rfl rfl ev_assign ?_
          refine RL.nil ?_
          refine thenN ?_
          refine RW.ret ?_
          refine retI (RV.tmp rfl) ?_
          rw [List.length_drop] at hpos
          have hi : i * 8 = l.length := by omega
          refine ⟨?_, hr2.ext hext, Mod.trans hM2 hext (fun _ _ => id) (fun _ _ h => h.elim)⟩
          rw [show l.length / 8 = i by omega]
          exact ho

set_option maxHeartbeats 4000000 in
set_option maxRecDepth 100000 in
/-- postroad/codec.row[byte] -/
theorem rowByte_calls (lo hi g : Nat) (s : St) (most : Int) (w : World) (hr : Rd 94 w lo hi g s) (hhi : hi ≤ w.heap.size) (hm0 : -9223372036854775808 ≤ most) (hm1 : most ≤ 9223372036854775807) (hsl : s.1.length ≤ 140737488351232) : Gives Try.prog 67 #[.pointer (some ⟨g, 0, none⟩), vi most, vi 1, .func (.func 68) #[] #[]] w fun r w' => Own vb 5 w' w.heap.size r (rowR s most 1).2 ∧ Rd 94 w' lo hi g (rowR s most 1).1 ∧ Rl.Mod (fun k => k = g) w w' := by
  refine Gives.start Try.func67 rfl (Nat.le_of_ble_eq_true rfl) ?_
  rw [args4]
  refine RW.seq ?_
  refine RW.region ?_
  refine RL.ev rfl rfl ev_assign ?_
  refine RL.nil ?_
  refine thenN ?_
  refine RW.seq ?_
  refine RW.region ?_
  refine RL.ev rfl rfl ev_move ?_
  refine RL.op rfl rfl (op_call2 Try.func33 rfl rfl rfl rfl ((num_calls lo hi g s 4 _ hr).mono ?_))
  rintro _ w1 ⟨rfl, hr1, hmm1, hs1⟩
  rw [clip_4] at hr1 ⊢
  have hn32 := numR_lt32 s
  have hsl1 : (numR s 4).1.1.length ≤ s.1.length := (takeR_sub s 4).1
  unfold rowR
  generalize (numR s 4).1 = s1 at hr1 hsl1 ⊢
  generalize (numR s 4).2 = m at hn32 ⊢
  have hr1c := hr1
  obtain ⟨hlo, hhg, v1, hb1, hsv1, hv1⟩ := hr1c
  refine RL.ev rfl rfl ev_assign ?_
  refine RL.nil ?_
  refine thenN ?_
  refine RW.seq ?_
  refine RW.seq ?_
  refine RW.region ?_
  refine RL.ev rfl rfl ev_move ?_
  refine RL.ev rfl rfl (ev_false (ev_isNil Try.underlying66 rfl rfl) (by simp)) ?_
  refine RL.ev rfl rfl ev_move ?_
  refine RL.onEv rfl rfl (by decide) rfl rfl ev_move ?_
  refine RL.onEv rfl rfl (by decide) rfl rfl (ev_nilCheck rfl) ?_
  refine RL.onEv rfl rfl (by decide) rfl rfl (ev_fieldAddr Try.underlying94 rfl sz25 (by decide) rfl) ?_
  refine RL.onEv rfl rfl (by decide) rfl rfl (ev_loadB Try.underlying25 rfl rfl hb1 rfl) ?_
  refine RL.onEv rfl rfl (by decide) rfl rfl (ev_neq rfl rfl) ?_
  refine RL.ev rfl rfl (ev_pickF rfl) ?_
  refine RL.nil ?_
  refine thenN ?_
  refine RW.condP _ rfl (fun hne => ?_) (fun hne => ?_)
  · skip
    refine RW.seq ?_
    refine RW.region ?_
    refine RL.ev rfl rfl ev_assign ?_
    refine RL.nil ?_
    refine thenN ?_
    refine RW.ret ?_
    refine thenR ?_
    refine retI (RV.tmp rfl) ?_
    rw [if_pos hne]
    exact ⟨Own.nil _ _ _ _, hr1, hmm1⟩
  · skip
    refine RW.skip ?_
    refine thenN ?_
    refine RW.seq ?_
    refine RW.seq ?_
    rcases (show most < 0 ∨ (¬ most < 0 ∧ most < (m : Int)) ∨ (¬ most < 0 ∧ ¬ most < (m : Int)) by omega) with hc | hc | hc
    · skip
      refine RW.region ?_
      have hz : s1.2 = 0 := Decidable.not_not.1 hne
      rw [if_neg hne]
      refine RL.ev rfl rfl ev_move ?_
      refine RL.ev rfl rfl (ev_true (ev_lss rfl rfl) hc) ?_
      refine RL.ev rfl rfl ev_move ?_
      refine RL.off rfl rfl (by decide) rfl rfl ?_
      refine RL.off rfl rfl (by decide) rfl rfl ?_
      refine RL.off rfl rfl (by decide) rfl rfl ?_
      refine RL.off rfl rfl (by decide) rfl rfl ?_
      refine RL.ev rfl rfl (ev_pickT rfl) ?_
      refine RL.nil ?_
      refine thenN ?_
      refine RW.condT rfl ?_
      refine RW.seq ?_
      refine RW.region ?_
      refine RL.ev rfl rfl ev_move ?_
      refine RL.op rfl rfl (op_call2 Try.func66 rfl rfl rfl rfl ((fail_calls lo hi g s1 3 _ hr1).mono ?_))
      rintro _ w2 ⟨hr2, hmm2, hs2⟩
      refine RL.nil ?_
      refine thenN ?_
      refine RW.seq ?_
      refine RW.region ?_
      refine RL.ev rfl rfl ev_assign ?_
      refine RL.nil ?_
      refine thenN ?_
      refine RW.ret ?_
      refine thenR ?_
      refine retI (RV.tmp rfl) ?_
      rw [if_pos (show most < 0 ∨ most < (m : Int) by omega)]
      exact ⟨Own.nil _ _ _ _, hr2, Mod.trans hmm1 hmm2 (fun _ _ => id) (fun _ _ => id)⟩
    · skip
      refine RW.region ?_
      have hz : s1.2 = 0 := Decidable.not_not.1 hne
      rw [if_neg hne]
      refine RL.ev rfl rfl ev_move ?_
      refine RL.ev rfl rfl (ev_false (ev_lss rfl rfl) hc.1) ?_
      refine RL.ev rfl rfl ev_move ?_
      refine RL.onEv rfl rfl (by decide) rfl rfl ev_move ?_
      refine RL.onEv rfl rfl (by decide) rfl rfl ev_move ?_
      refine RL.onEv rfl rfl (by decide) rfl rfl (ev_conv Try.underlying3 Try.underlying39 rfl ((wrap_u64 most).trans (show (toU most : Int) = most by unfold toU; omega))) ?_
      refine RL.onEv rfl rfl (by decide) rfl rfl (ev_true (ev_gtr rfl rfl) hc.2) ?_
      refine RL.ev rfl rfl (ev_pickF rfl) ?_
      refine RL.nil ?_
      refine thenN ?_
      refine RW.condT rfl ?_
      refine RW.seq ?_
      refine RW.region ?_
      refine RL.ev rfl rfl ev_move ?_
      refine RL.op rfl rfl (op_call2 Try.func66 rfl rfl rfl rfl ((fail_calls lo hi g s1 3 _ hr1).mono ?_))
      rintro _ w2 ⟨hr2, hmm2, hs2⟩
      refine RL.nil ?_
      refine thenN ?_
      refine RW.seq ?_
      refine RW.region ?_
      refine RL.ev rfl rfl ev_assign ?_
      refine RL.nil ?_
      refine thenN ?_
      refine RW.ret ?_
      refine thenR ?_
      refine retI (RV.tmp rfl) ?_
      rw [if_pos (show most < 0 ∨ most < (m : Int) by omega)]
      exact ⟨Own.nil _ _ _ _, hr2, Mod.trans hmm1 hmm2 (fun _ _ => id) (fun _ _ => id)⟩
    · skip
      refine RW.region ?_
      have hz : s1.2 = 0 := Decidable.not_not.1 hne
      rw [if_neg hne]
      refine RL.ev rfl rfl ev_move ?_
      refine RL.ev rfl rfl (ev_false (ev_lss rfl rfl) hc.1) ?_
      refine RL.ev rfl rfl ev_move ?_
      refine RL.onEv rfl rfl (by decide) rfl rfl ev_move ?_
      refine RL.onEv rfl rfl (by decide) rfl rfl ev_move ?_
      refine RL.onEv rfl rfl (by decide) rfl rfl (ev_conv Try.underlying3 Try.underlying39 rfl ((wrap_u64 most).trans (show (toU most : Int) = most by unfold toU; omega))) ?_
      refine RL.onEv rfl rfl (by decide) rfl rfl (ev_false (ev_gtr rfl rfl) hc.2) ?_
      refine RL.ev rfl rfl (ev_pickF rfl) ?_
      refine RL.nil ?_
      refine thenN ?_
      refine RW.condF rfl ?_
      refine RW.skip ?_
      refine thenN ?_
      refine RW.seq ?_
      refine RW.region ?_
      refine RL.ev rfl rfl ev_move ?_
      refine RL.ev rfl rfl ev_move ?_
      refine RL.ev rfl rfl (ev_conv Try.underlying39 Try.underlying3 rfl (wrap_i64 (by omega) (by omega))) ?_
      refine RL.ev rfl rfl ev_move ?_
      refine RL.ev rfl rfl (ev_arith rfl rfl rfl ((mul64 (by omega) (by omega)).trans (show (m : Int) * 1 = ((m * 1 : Nat) : Int) by norm_cast))) ?_
      refine RL.op rfl rfl (op_call2 Try.func52 rfl rfl rfl rfl ((take_calls lo hi g s1 (m * 1) _ hr1).mono ?_))
      rintro _ w2 ⟨x, b, rfl, hx, hxb, hr2, hmm2, hs2⟩
      have hM2 : Rl.Mod (fun k => k = g) w w2 := Mod.trans hmm1 hmm2 (fun _ _ => id) (fun _ _ => id)
      rw [if_neg (show ¬ (most < 0 ∨ most < (m : Int)) by omega)]
      have hdvd := takeR_dvd s1 m 1
      have hlt2 := (takeR_sub s1 (m * 1)).2
      have hxlen := hx.len_le
      generalize (takeR s1 (m * 1)).1 = s2 at hr2 ⊢
      generalize (takeR s1 (m * 1)).2 = l at hx hdvd hlt2 hxlen ⊢
      refine RL.ev rfl rfl ev_move ?_
      refine RL.ev rfl rfl (ev_extract rfl rfl) ?_
      refine RL.ev rfl rfl (ev_extract rfl rfl) ?_
      refine RL.ev rfl rfl ev_assign ?_
      refine RL.ev rfl rfl ev_assign ?_
      refine RL.nil ?_
      refine thenN ?_
      refine RW.seq ?_
      refine RW.region ?_
      refine RL.ev rfl rfl ev_assign ?_
      refine RL.nil ?_
      refine thenN ?_
      refine RW.seq ?_
      refine RW.block ?_
      refine RW.loop (fun k R w' => ∃ i : Nat, ∃ vo : Value, ∃ xr : Value, R 12 = vo ∧ R 10 = xr ∧ R 2 = vi 1 ∧ R 3 = .func (.func 68) #[] #[] ∧ (i * 1 + k = l.length) ∧ (Sl vb w' xr (l.drop (i * 1))) ∧ (xr.ownBlock = x.ownBlock) ∧ (Own vb 5 w' w.heap.size vo (l.take i)) ∧ (Ext w2 w')) l.length ?_ ?_
      · exact ⟨0, .slice none 0 0, x, rfl, rfl, rfl, rfl, by simp, by simpa using hx, rfl, by simpa using Own.nil _ _ _ _, Mod.refl _ _⟩
      · rintro k R w' ⟨i, vo, xr, hr12_, hr10_, hr2_, hr3_, hik, hxr, hxk, ho, hext⟩
        have hR_ : ∃ R0, R = (upd (upd (upd (upd R0 12 _) 10 _) 2 _) 3 _) := ⟨R, by rw [upd_self hr12_, upd_self hr10_, upd_self hr2_, upd_self hr3_]⟩
        obtain ⟨R0, rfl⟩ := hR_
        clear hr12_ hr10_ hr2_ hr3_
        refine RW.seq ?_
        refine RW.seq ?_
        refine RW.region ?_
        refine RL.ev rfl rfl ev_move ?_
        refine RL.ev rfl rfl (ev_lenS Try.underlying23 hxr rfl) ?_
        refine RL.ev rfl rfl (ev_gtr rfl rfl) ?_
        refine RL.nil ?_
        refine thenN ?_
        refine RW.condP _ rfl (fun hpos => ?_) (fun hpos => ?_)
        · skip
          refine RW.skip ?_
          refine thenN ?_
          refine RW.seq ?_
          refine RW.block ?_
          refine RW.region ?_
          have hdl : (l.drop (i * 1)).length = l.length - i * 1 := by simp
          rw [hdl] at hpos
          have h8 : 1 ≤ l.length - i * 1 := by obtain ⟨c, hc⟩ := hdvd; omega
          have hi8 : i < l.length := by omega
          have hsz1 := hM2.size
          have hsz2 := hext.size
          refine RL.ev rfl rfl ev_move ?_
          refine RL.ev rfl rfl ev_move ?_
          refine RL.ev rfl rfl ev_move ?_
          refine RL.ev rfl rfl ev_move ?_
          refine RL.ev rfl rfl (ev_cutTo Try.underlying23 sz5 hxr rfl rfl (by decide) (by rw [hdl]; omega)) ?_
          refine RL.op rfl rfl (op_callf1 Try.func68 rfl rfl rfl rfl ((byteOne_calls _ (l[i]'hi8) _ (by have h := hxr.cutTo (hi := 1) (by rw [hdl]; omega); rwa [Nat.mul_one, List.drop_eq_getElem_cons hi8, List.take_succ_cons, List.take_zero] at h)).mono ?_))
          rintro _ w3 ⟨rfl, rfl⟩
          have he3 : Ext w' w' := Mod.refl _ _
          refine RL.op rfl rfl (op_lit (enc := vb) (l := [l[i]'hi8]) (xs := [.tmp 54]) Try.underlying23 sz5 zr5 rfl rfl (fun _ => rfl) rfl (by decide) (by decide) ?_)
          intro w4 ho4 hb4 he4 hs4
          have hsz3 := he3.size
          have hsz4 := he4.size
          refine RL.op rfl rfl (op_append Try.underlying23 inf5 rfl (fun _ => rfl) (ho.ext (he3.trans he4)) rfl ho4.sl rfl (by simp only [List.length_append, List.length_cons, List.length_nil, List.length_take]; omega) (by decide) (by omega) ?_)
          intro v5 w5 ho5 hm5 hk5
          have hxr5 := (hxr.ext (he3.trans he4)).mod hm5 (fun k hk e => by have h1 := (ho.lt _ e).1; rw [hxk] at hk; have h2 := (hxb _ hk).2.1; omega)
          have hob := ho.lt
          refine RL.ev rfl rfl ev_assign ?_
          refine RL.nil ?_
          refine blockN ?_
          refine thenN ?_
          refine RW.region ?_
          refine RL.ev rfl rfl ev_move ?_
          refine RL.ev rfl rfl ev_move ?_
          refine RL.ev rfl rfl (ev_cutFrom Try.underlying23 sz5 hxr5 rfl rfl (by decide) (by rw [hdl]; omega)) ?_
          refine RL.ev rfl rfl ev_assign ?_
          refine RL.nil ?_
          refine thenN ?_
          have hcf := hxr5.cutFrom (lo := 1) (by rw [hdl]; omega)
          rw [List.drop_drop, show i * 1 + 1 = (i + 1) * 1 by omega] at hcf
          refine ⟨k - 1, by omega, i + 1, v5, _, rfl, rfl, rfl, rfl, by omega, hcf, (cutV_block hxr5 _ _).trans hxk, ?_, (hext.trans (he3.trans he4)).then hm5 (fun x hx e => by have := (ho.lt _ e).1; omega)⟩
          rw [List.take_succ_eq_append_getElem hi8]
          exact ho5
        · skip
          refine RW.exit ?_
          refine thenX ?_
          refine thenX ?_
          refine blockHit ?_
          refine thenN ?_
          refine RW.seq ?_
          refine RW.region ?_
          refine RL.ev rfl rfl ev_move ?_
          refine RL.ev rfl rfl ev_assign ?_
          refine RL.nil ?_
          refine thenN ?_
          refine RW.ret ?_
          refine retI (RV.tmp rfl) ?_
          rw [List.length_drop] at hpos
          have hi : i * 1 = l.length := by omega
          refine ⟨?_, hr2.ext hext, Mod.trans hM2 hext (fun _ _ => id) (fun _ _ h => h.elim)⟩
          rw [List.take_of_length_le (by omega)] at ho
          exact ho

end Go.Proofs.Ytihchogjmgbipaa
