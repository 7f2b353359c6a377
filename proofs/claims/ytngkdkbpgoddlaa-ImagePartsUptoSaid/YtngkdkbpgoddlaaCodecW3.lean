import Derived.Test.YtngkdkbpgoddlaaCodecW2
set_option linter.unusedVariables false
set_option linter.unusedSimpArgs false
namespace Go.Proofs.Ytngkdkbpgoddlaa
open Go.RowKit Go.Rl

open Go.Codec
set_option maxHeartbeats 4000000 in
set_option maxRecDepth 100000 in
/-- (*postroad/codec.Reader).Text -/
theorem rtext_calls (lo hi g : Nat) (s : St) (most : Int) (w : World) (hr : Rd 57 w lo hi g s) (hhi : hi ≤ w.heap.size) (hm0 : -9223372036854775808 ≤ most) (hm1 : most ≤ 9223372036854775807) (hsl : s.1.length ≤ 140737488351232) : Gives Try.prog 21 #[.pointer (some ⟨g, 0, none⟩), vi most] w fun r w' => r = str (textR s most).2 ∧ Rd 57 w' lo hi g (textR s most).1 ∧ Rl.Mod (fun k => k = g) w w' := by
  refine Gives.start Try.func21 rfl (Nat.le_of_ble_eq_true rfl) ?_
  rw [args2]
  refine RW.seq ?_
  refine RW.region ?_
  refine RL.ev rfl rfl ev_assign ?_
  refine RL.nil ?_
  refine thenN ?_
  refine RW.seq ?_
  refine RW.region ?_
  refine RL.ev rfl rfl ev_move ?_
  refine RL.ev rfl rfl ev_move ?_
  refine RL.op rfl rfl (op_call4 Try.func29 rfl rfl rfl rfl rfl rfl ((rowByte_calls lo hi g s most _ hr hhi hm0 hm1 hsl).mono ?_))
  rintro v1 w1 ⟨ho1, hr1, hm1⟩
  refine RL.ev rfl rfl (ev_toStr Try.underlying23 Try.underlying5 Try.underlying9 ho1.sl rfl) ?_
  refine RL.ev rfl rfl ev_assign ?_
  refine RL.nil ?_
  refine thenN ?_
  refine RW.ret ?_
  refine retI (RV.tmp rfl) ?_
  exact ⟨rfl, hr1, hm1⟩

theorem num_at {lo hi g : Nat} {s s' : St} {wide : Int} {k m : Nat} {w : World} (hr : Rd 57 w lo hi g s) (hk : clip wide = k) (hn : numR s k = (s', m)) :
    Gives Try.prog 37 #[.pointer (some ⟨g, 0, none⟩), vi wide] w (fun r w' => r = .int .u64 (m : Int) ∧ Rd 57 w' lo hi g s' ∧ Rl.Mod (fun k => k = g) w w' ∧ w'.heap.size = w.heap.size) := by
  subst hk
  have h := num_calls lo hi g s wide w hr
  rw [hn] at h
  exact h
theorem rtext_at {lo hi g : Nat} {s s' : St} {most : Int} {l : List UInt8} {w : World} (hr : Rd 57 w lo hi g s) (hhi : hi ≤ w.heap.size) (hm0 : -9223372036854775808 ≤ most) (hm1 : most ≤ 9223372036854775807) (hsl : s.1.length ≤ 140737488351232) (hn : textR s most = (s', l)) :
    Gives Try.prog 21 #[.pointer (some ⟨g, 0, none⟩), vi most] w (fun r w' => r = str l ∧ Rd 57 w' lo hi g s' ∧ Rl.Mod (fun k => k = g) w w') := by
  have h := rtext_calls lo hi g s most w hr hhi hm0 hm1 hsl
  rw [hn] at h
  exact h
set_option maxHeartbeats 4000000 in
set_option maxRecDepth 100000 in
/-- postroad/postroadref02.clip -/
theorem refClip_calls (wide : Int) (w : World) : Gives Try.prog 35 #[vi wide] w fun r w' => r = vi (clip wide : Nat) ∧ w = w' := by
  refine Gives.start Try.func35 rfl (Nat.le_of_ble_eq_true rfl) ?_
  rw [args1]
  refine RW.seq ?_
  refine RW.region ?_
  refine RL.ev rfl rfl ev_assign ?_
  refine RL.nil ?_
  refine thenN ?_
  refine RW.seq ?_
  refine RW.seq ?_
  refine RW.region ?_
  refine RL.ev rfl rfl ev_move ?_
  refine RL.ev rfl rfl (ev_lss rfl rfl) ?_
  refine RL.nil ?_
  refine thenN ?_
  refine RW.condP _ rfl (fun h0 => ?_) (fun h0 => ?_)
  · skip
    refine RW.seq ?_
    refine RW.region ?_
    refine RL.ev rfl rfl ev_assign ?_
    refine RL.nil ?_
    refine thenN ?_
    refine RW.ret ?_
    refine thenR ?_
    refine retI (RV.tmp rfl) ?_
    refine ⟨?_, rfl⟩
    unfold clip; rw [show (max 0 (min wide 8)).toNat = 0 by omega]; rfl
  · skip
    refine RW.skip ?_
    refine thenN ?_
    refine RW.seq ?_
    refine RW.seq ?_
    refine RW.region ?_
    refine RL.ev rfl rfl ev_move ?_
    refine RL.ev rfl rfl (ev_gtr rfl rfl) ?_
    refine RL.nil ?_
    refine thenN ?_
    refine RW.condP _ rfl (fun h8 => ?_) (fun h8 => ?_)
    · skip
      refine RW.seq ?_
      refine RW.region ?_
      refine RL.ev rfl rfl ev_assign ?_
      refine RL.nil ?_
      refine thenN ?_
      refine RW.ret ?_
      refine thenR ?_
      refine retI (RV.tmp rfl) ?_
      refine ⟨?_, rfl⟩
      unfold clip; rw [show (max 0 (min wide 8)).toNat = 8 by omega]; rfl
    · skip
      refine RW.skip ?_
      refine thenN ?_
      refine RW.seq ?_
      refine RW.region ?_
      refine RL.ev rfl rfl ev_move ?_
      refine RL.ev rfl rfl ev_assign ?_
      refine RL.nil ?_
      refine thenN ?_
      refine RW.ret ?_
      refine retI (RV.tmp rfl) ?_
      refine ⟨?_, rfl⟩
      unfold clip vi; rw [show (((max 0 (min wide 8)).toNat : Nat) : Int) = wide by omega]; rfl

set_option maxHeartbeats 4000000 in
set_option maxRecDepth 100000 in
/-- postroad/postroadref02.Put -/
theorem refPut_calls (n : Nat) (wide : Int) (w : World) (hn : n < 18446744073709551616) : Gives Try.prog 27 #[.int .u64 (n : Int), vi wide] w fun r w' => Own vb 5 w' w.heap.size r (put n (clip wide)) ∧ Ext w w' := by
  refine Gives.start Try.func27 rfl (Nat.le_of_ble_eq_true rfl) ?_
  rw [args2]
  refine RW.seq ?_
  refine RW.region ?_
  have hc8 := clip_le wide
  generalize hk : clip wide = kk at hc8
  refine RL.ev rfl rfl ev_assign ?_
  refine RL.nil ?_
  refine thenN ?_
  refine RW.seq ?_
  refine RW.region ?_
  refine RL.ev rfl rfl ev_assign ?_
  refine RL.nil ?_
  refine thenN ?_
  refine RW.seq ?_
  refine RW.seq ?_
  refine RW.region ?_
  refine RL.ev rfl rfl ev_assign ?_
  refine RL.nil ?_
  refine thenN ?_
  refine RW.block ?_
  refine RW.loop (fun k R w' => ∃ i : Nat, ∃ vo : Value, R 6 = .int .i64 (i : Int) ∧ R 5 = vo ∧ R 1 = vi wide ∧ R 0 = .int .u64 ((n / 256 ^ i : Nat) : Int) ∧ (i + k = kk) ∧ (Own vb 5 w' w.heap.size vo (put n i)) ∧ (Ext w w')) kk ?_ ?_
  · exact ⟨0, .slice none 0 0, rfl, rfl, rfl, by rw [Nat.pow_zero, Nat.div_one]; rfl, by omega, Own.nil _ _ _ _, Mod.refl _ _⟩
  · rintro k R w' ⟨i, vo, hr6_, hr5_, hr1_, hr0_, hik, ho, hext⟩
    have hR_ : ∃ R0, R = (upd (upd (upd (upd R0 6 _) 5 _) 1 _) 0 _) := ⟨R, by rw [upd_self hr6_, upd_self hr5_, upd_self hr1_, upd_self hr0_]⟩
    obtain ⟨R0, rfl⟩ := hR_
    clear hr6_ hr5_ hr1_ hr0_
    refine RW.seq ?_
    refine RW.seq ?_
    refine RW.region ?_
    refine RL.ev rfl rfl ev_move ?_
    refine RL.ev rfl rfl ev_move ?_
    refine RL.op rfl rfl (op_call1 Try.func35 rfl rfl rfl ((refClip_calls wide _).mono ?_))
    rintro _ _ ⟨rfl, rfl⟩
    rw [hk]
    refine RL.ev rfl rfl (ev_lss rfl rfl) ?_
    refine RL.nil ?_
    refine thenN ?_
    refine RW.condP _ rfl (fun hlt => ?_) (fun hlt => ?_)
    · skip
      refine RW.skip ?_
      refine thenN ?_
      refine RW.seq ?_
      refine RW.block ?_
      refine RW.seq ?_
      refine RW.region ?_
      have hdn : n / 256 ^ i < 18446744073709551616 := Nat.lt_of_le_of_lt (Nat.div_le_self _ _) hn
      refine RL.ev rfl rfl ev_move ?_
      refine RL.ev rfl rfl ev_move ?_
      refine RL.ev rfl rfl (ev_rem rfl rfl (by decide) (rem256 _)) ?_
      refine RL.ev rfl rfl (ev_conv Try.underlying50 Try.underlying5 rfl (wrap_u8n _)) ?_
      refine RL.op rfl rfl (op_lit (enc := vb) (l := [UInt8.ofNat (n / 256 ^ i % 256)]) (xs := [.tmp 16]) Try.underlying23 sz5 zr5 rfl rfl vb_cells rfl (by decide) (by decide) ?_)
      intro w1 ho1 hb1 he1 hs1
      rw [u8_mod] at ho1
      refine RL.op rfl rfl (op_append Try.underlying23 inf5 rfl vb_one (ho.ext he1) rfl ho1.sl rfl (by rw [put_length]; simp only [List.length_cons, List.length_nil]; omega) (by decide) (by have := hext.size; have := he1.size; omega) ?_)
      intro v3 w3 ho3 hm3 hk3
      have he3 : Ext w w3 := (hext.trans he1).then hm3 (fun x hx e => by have := (ho.lt _ e).1; omega)
      rw [← put_succ] at ho3
      refine RL.ev rfl rfl ev_assign ?_
      refine RL.nil ?_
      refine thenN ?_
      refine RW.region ?_
      refine RL.ev rfl rfl ev_move ?_
      refine RL.ev rfl rfl (ev_quo rfl rfl (by decide) (quo256 n i hdn)) ?_
      refine RL.ev rfl rfl ev_assign ?_
      refine RL.nil ?_
      refine blockN ?_
      refine thenN ?_
      refine RW.region ?_
      refine RL.ev rfl rfl ev_move ?_
      refine RL.ev rfl rfl (ev_arith rfl rfl rfl (add64 (by omega) (by omega))) ?_
      refine RL.ev rfl rfl ev_assign ?_
      refine RL.nil ?_
      refine thenN ?_
      exact ⟨k - 1, by omega, i + 1, v3, rfl, rfl, rfl, rfl, by omega, ho3, he3⟩
    · skip
      refine RW.exit ?_
      refine thenX ?_
      refine thenX ?_
      refine blockHit ?_
      refine thenN ?_
      refine RW.seq ?_
      refine RW.region ?_
      refine RL.ev rfl rfl ev_move ?_
      refine RL.ev rfl rfl ev_assign ?_
      refine RL.nil ?_
      refine thenN ?_
      refine RW.ret ?_
      refine retI (RV.tmp rfl) ?_
      refine ⟨?_, hext⟩
      rw [show i = kk by omega] at ho
      exact ho

set_option maxHeartbeats 4000000 in
set_option maxRecDepth 100000 in
/-- postroad/postroadref02.Text -/
theorem refText_calls (s : List UInt8) (w : World) (hl : s.length ≤ 140737488351232) : Gives Try.prog 16 #[str s] w fun r w' => Own vb 5 w' w.heap.size r (putText s) ∧ Ext w w' := by
  refine Gives.start Try.func16 rfl (Nat.le_of_ble_eq_true rfl) ?_
  rw [args1]
  refine RW.seq ?_
  refine RW.region ?_
  refine RL.ev rfl rfl ev_assign ?_
  refine RL.nil ?_
  refine thenN ?_
  refine RW.seq ?_
  refine RW.region ?_
  refine RL.ev rfl rfl ev_move ?_
  refine RL.ev rfl rfl (ev_lenS' Try.underlying9 rfl) ?_
  refine RL.ev rfl rfl (ev_conv Try.underlying3 Try.underlying50 rfl (wrap_u64n _ (by omega))) ?_
  refine RL.op rfl rfl (op_call2 Try.func27 rfl rfl rfl rfl ((refPut_calls s.length 4 _ (by omega)).mono ?_))
  rintro v1 w1 ⟨ho1, he1⟩
  rw [clip_4] at ho1
  refine RL.ev rfl rfl ev_assign ?_
  refine RL.nil ?_
  refine thenN ?_
  refine RW.seq ?_
  refine RW.region ?_
  refine RL.ev rfl rfl ev_move ?_
  refine RL.ev rfl rfl ev_move ?_
  refine RL.op rfl rfl (op_appendStr Try.underlying23 Try.underlying9 inf5 ho1 rfl rfl (by rw [put_length]; omega) he1.size ?_)
  intro v2 w2 ho2 hm2
  have he2 : Ext w w2 := he1.then hm2 (fun x hx e => by have := (ho1.lt _ e).1; omega)
  refine RL.ev rfl rfl ev_assign ?_
  refine RL.nil ?_
  refine thenN ?_
  refine RW.ret ?_
  refine retI (RV.tmp rfl) ?_
  refine ⟨?_, he2⟩
  exact ho2

set_option maxHeartbeats 4000000 in
set_option maxRecDepth 100000 in
/-- postroad/postroadref00.Same -/
theorem same_calls (a b : Value) (x y : List UInt8) (w : World) (ha : Sl vb w a x) (hb : Sl vb w b y) : Gives Try.prog 8 #[a, b] w fun r w' => r = .bool (decide (x = y)) ∧ w = w' := by
  refine Gives.start Try.func8 rfl (Nat.le_of_ble_eq_true rfl) ?_
  rw [args2]
  refine RW.seq ?_
  refine RW.region ?_
  refine RL.ev rfl rfl ev_assign ?_
  refine RL.nil ?_
  refine thenN ?_
  refine RW.seq ?_
  refine RW.region ?_
  refine RL.ev rfl rfl ev_move ?_
  refine RL.ev rfl rfl (ev_toStr Try.underlying23 Try.underlying5 Try.underlying9 ha rfl) ?_
  refine RL.ev rfl rfl ev_move ?_
  refine RL.ev rfl rfl (ev_toStr Try.underlying23 Try.underlying5 Try.underlying9 hb rfl) ?_
  refine RL.ev rfl rfl (ev_strEq rfl rfl) ?_
  refine RL.ev rfl rfl ev_assign ?_
  refine RL.nil ?_
  refine thenN ?_
  refine RW.ret ?_
  refine retI (RV.tmp rfl) ?_
  exact ⟨rfl, rfl⟩

theorem same_true {a b : Value} {x y : List UInt8} {w : World} (ha : Sl vb w a x) (hb : Sl vb w b y) (h : x = y) : Gives Try.prog 8 #[a, b] w fun r w' => r = .bool true ∧ w = w' :=
  (same_calls a b x y w ha hb).mono fun r w' hr => by rw [decide_eq_true h] at hr; exact hr
theorem same_false {a b : Value} {x y : List UInt8} {w : World} (ha : Sl vb w a x) (hb : Sl vb w b y) (h : ¬ x = y) : Gives Try.prog 8 #[a, b] w fun r w' => r = .bool false ∧ w = w' :=
  (same_calls a b x y w ha hb).mono fun r w' hr => by rw [decide_eq_false h] at hr; exact hr

end Go.Proofs.Ytngkdkbpgoddlaa
