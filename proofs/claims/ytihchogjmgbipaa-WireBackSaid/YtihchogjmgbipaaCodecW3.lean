import Derived.Test.YtihchogjmgbipaaCodecW2
set_option linter.unusedVariables false
set_option linter.unusedSimpArgs false
namespace Go.Proofs.Ytihchogjmgbipaa
open Go.RowKit Go.Rl

open Go.Codec
set_option maxHeartbeats 4000000 in
set_option maxRecDepth 100000 in
/-- (*postroad/codec.Reader).Ints -/
theorem rints_calls (lo hi g : Nat) (s : St) (most : Int) (w : World) (hr : Rd 94 w lo hi g s) (hhi : hi ≤ w.heap.size) (hm0 : -9223372036854775808 ≤ most) (hm1 : most ≤ 9223372036854775807) (hsl : s.1.length ≤ 140737488351232) : Gives Try.prog 35 #[.pointer (some ⟨g, 0, none⟩), vi most] w fun r w' => Own vi 3 w' w.heap.size r (intsR s most).2 ∧ Rd 94 w' lo hi g (intsR s most).1 ∧ Rl.Mod (fun k => k = g) w w' := by
  refine Gives.start Try.func35 rfl (Nat.le_of_ble_eq_true rfl) ?_
  rw [args2]
  refine RW.seq ?_
  refine RW.region ?_
  refine RL.ev rfl rfl ev_assign ?_
  refine RL.nil ?_
  refine thenN ?_
  refine RW.seq ?_
  refine RW.region ?_
  refine RL.ev rfl rfl ev_move ?_
  refine RL.ev rfl rfl ev_move ?_
  refine RL.op rfl rfl (op_call4 Try.func54 rfl rfl rfl rfl rfl rfl ((rowInt_calls lo hi g s most _ hr hhi hm0 hm1 hsl).mono ?_))
  rintro v1 w1 ⟨ho1, hr1, hm1⟩
  refine RL.ev rfl rfl ev_assign ?_
  refine RL.nil ?_
  refine thenN ?_
  refine RW.ret ?_
  refine retI (RV.tmp rfl) ?_
  exact ⟨ho1, hr1, hm1⟩

set_option maxHeartbeats 4000000 in
set_option maxRecDepth 100000 in
/-- (*postroad/codec.Reader).Text -/
theorem rtext_calls (lo hi g : Nat) (s : St) (most : Int) (w : World) (hr : Rd 94 w lo hi g s) (hhi : hi ≤ w.heap.size) (hm0 : -9223372036854775808 ≤ most) (hm1 : most ≤ 9223372036854775807) (hsl : s.1.length ≤ 140737488351232) : Gives Try.prog 63 #[.pointer (some ⟨g, 0, none⟩), vi most] w fun r w' => r = str (textR s most).2 ∧ Rd 94 w' lo hi g (textR s most).1 ∧ Rl.Mod (fun k => k = g) w w' := by
  refine Gives.start Try.func63 rfl (Nat.le_of_ble_eq_true rfl) ?_
  rw [args2]
  refine RW.seq ?_
  refine RW.region ?_
  refine RL.ev rfl rfl ev_assign ?_
  refine RL.nil ?_
  refine thenN ?_
  refine RW.seq ?_
  refine RW.region ?_
  refine RL.ev rfl rfl ev_move ?_
  refine RL.ev rfl rfl ev_move ?_
  refine RL.op rfl rfl (op_call4 Try.func67 rfl rfl rfl rfl rfl rfl ((rowByte_calls lo hi g s most _ hr hhi hm0 hm1 hsl).mono ?_))
  rintro v1 w1 ⟨ho1, hr1, hm1⟩
  refine RL.ev rfl rfl (ev_toStr Try.underlying23 Try.underlying5 Try.underlying9 ho1.sl rfl) ?_
  refine RL.ev rfl rfl ev_assign ?_
  refine RL.nil ?_
  refine thenN ?_
  refine RW.ret ?_
  refine retI (RV.tmp rfl) ?_
  exact ⟨rfl, hr1, hm1⟩

theorem num_at {lo hi g : Nat} {s s' : St} {wide : Int} {k m : Nat} {w : World} (hr : Rd 94 w lo hi g s) (hk : clip wide = k) (hn : numR s k = (s', m)) :
    Gives Try.prog 33 #[.pointer (some ⟨g, 0, none⟩), vi wide] w (fun r w' => r = .int .u64 (m : Int) ∧ Rd 94 w' lo hi g s' ∧ Rl.Mod (fun k => k = g) w w' ∧ w'.heap.size = w.heap.size) := by
  subst hk
  have h := num_calls lo hi g s wide w hr
  rw [hn] at h
  exact h
theorem rints_at {lo hi g : Nat} {s s' : St} {most : Int} {l : List Int} {w : World} (hr : Rd 94 w lo hi g s) (hhi : hi ≤ w.heap.size) (hm0 : -9223372036854775808 ≤ most) (hm1 : most ≤ 9223372036854775807) (hsl : s.1.length ≤ 140737488351232) (hn : intsR s most = (s', l)) :
    Gives Try.prog 35 #[.pointer (some ⟨g, 0, none⟩), vi most] w (fun r w' => Own vi 3 w' w.heap.size r l ∧ Rd 94 w' lo hi g s' ∧ Rl.Mod (fun k => k = g) w w') := by
  have h := rints_calls lo hi g s most w hr hhi hm0 hm1 hsl
  rw [hn] at h
  exact h
theorem rtext_at {lo hi g : Nat} {s s' : St} {most : Int} {l : List UInt8} {w : World} (hr : Rd 94 w lo hi g s) (hhi : hi ≤ w.heap.size) (hm0 : -9223372036854775808 ≤ most) (hm1 : most ≤ 9223372036854775807) (hsl : s.1.length ≤ 140737488351232) (hn : textR s most = (s', l)) :
    Gives Try.prog 63 #[.pointer (some ⟨g, 0, none⟩), vi most] w (fun r w' => r = str l ∧ Rd 94 w' lo hi g s' ∧ Rl.Mod (fun k => k = g) w w') := by
  have h := rtext_calls lo hi g s most w hr hhi hm0 hm1 hsl
  rw [hn] at h
  exact h
theorem end_at {lo hi g : Nat} {s : St} {e : Int} {w : World} (hr : Rd 94 w lo hi g s) (he : endR s = e) : Gives Try.prog 36 #[.pointer (some ⟨g, 0, none⟩)] w (fun r w' => r = vi e ∧ w = w') := he ▸ end_calls lo hi g s w hr

set_option maxHeartbeats 4000000 in
set_option maxRecDepth 100000 in
/-- postroad/postroadref02.clip -/
theorem refClip_calls (wide : Int) (w : World) : Gives Try.prog 51 #[vi wide] w fun r w' => r = vi (clip wide : Nat) ∧ w = w' := by
  refine Gives.start Try.func51 rfl (Nat.le_of_ble_eq_true rfl) ?_
  rw [args1]
  refine RW.seq ?_
  refine RW.region ?_
  refine RL.ev rfl rfl ev_assign ?_
  refine RL.nil ?_
  refine thenN ?_
  refine RW.seq ?_
  refine RW.seq ?_
  refine RW.region ?_
  refine RL.ev rfl rfl ev_move ?_
  refine RL.ev rfl rfl (ev_lss rfl rfl) ?_
  refine RL.nil ?_
  refine thenN ?_
  refine RW.condP _ rfl (fun h0 => ?_) (fun h0 => ?_)
  · skip
    refine RW.seq ?_
    refine RW.region ?_
    refine RL.ev rfl rfl ev_assign ?_
    refine RL.nil ?_
    refine thenN ?_
    refine RW.ret ?_
    refine thenR ?_
    refine retI (RV.tmp rfl) ?_
    refine ⟨?_, rfl⟩
    unfold clip; rw [show (max 0 (min wide 8)).toNat = 0 by omega]; rfl
  · skip
    refine RW.skip ?_
    refine thenN ?_
    refine RW.seq ?_
    refine RW.seq ?_
    refine RW.region ?_
    refine RL.ev rfl rfl ev_move ?_
    refine RL.ev rfl rfl (ev_gtr rfl rfl) ?_
    refine RL.nil ?_
    refine thenN ?_
    refine RW.condP _ rfl (fun h8 => ?_) (fun h8 => ?_)
    · skip
      refine RW.seq ?_
      refine RW.region ?_
      refine RL.ev rfl rfl ev_assign ?_
      refine RL.nil ?_
      refine thenN ?_
      refine RW.ret ?_
      refine thenR ?_
      refine retI (RV.tmp rfl) ?_
      refine ⟨?_, rfl⟩
      unfold clip; rw [show (max 0 (min wide 8)).toNat = 8 by omega]; rfl
    · skip
      refine RW.skip ?_
      refine thenN ?_
      refine RW.seq ?_
      refine RW.region ?_
      refine RL.ev rfl rfl ev_move ?_
      refine RL.ev rfl rfl ev_assign ?_
      refine RL.nil ?_
      refine thenN ?_
      refine RW.ret ?_
      refine retI (RV.tmp rfl) ?_
      refine ⟨?_, rfl⟩
      unfold clip vi; rw [show (((max 0 (min wide 8)).toNat : Nat) : Int) = wide by omega]; rfl

set_option maxHeartbeats 4000000 in
set_option maxRecDepth 100000 in
/-- postroad/postroadref02.Put -/
theorem refPut_calls (n : Nat) (wide : Int) (w : World) (hn : n < 18446744073709551616) : Gives Try.prog 30 #[.int .u64 (n : Int), vi wide] w fun r w' => Own vb 5 w' w.heap.size r (put n (clip wide)) ∧ Ext w w' := by
  refine Gives.start Try.func30 rfl (Nat.le_of_ble_eq_true rfl) ?_
  rw [args2]
  refine RW.seq ?_
  refine RW.region ?_
  have hc8 := clip_le wide
  generalize hk : clip wide = kk at hc8
  refine RL.ev rfl rfl ev_assign ?_
  refine RL.nil ?_
  refine thenN ?_
  refine RW.seq ?_
  refine RW.region ?_
  refine RL.ev rfl rfl ev_assign ?_
  refine RL.nil ?_
  refine thenN ?_
  refine RW.seq ?_
  refine RW.seq ?_
  refine RW.region ?_
  refine RL.ev rfl rfl ev_assign ?_
  refine RL.nil ?_
  refine thenN ?_
  refine RW.block ?_
  refine RW.loop (fun k R w' => ∃ i : Nat, ∃ vo : Value, R 6 = .int .i64 (i : Int) ∧ R 5 = vo ∧ R 1 = vi wide ∧ R 0 = .int .u64 ((n / 256 ^ i : Nat) : Int) ∧ (i + k = kk) ∧ (Own vb 5 w' w.heap.size vo (put n i)) ∧ (Ext w w')) kk ?_ ?_
  · exact ⟨0, .slice none 0 0, rfl, rfl, rfl, by rw [Nat.pow_zero, Nat.div_one]; rfl, by omega, Own.nil _ _ _ _, Mod.refl _ _⟩
  · rintro k R w' ⟨i, vo, hr6_, hr5_, hr1_, hr0_, hik, ho, hext⟩
    have hR_ : ∃ R0, R = (upd (upd (upd (upd R0 6 _) 5 _) 1 _) 0 _) := ⟨R, by rw [upd_self hr6_, upd_self hr5_, upd_self hr1_, upd_self hr0_]⟩
    obtain ⟨R0, rfl⟩ := hR_
    clear hr6_ hr5_ hr1_ hr0_
    refine RW.seq ?_
    refine RW.seq ?_
    refine RW.region ?_
    refine RL.ev rfl rfl ev_move ?_
    refine RL.ev rfl rfl ev_move ?_
    refine RL.op rfl rfl (op_call1 Try.func51 rfl rfl rfl ((refClip_calls wide _).mono ?_))
    rintro _ _ ⟨rfl, rfl⟩
    rw [hk]
    refine RL.ev rfl rfl (ev_lss rfl rfl) ?_
    refine RL.nil ?_
    refine thenN ?_
    refine RW.condP _ rfl (fun hlt => ?_) (fun hlt => ?_)
    · skip
      refine RW.skip ?_
      refine thenN ?_
      refine RW.seq ?_
      refine RW.block ?_
      refine RW.seq ?_
      refine RW.region ?_
      have hdn : n / 256 ^ i < 18446744073709551616 := Nat.lt_of_le_of_lt (Nat.div_le_self _ _) hn
      refine RL.ev rfl rfl ev_move ?_
      refine RL.ev rfl rfl ev_move ?_
      refine RL.ev rfl rfl (ev_rem rfl rfl (by decide) (rem256 _)) ?_
      refine RL.ev rfl rfl (ev_conv Try.underlying39 Try.underlying5 rfl (wrap_u8n _)) ?_
      refine RL.op rfl rfl (op_lit (enc := vb) (l := [UInt8.ofNat (n / 256 ^ i % 256)]) (xs := [.tmp 16]) Try.underlying23 sz5 zr5 rfl rfl vb_cells rfl (by decide) (by decide) ?_)
      intro w1 ho1 hb1 he1 hs1
      rw [u8_mod] at ho1
      refine RL.op rfl rfl (op_append Try.underlying23 inf5 rfl vb_one (ho.ext he1) rfl ho1.sl rfl (by rw [put_length]; simp only [List.length_cons, List.length_nil]; omega) (by decide) (by have := hext.size; have := he1.size; omega) ?_)
      intro v3 w3 ho3 hm3 hk3
      have he3 : Ext w w3 := (hext.trans he1).then hm3 (fun x hx e => by have := (ho.lt _ e).1; omega)
      rw [← put_succ] at ho3
      refine RL.ev rfl rfl ev_assign ?_
      refine RL.nil ?_
      refine thenN ?_
      refine RW.region ?_
      refine RL.ev rfl rfl ev_move ?_
      refine RL.ev rfl rfl (ev_quo rfl rfl (by decide) (quo256 n i hdn)) ?_
      refine RL.ev rfl rfl ev_assign ?_
      refine RL.nil ?_
      refine blockN ?_
      refine thenN ?_
      refine RW.region ?_
      refine RL.ev rfl rfl ev_move ?_
      refine RL.ev rfl rfl (ev_arith rfl rfl rfl (add64 (by omega) (by omega))) ?_
      refine RL.ev rfl rfl ev_assign ?_
      refine RL.nil ?_
      refine thenN ?_
      exact ⟨k - 1, by omega, i + 1, v3, rfl, rfl, rfl, rfl, by omega, ho3, he3⟩
    · skip
      refine RW.exit ?_
      refine thenX ?_
      refine thenX ?_
      refine blockHit ?_
      refine thenN ?_
      refine RW.seq ?_
      refine RW.region ?_
      refine RL.ev rfl rfl ev_move ?_
      refine RL.ev rfl rfl ev_assign ?_
      refine RL.nil ?_
      refine thenN ?_
      refine RW.ret ?_
      refine retI (RV.tmp rfl) ?_
      refine ⟨?_, hext⟩
      rw [show i = kk by omega] at ho
      exact ho

set_option maxHeartbeats 4000000 in
set_option maxRecDepth 100000 in
/-- postroad/postroadref02.Ints -/
theorem refInts_calls (v : Value) (l : List Int) (w : World) (hv : Sl vi w v l) (hl : l.length * 8 ≤ 140737488351232) : Gives Try.prog 59 #[v] w fun r w' => Own vb 5 w' w.heap.size r (putInts l) ∧ Ext w w' := by
  refine Gives.start Try.func59 rfl (Nat.le_of_ble_eq_true rfl) ?_
  rw [args1]
  refine RW.seq ?_
  refine RW.region ?_
  refine RL.ev rfl rfl ev_assign ?_
  refine RL.nil ?_
  refine thenN ?_
  refine RW.seq ?_
  refine RW.region ?_
  refine RL.ev rfl rfl ev_move ?_
  refine RL.ev rfl rfl (ev_lenS Try.underlying36 hv rfl) ?_
  refine RL.ev rfl rfl (ev_conv Try.underlying3 Try.underlying39 rfl (wrap_u64n _ (by omega))) ?_
  refine RL.op rfl rfl (op_call2 Try.func30 rfl rfl rfl rfl ((refPut_calls l.length 4 _ (by omega)).mono ?_))
  rintro v1 w1 ⟨ho1, he1⟩
  rw [clip_4] at ho1
  refine RL.ev rfl rfl ev_assign ?_
  refine RL.nil ?_
  refine thenN ?_
  refine RW.seq ?_
  refine RW.seq ?_
  refine RW.region ?_
  refine RL.ev rfl rfl ev_assign ?_
  refine RL.nil ?_
  refine thenN ?_
  refine RW.block ?_
  refine RW.loop (fun k R w' => ∃ i : Nat, ∃ vo : Value, R 4 = .int .i64 (i : Int) ∧ R 3 = vo ∧ R 0 = v ∧ (i + k = l.length) ∧ (Own vb 5 w' w.heap.size vo (put l.length 4 ++ (l.take i).flatMap fun x => put (toU x) 8)) ∧ (Ext w w')) l.length ?_ ?_
  · exact ⟨0, v1, rfl, rfl, rfl, by omega, by simpa using ho1, he1⟩
  · rintro k R w' ⟨i, vo, hr4_, hr3_, hr0_, hik, ho, hext⟩
    have hR_ : ∃ R0, R = (upd (upd (upd R0 4 _) 3 _) 0 _) := ⟨R, by rw [upd_self hr4_, upd_self hr3_, upd_self hr0_]⟩
    obtain ⟨R0, rfl⟩ := hR_
    clear hr4_ hr3_ hr0_
    refine RW.seq ?_
    refine RW.seq ?_
    refine RW.region ?_
    refine RL.ev rfl rfl ev_move ?_
    refine RL.ev rfl rfl ev_move ?_
    refine RL.ev rfl rfl (ev_lenS Try.underlying36 (hv.ext hext) rfl) ?_
    refine RL.ev rfl rfl (ev_lss rfl rfl) ?_
    refine RL.nil ?_
    refine thenN ?_
    refine RW.condP _ rfl (fun hlt => ?_) (fun hlt => ?_)
    · skip
      refine RW.skip ?_
      refine thenN ?_
      refine RW.seq ?_
      refine RW.block ?_
      refine RW.region ?_
      refine RL.ev rfl rfl ev_move ?_
      refine RL.ev rfl rfl ev_move ?_
      refine RL.ev rfl rfl ev_move ?_
      refine RL.ev rfl rfl (ev_index Try.underlying36 sz3 (hv.ext hext) rfl rfl (by omega) (by omega)) ?_
      refine RL.ev rfl rfl (ev_loadS Try.underlying3 rfl (hv.ext hext) rfl (by omega)) ?_
      refine RL.ev rfl rfl (ev_conv Try.underlying3 Try.underlying39 rfl (wrap_u64 _)) ?_
      refine RL.op rfl rfl (op_call2 Try.func30 rfl rfl rfl rfl ((refPut_calls (toU (l[(i : Int).toNat]'(by omega))) 8 _ (toU_lt _)).mono ?_))
      rintro v2 w2 ⟨ho2, he2⟩
      rw [clip_8] at ho2
      refine RL.op rfl rfl (op_append Try.underlying23 inf5 rfl vb_one (ho.ext he2) rfl ho2.sl rfl (by simp only [List.length_append, put_length]; rw [flat_length]; simp only [List.length_take]; omega) (by decide) (by have := hext.size; have := he2.size; omega) ?_)
      intro v3 w3 ho3 hm3 hk3
      have he3 : Ext w w3 := (hext.trans he2).then hm3 (fun x hx e => by have := (ho.lt _ e).1; omega)
      refine RL.ev rfl rfl ev_assign ?_
      refine RL.nil ?_
      refine blockN ?_
      refine thenN ?_
      refine RW.region ?_
      refine RL.ev rfl rfl ev_move ?_
      refine RL.ev rfl rfl (ev_arith rfl rfl rfl (add64 (by omega) (by omega))) ?_
      refine RL.ev rfl rfl ev_assign ?_
      refine RL.nil ?_
      refine thenN ?_
      refine ⟨k - 1, by omega, i + 1, v3, rfl, rfl, rfl, by omega, ?_, he3⟩
      rw [flat_snoc l i (by omega), ← List.append_assoc]
      simpa using ho3
    · skip
      refine RW.exit ?_
      refine thenX ?_
      refine thenX ?_
      refine blockHit ?_
      refine thenN ?_
      refine RW.seq ?_
      refine RW.region ?_
      refine RL.ev rfl rfl ev_move ?_
      refine RL.ev rfl rfl ev_assign ?_
      refine RL.nil ?_
      refine thenN ?_
      refine RW.ret ?_
      refine retI (RV.tmp rfl) ?_
      refine ⟨?_, hext⟩
      rw [List.take_of_length_le (by omega)] at ho
      exact ho

set_option maxHeartbeats 4000000 in
set_option maxRecDepth 100000 in
/-- postroad/postroadref02.Text -/
theorem refText_calls (s : List UInt8) (w : World) (hl : s.length ≤ 140737488351232) : Gives Try.prog 49 #[str s] w fun r w' => Own vb 5 w' w.heap.size r (putText s) ∧ Ext w w' := by
  refine Gives.start Try.func49 rfl (Nat.le_of_ble_eq_true rfl) ?_
  rw [args1]
  refine RW.seq ?_
  refine RW.region ?_
  refine RL.ev rfl rfl ev_assign ?_
  refine RL.nil ?_
  refine thenN ?_
  refine RW.seq ?_
  refine RW.region ?_
  refine RL.ev rfl rfl ev_move ?_
  refine RL.ev rfl rfl (ev_lenS' Try.underlying9 rfl) ?_
  refine RL.ev rfl rfl (ev_conv Try.underlying3 Try.underlying39 rfl (wrap_u64n _ (by omega))) ?_
  refine RL.op rfl rfl (op_call2 Try.func30 rfl rfl rfl rfl ((refPut_calls s.length 4 _ (by omega)).mono ?_))
  rintro v1 w1 ⟨ho1, he1⟩
  rw [clip_4] at ho1
  refine RL.ev rfl rfl ev_assign ?_
  refine RL.nil ?_
  refine thenN ?_
  refine RW.seq ?_
  refine RW.region ?_
  refine RL.ev rfl rfl ev_move ?_
  refine RL.ev rfl rfl ev_move ?_
  refine RL.op rfl rfl (op_appendStr Try.underlying23 Try.underlying9 inf5 ho1 rfl rfl (by rw [put_length]; omega) he1.size ?_)
  intro v2 w2 ho2 hm2
  have he2 : Ext w w2 := he1.then hm2 (fun x hx e => by have := (ho1.lt _ e).1; omega)
  refine RL.ev rfl rfl ev_assign ?_
  refine RL.nil ?_
  refine thenN ?_
  refine RW.ret ?_
  refine retI (RV.tmp rfl) ?_
  refine ⟨?_, he2⟩
  exact ho2

set_option maxHeartbeats 4000000 in
set_option maxRecDepth 100000 in
/-- postroad/postroadref00.Same -/
theorem same_calls (a b : Value) (x y : List UInt8) (w : World) (ha : Sl vb w a x) (hb : Sl vb w b y) : Gives Try.prog 13 #[a, b] w fun r w' => r = .bool (decide (x = y)) ∧ w = w' := by
  refine Gives.start Try.func13 rfl (Nat.le_of_ble_eq_true rfl) ?_
  rw [args2]
  refine RW.seq ?_
  refine RW.region ?_
  refine RL.ev rfl rfl ev_assign ?_
  refine RL.nil ?_
  refine thenN ?_
  refine RW.seq ?_
  refine RW.region ?_
  refine RL.ev rfl rfl ev_move ?_
  refine RL.ev rfl rfl (ev_toStr Try.underlying23 Try.underlying5 Try.underlying9 ha rfl) ?_
  refine RL.ev rfl rfl ev_move ?_
  refine RL.ev rfl rfl (ev_toStr Try.underlying23 Try.underlying5 Try.underlying9 hb rfl) ?_
  refine RL.ev rfl rfl (ev_strEq rfl rfl) ?_
  refine RL.ev rfl rfl ev_assign ?_
  refine RL.nil ?_
  refine thenN ?_
  refine RW.ret ?_
  refine retI (RV.tmp rfl) ?_
  exact ⟨rfl, rfl⟩

theorem same_true {a b : Value} {x y : List UInt8} {w : World} (ha : Sl vb w a x) (hb : Sl vb w b y) (h : x = y) : Gives Try.prog 13 #[a, b] w fun r w' => r = .bool true ∧ w = w' :=
  (same_calls a b x y w ha hb).mono fun r w' hr => by rw [decide_eq_true h] at hr; exact hr
theorem same_false {a b : Value} {x y : List UInt8} {w : World} (ha : Sl vb w a x) (hb : Sl vb w b y) (h : ¬ x = y) : Gives Try.prog 13 #[a, b] w fun r w' => r = .bool false ∧ w = w' :=
  (same_calls a b x y w ha hb).mono fun r w' hr => by rw [decide_eq_false h] at hr; exact hr

set_option maxHeartbeats 4000000 in
set_option maxRecDepth 100000 in
/-- postroad/postroadref00.Copy -/
theorem copy_calls (v : Value) (l : List UInt8) (w : World) (hv : Sl vb w v l) (hl : l.length ≤ 140737488355328) : Gives Try.prog 27 #[v] w fun r w' => Own vb 5 w' w.heap.size r l ∧ Ext w w' := by
  refine Gives.start Try.func27 rfl (Nat.le_of_ble_eq_true rfl) ?_
  rw [args1]
  refine RW.seq ?_
  refine RW.region ?_
  refine RL.ev rfl rfl ev_assign ?_
  refine RL.nil ?_
  refine thenN ?_
  refine RW.seq ?_
  refine RW.region ?_
  refine RL.ev rfl rfl ev_assign ?_
  refine RL.nil ?_
  refine thenN ?_
  refine RW.seq ?_
  refine RW.region ?_
  refine RL.ev rfl rfl ev_move ?_
  refine RL.ev rfl rfl ev_move ?_
  refine RL.op rfl rfl (op_append (l := []) Try.underlying23 inf5 rfl vb_one (Own.nil vb 5 w w.heap.size) rfl hv rfl (by simp; omega) (by decide) (Nat.le_refl _) ?_)
  intro v1 w1 ho1 hm1 hk1
  rw [List.nil_append] at ho1
  have he1 : Ext w w1 := hm1.mono (by intro i _ h; cases h)
  refine RL.ev rfl rfl ev_assign ?_
  refine RL.nil ?_
  refine thenN ?_
  refine RW.ret ?_
  refine retI (RV.tmp rfl) ?_
  exact ⟨ho1, he1⟩

set_option maxHeartbeats 4000000 in
set_option maxRecDepth 100000 in
/-- postroad/postroadref00.SameInts -/
theorem sameInts_calls (a b : Value) (x y : List Int) (w : World) (ha : Sl vi w a x) (hb : Sl vi w b y) : Gives Try.prog 31 #[a, b] w fun r w' => r = .bool (decide (x = y)) ∧ Ext w w' := by
  refine Gives.start Try.func31 rfl (Nat.le_of_ble_eq_true rfl) ?_
  rw [args2]
  refine RW.seq ?_
  refine RW.region ?_
  have hlen := ha.len_le
  refine RL.ev rfl rfl ev_assign ?_
  refine RL.nil ?_
  refine thenN ?_
  refine RW.seq ?_
  refine RW.seq ?_
  refine RW.region ?_
  refine RL.ev rfl rfl ev_move ?_
  refine RL.ev rfl rfl (ev_lenS Try.underlying36 ha rfl) ?_
  refine RL.ev rfl rfl ev_move ?_
  refine RL.ev rfl rfl (ev_lenS Try.underlying36 hb rfl) ?_
  refine RL.ev rfl rfl (ev_neq rfl rfl) ?_
  refine RL.nil ?_
  refine thenN ?_
  refine RW.condP _ rfl (fun hne => ?_) (fun hne => ?_)
  · skip
    refine RW.seq ?_
    refine RW.region ?_
    refine RL.ev rfl rfl ev_assign ?_
    refine RL.nil ?_
    refine thenN ?_
    refine RW.ret ?_
    refine thenR ?_
    refine retI (RV.tmp rfl) ?_
    refine ⟨?_, Mod.refl _ _⟩
    rw [decide_eq_false (fun e : x = y => hne (by rw [e]))]; rfl
  · skip
    refine RW.skip ?_
    refine thenN ?_
    refine RW.seq ?_
    refine RW.seq ?_
    refine RW.region ?_
    have hxy : x.length = y.length := by omega
    refine RL.ev rfl rfl ev_assign ?_
    refine RL.nil ?_
    refine thenN ?_
    refine RW.block ?_
    refine RW.loop (fun k R w' => ∃ i : Nat, R 5 = .int .i64 (i : Int) ∧ R 0 = a ∧ R 1 = b ∧ (i + k = x.length) ∧ (x.take i = y.take i) ∧ (Ext w w')) x.length ?_ ?_
    · exact ⟨0, rfl, rfl, rfl, by omega, by simp, Mod.refl _ _⟩
    · rintro k R w' ⟨i, hr5_, hr0_, hr1_, hik, htk, hext⟩
      have hR_ : ∃ R0, R = (upd (upd (upd R0 5 _) 0 _) 1 _) := ⟨R, by rw [upd_self hr5_, upd_self hr0_, upd_self hr1_]⟩
      obtain ⟨R0, rfl⟩ := hR_
      clear hr5_ hr0_ hr1_
      refine RW.seq ?_
      refine RW.seq ?_
      refine RW.region ?_
      refine RL.ev rfl rfl ev_move ?_
      refine RL.ev rfl rfl ev_move ?_
      refine RL.ev rfl rfl (ev_lenS Try.underlying36 (ha.ext hext) rfl) ?_
      refine RL.ev rfl rfl (ev_lss rfl rfl) ?_
      refine RL.nil ?_
      refine thenN ?_
      refine RW.condP _ rfl (fun hlt => ?_) (fun hlt => ?_)
      · skip
        refine RW.skip ?_
        refine thenN ?_
        refine RW.seq ?_
        refine RW.block ?_
        refine RW.seq ?_
        refine RW.draw rfl (fun u => Ext w u) ?_
        have hS : Ext w w'.drew := hext.trans (Ext.drew w')
        refine RA.take (i := 0) rfl rfl (by kernel_rfl) (by kernel_rfl) (by kernel_rfl) (by intro _ _ _ h; exact h) rfl hS (fun w hS => ev_move) ?_
        refine RA.take (i := 1) rfl rfl (by kernel_rfl) (by kernel_rfl) (by kernel_rfl) (by intro _ _ _ h; exact h) rfl hS (fun w hS => ev_move) ?_
        refine RA.take (i := 2) rfl rfl (by kernel_rfl) (by kernel_rfl) (by kernel_rfl) (by intro _ _ _ h; exact h) rfl hS (fun w hS => (ev_index Try.underlying36 sz3 (ha.ext hS) rfl rfl (by omega) (by omega))) ?_
        refine RA.take (i := 3) rfl rfl (by kernel_rfl) (by kernel_rfl) (by kernel_rfl) (by intro _ _ _ h; exact h) rfl hS (fun w hS => (ev_loadS (m := (i : Int).toNat) Try.underlying3 rfl (ha.ext hS) rfl (by omega))) ?_
        refine RA.take (i := 4) rfl rfl (by kernel_rfl) (by kernel_rfl) (by kernel_rfl) (by intro _ _ _ h; exact h) rfl hS (fun w hS => ev_move) ?_
        refine RA.take (i := 5) rfl rfl (by kernel_rfl) (by kernel_rfl) (by kernel_rfl) (by intro _ _ _ h; exact h) rfl hS (fun w hS => ev_move) ?_
        refine RA.take (i := 6) rfl rfl (by kernel_rfl) (by kernel_rfl) (by kernel_rfl) (by intro _ _ _ h; exact h) rfl hS (fun w hS => (ev_index Try.underlying36 sz3 (hb.ext hS) rfl rfl (by omega) (by omega))) ?_
        refine RA.take (i := 7) rfl rfl (by kernel_rfl) (by kernel_rfl) (by kernel_rfl) (by intro _ _ _ h; exact h) rfl hS (fun w hS => (ev_loadS (m := (i : Int).toNat) Try.underlying3 rfl (hb.ext hS) rfl (by omega))) ?_
        refine RA.take (i := 8) rfl rfl (by kernel_rfl) (by kernel_rfl) (by kernel_rfl) (by intro _ _ _ h; exact h) rfl hS (fun w hS => (ev_neq rfl rfl)) ?_
        refine RA.done (by kernel_rfl) ?_
        refine thenN ?_
        refine RW.condP _ rfl (fun hne2 => ?_) (fun hne2 => ?_)
        · skip
          refine RW.seq ?_
          refine RW.region ?_
          refine RL.ev rfl rfl ev_assign ?_
          refine RL.nil ?_
          refine thenN ?_
          refine RW.ret ?_
          refine blockR ?_
          refine thenR ?_
          refine thenR ?_
          refine blockR ?_
          refine thenR ?_
          refine retI (RV.tmp rfl) ?_
          refine ⟨?_, hS⟩
          rw [decide_eq_false (fun e : x = y => hne2 (by subst e; rfl))]; rfl
        · skip
          refine RW.skip ?_
          refine blockN ?_
          refine thenN ?_
          refine RW.region ?_
          refine RL.ev rfl rfl ev_move ?_
          refine RL.ev rfl rfl (ev_arith rfl rfl rfl (add64 (by omega) (by omega))) ?_
          refine RL.ev rfl rfl ev_assign ?_
          refine RL.nil ?_
          refine thenN ?_
          refine ⟨k - 1, by omega, i + 1, rfl, rfl, rfl, by omega, ?_, hS⟩
          rw [List.take_succ_eq_append_getElem (show i < x.length by omega), List.take_succ_eq_append_getElem (show i < y.length by omega), htk]
          simp only [Int.toNat_natCast, Decidable.not_not] at hne2
          rw [hne2]
      · skip
        refine RW.exit ?_
        refine thenX ?_
        refine thenX ?_
        refine blockHit ?_
        refine thenN ?_
        refine RW.seq ?_
        refine RW.region ?_
        refine RL.ev rfl rfl ev_assign ?_
        refine RL.nil ?_
        refine thenN ?_
        refine RW.ret ?_
        refine retI (RV.tmp rfl) ?_
        refine ⟨?_, hext⟩
        rw [List.take_of_length_le (by omega), List.take_of_length_le (by omega)] at htk
        rw [decide_eq_true htk]; rfl

theorem sameInts_true {a b : Value} {x y : List Int} {w : World} (ha : Sl vi w a x) (hb : Sl vi w b y) (h : x = y) : Gives Try.prog 31 #[a, b] w fun r w' => r = .bool true ∧ Ext w w' :=
  (sameInts_calls a b x y w ha hb).mono fun r w' hr => by rw [decide_eq_true h] at hr; exact hr
theorem sameInts_false {a b : Value} {x y : List Int} {w : World} (ha : Sl vi w a x) (hb : Sl vi w b y) (h : ¬ x = y) : Gives Try.prog 31 #[a, b] w fun r w' => r = .bool false ∧ Ext w w' :=
  (sameInts_calls a b x y w ha hb).mono fun r w' hr => by rw [decide_eq_false h] at hr; exact hr

end Go.Proofs.Ytihchogjmgbipaa
