import Derived.Test.YtihchogjmgbipaaFacts
import Derived.Test.YtihchogjmgbipaaCodecBits
set_option linter.unusedVariables false
set_option linter.unusedSimpArgs false
namespace Go.Proofs.Ytihchogjmgbipaa
open Go.RowKit Go.Rl

open Go.Codec
set_option maxHeartbeats 4000000 in
set_option maxRecDepth 100000 in
/-- postroad/codec.clip -/
theorem clip_calls (wide : Int) (w : World) : Gives Try.prog 53 #[vi wide] w fun r w' => r = vi (clip wide : Nat) ∧ w = w' := by
  refine Gives.start Try.func53 rfl (Nat.le_of_ble_eq_true rfl) ?_
  rw [args1]
  refine RW.seq ?_
  refine RW.region ?_
  refine RL.ev rfl rfl ev_assign ?_
  refine RL.nil ?_
  refine thenN ?_
  refine RW.seq ?_
  refine RW.region ?_
  refine RL.ev rfl rfl ev_move ?_
  refine RL.ev rfl rfl (ev_min rfl rfl) ?_
  refine RL.ev rfl rfl (ev_max rfl rfl) ?_
  refine RL.ev rfl rfl ev_assign ?_
  refine RL.nil ?_
  refine thenN ?_
  refine RW.ret ?_
  refine retI (RV.tmp rfl) ?_
  refine ⟨?_, rfl⟩
  show Value.int .i64 (max 0 (min wide 8)) = _
  unfold clip vi; congr 1; omega

set_option maxHeartbeats 4000000 in
set_option maxRecDepth 100000 in
/-- postroad/codec.Put -/
theorem put_calls (n : Nat) (wide : Int) (w : World) (hn : n < 18446744073709551616) : Gives Try.prog 40 #[.int .u64 (n : Int), vi wide] w fun r w' => Own vb 5 w' w.heap.size r (put n (clip wide)) ∧ Ext w w' := by
  refine Gives.start Try.func40 rfl (Nat.le_of_ble_eq_true rfl) ?_
  rw [args2]
  refine RW.seq ?_
  refine RW.region ?_
  refine RL.ev rfl rfl ev_assign ?_
  refine RL.nil ?_
  refine thenN ?_
  refine RW.seq ?_
  refine RW.region ?_
  refine RL.ev rfl rfl ev_move ?_
  refine RL.op rfl rfl (op_call1 Try.func53 rfl rfl rfl ((clip_calls wide _).mono ?_))
  rintro _ _ ⟨rfl, rfl⟩
  have hc8 := clip_le wide
  generalize hk : clip wide = kk at hc8
  refine RL.op rfl rfl (op_make (enc := vb) (z := 0) Try.underlying23 inf5 rfl rfl (by omega) (by omega) (by omega) ?_)
  intro w1 ho1 hb1 he1 hs1
  simp only [Int.toNat_natCast] at ho1 hb1 ⊢
  rw [← putPart_zero n] at ho1
  refine RL.ev rfl rfl ev_assign ?_
  refine RL.nil ?_
  refine thenN ?_
  refine RW.seq ?_
  refine RW.seq ?_
  refine RW.region ?_
  refine RL.ev rfl rfl ev_move ?_
  refine RL.ev rfl rfl (ev_lenS Try.underlying23 ho1.sl rfl) ?_
  rw [putPart_length]
  refine RL.ev rfl rfl ev_move ?_
  refine RL.nil ?_
  refine thenN ?_
  refine RW.block ?_
  refine RW.loop (fun k R w' => ∃ i : Nat, R 12 = .int .i64 (i : Int) ∧ R 11 = .int .i64 (kk : Int) ∧ R 0 = .int .u64 (n : Int) ∧ R 5 = .slice (some ⟨w.heap.size, 0, none⟩) kk kk ∧ (i + k = kk) ∧ (Own vb 5 w' w.heap.size (.slice (some ⟨w.heap.size, 0, none⟩) kk kk) (putPart n kk i)) ∧ (Ext w w')) kk ?_ ?_
  · exact ⟨0, rfl, rfl, rfl, rfl, by omega, ho1, he1⟩
  · rintro k R w' ⟨i, hr12_, hr11_, hr0_, hr5_, hik, ho, hext⟩
    have hR_ : ∃ R0, R = (upd (upd (upd (upd R0 12 _) 11 _) 0 _) 5 _) := ⟨R, by rw [upd_self hr12_, upd_self hr11_, upd_self hr0_, upd_self hr5_]⟩
    obtain ⟨R0, rfl⟩ := hR_
    clear hr12_ hr11_ hr0_ hr5_
    refine RW.seq ?_
    refine RW.region ?_
    refine RL.ev rfl rfl (ev_lss rfl rfl) ?_
    refine RL.nil ?_
    refine thenN ?_
    refine RW.seq ?_
    refine RW.condP _ rfl (fun hlt => ?_) (fun hlt => ?_)
    · skip
      refine RW.skip ?_
      refine thenN ?_
      refine RW.seq ?_
      refine RW.block ?_
      refine RW.seq ?_
      refine RW.region ?_
      refine RL.ev rfl rfl ev_move ?_
      refine RL.ev rfl rfl ev_assign ?_
      refine RL.nil ?_
      refine thenN ?_
      refine RW.region ?_
      refine RL.ev rfl rfl ev_move ?_
      refine RL.ev rfl rfl ev_move ?_
      refine RL.ev rfl rfl ev_move ?_
      refine RL.ev rfl rfl ev_move ?_
      refine RL.ev rfl rfl (ev_arith rfl rfl rfl (mul64 (by omega) (by omega))) ?_
      refine RL.ev rfl rfl (ev_shr rfl rfl (by omega) (shr_byte n i (by omega))) ?_
      refine RL.ev rfl rfl (ev_conv Try.underlying39 Try.underlying5 rfl (wrap_u8n _)) ?_
      refine RL.ev rfl rfl (ev_index Try.underlying23 sz5 ho.sl rfl rfl (by omega) (by rw [putPart_length]; omega)) ?_
      refine RL.op rfl rfl (op_storeOwn (a := UInt8.ofNat (n / 256 ^ i)) sz5 ho rfl (by rw [putPart_length]; omega) rfl rfl rfl rfl ?_)
      intro w2 ho2 hm2 hs2
      rw [Int.toNat_natCast, ← putPart_succ] at ho2
      have he2 : Ext w w2 := hext.then hm2 (fun x hx e => by have := (ho.lt _ e).1; omega)
      refine RL.nil ?_
      refine blockN ?_
      refine thenN ?_
      refine RW.region ?_
      refine RL.ev rfl rfl (ev_arith rfl rfl rfl (add64 (by omega) (by omega))) ?_
      refine RL.ev rfl rfl ev_move ?_
      refine RL.nil ?_
      refine thenN ?_
      exact ⟨k - 1, by omega, i + 1, rfl, rfl, rfl, rfl, by omega, ho2, he2⟩
    · skip
      refine RW.exit ?_
      refine thenX ?_
      refine thenX ?_
      refine blockHit ?_
      refine thenN ?_
      refine RW.seq ?_
      refine RW.region ?_
      refine RL.ev rfl rfl ev_move ?_
      refine RL.ev rfl rfl ev_assign ?_
      refine RL.nil ?_
      refine thenN ?_
      refine RW.ret ?_
      refine retI (RV.tmp rfl) ?_
      refine ⟨?_, hext⟩
      have hi : i = kk := by omega
      subst hi
      rw [putPart_full] at ho
      exact ho

set_option maxHeartbeats 4000000 in
set_option maxRecDepth 100000 in
/-- postroad/codec.Ints -/
theorem ints_calls (v : Value) (l : List Int) (w : World) (hv : Sl vi w v l) (hl : l.length * 8 ≤ 140737488351232) : Gives Try.prog 43 #[v] w fun r w' => Own vb 5 w' w.heap.size r (putInts l) ∧ Ext w w' := by
  refine Gives.start Try.func43 rfl (Nat.le_of_ble_eq_true rfl) ?_
  rw [args1]
  refine RW.seq ?_
  refine RW.region ?_
  refine RL.ev rfl rfl ev_assign ?_
  refine RL.nil ?_
  refine thenN ?_
  refine RW.seq ?_
  refine RW.region ?_
  refine RL.ev rfl rfl ev_move ?_
  refine RL.ev rfl rfl (ev_lenS Try.underlying36 hv rfl) ?_
  refine RL.ev rfl rfl (ev_conv Try.underlying3 Try.underlying39 rfl (wrap_u64n _ (by omega))) ?_
  refine RL.op rfl rfl (op_call2 Try.func40 rfl rfl rfl rfl ((put_calls l.length 4 _ (by omega)).mono ?_))
  rintro v1 w1 ⟨ho1, he1⟩
  rw [clip_4] at ho1
  refine RL.ev rfl rfl ev_assign ?_
  refine RL.nil ?_
  refine thenN ?_
  refine RW.seq ?_
  refine RW.seq ?_
  refine RW.region ?_
  refine RL.ev rfl rfl ev_move ?_
  refine RL.ev rfl rfl (ev_lenS Try.underlying36 (hv.ext he1) rfl) ?_
  refine RL.ev rfl rfl ev_move ?_
  refine RL.nil ?_
  refine thenN ?_
  refine RW.block ?_
  refine RW.loop (fun k R w' => ∃ i : Nat, ∃ vo : Value, R 12 = .int .i64 (i : Int) ∧ R 11 = .int .i64 (l.length : Int) ∧ R 10 = v ∧ R 3 = vo ∧ (i + k = l.length) ∧ (Own vb 5 w' w.heap.size vo (put l.length 4 ++ (l.take i).flatMap fun x => put (toU x) 8)) ∧ (Ext w w')) l.length ?_ ?_
  · exact ⟨0, v1, rfl, rfl, rfl, rfl, by omega, by simpa using ho1, he1⟩
  · rintro k R w' ⟨i, vo, hr12_, hr11_, hr10_, hr3_, hik, ho, hext⟩
    have hR_ : ∃ R0, R = (upd (upd (upd (upd R0 12 _) 11 _) 10 _) 3 _) := ⟨R, by rw [upd_self hr12_, upd_self hr11_, upd_self hr10_, upd_self hr3_]⟩
    obtain ⟨R0, rfl⟩ := hR_
    clear hr12_ hr11_ hr10_ hr3_
    refine RW.seq ?_
    refine RW.region ?_
    refine RL.ev rfl rfl (ev_lss rfl rfl) ?_
    refine RL.nil ?_
    refine thenN ?_
    refine RW.seq ?_
    refine RW.condP _ rfl (fun hlt => ?_) (fun hlt => ?_)
    · skip
      refine RW.skip ?_
      refine thenN ?_
      refine RW.seq ?_
      refine RW.block ?_
      refine RW.seq ?_
      refine RW.region ?_
      refine RL.ev rfl rfl (ev_index Try.underlying36 sz3 (hv.ext hext) rfl rfl (by omega) (by omega)) ?_
      refine RL.ev rfl rfl (ev_loadS Try.underlying3 rfl (hv.ext hext) rfl (by omega)) ?_
      refine RL.ev rfl rfl ev_assign ?_
      refine RL.nil ?_
      refine thenN ?_
      refine RW.region ?_
      refine RL.ev rfl rfl ev_move ?_
      refine RL.ev rfl rfl ev_move ?_
      refine RL.ev rfl rfl (ev_conv Try.underlying3 Try.underlying39 rfl (wrap_u64 _)) ?_
      refine RL.op rfl rfl (op_call2 Try.func40 rfl rfl rfl rfl ((put_calls (toU (l[(i : Int).toNat]'(by omega))) 8 _ (toU_lt _)).mono ?_))
      rintro v2 w2 ⟨ho2, he2⟩
      rw [clip_8] at ho2
      refine RL.op rfl rfl (op_append Try.underlying23 inf5 rfl vb_one (ho.ext he2) rfl ho2.sl rfl (by simp only [List.length_append, put_length]; rw [flat_length]; simp only [List.length_take]; omega) (by decide) (by have := hext.size; have := he2.size; omega) ?_)
      intro v3 w3 ho3 hm3 hk3
      have he3 : Ext w w3 := (hext.trans he2).then hm3 (fun x hx e => by have := (ho.lt _ e).1; omega)
      refine RL.ev rfl rfl ev_assign ?_
      refine RL.nil ?_
      refine blockN ?_
      refine thenN ?_
      refine RW.region ?_
      refine RL.ev rfl rfl (ev_arith rfl rfl rfl (add64 (by omega) (by omega))) ?_
      refine RL.ev rfl rfl ev_move ?_
      refine RL.nil ?_
      refine thenN ?_
      refine ⟨k - 1, by omega, i + 1, v3, rfl, rfl, rfl, rfl, by omega, ?_, he3⟩
      rw [flat_snoc l i (by omega), ← List.append_assoc]
      simpa using ho3
    · skip
      refine RW.exit ?_
      refine thenX ?_
      refine thenX ?_
      refine blockHit ?_
      refine thenN ?_
      refine RW.seq ?_
      refine RW.region ?_
      refine RL.ev rfl rfl ev_move ?_
      refine RL.ev rfl rfl ev_assign ?_
      refine RL.nil ?_
      refine thenN ?_
      refine RW.ret ?_
      refine retI (RV.tmp rfl) ?_
      refine ⟨?_, hext⟩
      rw [List.take_of_length_le (by omega)] at ho
      exact ho

set_option maxHeartbeats 4000000 in
set_option maxRecDepth 100000 in
/-- postroad/codec.Text -/
theorem text_calls (s : List UInt8) (w : World) (hl : s.length ≤ 140737488351232) : Gives Try.prog 29 #[str s] w fun r w' => Own vb 5 w' w.heap.size r (putText s) ∧ Ext w w' := by
  refine Gives.start Try.func29 rfl (Nat.le_of_ble_eq_true rfl) ?_
  rw [args1]
  refine RW.seq ?_
  refine RW.region ?_
  refine RL.ev rfl rfl ev_assign ?_
  refine RL.nil ?_
  refine thenN ?_
  refine RW.seq ?_
  refine RW.region ?_
  refine RL.ev rfl rfl ev_move ?_
  refine RL.ev rfl rfl (ev_lenS' Try.underlying9 rfl) ?_
  refine RL.ev rfl rfl (ev_conv Try.underlying3 Try.underlying39 rfl (wrap_u64n _ (by omega))) ?_
  refine RL.op rfl rfl (op_call2 Try.func40 rfl rfl rfl rfl ((put_calls s.length 4 _ (by omega)).mono ?_))
  rintro v1 w1 ⟨ho1, he1⟩
  rw [clip_4] at ho1
  refine RL.ev rfl rfl ev_move ?_
  refine RL.op rfl rfl (op_appendStr Try.underlying23 Try.underlying9 inf5 ho1 rfl rfl (by rw [put_length]; omega) he1.size ?_)
  intro v2 w2 ho2 hm2
  have he2 : Ext w w2 := he1.then hm2 (fun x hx e => by have := (ho1.lt _ e).1; omega)
  refine RL.ev rfl rfl ev_assign ?_
  refine RL.nil ?_
  refine thenN ?_
  refine RW.ret ?_
  refine retI (RV.tmp rfl) ?_
  refine ⟨?_, he2⟩
  exact ho2

end Go.Proofs.Ytihchogjmgbipaa
