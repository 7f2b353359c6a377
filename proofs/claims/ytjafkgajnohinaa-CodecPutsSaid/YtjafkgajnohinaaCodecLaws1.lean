import Derived.Test.YtjafkgajnohinaaCodecW3
set_option linter.unusedVariables false
set_option linter.unusedSimpArgs false
namespace Go.Proofs.Ytjafkgajnohinaa
open Go.RowKit Go.Rl

open Go.Codec
set_option maxHeartbeats 4000000 in
set_option maxRecDepth 100000 in
/-- postroad/postroadlaw02.CodecPuts -/
theorem codecPuts_calls (n wide : Int) (v : Value) (l : List Int) (s : List UInt8) (w : World) (hn0 : 0 ≤ n) (hn1 : n < 18446744073709551616) (hv : Sl vi w v l) (hs : s.length ≤ 140737488351232) : Gives Try.prog 3 #[.int .u64 n, vi wide, v, str s] w fun r w' => r = .bool true ∧ Ext w w' := by
  obtain ⟨N, rfl⟩ : ∃ N : Nat, n = N := ⟨n.toNat, by omega⟩
  refine Gives.start Try.func3 rfl (Nat.le_of_ble_eq_true rfl) ?_
  rw [args4]
  refine RW.seq ?_
  refine RW.region ?_
  have hlen := hv.len_le
  refine RL.ev rfl rfl ev_assign ?_
  refine RL.nil ?_
  refine thenN ?_
  refine RW.seq ?_
  refine RW.seq ?_
  rcases (show (200 < (l.length : Int)) ∨ (¬ 200 < (l.length : Int) ∧ 1000 < (s.length : Int)) ∨ (¬ 200 < (l.length : Int) ∧ ¬ 1000 < (s.length : Int)) by omega) with hc | hc | hc
  · skip
    refine RW.region ?_
    refine RL.ev rfl rfl ev_move ?_
    refine RL.ev rfl rfl (ev_lenS Try.underlying23 hv rfl) ?_
    refine RL.ev rfl rfl (ev_true (ev_gtr rfl rfl) hc) ?_
    refine RL.ev rfl rfl ev_move ?_
    refine RL.off rfl rfl (by decide) rfl rfl ?_
    refine RL.off rfl rfl (by decide) rfl rfl ?_
    refine RL.off rfl rfl (by decide) rfl rfl ?_
    refine RL.ev rfl rfl (ev_pickT rfl) ?_
    refine RL.nil ?_
    refine thenN ?_
    refine RW.condT rfl ?_
    refine RW.seq ?_
    refine RW.region ?_
    refine RL.op rfl rfl (op_call0 Try.func9 rfl rfl ((known_calls _).mono ?_))
    rintro _ wk ⟨rfl, hek⟩
    refine RL.ev rfl rfl ev_assign ?_
    refine RL.nil ?_
    refine thenN ?_
    refine RW.ret ?_
    refine thenR ?_
    refine retI (RV.tmp rfl) ?_
    exact ⟨rfl, hek⟩
  · skip
    refine RW.region ?_
    refine RL.ev rfl rfl ev_move ?_
    refine RL.ev rfl rfl (ev_lenS Try.underlying23 hv rfl) ?_
    refine RL.ev rfl rfl (ev_false (ev_gtr rfl rfl) hc.1) ?_
    refine RL.ev rfl rfl ev_move ?_
    refine RL.onEv rfl rfl (by decide) rfl rfl ev_move ?_
    refine RL.onEv rfl rfl (by decide) rfl rfl (ev_lenS' Try.underlying9 rfl) ?_
    refine RL.onEv rfl rfl (by decide) rfl rfl (ev_true (ev_gtr rfl rfl) hc.2) ?_
    refine RL.ev rfl rfl (ev_pickF rfl) ?_
    refine RL.nil ?_
    refine thenN ?_
    refine RW.condT rfl ?_
    refine RW.seq ?_
    refine RW.region ?_
    refine RL.op rfl rfl (op_call0 Try.func9 rfl rfl ((known_calls _).mono ?_))
    rintro _ wk ⟨rfl, hek⟩
    refine RL.ev rfl rfl ev_assign ?_
    refine RL.nil ?_
    refine thenN ?_
    refine RW.ret ?_
    refine thenR ?_
    refine retI (RV.tmp rfl) ?_
    exact ⟨rfl, hek⟩
  · skip
    refine RW.region ?_
    refine RL.ev rfl rfl ev_move ?_
    refine RL.ev rfl rfl (ev_lenS Try.underlying23 hv rfl) ?_
    refine RL.ev rfl rfl (ev_false (ev_gtr rfl rfl) hc.1) ?_
    refine RL.ev rfl rfl ev_move ?_
    refine RL.onEv rfl rfl (by decide) rfl rfl ev_move ?_
    refine RL.onEv rfl rfl (by decide) rfl rfl (ev_lenS' Try.underlying9 rfl) ?_
    refine RL.onEv rfl rfl (by decide) rfl rfl (ev_false (ev_gtr rfl rfl) hc.2) ?_
    refine RL.ev rfl rfl (ev_pickF rfl) ?_
    refine RL.nil ?_
    refine thenN ?_
    refine RW.condF rfl ?_
    refine RW.skip ?_
    refine thenN ?_
    refine RW.seq ?_
    refine RW.region ?_
    refine RL.ev rfl rfl ev_move ?_
    refine RL.ev rfl rfl ev_move ?_
    refine RL.op rfl rfl (op_call2 Try.func11 rfl rfl rfl rfl ((put_calls N wide _ (by omega)).mono ?_))
    rintro a w1 ⟨o_a, he1⟩
    have hz1 := he1.size
    have hE1 := he1
    have b_o_a := o_a.lt
    refine RL.ev rfl rfl ev_move ?_
    refine RL.ev rfl rfl ev_move ?_
    refine RL.op rfl rfl (op_call2 Try.func12 rfl rfl rfl rfl ((refPut_calls N wide _ (by omega)).mono ?_))
    rintro b w2 ⟨o_b, he2⟩
    have hz2 := he2.size
    have hE2 := hE1.trans he2
    replace o_a := o_a.ext he2
    have b_o_b := o_b.lt
    refine RL.op rfl rfl (op_call2 Try.func10 rfl rfl rfl rfl ((same_true o_a.sl o_b.sl rfl).mono ?_))
    rintro _ _ ⟨rfl, rfl⟩
    refine RL.ev rfl rfl ev_move ?_
    refine RL.onEv rfl rfl (by decide) rfl rfl ev_move ?_
    refine RL.on rfl rfl (by decide) rfl rfl (op_call1 Try.func13 rfl rfl rfl ((ints_calls v l _ (hv.ext hE2) (by omega)).mono ?_))
    rintro c w3 ⟨o_c, he3⟩
    have hz3 := he3.size
    have hE3 := hE2.trans he3
    replace o_a := o_a.ext he3
    replace o_b := o_b.ext he3
    have b_o_c := o_c.lt
    refine RL.onEv rfl rfl (by decide) rfl rfl ev_move ?_
    refine RL.on rfl rfl (by decide) rfl rfl (op_call1 Try.func14 rfl rfl rfl ((refInts_calls v l _ (hv.ext hE3) (by omega)).mono ?_))
    rintro d w4 ⟨o_d, he4⟩
    have hz4 := he4.size
    have hE4 := hE3.trans he4
    replace o_a := o_a.ext he4
    replace o_b := o_b.ext he4
    replace o_c := o_c.ext he4
    have b_o_d := o_d.lt
    refine RL.on rfl rfl (by decide) rfl rfl (op_call2 Try.func10 rfl rfl rfl rfl ((same_true o_c.sl o_d.sl rfl).mono ?_))
    rintro _ _ ⟨rfl, rfl⟩
    refine RL.ev rfl rfl (ev_pickT rfl) ?_
    refine RL.ev rfl rfl ev_move ?_
    refine RL.onEv rfl rfl (by decide) rfl rfl ev_move ?_
    refine RL.on rfl rfl (by decide) rfl rfl (op_call1 Try.func15 rfl rfl rfl ((text_calls s _ (by omega)).mono ?_))
    rintro e w5 ⟨o_e, he5⟩
    have hz5 := he5.size
    have hE5 := hE4.trans he5
    replace o_a := o_a.ext he5
    replace o_b := o_b.ext he5
    replace o_c := o_c.ext he5
    replace o_d := o_d.ext he5
    have b_o_e := o_e.lt
    refine RL.onEv rfl rfl (by decide) rfl rfl ev_move ?_
    refine RL.on rfl rfl (by decide) rfl rfl (op_call1 Try.func16 rfl rfl rfl ((refText_calls s _ (by omega)).mono ?_))
    rintro f w6 ⟨o_f, he6⟩
    have hz6 := he6.size
    have hE6 := hE5.trans he6
    replace o_a := o_a.ext he6
    replace o_b := o_b.ext he6
    replace o_c := o_c.ext he6
    replace o_d := o_d.ext he6
    replace o_e := o_e.ext he6
    have b_o_f := o_f.lt
    refine RL.on rfl rfl (by decide) rfl rfl (op_call2 Try.func10 rfl rfl rfl rfl ((same_true o_e.sl o_f.sl rfl).mono ?_))
    rintro _ _ ⟨rfl, rfl⟩
    refine RL.ev rfl rfl (ev_pickT rfl) ?_
    refine RL.ev rfl rfl ev_move ?_
    refine RL.on rfl rfl (by decide) rfl rfl (op_call0 Try.func9 rfl rfl ((known_calls _).mono ?_))
    rintro _ wk ⟨rfl, hek⟩
    refine RL.ev rfl rfl (ev_pickT rfl) ?_
    refine RL.ev rfl rfl ev_assign ?_
    refine RL.nil ?_
    refine thenN ?_
    refine RW.ret ?_
    refine retI (RV.tmp rfl) ?_
    exact ⟨rfl, hE6.trans hek⟩

set_option maxHeartbeats 4000000 in
set_option maxRecDepth 100000 in
/-- postroad/postroadlaw02.CodecNums -/
theorem codecNums_calls (n b : Int) (w : World) (hn0 : 0 ≤ n) (hn1 : n < 18446744073709551616) (hb0 : 0 ≤ b) (hb1 : b < 256) : Gives Try.prog 4 #[.int .u64 n, .int .u8 b] w fun r w' => r = .bool true ∧ Ext w w' := by
  obtain ⟨N, rfl⟩ : ∃ N : Nat, n = N := ⟨n.toNat, by omega⟩
  refine Gives.start Try.func4 rfl (Nat.le_of_ble_eq_true rfl) ?_
  rw [args2]
  refine RW.seq ?_
  refine RW.region ?_
  refine RL.ev rfl rfl ev_assign ?_
  refine RL.nil ?_
  refine thenN ?_
  refine RW.seq ?_
  refine RW.region ?_
  refine RL.ev rfl rfl ev_move ?_
  refine RL.ev rfl rfl (ev_conv Try.underlying5 Try.underlying3 rfl (wrap_i64 (by omega) (by omega))) ?_
  refine RL.ev rfl rfl (ev_rem rfl rfl (by decide) (Int.tmod_eq_emod_of_nonneg hb0)) ?_
  obtain ⟨k, hk⟩ : ∃ k : Nat, b % 9 = (k : Int) := ⟨(b % 9).toNat, by omega⟩
  rw [hk]
  have hk8 : k ≤ 8 := by omega
  refine RL.ev rfl rfl ev_assign ?_
  refine RL.nil ?_
  refine thenN ?_
  refine RW.seq ?_
  refine RW.region ?_
  refine RL.ev rfl rfl ev_move ?_
  refine RL.ev rfl rfl ev_move ?_
  refine RL.op rfl rfl (op_call2 Try.func11 rfl rfl rfl rfl ((put_calls N k _ (by omega)).mono ?_))
  rintro a w1 ⟨o_a, he1⟩
  rw [clip_of k hk8] at o_a
  have hz1 := he1.size
  have hE1 := he1
  have b_o_a := o_a.lt
  refine RL.ev rfl rfl ev_assign ?_
  refine RL.nil ?_
  refine thenN ?_
  refine RW.seq ?_
  refine RW.region ?_
  refine RL.ev rfl rfl ev_move ?_
  refine RL.op rfl rfl (op_call1 Try.func17 rfl rfl rfl ((new_calls a _ _ o_a.sl (by rw [put_length]; omega)).mono ?_))
  rintro _ w2 ⟨g, rfl, r_g, he2⟩
  have hz2 := he2.size
  have hE2 := hE1.trans he2
  replace o_a := o_a.ext he2
  have b_r_g := r_g.lt
  refine RL.ev rfl rfl ev_assign ?_
  refine RL.nil ?_
  refine thenN ?_
  refine RW.seq ?_
  refine RW.region ?_
  refine RL.ev rfl rfl ev_move ?_
  refine RL.ev rfl rfl ev_move ?_
  refine RL.op rfl rfl (op_call2 Try.func18 rfl rfl rfl rfl ((num_calls _ _ g _ (k : Int) _ r_g).mono ?_))
  rintro _ w3 ⟨rfl, r_g, hm3, hs3⟩
  rw [clip_of k hk8, numR_all] at r_g ⊢
  have hz3 := hm3.size
  have hE3 := hE2.then hm3 (fun i hi e => by omega)
  replace o_a := o_a.mod hm3 (fun k hk e => by have := b_o_a k hk; omega)
  refine RL.ev rfl rfl ev_assign ?_
  refine RL.nil ?_
  refine thenN ?_
  refine RW.seq ?_
  refine RW.seq ?_
  refine RW.region ?_
  refine RL.ev rfl rfl ev_move ?_
  refine RL.ev rfl rfl (ev_lss rfl rfl) ?_
  refine RL.nil ?_
  refine thenN ?_
  refine RW.condP _ rfl (fun hlt => ?_) (fun hlt => ?_)
  · skip
    refine RW.region ?_
    refine RL.ev rfl rfl ev_move ?_
    refine RL.ev rfl rfl ev_move ?_
    refine RL.ev rfl rfl (ev_arith rfl rfl rfl (mul64 (by omega) (by omega))) ?_
    refine RL.ev rfl rfl (ev_conv Try.underlying3 Try.underlying35 rfl (wrap_u64n (8 * k) (by omega))) ?_
    refine RL.ev rfl rfl (ev_shl rfl rfl (by omega) (shl_one k (by omega))) ?_
    refine RL.ev rfl rfl (ev_rem rfl rfl (pow_ne k) (tmod_nat N (256 ^ k))) ?_
    refine RL.ev rfl rfl ev_assign ?_
    refine RL.nil ?_
    refine thenN ?_
    refine RW.seq ?_
    refine RW.region ?_
    refine RL.ev rfl rfl ev_move ?_
    refine RL.ev rfl rfl (ev_lenS Try.underlying26 o_a.sl rfl) ?_
    refine RL.ev rfl rfl ev_move ?_
    refine RL.ev rfl rfl (ev_true (ev_eql rfl rfl) (by rw [put_length])) ?_
    refine RL.ev rfl rfl ev_move ?_
    refine RL.onEv rfl rfl (by decide) rfl rfl ev_move ?_
    refine RL.onEv rfl rfl (by decide) rfl rfl ev_move ?_
    refine RL.onEv rfl rfl (by decide) rfl rfl (ev_true (ev_eql rfl rfl) (by first | rfl | (rw [show k = 8 by omega, mod8 N (by omega)]))) ?_
    refine RL.ev rfl rfl (ev_pickT rfl) ?_
    refine RL.ev rfl rfl ev_move ?_
    refine RL.onEv rfl rfl (by decide) rfl rfl ev_move ?_
    refine RL.on rfl rfl (by decide) rfl rfl (op_call1 Try.func19 rfl rfl rfl ((end_calls _ _ g _ _ r_g).mono ?_))
    rintro _ _ ⟨rfl, rfl⟩
    refine RL.onEv rfl rfl (by decide) rfl rfl (ev_true (ev_eql rfl rfl) rfl) ?_
    refine RL.ev rfl rfl (ev_pickT rfl) ?_
    refine RL.ev rfl rfl ev_move ?_
    refine RL.on rfl rfl (by decide) rfl rfl (op_call0 Try.func9 rfl rfl ((known_calls _).mono ?_))
    rintro _ wk ⟨rfl, hek⟩
    refine RL.ev rfl rfl (ev_pickT rfl) ?_
    refine RL.ev rfl rfl ev_assign ?_
    refine RL.nil ?_
    refine thenN ?_
    refine RW.ret ?_
    refine retI (RV.tmp rfl) ?_
    exact ⟨rfl, hE3.trans hek⟩
  · skip
    refine RW.skip ?_
    refine thenN ?_
    refine RW.seq ?_
    refine RW.region ?_
    refine RL.ev rfl rfl ev_move ?_
    refine RL.ev rfl rfl (ev_lenS Try.underlying26 o_a.sl rfl) ?_
    refine RL.ev rfl rfl ev_move ?_
    refine RL.ev rfl rfl (ev_true (ev_eql rfl rfl) (by rw [put_length])) ?_
    refine RL.ev rfl rfl ev_move ?_
    refine RL.onEv rfl rfl (by decide) rfl rfl ev_move ?_
    refine RL.onEv rfl rfl (by decide) rfl rfl ev_move ?_
    refine RL.onEv rfl rfl (by decide) rfl rfl (ev_true (ev_eql rfl rfl) (by first | rfl | (rw [show k = 8 by omega, mod8 N (by omega)]))) ?_
    refine RL.ev rfl rfl (ev_pickT rfl) ?_
    refine RL.ev rfl rfl ev_move ?_
    refine RL.onEv rfl rfl (by decide) rfl rfl ev_move ?_
    refine RL.on rfl rfl (by decide) rfl rfl (op_call1 Try.func19 rfl rfl rfl ((end_calls _ _ g _ _ r_g).mono ?_))
    rintro _ _ ⟨rfl, rfl⟩
    refine RL.onEv rfl rfl (by decide) rfl rfl (ev_true (ev_eql rfl rfl) rfl) ?_
    refine RL.ev rfl rfl (ev_pickT rfl) ?_
    refine RL.ev rfl rfl ev_move ?_
    refine RL.on rfl rfl (by decide) rfl rfl (op_call0 Try.func9 rfl rfl ((known_calls _).mono ?_))
    rintro _ wk ⟨rfl, hek⟩
    refine RL.ev rfl rfl (ev_pickT rfl) ?_
    refine RL.ev rfl rfl ev_assign ?_
    refine RL.nil ?_
    refine thenN ?_
    refine RW.ret ?_
    refine retI (RV.tmp rfl) ?_
    exact ⟨rfl, hE3.trans hek⟩

end Go.Proofs.Ytjafkgajnohinaa
