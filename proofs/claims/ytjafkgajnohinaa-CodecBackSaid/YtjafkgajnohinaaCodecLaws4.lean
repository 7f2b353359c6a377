import Derived.Test.YtjafkgajnohinaaCodecW3
set_option linter.unusedVariables false
set_option linter.unusedSimpArgs false
namespace Go.Proofs.Ytjafkgajnohinaa
open Go.RowKit Go.Rl

open Go.Codec
set_option maxHeartbeats 4000000 in
set_option maxRecDepth 100000 in
/-- postroad/postroadlaw02.CodecBack -/
theorem codecBack_calls (n cut : Int) (v : Value) (l : List Int) (s : List UInt8) (w : World) (hn0 : 0 ≤ n) (hn1 : n < 18446744073709551616) (hc0 : 0 ≤ cut) (hc1 : cut < 65536) (hv : Sl vi w v l) (hall : Ints64 l) (hs : s.length ≤ 140737488351232) : Gives Try.prog 7 #[.int .u64 n, v, str s, .int .u16 cut] w fun r w' => r = .bool true ∧ Ext w w' := by
  obtain ⟨N, rfl⟩ : ∃ N : Nat, n = N := ⟨n.toNat, by omega⟩
  refine Gives.start Try.func7 rfl (Nat.le_of_ble_eq_true rfl) ?_
  rw [args4]
  refine RW.seq ?_
  refine RW.region ?_
  have hlen := hv.len_le
  refine RL.ev rfl rfl ev_assign ?_
  refine RL.nil ?_
  refine thenN ?_
  refine RW.seq ?_
  refine RW.seq ?_
  rcases (show (100 < (l.length : Int)) ∨ (¬ 100 < (l.length : Int) ∧ 500 < (s.length : Int)) ∨ (¬ 100 < (l.length : Int) ∧ ¬ 500 < (s.length : Int)) by omega) with hc | hc | hc
  · skip
    refine RW.region ?_
    refine RL.ev rfl rfl ev_move ?_
    refine RL.ev rfl rfl (ev_lenS Try.underlying23 hv rfl) ?_
    refine RL.ev rfl rfl (ev_true (ev_gtr rfl rfl) hc) ?_
    refine RL.ev rfl rfl ev_move ?_
    refine RL.off rfl rfl (by decide) rfl rfl ?_
    refine RL.off rfl rfl (by decide) rfl rfl ?_
    refine RL.off rfl rfl (by decide) rfl rfl ?_
    refine RL.ev rfl rfl (ev_pickT rfl) ?_
    refine RL.nil ?_
    refine thenN ?_
    refine RW.condT rfl ?_
    refine RW.seq ?_
    refine RW.region ?_
    refine RL.op rfl rfl (op_call0 Try.func9 rfl rfl ((known_calls _).mono ?_))
    rintro _ wk ⟨rfl, hek⟩
    refine RL.ev rfl rfl ev_assign ?_
    refine RL.nil ?_
    refine thenN ?_
    refine RW.ret ?_
    refine thenR ?_
    refine retI (RV.tmp rfl) ?_
    exact ⟨rfl, hek⟩
  · skip
    refine RW.region ?_
    refine RL.ev rfl rfl ev_move ?_
    refine RL.ev rfl rfl (ev_lenS Try.underlying23 hv rfl) ?_
    refine RL.ev rfl rfl (ev_false (ev_gtr rfl rfl) hc.1) ?_
    refine RL.ev rfl rfl ev_move ?_
    refine RL.onEv rfl rfl (by decide) rfl rfl ev_move ?_
    refine RL.onEv rfl rfl (by decide) rfl rfl (ev_lenS' Try.underlying9 rfl) ?_
    refine RL.onEv rfl rfl (by decide) rfl rfl (ev_true (ev_gtr rfl rfl) hc.2) ?_
    refine RL.ev rfl rfl (ev_pickF rfl) ?_
    refine RL.nil ?_
    refine thenN ?_
    refine RW.condT rfl ?_
    refine RW.seq ?_
    refine RW.region ?_
    refine RL.op rfl rfl (op_call0 Try.func9 rfl rfl ((known_calls _).mono ?_))
    rintro _ wk ⟨rfl, hek⟩
    refine RL.ev rfl rfl ev_assign ?_
    refine RL.nil ?_
    refine thenN ?_
    refine RW.ret ?_
    refine thenR ?_
    refine retI (RV.tmp rfl) ?_
    exact ⟨rfl, hek⟩
  · skip
    refine RW.region ?_
    refine RL.ev rfl rfl ev_move ?_
    refine RL.ev rfl rfl (ev_lenS Try.underlying23 hv rfl) ?_
    refine RL.ev rfl rfl (ev_false (ev_gtr rfl rfl) hc.1) ?_
    refine RL.ev rfl rfl ev_move ?_
    refine RL.onEv rfl rfl (by decide) rfl rfl ev_move ?_
    refine RL.onEv rfl rfl (by decide) rfl rfl (ev_lenS' Try.underlying9 rfl) ?_
    refine RL.onEv rfl rfl (by decide) rfl rfl (ev_false (ev_gtr rfl rfl) hc.2) ?_
    refine RL.ev rfl rfl (ev_pickF rfl) ?_
    refine RL.nil ?_
    refine thenN ?_
    refine RW.condF rfl ?_
    refine RW.skip ?_
    refine thenN ?_
    refine RW.seq ?_
    refine RW.region ?_
    refine RL.ev rfl rfl ev_move ?_
    refine RL.op rfl rfl (op_call2 Try.func11 rfl rfl rfl rfl ((put_calls N 8 _ (by omega)).mono ?_))
    rintro a w1 ⟨o_a, he1⟩
    rw [clip_8] at o_a
    have hz1 := he1.size
    have hE1 := he1
    have b_o_a := o_a.lt
    refine RL.ev rfl rfl ev_assign ?_
    refine RL.nil ?_
    refine thenN ?_
    refine RW.seq ?_
    refine RW.region ?_
    refine RL.ev rfl rfl ev_move ?_
    refine RL.ev rfl rfl ev_move ?_
    refine RL.op rfl rfl (op_call1 Try.func13 rfl rfl rfl ((ints_calls v l _ (hv.ext hE1) (by omega)).mono ?_))
    rintro b w2 ⟨o_b, he2⟩
    have hz2 := he2.size
    have hE2 := hE1.trans he2
    replace o_a := o_a.ext he2
    have b_o_b := o_b.lt
    refine RL.op rfl rfl (op_append Try.underlying26 inf5 rfl vb_one o_a rfl o_b.sl rfl (by simp only [List.length_append, put_length, putInts_length, putText_length]; omega) (by decide) (by omega) ?_)
    intro c w3 o_c hm3 hk3
    have hz3 := hm3.size
    have hE3 := hE2.then hm3 (fun i hi e => by have := b_o_a i e; omega)
    replace o_b := o_b.mod hm3 (fun k hk e => by have := b_o_b k hk; have := b_o_a k e; omega)
    have b_o_c := o_c.lt
    refine RL.ev rfl rfl ev_assign ?_
    refine RL.nil ?_
    refine thenN ?_
    refine RW.seq ?_
    refine RW.region ?_
    refine RL.ev rfl rfl ev_move ?_
    refine RL.ev rfl rfl ev_move ?_
    refine RL.op rfl rfl (op_call1 Try.func15 rfl rfl rfl ((text_calls s _ (by omega)).mono ?_))
    rintro d w4 ⟨o_d, he4⟩
    have hz4 := he4.size
    have hE4 := hE3.trans he4
    replace o_c := o_c.ext he4
    have b_o_d := o_d.lt
    refine RL.op rfl rfl (op_append Try.underlying26 inf5 rfl vb_one o_c rfl o_d.sl rfl (by simp only [List.length_append, put_length, putInts_length, putText_length]; omega) (by decide) (by omega) ?_)
    intro e w5 o_e hm5 hk5
    have hz5 := hm5.size
    have hE5 := hE4.then hm5 (fun i hi e => by have := b_o_c i e; omega)
    replace o_d := o_d.mod hm5 (fun k hk e => by have := b_o_d k hk; have := b_o_c k e; omega)
    have b_o_e := o_e.lt
    have hL : (put N 8 ++ putInts l ++ putText s).length = 16 + 8 * l.length + s.length := by simp only [List.length_append, put_length, putInts_length, putText_length]; omega
    have hcut := fun m hm => back_cut N l s m (by omega) (by omega) hm
    have e1 : numR (put N 8 ++ putInts l ++ putText s, 0) 8 = ((putInts l ++ putText s, 0), N) := by rw [List.append_assoc, numR_put, mod8 N (by omega)]
    generalize put N 8 ++ putInts l ++ putText s = bs at o_e hL hcut e1
    refine RL.ev rfl rfl ev_assign ?_
    refine RL.nil ?_
    refine thenN ?_
    refine RW.seq ?_
    refine RW.seq ?_
    refine RW.region ?_
    refine RL.ev rfl rfl ev_move ?_
    refine RL.ev rfl rfl (ev_lenS Try.underlying26 o_e.sl rfl) ?_
    refine RL.ev rfl rfl ev_move ?_
    refine RL.ev rfl rfl (ev_lenS Try.underlying23 (hv.ext hE5) rfl) ?_
    refine RL.ev rfl rfl (ev_arith rfl rfl rfl (mul64 (by omega) (by omega))) ?_
    refine RL.ev rfl rfl (ev_arith rfl rfl rfl (add64 (by omega) (by omega))) ?_
    refine RL.ev rfl rfl ev_move ?_
    refine RL.ev rfl rfl (ev_lenS' Try.underlying9 rfl) ?_
    refine RL.ev rfl rfl (ev_arith rfl rfl rfl (add64 (by omega) (by omega))) ?_
    refine RL.ev rfl rfl (ev_false (ev_neq rfl rfl) (by omega)) ?_
    refine RL.nil ?_
    refine thenN ?_
    refine RW.condF rfl ?_
    refine RW.skip ?_
    refine thenN ?_
    refine RW.seq ?_
    refine RW.region ?_
    refine RL.ev rfl rfl ev_move ?_
    refine RL.op rfl rfl (op_call1 Try.func17 rfl rfl rfl ((new_calls e bs _ o_e.sl (by omega)).mono ?_))
    rintro _ w6 ⟨g, rfl, r_g, he6⟩
    have hz6 := he6.size
    have hE6 := hE5.trans he6
    replace o_e := o_e.ext he6
    have b_r_g := r_g.lt
    refine RL.ev rfl rfl ev_assign ?_
    refine RL.nil ?_
    refine thenN ?_
    refine RW.seq ?_
    refine RW.region ?_
    refine RL.ev rfl rfl ev_move ?_
    refine RL.op rfl rfl (op_call2 Try.func18 rfl rfl rfl rfl ((num_at r_g clip_8 e1).mono ?_))
    rintro _ w7 ⟨rfl, r_g, hm7, hs7⟩
    have hz7 := hm7.size
    have hE7 := hE6.then hm7 (fun i hi e => by omega)
    replace o_e := o_e.mod hm7 (fun k hk e => by have := b_o_e k hk; omega)
    refine RL.ev rfl rfl ev_assign ?_
    refine RL.nil ?_
    refine thenN ?_
    refine RW.seq ?_
    refine RW.region ?_
    refine RL.ev rfl rfl ev_move ?_
    refine RL.ev rfl rfl ev_move ?_
    refine RL.ev rfl rfl (ev_lenS Try.underlying23 (hv.ext hE7) rfl) ?_
    refine RL.op rfl rfl (op_call2 Try.func23 rfl rfl rfl rfl ((rints_at r_g (by omega) (by omega) (by omega) (by simp only [List.length_append, put_length, putInts_length, putText_length, List.length_nil]; omega) (intsR_put l (putText s) _ hall (Int.le_refl _) (by omega))).mono ?_))
    rintro k1 w8 ⟨o_k1, r_g, hm8⟩
    have hz8 := hm8.size
    have hE8 := hE7.then hm8 (fun i hi e => by omega)
    replace o_e := o_e.mod hm8 (fun k hk e => by have := b_o_e k hk; omega)
    have b_o_k1 := o_k1.lt
    refine RL.ev rfl rfl ev_assign ?_
    refine RL.nil ?_
    refine thenN ?_
    refine RW.seq ?_
    refine RW.region ?_
    refine RL.ev rfl rfl ev_move ?_
    refine RL.ev rfl rfl ev_move ?_
    refine RL.ev rfl rfl (ev_lenS' Try.underlying9 rfl) ?_
    refine RL.op rfl rfl (op_call2 Try.func21 rfl rfl rfl rfl ((rtext_at r_g (by omega) (by omega) (by omega) (by simp only [List.length_append, put_length, putInts_length, putText_length, List.length_nil]; omega) (textR_put' s _ (Int.le_refl _) (by omega))).mono ?_))
    rintro _ w9 ⟨rfl, r_g, hm9⟩
    have hz9 := hm9.size
    have hE9 := hE8.then hm9 (fun i hi e => by omega)
    replace o_e := o_e.mod hm9 (fun k hk e => by have := b_o_e k hk; omega)
    replace o_k1 := o_k1.mod hm9 (fun k hk e => by have := b_o_k1 k hk; omega)
    refine RL.ev rfl rfl ev_assign ?_
    refine RL.nil ?_
    refine thenN ?_
    refine RW.seq ?_
    refine RW.seq ?_
    refine RW.region ?_
    refine RL.ev rfl rfl ev_move ?_
    refine RL.ev rfl rfl ev_move ?_
    refine RL.ev rfl rfl (ev_false (ev_neq rfl rfl) (by simp)) ?_
    refine RL.ev rfl rfl ev_move ?_
    refine RL.onEv rfl rfl (by decide) rfl rfl ev_move ?_
    refine RL.onEv rfl rfl (by decide) rfl rfl ev_move ?_
    refine RL.on rfl rfl (by decide) rfl rfl (op_call2 Try.func25 rfl rfl rfl rfl ((sameInts_true o_k1.sl (hv.ext hE9) rfl).mono ?_))
    rintro _ w10 ⟨rfl, he10⟩
    have hz10 := he10.size
    have hE10 := hE9.trans he10
    replace o_e := o_e.ext he10
    replace r_g := r_g.ext he10
    replace o_k1 := o_k1.ext he10
    refine RL.onEv rfl rfl (by decide) rfl rfl (ev_not rfl) ?_
    refine RL.ev rfl rfl (ev_pickF rfl) ?_
    refine RL.ev rfl rfl ev_move ?_
    refine RL.onEv rfl rfl (by decide) rfl rfl ev_move ?_
    refine RL.onEv rfl rfl (by decide) rfl rfl ev_move ?_
    refine RL.onEv rfl rfl (by decide) rfl rfl (ev_false (ev_strNe rfl rfl) (by simp)) ?_
    refine RL.ev rfl rfl (ev_pickF rfl) ?_
    refine RL.ev rfl rfl ev_move ?_
    refine RL.onEv rfl rfl (by decide) rfl rfl ev_move ?_
    refine RL.on rfl rfl (by decide) rfl rfl (op_call1 Try.func19 rfl rfl rfl ((end_at (e := 0) r_g rfl).mono ?_))
    rintro _ _ ⟨rfl, rfl⟩
    refine RL.onEv rfl rfl (by decide) rfl rfl (ev_false (ev_neq rfl rfl) (by simp)) ?_
    refine RL.ev rfl rfl (ev_pickF rfl) ?_
    refine RL.nil ?_
    refine thenN ?_
    refine RW.condF rfl ?_
    refine RW.skip ?_
    refine thenN ?_
    refine RW.seq ?_
    refine RW.region ?_
    refine RL.ev rfl rfl ev_move ?_
    refine RL.ev rfl rfl ev_move ?_
    refine RL.ev rfl rfl (ev_conv Try.underlying45 Try.underlying3 rfl (wrap_i64 (by omega) (by omega))) ?_
    refine RL.ev rfl rfl ev_move ?_
    refine RL.ev rfl rfl (ev_lenS Try.underlying26 o_e.sl rfl) ?_
    have hOb_ := pick_nat cut bs.length hc0 (by omega)
    obtain ⟨m, hm14, hml⟩ := hOb_
    have hcut := hcut m hml
    refine RL.ev rfl rfl (ev_rem rfl rfl (by omega) hm14) ?_
    refine RL.ev rfl rfl (ev_cutTo Try.underlying26 sz5 o_e.sl rfl rfl (by omega) (by omega)) ?_
    refine RL.op rfl rfl (op_call1 Try.func17 rfl rfl rfl ((new_calls _ (bs.take m) _ (o_e.sl.cutTo (by omega)) (by rw [List.length_take]; omega)).mono ?_))
    rintro _ w11 ⟨h, rfl, r_h, he11⟩
    have hz11 := he11.size
    have hE11 := hE10.trans he11
    replace o_e := o_e.ext he11
    have b_r_h := r_h.lt
    have q0 : (bs.take m, (0 : Int)).1.length ≤ 1400 := by show (bs.take m).length ≤ 1400; rw [List.length_take]; omega
    refine RL.ev rfl rfl ev_assign ?_
    refine RL.nil ?_
    refine thenN ?_
    refine RW.seq ?_
    refine RW.region ?_
    refine RL.ev rfl rfl ev_move ?_
    refine RL.op rfl rfl (op_call2 Try.func18 rfl rfl rfl rfl ((num_at r_h clip_8 (eta (numR (bs.take m, 0) 8))).mono ?_))
    rintro _ w12 ⟨rfl, r_h, hm12, hs12⟩
    have hz12 := hm12.size
    have hE12 := hE11.then hm12 (fun i hi e => by omega)
    replace o_e := o_e.mod hm12 (fun k hk e => by have := b_o_e k hk; omega)
    have q1 := num_sub (bs.take m, 0) 8
    refine RL.nil ?_
    refine thenN ?_
    refine RW.seq ?_
    refine RW.region ?_
    refine RL.ev rfl rfl ev_move ?_
    refine RL.ev rfl rfl ev_move ?_
    refine RL.ev rfl rfl (ev_lenS Try.underlying23 (hv.ext hE12) rfl) ?_
    refine RL.op rfl rfl (op_call2 Try.func23 rfl rfl rfl rfl ((rints_at r_h (by omega) (by omega) (by omega) (by omega) (eta (intsR (numR (bs.take m, 0) 8).1 l.length))).mono ?_))
    rintro k2 w13 ⟨o_k2, r_h, hm13⟩
    have hz13 := hm13.size
    have hE13 := hE12.then hm13 (fun i hi e => by omega)
    replace o_e := o_e.mod hm13 (fun k hk e => by have := b_o_e k hk; omega)
    have b_o_k2 := o_k2.lt
    have q2 := ints_sub (numR (bs.take m, 0) 8).1 l.length
    refine RL.nil ?_
    refine thenN ?_
    refine RW.seq ?_
    refine RW.region ?_
    refine RL.ev rfl rfl ev_move ?_
    refine RL.ev rfl rfl ev_move ?_
    refine RL.ev rfl rfl (ev_lenS' Try.underlying9 rfl) ?_
    refine RL.op rfl rfl (op_call2 Try.func21 rfl rfl rfl rfl ((rtext_at r_h (by omega) (by omega) (by omega) (by omega) (Prod.ext hcut rfl)).mono ?_))
    rintro _ w14 ⟨rfl, r_h, hm14⟩
    have hz14 := hm14.size
    have hE14 := hE13.then hm14 (fun i hi e => by omega)
    replace o_e := o_e.mod hm14 (fun k hk e => by have := b_o_e k hk; omega)
    replace o_k2 := o_k2.mod hm14 (fun k hk e => by have := b_o_k2 k hk; omega)
    refine RL.nil ?_
    refine thenN ?_
    refine RW.seq ?_
    refine RW.region ?_
    refine RL.ev rfl rfl ev_move ?_
    refine RL.op rfl rfl (op_call1 Try.func22 rfl rfl rfl ((failed_calls _ _ h _ _ r_h).mono ?_))
    rintro _ _ ⟨rfl, rfl⟩
    refine RL.ev rfl rfl (ev_true (ev_eql rfl rfl) rfl) ?_
    refine RL.ev rfl rfl ev_move ?_
    refine RL.onEv rfl rfl (by decide) rfl rfl ev_move ?_
    refine RL.on rfl rfl (by decide) rfl rfl (op_call1 Try.func24 rfl rfl rfl ((left_calls _ _ h _ _ r_h).mono ?_))
    rintro _ _ ⟨rfl, rfl⟩
    refine RL.onEv rfl rfl (by decide) rfl rfl (ev_true (ev_eql rfl rfl) rfl) ?_
    refine RL.ev rfl rfl (ev_pickT rfl) ?_
    refine RL.ev rfl rfl ev_move ?_
    refine RL.on rfl rfl (by decide) rfl rfl (op_call0 Try.func9 rfl rfl ((known_calls _).mono ?_))
    rintro _ wk ⟨rfl, hek⟩
    refine RL.ev rfl rfl (ev_pickT rfl) ?_
    refine RL.ev rfl rfl ev_assign ?_
    refine RL.nil ?_
    refine thenN ?_
    refine RW.ret ?_
    refine retI (RV.tmp rfl) ?_
    exact ⟨rfl, hE14.trans hek⟩

set_option maxHeartbeats 4000000 in
set_option maxRecDepth 100000 in
/-- postroad/postroadlaw02.CodecLong -/
theorem codecLong_calls (b : Int) (v : Value) (l : List Int) (s : List UInt8) (w : World) (hb0 : 0 ≤ b) (hb1 : b < 256) (hv : Sl vi w v l) (hall : Ints64 l) (hs : s.length ≤ 140737488351232) : Gives Try.prog 8 #[v, str s, .int .u8 b] w fun r w' => r = .bool true ∧ Ext w w' := by
  refine Gives.start Try.func8 rfl (Nat.le_of_ble_eq_true rfl) ?_
  rw [args3]
  refine RW.seq ?_
  refine RW.region ?_
  have hlen := hv.len_le
  refine RL.ev rfl rfl ev_assign ?_
  refine RL.nil ?_
  refine thenN ?_
  refine RW.seq ?_
  refine RW.seq ?_
  rcases (show (100 < (l.length : Int)) ∨ (¬ 100 < (l.length : Int) ∧ 300 < (s.length : Int)) ∨ (¬ 100 < (l.length : Int) ∧ ¬ 300 < (s.length : Int)) by omega) with hc | hc | hc
  · skip
    refine RW.region ?_
    refine RL.ev rfl rfl ev_move ?_
    refine RL.ev rfl rfl (ev_lenS Try.underlying23 hv rfl) ?_
    refine RL.ev rfl rfl (ev_true (ev_gtr rfl rfl) hc) ?_
    refine RL.ev rfl rfl ev_move ?_
    refine RL.off rfl rfl (by decide) rfl rfl ?_
    refine RL.off rfl rfl (by decide) rfl rfl ?_
    refine RL.off rfl rfl (by decide) rfl rfl ?_
    refine RL.ev rfl rfl (ev_pickT rfl) ?_
    refine RL.nil ?_
    refine thenN ?_
    refine RW.condT rfl ?_
    refine RW.seq ?_
    refine RW.region ?_
    refine RL.op rfl rfl (op_call0 Try.func9 rfl rfl ((known_calls _).mono ?_))
    rintro _ wk ⟨rfl, hek⟩
    refine RL.ev rfl rfl ev_assign ?_
    refine RL.nil ?_
    refine thenN ?_
    refine RW.ret ?_
    refine thenR ?_
    refine retI (RV.tmp rfl) ?_
    exact ⟨rfl, hek⟩
  · skip
    refine RW.region ?_
    refine RL.ev rfl rfl ev_move ?_
    refine RL.ev rfl rfl (ev_lenS Try.underlying23 hv rfl) ?_
    refine RL.ev rfl rfl (ev_false (ev_gtr rfl rfl) hc.1) ?_
    refine RL.ev rfl rfl ev_move ?_
    refine RL.onEv rfl rfl (by decide) rfl rfl ev_move ?_
    refine RL.onEv rfl rfl (by decide) rfl rfl (ev_lenS' Try.underlying9 rfl) ?_
    refine RL.onEv rfl rfl (by decide) rfl rfl (ev_true (ev_gtr rfl rfl) hc.2) ?_
    refine RL.ev rfl rfl (ev_pickF rfl) ?_
    refine RL.nil ?_
    refine thenN ?_
    refine RW.condT rfl ?_
    refine RW.seq ?_
    refine RW.region ?_
    refine RL.op rfl rfl (op_call0 Try.func9 rfl rfl ((known_calls _).mono ?_))
    rintro _ wk ⟨rfl, hek⟩
    refine RL.ev rfl rfl ev_assign ?_
    refine RL.nil ?_
    refine thenN ?_
    refine RW.ret ?_
    refine thenR ?_
    refine retI (RV.tmp rfl) ?_
    exact ⟨rfl, hek⟩
  · skip
    refine RW.region ?_
    refine RL.ev rfl rfl ev_move ?_
    refine RL.ev rfl rfl (ev_lenS Try.underlying23 hv rfl) ?_
    refine RL.ev rfl rfl (ev_false (ev_gtr rfl rfl) hc.1) ?_
    refine RL.ev rfl rfl ev_move ?_
    refine RL.onEv rfl rfl (by decide) rfl rfl ev_move ?_
    refine RL.onEv rfl rfl (by decide) rfl rfl (ev_lenS' Try.underlying9 rfl) ?_
    refine RL.onEv rfl rfl (by decide) rfl rfl (ev_false (ev_gtr rfl rfl) hc.2) ?_
    refine RL.ev rfl rfl (ev_pickF rfl) ?_
    refine RL.nil ?_
    refine thenN ?_
    refine RW.condF rfl ?_
    refine RW.skip ?_
    refine thenN ?_
    refine RW.seq ?_
    refine RW.region ?_
    refine RL.ev rfl rfl ev_move ?_
    refine RL.op rfl rfl (op_call1 Try.func13 rfl rfl rfl ((ints_calls v l _ hv (by omega)).mono ?_))
    rintro a w1 ⟨o_a, he1⟩
    have hz1 := he1.size
    have hE1 := he1
    have b_o_a := o_a.lt
    refine RL.op rfl rfl (op_call1 Try.func17 rfl rfl rfl ((new_calls _ _ _ o_a.sl (by rw [putInts_length]; omega)).mono ?_))
    rintro _ w2 ⟨ga, rfl, r_ga, he2⟩
    have hz2 := he2.size
    have hE2 := hE1.trans he2
    replace o_a := o_a.ext he2
    have b_r_ga := r_ga.lt
    refine RL.ev rfl rfl ev_assign ?_
    refine RL.nil ?_
    refine thenN ?_
    refine RW.seq ?_
    refine RW.region ?_
    refine RL.ev rfl rfl ev_move ?_
    refine RL.op rfl rfl (op_call1 Try.func15 rfl rfl rfl ((text_calls s _ (by omega)).mono ?_))
    rintro b w3 ⟨o_b, he3⟩
    have hz3 := he3.size
    have hE3 := hE2.trans he3
    replace r_ga := r_ga.ext he3
    have b_o_b := o_b.lt
    refine RL.op rfl rfl (op_call1 Try.func17 rfl rfl rfl ((new_calls _ _ _ o_b.sl (by rw [putText_length]; omega)).mono ?_))
    rintro _ w4 ⟨gb, rfl, r_gb, he4⟩
    have hz4 := he4.size
    have hE4 := hE3.trans he4
    replace r_ga := r_ga.ext he4
    replace o_b := o_b.ext he4
    have b_r_gb := r_gb.lt
    refine RL.ev rfl rfl ev_assign ?_
    refine RL.nil ?_
    refine thenN ?_
    refine RW.seq ?_
    refine RW.region ?_
    refine RL.ev rfl rfl ev_move ?_
    refine RL.op rfl rfl (op_call1 Try.func13 rfl rfl rfl ((ints_calls v l _ (hv.ext hE4) (by omega)).mono ?_))
    rintro c w5 ⟨o_c, he5⟩
    have hz5 := he5.size
    have hE5 := hE4.trans he5
    replace r_ga := r_ga.ext he5
    replace r_gb := r_gb.ext he5
    have b_o_c := o_c.lt
    refine RL.op rfl rfl (op_call1 Try.func17 rfl rfl rfl ((new_calls _ _ _ o_c.sl (by rw [putInts_length]; omega)).mono ?_))
    rintro _ w6 ⟨gc, rfl, r_gc, he6⟩
    have hz6 := he6.size
    have hE6 := hE5.trans he6
    replace r_ga := r_ga.ext he6
    replace r_gb := r_gb.ext he6
    replace o_c := o_c.ext he6
    have b_r_gc := r_gc.lt
    refine RL.ev rfl rfl ev_assign ?_
    refine RL.nil ?_
    refine thenN ?_
    refine RW.seq ?_
    refine RW.region ?_
    refine RL.ev rfl rfl ev_move ?_
    refine RL.op rfl rfl (op_call1 Try.func15 rfl rfl rfl ((text_calls s _ (by omega)).mono ?_))
    rintro d w7 ⟨o_d, he7⟩
    have hz7 := he7.size
    have hE7 := hE6.trans he7
    replace r_ga := r_ga.ext he7
    replace r_gb := r_gb.ext he7
    replace r_gc := r_gc.ext he7
    have b_o_d := o_d.lt
    refine RL.op rfl rfl (op_call1 Try.func17 rfl rfl rfl ((new_calls _ _ _ o_d.sl (by rw [putText_length]; omega)).mono ?_))
    rintro _ w8 ⟨gd, rfl, r_gd, he8⟩
    have hz8 := he8.size
    have hE8 := hE7.trans he8
    replace r_ga := r_ga.ext he8
    replace r_gb := r_gb.ext he8
    replace r_gc := r_gc.ext he8
    replace o_d := o_d.ext he8
    have b_r_gd := r_gd.lt
    refine RL.ev rfl rfl ev_assign ?_
    refine RL.nil ?_
    refine thenN ?_
    refine RW.seq ?_
    refine RW.region ?_
    refine RL.ev rfl rfl ev_move ?_
    refine RL.ev rfl rfl ev_move ?_
    refine RL.ev rfl rfl (ev_lenS Try.underlying23 (hv.ext hE8) rfl) ?_
    refine RL.ev rfl rfl (ev_arith rfl rfl rfl (sub64 (by omega) (by omega))) ?_
    refine RL.op rfl rfl (op_call2 Try.func23 rfl rfl rfl rfl ((rints_at r_ga (by omega) (by omega) (by omega) (by simp only [putInts_length]; omega) (intsR_long' l _ (by omega) (by omega))).mono ?_))
    rintro x w9 ⟨o_x, r_ga, hm9⟩
    have hz9 := hm9.size
    have hE9 := hE8.then hm9 (fun i hi e => by omega)
    replace r_gb := r_gb.mod hm9 (fun k h1 h2 e => by omega)
    replace r_gc := r_gc.mod hm9 (fun k h1 h2 e => by omega)
    replace r_gd := r_gd.mod hm9 (fun k h1 h2 e => by omega)
    have b_o_x := o_x.lt
    refine RL.ev rfl rfl ev_assign ?_
    refine RL.nil ?_
    refine thenN ?_
    refine RW.seq ?_
    refine RW.region ?_
    refine RL.ev rfl rfl ev_move ?_
    refine RL.ev rfl rfl ev_move ?_
    refine RL.ev rfl rfl (ev_lenS' Try.underlying9 rfl) ?_
    refine RL.ev rfl rfl (ev_arith rfl rfl rfl (sub64 (by omega) (by omega))) ?_
    refine RL.op rfl rfl (op_call2 Try.func21 rfl rfl rfl rfl ((rtext_at r_gb (by omega) (by omega) (by omega) (by simp only [putText_length]; omega) (textR_long' s _ (by omega) (by omega))).mono ?_))
    rintro _ w10 ⟨rfl, r_gb, hm10⟩
    have hz10 := hm10.size
    have hE10 := hE9.then hm10 (fun i hi e => by omega)
    replace r_ga := r_ga.mod hm10 (fun k h1 h2 e => by omega)
    replace r_gc := r_gc.mod hm10 (fun k h1 h2 e => by omega)
    replace r_gd := r_gd.mod hm10 (fun k h1 h2 e => by omega)
    replace o_x := o_x.mod hm10 (fun k hk e => by have := b_o_x k hk; omega)
    refine RL.ev rfl rfl ev_assign ?_
    refine RL.nil ?_
    refine thenN ?_
    refine RW.seq ?_
    refine RW.region ?_
    refine RL.ev rfl rfl ev_move ?_
    refine RL.ev rfl rfl ev_move ?_
    refine RL.ev rfl rfl (ev_lenS Try.underlying23 (hv.ext hE10) rfl) ?_
    refine RL.ev rfl rfl ev_move ?_
    refine RL.ev rfl rfl (ev_conv Try.underlying5 Try.underlying3 rfl (wrap_i64 (by omega) (by omega))) ?_
    refine RL.ev rfl rfl (ev_arith rfl rfl rfl (add64 (by omega) (by omega))) ?_
    refine RL.op rfl rfl (op_call2 Try.func23 rfl rfl rfl rfl ((rints_at r_gc (by omega) (by omega) (by omega) (by simp only [putInts_length]; omega) (intsR_put' l _ hall (by omega) (by omega))).mono ?_))
    rintro z w11 ⟨o_z, r_gc, hm11⟩
    have hz11 := hm11.size
    have hE11 := hE10.then hm11 (fun i hi e => by omega)
    replace r_ga := r_ga.mod hm11 (fun k h1 h2 e => by omega)
    replace r_gb := r_gb.mod hm11 (fun k h1 h2 e => by omega)
    replace r_gd := r_gd.mod hm11 (fun k h1 h2 e => by omega)
    replace o_x := o_x.mod hm11 (fun k hk e => by have := b_o_x k hk; omega)
    have b_o_z := o_z.lt
    refine RL.ev rfl rfl ev_assign ?_
    refine RL.nil ?_
    refine thenN ?_
    refine RW.seq ?_
    refine RW.region ?_
    refine RL.ev rfl rfl ev_move ?_
    refine RL.ev rfl rfl ev_move ?_
    refine RL.ev rfl rfl (ev_lenS' Try.underlying9 rfl) ?_
    refine RL.ev rfl rfl ev_move ?_
    refine RL.ev rfl rfl (ev_conv Try.underlying5 Try.underlying3 rfl (wrap_i64 (by omega) (by omega))) ?_
    refine RL.ev rfl rfl (ev_arith rfl rfl rfl (add64 (by omega) (by omega))) ?_
    refine RL.op rfl rfl (op_call2 Try.func21 rfl rfl rfl rfl ((rtext_at r_gd (by omega) (by omega) (by omega) (by simp only [putText_length]; omega) (textR_put' s _ (by omega) (by omega))).mono ?_))
    rintro _ w12 ⟨rfl, r_gd, hm12⟩
    have hz12 := hm12.size
    have hE12 := hE11.then hm12 (fun i hi e => by omega)
    replace r_ga := r_ga.mod hm12 (fun k h1 h2 e => by omega)
    replace r_gb := r_gb.mod hm12 (fun k h1 h2 e => by omega)
    replace r_gc := r_gc.mod hm12 (fun k h1 h2 e => by omega)
    replace o_x := o_x.mod hm12 (fun k hk e => by have := b_o_x k hk; omega)
    replace o_z := o_z.mod hm12 (fun k hk e => by have := b_o_z k hk; omega)
    refine RL.ev rfl rfl ev_assign ?_
    refine RL.nil ?_
    refine thenN ?_
    refine RW.seq ?_
    refine RW.region ?_
    refine RL.ev rfl rfl ev_move ?_
    refine RL.op rfl rfl (op_call1 Try.func15 rfl rfl rfl ((text_calls s _ (by omega)).mono ?_))
    rintro t w13 ⟨o_t, he13⟩
    have hz13 := he13.size
    have hE13 := hE12.trans he13
    replace r_ga := r_ga.ext he13
    replace r_gb := r_gb.ext he13
    replace r_gc := r_gc.ext he13
    replace r_gd := r_gd.ext he13
    replace o_x := o_x.ext he13
    replace o_z := o_z.ext he13
    have b_o_t := o_t.lt
    have hT := putText_length s
    refine RL.ev rfl rfl ev_assign ?_
    refine RL.nil ?_
    refine thenN ?_
    refine RW.seq ?_
    refine RW.seq ?_
    refine RW.region ?_
    refine RL.ev rfl rfl ev_move ?_
    refine RL.ev rfl rfl (ev_lenS Try.underlying26 o_t.sl rfl) ?_
    refine RL.ev rfl rfl (ev_lss rfl rfl) ?_
    refine RL.nil ?_
    refine thenN ?_
    refine RW.condPF _ rfl (by omega) ?_
    refine RW.skip ?_
    refine thenN ?_
    refine RW.seq ?_
    refine RW.region ?_
    refine RL.ev rfl rfl ev_move ?_
    refine RL.ev rfl rfl ev_move ?_
    refine RL.ev rfl rfl (ev_lenS Try.underlying26 o_t.sl rfl) ?_
    refine RL.ev rfl rfl (ev_arith rfl rfl rfl ((sub64 (by omega) (by omega)).trans (show _ = ((3 + s.length : Nat) : Int) by omega))) ?_
    refine RL.ev rfl rfl (ev_cutTo Try.underlying26 sz5 o_t.sl rfl rfl (by omega) (by omega)) ?_
    refine RL.op rfl rfl (op_call1 Try.func17 rfl rfl rfl ((new_calls _ ((putText s).take (3 + s.length)) _ (o_t.sl.cutTo (by omega)) (by rw [List.length_take]; omega)).mono ?_))
    rintro _ w14 ⟨ge, rfl, r_ge, he14⟩
    have hz14 := he14.size
    have hE14 := hE13.trans he14
    replace r_ga := r_ga.ext he14
    replace r_gb := r_gb.ext he14
    replace r_gc := r_gc.ext he14
    replace r_gd := r_gd.ext he14
    replace o_x := o_x.ext he14
    replace o_z := o_z.ext he14
    replace o_t := o_t.ext he14
    have b_r_ge := r_ge.lt
    refine RL.ev rfl rfl ev_assign ?_
    refine RL.nil ?_
    refine thenN ?_
    refine RW.seq ?_
    refine RW.region ?_
    refine RL.ev rfl rfl ev_move ?_
    refine RL.op rfl rfl (op_call2 Try.func21 rfl rfl rfl rfl ((rtext_at r_ge (by omega) (by omega) (by omega) (by simp only [List.length_take]; omega) (textR_short' s _ _ (by omega) (by omega) (by omega))).mono ?_))
    rintro _ w15 ⟨rfl, r_ge, hm15⟩
    have hz15 := hm15.size
    have hE15 := hE14.then hm15 (fun i hi e => by omega)
    replace r_ga := r_ga.mod hm15 (fun k h1 h2 e => by omega)
    replace r_gb := r_gb.mod hm15 (fun k h1 h2 e => by omega)
    replace r_gc := r_gc.mod hm15 (fun k h1 h2 e => by omega)
    replace r_gd := r_gd.mod hm15 (fun k h1 h2 e => by omega)
    replace o_x := o_x.mod hm15 (fun k hk e => by have := b_o_x k hk; omega)
    replace o_z := o_z.mod hm15 (fun k hk e => by have := b_o_z k hk; omega)
    replace o_t := o_t.mod hm15 (fun k hk e => by have := b_o_t k hk; omega)
    refine RL.nil ?_
    refine thenN ?_
    refine RW.seq ?_
    refine RW.region ?_
    refine RL.ev rfl rfl ev_move ?_
    refine RL.ev rfl rfl (ev_lenS Try.underlying23 o_x.sl rfl) ?_
    refine RL.ev rfl rfl (ev_true (ev_eql rfl rfl) rfl) ?_
    refine RL.ev rfl rfl ev_move ?_
    refine RL.onEv rfl rfl (by decide) rfl rfl ev_move ?_
    refine RL.onEv rfl rfl (by decide) rfl rfl (ev_true (ev_strEq rfl rfl) rfl) ?_
    refine RL.ev rfl rfl (ev_pickT rfl) ?_
    refine RL.ev rfl rfl ev_move ?_
    refine RL.onEv rfl rfl (by decide) rfl rfl ev_move ?_
    refine RL.on rfl rfl (by decide) rfl rfl (op_call1 Try.func22 rfl rfl rfl ((failed_calls _ _ ga _ _ r_ga).mono ?_))
    rintro _ _ ⟨rfl, rfl⟩
    refine RL.onEv rfl rfl (by decide) rfl rfl (ev_true (ev_eql rfl rfl) rfl) ?_
    refine RL.ev rfl rfl (ev_pickT rfl) ?_
    refine RL.ev rfl rfl ev_move ?_
    refine RL.onEv rfl rfl (by decide) rfl rfl ev_move ?_
    refine RL.on rfl rfl (by decide) rfl rfl (op_call1 Try.func22 rfl rfl rfl ((failed_calls _ _ gb _ _ r_gb).mono ?_))
    rintro _ _ ⟨rfl, rfl⟩
    refine RL.onEv rfl rfl (by decide) rfl rfl (ev_true (ev_eql rfl rfl) rfl) ?_
    refine RL.ev rfl rfl (ev_pickT rfl) ?_
    refine RL.ev rfl rfl ev_move ?_
    refine RL.onEv rfl rfl (by decide) rfl rfl ev_move ?_
    refine RL.onEv rfl rfl (by decide) rfl rfl ev_move ?_
    refine RL.on rfl rfl (by decide) rfl rfl (op_call2 Try.func25 rfl rfl rfl rfl ((sameInts_true o_z.sl (hv.ext hE15) rfl).mono ?_))
    rintro _ w16 ⟨rfl, he16⟩
    have hz16 := he16.size
    have hE16 := hE15.trans he16
    replace r_ga := r_ga.ext he16
    replace r_gb := r_gb.ext he16
    replace r_gc := r_gc.ext he16
    replace r_gd := r_gd.ext he16
    replace o_x := o_x.ext he16
    replace o_z := o_z.ext he16
    replace o_t := o_t.ext he16
    replace r_ge := r_ge.ext he16
    refine RL.ev rfl rfl (ev_pickT rfl) ?_
    refine RL.ev rfl rfl ev_move ?_
    refine RL.onEv rfl rfl (by decide) rfl rfl ev_move ?_
    refine RL.onEv rfl rfl (by decide) rfl rfl ev_move ?_
    refine RL.onEv rfl rfl (by decide) rfl rfl (ev_true (ev_strEq rfl rfl) rfl) ?_
    refine RL.ev rfl rfl (ev_pickT rfl) ?_
    refine RL.ev rfl rfl ev_move ?_
    refine RL.onEv rfl rfl (by decide) rfl rfl ev_move ?_
    refine RL.on rfl rfl (by decide) rfl rfl (op_call1 Try.func19 rfl rfl rfl ((end_at (e := 0) r_gc rfl).mono ?_))
    rintro _ _ ⟨rfl, rfl⟩
    refine RL.onEv rfl rfl (by decide) rfl rfl (ev_true (ev_eql rfl rfl) rfl) ?_
    refine RL.ev rfl rfl (ev_pickT rfl) ?_
    refine RL.ev rfl rfl ev_move ?_
    refine RL.onEv rfl rfl (by decide) rfl rfl ev_move ?_
    refine RL.on rfl rfl (by decide) rfl rfl (op_call1 Try.func19 rfl rfl rfl ((end_at (e := 0) r_gd rfl).mono ?_))
    rintro _ _ ⟨rfl, rfl⟩
    refine RL.onEv rfl rfl (by decide) rfl rfl (ev_true (ev_eql rfl rfl) rfl) ?_
    refine RL.ev rfl rfl (ev_pickT rfl) ?_
    refine RL.ev rfl rfl ev_move ?_
    refine RL.onEv rfl rfl (by decide) rfl rfl ev_move ?_
    refine RL.on rfl rfl (by decide) rfl rfl (op_call1 Try.func22 rfl rfl rfl ((failed_calls _ _ ge _ _ r_ge).mono ?_))
    rintro _ _ ⟨rfl, rfl⟩
    refine RL.onEv rfl rfl (by decide) rfl rfl (ev_true (ev_eql rfl rfl) rfl) ?_
    refine RL.ev rfl rfl (ev_pickT rfl) ?_
    refine RL.ev rfl rfl ev_move ?_
    refine RL.on rfl rfl (by decide) rfl rfl (op_call0 Try.func9 rfl rfl ((known_calls _).mono ?_))
    rintro _ wk ⟨rfl, hek⟩
    refine RL.ev rfl rfl (ev_pickT rfl) ?_
    refine RL.ev rfl rfl ev_assign ?_
    refine RL.nil ?_
    refine thenN ?_
    refine RW.ret ?_
    refine retI (RV.tmp rfl) ?_
    exact ⟨rfl, hE16.trans hek⟩

end Go.Proofs.Ytjafkgajnohinaa
