import Derived.Test.YtjafkgajnohinaaCodecW3
set_option linter.unusedVariables false
set_option linter.unusedSimpArgs false
namespace Go.Proofs.Ytjafkgajnohinaa
open Go.RowKit Go.Rl

open Go.Codec
set_option maxHeartbeats 4000000 in
set_option maxRecDepth 100000 in
/-- postroad/postroadlaw02.CodecStops -/
theorem codecStops_calls (v a : Value) (l : List UInt8) (qs : List Int) (w : World) (hv : Sl vb w v l) (ha : Sl vi w a qs) (hall : Ints64 qs) : Gives Try.prog 6 #[v, a] w fun r w' => r = .bool true ∧ Ext w w' := by
  refine Gives.start Try.func6 rfl (Nat.le_of_ble_eq_true rfl) ?_
  rw [args2]
  refine RW.seq ?_
  refine RW.region ?_
  have hlen := hv.len_le
  have hlen2 := ha.len_le
  refine RL.ev rfl rfl ev_assign ?_
  refine RL.nil ?_
  refine thenN ?_
  refine RW.seq ?_
  refine RW.seq ?_
  rcases (show (500 < (l.length : Int)) ∨ (¬ 500 < (l.length : Int) ∧ 30 < (qs.length : Int)) ∨ (¬ 500 < (l.length : Int) ∧ ¬ 30 < (qs.length : Int)) by omega) with hc | hc | hc
  · skip
    refine RW.region ?_
    refine RL.ev rfl rfl ev_move ?_
    refine RL.ev rfl rfl (ev_lenS Try.underlying26 hv rfl) ?_
    refine RL.ev rfl rfl (ev_true (ev_gtr rfl rfl) hc) ?_
    refine RL.ev rfl rfl ev_move ?_
    refine RL.off rfl rfl (by decide) rfl rfl ?_
    refine RL.off rfl rfl (by decide) rfl rfl ?_
    refine RL.off rfl rfl (by decide) rfl rfl ?_
    refine RL.ev rfl rfl (ev_pickT rfl) ?_
    refine RL.nil ?_
    refine thenN ?_
    refine RW.condT rfl ?_
    refine RW.seq ?_
    refine RW.region ?_
    refine RL.op rfl rfl (op_call0 Try.func9 rfl rfl ((known_calls _).mono ?_))
    rintro _ wk ⟨rfl, hek⟩
    refine RL.ev rfl rfl ev_assign ?_
    refine RL.nil ?_
    refine thenN ?_
    refine RW.ret ?_
    refine thenR ?_
    refine retI (RV.tmp rfl) ?_
    exact ⟨rfl, hek⟩
  · skip
    refine RW.region ?_
    refine RL.ev rfl rfl ev_move ?_
    refine RL.ev rfl rfl (ev_lenS Try.underlying26 hv rfl) ?_
    refine RL.ev rfl rfl (ev_false (ev_gtr rfl rfl) hc.1) ?_
    refine RL.ev rfl rfl ev_move ?_
    refine RL.onEv rfl rfl (by decide) rfl rfl ev_move ?_
    refine RL.onEv rfl rfl (by decide) rfl rfl (ev_lenS Try.underlying23 ha rfl) ?_
    refine RL.onEv rfl rfl (by decide) rfl rfl (ev_true (ev_gtr rfl rfl) hc.2) ?_
    refine RL.ev rfl rfl (ev_pickF rfl) ?_
    refine RL.nil ?_
    refine thenN ?_
    refine RW.condT rfl ?_
    refine RW.seq ?_
    refine RW.region ?_
    refine RL.op rfl rfl (op_call0 Try.func9 rfl rfl ((known_calls _).mono ?_))
    rintro _ wk ⟨rfl, hek⟩
    refine RL.ev rfl rfl ev_assign ?_
    refine RL.nil ?_
    refine thenN ?_
    refine RW.ret ?_
    refine thenR ?_
    refine retI (RV.tmp rfl) ?_
    exact ⟨rfl, hek⟩
  · skip
    refine RW.region ?_
    refine RL.ev rfl rfl ev_move ?_
    refine RL.ev rfl rfl (ev_lenS Try.underlying26 hv rfl) ?_
    refine RL.ev rfl rfl (ev_false (ev_gtr rfl rfl) hc.1) ?_
    refine RL.ev rfl rfl ev_move ?_
    refine RL.onEv rfl rfl (by decide) rfl rfl ev_move ?_
    refine RL.onEv rfl rfl (by decide) rfl rfl (ev_lenS Try.underlying23 ha rfl) ?_
    refine RL.onEv rfl rfl (by decide) rfl rfl (ev_false (ev_gtr rfl rfl) hc.2) ?_
    refine RL.ev rfl rfl (ev_pickF rfl) ?_
    refine RL.nil ?_
    refine thenN ?_
    refine RW.condF rfl ?_
    refine RW.skip ?_
    refine thenN ?_
    refine RW.seq ?_
    refine RW.region ?_
    refine RL.ev rfl rfl ev_move ?_
    refine RL.op rfl rfl (op_call1 Try.func17 rfl rfl rfl ((new_calls v l _ hv (by omega)).mono ?_))
    rintro _ w1 ⟨g, rfl, r_g, he1⟩
    have hz1 := he1.size
    have hE1 := he1
    have b_r_g := r_g.lt
    refine RL.ev rfl rfl ev_assign ?_
    refine RL.nil ?_
    refine thenN ?_
    refine RW.seq ?_
    refine RW.region ?_
    refine RL.ev rfl rfl ev_move ?_
    refine RL.op rfl rfl (op_call2 Try.func18 rfl rfl rfl rfl ((num_at r_g clip_8 (eta (numR (l, 0) 8))).mono ?_))
    rintro _ w2 ⟨rfl, r_g, hm2, hs2⟩
    have hz2 := hm2.size
    have hE2 := hE1.then hm2 (fun i hi e => by omega)
    have q1 := num_sub (l, 0) 8
    have y1 : Sane (numR (l, 0) 8).1 := sane_num (s := (l, 0)) (fun e => absurd rfl e) 8
    simp only at q1
    refine RL.nil ?_
    refine thenN ?_
    refine RW.seq ?_
    refine RW.region ?_
    refine RL.ev rfl rfl ev_move ?_
    refine RL.op rfl rfl (op_call2 Try.func23 rfl rfl rfl rfl ((rints_at r_g (by omega) (by omega) (by omega) (by omega) (eta (intsR (numR (l, 0) 8).1 2))).mono ?_))
    rintro vi1 w3 ⟨o_vi1, r_g, hm3⟩
    have hz3 := hm3.size
    have hE3 := hE2.then hm3 (fun i hi e => by omega)
    have b_o_vi1 := o_vi1.lt
    have q2 := ints_sub (numR (l, 0) 8).1 2
    have y2 := sane_ints y1 2
    refine RL.nil ?_
    refine thenN ?_
    refine RW.seq ?_
    refine RW.region ?_
    refine RL.ev rfl rfl ev_move ?_
    refine RL.op rfl rfl (op_call2 Try.func21 rfl rfl rfl rfl ((rtext_at r_g (by omega) (by omega) (by omega) (by omega) (eta (textR (intsR (numR (l, 0) 8).1 2).1 3))).mono ?_))
    rintro _ w4 ⟨rfl, r_g, hm4⟩
    have hz4 := hm4.size
    have hE4 := hE3.then hm4 (fun i hi e => by omega)
    replace o_vi1 := o_vi1.mod hm4 (fun k hk e => by have := b_o_vi1 k hk; omega)
    have q3 := text_sub (intsR (numR (l, 0) 8).1 2).1 3
    have y3 := sane_text y2 3
    generalize (textR (intsR (numR (l, 0) 8).1 2).1 3).1 = s0 at r_g q3 y3
    refine RL.nil ?_
    refine thenN ?_
    refine RW.seq ?_
    refine RW.region ?_
    refine RL.ev rfl rfl ev_move ?_
    refine RL.op rfl rfl (op_call1 Try.func22 rfl rfl rfl ((failed_calls _ _ g _ _ r_g).mono ?_))
    rintro _ _ ⟨rfl, rfl⟩
    refine RL.ev rfl rfl ev_assign ?_
    refine RL.nil ?_
    refine thenN ?_
    refine RW.seq ?_
    refine RW.seq ?_
    refine RW.region ?_
    refine RL.ev rfl rfl ev_assign ?_
    refine RL.nil ?_
    refine thenN ?_
    refine RW.block ?_
    refine RW.loop (fun k R w' => ∃ i : Nat, ∃ s : St, R 7 = .int .i64 (i : Int) ∧ R 1 = a ∧ R 5 = .pointer (some ⟨g, 0, none⟩) ∧ R 6 = vi s.2 ∧ (i + k = qs.length) ∧ (Rd 51 w' w.heap.size w1.heap.size g s) ∧ (Sane s) ∧ (s.1.length ≤ 500) ∧ (Ext w w') ∧ (w1.heap.size ≤ w'.heap.size)) qs.length ?_ ?_
    · exact ⟨0, s0, rfl, rfl, rfl, rfl, by omega, r_g, y3, by omega, hE4, by omega⟩
    · rintro k R w' ⟨i, s, hr7_, hr1_, hr5_, hr6_, hik, r_g, hsane, hsl, hE, hz⟩
      have hR_ : ∃ R0, R = (upd (upd (upd (upd R0 7 _) 1 _) 5 _) 6 _) := ⟨R, by rw [upd_self hr7_, upd_self hr1_, upd_self hr5_, upd_self hr6_]⟩
      obtain ⟨R0, rfl⟩ := hR_
      clear hr7_ hr1_ hr5_ hr6_
      have b_r_g := r_g.lt
      have hE20 := hE
      refine RW.seq ?_
      refine RW.seq ?_
      refine RW.region ?_
      refine RL.ev rfl rfl ev_move ?_
      refine RL.ev rfl rfl ev_move ?_
      refine RL.ev rfl rfl (ev_lenS Try.underlying23 (ha.ext hE) rfl) ?_
      refine RL.ev rfl rfl (ev_lss rfl rfl) ?_
      refine RL.nil ?_
      refine thenN ?_
      refine RW.condP _ rfl (fun hlt => ?_) (fun hlt => ?_)
      · skip
        refine RW.skip ?_
        refine thenN ?_
        refine RW.seq ?_
        refine RW.block ?_
        refine RW.seq ?_
        by_cases hbad : s.2 ≠ 0
        · skip
          refine RW.region ?_
          obtain ⟨ax, hget, hir⟩ : ∃ ax : Int, qs[(i : Int).toNat]? = some ax ∧ (-9223372036854775808 ≤ ax ∧ ax ≤ 9223372036854775807) := ⟨qs[(i : Int).toNat]'(by omega), List.getElem?_eq_getElem (by omega), hall _ (List.getElem_mem _)⟩
          refine RL.ev rfl rfl ev_move ?_
          refine RL.ev rfl rfl ev_move ?_
          refine RL.ev rfl rfl ev_move ?_
          refine RL.ev rfl rfl (ev_index Try.underlying23 sz3 (ha.ext hE20) rfl rfl (by omega) (by omega)) ?_
          refine RL.ev rfl rfl (ev_loadG (m := (i : Int).toNat) Try.underlying3 rfl (ha.ext hE20) rfl hget) ?_
          refine RL.op rfl rfl (op_call2 Try.func18 rfl rfl rfl rfl ((num_at r_g rfl (numR_bad _ hbad)).mono ?_))
          rintro _ w21 ⟨rfl, r_g, hm21, hs21⟩
          have hz21 := hm21.size
          have hE21 := hE20.then hm21 (fun i hi e => by omega)
          refine RL.ev rfl rfl ev_assign ?_
          refine RL.nil ?_
          refine thenN ?_
          refine RW.seq ?_
          refine RW.region ?_
          refine RL.ev rfl rfl ev_move ?_
          refine RL.ev rfl rfl ev_move ?_
          refine RL.ev rfl rfl ev_move ?_
          refine RL.ev rfl rfl (ev_index Try.underlying23 sz3 (ha.ext hE21) rfl rfl (by omega) (by omega)) ?_
          refine RL.ev rfl rfl (ev_loadG (m := (i : Int).toNat) Try.underlying3 rfl (ha.ext hE21) rfl hget) ?_
          refine RL.op rfl rfl (op_call2 Try.func23 rfl rfl rfl rfl ((rints_at r_g (by omega) (by omega) (by omega) (by omega) (intsR_bad _ hbad)).mono ?_))
          rintro vi2 w22 ⟨o_vi2, r_g, hm22⟩
          have hz22 := hm22.size
          have hE22 := hE21.then hm22 (fun i hi e => by omega)
          have b_o_vi2 := o_vi2.lt
          refine RL.ev rfl rfl ev_assign ?_
          refine RL.nil ?_
          refine thenN ?_
          refine RW.seq ?_
          refine RW.region ?_
          refine RL.ev rfl rfl ev_move ?_
          refine RL.ev rfl rfl ev_move ?_
          refine RL.ev rfl rfl ev_move ?_
          refine RL.ev rfl rfl (ev_index Try.underlying23 sz3 (ha.ext hE22) rfl rfl (by omega) (by omega)) ?_
          refine RL.ev rfl rfl (ev_loadG (m := (i : Int).toNat) Try.underlying3 rfl (ha.ext hE22) rfl hget) ?_
          refine RL.op rfl rfl (op_call2 Try.func21 rfl rfl rfl rfl ((rtext_at r_g (by omega) (by omega) (by omega) (by omega) (textR_bad _ hbad)).mono ?_))
          rintro _ w23 ⟨rfl, r_g, hm23⟩
          have hz23 := hm23.size
          have hE23 := hE22.then hm23 (fun i hi e => by omega)
          replace o_vi2 := o_vi2.mod hm23 (fun k hk e => by have := b_o_vi2 k hk; omega)
          refine RL.ev rfl rfl ev_assign ?_
          refine RL.nil ?_
          refine thenN ?_
          refine RW.seq ?_
          refine RW.seq ?_
          refine RW.region ?_
          refine RL.ev rfl rfl ev_move ?_
          refine RL.ev rfl rfl (ev_true (ev_neq rfl rfl) hbad) ?_
          refine RL.ev rfl rfl ev_move ?_
          refine RL.onEv rfl rfl (by decide) rfl rfl ev_move ?_
          refine RL.onEv rfl rfl (by decide) rfl rfl (ev_false (ev_neq rfl rfl) (by simp)) ?_
          refine RL.onEv rfl rfl (by decide) rfl rfl ev_move ?_
          refine RL.onEv rfl rfl (by decide) rfl rfl ev_move ?_
          refine RL.onEv rfl rfl (by decide) rfl rfl (ev_lenS Try.underlying23 o_vi2.sl rfl) ?_
          refine RL.onEv rfl rfl (by decide) rfl rfl (ev_false (ev_neq rfl rfl) (by simp)) ?_
          refine RL.onEv rfl rfl (by decide) rfl rfl (ev_pickF rfl) ?_
          refine RL.onEv rfl rfl (by decide) rfl rfl ev_move ?_
          refine RL.onEv rfl rfl (by decide) rfl rfl ev_move ?_
          refine RL.onEv rfl rfl (by decide) rfl rfl (ev_false (ev_strNe rfl rfl) (by simp)) ?_
          refine RL.onEv rfl rfl (by decide) rfl rfl (ev_pickF rfl) ?_
          refine RL.onEv rfl rfl (by decide) rfl rfl ev_move ?_
          refine RL.onEv rfl rfl (by decide) rfl rfl ev_move ?_
          refine RL.on rfl rfl (by decide) rfl rfl (op_call1 Try.func22 rfl rfl rfl ((failed_calls _ _ g _ _ r_g).mono ?_))
          rintro _ _ ⟨rfl, rfl⟩
          refine RL.onEv rfl rfl (by decide) rfl rfl ev_move ?_
          refine RL.onEv rfl rfl (by decide) rfl rfl (ev_false (ev_neq rfl rfl) (by simp)) ?_
          refine RL.onEv rfl rfl (by decide) rfl rfl (ev_pickF rfl) ?_
          refine RL.onEv rfl rfl (by decide) rfl rfl ev_move ?_
          refine RL.onEv rfl rfl (by decide) rfl rfl ev_move ?_
          refine RL.on rfl rfl (by decide) rfl rfl (op_call1 Try.func24 rfl rfl rfl ((left_calls _ _ g _ _ r_g).mono ?_))
          rintro _ _ ⟨rfl, rfl⟩
          refine RL.onEv rfl rfl (by decide) rfl rfl (ev_false (ev_neq rfl rfl) (by rw [hsane hbad]; decide)) ?_
          refine RL.onEv rfl rfl (by decide) rfl rfl (ev_pickF rfl) ?_
          refine RL.onEv rfl rfl (by decide) rfl rfl ev_move ?_
          refine RL.onEv rfl rfl (by decide) rfl rfl ev_move ?_
          refine RL.on rfl rfl (by decide) rfl rfl (op_call1 Try.func19 rfl rfl rfl ((end_at r_g (endR_bad hbad)).mono ?_))
          rintro _ _ ⟨rfl, rfl⟩
          refine RL.onEv rfl rfl (by decide) rfl rfl ev_move ?_
          refine RL.onEv rfl rfl (by decide) rfl rfl (ev_false (ev_neq rfl rfl) (by simp)) ?_
          refine RL.onEv rfl rfl (by decide) rfl rfl (ev_pickF rfl) ?_
          refine RL.ev rfl rfl (ev_pickT rfl) ?_
          refine RL.nil ?_
          refine thenN ?_
          refine RW.condF rfl ?_
          refine RW.skip ?_
          refine thenN ?_
          refine RW.region ?_
          refine RL.ev rfl rfl ev_move ?_
          refine RL.op rfl rfl (op_call1 Try.func22 rfl rfl rfl ((failed_calls _ _ g _ _ r_g).mono ?_))
          rintro _ _ ⟨rfl, rfl⟩
          refine RL.ev rfl rfl ev_assign ?_
          refine RL.nil ?_
          refine blockN ?_
          refine thenN ?_
          refine RW.region ?_
          refine RL.ev rfl rfl ev_move ?_
          refine RL.ev rfl rfl (ev_arith rfl rfl rfl (add64 (by omega) (by omega))) ?_
          refine RL.ev rfl rfl ev_assign ?_
          refine RL.nil ?_
          refine thenN ?_
          exact ⟨k - 1, by omega, i + 1, s, rfl, rfl, rfl, rfl, by omega, r_g, hsane, by omega, hE23, by omega⟩
        · skip
          refine RW.region ?_
          obtain ⟨ax, hget, hir⟩ : ∃ ax : Int, qs[(i : Int).toNat]? = some ax ∧ (-9223372036854775808 ≤ ax ∧ ax ≤ 9223372036854775807) := ⟨qs[(i : Int).toNat]'(by omega), List.getElem?_eq_getElem (by omega), hall _ (List.getElem_mem _)⟩
          refine RL.ev rfl rfl ev_move ?_
          refine RL.ev rfl rfl ev_move ?_
          refine RL.ev rfl rfl ev_move ?_
          refine RL.ev rfl rfl (ev_index Try.underlying23 sz3 (ha.ext hE20) rfl rfl (by omega) (by omega)) ?_
          refine RL.ev rfl rfl (ev_loadG (m := (i : Int).toNat) Try.underlying3 rfl (ha.ext hE20) rfl hget) ?_
          refine RL.op rfl rfl (op_call2 Try.func18 rfl rfl rfl rfl ((num_at r_g rfl (eta (numR s (clip ax)))).mono ?_))
          rintro _ w21 ⟨rfl, r_g, hm21, hs21⟩
          have hz21 := hm21.size
          have hE21 := hE20.then hm21 (fun i hi e => by omega)
          have q1 := num_sub s (clip ax)
          have y1 := sane_num hsane (clip ax)
          refine RL.ev rfl rfl ev_assign ?_
          refine RL.nil ?_
          refine thenN ?_
          refine RW.seq ?_
          refine RW.region ?_
          refine RL.ev rfl rfl ev_move ?_
          refine RL.ev rfl rfl ev_move ?_
          refine RL.ev rfl rfl ev_move ?_
          refine RL.ev rfl rfl (ev_index Try.underlying23 sz3 (ha.ext hE21) rfl rfl (by omega) (by omega)) ?_
          refine RL.ev rfl rfl (ev_loadG (m := (i : Int).toNat) Try.underlying3 rfl (ha.ext hE21) rfl hget) ?_
          refine RL.op rfl rfl (op_call2 Try.func23 rfl rfl rfl rfl ((rints_at r_g (by omega) (by omega) (by omega) (by omega) (eta (intsR (numR s (clip ax)).1 ax))).mono ?_))
          rintro vi2 w22 ⟨o_vi2, r_g, hm22⟩
          have hz22 := hm22.size
          have hE22 := hE21.then hm22 (fun i hi e => by omega)
          have b_o_vi2 := o_vi2.lt
          have q2 := ints_sub (numR s (clip ax)).1 ax
          have y2 := sane_ints y1 ax
          refine RL.ev rfl rfl ev_assign ?_
          refine RL.nil ?_
          refine thenN ?_
          refine RW.seq ?_
          refine RW.region ?_
          refine RL.ev rfl rfl ev_move ?_
          refine RL.ev rfl rfl ev_move ?_
          refine RL.ev rfl rfl ev_move ?_
          refine RL.ev rfl rfl (ev_index Try.underlying23 sz3 (ha.ext hE22) rfl rfl (by omega) (by omega)) ?_
          refine RL.ev rfl rfl (ev_loadG (m := (i : Int).toNat) Try.underlying3 rfl (ha.ext hE22) rfl hget) ?_
          refine RL.op rfl rfl (op_call2 Try.func21 rfl rfl rfl rfl ((rtext_at r_g (by omega) (by omega) (by omega) (by omega) (eta (textR (intsR (numR s (clip ax)).1 ax).1 ax))).mono ?_))
          rintro _ w23 ⟨rfl, r_g, hm23⟩
          have hz23 := hm23.size
          have hE23 := hE22.then hm23 (fun i hi e => by omega)
          replace o_vi2 := o_vi2.mod hm23 (fun k hk e => by have := b_o_vi2 k hk; omega)
          have q3 := text_sub (intsR (numR s (clip ax)).1 ax).1 ax
          have y3 := sane_text y2 ax
          refine RL.ev rfl rfl ev_assign ?_
          refine RL.nil ?_
          refine thenN ?_
          refine RW.seq ?_
          refine RW.seq ?_
          refine RW.region ?_
          refine RL.ev rfl rfl ev_move ?_
          refine RL.ev rfl rfl (ev_false (ev_neq rfl rfl) hbad) ?_
          refine RL.ev rfl rfl ev_move ?_
          refine RL.off rfl rfl (by decide) rfl rfl ?_
          refine RL.off rfl rfl (by decide) rfl rfl ?_
          refine RL.off rfl rfl (by decide) rfl rfl ?_
          refine RL.offU rfl rfl (by decide) rfl rfl ?_
          refine RL.offU rfl rfl (by decide) rfl rfl ?_
          refine RL.offU rfl rfl (by decide) rfl rfl ?_
          refine RL.off rfl rfl (by decide) rfl rfl ?_
          refine RL.off rfl rfl (by decide) rfl rfl ?_
          refine RL.offU rfl rfl (by decide) rfl rfl ?_
          refine RL.offU rfl rfl (by decide) rfl rfl ?_
          refine RL.off rfl rfl (by decide) rfl rfl ?_
          refine RL.off rfl rfl (by decide) rfl rfl ?_
          refine RL.offU rfl rfl (by decide) rfl rfl ?_
          refine RL.offU rfl rfl (by decide) rfl rfl ?_
          refine RL.offU rfl rfl (by decide) rfl rfl ?_
          refine RL.offU rfl rfl (by decide) rfl rfl ?_
          refine RL.off rfl rfl (by decide) rfl rfl ?_
          refine RL.off rfl rfl (by decide) rfl rfl ?_
          refine RL.offU rfl rfl (by decide) rfl rfl ?_
          refine RL.offU rfl rfl (by decide) rfl rfl ?_
          refine RL.offU rfl rfl (by decide) rfl rfl ?_
          refine RL.off rfl rfl (by decide) rfl rfl ?_
          refine RL.off rfl rfl (by decide) rfl rfl ?_
          refine RL.offU rfl rfl (by decide) rfl rfl ?_
          refine RL.offU rfl rfl (by decide) rfl rfl ?_
          refine RL.offU rfl rfl (by decide) rfl rfl ?_
          refine RL.offU rfl rfl (by decide) rfl rfl ?_
          refine RL.off rfl rfl (by decide) rfl rfl ?_
          refine RL.ev rfl rfl (ev_pickF rfl) ?_
          refine RL.nil ?_
          refine thenN ?_
          refine RW.condF rfl ?_
          refine RW.skip ?_
          refine thenN ?_
          refine RW.region ?_
          refine RL.ev rfl rfl ev_move ?_
          refine RL.op rfl rfl (op_call1 Try.func22 rfl rfl rfl ((failed_calls _ _ g _ _ r_g).mono ?_))
          rintro _ _ ⟨rfl, rfl⟩
          refine RL.ev rfl rfl ev_assign ?_
          refine RL.nil ?_
          refine blockN ?_
          refine thenN ?_
          refine RW.region ?_
          refine RL.ev rfl rfl ev_move ?_
          refine RL.ev rfl rfl (ev_arith rfl rfl rfl (add64 (by omega) (by omega))) ?_
          refine RL.ev rfl rfl ev_assign ?_
          refine RL.nil ?_
          refine thenN ?_
          exact ⟨k - 1, by omega, i + 1, (textR (intsR (numR s (clip ax)).1 ax).1 ax).1, rfl, rfl, rfl, rfl, by omega, r_g, y3, by omega, hE23, by omega⟩
      · skip
        refine RW.exit ?_
        refine thenX ?_
        refine thenX ?_
        refine blockHit ?_
        refine thenN ?_
        refine RW.seq ?_
        refine RW.region ?_
        refine RL.op rfl rfl (op_call0 Try.func9 rfl rfl ((known_calls _).mono ?_))
        rintro _ wk ⟨rfl, hek⟩
        refine RL.ev rfl rfl ev_assign ?_
        refine RL.nil ?_
        refine thenN ?_
        refine RW.ret ?_
        refine retI (RV.tmp rfl) ?_
        exact ⟨rfl, hE.trans hek⟩

end Go.Proofs.Ytjafkgajnohinaa
