import Derived.Test.YtjafkgajnohinaaCodecW3
set_option linter.unusedVariables false
set_option linter.unusedSimpArgs false
namespace Go.Proofs.Ytjafkgajnohinaa
open Go.RowKit Go.Rl

open Go.Codec
set_option maxHeartbeats 4000000 in
set_option maxRecDepth 100000 in
/-- postroad/postroadlaw02.CodecOwn -/
theorem codecOwn_calls (v : Value) (l : List UInt8) (b : Int) (w : World) (hv : Sl vb w v l) (hb0 : 0 ≤ b) (hb1 : b < 256) : Gives Try.prog 5 #[v, .int .u8 b] w fun r w' => r = .bool true ∧ Ext w w' := by
  refine Gives.start Try.func5 rfl (Nat.le_of_ble_eq_true rfl) ?_
  rw [args2]
  refine RW.seq ?_
  refine RW.region ?_
  have hlen := hv.len_le
  refine RL.ev rfl rfl ev_assign ?_
  refine RL.nil ?_
  refine thenN ?_
  refine RW.seq ?_
  refine RW.seq ?_
  refine RW.region ?_
  refine RL.ev rfl rfl ev_move ?_
  refine RL.ev rfl rfl (ev_lenS Try.underlying26 hv rfl) ?_
  refine RL.ev rfl rfl (ev_gtr rfl rfl) ?_
  refine RL.nil ?_
  refine thenN ?_
  refine RW.condP _ rfl (fun hbig => ?_) (fun hbig => ?_)
  · skip
    refine RW.seq ?_
    refine RW.region ?_
    refine RL.op rfl rfl (op_call0 Try.func9 rfl rfl ((known_calls _).mono ?_))
    rintro _ wk ⟨rfl, hek⟩
    refine RL.ev rfl rfl ev_assign ?_
    refine RL.nil ?_
    refine thenN ?_
    refine RW.ret ?_
    refine thenR ?_
    refine retI (RV.tmp rfl) ?_
    exact ⟨rfl, hek⟩
  · skip
    refine RW.skip ?_
    refine thenN ?_
    refine RW.seq ?_
    refine RW.region ?_
    refine RL.ev rfl rfl ev_move ?_
    refine RL.op rfl rfl (op_call1 Try.func20 rfl rfl rfl ((copy_calls v l _ hv (by omega)).mono ?_))
    rintro vx w1 ⟨o_x, he1⟩
    have hz1 := he1.size
    have hE1 := he1
    have b_o_x := o_x.lt
    refine RL.ev rfl rfl ev_assign ?_
    refine RL.nil ?_
    refine thenN ?_
    refine RW.seq ?_
    refine RW.region ?_
    refine RL.ev rfl rfl ev_move ?_
    refine RL.op rfl rfl (op_call1 Try.func17 rfl rfl rfl ((new_calls vx l _ o_x.sl (by omega)).mono ?_))
    rintro _ w2 ⟨gr, rfl, r_gr, he2⟩
    have hz2 := he2.size
    have hE2 := hE1.trans he2
    replace o_x := o_x.ext he2
    have b_r_gr := r_gr.lt
    refine RL.ev rfl rfl ev_assign ?_
    refine RL.nil ?_
    refine thenN ?_
    refine RW.seq ?_
    refine RW.region ?_
    refine RL.ev rfl rfl ev_move ?_
    refine RL.op rfl rfl (op_call1 Try.func17 rfl rfl rfl ((new_calls v l _ (hv.ext hE2) (by omega)).mono ?_))
    rintro _ w3 ⟨gs, rfl, r_gs, he3⟩
    have hz3 := he3.size
    have hE3 := hE2.trans he3
    replace o_x := o_x.ext he3
    replace r_gr := r_gr.ext he3
    have b_r_gs := r_gs.lt
    refine RL.ev rfl rfl ev_assign ?_
    refine RL.nil ?_
    refine thenN ?_
    refine RW.seq ?_
    refine RW.seq ?_
    refine RW.region ?_
    refine RL.ev rfl rfl ev_assign ?_
    refine RL.nil ?_
    refine thenN ?_
    refine RW.block ?_
    refine RW.loop (fun k R w' => ∃ i : Nat, ∃ lx : List UInt8, R 8 = .int .i64 (i : Int) ∧ R 0 = v ∧ R 1 = .int .u8 b ∧ R 5 = vx ∧ R 6 = .pointer (some ⟨gr, 0, none⟩) ∧ R 7 = .pointer (some ⟨gs, 0, none⟩) ∧ (i + k = l.length) ∧ (lx.length = l.length) ∧ (Own vb 5 w' w.heap.size vx lx) ∧ (Rl.Mod (fun b => vx.ownBlock = some b) w3 w')) l.length ?_ ?_
    · exact ⟨0, l, rfl, rfl, rfl, rfl, rfl, rfl, by omega, rfl, o_x, Mod.refl _ _⟩
    · rintro k R w' ⟨i, lx, hr8_, hr0_, hr1_, hr5_, hr6_, hr7_, hik, hlx, ox, hm⟩
      have hR_ : ∃ R0, R = (upd (upd (upd (upd (upd (upd R0 8 _) 0 _) 1 _) 5 _) 6 _) 7 _) := ⟨R, by rw [upd_self hr8_, upd_self hr0_, upd_self hr1_, upd_self hr5_, upd_self hr6_, upd_self hr7_]⟩
      obtain ⟨R0, rfl⟩ := hR_
      clear hr8_ hr0_ hr1_ hr5_ hr6_ hr7_
      refine RW.seq ?_
      refine RW.seq ?_
      refine RW.region ?_
      refine RL.ev rfl rfl ev_move ?_
      refine RL.ev rfl rfl ev_move ?_
      refine RL.ev rfl rfl (ev_lenS Try.underlying26 ox.sl rfl) ?_
      refine RL.ev rfl rfl (ev_lss rfl rfl) ?_
      refine RL.nil ?_
      refine thenN ?_
      refine RW.condP _ rfl (fun hlt => ?_) (fun hlt => ?_)
      · skip
        refine RW.skip ?_
        refine thenN ?_
        refine RW.seq ?_
        refine RW.block ?_
        refine RW.region ?_
        refine RL.ev rfl rfl ev_move ?_
        refine RL.ev rfl rfl ev_move ?_
        refine RL.ev rfl rfl (ev_index Try.underlying26 sz5 ox.sl rfl rfl (by omega) (by omega)) ?_
        refine RL.op rfl rfl (op_storeOwn (a := (77 : UInt8)) sz5 ox rfl (by omega) rfl rfl rfl rfl ?_)
        intro w5 ox5 hm5 hs5
        refine RL.nil ?_
        refine blockN ?_
        refine thenN ?_
        refine RW.region ?_
        refine RL.ev rfl rfl ev_move ?_
        refine RL.ev rfl rfl (ev_arith rfl rfl rfl (add64 (by omega) (by omega))) ?_
        refine RL.ev rfl rfl ev_assign ?_
        refine RL.nil ?_
        refine thenN ?_
        exact ⟨k - 1, by omega, i + 1, _, rfl, rfl, rfl, rfl, rfl, rfl, by omega, by rw [List.length_set]; exact hlx, ox5, Mod.trans hm hm5 (fun _ _ => id) (fun _ _ => id)⟩
      · skip
        refine RW.exit ?_
        refine thenX ?_
        refine thenX ?_
        refine blockHit ?_
        refine thenN ?_
        refine RW.seq ?_
        refine RW.region ?_
        have hw4 : True := trivial
        have hz4 := hm.size
        have hE4 := hE3.then hm (fun i hi e => by have := b_o_x i e; omega)
        replace r_gr := r_gr.mod hm (fun k h1 h2 e => by have := b_o_x k e; omega)
        replace r_gs := r_gs.mod hm (fun k h1 h2 e => by have := b_o_x k e; omega)
        refine RL.ev rfl rfl ev_move ?_
        refine RL.op rfl rfl (op_call1 Try.func17 rfl rfl rfl ((new_calls v l _ (hv.ext hE4) (by omega)).mono ?_))
        rintro _ w5 ⟨g3, rfl, r_g3, he5⟩
        have hz5 := he5.size
        have hE5 := hE4.trans he5
        replace r_gr := r_gr.ext he5
        replace r_gs := r_gs.ext he5
        have b_r_g3 := r_g3.lt
        refine RL.ev rfl rfl ev_move ?_
        refine RL.ev rfl rfl (ev_conv Try.underlying5 Try.underlying3 rfl (wrap_i64 (by omega) (by omega))) ?_
        refine RL.ev rfl rfl (ev_arith rfl rfl rfl (add64 (by omega) (by omega))) ?_
        refine RL.op rfl rfl (op_call2 Try.func18 rfl rfl rfl rfl ((num_at r_g3 (clip_big b hb0) (eta (numR (l, 0) 8))).mono ?_))
        rintro _ w6 ⟨rfl, r_g3, hm6, hs6⟩
        have hz6 := hm6.size
        have hE6 := hE5.then hm6 (fun i hi e => by omega)
        replace r_gr := r_gr.mod hm6 (fun k h1 h2 e => by omega)
        replace r_gs := r_gs.mod hm6 (fun k h1 h2 e => by omega)
        refine RL.ev rfl rfl ev_assign ?_
        refine RL.nil ?_
        refine thenN ?_
        refine RW.seq ?_
        refine RW.region ?_
        refine RL.ev rfl rfl ev_move ?_
        refine RL.op rfl rfl (op_call2 Try.func18 rfl rfl rfl rfl ((num_at r_gr (show clip 3 = 3 from rfl) (eta (numR (l, 0) 3))).mono ?_))
        rintro _ w7 ⟨rfl, r_gr, hm7, hs7⟩
        have hz7 := hm7.size
        have hE7 := hE6.then hm7 (fun i hi e => by omega)
        replace r_gs := r_gs.mod hm7 (fun k h1 h2 e => by omega)
        replace r_g3 := r_g3.mod hm7 (fun k h1 h2 e => by omega)
        refine RL.ev rfl rfl ev_move ?_
        refine RL.op rfl rfl (op_call2 Try.func18 rfl rfl rfl rfl ((num_at r_gs (show clip 3 = 3 from rfl) (eta (numR (l, 0) 3))).mono ?_))
        rintro _ w8 ⟨rfl, r_gs, hm8, hs8⟩
        have hz8 := hm8.size
        have hE8 := hE7.then hm8 (fun i hi e => by omega)
        replace r_gr := r_gr.mod hm8 (fun k h1 h2 e => by omega)
        replace r_g3 := r_g3.mod hm8 (fun k h1 h2 e => by omega)
        have hsub := num_sub (l, 0) 3
        simp only at hsub
        refine RL.ev rfl rfl (ev_true (ev_eql rfl rfl) rfl) ?_
        refine RL.ev rfl rfl ev_move ?_
        refine RL.onEv rfl rfl (by decide) rfl rfl ev_move ?_
        refine RL.on rfl rfl (by decide) rfl rfl (op_call2 Try.func21 rfl rfl rfl rfl ((rtext_calls _ _ gr _ 100 _ r_gr (by omega) (by omega) (by omega) (by omega)).mono ?_))
        rintro _ w9 ⟨rfl, r_gr, hm9⟩
        have hz9 := hm9.size
        have hE9 := hE8.then hm9 (fun i hi e => by omega)
        replace r_gs := r_gs.mod hm9 (fun k h1 h2 e => by omega)
        replace r_g3 := r_g3.mod hm9 (fun k h1 h2 e => by omega)
        refine RL.onEv rfl rfl (by decide) rfl rfl ev_move ?_
        refine RL.on rfl rfl (by decide) rfl rfl (op_call2 Try.func21 rfl rfl rfl rfl ((rtext_calls _ _ gs _ 100 _ r_gs (by omega) (by omega) (by omega) (by omega)).mono ?_))
        rintro _ w10 ⟨rfl, r_gs, hm10⟩
        have hz10 := hm10.size
        have hE10 := hE9.then hm10 (fun i hi e => by omega)
        replace r_gr := r_gr.mod hm10 (fun k h1 h2 e => by omega)
        replace r_g3 := r_g3.mod hm10 (fun k h1 h2 e => by omega)
        refine RL.onEv rfl rfl (by decide) rfl rfl (ev_true (ev_strEq rfl rfl) rfl) ?_
        refine RL.ev rfl rfl (ev_pickT rfl) ?_
        refine RL.ev rfl rfl ev_move ?_
        refine RL.onEv rfl rfl (by decide) rfl rfl ev_move ?_
        refine RL.on rfl rfl (by decide) rfl rfl (op_call1 Try.func22 rfl rfl rfl ((failed_calls _ _ gr _ _ r_gr).mono ?_))
        rintro _ _ ⟨rfl, rfl⟩
        refine RL.onEv rfl rfl (by decide) rfl rfl ev_move ?_
        refine RL.on rfl rfl (by decide) rfl rfl (op_call1 Try.func22 rfl rfl rfl ((failed_calls _ _ gs _ _ r_gs).mono ?_))
        rintro _ _ ⟨rfl, rfl⟩
        refine RL.onEv rfl rfl (by decide) rfl rfl (ev_true (ev_eql rfl rfl) rfl) ?_
        refine RL.ev rfl rfl (ev_pickT rfl) ?_
        refine RL.ev rfl rfl ev_move ?_
        refine RL.onEv rfl rfl (by decide) rfl rfl ev_move ?_
        refine RL.onEv rfl rfl (by decide) rfl rfl ev_move ?_
        refine RL.on rfl rfl (by decide) rfl rfl (op_call1 Try.func17 rfl rfl rfl ((new_calls v l _ (hv.ext hE10) (by omega)).mono ?_))
        rintro _ w11 ⟨g4, rfl, r_g4, he11⟩
        have hz11 := he11.size
        have hE11 := hE10.trans he11
        replace r_gr := r_gr.ext he11
        replace r_gs := r_gs.ext he11
        replace r_g3 := r_g3.ext he11
        have b_r_g4 := r_g4.lt
        refine RL.on rfl rfl (by decide) rfl rfl (op_call2 Try.func18 rfl rfl rfl rfl ((num_at r_g4 clip_8 (eta (numR (l, 0) 8))).mono ?_))
        rintro _ w12 ⟨rfl, r_g4, hm12, hs12⟩
        have hz12 := hm12.size
        have hE12 := hE11.then hm12 (fun i hi e => by omega)
        replace r_gr := r_gr.mod hm12 (fun k h1 h2 e => by omega)
        replace r_gs := r_gs.mod hm12 (fun k h1 h2 e => by omega)
        replace r_g3 := r_g3.mod hm12 (fun k h1 h2 e => by omega)
        refine RL.onEv rfl rfl (by decide) rfl rfl (ev_true (ev_eql rfl rfl) rfl) ?_
        refine RL.ev rfl rfl (ev_pickT rfl) ?_
        refine RL.ev rfl rfl ev_move ?_
        refine RL.onEv rfl rfl (by decide) rfl rfl ev_move ?_
        refine RL.on rfl rfl (by decide) rfl rfl (op_call1 Try.func17 rfl rfl rfl ((new_calls v l _ (hv.ext hE12) (by omega)).mono ?_))
        rintro _ w13 ⟨g5, rfl, r_g5, he13⟩
        have hz13 := he13.size
        have hE13 := hE12.trans he13
        replace r_gr := r_gr.ext he13
        replace r_gs := r_gs.ext he13
        replace r_g3 := r_g3.ext he13
        replace r_g4 := r_g4.ext he13
        have b_r_g5 := r_g5.lt
        refine RL.onEv rfl rfl (by decide) rfl rfl ev_move ?_
        refine RL.onEv rfl rfl (by decide) rfl rfl (ev_conv Try.underlying5 Try.underlying3 rfl (wrap_i64 (by omega) (by omega))) ?_
        refine RL.onEv rfl rfl (by decide) rfl rfl (ev_neg rfl ((sub64 (by omega) (by omega)).trans (Int.zero_sub b))) ?_
        refine RL.on rfl rfl (by decide) rfl rfl (op_call2 Try.func18 rfl rfl rfl rfl ((num_at r_g5 (clip_neg b hb0) (Prod.ext rfl (numR_none (l, 0)))).mono ?_))
        rintro _ w14 ⟨rfl, r_g5, hm14, hs14⟩
        have hz14 := hm14.size
        have hE14 := hE13.then hm14 (fun i hi e => by omega)
        replace r_gr := r_gr.mod hm14 (fun k h1 h2 e => by omega)
        replace r_gs := r_gs.mod hm14 (fun k h1 h2 e => by omega)
        replace r_g3 := r_g3.mod hm14 (fun k h1 h2 e => by omega)
        replace r_g4 := r_g4.mod hm14 (fun k h1 h2 e => by omega)
        refine RL.onEv rfl rfl (by decide) rfl rfl (ev_true (ev_eql rfl rfl) rfl) ?_
        refine RL.ev rfl rfl (ev_pickT rfl) ?_
        refine RL.ev rfl rfl ev_move ?_
        refine RL.on rfl rfl (by decide) rfl rfl (op_call0 Try.func9 rfl rfl ((known_calls _).mono ?_))
        rintro _ wk ⟨rfl, hek⟩
        refine RL.ev rfl rfl (ev_pickT rfl) ?_
        refine RL.ev rfl rfl ev_assign ?_
        refine RL.nil ?_
        refine thenN ?_
        refine RW.ret ?_
        refine retI (RV.tmp rfl) ?_
        exact ⟨rfl, hE14.trans hek⟩

end Go.Proofs.Ytjafkgajnohinaa
