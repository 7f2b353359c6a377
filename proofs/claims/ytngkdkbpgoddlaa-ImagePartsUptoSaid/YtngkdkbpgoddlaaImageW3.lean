import Derived.Test.YtngkdkbpgoddlaaImageW2
set_option linter.unusedVariables false
set_option linter.unusedSimpArgs false
namespace Go.Proofs.Ytngkdkbpgoddlaa
open Go.RowKit Go.Rl

open Go.Codec Go.Crc
set_option maxHeartbeats 4000000 in
set_option maxRecDepth 100000 in
/-- postroad/postroadlaw17.known -/
theorem known_calls (w : World) : Gives Try.prog 5 #[] w fun r w' => r = .bool true ∧ Ext w w' := by
  refine Gives.start Try.func5 rfl (Nat.le_of_ble_eq_true rfl) ?_
  rw [args0]
  have hN := Now.nil w none_
  refine RW.seq ?_
  refine RW.region ?_
  refine RL.ev rfl rfl ev_assign ?_
  refine RL.nil ?_
  refine thenN ?_
  refine RW.seq ?_
  refine RW.region ?_
  refine RL.op rfl rfl (opN_lit0 vb Try.underlying23 sz5 rfl hN ?_)
  intro v1 w1 hN_
  clear hN
  have hN : Now w none_ w1 [_] := hN_
  clear hN_
  have hOb_ := (hN.slr 0 rfl).hd
  obtain ⟨h3, hq_⟩ := hOb_
  subst hq_
  refine RL.op rfl rfl (opN_lit (enc := vh) (l := [h3]) (xs := [.tmp 2]) Try.underlying22 sz23 zr23 rfl rfl (fun _ => rfl) rfl (by decide) (by decide) hN ?_)
  intro g2 w2 hN_
  clear hN
  have hN : Now w none_ w2 [_, _] := hN_
  clear hN_
  refine RL.op rfl rfl (op_call1 Try.func6 rfl rfl rfl ((join_calls _ ([h3]) [[]] _ (hN.sl 0 rfl) (Els.cons (hN.slr 1 rfl) (Off.none _ _) (Els.nil _ _ _)) (by decide)).mono ?_))
  rintro v4 w4 ⟨ho_, he_⟩
  have hN_ := hN.pushOwn (l := joinB [[]]) ho_ he_
  clear ho_ he_
  clear hN
  have hN : Now w none_ w4 [_, _, _] := hN_
  clear hN_
  replace hN := hN.relist 0 rfl (show _ = [4, 0, 0, 0, 0, 0, 0, 0] from joinKnown)
  replace hN : Now w none_ w4 [_, _, _] := hN
  refine RL.ev rfl rfl ev_assign ?_
  refine RL.nil ?_
  refine thenN ?_
  refine RW.seq ?_
  refine RW.region ?_
  refine RL.op rfl rfl (op_call1 Try.func6 rfl rfl rfl ((join_calls _ [] [] _ (Sl.nil _ _) (Els.nil _ _ _) (by decide)).mono ?_))
  rintro v5 w5 ⟨ho_, he_⟩
  have hN_ := hN.pushOwn (l := joinB []) ho_ he_
  clear ho_ he_
  clear hN
  have hN : Now w none_ w5 [_, _, _, _] := hN_
  clear hN_
  have hL_6 := (hN.sl 0 rfl).len_le
  refine RL.ev rfl rfl (ev_lenS Try.underlying23 (hN.sl 0 rfl) rfl) ?_
  refine RL.ev rfl rfl (ev_true (ev_eql rfl rfl) rfl) ?_
  refine RL.ev rfl rfl ev_move ?_
  refine RL.onEv rfl rfl (by decide) rfl rfl ev_move ?_
  have hL_7 := (hN.sl 1 rfl).len_le
  refine RL.onEv rfl rfl (by decide) rfl rfl (ev_lenS Try.underlying23 (hN.sl 1 rfl) rfl) ?_
  refine RL.onEv rfl rfl (by decide) rfl rfl (ev_true (ev_eql rfl rfl) rfl) ?_
  refine RL.ev rfl rfl (ev_pickT rfl) ?_
  refine RL.ev rfl rfl ev_move ?_
  refine RL.onEv rfl rfl (by decide) rfl rfl ev_move ?_
  refine RL.onEv rfl rfl (by decide) rfl rfl (ev_index Try.underlying23 sz5 (hN.sl 1 rfl) rfl rfl (by decide) (by decide)) ?_
  refine RL.onEv rfl rfl (by decide) rfl rfl (ev_loadG (m := 0) (a := 4) Try.underlying5 rfl (hN.sl 1 rfl) rfl rfl) ?_
  refine RL.onEv rfl rfl (by decide) rfl rfl (ev_true (ev_eql rfl rfl) rfl) ?_
  refine RL.ev rfl rfl (ev_pickT rfl) ?_
  refine RL.ev rfl rfl ev_move ?_
  refine RL.onEv rfl rfl (by decide) rfl rfl ev_move ?_
  refine RL.onEv rfl rfl (by decide) rfl rfl (ev_index Try.underlying23 sz5 (hN.sl 1 rfl) rfl rfl (by decide) (by decide)) ?_
  refine RL.onEv rfl rfl (by decide) rfl rfl (ev_loadG (m := 7) (a := 0) Try.underlying5 rfl (hN.sl 1 rfl) rfl rfl) ?_
  refine RL.onEv rfl rfl (by decide) rfl rfl (ev_true (ev_eql rfl rfl) rfl) ?_
  refine RL.ev rfl rfl (ev_pickT rfl) ?_
  refine RL.ev rfl rfl ev_move ?_
  refine RL.onEv rfl rfl (by decide) rfl rfl ev_move ?_
  refine RL.on rfl rfl (by decide) rfl rfl (op_call1 Try.func11 rfl rfl rfl ((parts_calls _ ([4, 0, 0, 0, 0, 0, 0, 0]) _ (hN.sl 1 rfl) (by decide)).mono ?_))
  rintro v10 w10 ⟨hs10, hC_⟩
  have hN_ := hN.call0 hC_
  clear hC_
  clear hN
  have hN : Now w none_ w10 [_, _, _, _, _, _] := hN_
  clear hN_
  have hp_ := parts_join [[]] (by decide)
  rw [joinKnown] at hp_
  have hel_ := (hN.els 1 rfl).1
  rw [hp_] at hel_
  have hL_11 := (hN.sl 0 rfl).len_le
  refine RL.onEv rfl rfl (by decide) rfl rfl (ev_lenS Try.underlying22 (hN.sl 0 rfl) rfl) ?_
  refine RL.onEv rfl rfl (by decide) rfl rfl (ev_true (ev_eql rfl rfl) (by rw [hel_]; rfl)) ?_
  refine RL.ev rfl rfl (ev_pickT rfl) ?_
  refine RL.ev rfl rfl ev_assign ?_
  refine RL.nil ?_
  refine thenN ?_
  refine RW.ret ?_
  refine retI (RV.tmp rfl) ?_
  exact ⟨rfl, hN.ext0⟩

set_option maxHeartbeats 4000000 in
set_option maxRecDepth 100000 in
/-- postroad/postroadlaw17.ImageParts -/
theorem imageParts_calls (v0 b : Value) (hs0 : List Hd) (ls0 : List (List UInt8)) (bl : List UInt8) (w : World) (h0 : Sl vh w v0 hs0) (hel0 : Els none_ vb w hs0 ls0) (hb : Sl vb w b bl) (hM : massB ls0 ≤ 8388608) (hB : bl.length ≤ 1048576) : Gives Try.prog 3 #[v0, b] w fun r w' => r = .bool true ∧ Ext w w' := by
  refine Gives.start Try.func3 rfl (Nat.le_of_ble_eq_true rfl) ?_
  rw [args2]
  have hN := Now.nil w none_
  have hl0 := hel0.1
  have hm8 := massB_len ls0
  refine RW.seq ?_
  refine RW.region ?_
  refine RL.ev rfl rfl ev_assign ?_
  refine RL.nil ?_
  refine thenN ?_
  refine RW.seq ?_
  refine RW.region ?_
  refine RL.ev rfl rfl ev_move ?_
  have hL_1 := (hb.ext hN.ext0).len_le
  refine RL.ev rfl rfl (ev_lenS Try.underlying23 (hb.ext hN.ext0) rfl) ?_
  refine RL.ev rfl rfl ev_assign ?_
  refine RL.nil ?_
  refine thenN ?_
  refine RW.seq ?_
  refine RW.seq ?_
  refine RW.region ?_
  refine RL.ev rfl rfl ev_assign ?_
  refine RL.nil ?_
  refine thenN ?_
  refine RW.block ?_
  refine RW.loop (fun k R0 w0' => ∃ z : Int, ∃ i : Nat, R0 0 = v0 ∧ R0 1 = b ∧ R0 5 = .int .i64 (z) ∧ R0 6 = .int .i64 ((i : Int)) ∧ Now w none_ w0' [] ∧ (i + k = hs0.length) ∧ (z = ((bl.length + massB (ls0.take i) : Nat) : Int))) (hs0.length) ?_ ?_
  · skip
    exact ⟨(bl.length : Int), 0, rfl, rfl, rfl, rfl, hN, by omega, by simp [massB]⟩
  · skip
    clear hN
    rintro k R0 w0' ⟨z, i, hr0_, hr1_, hr5_, hr6_, hN, hik, hz⟩
    have hR_ : ∃ R0_, R0 = (upd (upd (upd (upd R0_ 0 _) 1 _) 5 _) 6 _) := ⟨R0, by rw [upd_self hr0_, upd_self hr1_, upd_self hr5_, upd_self hr6_]⟩
    obtain ⟨R0_, rfl⟩ := hR_
    clear hr0_ hr1_ hr5_ hr6_
    refine RW.seq ?_
    refine RW.seq ?_
    refine RW.region ?_
    refine RL.ev rfl rfl ev_move ?_
    refine RL.ev rfl rfl ev_move ?_
    have hL_2 := (h0.ext hN.ext0).len_le
    refine RL.ev rfl rfl (ev_lenS Try.underlying22 (h0.ext hN.ext0) rfl) ?_
    refine RL.ev rfl rfl (ev_lss rfl rfl) ?_
    refine RL.nil ?_
    refine thenN ?_
    refine RW.condP _ rfl (fun hlt => ?_) (fun hlt => ?_)
    · skip
      refine RW.skip ?_
      refine thenN ?_
      refine RW.seq ?_
      refine RW.block ?_
      refine RW.region ?_
      refine RL.ev rfl rfl ev_move ?_
      refine RL.ev rfl rfl ev_move ?_
      refine RL.ev rfl rfl ev_move ?_
      refine RL.ev rfl rfl (ev_index Try.underlying22 sz23 (h0.ext hN.ext0) rfl rfl (by omega) (by omega)) ?_
      obtain ⟨ap, hap⟩ : ∃ a_, (hs0)[i]? = some a_ := ⟨_, List.getElem?_eq_getElem (by omega)⟩
      obtain ⟨lp, hlp⟩ : ∃ l_, (ls0)[i]? = some l_ := ⟨_, List.getElem?_eq_getElem (by have := hel0.1; omega)⟩
      refine RL.ev rfl rfl (ev_loadG (m := i) (a := ap) Try.underlying23 rfl (h0.ext hN.ext0) rfl hap) ?_
      have hmt := massB_take hlp
      have hml := massB_le ls0 (i + 1)
      have hL_3 := ((hel0.2 _ _ _ hap hlp).1.ext hN.ext0).len_le
      refine RL.ev rfl rfl (ev_lenS Try.underlying23 ((hel0.2 _ _ _ hap hlp).1.ext hN.ext0) rfl) ?_
      refine RL.ev rfl rfl (ev_arith rfl rfl rfl (add64 (by omega) (by omega))) ?_
      refine RL.ev rfl rfl (ev_arith rfl rfl rfl (add64 (by omega) (by omega))) ?_
      refine RL.ev rfl rfl ev_assign ?_
      refine RL.nil ?_
      refine blockN ?_
      refine thenN ?_
      refine RW.region ?_
      refine RL.ev rfl rfl ev_move ?_
      refine RL.ev rfl rfl (ev_arith rfl rfl rfl (add64 (by omega) (by omega))) ?_
      refine RL.ev rfl rfl ev_assign ?_
      refine RL.nil ?_
      refine thenN ?_
      exact ⟨k - 1, by omega, z + (lp.length : Int) + 8, i + 1, rfl, rfl, rfl, rfl, hN, by omega, by rw [hz, hmt]; omega⟩
    · skip
      refine RW.exit ?_
      refine thenX ?_
      refine thenX ?_
      refine blockHit ?_
      refine thenN ?_
      refine RW.seq ?_
      refine RW.seq ?_
      refine RW.region ?_
      refine RL.ev rfl rfl ev_move ?_
      refine RL.ev rfl rfl (ev_gtr rfl rfl) ?_
      refine RL.nil ?_
      refine thenN ?_
      refine RW.condP _ rfl (fun hbig => ?_) (fun hbig => ?_)
      · skip
        refine RW.seq ?_
        refine RW.region ?_
        refine RL.op rfl rfl (op_call0 Try.func5 rfl rfl ((known_calls _).mono ?_))
        rintro _ w4 ⟨rfl, he_⟩
        replace hN := hN.ext he_
        clear he_
        refine RL.ev rfl rfl ev_assign ?_
        refine RL.nil ?_
        refine thenN ?_
        refine RW.ret ?_
        refine thenR ?_
        refine retI (RV.tmp rfl) ?_
        exact ⟨rfl, hN.ext0⟩
      · skip
        refine RW.skip ?_
        refine thenN ?_
        refine RW.seq ?_
        have hi_ : i = hs0.length := by omega
        rw [hi_, List.take_of_length_le (by omega)] at hz
        have hjl := joinB_length ls0
        have hpj := parts_join ls0 (by omega)
        refine RW.region ?_
        refine RL.ev rfl rfl ev_move ?_
        refine RL.op rfl rfl (op_call1 Try.func6 rfl rfl rfl ((join_calls _ hs0 ls0 _ (h0.ext hN.ext0) (hel0.ext hN.ext0) (by omega)).mono ?_))
        rintro v5 w5 ⟨ho_, he_⟩
        have hN_ := hN.pushOwn (l := joinB ls0) ho_ he_
        clear ho_ he_
        clear hN
        have hN : Now w none_ w5 [_] := hN_
        clear hN_
        refine RL.ev rfl rfl ev_assign ?_
        refine RL.nil ?_
        refine thenN ?_
        refine RW.seq ?_
        refine RW.region ?_
        refine RL.ev rfl rfl ev_move ?_
        refine RL.op rfl rfl (op_call1 Try.func7 rfl rfl rfl ((refParts_calls _ bl _ (hb.ext hN.ext0) (by omega)).mono ?_))
        rintro _ w6 ⟨v6, hs6, rfl, hC_⟩
        have hN_ := hN.call0 hC_
        clear hC_
        clear hN
        have hN : Now w none_ w6 [_, _, _] := hN_
        clear hN_
        refine RL.ev rfl rfl ev_move ?_
        refine RL.ev rfl rfl (ev_extract rfl rfl) ?_
        refine RL.ev rfl rfl (ev_extract rfl rfl) ?_
        refine RL.ev rfl rfl ev_assign ?_
        refine RL.ev rfl rfl ev_assign ?_
        refine RL.nil ?_
        refine thenN ?_
        refine RW.seq ?_
        refine RW.region ?_
        refine RL.ev rfl rfl ev_move ?_
        refine RL.ev rfl rfl ev_move ?_
        refine RL.op rfl rfl (op_call1 Try.func9 rfl rfl rfl ((refJoin_calls _ hs0 ls0 _ (h0.ext hN.ext0) (hel0.ext hN.ext0) (by omega)).mono ?_))
        rintro v7 w7 ⟨ho_, he_⟩
        have hN_ := hN.pushOwn (l := joinB ls0) ho_ he_
        clear ho_ he_
        clear hN
        have hN : Now w none_ w7 [_, _, _, _] := hN_
        clear hN_
        refine RL.op rfl rfl (op_call2 Try.func8 rfl rfl rfl rfl ((same_true (hN.sl 3 rfl) (hN.sl 0 rfl) rfl).mono ?_))
        rintro _ _ ⟨rfl, rfl⟩
        refine RL.ev rfl rfl ev_move ?_
        refine RL.onEv rfl rfl (by decide) rfl rfl ev_move ?_
        refine RL.on rfl rfl (by decide) rfl rfl (op_call1 Try.func11 rfl rfl rfl ((parts_calls _ (joinB ls0) _ (hN.sl 3 rfl) (by omega)).mono ?_))
        rintro v9 w9 ⟨hs9, hC_⟩
        have hN_ := hN.call0 hC_
        clear hC_
        clear hN
        have hN : Now w none_ w9 [_, _, _, _, _, _] := hN_
        clear hN_
        refine RL.onEv rfl rfl (by decide) rfl rfl ev_move ?_
        refine RL.on rfl rfl (by decide) rfl rfl (op_call2 Try.func10 rfl rfl rfl rfl ((sameLists_true (hN.sl 0 rfl) (hN.els 1 rfl) (h0.ext hN.ext0) (hel0.ext hN.ext0) hpj).mono ?_))
        rintro _ w10 ⟨rfl, he_⟩
        replace hN := hN.ext he_
        clear he_
        refine RL.ev rfl rfl (ev_pickT rfl) ?_
        refine RL.ev rfl rfl ev_move ?_
        refine RL.onEv rfl rfl (by decide) rfl rfl ev_move ?_
        refine RL.on rfl rfl (by decide) rfl rfl (op_call1 Try.func11 rfl rfl rfl ((parts_calls _ bl _ (hb.ext hN.ext0) (by omega)).mono ?_))
        rintro v11 w11 ⟨hs11, hC_⟩
        have hN_ := hN.call0 hC_
        clear hC_
        clear hN
        have hN : Now w none_ w11 [_, _, _, _, _, _, _, _] := hN_
        clear hN_
        refine RL.onEv rfl rfl (by decide) rfl rfl ev_move ?_
        refine RL.on rfl rfl (by decide) rfl rfl (op_call2 Try.func10 rfl rfl rfl rfl ((sameLists_true (hN.sl 0 rfl) (hN.els 1 rfl) (hN.sl 5 rfl) (hN.els 6 rfl) rfl).mono ?_))
        rintro _ w12 ⟨rfl, he_⟩
        replace hN := hN.ext he_
        clear he_
        refine RL.ev rfl rfl (ev_pickT rfl) ?_
        refine RL.ev rfl rfl ev_move ?_
        refine RL.on rfl rfl (by decide) rfl rfl (op_call0 Try.func5 rfl rfl ((known_calls _).mono ?_))
        rintro _ w13 ⟨rfl, he_⟩
        replace hN := hN.ext he_
        clear he_
        refine RL.ev rfl rfl (ev_pickT rfl) ?_
        refine RL.ev rfl rfl ev_assign ?_
        refine RL.nil ?_
        refine thenN ?_
        refine RW.ret ?_
        refine retI (RV.tmp rfl) ?_
        exact ⟨rfl, hN.ext0⟩

set_option maxHeartbeats 4000000 in
set_option maxRecDepth 100000 in
/-- postroad/postroadlaw17.ImageJoins -/
theorem imageJoins_calls (v0 v1 : Value) (hs0 hs1 : List Hd) (ls0 ls1 : List (List UInt8)) (w : World) (h0 : Sl vh w v0 hs0) (hel0 : Els none_ vb w hs0 ls0) (h1 : Sl vh w v1 hs1) (hel1 : Els none_ vb w hs1 ls1) (hM : massB ls0 + massB ls1 ≤ 8388608) : Gives Try.prog 4 #[v0, v1] w fun r w' => r = .bool true ∧ Ext w w' := by
  refine Gives.start Try.func4 rfl (Nat.le_of_ble_eq_true rfl) ?_
  rw [args2]
  have hN := Now.nil w none_
  have hl0 := hel0.1
  have hm8 := massB_len ls0
  have hl1 := hel1.1
  have hm81 := massB_len ls1
  refine RW.seq ?_
  refine RW.region ?_
  refine RL.ev rfl rfl ev_assign ?_
  refine RL.nil ?_
  refine thenN ?_
  refine RW.seq ?_
  refine RW.region ?_
  refine RL.ev rfl rfl ev_assign ?_
  refine RL.nil ?_
  refine thenN ?_
  refine RW.seq ?_
  refine RW.region ?_
  refine RL.ev rfl rfl ev_assign ?_
  refine RL.nil ?_
  refine thenN ?_
  refine RW.seq ?_
  refine RW.seq ?_
  refine RW.region ?_
  refine RL.ev rfl rfl ev_assign ?_
  refine RL.nil ?_
  refine thenN ?_
  refine RW.block ?_
  replace hN := hN.addNil vh 23
  refine RW.loop (fun k R0 w0' => ∃ z : Int, ∃ va : Value, ∃ acc : List Hd, ∃ i : Nat, R0 0 = v0 ∧ R0 1 = v1 ∧ R0 5 = .int .i64 (z) ∧ R0 6 = va ∧ R0 7 = .int .i64 ((i : Int)) ∧ Now w none_ w0' [.own vh 23 (va) (acc)] ∧ (i + k = hs0.length) ∧ (z = ((massB (ls0.take i) : Nat) : Int)) ∧ (acc = hs0.take i)) (hs0.length) ?_ ?_
  · skip
    exact ⟨0, .slice none 0 0, [], 0, rfl, rfl, rfl, rfl, rfl, hN, by omega, by simp [massB], rfl⟩
  · skip
    clear hN
    rintro k R0 w0' ⟨z, va, acc, i, hr0_, hr1_, hr5_, hr6_, hr7_, hN, hik, hz, ha⟩
    have hR_ : ∃ R0_, R0 = (upd (upd (upd (upd (upd R0_ 0 _) 1 _) 5 _) 6 _) 7 _) := ⟨R0, by rw [upd_self hr0_, upd_self hr1_, upd_self hr5_, upd_self hr6_, upd_self hr7_]⟩
    obtain ⟨R0_, rfl⟩ := hR_
    clear hr0_ hr1_ hr5_ hr6_ hr7_
    refine RW.seq ?_
    refine RW.seq ?_
    refine RW.region ?_
    refine RL.ev rfl rfl ev_move ?_
    refine RL.ev rfl rfl ev_move ?_
    have hL_2 := (h0.ext hN.ext0).len_le
    refine RL.ev rfl rfl (ev_lenS Try.underlying22 (h0.ext hN.ext0) rfl) ?_
    refine RL.ev rfl rfl (ev_lss rfl rfl) ?_
    refine RL.nil ?_
    refine thenN ?_
    refine RW.condP _ rfl (fun hlt => ?_) (fun hlt => ?_)
    · skip
      refine RW.skip ?_
      refine thenN ?_
      refine RW.seq ?_
      refine RW.block ?_
      refine RW.seq ?_
      refine RW.region ?_
      refine RL.ev rfl rfl ev_move ?_
      refine RL.ev rfl rfl ev_move ?_
      refine RL.ev rfl rfl ev_move ?_
      refine RL.ev rfl rfl (ev_index Try.underlying22 sz23 (h0.ext hN.ext0) rfl rfl (by omega) (by omega)) ?_
      obtain ⟨ap, hap⟩ : ∃ a_, (hs0)[i]? = some a_ := ⟨_, List.getElem?_eq_getElem (by omega)⟩
      obtain ⟨lp, hlp⟩ : ∃ l_, (ls0)[i]? = some l_ := ⟨_, List.getElem?_eq_getElem (by have := hel0.1; omega)⟩
      refine RL.ev rfl rfl (ev_loadG (m := i) (a := ap) Try.underlying23 rfl (h0.ext hN.ext0) rfl hap) ?_
      have hmt := massB_take hlp
      have hml := massB_le ls0 (i + 1)
      have hL_3 := ((hel0.2 _ _ _ hap hlp).1.ext hN.ext0).len_le
      refine RL.ev rfl rfl (ev_lenS Try.underlying23 ((hel0.2 _ _ _ hap hlp).1.ext hN.ext0) rfl) ?_
      refine RL.ev rfl rfl (ev_arith rfl rfl rfl (add64 (by omega) (by omega))) ?_
      refine RL.ev rfl rfl (ev_arith rfl rfl rfl (add64 (by omega) (by omega))) ?_
      refine RL.ev rfl rfl ev_assign ?_
      refine RL.nil ?_
      refine thenN ?_
      refine RW.region ?_
      refine RL.ev rfl rfl ev_move ?_
      refine RL.ev rfl rfl ev_move ?_
      refine RL.ev rfl rfl ev_move ?_
      refine RL.ev rfl rfl (ev_index Try.underlying22 sz23 (h0.ext hN.ext0) rfl rfl (by omega) (by omega)) ?_
      obtain ⟨ar, har⟩ : ∃ a_, (hs0)[i]? = some a_ := ⟨_, List.getElem?_eq_getElem (by omega)⟩
      obtain ⟨lr, hlr⟩ : ∃ l_, (ls0)[i]? = some l_ := ⟨_, List.getElem?_eq_getElem (by have := hel0.1; omega)⟩
      refine RL.ev rfl rfl (ev_loadG (m := i) (a := ar) Try.underlying23 rfl (h0.ext hN.ext0) rfl har) ?_
      refine RL.op rfl rfl (opN_lit (enc := vh) (l := [ar]) (xs := [.tmp 28]) Try.underlying22 sz23 zr23 rfl rfl (fun _ => rfl) rfl (by decide) (by decide) hN ?_)
      intro g4 w4 hN_
      clear hN
      have hN : Now w none_ w4 [_, _] := hN_
      clear hN_
      refine RL.op rfl rfl (opN_append Try.underlying22 inf23 rfl vh_one hN 1 rfl rfl (hN.sl 0 rfl) rfl (by rw [ha, List.length_take, List.length_singleton]; omega) (by decide) ?_)
      intro v5 w5 hN_
      clear hN
      have hN : Now w none_ w5 [_, _] := hN_
      clear hN_
      refine RL.ev rfl rfl ev_assign ?_
      refine RL.nil ?_
      refine blockN ?_
      refine thenN ?_
      refine RW.region ?_
      refine RL.ev rfl rfl ev_move ?_
      refine RL.ev rfl rfl (ev_arith rfl rfl rfl (add64 (by omega) (by omega))) ?_
      refine RL.ev rfl rfl ev_assign ?_
      refine RL.nil ?_
      refine thenN ?_
      exact ⟨k - 1, by omega, z + (lp.length : Int) + 8, v5, acc ++ [ar], i + 1, rfl, rfl, rfl, rfl, rfl, (hN.sub [1] (by decide) rfl), by omega, by rw [hz, hmt]; omega, by rw [ha, List.take_add_one, har]; rfl⟩
    · skip
      refine RW.exit ?_
      refine thenX ?_
      refine thenX ?_
      refine blockHit ?_
      refine thenN ?_
      refine RW.seq ?_
      refine RW.seq ?_
      refine RW.region ?_
      refine RL.ev rfl rfl ev_assign ?_
      refine RL.nil ?_
      refine thenN ?_
      refine RW.block ?_
      refine RW.loop (fun k2 R1 w1' => ∃ z2 : Int, ∃ va2 : Value, ∃ acc2 : List Hd, ∃ j : Nat, R1 0 = v0 ∧ R1 1 = v1 ∧ R1 5 = .int .i64 (z2) ∧ R1 6 = va2 ∧ R1 8 = .int .i64 ((j : Int)) ∧ Now w none_ w1' [.own vh 23 (va2) (acc2)] ∧ (j + k2 = hs1.length) ∧ (z2 = ((massB ls0 + massB (ls1.take j) : Nat) : Int)) ∧ (acc2 = hs0 ++ hs1.take j)) (hs1.length) ?_ ?_
      · skip
        have hi_ : i = hs0.length := by omega
        rw [hi_, List.take_of_length_le (by omega)] at hz ha
        exact ⟨z, va, acc, 0, rfl, rfl, rfl, rfl, rfl, hN, by omega, by rw [hz]; simp [massB], by rw [ha]; simp⟩
      · skip
        clear hN
        rintro k2 R1 w1' ⟨z2, va2, acc2, j, hr0_, hr1_, hr5_, hr6_, hr8_, hN, hik2, hz2, ha2⟩
        have hR_ : ∃ R1_, R1 = (upd (upd (upd (upd (upd R1_ 0 _) 1 _) 5 _) 6 _) 8 _) := ⟨R1, by rw [upd_self hr0_, upd_self hr1_, upd_self hr5_, upd_self hr6_, upd_self hr8_]⟩
        obtain ⟨R1_, rfl⟩ := hR_
        clear hr0_ hr1_ hr5_ hr6_ hr8_
        refine RW.seq ?_
        refine RW.seq ?_
        refine RW.region ?_
        refine RL.ev rfl rfl ev_move ?_
        refine RL.ev rfl rfl ev_move ?_
        have hL_6 := (h1.ext hN.ext0).len_le
        refine RL.ev rfl rfl (ev_lenS Try.underlying22 (h1.ext hN.ext0) rfl) ?_
        refine RL.ev rfl rfl (ev_lss rfl rfl) ?_
        refine RL.nil ?_
        refine thenN ?_
        refine RW.condP _ rfl (fun hlt2 => ?_) (fun hlt2 => ?_)
        · skip
          refine RW.skip ?_
          refine thenN ?_
          refine RW.seq ?_
          refine RW.block ?_
          refine RW.seq ?_
          refine RW.region ?_
          refine RL.ev rfl rfl ev_move ?_
          refine RL.ev rfl rfl ev_move ?_
          refine RL.ev rfl rfl ev_move ?_
          refine RL.ev rfl rfl (ev_index Try.underlying22 sz23 (h1.ext hN.ext0) rfl rfl (by omega) (by omega)) ?_
          obtain ⟨aq, haq⟩ : ∃ a_, (hs1)[j]? = some a_ := ⟨_, List.getElem?_eq_getElem (by omega)⟩
          obtain ⟨lq, hlq⟩ : ∃ l_, (ls1)[j]? = some l_ := ⟨_, List.getElem?_eq_getElem (by have := hel1.1; omega)⟩
          refine RL.ev rfl rfl (ev_loadG (m := j) (a := aq) Try.underlying23 rfl (h1.ext hN.ext0) rfl haq) ?_
          have hmt2 := massB_take hlq
          have hml2 := massB_le ls1 (j + 1)
          have hL_7 := ((hel1.2 _ _ _ haq hlq).1.ext hN.ext0).len_le
          refine RL.ev rfl rfl (ev_lenS Try.underlying23 ((hel1.2 _ _ _ haq hlq).1.ext hN.ext0) rfl) ?_
          refine RL.ev rfl rfl (ev_arith rfl rfl rfl (add64 (by omega) (by omega))) ?_
          refine RL.ev rfl rfl (ev_arith rfl rfl rfl (add64 (by omega) (by omega))) ?_
          refine RL.ev rfl rfl ev_assign ?_
          refine RL.nil ?_
          refine thenN ?_
          refine RW.region ?_
          refine RL.ev rfl rfl ev_move ?_
          refine RL.ev rfl rfl ev_move ?_
          refine RL.ev rfl rfl ev_move ?_
          refine RL.ev rfl rfl (ev_index Try.underlying22 sz23 (h1.ext hN.ext0) rfl rfl (by omega) (by omega)) ?_
          obtain ⟨au, hau⟩ : ∃ a_, (hs1)[j]? = some a_ := ⟨_, List.getElem?_eq_getElem (by omega)⟩
          obtain ⟨lu, hlu⟩ : ∃ l_, (ls1)[j]? = some l_ := ⟨_, List.getElem?_eq_getElem (by have := hel1.1; omega)⟩
          refine RL.ev rfl rfl (ev_loadG (m := j) (a := au) Try.underlying23 rfl (h1.ext hN.ext0) rfl hau) ?_
          refine RL.op rfl rfl (opN_lit (enc := vh) (l := [au]) (xs := [.tmp 49]) Try.underlying22 sz23 zr23 rfl rfl (fun _ => rfl) rfl (by decide) (by decide) hN ?_)
          intro g8 w8 hN_
          clear hN
          have hN : Now w none_ w8 [_, _] := hN_
          clear hN_
          refine RL.op rfl rfl (opN_append Try.underlying22 inf23 rfl vh_one hN 1 rfl rfl (hN.sl 0 rfl) rfl (by rw [ha2, List.length_append, List.length_take, List.length_singleton]; omega) (by decide) ?_)
          intro v9 w9 hN_
          clear hN
          have hN : Now w none_ w9 [_, _] := hN_
          clear hN_
          refine RL.ev rfl rfl ev_assign ?_
          refine RL.nil ?_
          refine blockN ?_
          refine thenN ?_
          refine RW.region ?_
          refine RL.ev rfl rfl ev_move ?_
          refine RL.ev rfl rfl (ev_arith rfl rfl rfl (add64 (by omega) (by omega))) ?_
          refine RL.ev rfl rfl ev_assign ?_
          refine RL.nil ?_
          refine thenN ?_
          exact ⟨k2 - 1, by omega, z2 + (lq.length : Int) + 8, v9, acc2 ++ [au], j + 1, rfl, rfl, rfl, rfl, rfl, (hN.sub [1] (by decide) rfl), by omega, by rw [hz2, hmt2]; omega, by rw [ha2, List.append_assoc, List.take_add_one, hau]; rfl⟩
        · skip
          refine RW.exit ?_
          refine thenX ?_
          refine thenX ?_
          refine blockHit ?_
          refine thenN ?_
          refine RW.seq ?_
          refine RW.seq ?_
          have hj_ : j = hs1.length := by omega
          rw [hj_, List.take_of_length_le (by omega)] at hz2 ha2
          subst ha2
          refine RW.region ?_
          refine RL.ev rfl rfl ev_move ?_
          refine RL.ev rfl rfl (ev_gtr rfl rfl) ?_
          refine RL.nil ?_
          refine thenN ?_
          refine RW.condP _ rfl (fun hbig => ?_) (fun hbig => ?_)
          · skip
            refine RW.seq ?_
            refine RW.region ?_
            refine RL.op rfl rfl (op_call0 Try.func5 rfl rfl ((known_calls _).mono ?_))
            rintro _ w10 ⟨rfl, he_⟩
            replace hN := hN.ext he_
            clear he_
            refine RL.ev rfl rfl ev_assign ?_
            refine RL.nil ?_
            refine thenN ?_
            refine RW.ret ?_
            refine thenR ?_
            refine retI (RV.tmp rfl) ?_
            exact ⟨rfl, hN.ext0⟩
          · skip
            refine RW.skip ?_
            refine thenN ?_
            refine RW.seq ?_
            have hj0 := joinB_length ls0
            have hj1 := joinB_length ls1
            have hja := joinB_append ls0 ls1
            have hma := massB_append ls0 ls1
            have hjl := joinB_length (ls0 ++ ls1)
            have hpj := parts_join (ls0 ++ ls1) (by omega)
            refine RW.region ?_
            refine RL.ev rfl rfl ev_move ?_
            refine RL.op rfl rfl (op_call1 Try.func6 rfl rfl rfl ((join_calls _ hs0 ls0 _ (h0.ext hN.ext0) (hel0.ext hN.ext0) (by omega)).mono ?_))
            rintro v11 w11 ⟨ho_, he_⟩
            have hN_ := hN.pushOwn (l := joinB ls0) ho_ he_
            clear ho_ he_
            clear hN
            have hN : Now w none_ w11 [_, _] := hN_
            clear hN_
            refine RL.ev rfl rfl ev_assign ?_
            refine RL.nil ?_
            refine thenN ?_
            refine RW.seq ?_
            refine RW.region ?_
            refine RL.ev rfl rfl ev_move ?_
            refine RL.ev rfl rfl ev_move ?_
            refine RL.op rfl rfl (op_call1 Try.func6 rfl rfl rfl ((join_calls _ hs1 ls1 _ (h1.ext hN.ext0) (hel1.ext hN.ext0) (by omega)).mono ?_))
            rintro v12 w12 ⟨ho_, he_⟩
            have hN_ := hN.pushOwn (l := joinB ls1) ho_ he_
            clear ho_ he_
            clear hN
            have hN : Now w none_ w12 [_, _, _] := hN_
            clear hN_
            refine RL.op rfl rfl (opN_append Try.underlying23 inf5 rfl vb_one hN 1 rfl rfl (hN.sl 0 rfl) rfl (by (try simp only [List.length_append, List.length_take, List.length_drop, putInts_length, putText_length, put_length, wrapB_length, List.length_nil, List.length_cons]); omega) (by decide) ?_)
            intro v13 w13 hN_
            clear hN
            have hN : Now w none_ w13 [_, _, _] := hN_
            clear hN_
            refine RL.ev rfl rfl ev_assign ?_
            refine RL.nil ?_
            refine thenN ?_
            refine RW.seq ?_
            refine RW.region ?_
            refine RL.ev rfl rfl ev_move ?_
            have hL_14 := (hN.sl 1 rfl).len_le
            refine RL.ev rfl rfl (ev_lenS Try.underlying23 (hN.sl 1 rfl) rfl) ?_
            refine RL.ev rfl rfl ev_move ?_
            refine RL.ev rfl rfl (ev_true (ev_eql rfl rfl) (by rw [List.length_append, hj0, hj1, hz2])) ?_
            refine RL.ev rfl rfl ev_move ?_
            refine RL.onEv rfl rfl (by decide) rfl rfl ev_move ?_
            refine RL.onEv rfl rfl (by decide) rfl rfl ev_move ?_
            refine RL.on rfl rfl (by decide) rfl rfl (op_call1 Try.func6 rfl rfl rfl ((join_calls _ (hs0 ++ hs1) (ls0 ++ ls1) _ (hN.sl 2 rfl) ((hel0.append hel1).ext hN.ext0) (by omega)).mono ?_))
            rintro v15 w15 ⟨ho_, he_⟩
            have hN_ := hN.pushOwn (l := joinB (ls0 ++ ls1)) ho_ he_
            clear ho_ he_
            clear hN
            have hN : Now w none_ w15 [_, _, _, _] := hN_
            clear hN_
            refine RL.on rfl rfl (by decide) rfl rfl (op_call2 Try.func8 rfl rfl rfl rfl ((same_true (hN.sl 2 rfl) (hN.sl 0 rfl) hja.symm).mono ?_))
            rintro _ _ ⟨rfl, rfl⟩
            refine RL.ev rfl rfl (ev_pickT rfl) ?_
            refine RL.ev rfl rfl ev_move ?_
            refine RL.onEv rfl rfl (by decide) rfl rfl ev_move ?_
            refine RL.on rfl rfl (by decide) rfl rfl (op_call1 Try.func11 rfl rfl rfl ((parts_calls _ (joinB ls0 ++ (joinB ls1)) _ (hN.sl 2 rfl) (by rw [List.length_append]; omega)).mono ?_))
            rintro v17 w17 ⟨hs17, hC_⟩
            have hN_ := hN.call0 hC_
            clear hC_
            clear hN
            have hN : Now w none_ w17 [_, _, _, _, _, _] := hN_
            clear hN_
            refine RL.onEv rfl rfl (by decide) rfl rfl ev_move ?_
            refine RL.on rfl rfl (by decide) rfl rfl (op_call2 Try.func10 rfl rfl rfl rfl ((sameLists_true (hN.sl 0 rfl) (hN.els 1 rfl) (hN.sl 5 rfl) ((hel0.append hel1).ext hN.ext0) (by rw [← hja]; exact hpj)).mono ?_))
            rintro _ w18 ⟨rfl, he_⟩
            replace hN := hN.ext he_
            clear he_
            refine RL.ev rfl rfl (ev_pickT rfl) ?_
            refine RL.ev rfl rfl ev_move ?_
            refine RL.on rfl rfl (by decide) rfl rfl (op_call0 Try.func5 rfl rfl ((known_calls _).mono ?_))
            rintro _ w19 ⟨rfl, he_⟩
            replace hN := hN.ext he_
            clear he_
            refine RL.ev rfl rfl (ev_pickT rfl) ?_
            refine RL.ev rfl rfl ev_assign ?_
            refine RL.nil ?_
            refine thenN ?_
            refine RW.ret ?_
            refine retI (RV.tmp rfl) ?_
            exact ⟨rfl, hN.ext0⟩

end Go.Proofs.Ytngkdkbpgoddlaa
