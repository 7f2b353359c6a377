import Derived.Test.YtngkdkbpgoddlaaImageW1
set_option linter.unusedVariables false
set_option linter.unusedSimpArgs false
namespace Go.Proofs.Ytngkdkbpgoddlaa
open Go.RowKit Go.Rl

open Go.Codec Go.Crc
set_option maxHeartbeats 4000000 in
set_option maxRecDepth 100000 in
/-- postroad/image.Parts -/
theorem parts_calls (v : Value) (l : List UInt8) (w : World) (hv : Sl vb w v l) (hl : l.length ≤ 1048576) : Gives Try.prog 11 #[v] w fun r w' => ∃ hs, Now w none_ w' [.own vh 23 r hs, .fam vb hs (partsL l)] := by
  refine Gives.start Try.func11 rfl (Nat.le_of_ble_eq_true rfl) ?_
  rw [args1]
  have hN := Now.nil w none_
  refine RW.seq ?_
  refine RW.region ?_
  refine RL.ev rfl rfl ev_assign ?_
  refine RL.nil ?_
  refine thenN ?_
  refine RW.scope ?_
  refine RW.seq ?_
  refine RW.region ?_
  refine RL.ev rfl rfl ev_assign ?_
  refine RL.nil ?_
  refine thenN ?_
  refine RW.seq ?_
  refine RW.region ?_
  refine RL.ev rfl rfl ev_move ?_
  refine RL.op rfl rfl (op_call1 Try.func18 rfl rfl rfl ((new_calls _ l _ (hv.ext hN.ext0) (by omega)).mono ?_))
  rintro _ w1 ⟨g1, rfl, hr_, he_⟩
  have hN_ := rdrPush hN hr_ he_
  clear hr_ he_
  generalize hlo1 : (w).heap.size = lo1 at hN_
  generalize hhi1 : (w1).heap.size = hi1 at hN_
  clear hN
  have hN : Now w none_ w1 [_] := hN_
  clear hN_
  refine RL.ev rfl rfl ev_assign ?_
  replace hN := hN.famNil vb
  replace hN := hN.addNil vh 23
  refine RL.nil ?_
  refine thenN ?_
  refine RW.seq ?_
  refine RW.label ?_
  refine thenN ?_
  refine RW.seq ?_
  refine RW.block ?_
  refine RW.loop (fun k R0 w0' => ∃ rest : List UInt8, ∃ ls : List (List UInt8), ∃ vo : Value, ∃ hs : List Hd, R0 0 = v ∧ R0 3 = vo ∧ R0 4 = .pointer (some ⟨g1, 0, none⟩) ∧ Now w none_ w0' [.own vh 23 (vo) (hs), .fam vb (hs) (ls), Rdr 57 lo1 hi1 g1 (rest, 0)] ∧ (rest.length ≤ k) ∧ (rest.length ≤ l.length) ∧ (hs.length = ls.length ∧ hs.length + rest.length ≤ l.length) ∧ (parts l = (partsF (l.length : Int) k rest).map (ls ++ ·))) (l.length) ?_ ?_
  · skip
    exact ⟨l, [], .slice none 0 0, [], rfl, rfl, rfl, hN, Nat.le_refl _, Nat.le_refl _, ⟨rfl, by simp⟩, by unfold parts; simp⟩
  · skip
    clear hN
    rintro k R0 w0' ⟨rest, ls, vo, hs, hr0_, hr3_, hr4_, hN, hrk, hrl, hll, hp⟩
    have hR_ : ∃ R0_, R0 = (upd (upd (upd R0_ 0 _) 3 _) 4 _) := ⟨R0, by rw [upd_self hr0_, upd_self hr3_, upd_self hr4_]⟩
    obtain ⟨R0_, rfl⟩ := hR_
    clear hr0_ hr3_ hr4_
    refine RW.seq ?_
    refine RW.seq ?_
    refine RW.region ?_
    refine RL.ev rfl rfl ev_move ?_
    refine RL.op rfl rfl (op_call1 Try.func19 rfl rfl rfl ((left_calls _ _ _ (rest, 0) _ (Rdr.says hN 2 rfl)).mono ?_))
    rintro _ _ ⟨rfl, rfl⟩
    refine RL.ev rfl rfl (ev_gtr rfl rfl) ?_
    refine RL.nil ?_
    refine thenN ?_
    refine RW.condP _ rfl (fun hpos => ?_) (fun hpos => ?_)
    · skip
      refine RW.skip ?_
      refine thenN ?_
      refine RW.block ?_
      refine RW.seq ?_
      have hne_ : rest ≠ [] := by intro e; rw [e] at hpos; simp at hpos
      have hk1 : k = (k - 1) + 1 := by have := List.length_pos_iff.2 hne_; omega
      have htl : (textR (rest, 0) (l.length : Int)).2.length ≤ rest.length := text_len (rest, 0) _
      refine RW.region ?_
      refine RL.ev rfl rfl ev_move ?_
      refine RL.ev rfl rfl ev_move ?_
      have hL_4 := (hv.ext hN.ext0).len_le
      refine RL.ev rfl rfl (ev_lenS Try.underlying23 (hv.ext hN.ext0) rfl) ?_
      refine RL.op rfl rfl (op_call2 Try.func21 rfl rfl rfl rfl ((rtext_at (Rdr.says hN 2 rfl) (rdrHi hN 2 rfl) (by omega) (by omega) (by show rest.length ≤ _; omega) (eta (textR (rest, 0) ((l.length : Int))))).mono ?_))
      rintro _ w5 ⟨rfl, hr_, hm_⟩
      have hN_ := rdrStep hN 2 rfl hr_ hm_
      clear hr_ hm_
      clear hN
      have hN : Now w none_ w5 [_, _, _] := hN_
      clear hN_
      refine RL.op rfl rfl (opN_toBytes Try.underlying9 Try.underlying23 Try.underlying5 rfl (by (try simp only [List.length_append, List.length_take, List.length_drop, putInts_length, putText_length, put_length, wrapB_length, List.length_nil, List.length_cons]); omega) hN ?_)
      intro v6 w6 hN_
      clear hN
      have hN : Now w none_ w6 [_, _, _, _] := hN_
      clear hN_
      refine RL.op rfl rfl (op_call1 Try.func20 rfl rfl rfl ((open_calls _ ((textR (rest, 0) ((l.length : Int))).2) _ (hN.slr 0 rfl) (by (try simp only [List.length_append, List.length_take, List.length_drop, putInts_length, putText_length, put_length, wrapB_length, List.length_nil, List.length_cons]); omega)).mono ?_))
      intro r_ w7 hx_
      rcases hx_ with ⟨hok7, v7, rfl, ho_, he_⟩ | ⟨hok7, rfl, he_⟩
      · skip
        have hN_ := hN.pushOwn ho_ he_
        clear ho_ he_
        clear hN
        have hN : Now w none_ w7 [_, _, _, _, _] := hN_
        clear hN_
        refine RL.ev rfl rfl ev_move ?_
        refine RL.ev rfl rfl (ev_extract rfl rfl) ?_
        refine RL.ev rfl rfl (ev_extract rfl rfl) ?_
        refine RL.ev rfl rfl ev_assign ?_
        refine RL.ev rfl rfl ev_assign ?_
        refine RL.nil ?_
        refine thenN ?_
        refine RW.seq ?_
        refine RW.seq ?_
        refine RW.region ?_
        refine RL.ev rfl rfl ev_move ?_
        refine RL.ev rfl rfl (ev_false (ev_neq rfl rfl) (fun h => h rfl)) ?_
        refine RL.ev rfl rfl ev_move ?_
        refine RL.onEv rfl rfl (by decide) rfl rfl ev_move ?_
        refine RL.on rfl rfl (by decide) rfl rfl (op_call1 Try.func22 rfl rfl rfl ((failed_calls _ _ _ ((textR (rest, 0) ((l.length : Int))).1) _ (Rdr.says hN 4 rfl)).mono ?_))
        rintro _ _ ⟨rfl, rfl⟩
        refine RL.onEv rfl rfl (by decide) rfl rfl (ev_neq rfl rfl) ?_
        refine RL.ev rfl rfl (ev_pickF rfl) ?_
        refine RL.nil ?_
        refine thenN ?_
        refine RW.condP _ rfl (fun hX => ?_) (fun hX => ?_)
        · skip
          refine RW.seq ?_
          have hpn : parts l = none := by
            rw [hp, hk1, partsF_bad hne_ (by first | exact .inl (by assumption) | exact .inr (by assumption))]; rfl
          refine RW.region ?_
          refine RL.ev rfl rfl ev_assign ?_
          refine RL.nil ?_
          refine thenN ?_
          refine RW.exit ?_
          refine thenX ?_
          refine blockMiss (by decide) ?_
          refine thenX ?_
          refine blockHit ?_
          refine thenN ?_
          refine RW.seq ?_
          refine RW.seq ?_
          refine RW.region ?_
          refine RL.ev rfl rfl ev_move ?_
          refine RL.op rfl rfl (op_call1 Try.func22 rfl rfl rfl ((failed_calls _ _ _ ((textR (rest, 0) ((l.length : Int))).1) _ (Rdr.says hN 4 rfl)).mono ?_))
          rintro _ _ ⟨rfl, rfl⟩
          refine RL.ev rfl rfl (ev_neq rfl rfl) ?_
          refine RL.nil ?_
          refine thenN ?_
          refine RW.condP _ rfl (fun hc34 => ?_) (fun hc34 => ?_)
          · skip
            refine RW.seq ?_
            refine RW.region ?_
            refine RL.ev rfl rfl ev_assign ?_
            refine RL.nil ?_
            refine thenN ?_
            refine RW.ret ?_
            refine thenR ?_
            refine scopeR ?_
            refine retI (RV.tmp rfl) ?_
            have hq : partsL l = [] := by unfold partsL; rw [hpn]; rfl
            have hN2 : Now w none_ w7 [.own vh 23 (.slice none 0 0) [], .fam vb [] (partsL l)] := by
              rw [hq]; exact ((hN.sub (M := []) [] (by decide) rfl).famNil vb).addNil vh 23
            exact ⟨_, hN2⟩
          · skip
            refine RW.skip ?_
            refine thenN ?_
            refine RW.seq ?_
            refine RW.region ?_
            refine RL.ev rfl rfl ev_move ?_
            refine RL.ev rfl rfl ev_assign ?_
            refine RL.nil ?_
            refine thenN ?_
            refine RW.ret ?_
            refine scopeR ?_
            refine retI (RV.tmp rfl) ?_
            have hq : partsL l = [] := by unfold partsL; rw [hpn]; rfl
            have hN2 : Now w none_ w7 [.own vh 23 (.slice none 0 0) [], .fam vb [] (partsL l)] := by
              rw [hq]; exact ((hN.sub (M := []) [] (by decide) rfl).famNil vb).addNil vh 23
            exact ⟨_, hN2⟩
        · skip
          refine RW.skip ?_
          refine thenN ?_
          refine RW.region ?_
          refine RL.ev rfl rfl ev_move ?_
          refine RL.ev rfl rfl ev_move ?_
          have hOb_ := (hN.sl 0 rfl).hd
          obtain ⟨h11, hq_⟩ := hOb_
          subst hq_
          refine RL.op rfl rfl (opN_lit (enc := vh) (l := [h11]) (xs := [.tmp 29]) Try.underlying22 sz23 zr23 rfl rfl (fun _ => rfl) rfl (by decide) (by decide) hN ?_)
          intro g10 w10 hN_
          clear hN
          have hN : Now w none_ w10 [_, _, _, _, _, _] := hN_
          clear hN_
          refine RL.op rfl rfl (opN_append Try.underlying22 inf23 rfl vh_one hN 3 rfl rfl (hN.sl 0 rfl) rfl (by (try simp only [List.length_append, List.length_take, List.length_drop, putInts_length, putText_length, put_length, wrapB_length, List.length_nil, List.length_cons]); omega) (by decide) ?_)
          intro v12 w12 hN_
          clear hN
          have hN : Now w none_ w12 [_, _, _, _, _, _] := hN_
          clear hN_
          have hN_ := Now.famPush (L := [_, _, _, _, _]) (hN.sub [1, 0, 2, 3, 4, 5] (by decide) rfl) 3 rfl
          clear hN
          have hN : Now w none_ w12 [_, _, _, _, _] := hN_
          clear hN_
          refine RL.ev rfl rfl ev_assign ?_
          refine RL.nil ?_
          refine blockN ?_
          refine thenN ?_
          have hg := textR_good (Decidable.not_not.1 hX)
          have hp1 := partsF_ok (k := k - 1) hne_ (Decidable.not_not.1 hX) (by assumption)
          have hp2 : parts l = (partsF (l.length : Int) (k - 1) (textR (rest, 0) (l.length : Int)).1.1).map ((ls ++ [((textR (rest, 0) ((l.length : Int))).2).take (((textR (rest, 0) ((l.length : Int))).2).length - 4)]) ++ ·) := by
            rw [hp, hk1, hp1, Option.map_map]
            congr 1; funext x; simp
          have hRX : (textR (rest, 0) (l.length : Int)).1 = ((textR (rest, 0) (l.length : Int)).1.1, 0) := Prod.ext rfl (Decidable.not_not.1 hX)
          rw [hRX] at hN
          exact ⟨k - 1, by omega, (textR (rest, 0) (l.length : Int)).1.1, ls ++ [((textR (rest, 0) ((l.length : Int))).2).take (((textR (rest, 0) ((l.length : Int))).2).length - 4)], v12, hs ++ [h11], rfl, rfl, rfl, (hN.sub [2, 3, 4] (by decide) rfl), by omega, by omega, ⟨by simp [hll.1], by rw [List.length_append, List.length_singleton]; omega⟩, hp2⟩
      · skip
        replace hN := hN.ext he_
        clear he_
        refine RL.ev rfl rfl ev_move ?_
        refine RL.ev rfl rfl (ev_extract rfl rfl) ?_
        refine RL.ev rfl rfl (ev_extract rfl rfl) ?_
        refine RL.ev rfl rfl ev_assign ?_
        refine RL.ev rfl rfl ev_assign ?_
        refine RL.nil ?_
        refine thenN ?_
        refine RW.seq ?_
        refine RW.seq ?_
        refine RW.region ?_
        refine RL.ev rfl rfl ev_move ?_
        refine RL.ev rfl rfl (ev_true (ev_neq rfl rfl) (by decide)) ?_
        refine RL.ev rfl rfl ev_move ?_
        refine RL.off rfl rfl (by decide) rfl rfl ?_
        refine RL.off rfl rfl (by decide) rfl rfl ?_
        refine RL.off rfl rfl (by decide) rfl rfl ?_
        refine RL.ev rfl rfl (ev_pickT rfl) ?_
        refine RL.nil ?_
        refine thenN ?_
        refine RW.condT rfl ?_
        refine RW.seq ?_
        have hpn : parts l = none := by
          rw [hp, hk1, partsF_bad hne_ (by first | exact .inl (by assumption) | exact .inr (by assumption))]; rfl
        refine RW.region ?_
        refine RL.ev rfl rfl ev_assign ?_
        refine RL.nil ?_
        refine thenN ?_
        refine RW.exit ?_
        refine thenX ?_
        refine blockMiss (by decide) ?_
        refine thenX ?_
        refine blockHit ?_
        refine thenN ?_
        refine RW.seq ?_
        refine RW.seq ?_
        refine RW.region ?_
        refine RL.ev rfl rfl ev_move ?_
        refine RL.op rfl rfl (op_call1 Try.func22 rfl rfl rfl ((failed_calls _ _ _ ((textR (rest, 0) ((l.length : Int))).1) _ (Rdr.says hN 3 rfl)).mono ?_))
        rintro _ _ ⟨rfl, rfl⟩
        refine RL.ev rfl rfl (ev_neq rfl rfl) ?_
        refine RL.nil ?_
        refine thenN ?_
        refine RW.condP _ rfl (fun hc34 => ?_) (fun hc34 => ?_)
        · skip
          refine RW.seq ?_
          refine RW.region ?_
          refine RL.ev rfl rfl ev_assign ?_
          refine RL.nil ?_
          refine thenN ?_
          refine RW.ret ?_
          refine thenR ?_
          refine scopeR ?_
          refine retI (RV.tmp rfl) ?_
          have hq : partsL l = [] := by unfold partsL; rw [hpn]; rfl
          have hN2 : Now w none_ w7 [.own vh 23 (.slice none 0 0) [], .fam vb [] (partsL l)] := by
            rw [hq]; exact ((hN.sub (M := []) [] (by decide) rfl).famNil vb).addNil vh 23
          exact ⟨_, hN2⟩
        · skip
          refine RW.skip ?_
          refine thenN ?_
          refine RW.seq ?_
          refine RW.region ?_
          refine RL.ev rfl rfl ev_move ?_
          refine RL.ev rfl rfl ev_assign ?_
          refine RL.nil ?_
          refine thenN ?_
          refine RW.ret ?_
          refine scopeR ?_
          refine retI (RV.tmp rfl) ?_
          have hq : partsL l = [] := by unfold partsL; rw [hpn]; rfl
          have hN2 : Now w none_ w7 [.own vh 23 (.slice none 0 0) [], .fam vb [] (partsL l)] := by
            rw [hq]; exact ((hN.sub (M := []) [] (by decide) rfl).famNil vb).addNil vh 23
          exact ⟨_, hN2⟩
    · skip
      dsimp only at hpos
      refine RW.exit ?_
      refine thenX ?_
      refine thenX ?_
      refine blockHit ?_
      refine thenN ?_
      refine RW.seq ?_
      refine RW.seq ?_
      refine RW.region ?_
      refine RL.ev rfl rfl ev_move ?_
      refine RL.op rfl rfl (op_call1 Try.func22 rfl rfl rfl ((failed_calls _ _ _ (rest, 0) _ (Rdr.says hN 2 rfl)).mono ?_))
      rintro _ _ ⟨rfl, rfl⟩
      refine RL.ev rfl rfl (ev_false (ev_neq rfl rfl) (fun h => h rfl)) ?_
      refine RL.nil ?_
      refine thenN ?_
      refine RW.condF rfl ?_
      refine RW.skip ?_
      refine thenN ?_
      refine RW.seq ?_
      refine RW.region ?_
      refine RL.ev rfl rfl ev_move ?_
      refine RL.ev rfl rfl ev_assign ?_
      refine RL.nil ?_
      refine thenN ?_
      refine RW.ret ?_
      refine scopeR ?_
      refine retI (RV.tmp rfl) ?_
      have hq0 : rest = [] := List.eq_nil_of_length_eq_zero (by omega)
      have hq1 : parts l = some ls := by rw [hp, hq0, partsF_nil]; simp
      have hq : partsL l = ls := by unfold partsL; rw [hq1]; rfl
      have hN2 : Now w none_ w0' [.own vh 23 vo hs, .fam vb hs (partsL l)] := by
        rw [hq]; exact hN.sub [0, 1] (by decide) rfl
      exact ⟨_, hN2⟩

set_option maxHeartbeats 4000000 in
set_option maxRecDepth 100000 in
/-- postroad/postroadref17.Parts -/
theorem refParts_calls (v : Value) (l : List UInt8) (w : World) (hv : Sl vb w v l) (hl : l.length ≤ 1048576) : Gives Try.prog 7 #[v] w fun r w' => ∃ v hs, r = .tuple #[v, .bool (parts l).isSome] ∧ Now w none_ w' [.own vh 23 v hs, .fam vb hs (partsL l)] := by
  refine Gives.start Try.func7 rfl (Nat.le_of_ble_eq_true rfl) ?_
  rw [args1]
  have hN := Now.nil w none_
  have hB := hv.below
  refine RW.seq ?_
  refine RW.region ?_
  refine RL.ev rfl rfl ev_assign ?_
  refine RL.ev rfl rfl ev_assign ?_
  refine RL.nil ?_
  refine thenN ?_
  refine RW.seq ?_
  refine RW.region ?_
  refine RL.ev rfl rfl ev_assign ?_
  refine RL.nil ?_
  refine thenN ?_
  refine RW.seq ?_
  refine RW.region ?_
  refine RL.ev rfl rfl ev_move ?_
  refine RL.ev rfl rfl (ev_buildL (cs := [v, .int .i64 (0)]) Try.underlying36 zero36 (places := #[(0, 1), (1, 1)]) (by intro w; kernel_rfl) (pl := [(0, .tmp 10)]) rfl (ps := [(0, v)]) rfl (zc := [.slice none 0 0, .int .i64 (0)]) rfl (fill_step (vs := [v]) (hB.1.ext hN.ext0).cells1 rfl (Nat.le_of_ble_eq_true rfl) rfl)) ?_
  refine RL.op rfl rfl (opN_alloc (cs := [.slice none 0 0, .int .i64 (0)]) zero36 rfl hN ?_)
  intro g1 w1 hN_
  clear hN
  have hN : Now w none_ w1 [_] := hN_
  clear hN_
  refine RL.op rfl rfl (opN_storeAll (vs := [v, .int .i64 (0)]) sz36 rfl rfl rfl (by intro u hu; simp only [List.mem_cons, List.not_mem_nil, or_false] at hu; rcases hu with rfl | rfl <;> first | rfl | exact (hB.1.ext hN.ext0).one1) hN 0 rfl rfl ?_)
  intro w2 hN_
  clear hN
  have hN : Now w none_ w2 [_] := hN_
  clear hN_
  replace hN := hN.famNil vb
  replace hN := hN.addNil vh 23
  refine RL.nil ?_
  refine thenN ?_
  refine RW.seq ?_
  refine RW.block ?_
  refine RW.loop (fun k R0 w0' => ∃ rest : List UInt8, ∃ ls : List (List UInt8), ∃ xi : Value, ∃ vo : Value, ∃ hs : List Hd, R0 0 = v ∧ R0 4 = vo ∧ R0 5 = .pointer (some ⟨g1, 0, none⟩) ∧ Now w none_ w0' [.own vh 23 (vo) (hs), .fam vb (hs) (ls), .blk g1 [xi, .int .i64 (0)] 36] ∧ (rest.length ≤ k) ∧ (rest.length ≤ l.length) ∧ (hs.length = ls.length ∧ hs.length + rest.length ≤ l.length) ∧ (parts l = (partsF (l.length : Int) k rest).map (ls ++ ·)) ∧ (SlB vb w.heap.size w xi rest)) (l.length) ?_ ?_
  · skip
    exact ⟨l, [], v, .slice none 0 0, [], rfl, rfl, rfl, hN, Nat.le_refl _, Nat.le_refl _, ⟨rfl, by simp⟩, by unfold parts; simp, hB⟩
  · skip
    clear hN
    rintro k R0 w0' ⟨rest, ls, xi, vo, hs, hr0_, hr4_, hr5_, hN, hrk, hrl, hll, hp, hox⟩
    have hR_ : ∃ R0_, R0 = (upd (upd (upd R0_ 0 _) 4 _) 5 _) := ⟨R0, by rw [upd_self hr0_, upd_self hr4_, upd_self hr5_]⟩
    obtain ⟨R0_, rfl⟩ := hR_
    clear hr0_ hr4_ hr5_
    refine RW.seq ?_
    refine RW.seq ?_
    refine RW.region ?_
    refine RL.ev rfl rfl (ev_fieldAddr Try.underlying36 rfl sz23 (by decide) rfl) ?_
    refine RL.ev rfl rfl (ev_loadB Try.underlying23 rfl rfl (hN.blk 2 rfl) rfl) ?_
    have hL_3 := (hox.1.ext hN.ext0).len_le
    refine RL.ev rfl rfl (ev_lenS Try.underlying23 (hox.1.ext hN.ext0) rfl) ?_
    refine RL.ev rfl rfl (ev_gtr rfl rfl) ?_
    refine RL.nil ?_
    refine thenN ?_
    refine RW.condP _ rfl (fun hpos => ?_) (fun hpos => ?_)
    · skip
      refine RW.skip ?_
      refine thenN ?_
      refine RW.block ?_
      refine RW.seq ?_
      have hne_ : rest ≠ [] := by intro e; rw [e] at hpos; simp at hpos
      have hk1 : k = (k - 1) + 1 := by have := List.length_pos_iff.2 hne_; omega
      have htl : (textR (rest, 0) (l.length : Int)).2.length ≤ rest.length := text_len (rest, 0) _
      refine RW.region ?_
      refine RL.ev rfl rfl (ev_loadAll (cs := [xi, .int .i64 (0)]) Try.underlying36 rfl sz36 rfl (hN.blk 2 rfl)) ?_
      refine RL.ev rfl rfl ev_move ?_
      have hL_4 := (hB.1.ext hN.ext0).len_le
      refine RL.ev rfl rfl (ev_lenS Try.underlying23 (hB.1.ext hN.ext0) rfl) ?_
      refine RL.op rfl rfl (op_call2 Try.func14 rfl rfl rfl rfl ((refTakeText_calls _ _ (rest, 0) ((l.length : Int)) _ (hox.ext hN.ext0) hN.size (by omega) (by omega)).mono ?_))
      rintro _ w5 ⟨x5, rfl, ox5, he_⟩
      replace hN := hN.ext he_
      replace ox5 := ox5.back hN.ext0 (Nat.le_refl _)
      clear he_
      refine RL.ev rfl rfl ev_move ?_
      refine RL.ev rfl rfl (ev_extract rfl rfl) ?_
      refine RL.ev rfl rfl (ev_extract rfl rfl) ?_
      refine RL.op rfl rfl (opN_alloc (cs := [.slice none 0 0, .int .i64 (0)]) zero36 rfl hN ?_)
      intro g6 w6 hN_
      clear hN
      have hN : Now w none_ w6 [_, _, _, _] := hN_
      clear hN_
      refine RL.op rfl rfl (opN_storeAll (vs := [x5, .int .i64 ((textR (rest, 0) ((l.length : Int))).1.2)]) sz36 rfl rfl rfl (by intro u hu; simp only [List.mem_cons, List.not_mem_nil, or_false] at hu; rcases hu with rfl | rfl <;> first | rfl | exact (ox5.1.ext hN.ext0).one1) hN 0 rfl rfl ?_)
      intro w7 hN_
      clear hN
      have hN : Now w none_ w7 [_, _, _, _] := hN_
      clear hN_
      refine RL.ev rfl rfl ev_assign ?_
      refine RL.nil ?_
      refine thenN ?_
      refine RW.seq ?_
      refine RW.region ?_
      refine RL.ev rfl rfl ev_move ?_
      refine RL.op rfl rfl (opN_toBytes Try.underlying9 Try.underlying23 Try.underlying5 rfl (by (try simp only [List.length_append, List.length_take, List.length_drop, putInts_length, putText_length, put_length, wrapB_length, List.length_nil, List.length_cons]); omega) hN ?_)
      intro v8 w8 hN_
      clear hN
      have hN : Now w none_ w8 [_, _, _, _, _] := hN_
      clear hN_
      refine RL.op rfl rfl (op_call1 Try.func15 rfl rfl rfl ((refOpen_calls _ ((textR (rest, 0) ((l.length : Int))).2) _ (hN.slr 0 rfl) (by (try simp only [List.length_append, List.length_take, List.length_drop, putInts_length, putText_length, put_length, wrapB_length, List.length_nil, List.length_cons]); omega)).mono ?_))
      intro r_ w9 hx_
      rcases hx_ with ⟨hok9, hr9, he_⟩ | ⟨hok9, hr9, he_⟩
      · skip
        replace hN := hN.ext he_
        have hN_ := hN.slCut 0 rfl (((textR (rest, 0) ((l.length : Int))).2).length - 4) (by omega)
        clear he_
        obtain ⟨h9, hq_⟩ := ((hN.slr 0 rfl).cutTo (hi := (((textR (rest, 0) ((l.length : Int))).2).length - 4)) (by omega)).hd
        rw [hq_] at hr9 hN_
        subst hr9
        clear hN
        have hN : Now w none_ w9 [_, _, _, _, _] := hN_
        clear hN_
        refine RL.ev rfl rfl ev_move ?_
        refine RL.ev rfl rfl (ev_extract rfl rfl) ?_
        refine RL.ev rfl rfl (ev_extract rfl rfl) ?_
        refine RL.ev rfl rfl ev_assign ?_
        refine RL.ev rfl rfl ev_assign ?_
        refine RL.nil ?_
        refine thenN ?_
        refine RW.seq ?_
        refine RW.seq ?_
        refine RW.region ?_
        refine RL.ev rfl rfl (ev_fieldAddr Try.underlying36 rfl sz3 (by decide) rfl) ?_
        refine RL.ev rfl rfl (ev_loadB Try.underlying3 rfl rfl (hN.blk 1 rfl) rfl) ?_
        refine RL.ev rfl rfl (ev_neq rfl rfl) ?_
        refine RL.ev rfl rfl ev_move ?_
        by_cases hX : ¬ (textR (rest, 0) ((l.length : Int))).1.2 = 0
        · skip
          rw [decide_eq_true hX]
          refine RL.off rfl rfl (by decide) rfl rfl ?_
          refine RL.off rfl rfl (by decide) rfl rfl ?_
          refine RL.ev rfl rfl (ev_pickT rfl) ?_
          refine RL.nil ?_
          refine thenN ?_
          refine RW.condT rfl ?_
          refine RW.seq ?_
          have hpn : parts l = none := by
            rw [hp, hk1, partsF_bad hne_ (by first | exact .inl (by assumption) | exact .inr (by assumption))]; rfl
          refine RW.region ?_
          refine RL.ev rfl rfl ev_assign ?_
          refine RL.ev rfl rfl ev_assign ?_
          refine RL.nil ?_
          refine thenN ?_
          refine RW.ret ?_
          refine thenR ?_
          refine blockR ?_
          refine thenR ?_
          refine blockR ?_
          refine thenR ?_
          refine retI (RV.tmp2 rfl) ?_
          have hq : partsL l = [] := by unfold partsL; rw [hpn]; rfl
          have hN2 : Now w none_ w9 [.own vh 23 (.slice none 0 0) [], .fam vb [] (partsL l)] := by
            rw [hq]; exact ((hN.sub (M := []) [] (by decide) rfl).famNil vb).addNil vh 23
          have hi : (parts l).isSome = false := by rw [hpn]; rfl
          rw [hi]
          exact ⟨_, _, rfl, hN2⟩
        · skip
          rw [decide_eq_false hX]
          refine RL.onEv rfl rfl (by decide) rfl rfl ev_move ?_
          refine RL.onEv rfl rfl (by decide) rfl rfl (ev_false (ev_neq rfl rfl) (fun h => h rfl)) ?_
          refine RL.ev rfl rfl (ev_pickF rfl) ?_
          refine RL.nil ?_
          refine thenN ?_
          refine RW.condF rfl ?_
          refine RW.skip ?_
          refine thenN ?_
          refine RW.seq ?_
          refine RW.region ?_
          refine RL.ev rfl rfl ev_move ?_
          refine RL.ev rfl rfl ev_move ?_
          refine RL.op rfl rfl (opN_lit (enc := vh) (l := [h9]) (xs := [.tmp 37]) Try.underlying22 sz23 zr23 rfl rfl (fun _ => rfl) rfl (by decide) (by decide) hN ?_)
          intro g10 w10 hN_
          clear hN
          have hN : Now w none_ w10 [_, _, _, _, _, _] := hN_
          clear hN_
          refine RL.op rfl rfl (opN_append Try.underlying22 inf23 rfl vh_one hN 3 rfl rfl (hN.sl 0 rfl) rfl (by (try simp only [List.length_append, List.length_take, List.length_drop, putInts_length, putText_length, put_length, wrapB_length, List.length_nil, List.length_cons]); omega) (by decide) ?_)
          intro v11 w11 hN_
          clear hN
          have hN : Now w none_ w11 [_, _, _, _, _, _] := hN_
          clear hN_
          have hN_ := Now.famPushS (L := [_, _, _, _, _]) (hN.sub [1, 0, 2, 3, 4, 5] (by decide) rfl) 3 rfl
          clear hN
          have hN : Now w none_ w11 [_, _, _, _, _] := hN_
          clear hN_
          refine RL.ev rfl rfl ev_assign ?_
          refine RL.nil ?_
          refine thenN ?_
          refine RW.region ?_
          refine RL.ev rfl rfl (ev_loadAll (cs := [x5, .int .i64 ((textR (rest, 0) ((l.length : Int))).1.2)]) Try.underlying36 rfl sz36 rfl (hN.blk 1 rfl)) ?_
          refine RL.op rfl rfl (opN_storeAll (vs := [x5, .int .i64 ((textR (rest, 0) ((l.length : Int))).1.2)]) sz36 rfl rfl rfl (by intro u hu; simp only [List.mem_cons, List.not_mem_nil, or_false] at hu; rcases hu with rfl | rfl <;> first | rfl | exact (ox5.1.ext hN.ext0).one1) hN 4 rfl rfl ?_)
          intro w12 hN_
          clear hN
          have hN : Now w none_ w12 [_, _, _, _, _] := hN_
          clear hN_
          refine RL.nil ?_
          refine blockN ?_
          refine thenN ?_
          have hg := textR_good (Decidable.not_not.1 hX)
          have hp1 := partsF_ok (k := k - 1) hne_ (Decidable.not_not.1 hX) (by assumption)
          have hp2 : parts l = (partsF (l.length : Int) (k - 1) (textR (rest, 0) (l.length : Int)).1.1).map ((ls ++ [((textR (rest, 0) ((l.length : Int))).2).take (((textR (rest, 0) ((l.length : Int))).2).length - 4)]) ++ ·) := by
            rw [hp, hk1, hp1, Option.map_map]
            congr 1; funext x; simp
          have hz_ : (textR (rest, 0) (l.length : Int)).1.2 = 0 := Decidable.not_not.1 hX
          rw [hz_] at hN
          exact ⟨k - 1, by omega, (textR (rest, 0) (l.length : Int)).1.1, ls ++ [((textR (rest, 0) ((l.length : Int))).2).take (((textR (rest, 0) ((l.length : Int))).2).length - 4)], x5, v11, hs ++ [h9], rfl, rfl, rfl, (hN.sub [2, 3, 4] (by decide) rfl), by omega, by omega, ⟨by simp [hll.1], by rw [List.length_append, List.length_singleton]; omega⟩, hp2, ox5⟩
      · skip
        subst hr9
        replace hN := hN.ext he_
        clear he_
        refine RL.ev rfl rfl ev_move ?_
        refine RL.ev rfl rfl (ev_extract rfl rfl) ?_
        refine RL.ev rfl rfl (ev_extract rfl rfl) ?_
        refine RL.ev rfl rfl ev_assign ?_
        refine RL.ev rfl rfl ev_assign ?_
        refine RL.nil ?_
        refine thenN ?_
        refine RW.seq ?_
        refine RW.seq ?_
        refine RW.region ?_
        refine RL.ev rfl rfl (ev_fieldAddr Try.underlying36 rfl sz3 (by decide) rfl) ?_
        refine RL.ev rfl rfl (ev_loadB Try.underlying3 rfl rfl (hN.blk 1 rfl) rfl) ?_
        refine RL.ev rfl rfl (ev_neq rfl rfl) ?_
        refine RL.ev rfl rfl ev_move ?_
        by_cases hX : ¬ (textR (rest, 0) ((l.length : Int))).1.2 = 0
        · skip
          rw [decide_eq_true hX]
          refine RL.off rfl rfl (by decide) rfl rfl ?_
          refine RL.off rfl rfl (by decide) rfl rfl ?_
          refine RL.ev rfl rfl (ev_pickT rfl) ?_
          refine RL.nil ?_
          refine thenN ?_
          refine RW.condT rfl ?_
          refine RW.seq ?_
          have hpn : parts l = none := by
            rw [hp, hk1, partsF_bad hne_ (by first | exact .inl (by assumption) | exact .inr (by assumption))]; rfl
          refine RW.region ?_
          refine RL.ev rfl rfl ev_assign ?_
          refine RL.ev rfl rfl ev_assign ?_
          refine RL.nil ?_
          refine thenN ?_
          refine RW.ret ?_
          refine thenR ?_
          refine blockR ?_
          refine thenR ?_
          refine blockR ?_
          refine thenR ?_
          refine retI (RV.tmp2 rfl) ?_
          have hq : partsL l = [] := by unfold partsL; rw [hpn]; rfl
          have hN2 : Now w none_ w9 [.own vh 23 (.slice none 0 0) [], .fam vb [] (partsL l)] := by
            rw [hq]; exact ((hN.sub (M := []) [] (by decide) rfl).famNil vb).addNil vh 23
          have hi : (parts l).isSome = false := by rw [hpn]; rfl
          rw [hi]
          exact ⟨_, _, rfl, hN2⟩
        · skip
          rw [decide_eq_false hX]
          refine RL.onEv rfl rfl (by decide) rfl rfl ev_move ?_
          refine RL.onEv rfl rfl (by decide) rfl rfl (ev_true (ev_neq rfl rfl) (by decide)) ?_
          refine RL.ev rfl rfl (ev_pickF rfl) ?_
          refine RL.nil ?_
          refine thenN ?_
          refine RW.condT rfl ?_
          refine RW.seq ?_
          have hpn : parts l = none := by
            rw [hp, hk1, partsF_bad hne_ (by first | exact .inl (by assumption) | exact .inr (by assumption))]; rfl
          refine RW.region ?_
          refine RL.ev rfl rfl ev_assign ?_
          refine RL.ev rfl rfl ev_assign ?_
          refine RL.nil ?_
          refine thenN ?_
          refine RW.ret ?_
          refine thenR ?_
          refine blockR ?_
          refine thenR ?_
          refine blockR ?_
          refine thenR ?_
          refine retI (RV.tmp2 rfl) ?_
          have hq : partsL l = [] := by unfold partsL; rw [hpn]; rfl
          have hN2 : Now w none_ w9 [.own vh 23 (.slice none 0 0) [], .fam vb [] (partsL l)] := by
            rw [hq]; exact ((hN.sub (M := []) [] (by decide) rfl).famNil vb).addNil vh 23
          have hi : (parts l).isSome = false := by rw [hpn]; rfl
          rw [hi]
          exact ⟨_, _, rfl, hN2⟩
    · skip
      refine RW.exit ?_
      refine thenX ?_
      refine thenX ?_
      refine blockHit ?_
      refine thenN ?_
      refine RW.seq ?_
      refine RW.region ?_
      refine RL.ev rfl rfl ev_move ?_
      refine RL.ev rfl rfl ev_assign ?_
      refine RL.ev rfl rfl ev_assign ?_
      refine RL.nil ?_
      refine thenN ?_
      refine RW.ret ?_
      refine retI (RV.tmp2 rfl) ?_
      have hq0 : rest = [] := List.eq_nil_of_length_eq_zero (by omega)
      have hq1 : parts l = some ls := by rw [hp, hq0, partsF_nil]; simp
      have hq : partsL l = ls := by unfold partsL; rw [hq1]; rfl
      have hN2 : Now w none_ w0' [.own vh 23 vo hs, .fam vb hs (partsL l)] := by
        rw [hq]; exact hN.sub [0, 1] (by decide) rfl
      have hi : (parts l).isSome = true := by rw [hq1]; rfl
      rw [hi]
      exact ⟨_, _, rfl, hN2⟩

end Go.Proofs.Ytngkdkbpgoddlaa
