import Derived.Test.YtihchogjmgbipaaWireW9
import Derived.Test.YtihchogjmgbipaaWireW10
set_option linter.unusedVariables false
set_option linter.unusedSimpArgs false
namespace Go.Proofs.Ytihchogjmgbipaa
open Go.RowKit Go.Rl

open Go.Codec
theorem eta3 {α β γ : Type} (x : α × β × γ) : x = (x.1, x.2.1, x.2.2) := rfl
theorem frames_at {v : Value} {b : List UInt8} {w : World} {ys : List (List UInt8)} {u e : Int} (hv : Sl vb w v b) (hb : b.length ≤ 1099511627776) (h : framesR b = (ys, u, e)) :
    Gives Try.prog 11 #[v] w fun r w' => ∃ v' hs', r = .tuple #[v', .int .i64 u, .int .i64 e] ∧ Now w none_ w' [.own vh 23 v' hs', .fam vb hs' ys] := by
  have := frames_calls v b w hv hb
  rw [h] at this
  exact this
theorem els_take {α : Type} {enc : α → Value} {F : Nat → Prop} {w : World} {hs : List Hd} {ls : List (List α)} (h : Els F enc w hs ls) (n : Nat) : Els F enc w (hs.take n) (ls.take n) := by
  refine ⟨by simp [h.1], fun i hd l hi hl => ?_⟩
  rw [List.getElem?_take] at hi hl
  split at hi
  · rename_i hlt; rw [if_pos hlt] at hl; exact h.2 i hd l hi hl
  · cases hi
theorem els_drop {α : Type} {enc : α → Value} {F : Nat → Prop} {w : World} {hs : List Hd} {ls : List (List α)} (h : Els F enc w hs ls) (n : Nat) : Els F enc w (hs.drop n) (ls.drop n) := by
  refine ⟨by simp [h.1], fun i hd l hi hl => ?_⟩
  rw [List.getElem?_drop] at hi hl
  exact h.2 _ hd l hi hl

set_option maxHeartbeats 4000000 in
set_option maxRecDepth 100000 in
/-- postroad/postroadlaw19.WireFrames -/
theorem wireFrames_calls (v0 b : Value) (hs0 : List Hd) (ls0 : List (List UInt8)) (bl : List UInt8) (w : World) (h0 : Sl vh w v0 hs0) (hel0 : Els none_ vb w hs0 ls0) (hb : Sl vb w b bl) (hM : massF ls0 ≤ 8388608) (hB : bl.length ≤ 1048576) : Gives Try.prog 3 #[v0, b] w fun r w' => r = .bool true ∧ Ext w w' := by
  refine Gives.start Try.func3 rfl (Nat.le_of_ble_eq_true rfl) ?_
  rw [args2]
  have hN := Now.nil w none_
  have hl0 := hel0.1
  have hm8 := massF_len ls0
  refine RW.seq ?_
  refine RW.region ?_
  refine RL.ev rfl rfl ev_assign ?_
  refine RL.nil ?_
  refine thenN ?_
  refine RW.seq ?_
  refine RW.region ?_
  refine RL.ev rfl rfl ev_move ?_
  have hL_1 := (hb.ext hN.ext0).len_le
  refine RL.ev rfl rfl (ev_lenS Try.underlying23 (hb.ext hN.ext0) rfl) ?_
  refine RL.ev rfl rfl ev_assign ?_
  refine RL.nil ?_
  refine thenN ?_
  refine RW.seq ?_
  refine RW.seq ?_
  refine RW.region ?_
  refine RL.ev rfl rfl ev_assign ?_
  refine RL.nil ?_
  refine thenN ?_
  refine RW.block ?_
  refine RW.loop (fun k R0 w0' => ∃ z : Int, ∃ i : Nat, R0 0 = v0 ∧ R0 1 = b ∧ R0 5 = .int .i64 (z) ∧ R0 6 = .int .i64 ((i : Int)) ∧ Now w none_ w0' [] ∧ (i + k = hs0.length) ∧ (z = ((bl.length + massF (ls0.take i) : Nat) : Int))) (hs0.length) ?_ ?_
  · skip
    exact ⟨(bl.length : Int), 0, rfl, rfl, rfl, rfl, hN, by omega, by simp [massF]⟩
  · skip
    clear hN
    rintro k R0 w0' ⟨z, i, hr0_, hr1_, hr5_, hr6_, hN, hik, hz⟩
    have hR_ : ∃ R0_, R0 = (upd (upd (upd (upd R0_ 0 _) 1 _) 5 _) 6 _) := ⟨R0, by rw [upd_self hr0_, upd_self hr1_, upd_self hr5_, upd_self hr6_]⟩
    obtain ⟨R0_, rfl⟩ := hR_
    clear hr0_ hr1_ hr5_ hr6_
    refine RW.seq ?_
    refine RW.seq ?_
    refine RW.region ?_
    refine RL.ev rfl rfl ev_move ?_
    refine RL.ev rfl rfl ev_move ?_
    have hL_2 := (h0.ext hN.ext0).len_le
    refine RL.ev rfl rfl (ev_lenS Try.underlying22 (h0.ext hN.ext0) rfl) ?_
    refine RL.ev rfl rfl (ev_lss rfl rfl) ?_
    refine RL.nil ?_
    refine thenN ?_
    refine RW.condP _ rfl (fun hlt => ?_) (fun hlt => ?_)
    · skip
      refine RW.skip ?_
      refine thenN ?_
      refine RW.seq ?_
      refine RW.block ?_
      refine RW.region ?_
      refine RL.ev rfl rfl ev_move ?_
      refine RL.ev rfl rfl ev_move ?_
      refine RL.ev rfl rfl ev_move ?_
      refine RL.ev rfl rfl (ev_index Try.underlying22 sz23 (h0.ext hN.ext0) rfl rfl (by omega) (by omega)) ?_
      have hOb_ : ∃ a_, (hs0)[i]? = some a_ := ⟨_, List.getElem?_eq_getElem (by omega)⟩
      obtain ⟨ap, hap⟩ := hOb_
      have hOb_ : ∃ l_, (ls0)[i]? = some l_ := ⟨_, List.getElem?_eq_getElem (by have := hel0.1; omega)⟩
      obtain ⟨lp, hlp⟩ := hOb_
      refine RL.ev rfl rfl (ev_loadG (m := i) (a := ap) Try.underlying23 rfl (h0.ext hN.ext0) rfl hap) ?_
      have hmt := massF_take hlp
      have hml := massF_le ls0 (i + 1)
      have hL_3 := ((hel0.2 _ _ _ hap hlp).1.ext hN.ext0).len_le
      refine RL.ev rfl rfl (ev_lenS Try.underlying23 ((hel0.2 _ _ _ hap hlp).1.ext hN.ext0) rfl) ?_
      refine RL.ev rfl rfl (ev_arith rfl rfl rfl (add64 (by omega) (by omega))) ?_
      refine RL.ev rfl rfl (ev_arith rfl rfl rfl (add64 (by omega) (by omega))) ?_
      refine RL.ev rfl rfl ev_assign ?_
      refine RL.nil ?_
      refine blockN ?_
      refine thenN ?_
      refine RW.region ?_
      refine RL.ev rfl rfl ev_move ?_
      refine RL.ev rfl rfl (ev_arith rfl rfl rfl (add64 (by omega) (by omega))) ?_
      refine RL.ev rfl rfl ev_assign ?_
      refine RL.nil ?_
      refine thenN ?_
      exact ⟨k - 1, by omega, z + (lp.length : Int) + 4, i + 1, rfl, rfl, rfl, rfl, hN, by omega, by rw [hz, hmt]; omega⟩
    · skip
      refine RW.exit ?_
      refine thenX ?_
      refine thenX ?_
      refine blockHit ?_
      refine thenN ?_
      refine RW.seq ?_
      refine RW.seq ?_
      refine RW.region ?_
      refine RL.ev rfl rfl ev_move ?_
      refine RL.ev rfl rfl (ev_gtr rfl rfl) ?_
      refine RL.nil ?_
      refine thenN ?_
      refine RW.condP _ rfl (fun hbig => ?_) (fun hbig => ?_)
      · skip
        refine RW.seq ?_
        refine RW.region ?_
        refine RL.op rfl rfl (op_call0 Try.func10 rfl rfl ((known_calls _).mono ?_))
        rintro _ w4 ⟨rfl, he_⟩
        replace hN := hN.ext he_
        clear he_
        refine RL.ev rfl rfl ev_assign ?_
        refine RL.nil ?_
        refine thenN ?_
        refine RW.ret ?_
        refine thenR ?_
        refine retI (RV.tmp rfl) ?_
        exact ⟨rfl, hN.ext0⟩
      · skip
        refine RW.skip ?_
        refine thenN ?_
        refine RW.seq ?_
        have hi_ : i = hs0.length := by omega
        rw [hi_, List.take_of_length_le (by omega)] at hz
        refine RW.region ?_
        refine RL.ev rfl rfl ev_move ?_
        refine RL.op rfl rfl (op_call1 Try.func11 rfl rfl rfl ((frames_at (hb.ext hN.ext0) (by (try simp only [List.length_append, List.length_take, List.length_drop, num8_length, putInts_length, putText_length, put_length, List.flatten_cons, List.flatten_nil, List.length_nil, List.length_cons]); omega) (eta3 (framesR bl))).mono ?_))
        rintro _ w5 ⟨v5, hs5, rfl, hC_⟩
        have hN_ := hN.call0 hC_
        clear hC_
        clear hN
        have hN : Now w none_ w5 [_, _] := hN_
        clear hN_
        refine RL.ev rfl rfl ev_move ?_
        refine RL.ev rfl rfl (ev_extract rfl rfl) ?_
        refine RL.ev rfl rfl (ev_extract rfl rfl) ?_
        refine RL.ev rfl rfl (ev_extract rfl rfl) ?_
        refine RL.ev rfl rfl ev_assign ?_
        refine RL.ev rfl rfl ev_assign ?_
        refine RL.ev rfl rfl ev_assign ?_
        refine RL.nil ?_
        refine thenN ?_
        refine RW.seq ?_
        refine RW.region ?_
        refine RL.ev rfl rfl ev_move ?_
        refine RL.op rfl rfl (op_call1 Try.func12 rfl rfl rfl ((refFrames_calls _ bl _ (hb.ext hN.ext0) (by (try simp only [List.length_append, List.length_take, List.length_drop, num8_length, putInts_length, putText_length, put_length, List.flatten_cons, List.flatten_nil, List.length_nil, List.length_cons]); omega)).mono ?_))
        rintro _ w6 ⟨v6, hs6, rfl, hC_, hel_⟩
        have hel6 := hel_.ext hC_.ext0
        have hN_ := hN.call0 hC_
        clear hC_ hel_
        clear hN
        have hN : Now w none_ w6 [_, _, _] := hN_
        clear hN_
        have hF7 := hN
        clear hN
        have hN := Now.nil w6 none_
        refine RL.ev rfl rfl ev_move ?_
        refine RL.ev rfl rfl (ev_extract rfl rfl) ?_
        refine RL.ev rfl rfl (ev_extract rfl rfl) ?_
        refine RL.ev rfl rfl (ev_extract rfl rfl) ?_
        refine RL.ev rfl rfl ev_assign ?_
        refine RL.ev rfl rfl ev_assign ?_
        refine RL.ev rfl rfl ev_assign ?_
        refine RL.nil ?_
        refine thenN ?_
        refine RW.seq ?_
        refine RW.region ?_
        refine RL.ev rfl rfl ev_move ?_
        refine RL.op rfl rfl (op_call1 Try.func14 rfl rfl rfl ((frame_calls _ hs0 ls0 _ ((h0.ext hF7.ext0).ext hN.ext0) ((hel0.ext hF7.ext0).ext hN.ext0) (by omega)).mono ?_))
        rintro v8 w8 ⟨ho_, he_⟩
        have hN_ := hN.pushOwn (l := frameB ls0) ho_ he_
        clear ho_ he_
        clear hN
        have hN : Now w6 none_ w8 [_] := hN_
        clear hN_
        refine RL.ev rfl rfl ev_move ?_
        refine RL.op rfl rfl (op_call1 Try.func15 rfl rfl rfl ((refFrame_calls _ hs0 ls0 _ ((h0.ext hF7.ext0).ext hN.ext0) ((hel0.ext hF7.ext0).ext hN.ext0) (by omega)).mono ?_))
        rintro v9 w9 ⟨ho_, he_⟩
        have hN_ := hN.pushOwn (l := frameB ls0) ho_ he_
        clear ho_ he_
        clear hN
        have hN : Now w6 none_ w9 [_, _] := hN_
        clear hN_
        refine RL.op rfl rfl (op_call2 Try.func13 rfl rfl rfl rfl ((same_true (hN.sl 1 rfl) (hN.sl 0 rfl) rfl).mono ?_))
        rintro _ _ ⟨rfl, rfl⟩
        refine RL.ev rfl rfl ev_move ?_
        refine RL.onEv rfl rfl (by decide) rfl rfl ev_move ?_
        refine RL.onEv rfl rfl (by decide) rfl rfl ev_move ?_
        refine RL.on rfl rfl (by decide) rfl rfl (op_call2 Try.func16 rfl rfl rfl rfl ((sameLists_true ((hF7.sl 1 rfl).ext hN.ext0) ((hF7.els 2 rfl).ext hN.ext0) ((hF7.sl 0 rfl).ext hN.ext0) (hel6.ext hN.ext0) rfl).mono ?_))
        rintro _ w11 ⟨rfl, he_⟩
        replace hN := hN.ext he_
        clear he_
        refine RL.ev rfl rfl (ev_pickT rfl) ?_
        refine RL.ev rfl rfl ev_move ?_
        refine RL.onEv rfl rfl (by decide) rfl rfl ev_move ?_
        refine RL.onEv rfl rfl (by decide) rfl rfl ev_move ?_
        refine RL.onEv rfl rfl (by decide) rfl rfl (ev_true (ev_eql rfl rfl) rfl) ?_
        refine RL.ev rfl rfl (ev_pickT rfl) ?_
        refine RL.ev rfl rfl ev_move ?_
        refine RL.onEv rfl rfl (by decide) rfl rfl ev_move ?_
        refine RL.onEv rfl rfl (by decide) rfl rfl ev_move ?_
        refine RL.onEv rfl rfl (by decide) rfl rfl (ev_true (ev_eql rfl rfl) rfl) ?_
        refine RL.ev rfl rfl (ev_pickT rfl) ?_
        refine RL.ev rfl rfl ev_move ?_
        refine RL.on rfl rfl (by decide) rfl rfl (op_call0 Try.func10 rfl rfl ((known_calls _).mono ?_))
        rintro _ w12 ⟨rfl, he_⟩
        replace hN := hN.ext he_
        clear he_
        refine RL.ev rfl rfl (ev_pickT rfl) ?_
        refine RL.ev rfl rfl ev_assign ?_
        refine RL.nil ?_
        refine thenN ?_
        refine RW.ret ?_
        refine retI (RV.tmp rfl) ?_
        exact ⟨rfl, (hF7.ext0.trans hN.ext0)⟩

set_option maxHeartbeats 4000000 in
set_option maxRecDepth 100000 in
/-- postroad/postroadlaw19.WireSplits -/
theorem wireSplits_calls (v0 b : Value) (hs0 : List Hd) (ls0 : List (List UInt8)) (bl : List UInt8) (w : World) (h0 : Sl vh w v0 hs0) (hel0 : Els none_ vb w hs0 ls0) (hb : Sl vb w b bl) (hM : massF ls0 ≤ 8388608) (hB : bl.length ≤ 1048576) : Gives Try.prog 4 #[v0, b] w fun r w' => r = .bool true ∧ Ext w w' := by
  refine Gives.start Try.func4 rfl (Nat.le_of_ble_eq_true rfl) ?_
  rw [args2]
  have hN := Now.nil w none_
  have hl0 := hel0.1
  have hm8 := massF_len ls0
  refine RW.seq ?_
  refine RW.region ?_
  refine RL.ev rfl rfl ev_assign ?_
  refine RL.nil ?_
  refine thenN ?_
  refine RW.seq ?_
  refine RW.region ?_
  refine RL.ev rfl rfl ev_move ?_
  have hL_1 := (hb.ext hN.ext0).len_le
  refine RL.ev rfl rfl (ev_lenS Try.underlying23 (hb.ext hN.ext0) rfl) ?_
  refine RL.ev rfl rfl ev_assign ?_
  refine RL.nil ?_
  refine thenN ?_
  refine RW.seq ?_
  refine RW.seq ?_
  refine RW.region ?_
  refine RL.ev rfl rfl ev_assign ?_
  refine RL.nil ?_
  refine thenN ?_
  refine RW.block ?_
  refine RW.loop (fun k R0 w0' => ∃ z : Int, ∃ i : Nat, R0 0 = v0 ∧ R0 1 = b ∧ R0 5 = .int .i64 (z) ∧ R0 6 = .int .i64 ((i : Int)) ∧ Now w none_ w0' [] ∧ (i + k = hs0.length) ∧ (z = ((bl.length + massF (ls0.take i) : Nat) : Int))) (hs0.length) ?_ ?_
  · skip
    exact ⟨(bl.length : Int), 0, rfl, rfl, rfl, rfl, hN, by omega, by simp [massF]⟩
  · skip
    clear hN
    rintro k R0 w0' ⟨z, i, hr0_, hr1_, hr5_, hr6_, hN, hik, hz⟩
    have hR_ : ∃ R0_, R0 = (upd (upd (upd (upd R0_ 0 _) 1 _) 5 _) 6 _) := ⟨R0, by rw [upd_self hr0_, upd_self hr1_, upd_self hr5_, upd_self hr6_]⟩
    obtain ⟨R0_, rfl⟩ := hR_
    clear hr0_ hr1_ hr5_ hr6_
    refine RW.seq ?_
    refine RW.seq ?_
    refine RW.region ?_
    refine RL.ev rfl rfl ev_move ?_
    refine RL.ev rfl rfl ev_move ?_
    have hL_2 := (h0.ext hN.ext0).len_le
    refine RL.ev rfl rfl (ev_lenS Try.underlying22 (h0.ext hN.ext0) rfl) ?_
    refine RL.ev rfl rfl (ev_lss rfl rfl) ?_
    refine RL.nil ?_
    refine thenN ?_
    refine RW.condP _ rfl (fun hlt => ?_) (fun hlt => ?_)
    · skip
      refine RW.skip ?_
      refine thenN ?_
      refine RW.seq ?_
      refine RW.block ?_
      refine RW.region ?_
      refine RL.ev rfl rfl ev_move ?_
      refine RL.ev rfl rfl ev_move ?_
      refine RL.ev rfl rfl ev_move ?_
      refine RL.ev rfl rfl (ev_index Try.underlying22 sz23 (h0.ext hN.ext0) rfl rfl (by omega) (by omega)) ?_
      have hOb_ : ∃ a_, (hs0)[i]? = some a_ := ⟨_, List.getElem?_eq_getElem (by omega)⟩
      obtain ⟨ap, hap⟩ := hOb_
      have hOb_ : ∃ l_, (ls0)[i]? = some l_ := ⟨_, List.getElem?_eq_getElem (by have := hel0.1; omega)⟩
      obtain ⟨lp, hlp⟩ := hOb_
      refine RL.ev rfl rfl (ev_loadG (m := i) (a := ap) Try.underlying23 rfl (h0.ext hN.ext0) rfl hap) ?_
      have hmt := massF_take hlp
      have hml := massF_le ls0 (i + 1)
      have hL_3 := ((hel0.2 _ _ _ hap hlp).1.ext hN.ext0).len_le
      refine RL.ev rfl rfl (ev_lenS Try.underlying23 ((hel0.2 _ _ _ hap hlp).1.ext hN.ext0) rfl) ?_
      refine RL.ev rfl rfl (ev_arith rfl rfl rfl (add64 (by omega) (by omega))) ?_
      refine RL.ev rfl rfl (ev_arith rfl rfl rfl (add64 (by omega) (by omega))) ?_
      refine RL.ev rfl rfl ev_assign ?_
      refine RL.nil ?_
      refine blockN ?_
      refine thenN ?_
      refine RW.region ?_
      refine RL.ev rfl rfl ev_move ?_
      refine RL.ev rfl rfl (ev_arith rfl rfl rfl (add64 (by omega) (by omega))) ?_
      refine RL.ev rfl rfl ev_assign ?_
      refine RL.nil ?_
      refine thenN ?_
      exact ⟨k - 1, by omega, z + (lp.length : Int) + 4, i + 1, rfl, rfl, rfl, rfl, hN, by omega, by rw [hz, hmt]; omega⟩
    · skip
      refine RW.exit ?_
      refine thenX ?_
      refine thenX ?_
      refine blockHit ?_
      refine thenN ?_
      refine RW.seq ?_
      refine RW.seq ?_
      refine RW.region ?_
      refine RL.ev rfl rfl ev_move ?_
      refine RL.ev rfl rfl (ev_gtr rfl rfl) ?_
      refine RL.nil ?_
      refine thenN ?_
      refine RW.condP _ rfl (fun hbig => ?_) (fun hbig => ?_)
      · skip
        refine RW.seq ?_
        refine RW.region ?_
        refine RL.op rfl rfl (op_call0 Try.func10 rfl rfl ((known_calls _).mono ?_))
        rintro _ w4 ⟨rfl, he_⟩
        replace hN := hN.ext he_
        clear he_
        refine RL.ev rfl rfl ev_assign ?_
        refine RL.nil ?_
        refine thenN ?_
        refine RW.ret ?_
        refine thenR ?_
        refine retI (RV.tmp rfl) ?_
        exact ⟨rfl, hN.ext0⟩
      · skip
        refine RW.skip ?_
        refine thenN ?_
        refine RW.seq ?_
        have hi_ : i = hs0.length := by omega
        rw [hi_, List.take_of_length_le (by omega)] at hz
        have hfl := frameB_length ls0
        have hfr := framesR_frame bl ls0 (fun l hl => by have := massF_mem hl; omega)
        have hus := framesR_used bl
        refine RW.region ?_
        refine RL.ev rfl rfl ev_move ?_
        refine RL.op rfl rfl (op_call1 Try.func14 rfl rfl rfl ((frame_calls _ hs0 ls0 _ (h0.ext hN.ext0) (hel0.ext hN.ext0) (by omega)).mono ?_))
        rintro v5 w5 ⟨ho_, he_⟩
        have hN_ := hN.pushOwn (l := frameB ls0) ho_ he_
        clear ho_ he_
        clear hN
        have hN : Now w none_ w5 [_] := hN_
        clear hN_
        refine RL.ev rfl rfl ev_assign ?_
        refine RL.nil ?_
        refine thenN ?_
        refine RW.seq ?_
        refine RW.region ?_
        refine RL.ev rfl rfl ev_move ?_
        have hL_6 := (hN.sl 0 rfl).len_le
        refine RL.ev rfl rfl (ev_lenS Try.underlying23 (hN.sl 0 rfl) rfl) ?_
        refine RL.ev rfl rfl ev_assign ?_
        refine RL.nil ?_
        refine thenN ?_
        refine RW.seq ?_
        refine RW.region ?_
        refine RL.ev rfl rfl ev_move ?_
        refine RL.op rfl rfl (op_call1 Try.func11 rfl rfl rfl ((frames_at (hb.ext hN.ext0) (by (try simp only [List.length_append]); omega) (eta3 (framesR bl))).mono ?_))
        rintro _ w7 ⟨v7, hs7, rfl, hC_⟩
        have hN_ := hN.call0 hC_
        clear hC_
        clear hN
        have hN : Now w none_ w7 [_, _, _] := hN_
        clear hN_
        refine RL.ev rfl rfl ev_move ?_
        refine RL.ev rfl rfl (ev_extract rfl rfl) ?_
        refine RL.ev rfl rfl (ev_extract rfl rfl) ?_
        refine RL.ev rfl rfl (ev_extract rfl rfl) ?_
        refine RL.ev rfl rfl ev_assign ?_
        refine RL.ev rfl rfl ev_assign ?_
        refine RL.ev rfl rfl ev_assign ?_
        refine RL.nil ?_
        refine thenN ?_
        refine RW.seq ?_
        refine RW.region ?_
        refine RL.ev rfl rfl ev_move ?_
        refine RL.ev rfl rfl ev_move ?_
        refine RL.op rfl rfl (opN_append Try.underlying23 inf5 rfl vb_one hN 2 rfl rfl (hb.ext hN.ext0) rfl (by (try simp only [List.length_append, List.length_take, List.length_drop, num8_length, putInts_length, putText_length, put_length, List.flatten_cons, List.flatten_nil, List.length_nil, List.length_cons]); omega) (by decide) ?_)
        intro v8 w8 hN_
        clear hN
        have hN : Now w none_ w8 [_, _, _] := hN_
        clear hN_
        refine RL.ev rfl rfl ev_assign ?_
        refine RL.nil ?_
        refine thenN ?_
        refine RW.seq ?_
        refine RW.region ?_
        refine RL.ev rfl rfl ev_move ?_
        refine RL.op rfl rfl (op_call1 Try.func11 rfl rfl rfl ((frames_at (hN.sl 2 rfl) (by (try simp only [List.length_append]); omega) hfr).mono ?_))
        rintro _ w9 ⟨v9, hs9, rfl, hC_⟩
        have hN_ := hN.call0 hC_
        clear hC_
        clear hN
        have hN : Now w none_ w9 [_, _, _, _, _] := hN_
        clear hN_
        refine RL.ev rfl rfl ev_move ?_
        refine RL.ev rfl rfl (ev_extract rfl rfl) ?_
        refine RL.ev rfl rfl (ev_extract rfl rfl) ?_
        refine RL.ev rfl rfl (ev_extract rfl rfl) ?_
        refine RL.ev rfl rfl ev_assign ?_
        refine RL.ev rfl rfl ev_assign ?_
        refine RL.ev rfl rfl ev_assign ?_
        have hly := ((hN.els 1 rfl)).1
        have hlx := ((hN.els 3 rfl)).1
        rw [List.length_append] at hly
        refine RL.nil ?_
        refine thenN ?_
        refine RW.seq ?_
        refine RW.seq ?_
        refine RW.region ?_
        refine RL.ev rfl rfl ev_move ?_
        have hL_10 := (hN.sl 0 rfl).len_le
        refine RL.ev rfl rfl (ev_lenS Try.underlying22 (hN.sl 0 rfl) rfl) ?_
        refine RL.ev rfl rfl ev_move ?_
        refine RL.ev rfl rfl (ev_lenS Try.underlying22 (h0.ext hN.ext0) rfl) ?_
        refine RL.ev rfl rfl ev_move ?_
        have hL_11 := (hN.sl 2 rfl).len_le
        refine RL.ev rfl rfl (ev_lenS Try.underlying22 (hN.sl 2 rfl) rfl) ?_
        refine RL.ev rfl rfl (ev_arith rfl rfl rfl (add64 (by omega) (by omega))) ?_
        refine RL.ev rfl rfl (ev_false (ev_neq rfl rfl) (by omega)) ?_
        refine RL.ev rfl rfl ev_move ?_
        refine RL.onEv rfl rfl (by decide) rfl rfl ev_move ?_
        refine RL.onEv rfl rfl (by decide) rfl rfl ev_move ?_
        refine RL.onEv rfl rfl (by decide) rfl rfl ev_move ?_
        refine RL.onEv rfl rfl (by decide) rfl rfl (ev_arith rfl rfl rfl (add64 (by omega) (by omega))) ?_
        refine RL.onEv rfl rfl (by decide) rfl rfl (ev_false (ev_neq rfl rfl) (by omega)) ?_
        refine RL.ev rfl rfl (ev_pickF rfl) ?_
        refine RL.ev rfl rfl ev_move ?_
        refine RL.onEv rfl rfl (by decide) rfl rfl ev_move ?_
        refine RL.onEv rfl rfl (by decide) rfl rfl ev_move ?_
        refine RL.onEv rfl rfl (by decide) rfl rfl (ev_false (ev_neq rfl rfl) (fun h => h rfl)) ?_
        refine RL.ev rfl rfl (ev_pickF rfl) ?_
        refine RL.nil ?_
        refine thenN ?_
        refine RW.condF rfl ?_
        refine RW.skip ?_
        refine thenN ?_
        refine RW.seq ?_
        refine RW.region ?_
        refine RL.ev rfl rfl ev_move ?_
        refine RL.ev rfl rfl ev_move ?_
        refine RL.ev rfl rfl (ev_lenS Try.underlying22 (h0.ext hN.ext0) rfl) ?_
        refine RL.ev rfl rfl (ev_cutTo Try.underlying22 sz23 (hN.sl 0 rfl) rfl rfl (by omega) (by omega)) ?_
        refine RL.ev rfl rfl ev_move ?_
        refine RL.op rfl rfl (op_call2 Try.func16 rfl rfl rfl rfl ((sameLists_true ((hN.sl 0 rfl).cutTo (by omega)) (els_take (hN.els 1 rfl) hs0.length) (h0.ext hN.ext0) (hel0.ext hN.ext0) (by rw [hl0, List.take_left])).mono ?_))
        rintro _ w12 ⟨rfl, he_⟩
        replace hN := hN.ext he_
        clear he_
        refine RL.ev rfl rfl ev_move ?_
        refine RL.onEv rfl rfl (by decide) rfl rfl ev_move ?_
        refine RL.onEv rfl rfl (by decide) rfl rfl ev_move ?_
        refine RL.onEv rfl rfl (by decide) rfl rfl (ev_lenS Try.underlying22 (h0.ext hN.ext0) rfl) ?_
        refine RL.onEv rfl rfl (by decide) rfl rfl (ev_cutFrom Try.underlying22 sz23 (hN.sl 0 rfl) rfl rfl (by omega) (by omega)) ?_
        refine RL.onEv rfl rfl (by decide) rfl rfl ev_move ?_
        refine RL.on rfl rfl (by decide) rfl rfl (op_call2 Try.func16 rfl rfl rfl rfl ((sameLists_true ((hN.sl 0 rfl).cutFrom (by omega)) (els_drop (hN.els 1 rfl) hs0.length) (hN.sl 2 rfl) (hN.els 3 rfl) (by rw [hl0, List.drop_left])).mono ?_))
        rintro _ w13 ⟨rfl, he_⟩
        replace hN := hN.ext he_
        clear he_
        refine RL.ev rfl rfl (ev_pickT rfl) ?_
        refine RL.ev rfl rfl ev_move ?_
        refine RL.onEv rfl rfl (by decide) rfl rfl (ev_buildL (cs := [.int .i64 (0), .string ByteArray.empty, .int .i64 (0), .int .i64 (0), .int .i64 (0), .slice none 0 0]) Try.underlying38 zero38 (places := #[(0, 1), (1, 1), (2, 1), (3, 1), (4, 1), (5, 1)]) (by intro w; kernel_rfl) (pl := []) rfl (ps := []) rfl (zc := [.int .i64 (0), .string ByteArray.empty, .int .i64 (0), .int .i64 (0), .int .i64 (0), .slice none 0 0]) rfl rfl) ?_
        refine RL.onEv rfl rfl (by decide) rfl rfl (ev_buildL (cs := [.int .i64 (0), .string ByteArray.empty, .int .i64 (0), .int .i64 (0), .int .i64 (0), .slice none 0 0]) Try.underlying38 zero38 (places := #[(0, 1), (1, 1), (2, 1), (3, 1), (4, 1), (5, 1)]) (by intro w; kernel_rfl) (pl := []) rfl (ps := []) rfl (zc := [.int .i64 (0), .string ByteArray.empty, .int .i64 (0), .int .i64 (0), .int .i64 (0), .slice none 0 0]) rfl rfl) ?_
        refine RL.on rfl rfl (by decide) rfl rfl (op_call2 Try.func17 rfl rfl rfl rfl ((sameReq_calls _ _ (⟨0, [], 0, 0, 0, []⟩) _ ⟨.slice none 0 0, rfl, (Sl.nil _ _)⟩ ⟨.slice none 0 0, rfl, (Sl.nil _ _)⟩).mono ?_))
        rintro _ w14 ⟨rfl, he_⟩
        replace hN := hN.ext he_
        clear he_
        refine RL.ev rfl rfl (ev_pickT rfl) ?_
        refine RL.ev rfl rfl ev_move ?_
        refine RL.on rfl rfl (by decide) rfl rfl (op_call0 Try.func10 rfl rfl ((known_calls _).mono ?_))
        rintro _ w15 ⟨rfl, he_⟩
        replace hN := hN.ext he_
        clear he_
        refine RL.ev rfl rfl (ev_pickT rfl) ?_
        refine RL.ev rfl rfl ev_assign ?_
        refine RL.nil ?_
        refine thenN ?_
        refine RW.ret ?_
        refine retI (RV.tmp rfl) ?_
        exact ⟨rfl, hN.ext0⟩

end Go.Proofs.Ytihchogjmgbipaa
