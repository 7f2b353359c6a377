import Derived.Test.YtihchogjmgbipaaWireW6
import Derived.Test.YtihchogjmgbipaaWirePlain6
set_option linter.unusedVariables false
set_option linter.unusedSimpArgs false
namespace Go.Proofs.Ytihchogjmgbipaa
open Go.RowKit Go.Rl

open Go.Codec
set_option maxHeartbeats 4000000 in
set_option maxRecDepth 100000 in
/-- postroad/postroadref00.SameLists -/
theorem sameLists_calls (a b : Value) (hs hs2 : List Hd) (ls ls2 : List (List UInt8)) (w : World) (ha : Sl vh w a hs) (hea : Els none_ vb w hs ls) (hb : Sl vh w b hs2) (heb : Els none_ vb w hs2 ls2) : Gives Try.prog 16 #[a, b] w fun r w' => r = .bool (decide (ls = ls2)) ∧ Ext w w' := by
  refine Gives.start Try.func16 rfl (Nat.le_of_ble_eq_true rfl) ?_
  rw [args2]
  have hN := Now.nil w none_
  have hla := hea.1
  have hlb := heb.1
  refine RW.seq ?_
  refine RW.region ?_
  refine RL.ev rfl rfl ev_assign ?_
  refine RL.nil ?_
  refine thenN ?_
  refine RW.seq ?_
  refine RW.seq ?_
  refine RW.region ?_
  refine RL.ev rfl rfl ev_move ?_
  have hL_1 := (ha.ext hN.ext0).len_le
  refine RL.ev rfl rfl (ev_lenS Try.underlying22 (ha.ext hN.ext0) rfl) ?_
  refine RL.ev rfl rfl ev_move ?_
  have hL_2 := (hb.ext hN.ext0).len_le
  refine RL.ev rfl rfl (ev_lenS Try.underlying22 (hb.ext hN.ext0) rfl) ?_
  refine RL.ev rfl rfl (ev_neq rfl rfl) ?_
  refine RL.nil ?_
  refine thenN ?_
  refine RW.condP _ rfl (fun hne => ?_) (fun hne => ?_)
  · skip
    refine RW.seq ?_
    refine RW.region ?_
    refine RL.ev rfl rfl ev_assign ?_
    refine RL.nil ?_
    refine thenN ?_
    refine RW.ret ?_
    refine thenR ?_
    refine retI (RV.tmp rfl) ?_
    exact ⟨(congrArg Value.bool (decide_eq_false (fun e : ls = ls2 => hne (by rw [hla, hlb, e])))).symm, hN.ext0⟩
  · skip
    refine RW.skip ?_
    refine thenN ?_
    refine RW.seq ?_
    refine RW.seq ?_
    have hxy : hs.length = hs2.length := by omega
    refine RW.region ?_
    refine RL.ev rfl rfl ev_assign ?_
    refine RL.nil ?_
    refine thenN ?_
    refine RW.block ?_
    refine RW.loop (fun k R0 w0' => ∃ i : Nat, R0 0 = a ∧ R0 1 = b ∧ R0 5 = .int .i64 ((i : Int)) ∧ Now w none_ w0' [] ∧ (i + k = hs.length) ∧ (ls.take i = ls2.take i)) (hs.length) ?_ ?_
    · skip
      exact ⟨0, rfl, rfl, rfl, hN, by omega, rfl⟩
    · skip
      clear hN
      rintro k R0 w0' ⟨i, hr0_, hr1_, hr5_, hN, hik, htk⟩
      have hR_ : ∃ R0_, R0 = (upd (upd (upd R0_ 0 _) 1 _) 5 _) := ⟨R0, by rw [upd_self hr0_, upd_self hr1_, upd_self hr5_]⟩
      obtain ⟨R0_, rfl⟩ := hR_
      clear hr0_ hr1_ hr5_
      refine RW.seq ?_
      refine RW.seq ?_
      refine RW.region ?_
      refine RL.ev rfl rfl ev_move ?_
      refine RL.ev rfl rfl ev_move ?_
      refine RL.ev rfl rfl (ev_lenS Try.underlying22 (ha.ext hN.ext0) rfl) ?_
      refine RL.ev rfl rfl (ev_lss rfl rfl) ?_
      refine RL.nil ?_
      refine thenN ?_
      refine RW.condP _ rfl (fun hlt => ?_) (fun hlt => ?_)
      · skip
        refine RW.skip ?_
        refine thenN ?_
        refine RW.seq ?_
        refine RW.block ?_
        refine RW.seq ?_
        refine RW.draw rfl (fun u => Now w none_ u []) ?_
        replace hN := hN.ext (Ext.drew w0')
        refine RA.take (i := 0) rfl rfl (by kernel_rfl) (by kernel_rfl) (by kernel_rfl) (by intro _ _ _ h; exact h) rfl hN (fun w hS => ev_move) ?_
        refine RA.take (i := 1) rfl rfl (by kernel_rfl) (by kernel_rfl) (by kernel_rfl) (by intro _ _ _ h; exact h) rfl hN (fun w hS => ev_move) ?_
        refine RA.take (i := 2) rfl rfl (by kernel_rfl) (by kernel_rfl) (by kernel_rfl) (by intro _ _ _ h; exact h) rfl hN (fun w hS => (ev_index Try.underlying22 sz23 (ha.ext hS.ext0) rfl rfl (by omega) (by omega))) ?_
        have hOb_ : ∃ a_, (hs)[i]? = some a_ := ⟨_, List.getElem?_eq_getElem (by omega)⟩
        obtain ⟨ap, hap⟩ := hOb_
        have hOb_ : ∃ l_, (ls)[i]? = some l_ := ⟨_, List.getElem?_eq_getElem (by have := hea.1; omega)⟩
        obtain ⟨lp, hlp⟩ := hOb_
        refine RA.take (i := 3) rfl rfl (by kernel_rfl) (by kernel_rfl) (by kernel_rfl) (by intro _ _ _ h; exact h) rfl hN (fun w hS => (ev_loadG (m := i) (a := ap) Try.underlying23 rfl (ha.ext hS.ext0) rfl hap)) ?_
        refine RA.take (i := 4) rfl rfl (by kernel_rfl) (by kernel_rfl) (by kernel_rfl) (by intro _ _ _ h; exact h) rfl hN (fun w hS => (ev_toStr Try.underlying23 Try.underlying5 Try.underlying9 ((hea.2 _ _ _ hap hlp).1.ext hS.ext0) rfl)) ?_
        refine RA.take (i := 5) rfl rfl (by kernel_rfl) (by kernel_rfl) (by kernel_rfl) (by intro _ _ _ h; exact h) rfl hN (fun w hS => ev_move) ?_
        refine RA.take (i := 6) rfl rfl (by kernel_rfl) (by kernel_rfl) (by kernel_rfl) (by intro _ _ _ h; exact h) rfl hN (fun w hS => ev_move) ?_
        refine RA.take (i := 7) rfl rfl (by kernel_rfl) (by kernel_rfl) (by kernel_rfl) (by intro _ _ _ h; exact h) rfl hN (fun w hS => (ev_index Try.underlying22 sz23 (hb.ext hS.ext0) rfl rfl (by omega) (by omega))) ?_
        have hOb_ : ∃ a_, (hs2)[i]? = some a_ := ⟨_, List.getElem?_eq_getElem (by omega)⟩
        obtain ⟨aq, haq⟩ := hOb_
        have hOb_ : ∃ l_, (ls2)[i]? = some l_ := ⟨_, List.getElem?_eq_getElem (by have := heb.1; omega)⟩
        obtain ⟨lq, hlq⟩ := hOb_
        refine RA.take (i := 8) rfl rfl (by kernel_rfl) (by kernel_rfl) (by kernel_rfl) (by intro _ _ _ h; exact h) rfl hN (fun w hS => (ev_loadG (m := i) (a := aq) Try.underlying23 rfl (hb.ext hS.ext0) rfl haq)) ?_
        refine RA.take (i := 9) rfl rfl (by kernel_rfl) (by kernel_rfl) (by kernel_rfl) (by intro _ _ _ h; exact h) rfl hN (fun w hS => (ev_toStr Try.underlying23 Try.underlying5 Try.underlying9 ((heb.2 _ _ _ haq hlq).1.ext hS.ext0) rfl)) ?_
        refine RA.take (i := 10) rfl rfl (by kernel_rfl) (by kernel_rfl) (by kernel_rfl) (by intro _ _ _ h; exact h) rfl hN (fun w hS => (ev_strNe rfl rfl)) ?_
        refine RA.done (by kernel_rfl) ?_
        refine thenN ?_
        refine RW.condP _ rfl (fun hne2 => ?_) (fun hne2 => ?_)
        · skip
          refine RW.seq ?_
          refine RW.region ?_
          refine RL.ev rfl rfl ev_assign ?_
          refine RL.nil ?_
          refine thenN ?_
          refine RW.ret ?_
          refine blockR ?_
          refine thenR ?_
          refine thenR ?_
          refine blockR ?_
          refine thenR ?_
          refine retI (RV.tmp rfl) ?_
          exact ⟨(congrArg Value.bool (decide_eq_false (fun e : ls = ls2 => hne2 (by subst e; rw [hlp] at hlq; exact Option.some.inj hlq)))).symm, hN.ext0⟩
        · skip
          refine RW.skip ?_
          refine blockN ?_
          refine thenN ?_
          refine RW.region ?_
          refine RL.ev rfl rfl ev_move ?_
          refine RL.ev rfl rfl (ev_arith rfl rfl rfl (add64 (by omega) (by omega))) ?_
          refine RL.ev rfl rfl ev_assign ?_
          refine RL.nil ?_
          refine thenN ?_
          exact ⟨k - 1, by omega, i + 1, rfl, rfl, rfl, hN, by omega, by rw [List.take_add_one, List.take_add_one, hlp, hlq, htk, Decidable.not_not.1 hne2]⟩
      · skip
        refine RW.exit ?_
        refine thenX ?_
        refine thenX ?_
        refine blockHit ?_
        refine thenN ?_
        refine RW.seq ?_
        refine RW.region ?_
        refine RL.ev rfl rfl ev_assign ?_
        refine RL.nil ?_
        refine thenN ?_
        refine RW.ret ?_
        refine retI (RV.tmp rfl) ?_
        rw [List.take_of_length_le (by omega), List.take_of_length_le (by omega)] at htk
        exact ⟨(congrArg Value.bool (decide_eq_true htk)).symm, hN.ext0⟩

theorem sameLists_true {a b : Value} {hs hs2 : List Hd} {ls ls2 : List (List UInt8)} {w : World} (ha : Sl vh w a hs) (hea : Els none_ vb w hs ls) (hb : Sl vh w b hs2) (heb : Els none_ vb w hs2 ls2) (h : ls = ls2) :
    Gives Try.prog 16 #[a, b] w fun r w' => r = .bool true ∧ Ext w w' :=
  (sameLists_calls a b hs hs2 ls ls2 w ha hea hb heb).mono fun r w' hr => by rw [decide_eq_true h] at hr; exact hr

set_option maxHeartbeats 4000000 in
set_option maxRecDepth 100000 in
/-- postroad/wire.Frame -/
theorem frame_calls (v : Value) (hs : List Hd) (ls : List (List UInt8)) (w : World) (hv : Sl vh w v hs) (hel : Els none_ vb w hs ls) (hsz : massF ls ≤ 140737488351232) : Gives Try.prog 14 #[v] w fun r w' => Own vb 5 w' w.heap.size r (frameB ls) ∧ Ext w w' := by
  refine Gives.start Try.func14 rfl (Nat.le_of_ble_eq_true rfl) ?_
  rw [args1]
  have hN := Now.nil w none_
  have hl0 := hel.1
  have hm8 := massF_len ls
  refine RW.seq ?_
  refine RW.region ?_
  refine RL.ev rfl rfl ev_assign ?_
  refine RL.nil ?_
  refine thenN ?_
  refine RW.seq ?_
  refine RW.region ?_
  refine RL.ev rfl rfl ev_assign ?_
  refine RL.nil ?_
  refine thenN ?_
  refine RW.seq ?_
  refine RW.seq ?_
  refine RW.region ?_
  refine RL.ev rfl rfl ev_move ?_
  have hL_1 := (hv.ext hN.ext0).len_le
  refine RL.ev rfl rfl (ev_lenS Try.underlying22 (hv.ext hN.ext0) rfl) ?_
  refine RL.ev rfl rfl ev_move ?_
  refine RL.nil ?_
  refine thenN ?_
  refine RW.block ?_
  replace hN := hN.addNil vb 5
  refine RW.loop (fun k R0 w0' => ∃ vo : Value, ∃ acc : List UInt8, ∃ i : Nat, R0 3 = vo ∧ R0 6 = v ∧ R0 7 = .int .i64 ((hs.length : Int)) ∧ R0 8 = .int .i64 ((i : Int)) ∧ Now w none_ w0' [.own vb 5 (vo) (acc)] ∧ (i + k = hs.length) ∧ (acc = frameB (ls.take i))) (hs.length) ?_ ?_
  · skip
    exact ⟨.slice none 0 0, [], 0, rfl, rfl, rfl, rfl, hN, by omega, rfl⟩
  · skip
    clear hN
    rintro k R0 w0' ⟨vo, acc, i, hr3_, hr6_, hr7_, hr8_, hN, hik, hacc⟩
    have hR_ : ∃ R0_, R0 = (upd (upd (upd (upd R0_ 3 _) 6 _) 7 _) 8 _) := ⟨R0, by rw [upd_self hr3_, upd_self hr6_, upd_self hr7_, upd_self hr8_]⟩
    obtain ⟨R0_, rfl⟩ := hR_
    clear hr3_ hr6_ hr7_ hr8_
    refine RW.seq ?_
    refine RW.region ?_
    refine RL.ev rfl rfl (ev_lss rfl rfl) ?_
    refine RL.nil ?_
    refine thenN ?_
    refine RW.seq ?_
    refine RW.condP _ rfl (fun hlt => ?_) (fun hlt => ?_)
    · skip
      refine RW.skip ?_
      refine thenN ?_
      refine RW.seq ?_
      refine RW.block ?_
      refine RW.seq ?_
      refine RW.region ?_
      refine RL.ev rfl rfl (ev_index Try.underlying22 sz23 (hv.ext hN.ext0) rfl rfl (by omega) (by omega)) ?_
      have hOb_ : ∃ a_, (hs)[i]? = some a_ := ⟨_, List.getElem?_eq_getElem (by omega)⟩
      obtain ⟨ap, hap⟩ := hOb_
      have hOb_ : ∃ l_, (ls)[i]? = some l_ := ⟨_, List.getElem?_eq_getElem (by have := hel.1; omega)⟩
      obtain ⟨lp, hlp⟩ := hOb_
      refine RL.ev rfl rfl (ev_loadG (m := i) (a := ap) Try.underlying23 rfl (hv.ext hN.ext0) rfl hap) ?_
      have hjs := frameB_snoc hlp
      have hmt := massF_take hlp
      have hml := massF_le ls (i + 1)
      have hjl := frameB_length (ls.take i)
      have hal : acc.length = massF (ls.take i) := by rw [hacc, hjl]
      refine RL.ev rfl rfl ev_assign ?_
      refine RL.nil ?_
      refine thenN ?_
      refine RW.region ?_
      refine RL.ev rfl rfl ev_move ?_
      refine RL.ev rfl rfl ev_move ?_
      refine RL.ev rfl rfl (ev_toStr Try.underlying23 Try.underlying5 Try.underlying9 ((hel.2 _ _ _ hap hlp).1.ext hN.ext0) rfl) ?_
      refine RL.op rfl rfl (op_call1 Try.func29 rfl rfl rfl ((text_calls lp _ (by (try simp only [List.length_append, List.length_take, List.length_drop, num8_length, putInts_length, putText_length, put_length, List.flatten_cons, List.flatten_nil, List.length_nil, List.length_cons]); omega)).mono ?_))
      rintro v3 w3 ⟨ho_, he_⟩
      have hN_ := hN.pushOwn (l := putText lp) ho_ he_
      clear ho_ he_
      clear hN
      have hN : Now w none_ w3 [_, _] := hN_
      clear hN_
      refine RL.op rfl rfl (opN_append Try.underlying23 inf5 rfl vb_one hN 1 rfl rfl (hN.sl 0 rfl) rfl (by rw [putText_length]; omega) (by decide) ?_)
      intro v4 w4 hN_
      clear hN
      have hN : Now w none_ w4 [_, _] := hN_
      clear hN_
      refine RL.ev rfl rfl ev_assign ?_
      refine RL.nil ?_
      refine blockN ?_
      refine thenN ?_
      refine RW.region ?_
      refine RL.ev rfl rfl (ev_arith rfl rfl rfl (add64 (by omega) (by omega))) ?_
      refine RL.ev rfl rfl ev_move ?_
      refine RL.nil ?_
      refine thenN ?_
      exact ⟨k - 1, by omega, v4, acc ++ (putText lp), i + 1, rfl, rfl, rfl, rfl, (hN.sub [1] (by decide) rfl), by omega, by rw [hjs, hacc]⟩
    · skip
      refine RW.exit ?_
      refine thenX ?_
      refine thenX ?_
      refine blockHit ?_
      refine thenN ?_
      refine RW.seq ?_
      refine RW.region ?_
      refine RL.ev rfl rfl ev_move ?_
      refine RL.ev rfl rfl ev_assign ?_
      refine RL.nil ?_
      refine thenN ?_
      refine RW.ret ?_
      refine retI (RV.tmp rfl) ?_
      exact ⟨(hN.ownOut 0 rfl).relist (by rw [hacc, List.take_of_length_le (by omega)]), hN.ext0⟩

set_option maxHeartbeats 4000000 in
set_option maxRecDepth 100000 in
/-- postroad/postroadref19.Frame -/
theorem refFrame_calls (v : Value) (hs : List Hd) (ls : List (List UInt8)) (w : World) (hv : Sl vh w v hs) (hel : Els none_ vb w hs ls) (hsz : massF ls ≤ 140737488351232) : Gives Try.prog 15 #[v] w fun r w' => Own vb 5 w' w.heap.size r (frameB ls) ∧ Ext w w' := by
  refine Gives.start Try.func15 rfl (Nat.le_of_ble_eq_true rfl) ?_
  rw [args1]
  have hN := Now.nil w none_
  have hl0 := hel.1
  have hm8 := massF_len ls
  refine RW.seq ?_
  refine RW.region ?_
  refine RL.ev rfl rfl ev_assign ?_
  refine RL.nil ?_
  refine thenN ?_
  refine RW.seq ?_
  refine RW.region ?_
  refine RL.ev rfl rfl ev_assign ?_
  refine RL.nil ?_
  refine thenN ?_
  refine RW.seq ?_
  refine RW.seq ?_
  refine RW.region ?_
  refine RL.ev rfl rfl ev_assign ?_
  refine RL.nil ?_
  refine thenN ?_
  refine RW.block ?_
  replace hN := hN.addNil vb 5
  refine RW.loop (fun k R0 w0' => ∃ vo : Value, ∃ acc : List UInt8, ∃ i : Nat, R0 0 = v ∧ R0 3 = vo ∧ R0 4 = .int .i64 ((i : Int)) ∧ Now w none_ w0' [.own vb 5 (vo) (acc)] ∧ (i + k = hs.length) ∧ (acc = frameB (ls.take i))) (hs.length) ?_ ?_
  · skip
    exact ⟨.slice none 0 0, [], 0, rfl, rfl, rfl, hN, by omega, rfl⟩
  · skip
    clear hN
    rintro k R0 w0' ⟨vo, acc, i, hr0_, hr3_, hr4_, hN, hik, hacc⟩
    have hR_ : ∃ R0_, R0 = (upd (upd (upd R0_ 0 _) 3 _) 4 _) := ⟨R0, by rw [upd_self hr0_, upd_self hr3_, upd_self hr4_]⟩
    obtain ⟨R0_, rfl⟩ := hR_
    clear hr0_ hr3_ hr4_
    refine RW.seq ?_
    refine RW.seq ?_
    refine RW.region ?_
    refine RL.ev rfl rfl ev_move ?_
    refine RL.ev rfl rfl ev_move ?_
    have hL_2 := (hv.ext hN.ext0).len_le
    refine RL.ev rfl rfl (ev_lenS Try.underlying22 (hv.ext hN.ext0) rfl) ?_
    refine RL.ev rfl rfl (ev_lss rfl rfl) ?_
    refine RL.nil ?_
    refine thenN ?_
    refine RW.condP _ rfl (fun hlt => ?_) (fun hlt => ?_)
    · skip
      refine RW.skip ?_
      refine thenN ?_
      refine RW.seq ?_
      refine RW.block ?_
      refine RW.seq ?_
      refine RW.region ?_
      refine RL.ev rfl rfl ev_move ?_
      refine RL.ev rfl rfl ev_move ?_
      refine RL.ev rfl rfl ev_move ?_
      refine RL.ev rfl rfl (ev_index Try.underlying22 sz23 (hv.ext hN.ext0) rfl rfl (by omega) (by omega)) ?_
      have hOb_ : ∃ a_, (hs)[i]? = some a_ := ⟨_, List.getElem?_eq_getElem (by omega)⟩
      obtain ⟨ap, hap⟩ := hOb_
      have hOb_ : ∃ l_, (ls)[i]? = some l_ := ⟨_, List.getElem?_eq_getElem (by have := hel.1; omega)⟩
      obtain ⟨lp, hlp⟩ := hOb_
      refine RL.ev rfl rfl (ev_loadG (m := i) (a := ap) Try.underlying23 rfl (hv.ext hN.ext0) rfl hap) ?_
      have hjs := frameB_snoc hlp
      have hmt := massF_take hlp
      have hml := massF_le ls (i + 1)
      have hjl := frameB_length (ls.take i)
      have hal : acc.length = massF (ls.take i) := by rw [hacc, hjl]
      have hL_3 := ((hel.2 _ _ _ hap hlp).1.ext hN.ext0).len_le
      refine RL.ev rfl rfl (ev_lenS Try.underlying23 ((hel.2 _ _ _ hap hlp).1.ext hN.ext0) rfl) ?_
      refine RL.ev rfl rfl (ev_conv Try.underlying3 Try.underlying39 rfl (wr_u64 (by omega) (by omega))) ?_
      refine RL.op rfl rfl (op_call2 Try.func30 rfl rfl rfl rfl ((refPut_calls lp.length 4 _ (by omega)).mono ?_))
      rintro v4 w4 ⟨ho_, he_⟩
      have hN_ := hN.pushOwn (l := put lp.length 4) ho_ he_
      clear ho_ he_
      clear hN
      have hN : Now w none_ w4 [_, _] := hN_
      clear hN_
      refine RL.op rfl rfl (opN_append Try.underlying23 inf5 rfl vb_one hN 1 rfl rfl (hN.sl 0 rfl) rfl (by rw [put_length]; omega) (by decide) ?_)
      intro v5 w5 hN_
      clear hN
      have hN : Now w none_ w5 [_, _] := hN_
      clear hN_
      refine RL.ev rfl rfl ev_assign ?_
      refine RL.nil ?_
      refine thenN ?_
      refine RW.region ?_
      refine RL.ev rfl rfl ev_move ?_
      refine RL.ev rfl rfl ev_move ?_
      refine RL.ev rfl rfl ev_move ?_
      refine RL.ev rfl rfl (ev_index Try.underlying22 sz23 (hv.ext hN.ext0) rfl rfl (by omega) (by omega)) ?_
      have hOb_ : ∃ a_, (hs)[i]? = some a_ := ⟨_, List.getElem?_eq_getElem (by omega)⟩
      obtain ⟨aq, haq⟩ := hOb_
      have hOb_ : ∃ l_, (ls)[i]? = some l_ := ⟨_, List.getElem?_eq_getElem (by have := hel.1; omega)⟩
      obtain ⟨lq, hlq⟩ := hOb_
      refine RL.ev rfl rfl (ev_loadG (m := i) (a := aq) Try.underlying23 rfl (hv.ext hN.ext0) rfl haq) ?_
      have hlq_ : lq = lp := Option.some.inj (hlq.symm.trans hlp)
      refine RL.op rfl rfl (opN_append Try.underlying23 inf5 rfl vb_one hN 1 rfl rfl ((hel.2 _ _ _ haq hlq).1.ext hN.ext0) rfl (by rw [List.length_append, put_length, hlq_]; omega) (by decide) ?_)
      intro v6 w6 hN_
      clear hN
      have hN : Now w none_ w6 [_, _] := hN_
      clear hN_
      refine RL.ev rfl rfl ev_assign ?_
      refine RL.nil ?_
      refine blockN ?_
      refine thenN ?_
      refine RW.region ?_
      refine RL.ev rfl rfl ev_move ?_
      refine RL.ev rfl rfl (ev_arith rfl rfl rfl (add64 (by omega) (by omega))) ?_
      refine RL.ev rfl rfl ev_assign ?_
      refine RL.nil ?_
      refine thenN ?_
      exact ⟨k - 1, by omega, v6, acc ++ (put lp.length 4) ++ lq, i + 1, rfl, rfl, rfl, (hN.sub [1] (by decide) rfl), by omega, by rw [hjs, hacc, hlq_, List.append_assoc]; rfl⟩
    · skip
      refine RW.exit ?_
      refine thenX ?_
      refine thenX ?_
      refine blockHit ?_
      refine thenN ?_
      refine RW.seq ?_
      refine RW.region ?_
      refine RL.ev rfl rfl ev_move ?_
      refine RL.ev rfl rfl ev_assign ?_
      refine RL.nil ?_
      refine thenN ?_
      refine RW.ret ?_
      refine retI (RV.tmp rfl) ?_
      exact ⟨(hN.ownOut 0 rfl).relist (by rw [hacc, List.take_of_length_le (by omega)]), hN.ext0⟩

set_option maxHeartbeats 4000000 in
set_option maxRecDepth 100000 in
/-- postroad/postroadref19.Frames -/
theorem refFrames_calls (v : Value) (b : List UInt8) (w : World) (hv : Sl vb w v b) (hb : b.length ≤ 1099511627776) : Gives Try.prog 12 #[v] w fun r w' => ∃ v' hs', r = .tuple #[v', .int .i64 (framesR b).2.1, .int .i64 (framesR b).2.2] ∧ Now w none_ w' [.own vh 23 v' hs'] ∧ Els none_ vb w hs' (framesR b).1 := by
  refine Gives.start Try.func12 rfl (Nat.le_of_ble_eq_true rfl) ?_
  rw [args1]
  have hN := Now.nil w none_
  refine RW.seq ?_
  refine RW.region ?_
  refine RL.ev rfl rfl ev_assign ?_
  refine RL.ev rfl rfl ev_assign ?_
  refine RL.ev rfl rfl ev_assign ?_
  refine RL.nil ?_
  refine thenN ?_
  refine RW.seq ?_
  refine RW.region ?_
  refine RL.ev rfl rfl ev_assign ?_
  refine RL.nil ?_
  refine thenN ?_
  refine RW.seq ?_
  refine RW.region ?_
  refine RL.ev rfl rfl ev_assign ?_
  refine RL.nil ?_
  refine thenN ?_
  refine RW.seq ?_
  refine RW.block ?_
  replace hN := hN.addNil vh 23
  refine RW.loop (fun k R0 w0' => ∃ ls : List (List UInt8), ∃ vo : Value, ∃ hs : List Hd, ∃ i : Nat, R0 0 = v ∧ R0 5 = vo ∧ R0 6 = .int .i64 ((i : Int)) ∧ Now w none_ w0' [.own vh 23 (vo) (hs)] ∧ (i + k = b.length) ∧ (Els none_ vb w hs ls) ∧ (hs.length = ls.length ∧ 4 * ls.length ≤ i) ∧ (framesR b = (ls ++ (framesR (b.drop i)).1, (i : Int) + (framesR (b.drop i)).2.1, (framesR (b.drop i)).2.2))) (b.length) ?_ ?_
  · skip
    exact ⟨[], .slice none 0 0, [], 0, rfl, rfl, rfl, hN, by omega, Els.nil _ _ _, ⟨rfl, by simp⟩, by simp⟩
  · skip
    clear hN
    rintro k R0 w0' ⟨ls, vo, hs, i, hr0_, hr5_, hr6_, hN, hik, hel, hln, hq⟩
    have hR_ : ∃ R0_, R0 = (upd (upd (upd R0_ 0 _) 5 _) 6 _) := ⟨R0, by rw [upd_self hr0_, upd_self hr5_, upd_self hr6_]⟩
    obtain ⟨R0_, rfl⟩ := hR_
    clear hr0_ hr5_ hr6_
    refine RW.seq ?_
    refine RW.seq ?_
    refine RW.region ?_
    refine RL.ev rfl rfl ev_move ?_
    refine RL.ev rfl rfl (ev_arith rfl rfl rfl (add64 (by omega) (by omega))) ?_
    refine RL.ev rfl rfl ev_move ?_
    have hL_2 := (hv.ext hN.ext0).len_le
    refine RL.ev rfl rfl (ev_lenS Try.underlying23 (hv.ext hN.ext0) rfl) ?_
    refine RL.ev rfl rfl (ev_leq rfl rfl) ?_
    refine RL.nil ?_
    refine thenN ?_
    refine RW.condP _ rfl (fun hlt => ?_) (fun hlt => ?_)
    · skip
      refine RW.skip ?_
      refine thenN ?_
      refine RW.block ?_
      refine RW.seq ?_
      refine RW.draw rfl (fun u => Now w none_ u [.own vh 23 (vo) (hs)]) ?_
      replace hN := hN.ext (Ext.drew w0')
      refine RA.take (i := 0) rfl rfl (by kernel_rfl) (by kernel_rfl) (by kernel_rfl) (by intro _ _ _ h; exact h) rfl hN (fun w hS => ev_move) ?_
      refine RA.take (i := 1) rfl rfl (by kernel_rfl) (by kernel_rfl) (by kernel_rfl) (by intro _ _ _ h; exact h) rfl hN (fun w hS => ev_move) ?_
      refine RA.take (i := 2) rfl rfl (by kernel_rfl) (by kernel_rfl) (by kernel_rfl) (by intro _ _ _ h; exact h) rfl hN (fun w hS => (ev_index Try.underlying23 sz5 (hv.ext hS.ext0) rfl rfl (by omega) (by omega))) ?_
      have hOb_ : ∃ a_, (b)[i]? = some a_ := ⟨_, List.getElem?_eq_getElem (by omega)⟩
      obtain ⟨ap, hap⟩ := hOb_
      have hlt_ap := UInt8.toNat_lt ap
      refine RA.take (i := 3) rfl rfl (by kernel_rfl) (by kernel_rfl) (by kernel_rfl) (by intro _ _ _ h; exact h) rfl hN (fun w hS => (ev_loadG (m := i) (a := ap) Try.underlying5 rfl (hv.ext hS.ext0) rfl hap)) ?_
      refine RA.take (i := 4) rfl rfl (by kernel_rfl) (by kernel_rfl) (by kernel_rfl) (by intro _ _ _ h; exact h) rfl hN (fun w hS => (ev_conv Try.underlying5 Try.underlying3 rfl (wr_i64 (by omega) (by omega)))) ?_
      refine RA.take (i := 5) rfl rfl (by kernel_rfl) (by kernel_rfl) (by kernel_rfl) (by intro _ _ _ h; exact h) rfl hN (fun w hS => ev_move) ?_
      refine RA.take (i := 6) rfl rfl (by kernel_rfl) (by kernel_rfl) (by kernel_rfl) (by intro _ _ _ h; exact h) rfl hN (fun w hS => ev_move) ?_
      refine RA.take (i := 7) rfl rfl (by kernel_rfl) (by kernel_rfl) (by kernel_rfl) (by intro _ _ _ h; exact h) rfl hN (fun w hS => (ev_arith rfl rfl rfl (add64 (by omega) (by omega)))) ?_
      refine RA.take (i := 8) rfl rfl (by kernel_rfl) (by kernel_rfl) (by kernel_rfl) (by intro _ _ _ h; exact h) rfl hN (fun w hS => (ev_index Try.underlying23 sz5 (hv.ext hS.ext0) rfl rfl (by omega) (by omega))) ?_
      have hOb_ : ∃ a_, (b)[((i : Int) + 1).toNat]? = some a_ := ⟨_, List.getElem?_eq_getElem (by omega)⟩
      obtain ⟨aq, haq⟩ := hOb_
      have hlt_aq := UInt8.toNat_lt aq
      refine RA.take (i := 9) rfl rfl (by kernel_rfl) (by kernel_rfl) (by kernel_rfl) (by intro _ _ _ h; exact h) rfl hN (fun w hS => (ev_loadG (m := ((i : Int) + 1).toNat) (a := aq) Try.underlying5 rfl (hv.ext hS.ext0) rfl haq)) ?_
      refine RA.take (i := 10) rfl rfl (by kernel_rfl) (by kernel_rfl) (by kernel_rfl) (by intro _ _ _ h; exact h) rfl hN (fun w hS => (ev_conv Try.underlying5 Try.underlying3 rfl (wr_i64 (by omega) (by omega)))) ?_
      refine RA.take (i := 11) rfl rfl (by kernel_rfl) (by kernel_rfl) (by kernel_rfl) (by intro _ _ _ h; exact h) rfl hN (fun w hS => (ev_arith rfl rfl rfl (mul64 (by omega) (by omega)))) ?_
      refine RA.take (i := 12) rfl rfl (by kernel_rfl) (by kernel_rfl) (by kernel_rfl) (by intro _ _ _ h; exact h) rfl hN (fun w hS => (ev_arith rfl rfl rfl (add64 (by omega) (by omega)))) ?_
      refine RA.take (i := 13) rfl rfl (by kernel_rfl) (by kernel_rfl) (by kernel_rfl) (by intro _ _ _ h; exact h) rfl hN (fun w hS => ev_move) ?_
      refine RA.take (i := 14) rfl rfl (by kernel_rfl) (by kernel_rfl) (by kernel_rfl) (by intro _ _ _ h; exact h) rfl hN (fun w hS => ev_move) ?_
      refine RA.take (i := 15) rfl rfl (by kernel_rfl) (by kernel_rfl) (by kernel_rfl) (by intro _ _ _ h; exact h) rfl hN (fun w hS => (ev_arith rfl rfl rfl (add64 (by omega) (by omega)))) ?_
      refine RA.take (i := 16) rfl rfl (by kernel_rfl) (by kernel_rfl) (by kernel_rfl) (by intro _ _ _ h; exact h) rfl hN (fun w hS => (ev_index Try.underlying23 sz5 (hv.ext hS.ext0) rfl rfl (by omega) (by omega))) ?_
      have hOb_ : ∃ a_, (b)[((i : Int) + 2).toNat]? = some a_ := ⟨_, List.getElem?_eq_getElem (by omega)⟩
      obtain ⟨ar, har⟩ := hOb_
      have hlt_ar := UInt8.toNat_lt ar
      refine RA.take (i := 17) rfl rfl (by kernel_rfl) (by kernel_rfl) (by kernel_rfl) (by intro _ _ _ h; exact h) rfl hN (fun w hS => (ev_loadG (m := ((i : Int) + 2).toNat) (a := ar) Try.underlying5 rfl (hv.ext hS.ext0) rfl har)) ?_
      refine RA.take (i := 18) rfl rfl (by kernel_rfl) (by kernel_rfl) (by kernel_rfl) (by intro _ _ _ h; exact h) rfl hN (fun w hS => (ev_conv Try.underlying5 Try.underlying3 rfl (wr_i64 (by omega) (by omega)))) ?_
      refine RA.take (i := 19) rfl rfl (by kernel_rfl) (by kernel_rfl) (by kernel_rfl) (by intro _ _ _ h; exact h) rfl hN (fun w hS => (ev_arith rfl rfl rfl (mul64 (by omega) (by omega)))) ?_
      refine RA.take (i := 20) rfl rfl (by kernel_rfl) (by kernel_rfl) (by kernel_rfl) (by intro _ _ _ h; exact h) rfl hN (fun w hS => (ev_arith rfl rfl rfl (add64 (by omega) (by omega)))) ?_
      refine RA.take (i := 21) rfl rfl (by kernel_rfl) (by kernel_rfl) (by kernel_rfl) (by intro _ _ _ h; exact h) rfl hN (fun w hS => ev_move) ?_
      refine RA.take (i := 22) rfl rfl (by kernel_rfl) (by kernel_rfl) (by kernel_rfl) (by intro _ _ _ h; exact h) rfl hN (fun w hS => ev_move) ?_
      refine RA.take (i := 23) rfl rfl (by kernel_rfl) (by kernel_rfl) (by kernel_rfl) (by intro _ _ _ h; exact h) rfl hN (fun w hS => (ev_arith rfl rfl rfl (add64 (by omega) (by omega)))) ?_
      refine RA.take (i := 24) rfl rfl (by kernel_rfl) (by kernel_rfl) (by kernel_rfl) (by intro _ _ _ h; exact h) rfl hN (fun w hS => (ev_index Try.underlying23 sz5 (hv.ext hS.ext0) rfl rfl (by omega) (by omega))) ?_
      have hOb_ : ∃ a_, (b)[((i : Int) + 3).toNat]? = some a_ := ⟨_, List.getElem?_eq_getElem (by omega)⟩
      obtain ⟨au, hau⟩ := hOb_
      have hlt_au := UInt8.toNat_lt au
      refine RA.take (i := 25) rfl rfl (by kernel_rfl) (by kernel_rfl) (by kernel_rfl) (by intro _ _ _ h; exact h) rfl hN (fun w hS => (ev_loadG (m := ((i : Int) + 3).toNat) (a := au) Try.underlying5 rfl (hv.ext hS.ext0) rfl hau)) ?_
      refine RA.take (i := 26) rfl rfl (by kernel_rfl) (by kernel_rfl) (by kernel_rfl) (by intro _ _ _ h; exact h) rfl hN (fun w hS => (ev_conv Try.underlying5 Try.underlying3 rfl (wr_i64 (by omega) (by omega)))) ?_
      refine RA.take (i := 27) rfl rfl (by kernel_rfl) (by kernel_rfl) (by kernel_rfl) (by intro _ _ _ h; exact h) rfl hN (fun w hS => (ev_arith rfl rfl rfl (mul64 (by omega) (by omega)))) ?_
      have hn4 : (n4 (b.drop i)) = ap.toNat + 256 * aq.toNat + 65536 * ar.toNat + 16777216 * au.toNat := n4_at hap (by rw [show i + 1 = ((i : Int) + 1).toNat by omega]; exact haq) (by rw [show i + 2 = ((i : Int) + 2).toNat by omega]; exact har) (by rw [show i + 3 = ((i : Int) + 3).toNat by omega]; exact hau)
      have hdl : (b.drop i).length = b.length - i := List.length_drop
      refine RA.take (i := 28) rfl rfl (by kernel_rfl) (by kernel_rfl) (by kernel_rfl) (by intro _ _ _ h; exact h) rfl hN (fun w hS => (ev_arith rfl rfl rfl (show IntKind.i64.wrap ((ap.toNat : Int) + 256 * (aq.toNat : Int) + 65536 * (ar.toNat : Int) + 16777216 * (au.toNat : Int)) = (((n4 (b.drop i)) : Nat) : Int) from (wr_i64 (by omega) (by omega)).trans (by omega)))) ?_
      refine RA.take (i := 29) rfl rfl (by kernel_rfl) (by kernel_rfl) (by kernel_rfl) (by intro _ _ _ h; exact h) rfl hN (fun w hS => ev_assign) ?_
      refine RA.done (by kernel_rfl) ?_
      refine thenN ?_
      refine RW.seq ?_
      refine RW.seq ?_
      refine RW.region ?_
      refine RL.ev rfl rfl ev_move ?_
      refine RL.ev rfl rfl (ev_gtr rfl rfl) ?_
      refine RL.nil ?_
      refine thenN ?_
      refine RW.condP _ rfl (fun hbig => ?_) (fun hbig => ?_)
      · skip
        refine RW.seq ?_
        refine RW.region ?_
        refine RL.ev rfl rfl ev_move ?_
        refine RL.ev rfl rfl ev_move ?_
        refine RL.ev rfl rfl ev_assign ?_
        refine RL.ev rfl rfl ev_assign ?_
        refine RL.ev rfl rfl ev_assign ?_
        refine RL.nil ?_
        refine thenN ?_
        refine RW.ret ?_
        refine thenR ?_
        refine blockR ?_
        refine thenR ?_
        refine blockR ?_
        refine thenR ?_
        refine retI (RV.tmp3 rfl) ?_
        have hz := framesR_big (d := b.drop i) (by omega) (by omega)
        rw [hz] at hq
        simp only [List.append_nil, Int.add_zero] at hq
        have h1 : (framesR b).1 = ls := by rw [hq]
        have h2 : (framesR b).2.1 = (i : Int) := by rw [hq]
        have h3 : (framesR b).2.2 = 3 := by rw [hq]
        exact ⟨vo, hs, (show Value.tuple #[vo, .int .i64 (i : Int), .int .i64 3] = .tuple #[vo, .int .i64 (framesR b).2.1, .int .i64 (framesR b).2.2] from by rw [h2, h3]), hN.sub [0] (by decide) rfl, by rw [h1]; exact hel⟩
      · skip
        refine RW.skip ?_
        refine thenN ?_
        refine RW.seq ?_
        refine RW.seq ?_
        refine RW.region ?_
        refine RL.ev rfl rfl ev_move ?_
        refine RL.ev rfl rfl (ev_arith rfl rfl rfl (add64 (by omega) (by omega))) ?_
        refine RL.ev rfl rfl ev_move ?_
        refine RL.ev rfl rfl (ev_arith rfl rfl rfl (add64 (by omega) (by omega))) ?_
        refine RL.ev rfl rfl ev_move ?_
        refine RL.ev rfl rfl (ev_lenS Try.underlying23 (hv.ext hN.ext0) rfl) ?_
        refine RL.ev rfl rfl (ev_gtr rfl rfl) ?_
        refine RL.nil ?_
        refine thenN ?_
        refine RW.condP _ rfl (fun hsh => ?_) (fun hsh => ?_)
        · skip
          refine RW.seq ?_
          refine RW.region ?_
          refine RL.ev rfl rfl ev_move ?_
          refine RL.ev rfl rfl ev_move ?_
          refine RL.ev rfl rfl ev_assign ?_
          refine RL.ev rfl rfl ev_assign ?_
          refine RL.ev rfl rfl ev_assign ?_
          refine RL.nil ?_
          refine thenN ?_
          refine RW.ret ?_
          refine thenR ?_
          refine blockR ?_
          refine thenR ?_
          refine blockR ?_
          refine thenR ?_
          refine retI (RV.tmp3 rfl) ?_
          have hz := framesR_short (d := b.drop i) (by omega) (by omega) (by omega)
          rw [hz] at hq
          simp only [List.append_nil, Int.add_zero] at hq
          have h1 : (framesR b).1 = ls := by rw [hq]
          have h2 : (framesR b).2.1 = (i : Int) := by rw [hq]
          have h3 : (framesR b).2.2 = 0 := by rw [hq]
          exact ⟨vo, hs, (show Value.tuple #[vo, .int .i64 (i : Int), .int .i64 0] = .tuple #[vo, .int .i64 (framesR b).2.1, .int .i64 (framesR b).2.2] from by rw [h2, h3]), hN.sub [0] (by decide) rfl, by rw [h1]; exact hel⟩
        · skip
          refine RW.skip ?_
          refine thenN ?_
          refine RW.seq ?_
          have hcut := framesR_at (b := b) (i := i) rfl (by omega) (by omega) (by omega)
          have hsx := hv.cut (lo := i + 4) (hi := i + 4 + (n4 (b.drop i))) (by omega) (by omega)
          have hOb_ := hsx.hd
          obtain ⟨hx, hhx⟩ := hOb_
          rw [hhx] at hsx
          refine RW.region ?_
          refine RL.ev rfl rfl ev_move ?_
          refine RL.ev rfl rfl ev_move ?_
          refine RL.ev rfl rfl ev_move ?_
          refine RL.ev rfl rfl (ev_arith rfl rfl rfl (add64 (by omega) (by omega))) ?_
          refine RL.ev rfl rfl ev_move ?_
          refine RL.ev rfl rfl (ev_arith rfl rfl rfl (add64 (by omega) (by omega))) ?_
          refine RL.ev rfl rfl ev_move ?_
          refine RL.ev rfl rfl (ev_arith rfl rfl rfl (add64 (by omega) (by omega))) ?_
          refine RL.ev rfl rfl (ev_cutAs (u := vh hx) Try.underlying23 sz5 (hv.ext hN.ext0) rfl rfl rfl (by omega) (by omega) (by omega) (by rw [show ((i : Int) + 4).toNat = i + 4 by omega, show ((i : Int) + 4 + ((n4 (b.drop i)) : Int)).toNat = i + 4 + (n4 (b.drop i)) by omega]; exact hhx)) ?_
          refine RL.op rfl rfl (opN_lit (enc := vh) (l := [hx]) (xs := [.tmp 63]) Try.underlying22 sz23 zr23 rfl rfl (fun _ => rfl) rfl (by decide) (by decide) hN ?_)
          intro g3 w3 hN_
          clear hN
          have hN : Now w none_ w3 [_, _] := hN_
          clear hN_
          refine RL.op rfl rfl (opN_append Try.underlying22 inf23 rfl vh_one hN 1 rfl rfl (hN.sl 0 rfl) rfl (by (try simp only [List.length_append, List.length_take, List.length_drop, num8_length, putInts_length, putText_length, put_length, List.flatten_cons, List.flatten_nil, List.length_nil, List.length_cons]); omega) (by decide) ?_)
          intro v4 w4 hN_
          clear hN
          have hN : Now w none_ w4 [_, _] := hN_
          clear hN_
          refine RL.ev rfl rfl ev_assign ?_
          refine RL.nil ?_
          refine thenN ?_
          refine RW.region ?_
          refine RL.ev rfl rfl ev_move ?_
          refine RL.ev rfl rfl (ev_arith rfl rfl rfl (add64 (by omega) (by omega))) ?_
          refine RL.ev rfl rfl ev_move ?_
          refine RL.ev rfl rfl (ev_arith rfl rfl rfl (show IntKind.i64.wrap ((i : Int) + 4 + ((n4 (b.drop i)) : Int)) = ((i + 4 + (n4 (b.drop i)) : Nat) : Int) from (wr_i64 (by omega) (by omega)).trans (by omega))) ?_
          refine RL.ev rfl rfl ev_assign ?_
          refine RL.nil ?_
          refine blockN ?_
          refine thenN ?_
          exact ⟨(k - 4 - (n4 (b.drop i))), by omega, ls ++ [(b.take (i + 4 + (n4 (b.drop i)))).drop (i + 4)], v4, hs ++ [hx], i + 4 + (n4 (b.drop i)), rfl, rfl, rfl, (hN.sub [1] (by decide) rfl), by omega, hel.snoc hsx (Off.none _ _), ⟨by simp [hln.1], by rw [List.length_append, List.length_singleton]; omega⟩, by rw [hq, hcut]; simp only [List.append_assoc, List.cons_append, List.nil_append, Prod.mk.injEq, true_and, and_true]; omega⟩
    · skip
      refine RW.exit ?_
      refine thenX ?_
      refine thenX ?_
      refine blockHit ?_
      refine thenN ?_
      refine RW.seq ?_
      refine RW.region ?_
      refine RL.ev rfl rfl ev_move ?_
      refine RL.ev rfl rfl ev_move ?_
      refine RL.ev rfl rfl ev_assign ?_
      refine RL.ev rfl rfl ev_assign ?_
      refine RL.ev rfl rfl ev_assign ?_
      refine RL.nil ?_
      refine thenN ?_
      refine RW.ret ?_
      refine retI (RV.tmp3 rfl) ?_
      have hz := framesR_nil (d := b.drop i) (by simp only [List.length_drop]; omega)
      rw [hz] at hq
      simp only [List.append_nil, Int.add_zero] at hq
      have h1 : (framesR b).1 = ls := by rw [hq]
      have h2 : (framesR b).2.1 = (i : Int) := by rw [hq]
      have h3 : (framesR b).2.2 = 0 := by rw [hq]
      exact ⟨vo, hs, (show Value.tuple #[vo, .int .i64 (i : Int), .int .i64 0] = .tuple #[vo, .int .i64 (framesR b).2.1, .int .i64 (framesR b).2.2] from by rw [h2, h3]), hN.sub [0] (by decide) rfl, by rw [h1]; exact hel⟩

end Go.Proofs.Ytihchogjmgbipaa
