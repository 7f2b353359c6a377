import Derived.Test.YtngkdkbpgoddlaaCrcWalks2
set_option linter.unusedVariables false
set_option linter.unusedSimpArgs false
namespace Go.Proofs.Ytngkdkbpgoddlaa
open Go.RowKit Go.Rl

open Go.Crc
set_option maxHeartbeats 4000000 in
set_option maxRecDepth 100000 in
/-- postroad/postroadref01.Wrap -/
theorem refWrap_calls (v : Value) (l : List UInt8) (w : World) (hv : Sl vb w v l) (hl : l.length ≤ 140737488355324) : Gives Try.prog 17 #[v] w fun r w' => Own vb 5 w' w.heap.size r (l ++ tailB (Crc.sum l)) ∧ Ext w w' := by
  refine Gives.start Try.func17 rfl (Nat.le_of_ble_eq_true rfl) ?_
  rw [args1]
  refine RW.seq ?_
  refine RW.region ?_
  refine RL.ev rfl rfl ev_assign ?_
  refine RL.nil ?_
  refine thenN ?_
  refine RW.seq ?_
  refine RW.region ?_
  refine RL.ev rfl rfl ev_move ?_
  refine RL.op rfl rfl (op_call1 Try.func28 rfl rfl rfl ((refSum_calls v l _ hv).mono ?_))
  rintro _ _ ⟨rfl, rfl⟩
  refine RL.ev rfl rfl ev_assign ?_
  refine RL.nil ?_
  refine thenN ?_
  refine RW.seq ?_
  refine RW.region ?_
  refine RL.ev rfl rfl ev_assign ?_
  refine RL.nil ?_
  refine thenN ?_
  refine RW.seq ?_
  refine RW.region ?_
  refine RL.ev rfl rfl ev_move ?_
  refine RL.ev rfl rfl ev_move ?_
  refine RL.op rfl rfl (op_append (l := []) Try.underlying23 inf5 rfl vb_one (Own.nil vb 5 w w.heap.size) rfl hv rfl (by simp; omega) (by decide) (Nat.le_refl _) ?_)
  intro v1 w1 ho1 hm1 hk1
  rw [List.nil_append] at ho1
  have he1 : Ext w w1 := hm1.mono (by intro i _ h; cases h)
  refine RL.ev rfl rfl ev_assign ?_
  refine RL.nil ?_
  refine thenN ?_
  refine RW.seq ?_
  refine RW.seq ?_
  refine RW.region ?_
  refine RL.ev rfl rfl ev_assign ?_
  refine RL.nil ?_
  refine thenN ?_
  refine RW.block ?_
  refine RW.loop (fun k R w' => ∃ i : Nat, ∃ vo : Value, R 5 = .int .i64 (i : Int) ∧ R 3 = u32 (Crc.sum l >>> (8 * i)) ∧ R 4 = vo ∧ (i + k = 4) ∧ (Own vb 5 w' w.heap.size vo (l ++ (tailB (Crc.sum l)).take i)) ∧ (Ext w w')) 4 ?_ ?_
  · exact ⟨0, v1, rfl, by rw [Nat.mul_zero, BitVec.ushiftRight_zero]; rfl, rfl, rfl, by simpa using ho1, he1⟩
  · rintro k R w' ⟨i, vo, hr5_, hr3_, hr4_, hik, ho, hext⟩
    have hR_ : ∃ R0, R = (upd (upd (upd R0 5 _) 3 _) 4 _) := ⟨R, by rw [upd_self hr5_, upd_self hr3_, upd_self hr4_]⟩
    obtain ⟨R0, rfl⟩ := hR_
    clear hr5_ hr3_ hr4_
    refine RW.seq ?_
    refine RW.seq ?_
    refine RW.region ?_
    refine RL.ev rfl rfl ev_move ?_
    refine RL.ev rfl rfl (ev_lss rfl rfl) ?_
    refine RL.nil ?_
    refine thenN ?_
    refine RW.condP _ rfl (fun hlt => ?_) (fun hlt => ?_)
    · skip
      refine RW.skip ?_
      refine thenN ?_
      refine RW.seq ?_
      refine RW.block ?_
      refine RW.seq ?_
      refine RW.region ?_
      refine RL.ev rfl rfl ev_move ?_
      refine RL.ev rfl rfl ev_move ?_
      refine RL.ev rfl rfl (ev_rem rfl rfl (by decide) (b_mod256 _)) ?_
      refine RL.ev rfl rfl (ev_conv Try.underlying52 Try.underlying5 rfl (b_u8r _)) ?_
      refine RL.op rfl rfl (op_lit (enc := vb) (l := [byteAt (Crc.sum l) (8 * i)]) (xs := [.tmp 18]) Try.underlying23 sz5 zr5 rfl rfl vb_cells rfl (by decide) (by decide) ?_)
      intro w2 ho2 hb2 he2 hs2
      refine RL.op rfl rfl (op_append Try.underlying23 inf5 rfl vb_one (ho.ext he2) rfl ho2.sl rfl (by simp; omega) (by decide) (by have := hext.size; have := he2.size; omega) ?_)
      intro v3 w3 ho3 hm3 hk3
      have he3 : Ext w w3 := (hext.trans he2).then hm3 (fun x hx e => by have := (ho.lt _ e).1; omega)
      refine RL.ev rfl rfl ev_assign ?_
      refine RL.nil ?_
      refine thenN ?_
      refine RW.region ?_
      refine RL.ev rfl rfl ev_move ?_
      refine RL.ev rfl rfl (ev_quo rfl rfl (by decide) (b_div256 _)) ?_
      refine RL.ev rfl rfl ev_assign ?_
      refine RL.nil ?_
      refine blockN ?_
      refine thenN ?_
      refine RW.region ?_
      refine RL.ev rfl rfl ev_move ?_
      refine RL.ev rfl rfl (ev_arith rfl rfl rfl (add64 (by omega) (by omega))) ?_
      refine RL.ev rfl rfl ev_assign ?_
      refine RL.nil ?_
      refine thenN ?_
      refine ⟨k - 1, by omega, i + 1, v3, rfl, ?_, rfl, by omega, ?_, he3⟩
      · rw [show 8 * (i + 1) = 8 * i + 8 from by omega, BitVec.shiftRight_add]; rfl
      · rw [List.append_assoc] at ho3; rw [← tail_take (Crc.sum l) i (by omega)]; exact ho3
    · skip
      refine RW.exit ?_
      refine thenX ?_
      refine thenX ?_
      refine blockHit ?_
      refine thenN ?_
      refine RW.seq ?_
      refine RW.region ?_
      refine RL.ev rfl rfl ev_move ?_
      refine RL.ev rfl rfl ev_assign ?_
      refine RL.nil ?_
      refine thenN ?_
      refine RW.ret ?_
      refine retI (RV.tmp rfl) ?_
      refine ⟨?_, hext⟩
      have hi : i = 4 := by omega
      subst hi
      exact ho

set_option maxHeartbeats 4000000 in
set_option maxRecDepth 100000 in
/-- postroad/postroadref01.Open -/
theorem refOpen_calls (v : Value) (l : List UInt8) (w : World) (hv : Sl vb w v l) (hl : l.length ≤ 140737488355328) : Gives Try.prog 15 #[v] w fun r w' => (openOk l = true ∧ r = .tuple #[cutV v 0 (l.length - 4), .int .i64 0] ∧ Ext w w') ∨ (openOk l = false ∧ r = .tuple #[.slice none 0 0, .int .i64 5] ∧ Ext w w') := by
  refine Gives.start Try.func15 rfl (Nat.le_of_ble_eq_true rfl) ?_
  rw [args1]
  refine RW.seq ?_
  refine RW.region ?_
  have hlen := hv.len_le
  refine RL.ev rfl rfl ev_assign ?_
  refine RL.ev rfl rfl ev_assign ?_
  refine RL.nil ?_
  refine thenN ?_
  refine RW.seq ?_
  refine RW.seq ?_
  by_cases hneg : (l.length : Int) < 4
  · skip
    refine RW.draw rfl (fun w' => Ext w w') ?_
    have hS : Ext w w.drew := Ext.drew w
    have hgb : decide ((l.length : Int) < 4) = true := decide_eq_true hneg
    refine RA.take (i := 0) rfl rfl (by kernel_rfl) (by kernel_rfl) (by kernel_rfl) (by intro _ _ _ h; exact h) rfl hS (fun w hS => ev_move) ?_
    refine RA.take (i := 1) rfl rfl (by kernel_rfl) (by kernel_rfl) (by kernel_rfl) (by intro _ _ _ h; exact h) rfl hS (fun w hS => (ev_lenS Try.underlying23 (hv.ext hS) rfl)) ?_
    refine RA.take (i := 2) rfl rfl (by kernel_rfl) (by kernel_rfl) (by kernel_rfl) (by intro _ _ _ h; exact h) rfl hS (fun w hS => (ev_lss rfl rfl)) ?_
    refine RA.take (i := 3) rfl rfl (by kernel_rfl) (by kernel_rfl) (by kernel_rfl) (by intro _ _ _ h; exact h) rfl hS (fun w hS => ev_move) ?_
    refine RA.takeOff (i := 4) rfl rfl rfl (by decide) (congrArg Value.bool hgb) (by kernel_rfl) (by kernel_rfl) (by kernel_rfl) (by intro _ _ _ h; exact h) rfl hS ?_
    refine RA.takeOff (i := 5) rfl rfl rfl (by decide) (congrArg Value.bool hgb) (by kernel_rfl) (by kernel_rfl) (by kernel_rfl) (by intro _ _ _ h; exact h) rfl hS ?_
    refine RA.takeOff (i := 6) rfl rfl rfl (by decide) (congrArg Value.bool hgb) (by kernel_rfl) (by kernel_rfl) (by kernel_rfl) (by intro _ _ _ h; exact h) rfl hS ?_
    refine RA.takeOff (i := 7) rfl rfl rfl (by decide) (congrArg Value.bool hgb) (by kernel_rfl) (by kernel_rfl) (by kernel_rfl) (by intro _ _ _ h; exact h) rfl hS ?_
    refine RA.takeOff (i := 8) rfl rfl rfl (by decide) (congrArg Value.bool hgb) (by kernel_rfl) (by kernel_rfl) (by kernel_rfl) (by intro _ _ _ h; exact h) rfl hS ?_
    refine RA.takeOff (i := 9) rfl rfl rfl (by decide) (congrArg Value.bool hgb) (by kernel_rfl) (by kernel_rfl) (by kernel_rfl) (by intro _ _ _ h; exact h) rfl hS ?_
    refine RA.takeOff (i := 10) rfl rfl rfl (by decide) (congrArg Value.bool hgb) (by kernel_rfl) (by kernel_rfl) (by kernel_rfl) (by intro _ _ _ h; exact h) rfl hS ?_
    refine RA.takeOff (i := 11) rfl rfl rfl (by decide) (congrArg Value.bool hgb) (by kernel_rfl) (by kernel_rfl) (by kernel_rfl) (by intro _ _ _ h; exact h) rfl hS ?_
    refine RA.takeOff (i := 12) rfl rfl rfl (by decide) (congrArg Value.bool hgb) (by kernel_rfl) (by kernel_rfl) (by kernel_rfl) (by intro _ _ _ h; exact h) rfl hS ?_
    refine RA.takeOff (i := 13) rfl rfl rfl (by decide) (congrArg Value.bool hgb) (by kernel_rfl) (by kernel_rfl) (by kernel_rfl) (by intro _ _ _ h; exact h) rfl hS ?_
    refine RA.take (i := 14) rfl rfl (by kernel_rfl) (by kernel_rfl) (by kernel_rfl) (by intro _ _ _ h; exact h) rfl hS (fun w hS => (ev_pickT (congrArg Value.bool hgb))) ?_
    refine RA.done (by kernel_rfl) ?_
    refine thenN ?_
    refine RW.condT rfl ?_
    refine RW.seq ?_
    refine RW.region ?_
    refine RL.ev rfl rfl ev_assign ?_
    refine RL.ev rfl rfl ev_assign ?_
    refine RL.nil ?_
    refine thenN ?_
    refine RW.ret ?_
    refine thenR ?_
    refine retI (RV.tmp2 rfl) ?_
    refine .inr ⟨?_, rfl, Ext.drew w⟩
    unfold openOk; exact decide_eq_false (by omega)
  · skip
    refine RW.draw rfl (fun w' => Ext w w') ?_
    have hS : Ext w w.drew := Ext.drew w
    have hgb : decide ((l.length : Int) < 4) = false := decide_eq_false hneg
    have htn : ((l.length : Int) - 4).toNat = l.length - 4 := by omega
    refine RA.take (i := 0) rfl rfl (by kernel_rfl) (by kernel_rfl) (by kernel_rfl) (by intro _ _ _ h; exact h) rfl hS (fun w hS => ev_move) ?_
    refine RA.take (i := 1) rfl rfl (by kernel_rfl) (by kernel_rfl) (by kernel_rfl) (by intro _ _ _ h; exact h) rfl hS (fun w hS => (ev_lenS Try.underlying23 (hv.ext hS) rfl)) ?_
    refine RA.take (i := 2) rfl rfl (by kernel_rfl) (by kernel_rfl) (by kernel_rfl) (by intro _ _ _ h; exact h) rfl hS (fun w hS => (ev_lss rfl rfl)) ?_
    refine RA.take (i := 3) rfl rfl (by kernel_rfl) (by kernel_rfl) (by kernel_rfl) (by intro _ _ _ h; exact h) rfl hS (fun w hS => ev_move) ?_
    refine RA.takeOn (i := 4) rfl rfl rfl (by decide) (congrArg Value.bool hgb) (by kernel_rfl) (by kernel_rfl) (by kernel_rfl) (by intro _ _ _ h; exact h) rfl hS (fun w hS => ev_move) ?_
    refine RA.takeOn (i := 5) rfl rfl rfl (by decide) (congrArg Value.bool hgb) (by kernel_rfl) (by kernel_rfl) (by kernel_rfl) (by intro _ _ _ h; exact h) rfl hS (fun w hS => ev_move) ?_
    refine RA.takeOn (i := 6) rfl rfl rfl (by decide) (congrArg Value.bool hgb) (by kernel_rfl) (by kernel_rfl) (by kernel_rfl) (by intro _ _ _ h; exact h) rfl hS (fun w hS => (ev_lenS Try.underlying23 (hv.ext hS) rfl)) ?_
    refine RA.takeOn (i := 7) rfl rfl rfl (by decide) (congrArg Value.bool hgb) (by kernel_rfl) (by kernel_rfl) (by kernel_rfl) (by intro _ _ _ h; exact h) rfl hS (fun w hS => (ev_arith rfl rfl rfl (sub64 (by omega) (by omega)))) ?_
    refine RA.takeOn (i := 8) rfl rfl rfl (by decide) (congrArg Value.bool hgb) (by kernel_rfl) (by kernel_rfl) (by kernel_rfl) (by intro _ _ _ h; exact h) rfl hS (fun w hS => (ev_cutTo Try.underlying23 sz5 (hv.ext hS) rfl rfl (by omega) (by omega))) ?_
    refine RA.takeOn (i := 11) rfl rfl rfl (by decide) (congrArg Value.bool hgb) (by kernel_rfl) (by kernel_rfl) (by kernel_rfl) (by intro _ _ _ h; exact h) rfl hS (fun w hS => ev_move) ?_
    refine RA.takeOn (i := 12) rfl rfl rfl (by decide) (congrArg Value.bool hgb) (by kernel_rfl) (by kernel_rfl) (by kernel_rfl) (by intro _ _ _ h; exact h) rfl hS (fun w hS => (ev_toStr Try.underlying23 Try.underlying5 Try.underlying9 (hv.ext hS) rfl)) ?_
    refine RA.onlyOn (i := 9) (by kernel_rfl) rfl rfl rfl (by decide) (congrArg Value.bool hgb) rfl (op_call1 Try.func17 rfl rfl rfl ((refWrap_calls _ _ _ ((hv.ext hS).cutTo (by omega)) (by simp; omega)).mono ?_))
    rintro vt w2 ⟨hot, he2⟩
    have hS2 : Ext w w2 := hS.trans he2
    refine ⟨hS2, ?_⟩
    clear hS
    have hS := hS2
    refine RA.onlyOn (i := 10) (by kernel_rfl) rfl rfl rfl (by decide) (congrArg Value.bool hgb) rfl (OpR.ev (ev_toStr Try.underlying23 Try.underlying5 Try.underlying9 hot.sl rfl) ⟨hS, ?_⟩)
    refine RA.takeOn (i := 13) rfl rfl rfl (by decide) (congrArg Value.bool hgb) (by kernel_rfl) (by kernel_rfl) (by kernel_rfl) (by intro _ _ _ h; exact h) rfl hS (fun w hS => (ev_strNe rfl rfl)) ?_
    refine RA.take (i := 14) rfl rfl (by kernel_rfl) (by kernel_rfl) (by kernel_rfl) (by intro _ _ _ h; exact h) rfl hS (fun w hS => (ev_pickF (congrArg Value.bool hgb))) ?_
    refine RA.done (by kernel_rfl) ?_
    refine thenN ?_
    refine RW.condP _ rfl (fun hne => ?_) (fun hne => ?_)
    · skip
      simp only [htn] at hne
      refine RW.seq ?_
      refine RW.region ?_
      refine RL.ev rfl rfl ev_assign ?_
      refine RL.ev rfl rfl ev_assign ?_
      refine RL.nil ?_
      refine thenN ?_
      refine RW.ret ?_
      refine thenR ?_
      refine retI (RV.tmp2 rfl) ?_
      exact .inr ⟨by unfold openOk; exact decide_eq_false (fun h => hne ((open_eq l (by omega)).2 h.2)), rfl, hS⟩
    · skip
      simp only [htn] at hne
      refine RW.skip ?_
      refine thenN ?_
      refine RW.seq ?_
      refine RW.region ?_
      refine RL.ev rfl rfl ev_move ?_
      refine RL.ev rfl rfl ev_move ?_
      refine RL.ev rfl rfl (ev_lenS Try.underlying23 (hv.ext hS) rfl) ?_
      refine RL.ev rfl rfl (ev_arith rfl rfl rfl (sub64 (by omega) (by omega))) ?_
      refine RL.ev rfl rfl (ev_cutTo Try.underlying23 sz5 (hv.ext hS) rfl rfl (by omega) (by omega)) ?_
      refine RL.ev rfl rfl ev_assign ?_
      refine RL.ev rfl rfl ev_assign ?_
      refine RL.nil ?_
      refine thenN ?_
      refine RW.ret ?_
      refine retI (RV.tmp2 rfl) ?_
      refine .inl ⟨by unfold openOk; exact decide_eq_true ⟨by omega, (open_eq l (by omega)).1 (Decidable.not_not.1 hne)⟩, ?_, hS⟩
      show Value.tuple #[cutV v 0 ((l.length : Int) - 4).toNat, .int .i64 0] = _
      rw [htn]

/-- A slice that was lent: two bytes of room behind it have marks. -/
def Lent (w : World) (base : Nat) (r : Value) (l : List UInt8) : Prop := ∃ g c, r = .slice (some ⟨g, 0, none⟩) l.length c ∧ Own vb 5 w base (.slice (some ⟨g, 0, none⟩) (l.length + 2) c) (l ++ [91, 92])
theorem Lent.own {w : World} {base : Nat} {r : Value} {l : List UInt8} (h : Lent w base r l) : Own vb 5 w base r l := by
  obtain ⟨g, c, rfl, ho⟩ := h
  have := ho.take (k := l.length) (by simp)
  rw [cutV_zero] at this
  simpa using this
theorem Lent.mod {M : Nat → Prop} {w w' : World} {base : Nat} {r : Value} {l : List UInt8} (h : Lent w base r l) (hm : Mod M w w') (hb : ∀ k, r.ownBlock = some k → ¬ M k) : Lent w' base r l := by
  obtain ⟨g, c, rfl, ho⟩ := h
  exact ⟨g, c, rfl, ho.mod hm (fun k hk => hb k hk)⟩
theorem Lent.ext {w w' : World} {base : Nat} {r : Value} {l : List UInt8} (h : Lent w base r l) (hm : Ext w w') : Lent w' base r l := h.mod hm (fun _ _ e => e)

end Go.Proofs.Ytngkdkbpgoddlaa
