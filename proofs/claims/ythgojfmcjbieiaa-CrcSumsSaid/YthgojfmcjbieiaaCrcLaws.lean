import Derived.Test.YthgojfmcjbieiaaCrcWalks3
set_option linter.unusedVariables false
set_option linter.unusedSimpArgs false
namespace Go.Proofs.Ythgojfmcjbieiaa
open Go.RowKit Go.Rl

open Go.Crc
set_option maxHeartbeats 4000000 in
set_option maxRecDepth 100000 in
/-- postroad/postroadlaw01.CrcWraps -/
theorem crcWraps_calls (v : Value) (l : List UInt8) (w : World) (hv : Sl vb w v l) (hl : l.length ≤ 140737488351232) : Gives Try.prog 3 #[v] w fun r w' => r = .bool true ∧ Ext w w' := by
  refine Gives.start Try.func3 rfl (Nat.le_of_ble_eq_true rfl) ?_
  rw [args1]
  refine RW.seq ?_
  refine RW.region ?_
  have hlen := hv.len_le
  refine RL.ev rfl rfl ev_assign ?_
  refine RL.nil ?_
  refine thenN ?_
  refine RW.seq ?_
  refine RW.seq ?_
  refine RW.region ?_
  refine RL.ev rfl rfl ev_move ?_
  refine RL.ev rfl rfl (ev_lenS Try.underlying22 hv rfl) ?_
  refine RL.ev rfl rfl (ev_gtr rfl rfl) ?_
  refine RL.nil ?_
  refine thenN ?_
  refine RW.condP _ rfl (fun hbig => ?_) (fun hbig => ?_)
  · skip
    refine RW.seq ?_
    refine RW.region ?_
    refine RL.op rfl rfl (op_call0 Try.func11 rfl rfl ((known_calls _).mono ?_))
    rintro _ wk ⟨rfl, hek⟩
    refine RL.ev rfl rfl ev_assign ?_
    refine RL.nil ?_
    refine thenN ?_
    refine RW.ret ?_
    refine thenR ?_
    refine retI (RV.tmp rfl) ?_
    exact ⟨rfl, hek⟩
  · skip
    refine RW.skip ?_
    refine thenN ?_
    refine RW.seq ?_
    refine RW.region ?_
    refine RL.ev rfl rfl ev_move ?_
    refine RL.op rfl rfl (op_call1 Try.func12 rfl rfl rfl ((open_calls v l _ hv (by omega)).mono ?_))
    intro r1 w1 hr1
    have hOb_ : ∃ x e1, Sl vb w1 x (if openOk l = true then l.take (l.length - 4) else []) ∧ r1 = .tuple #[x, .int .i64 e1] ∧ Ext w w1 ∧ e1 = (if openOk l = true then 0 else 5) := by
      rcases hr1 with ⟨h, x, rfl, ho, he⟩ | ⟨h, rfl, he⟩
      · exact ⟨x, 0, by rw [if_pos h]; exact ho.sl, rfl, he, by rw [if_pos h]⟩
      · rw [h]; exact ⟨_, 5, Sl.nil vb w1, rfl, he, rfl⟩
    obtain ⟨x, e1, hx1, rfl, he1⟩ := hOb_
    obtain ⟨he1, hee1⟩ := he1
    refine RL.ev rfl rfl ev_move ?_
    refine RL.ev rfl rfl (ev_extract rfl rfl) ?_
    refine RL.ev rfl rfl (ev_extract rfl rfl) ?_
    refine RL.ev rfl rfl ev_assign ?_
    refine RL.ev rfl rfl ev_assign ?_
    refine RL.nil ?_
    refine thenN ?_
    refine RW.seq ?_
    refine RW.region ?_
    refine RL.ev rfl rfl ev_move ?_
    refine RL.op rfl rfl (op_call1 Try.func13 rfl rfl rfl ((refOpen_calls v l _ (hv.ext he1) (by omega)).mono ?_))
    intro r2 w2 hr2
    have hOb_ : ∃ y e2, Sl vb w2 y (if openOk l = true then l.take (l.length - 4) else []) ∧ r2 = .tuple #[y, .int .i64 e2] ∧ Ext w1 w2 ∧ e2 = (if openOk l = true then 0 else 5) := by
      rcases hr2 with ⟨h, rfl, he⟩ | ⟨h, rfl, he⟩
      · exact ⟨_, 0, by rw [if_pos h]; exact ((hv.ext (he1.trans he)).cutTo (by omega)), rfl, he, by rw [if_pos h]⟩
      · rw [h]; exact ⟨_, 5, Sl.nil vb w2, rfl, he, rfl⟩
    obtain ⟨y, e2, hy2, rfl, he2, hee2⟩ := hOb_
    have hE2 := he1.trans he2
    refine RL.ev rfl rfl ev_move ?_
    refine RL.ev rfl rfl (ev_extract rfl rfl) ?_
    refine RL.ev rfl rfl (ev_extract rfl rfl) ?_
    refine RL.ev rfl rfl ev_assign ?_
    refine RL.ev rfl rfl ev_assign ?_
    refine RL.nil ?_
    refine thenN ?_
    refine RW.seq ?_
    refine RW.region ?_
    refine RL.ev rfl rfl ev_move ?_
    refine RL.op rfl rfl (op_call1 Try.func15 rfl rfl rfl ((wrap_calls v l _ (hv.ext hE2) (by omega)).mono ?_))
    rintro v3 w3 ⟨ho3, he3⟩
    refine RL.ev rfl rfl ev_move ?_
    refine RL.op rfl rfl (op_call1 Try.func16 rfl rfl rfl ((refWrap_calls v l _ (hv.ext (hE2.trans he3)) (by omega)).mono ?_))
    rintro v4 w4 ⟨ho4, he4⟩
    refine RL.op rfl rfl (op_call2 Try.func14 rfl rfl rfl rfl ((same_true (ho3.sl.ext he4) ho4.sl rfl).mono ?_))
    rintro _ _ ⟨rfl, rfl⟩
    refine RL.ev rfl rfl ev_move ?_
    refine RL.onEv rfl rfl (by decide) rfl rfl ev_move ?_
    refine RL.onEv rfl rfl (by decide) rfl rfl ev_move ?_
    refine RL.on rfl rfl (by decide) rfl rfl (op_call2 Try.func14 rfl rfl rfl rfl ((same_true (hx1.ext ((he2.trans he3).trans he4)) (hy2.ext (he3.trans he4)) rfl).mono ?_))
    rintro _ _ ⟨rfl, rfl⟩
    refine RL.ev rfl rfl (ev_pickT rfl) ?_
    refine RL.ev rfl rfl ev_move ?_
    refine RL.onEv rfl rfl (by decide) rfl rfl ev_move ?_
    have hconv : IntKind.i64.wrap e1 = e1 := by rw [hee1]; split <;> rfl
    refine RL.onEv rfl rfl (by decide) rfl rfl ev_move ?_
    refine RL.onEv rfl rfl (by decide) rfl rfl (ev_true (ev_eql rfl rfl) (by rw [hee1, hee2])) ?_
    refine RL.ev rfl rfl (ev_pickT rfl) ?_
    refine RL.ev rfl rfl ev_move ?_
    refine RL.on rfl rfl (by decide) rfl rfl (op_call0 Try.func11 rfl rfl ((known_calls _).mono ?_))
    rintro _ wk ⟨rfl, hek⟩
    refine RL.ev rfl rfl (ev_pickT rfl) ?_
    refine RL.ev rfl rfl ev_assign ?_
    refine RL.nil ?_
    refine thenN ?_
    refine RW.ret ?_
    refine retI (RV.tmp rfl) ?_
    exact ⟨rfl, ((hE2.trans he3).trans he4).trans hek⟩

set_option maxHeartbeats 4000000 in
set_option maxRecDepth 100000 in
/-- postroad/postroadlaw01.CrcTells -/
theorem crcTells_calls (v : Value) (l : List UInt8) (at_ bit : Int) (w : World) (hv : Sl vb w v l) (hl : l.length ≤ 140737488351232) (ha0 : 0 ≤ at_) (ha1 : at_ < 65536) (hb0 : 0 ≤ bit) (hb1 : bit < 256) : Gives Try.prog 4 #[v, .int .u16 at_, .int .u8 bit] w fun r w' => r = .bool true ∧ Ext w w' := by
  refine Gives.start Try.func4 rfl (Nat.le_of_ble_eq_true rfl) ?_
  rw [args3]
  refine RW.seq ?_
  refine RW.region ?_
  have hlen := hv.len_le
  refine RL.ev rfl rfl ev_assign ?_
  refine RL.nil ?_
  refine thenN ?_
  refine RW.seq ?_
  refine RW.seq ?_
  refine RW.region ?_
  refine RL.ev rfl rfl ev_move ?_
  refine RL.ev rfl rfl (ev_lenS Try.underlying22 hv rfl) ?_
  refine RL.ev rfl rfl (ev_gtr rfl rfl) ?_
  refine RL.nil ?_
  refine thenN ?_
  refine RW.condP _ rfl (fun hbig => ?_) (fun hbig => ?_)
  · skip
    refine RW.seq ?_
    refine RW.region ?_
    refine RL.op rfl rfl (op_call0 Try.func11 rfl rfl ((known_calls _).mono ?_))
    rintro _ wk ⟨rfl, hek⟩
    refine RL.ev rfl rfl ev_assign ?_
    refine RL.nil ?_
    refine thenN ?_
    refine RW.ret ?_
    refine thenR ?_
    refine retI (RV.tmp rfl) ?_
    exact ⟨rfl, hek⟩
  · skip
    refine RW.skip ?_
    refine thenN ?_
    refine RW.seq ?_
    refine RW.region ?_
    refine RL.ev rfl rfl ev_move ?_
    refine RL.op rfl rfl (op_call1 Try.func15 rfl rfl rfl ((wrap_calls v l _ hv (by omega)).mono ?_))
    rintro vw w1 ⟨ho1, he1⟩
    have hwl : (l ++ tailB (Crc.sum l)).length = l.length + 4 := by simp [tail_length]
    generalize hwd : l ++ tailB (Crc.sum l) = wd at ho1 hwl
    refine RL.ev rfl rfl ev_assign ?_
    refine RL.nil ?_
    refine thenN ?_
    refine RW.seq ?_
    refine RW.region ?_
    refine RL.ev rfl rfl ev_move ?_
    refine RL.op rfl rfl (op_call1 Try.func12 rfl rfl rfl ((open_calls vw _ _ ho1.sl (by omega)).mono ?_))
    rintro r2 w2 hr2
    have hOb_ : ∃ x, r2 = .tuple #[x, .int .i64 0] ∧ Own vb 5 w2 w1.heap.size x l ∧ Ext w1 w2 := by
      rcases hr2 with ⟨h, x, rfl, ho, he⟩ | ⟨h, _⟩
      · rw [← hwd, (open_wrap l).2] at ho; exact ⟨x, rfl, ho, he⟩
      · rw [← hwd, (open_wrap l).1] at h; cases h
    obtain ⟨x, rfl, hx2, he2⟩ := hOb_
    have ho2 := ho1.ext he2
    have hv2 := hv.ext (he1.trans he2)
    refine RL.ev rfl rfl ev_move ?_
    refine RL.ev rfl rfl (ev_extract rfl rfl) ?_
    refine RL.ev rfl rfl (ev_extract rfl rfl) ?_
    refine RL.ev rfl rfl ev_assign ?_
    refine RL.ev rfl rfl ev_assign ?_
    refine RL.nil ?_
    refine thenN ?_
    refine RW.seq ?_
    refine RW.seq ?_
    refine RW.region ?_
    refine RL.ev rfl rfl ev_move ?_
    refine RL.ev rfl rfl (ev_lenS Try.underlying22 ho2.sl rfl) ?_
    refine RL.ev rfl rfl ev_move ?_
    refine RL.ev rfl rfl (ev_lenS Try.underlying22 hv2 rfl) ?_
    refine RL.ev rfl rfl (ev_arith rfl rfl rfl (add64 (by omega) (by omega))) ?_
    refine RL.ev rfl rfl (ev_false (ev_neq rfl rfl) (by rw [hwl]; omega)) ?_
    refine RL.ev rfl rfl ev_move ?_
    refine RL.onEv rfl rfl (by decide) rfl rfl ev_move ?_
    refine RL.onEv rfl rfl (by decide) rfl rfl ev_move ?_
    refine RL.on rfl rfl (by decide) rfl rfl (op_call2 Try.func14 rfl rfl rfl rfl ((same_true hx2.sl hv2 rfl).mono ?_))
    rintro _ _ ⟨rfl, rfl⟩
    refine RL.onEv rfl rfl (by decide) rfl rfl (ev_not rfl) ?_
    refine RL.ev rfl rfl (ev_pickF rfl) ?_
    refine RL.ev rfl rfl ev_move ?_
    refine RL.onEv rfl rfl (by decide) rfl rfl ev_move ?_
    refine RL.onEv rfl rfl (by decide) rfl rfl (ev_false (ev_neq rfl rfl) (by decide)) ?_
    refine RL.ev rfl rfl (ev_pickF rfl) ?_
    refine RL.nil ?_
    refine thenN ?_
    refine RW.condF rfl ?_
    refine RW.skip ?_
    refine thenN ?_
    refine RW.seq ?_
    refine RW.region ?_
    refine RL.ev rfl rfl ev_move ?_
    refine RL.ev rfl rfl (ev_conv Try.underlying32 Try.underlying3 rfl (wrap_i64 (by omega) (by omega))) ?_
    refine RL.ev rfl rfl ev_move ?_
    refine RL.ev rfl rfl (ev_lenS Try.underlying22 ho2.sl rfl) ?_
    refine (pick_mod at_ wd.length ha0 (by omega)).elim (fun k hk => ?_)
    have hk1 := hk.2
    replace hk := hk.1
    have hbb : 0 ≤ bit % 8 ∧ bit % 8 < 8 := ⟨by omega, by omega⟩
    refine RL.ev rfl rfl (ev_rem rfl rfl (by omega) hk) ?_
    refine RL.ev rfl rfl ev_assign ?_
    refine RL.nil ?_
    refine thenN ?_
    refine RW.seq ?_
    refine RW.region ?_
    refine RL.ev rfl rfl ev_move ?_
    refine RL.ev rfl rfl ev_move ?_
    refine RL.ev rfl rfl ev_move ?_
    refine RL.ev rfl rfl ev_move ?_
    refine RL.ev rfl rfl (ev_index Try.underlying22 sz5 ho2.sl rfl rfl (by omega) (by omega)) ?_
    refine RL.ev rfl rfl (ev_loadS Try.underlying5 rfl ho2.sl rfl (by omega)) ?_
    refine RL.ev rfl rfl ev_move ?_
    refine RL.ev rfl rfl (ev_rem rfl rfl (by decide) (Int.tmod_eq_emod_of_nonneg hb0)) ?_
    refine RL.ev rfl rfl (ev_shl rfl rfl (by omega) (shl8 (bit % 8) (by omega) (by omega))) ?_
    refine RL.ev rfl rfl (ev_arith rfl rfl rfl (xor8 _ _)) ?_
    refine RL.ev rfl rfl (ev_index Try.underlying22 sz5 ho2.sl rfl rfl (by omega) (by omega)) ?_
    refine RL.op rfl rfl (op_storeOwn (a := wd[(k : Int).toNat]'(by omega) ^^^ bitOf (bit % 8)) sz5 ho2 rfl (by omega) rfl rfl rfl rfl ?_)
    intro w3 ho3 hm3 hs3
    have he3 : Ext w w3 := (he1.trans he2).then hm3 (fun i hi e => by have := (ho1.lt _ e).1; omega)
    refine RL.nil ?_
    refine thenN ?_
    refine RW.seq ?_
    refine RW.region ?_
    refine RL.ev rfl rfl ev_move ?_
    refine RL.op rfl rfl (op_call1 Try.func12 rfl rfl rfl ((open_calls vw _ _ ho3.sl (by rw [List.length_set]; omega)).mono ?_))
    rintro r4 w4 hr4
    have hOb_ : ∃ x4, r4 = .tuple #[x4, .int .i64 5] ∧ Ext w3 w4 := by
      rcases hr4 with ⟨h, _⟩ | ⟨h, rfl, he⟩
      · have hk2 : (k : Int).toNat < wd.length := by omega
        rw [open_flip' l wd hwd _ hk2 _ (xor_bit_ne _ _ hbb.1 hbb.2)] at h; cases h
      · exact ⟨_, rfl, he⟩
    obtain ⟨x4, rfl, he4⟩ := hOb_
    refine RL.ev rfl rfl ev_move ?_
    refine RL.ev rfl rfl (ev_extract rfl rfl) ?_
    refine RL.ev rfl rfl (ev_extract rfl rfl) ?_
    refine RL.ev rfl rfl ev_assign ?_
    refine RL.ev rfl rfl ev_assign ?_
    refine RL.nil ?_
    refine thenN ?_
    refine RW.seq ?_
    refine RW.region ?_
    refine RL.ev rfl rfl ev_move ?_
    refine RL.ev rfl rfl (ev_true (ev_neq rfl rfl) (by decide)) ?_
    refine RL.ev rfl rfl ev_move ?_
    refine RL.on rfl rfl (by decide) rfl rfl (op_call0 Try.func11 rfl rfl ((known_calls _).mono ?_))
    rintro _ wk ⟨rfl, hek⟩
    refine RL.ev rfl rfl (ev_pickT rfl) ?_
    refine RL.ev rfl rfl ev_assign ?_
    refine RL.nil ?_
    refine thenN ?_
    refine RW.ret ?_
    refine retI (RV.tmp rfl) ?_
    exact ⟨rfl, (he3.trans he4).trans hek⟩

set_option maxHeartbeats 4000000 in
set_option maxRecDepth 100000 in
/-- postroad/postroadlaw01.CrcOpened -/
theorem crcOpened_calls (v : Value) (l : List UInt8) (w : World) (hv : Sl vb w v l) (hl : l.length ≤ 140737488351232) : Gives Try.prog 5 #[v] w fun r w' => r = .bool true ∧ Ext w w' := by
  refine Gives.start Try.func5 rfl (Nat.le_of_ble_eq_true rfl) ?_
  rw [args1]
  refine RW.seq ?_
  refine RW.region ?_
  have hlen := hv.len_le
  refine RL.ev rfl rfl ev_assign ?_
  refine RL.nil ?_
  refine thenN ?_
  refine RW.seq ?_
  refine RW.seq ?_
  refine RW.region ?_
  refine RL.ev rfl rfl ev_move ?_
  refine RL.ev rfl rfl (ev_lenS Try.underlying22 hv rfl) ?_
  refine RL.ev rfl rfl (ev_gtr rfl rfl) ?_
  refine RL.nil ?_
  refine thenN ?_
  refine RW.condP _ rfl (fun hbig => ?_) (fun hbig => ?_)
  · skip
    refine RW.seq ?_
    refine RW.region ?_
    refine RL.op rfl rfl (op_call0 Try.func11 rfl rfl ((known_calls _).mono ?_))
    rintro _ wk ⟨rfl, hek⟩
    refine RL.ev rfl rfl ev_assign ?_
    refine RL.nil ?_
    refine thenN ?_
    refine RW.ret ?_
    refine thenR ?_
    refine retI (RV.tmp rfl) ?_
    exact ⟨rfl, hek⟩
  · skip
    refine RW.skip ?_
    refine thenN ?_
    refine RW.seq ?_
    refine RW.region ?_
    refine RL.ev rfl rfl ev_move ?_
    refine RL.op rfl rfl (op_call1 Try.func12 rfl rfl rfl ((open_calls v l _ hv (by omega)).mono ?_))
    intro r1 w1 hr1
    rcases hr1 with ⟨hok, x, rfl, ho1, he1⟩ | ⟨hok, rfl, he1⟩
    · skip
      refine RL.ev rfl rfl ev_move ?_
      refine RL.ev rfl rfl (ev_extract rfl rfl) ?_
      refine RL.ev rfl rfl (ev_extract rfl rfl) ?_
      refine RL.ev rfl rfl ev_assign ?_
      refine RL.ev rfl rfl ev_assign ?_
      refine RL.nil ?_
      refine thenN ?_
      refine RW.seq ?_
      refine RW.seq ?_
      refine RW.region ?_
      refine RL.ev rfl rfl ev_move ?_
      refine RL.ev rfl rfl (ev_eql rfl rfl) ?_
      refine RL.nil ?_
      refine thenN ?_
      refine RW.condPT _ rfl (by decide) ?_
      refine RW.seq ?_
      refine RW.region ?_
      refine RL.ev rfl rfl ev_move ?_
      have h4 : 4 ≤ l.length := by unfold openOk at hok; exact (of_decide_eq_true hok).1
      have hxl : (l.take (l.length - 4)).length = l.length - 4 := by simp
      refine RL.ev rfl rfl (ev_lenS Try.underlying22 ho1.sl rfl) ?_
      refine RL.ev rfl rfl ev_move ?_
      refine RL.ev rfl rfl (ev_lenS Try.underlying22 (hv.ext he1) rfl) ?_
      refine RL.ev rfl rfl (ev_arith rfl rfl rfl (sub64 (by omega) (by omega))) ?_
      refine RL.ev rfl rfl (ev_true (ev_eql rfl rfl) (by rw [hxl]; omega)) ?_
      refine RL.ev rfl rfl ev_move ?_
      refine RL.onEv rfl rfl (by decide) rfl rfl ev_move ?_
      refine RL.on rfl rfl (by decide) rfl rfl (op_call1 Try.func15 rfl rfl rfl ((wrap_calls _ _ _ ho1.sl (by omega)).mono ?_))
      rintro v2 w2 ⟨ho2, he2⟩
      rw [wrap_open l hok] at ho2
      refine RL.onEv rfl rfl (by decide) rfl rfl ev_move ?_
      refine RL.on rfl rfl (by decide) rfl rfl (op_call2 Try.func14 rfl rfl rfl rfl ((same_true ho2.sl (hv.ext (he1.trans he2)) rfl).mono ?_))
      rintro _ _ ⟨rfl, rfl⟩
      refine RL.ev rfl rfl (ev_pickT rfl) ?_
      refine RL.ev rfl rfl ev_move ?_
      refine RL.on rfl rfl (by decide) rfl rfl (op_call0 Try.func11 rfl rfl ((known_calls _).mono ?_))
      rintro _ wk ⟨rfl, hek⟩
      refine RL.ev rfl rfl (ev_pickT rfl) ?_
      refine RL.ev rfl rfl ev_assign ?_
      refine RL.nil ?_
      refine thenN ?_
      refine RW.ret ?_
      refine thenR ?_
      refine retI (RV.tmp rfl) ?_
      exact ⟨rfl, (he1.trans he2).trans hek⟩
    · skip
      refine RL.ev rfl rfl ev_move ?_
      refine RL.ev rfl rfl (ev_extract rfl rfl) ?_
      refine RL.ev rfl rfl (ev_extract rfl rfl) ?_
      refine RL.ev rfl rfl ev_assign ?_
      refine RL.ev rfl rfl ev_assign ?_
      refine RL.nil ?_
      refine thenN ?_
      refine RW.seq ?_
      refine RW.seq ?_
      refine RW.region ?_
      refine RL.ev rfl rfl ev_move ?_
      refine RL.ev rfl rfl (ev_eql rfl rfl) ?_
      refine RL.nil ?_
      refine thenN ?_
      refine RW.condPF _ rfl (by decide) ?_
      refine RW.skip ?_
      refine thenN ?_
      refine RW.seq ?_
      refine RW.seq ?_
      refine RW.region ?_
      refine RL.ev rfl rfl ev_move ?_
      refine RL.ev rfl rfl (ev_false (ev_neq rfl rfl) (by decide)) ?_
      refine RL.ev rfl rfl ev_move ?_
      refine RL.onEv rfl rfl (by decide) rfl rfl ev_move ?_
      refine RL.onEv rfl rfl (by decide) rfl rfl (ev_lenS Try.underlying22 (Sl.nil vb w1) rfl) ?_
      refine RL.onEv rfl rfl (by decide) rfl rfl (ev_false (ev_neq rfl rfl) (by simp)) ?_
      refine RL.ev rfl rfl (ev_pickF rfl) ?_
      refine RL.nil ?_
      refine thenN ?_
      refine RW.condF rfl ?_
      refine RW.skip ?_
      refine thenN ?_
      refine RW.seq ?_
      by_cases h4 : (l.length : Int) < 4
      · skip
        refine RW.region ?_
        refine RL.ev rfl rfl ev_move ?_
        refine RL.ev rfl rfl (ev_lenS Try.underlying22 (hv.ext he1) rfl) ?_
        refine RL.ev rfl rfl (ev_true (ev_lss rfl rfl) h4) ?_
        refine RL.ev rfl rfl ev_move ?_
        refine RL.off rfl rfl (by decide) rfl rfl ?_
        refine RL.off rfl rfl (by decide) rfl rfl ?_
        refine RL.off rfl rfl (by decide) rfl rfl ?_
        refine RL.off rfl rfl (by decide) rfl rfl ?_
        refine RL.off rfl rfl (by decide) rfl rfl ?_
        refine RL.off rfl rfl (by decide) rfl rfl ?_
        refine RL.off rfl rfl (by decide) rfl rfl ?_
        refine RL.off rfl rfl (by decide) rfl rfl ?_
        refine RL.off rfl rfl (by decide) rfl rfl ?_
        refine RL.ev rfl rfl (ev_pickT rfl) ?_
        refine RL.ev rfl rfl ev_move ?_
        refine RL.on rfl rfl (by decide) rfl rfl (op_call0 Try.func11 rfl rfl ((known_calls _).mono ?_))
        rintro _ wk ⟨rfl, hek⟩
        refine RL.ev rfl rfl (ev_pickT rfl) ?_
        refine RL.ev rfl rfl ev_assign ?_
        refine RL.nil ?_
        refine thenN ?_
        refine RW.ret ?_
        refine retI (RV.tmp rfl) ?_
        exact ⟨rfl, he1.trans hek⟩
      · skip
        refine RW.region ?_
        refine RL.ev rfl rfl ev_move ?_
        refine RL.ev rfl rfl (ev_lenS Try.underlying22 (hv.ext he1) rfl) ?_
        refine RL.ev rfl rfl (ev_false (ev_lss rfl rfl) h4) ?_
        refine RL.ev rfl rfl ev_move ?_
        refine RL.onEv rfl rfl (by decide) rfl rfl ev_move ?_
        refine RL.onEv rfl rfl (by decide) rfl rfl ev_move ?_
        refine RL.onEv rfl rfl (by decide) rfl rfl (ev_lenS Try.underlying22 (hv.ext he1) rfl) ?_
        refine RL.onEv rfl rfl (by decide) rfl rfl (ev_arith rfl rfl rfl (sub64 (by omega) (by omega))) ?_
        refine RL.onEv rfl rfl (by decide) rfl rfl (ev_cutTo Try.underlying22 sz5 (hv.ext he1) rfl rfl (by omega) (by omega)) ?_
        refine RL.on rfl rfl (by decide) rfl rfl (op_call1 Try.func15 rfl rfl rfl ((wrap_calls _ _ _ ((hv.ext he1).cutTo (by omega)) (by simp; omega)).mono ?_))
        rintro v2 w2 ⟨ho2, he2⟩
        rw [show ((l.length : Int) - 4).toNat = l.length - 4 from by omega] at ho2
        refine RL.onEv rfl rfl (by decide) rfl rfl ev_move ?_
        refine RL.on rfl rfl (by decide) rfl rfl (op_call2 Try.func14 rfl rfl rfl rfl ((same_false ho2.sl (hv.ext (he1.trans he2)) (wrap_not l hok (by omega))).mono ?_))
        rintro _ _ ⟨rfl, rfl⟩
        refine RL.onEv rfl rfl (by decide) rfl rfl (ev_not rfl) ?_
        refine RL.ev rfl rfl (ev_pickF rfl) ?_
        refine RL.ev rfl rfl ev_move ?_
        refine RL.on rfl rfl (by decide) rfl rfl (op_call0 Try.func11 rfl rfl ((known_calls _).mono ?_))
        rintro _ wk ⟨rfl, hek⟩
        refine RL.ev rfl rfl (ev_pickT rfl) ?_
        refine RL.ev rfl rfl ev_assign ?_
        refine RL.nil ?_
        refine thenN ?_
        refine RW.ret ?_
        refine retI (RV.tmp rfl) ?_
        exact ⟨rfl, (he1.trans he2).trans hek⟩

set_option maxHeartbeats 4000000 in
set_option maxRecDepth 100000 in
/-- postroad/postroadlaw01.CrcOwn -/
theorem crcOwn_calls (v : Value) (l : List UInt8) (w : World) (hv : Sl vb w v l) (hl : l.length ≤ 140737488351232) : Gives Try.prog 6 #[v] w fun r w' => r = .bool true ∧ Ext w w' := by
  refine Gives.start Try.func6 rfl (Nat.le_of_ble_eq_true rfl) ?_
  rw [args1]
  refine RW.seq ?_
  refine RW.region ?_
  have hlen := hv.len_le
  refine RL.ev rfl rfl ev_assign ?_
  refine RL.nil ?_
  refine thenN ?_
  refine RW.seq ?_
  refine RW.seq ?_
  refine RW.region ?_
  refine RL.ev rfl rfl ev_move ?_
  refine RL.ev rfl rfl (ev_lenS Try.underlying22 hv rfl) ?_
  refine RL.ev rfl rfl (ev_gtr rfl rfl) ?_
  refine RL.nil ?_
  refine thenN ?_
  refine RW.condP _ rfl (fun hbig => ?_) (fun hbig => ?_)
  · skip
    refine RW.seq ?_
    refine RW.region ?_
    refine RL.op rfl rfl (op_call0 Try.func11 rfl rfl ((known_calls _).mono ?_))
    rintro _ wk ⟨rfl, hek⟩
    refine RL.ev rfl rfl ev_assign ?_
    refine RL.nil ?_
    refine thenN ?_
    refine RW.ret ?_
    refine thenR ?_
    refine retI (RV.tmp rfl) ?_
    exact ⟨rfl, hek⟩
  · skip
    refine RW.skip ?_
    refine thenN ?_
    refine RW.seq ?_
    refine RW.region ?_
    refine RL.ev rfl rfl ev_move ?_
    refine RL.op rfl rfl (op_call1 Try.func17 rfl rfl rfl ((lent_calls v l _ hv (by omega)).mono ?_))
    rintro vx w1 ⟨hx1, he1⟩
    refine RL.ev rfl rfl ev_assign ?_
    refine RL.nil ?_
    refine thenN ?_
    refine RW.seq ?_
    refine RW.region ?_
    refine RL.ev rfl rfl ev_move ?_
    refine RL.op rfl rfl (op_call1 Try.func15 rfl rfl rfl ((wrap_calls vx l _ hx1.own.sl (by omega)).mono ?_))
    rintro vw w2 ⟨ho2, he2⟩
    have hwl : (l ++ tailB (Crc.sum l)).length = l.length + 4 := by simp [tail_length]
    generalize hwd : l ++ tailB (Crc.sum l) = wd at ho2 hwl
    refine RL.ev rfl rfl ev_assign ?_
    refine RL.nil ?_
    refine thenN ?_
    refine RW.seq ?_
    refine RW.region ?_
    refine RL.ev rfl rfl ev_move ?_
    refine RL.op rfl rfl (op_call1 Try.func17 rfl rfl rfl ((lent_calls vw wd _ ho2.sl (by omega)).mono ?_))
    rintro vv w3 ⟨hv3, he3⟩
    refine RL.ev rfl rfl ev_assign ?_
    refine RL.nil ?_
    refine thenN ?_
    refine RW.seq ?_
    refine RW.region ?_
    refine RL.ev rfl rfl ev_move ?_
    refine RL.op rfl rfl (op_call1 Try.func12 rfl rfl rfl ((open_calls vv wd _ hv3.own.sl (by omega)).mono ?_))
    rintro r4 w4 hr4
    have hOb_ : ∃ vo, r4 = .tuple #[vo, .int .i64 0] ∧ Own vb 5 w4 w3.heap.size vo l ∧ Ext w3 w4 := by
      rcases hr4 with ⟨h, x, rfl, ho, he⟩ | ⟨h, _⟩
      · rw [← hwd, (open_wrap l).2] at ho; exact ⟨x, rfl, ho, he⟩
      · rw [← hwd, (open_wrap l).1] at h; cases h
    obtain ⟨vo, rfl, ho4, he4⟩ := hOb_
    have hs1 := he1.size
    have hs2 := he2.size
    have hs3 := he3.size
    have hs4 := he4.size
    have hE4 := ((he1.trans he2).trans he3).trans he4
    have hxb := hx1.own.lt
    have hwb := ho2.lt
    have hvb := hv3.own.lt
    have hob := ho4.lt
    refine RL.ev rfl rfl ev_move ?_
    refine RL.ev rfl rfl (ev_extract rfl rfl) ?_
    refine RL.ev rfl rfl (ev_extract rfl rfl) ?_
    refine RL.ev rfl rfl ev_assign ?_
    refine RL.ev rfl rfl ev_assign ?_
    refine RL.nil ?_
    refine thenN ?_
    refine RW.seq ?_
    refine RW.seq ?_
    refine RW.region ?_
    refine RL.ev rfl rfl ev_move ?_
    refine RL.ev rfl rfl (ev_false (ev_neq rfl rfl) (by decide)) ?_
    refine RL.ev rfl rfl ev_move ?_
    refine RL.onEv rfl rfl (by decide) rfl rfl ev_move ?_
    refine RL.onEv rfl rfl (by decide) rfl rfl (ev_lenS Try.underlying22 (ho2.ext (he3.trans he4)).sl rfl) ?_
    refine RL.onEv rfl rfl (by decide) rfl rfl ev_move ?_
    refine RL.onEv rfl rfl (by decide) rfl rfl (ev_lenS Try.underlying22 (hv.ext hE4) rfl) ?_
    refine RL.onEv rfl rfl (by decide) rfl rfl (ev_arith rfl rfl rfl (add64 (by omega) (by omega))) ?_
    refine RL.onEv rfl rfl (by decide) rfl rfl (ev_false (ev_neq rfl rfl) (by omega)) ?_
    refine RL.ev rfl rfl (ev_pickF rfl) ?_
    refine RL.nil ?_
    refine thenN ?_
    refine RW.condF rfl ?_
    refine RW.skip ?_
    refine thenN ?_
    refine RW.seq ?_
    refine RW.seq ?_
    refine RW.region ?_
    refine RL.ev rfl rfl ev_assign ?_
    refine RL.nil ?_
    refine thenN ?_
    refine RW.block ?_
    refine RW.loop (fun k R w' => ∃ i : Nat, ∃ lo : List UInt8, R 8 = .int .i64 (i : Int) ∧ R 0 = v ∧ R 3 = vx ∧ R 4 = vw ∧ R 5 = vv ∧ R 6 = vo ∧ (i + k = l.length) ∧ (lo.length = l.length) ∧ (Own vb 5 w' w3.heap.size vo lo) ∧ (w4.heap.size ≤ w'.heap.size) ∧ (Rl.Mod (fun b => vo.ownBlock = some b) w4 w')) l.length ?_ ?_
    · exact ⟨0, l, rfl, rfl, rfl, rfl, rfl, rfl, by omega, rfl, ho4, Nat.le_refl _, Mod.refl _ _⟩
    · rintro k R w' ⟨i, lo, hr8_, hr0_, hr3_, hr4_, hr5_, hr6_, hik, hlo, ho, hsz, hm⟩
      have hR_ : ∃ R0, R = (upd (upd (upd (upd (upd (upd R0 8 _) 0 _) 3 _) 4 _) 5 _) 6 _) := ⟨R, by rw [upd_self hr8_, upd_self hr0_, upd_self hr3_, upd_self hr4_, upd_self hr5_, upd_self hr6_]⟩
      obtain ⟨R0, rfl⟩ := hR_
      clear hr8_ hr0_ hr3_ hr4_ hr5_ hr6_
      refine RW.seq ?_
      refine RW.seq ?_
      refine RW.region ?_
      refine RL.ev rfl rfl ev_move ?_
      refine RL.ev rfl rfl ev_move ?_
      refine RL.ev rfl rfl (ev_lenS Try.underlying22 ho.sl rfl) ?_
      refine RL.ev rfl rfl (ev_lss rfl rfl) ?_
      refine RL.nil ?_
      refine thenN ?_
      refine RW.condP _ rfl (fun hlt => ?_) (fun hlt => ?_)
      · skip
        refine RW.skip ?_
        refine thenN ?_
        refine RW.seq ?_
        refine RW.block ?_
        refine RW.region ?_
        refine RL.ev rfl rfl ev_move ?_
        refine RL.ev rfl rfl ev_move ?_
        refine RL.ev rfl rfl (ev_index Try.underlying22 sz5 ho.sl rfl rfl (by omega) (by omega)) ?_
        refine RL.op rfl rfl (op_storeOwn (a := 7) sz5 ho rfl (by omega) rfl rfl rfl rfl ?_)
        intro w5 ho5 hm5 hs5
        refine RL.nil ?_
        refine blockN ?_
        refine thenN ?_
        refine RW.region ?_
        refine RL.ev rfl rfl ev_move ?_
        refine RL.ev rfl rfl (ev_arith rfl rfl rfl (add64 (by omega) (by omega))) ?_
        refine RL.ev rfl rfl ev_assign ?_
        refine RL.nil ?_
        refine thenN ?_
        exact ⟨k - 1, by omega, i + 1, _, rfl, rfl, rfl, rfl, rfl, rfl, by omega, by rw [List.length_set]; exact hlo, ho5, by omega, Mod.trans hm hm5 (fun _ _ => id) (fun _ _ => id)⟩
      · skip
        refine RW.exit ?_
        refine thenX ?_
        refine thenX ?_
        refine blockHit ?_
        refine thenN ?_
        refine RW.seq ?_
        refine RW.region ?_
        have ho2' : Own vb 5 w' w1.heap.size vw wd := (ho2.ext (he3.trans he4)).mod hm (fun b h1 h2 => by have := (hwb b h1).2; have := (hob b h2).1; omega)
        have hx' : Lent w' w.heap.size vx l := (hx1.ext ((he2.trans he3).trans he4)).mod hm (fun b h1 h2 => by have := (hxb b h1).2; have := (hob b h2).1; omega)
        have hv' : Lent w' w2.heap.size vv wd := (hv3.ext he4).mod hm (fun b h1 h2 => by have := (hvb b h1).2; have := (hob b h2).1; omega)
        have hE' : Ext w w' := hE4.then hm (fun b h1 h2 => by have := (hob b h2).1; omega)
        refine RL.ev rfl rfl ev_move ?_
        refine RL.op rfl rfl (op_call1 Try.func18 rfl rfl rfl ((copy_calls vw wd _ ho2'.sl (by omega)).mono ?_))
        rintro vu w6 ⟨hu6, he6⟩
        refine RL.ev rfl rfl ev_assign ?_
        refine RL.nil ?_
        refine thenN ?_
        refine RW.seq ?_
        refine RW.seq ?_
        refine RW.region ?_
        refine RL.ev rfl rfl ev_assign ?_
        refine RL.nil ?_
        refine thenN ?_
        refine RW.block ?_
        refine RW.loop (fun k2 R2 w'' => ∃ j : Nat, ∃ lw : List UInt8, R2 10 = .int .i64 (j : Int) ∧ R2 0 = v ∧ R2 3 = vx ∧ R2 4 = vw ∧ R2 5 = vv ∧ R2 9 = vu ∧ (j + k2 = wd.length) ∧ (lw.length = wd.length) ∧ (Own vb 5 w'' w1.heap.size vw lw) ∧ (Rl.Mod (fun b => vw.ownBlock = some b) w6 w'')) wd.length ?_ ?_
        · exact ⟨0, wd, rfl, rfl, rfl, rfl, rfl, rfl, by omega, rfl, ho2'.ext he6, Mod.refl _ _⟩
        · rintro k2 R2 w'' ⟨j, lw, hr10_, hr0_, hr3_, hr4_, hr5_, hr9_, hjk, hlw, how, hmw⟩
          have hR_ : ∃ R20, R2 = (upd (upd (upd (upd (upd (upd R20 10 _) 0 _) 3 _) 4 _) 5 _) 9 _) := ⟨R2, by rw [upd_self hr10_, upd_self hr0_, upd_self hr3_, upd_self hr4_, upd_self hr5_, upd_self hr9_]⟩
          obtain ⟨R20, rfl⟩ := hR_
          clear hr10_ hr0_ hr3_ hr4_ hr5_ hr9_
          refine RW.seq ?_
          refine RW.seq ?_
          refine RW.region ?_
          refine RL.ev rfl rfl ev_move ?_
          refine RL.ev rfl rfl ev_move ?_
          refine RL.ev rfl rfl (ev_lenS Try.underlying22 how.sl rfl) ?_
          refine RL.ev rfl rfl (ev_lss rfl rfl) ?_
          refine RL.nil ?_
          refine thenN ?_
          refine RW.condP _ rfl (fun hlt2 => ?_) (fun hlt2 => ?_)
          · skip
            refine RW.skip ?_
            refine thenN ?_
            refine RW.seq ?_
            refine RW.block ?_
            refine RW.region ?_
            refine RL.ev rfl rfl ev_move ?_
            refine RL.ev rfl rfl ev_move ?_
            refine RL.ev rfl rfl (ev_index Try.underlying22 sz5 how.sl rfl rfl (by omega) (by omega)) ?_
            refine RL.op rfl rfl (op_storeOwn (a := 9) sz5 how rfl (by omega) rfl rfl rfl rfl ?_)
            intro w7 ho7 hm7 hs7
            refine RL.nil ?_
            refine blockN ?_
            refine thenN ?_
            refine RW.region ?_
            refine RL.ev rfl rfl ev_move ?_
            refine RL.ev rfl rfl (ev_arith rfl rfl rfl (add64 (by omega) (by omega))) ?_
            refine RL.ev rfl rfl ev_assign ?_
            refine RL.nil ?_
            refine thenN ?_
            exact ⟨k2 - 1, by omega, j + 1, _, rfl, rfl, rfl, rfl, rfl, rfl, by omega, by rw [List.length_set]; exact hlw, ho7, Mod.trans hmw hm7 (fun _ _ => id) (fun _ _ => id)⟩
          · skip
            refine RW.exit ?_
            refine thenX ?_
            refine thenX ?_
            refine blockHit ?_
            refine thenN ?_
            refine RW.seq ?_
            refine RW.region ?_
            have hub := hu6.lt
            have hx8 : Lent w'' w.heap.size vx l := (hx'.ext he6).mod hmw (fun b h1 h2 => by have := (hxb b h1).2; have := (hwb b h2).1; omega)
            have hv8 : Lent w'' w2.heap.size vv wd := (hv'.ext he6).mod hmw (fun b h1 h2 => by have := (hvb b h1).1; have := (hwb b h2).2; omega)
            have hu8 : Own vb 5 w'' w'.heap.size vu wd := hu6.mod hmw (fun b h1 h2 => by have := (hub b h1).1; have := (hwb b h2).2; omega)
            have hE8 : Ext w w'' := (hE'.trans he6).then hmw (fun b h1 h2 => by have := (hwb b h2).1; omega)
            refine RL.ev rfl rfl ev_move ?_
            refine RL.ev rfl rfl ev_move ?_
            refine RL.op rfl rfl (op_call2 Try.func19 rfl rfl rfl rfl ((whole_calls _ _ _ _ _ hx8 (hv.ext hE8)).mono ?_))
            rintro _ _ ⟨rfl, rfl⟩
            refine RL.ev rfl rfl ev_move ?_
            refine RL.onEv rfl rfl (by decide) rfl rfl ev_move ?_
            refine RL.onEv rfl rfl (by decide) rfl rfl ev_move ?_
            refine RL.on rfl rfl (by decide) rfl rfl (op_call2 Try.func19 rfl rfl rfl rfl ((whole_calls _ _ _ _ _ hv8 hu8.sl).mono ?_))
            rintro _ _ ⟨rfl, rfl⟩
            refine RL.ev rfl rfl (ev_pickT rfl) ?_
            refine RL.ev rfl rfl ev_move ?_
            refine RL.on rfl rfl (by decide) rfl rfl (op_call0 Try.func11 rfl rfl ((known_calls _).mono ?_))
            rintro _ wk ⟨rfl, hek⟩
            refine RL.ev rfl rfl (ev_pickT rfl) ?_
            refine RL.ev rfl rfl ev_assign ?_
            refine RL.nil ?_
            refine thenN ?_
            refine RW.ret ?_
            refine retI (RV.tmp rfl) ?_
            exact ⟨rfl, hE8.trans hek⟩

set_option maxHeartbeats 4000000 in
set_option maxRecDepth 100000 in
/-- postroad/postroadlaw01.CrcSums -/
theorem crcSums_calls (n m : BitVec 32) (v : Value) (l : List UInt8) (z : Int) (w : World) (hv : Sl vb w v l) (hl : l.length ≤ 140737488351232) (hz0 : -9223372036854775808 ≤ z) (hz1 : z ≤ 9223372036854775807) : Gives Try.prog 7 #[u32 n, u32 m, v, .int .i64 z] w fun r w' => r = .bool true ∧ Ext w w' := by
  refine Gives.start Try.func7 rfl (Nat.le_of_ble_eq_true rfl) ?_
  rw [args4]
  refine RW.seq ?_
  refine RW.region ?_
  have hlen := hv.len_le
  refine RL.ev rfl rfl ev_assign ?_
  refine RL.nil ?_
  refine thenN ?_
  refine RW.seq ?_
  refine RW.seq ?_
  rcases (show (1500 < (l.length : Int)) ∨ (¬ 1500 < (l.length : Int) ∧ 3000 < z) ∨ (¬ 1500 < (l.length : Int) ∧ ¬ 3000 < z) by omega) with hc | hc | hc
  · skip
    refine RW.region ?_
    refine RL.ev rfl rfl ev_move ?_
    refine RL.ev rfl rfl (ev_lenS Try.underlying22 hv rfl) ?_
    refine RL.ev rfl rfl (ev_true (ev_gtr rfl rfl) hc) ?_
    refine RL.ev rfl rfl ev_move ?_
    refine RL.off rfl rfl (by decide) rfl rfl ?_
    refine RL.off rfl rfl (by decide) rfl rfl ?_
    refine RL.ev rfl rfl (ev_pickT rfl) ?_
    refine RL.nil ?_
    refine thenN ?_
    refine RW.condT rfl ?_
    refine RW.seq ?_
    refine RW.region ?_
    refine RL.op rfl rfl (op_call0 Try.func11 rfl rfl ((known_calls _).mono ?_))
    rintro _ wk ⟨rfl, hek⟩
    refine RL.ev rfl rfl ev_assign ?_
    refine RL.nil ?_
    refine thenN ?_
    refine RW.ret ?_
    refine thenR ?_
    refine retI (RV.tmp rfl) ?_
    exact ⟨rfl, hek⟩
  · skip
    refine RW.region ?_
    refine RL.ev rfl rfl ev_move ?_
    refine RL.ev rfl rfl (ev_lenS Try.underlying22 hv rfl) ?_
    refine RL.ev rfl rfl (ev_false (ev_gtr rfl rfl) hc.1) ?_
    refine RL.ev rfl rfl ev_move ?_
    refine RL.onEv rfl rfl (by decide) rfl rfl ev_move ?_
    refine RL.onEv rfl rfl (by decide) rfl rfl (ev_true (ev_gtr rfl rfl) hc.2) ?_
    refine RL.ev rfl rfl (ev_pickF rfl) ?_
    refine RL.nil ?_
    refine thenN ?_
    refine RW.condT rfl ?_
    refine RW.seq ?_
    refine RW.region ?_
    refine RL.op rfl rfl (op_call0 Try.func11 rfl rfl ((known_calls _).mono ?_))
    rintro _ wk ⟨rfl, hek⟩
    refine RL.ev rfl rfl ev_assign ?_
    refine RL.nil ?_
    refine thenN ?_
    refine RW.ret ?_
    refine thenR ?_
    refine retI (RV.tmp rfl) ?_
    exact ⟨rfl, hek⟩
  · skip
    refine RW.region ?_
    refine RL.ev rfl rfl ev_move ?_
    refine RL.ev rfl rfl (ev_lenS Try.underlying22 hv rfl) ?_
    refine RL.ev rfl rfl (ev_false (ev_gtr rfl rfl) hc.1) ?_
    refine RL.ev rfl rfl ev_move ?_
    refine RL.onEv rfl rfl (by decide) rfl rfl ev_move ?_
    refine RL.onEv rfl rfl (by decide) rfl rfl (ev_false (ev_gtr rfl rfl) hc.2) ?_
    refine RL.ev rfl rfl (ev_pickF rfl) ?_
    refine RL.nil ?_
    refine thenN ?_
    refine RW.condF rfl ?_
    refine RW.skip ?_
    refine thenN ?_
    refine RW.seq ?_
    refine RW.region ?_
    refine RL.ev rfl rfl ev_move ?_
    refine RL.op rfl rfl (op_call1 Try.func20 rfl rfl rfl ((sum_calls v l _ hv).mono ?_))
    rintro _ w1 ⟨rfl, he1⟩
    refine RL.ev rfl rfl ev_move ?_
    refine RL.op rfl rfl (op_call1 Try.func21 rfl rfl rfl ((refSum_calls v l _ (hv.ext he1)).mono ?_))
    rintro _ _ ⟨rfl, rfl⟩
    refine RL.ev rfl rfl (ev_true (ev_eql rfl rfl) rfl) ?_
    refine RL.ev rfl rfl ev_move ?_
    refine RL.onEv rfl rfl (by decide) rfl rfl ev_move ?_
    refine RL.onEv rfl rfl (by decide) rfl rfl ev_move ?_
    refine RL.on rfl rfl (by decide) rfl rfl (op_call2 Try.func22 rfl rfl rfl rfl ((more_calls n v l _ (hv.ext he1)).mono ?_))
    rintro _ w2 ⟨rfl, he2⟩
    refine RL.onEv rfl rfl (by decide) rfl rfl ev_move ?_
    refine RL.onEv rfl rfl (by decide) rfl rfl ev_move ?_
    refine RL.on rfl rfl (by decide) rfl rfl (op_call2 Try.func23 rfl rfl rfl rfl ((refMore_calls n v l _ ((hv.ext he1).ext he2)).mono ?_))
    rintro _ _ ⟨rfl, rfl⟩
    refine RL.onEv rfl rfl (by decide) rfl rfl (ev_true (ev_eql rfl rfl) rfl) ?_
    refine RL.ev rfl rfl (ev_pickT rfl) ?_
    refine RL.ev rfl rfl ev_move ?_
    refine RL.onEv rfl rfl (by decide) rfl rfl ev_move ?_
    refine RL.onEv rfl rfl (by decide) rfl rfl ev_move ?_
    refine RL.onEv rfl rfl (by decide) rfl rfl ev_move ?_
    refine RL.on rfl rfl (by decide) rfl rfl (op_call3 Try.func24 rfl rfl rfl rfl rfl ((join_calls n m z _ hz0 hz1).mono ?_))
    rintro _ w3 ⟨rfl, he3⟩
    refine RL.onEv rfl rfl (by decide) rfl rfl ev_move ?_
    refine RL.onEv rfl rfl (by decide) rfl rfl ev_move ?_
    refine RL.onEv rfl rfl (by decide) rfl rfl ev_move ?_
    refine RL.on rfl rfl (by decide) rfl rfl (op_call3 Try.func25 rfl rfl rfl rfl rfl ((refJoin_calls n m z _ hz1).mono ?_))
    rintro _ _ ⟨rfl, rfl⟩
    refine RL.onEv rfl rfl (by decide) rfl rfl (ev_true (ev_eql rfl rfl) rfl) ?_
    refine RL.ev rfl rfl (ev_pickT rfl) ?_
    refine RL.ev rfl rfl ev_move ?_
    refine RL.on rfl rfl (by decide) rfl rfl (op_call0 Try.func11 rfl rfl ((known_calls _).mono ?_))
    rintro _ wk ⟨rfl, hek⟩
    refine RL.ev rfl rfl (ev_pickT rfl) ?_
    refine RL.ev rfl rfl ev_assign ?_
    refine RL.nil ?_
    refine thenN ?_
    refine RW.ret ?_
    refine retI (RV.tmp rfl) ?_
    exact ⟨rfl, ((he1.trans he2).trans he3).trans hek⟩

set_option maxHeartbeats 4000000 in
set_option maxRecDepth 100000 in
/-- postroad/postroadlaw01.CrcJoins -/
theorem crcJoins_calls (a b c : Value) (la lb lc : List UInt8) (w : World) (ha : Sl vb w a la) (hla : la.length ≤ 140737488351232) (hb : Sl vb w b lb) (hlb : lb.length ≤ 140737488351232) (hc : Sl vb w c lc) (hlc : lc.length ≤ 140737488351232) : Gives Try.prog 8 #[a, b, c] w fun r w' => r = .bool true ∧ Ext w w' := by
  refine Gives.start Try.func8 rfl (Nat.le_of_ble_eq_true rfl) ?_
  rw [args3]
  refine RW.seq ?_
  refine RW.region ?_
  refine RL.ev rfl rfl ev_assign ?_
  refine RL.nil ?_
  refine thenN ?_
  refine RW.seq ?_
  refine RW.seq ?_
  refine RW.region ?_
  refine RL.ev rfl rfl ev_move ?_
  refine RL.ev rfl rfl (ev_lenS Try.underlying22 ha rfl) ?_
  refine RL.ev rfl rfl ev_move ?_
  refine RL.ev rfl rfl (ev_lenS Try.underlying22 hb rfl) ?_
  refine RL.ev rfl rfl (ev_arith rfl rfl rfl (add64 (by omega) (by omega))) ?_
  refine RL.ev rfl rfl ev_move ?_
  refine RL.ev rfl rfl (ev_lenS Try.underlying22 hc rfl) ?_
  refine RL.ev rfl rfl (ev_arith rfl rfl rfl (add64 (by omega) (by omega))) ?_
  refine RL.ev rfl rfl (ev_gtr rfl rfl) ?_
  refine RL.nil ?_
  refine thenN ?_
  refine RW.condP _ rfl (fun hbig => ?_) (fun hbig => ?_)
  · skip
    refine RW.seq ?_
    refine RW.region ?_
    refine RL.op rfl rfl (op_call0 Try.func11 rfl rfl ((known_calls _).mono ?_))
    rintro _ wk ⟨rfl, hek⟩
    refine RL.ev rfl rfl ev_assign ?_
    refine RL.nil ?_
    refine thenN ?_
    refine RW.ret ?_
    refine thenR ?_
    refine retI (RV.tmp rfl) ?_
    exact ⟨rfl, hek⟩
  · skip
    refine RW.skip ?_
    refine thenN ?_
    refine RW.seq ?_
    refine RW.region ?_
    refine RL.ev rfl rfl ev_move ?_
    refine RL.op rfl rfl (op_call1 Try.func18 rfl rfl rfl ((copy_calls a la _ ha (by omega)).mono ?_))
    rintro v1 w1 ⟨ho1, he1⟩
    refine RL.ev rfl rfl ev_assign ?_
    refine RL.nil ?_
    refine thenN ?_
    refine RW.seq ?_
    refine RW.region ?_
    refine RL.ev rfl rfl ev_move ?_
    refine RL.ev rfl rfl ev_move ?_
    refine RL.op rfl rfl (op_append Try.underlying22 inf5 rfl vb_one ho1 rfl (hb.ext he1) rfl (by omega) (by decide) he1.size ?_)
    intro v2 w2 ho2 hm2 hk2
    have he2 : Ext w w2 := he1.then hm2 (fun i hi e => by have := (ho1.lt _ e).1; omega)
    refine RL.ev rfl rfl ev_assign ?_
    refine RL.nil ?_
    refine thenN ?_
    refine RW.seq ?_
    refine RW.region ?_
    refine RL.ev rfl rfl ev_move ?_
    refine RL.op rfl rfl (op_call1 Try.func20 rfl rfl rfl ((sum_calls _ _ _ ho2.sl).mono ?_))
    rintro _ w3 ⟨rfl, he3⟩
    have hE3 := he2.trans he3
    refine RL.ev rfl rfl ev_assign ?_
    refine RL.nil ?_
    refine thenN ?_
    refine RW.seq ?_
    refine RW.region ?_
    refine RL.ev rfl rfl ev_move ?_
    refine RL.ev rfl rfl ev_move ?_
    refine RL.op rfl rfl (op_call1 Try.func20 rfl rfl rfl ((sum_calls _ _ _ (hc.ext hE3)).mono ?_))
    rintro _ w4 ⟨rfl, he4⟩
    have hE4 := hE3.trans he4
    refine RL.ev rfl rfl ev_move ?_
    refine RL.ev rfl rfl (ev_lenS Try.underlying22 (hc.ext hE4) rfl) ?_
    refine RL.op rfl rfl (op_call3 Try.func24 rfl rfl rfl rfl rfl ((join_calls _ _ _ _ (by omega) (by omega)).mono ?_))
    rintro _ w5 ⟨rfl, he5⟩
    have hE5 := hE4.trans he5
    refine RL.ev rfl rfl ev_assign ?_
    refine RL.nil ?_
    refine thenN ?_
    refine RW.seq ?_
    refine RW.region ?_
    refine RL.ev rfl rfl ev_move ?_
    refine RL.op rfl rfl (op_call1 Try.func20 rfl rfl rfl ((sum_calls _ _ _ (ha.ext hE5)).mono ?_))
    rintro _ w6 ⟨rfl, he6⟩
    have hE6 := hE5.trans he6
    refine RL.ev rfl rfl ev_move ?_
    refine RL.op rfl rfl (op_call1 Try.func20 rfl rfl rfl ((sum_calls _ _ _ (hb.ext hE6)).mono ?_))
    rintro _ w7 ⟨rfl, he7⟩
    have hE7 := hE6.trans he7
    refine RL.ev rfl rfl ev_move ?_
    refine RL.op rfl rfl (op_call1 Try.func20 rfl rfl rfl ((sum_calls _ _ _ (hc.ext hE7)).mono ?_))
    rintro _ w8 ⟨rfl, he8⟩
    have hE8 := hE7.trans he8
    refine RL.ev rfl rfl ev_move ?_
    refine RL.ev rfl rfl (ev_lenS Try.underlying22 (hc.ext hE8) rfl) ?_
    refine RL.op rfl rfl (op_call3 Try.func24 rfl rfl rfl rfl rfl ((join_calls _ _ _ _ (by omega) (by omega)).mono ?_))
    rintro _ w9 ⟨rfl, he9⟩
    have hE9 := hE8.trans he9
    refine RL.ev rfl rfl ev_move ?_
    refine RL.ev rfl rfl (ev_lenS Try.underlying22 (hb.ext hE9) rfl) ?_
    refine RL.ev rfl rfl ev_move ?_
    refine RL.ev rfl rfl (ev_lenS Try.underlying22 (hc.ext hE9) rfl) ?_
    refine RL.ev rfl rfl (ev_arith rfl rfl rfl (add64 (by omega) (by omega))) ?_
    refine RL.op rfl rfl (op_call3 Try.func24 rfl rfl rfl rfl rfl ((join_calls _ _ _ _ (by omega) (by omega)).mono ?_))
    rintro _ w10 ⟨rfl, he10⟩
    have hE10 := hE9.trans he10
    refine RL.ev rfl rfl ev_assign ?_
    refine RL.nil ?_
    refine thenN ?_
    refine RW.seq ?_
    refine RW.region ?_
    refine RL.ev rfl rfl ev_move ?_
    refine RL.ev rfl rfl ev_move ?_
    refine RL.op rfl rfl (op_call1 Try.func20 rfl rfl rfl ((sum_calls _ _ _ (ha.ext hE10)).mono ?_))
    rintro _ w11 ⟨rfl, he11⟩
    have hE11 := hE10.trans he11
    refine RL.ev rfl rfl ev_move ?_
    refine RL.op rfl rfl (op_call2 Try.func22 rfl rfl rfl rfl ((more_calls _ _ _ _ (hb.ext hE11)).mono ?_))
    rintro _ w12 ⟨rfl, he12⟩
    have hE12 := hE11.trans he12
    refine RL.ev rfl rfl (ev_true (ev_eql rfl rfl) (by rw [sum_append])) ?_
    refine RL.ev rfl rfl ev_move ?_
    refine RL.onEv rfl rfl (by decide) rfl rfl ev_move ?_
    refine RL.onEv rfl rfl (by decide) rfl rfl ev_move ?_
    refine RL.on rfl rfl (by decide) rfl rfl (op_call1 Try.func20 rfl rfl rfl ((sum_calls _ _ _ (ha.ext hE12)).mono ?_))
    rintro _ w13 ⟨rfl, he13⟩
    have hE13 := hE12.trans he13
    refine RL.onEv rfl rfl (by decide) rfl rfl ev_move ?_
    refine RL.on rfl rfl (by decide) rfl rfl (op_call1 Try.func20 rfl rfl rfl ((sum_calls _ _ _ (hb.ext hE13)).mono ?_))
    rintro _ w14 ⟨rfl, he14⟩
    have hE14 := hE13.trans he14
    refine RL.onEv rfl rfl (by decide) rfl rfl ev_move ?_
    refine RL.onEv rfl rfl (by decide) rfl rfl (ev_lenS Try.underlying22 (hb.ext hE14) rfl) ?_
    refine RL.on rfl rfl (by decide) rfl rfl (op_call3 Try.func24 rfl rfl rfl rfl rfl ((join_calls _ _ _ _ (by omega) (by omega)).mono ?_))
    rintro _ w15 ⟨rfl, he15⟩
    have hE15 := hE14.trans he15
    refine RL.onEv rfl rfl (by decide) rfl rfl (ev_true (ev_eql rfl rfl) (by rw [sum_join])) ?_
    refine RL.ev rfl rfl (ev_pickT rfl) ?_
    refine RL.ev rfl rfl ev_move ?_
    refine RL.onEv rfl rfl (by decide) rfl rfl ev_move ?_
    refine RL.onEv rfl rfl (by decide) rfl rfl ev_move ?_
    refine RL.onEv rfl rfl (by decide) rfl rfl (ev_true (ev_eql rfl rfl) (by rw [sum_join la lb, join_assoc _ _ _ _ _ (by omega) (by omega)])) ?_
    refine RL.ev rfl rfl (ev_pickT rfl) ?_
    refine RL.ev rfl rfl ev_move ?_
    refine RL.on rfl rfl (by decide) rfl rfl (op_call0 Try.func11 rfl rfl ((known_calls _).mono ?_))
    rintro _ wk ⟨rfl, hek⟩
    refine RL.ev rfl rfl (ev_pickT rfl) ?_
    refine RL.ev rfl rfl ev_assign ?_
    refine RL.nil ?_
    refine thenN ?_
    refine RW.ret ?_
    refine retI (RV.tmp rfl) ?_
    exact ⟨rfl, hE15.trans hek⟩

set_option maxHeartbeats 4000000 in
set_option maxRecDepth 100000 in
/-- postroad/postroadlaw01.CrcLong -/
theorem crcLong_calls (a b : BitVec 32) (x y : Int) (w : World) (hx0 : 0 ≤ x) (hy0 : 0 ≤ y) : Gives Try.prog 9 #[u32 a, u32 b, .int .u64 x, .int .u64 y] w fun r w' => r = .bool true ∧ Ext w w' := by
  refine Gives.start Try.func9 rfl (Nat.le_of_ble_eq_true rfl) ?_
  rw [args4]
  refine RW.seq ?_
  refine RW.region ?_
  refine RL.ev rfl rfl ev_assign ?_
  refine RL.nil ?_
  refine thenN ?_
  refine RW.seq ?_
  refine RW.region ?_
  refine RL.ev rfl rfl ev_move ?_
  refine RL.ev rfl rfl (ev_rem rfl rfl (by decide) (Int.tmod_eq_emod_of_nonneg hx0)) ?_
  refine RL.ev rfl rfl (ev_conv Try.underlying40 Try.underlying3 rfl (wrap_i64 (by omega) (by omega))) ?_
  refine RL.ev rfl rfl ev_assign ?_
  refine RL.nil ?_
  refine thenN ?_
  refine RW.seq ?_
  refine RW.region ?_
  refine RL.ev rfl rfl ev_move ?_
  refine RL.ev rfl rfl (ev_rem rfl rfl (by decide) (Int.tmod_eq_emod_of_nonneg hy0)) ?_
  refine RL.ev rfl rfl (ev_conv Try.underlying40 Try.underlying3 rfl (wrap_i64 (by omega) (by omega))) ?_
  refine RL.ev rfl rfl ev_assign ?_
  have hm0 := Int.emod_nonneg x (show (4611686018427387904 : Int) ≠ 0 by decide)
  have hm1 := Int.emod_lt_of_pos x (show (0 : Int) < 4611686018427387904 by decide)
  have hn0 := Int.emod_nonneg y (show (4611686018427387904 : Int) ≠ 0 by decide)
  have hn1 := Int.emod_lt_of_pos y (show (0 : Int) < 4611686018427387904 by decide)
  generalize x % 4611686018427387904 = m at hm0 hm1
  generalize y % 4611686018427387904 = n at hn0 hn1
  refine RL.nil ?_
  refine thenN ?_
  refine RW.seq ?_
  refine RW.region ?_
  refine RL.ev rfl rfl ev_move ?_
  refine RL.ev rfl rfl ev_move ?_
  refine RL.ev rfl rfl ev_move ?_
  refine RL.ev rfl rfl ev_move ?_
  refine RL.ev rfl rfl (ev_arith rfl rfl rfl (add64 (by omega) (by omega))) ?_
  refine RL.op rfl rfl (op_call3 Try.func24 rfl rfl rfl rfl rfl ((join_calls a b (m + n) _ (by omega) (by omega)).mono ?_))
  rintro _ w1 ⟨rfl, he1⟩
  refine RL.ev rfl rfl ev_move ?_
  refine RL.ev rfl rfl ev_move ?_
  refine RL.op rfl rfl (op_call3 Try.func24 rfl rfl rfl rfl rfl ((join_calls a 0#32 m _ (by omega) (by omega)).mono ?_))
  rintro _ w2 ⟨rfl, he2⟩
  have he2 := he1.trans he2
  refine RL.ev rfl rfl ev_move ?_
  refine RL.ev rfl rfl ev_move ?_
  refine RL.op rfl rfl (op_call3 Try.func24 rfl rfl rfl rfl rfl ((join_calls (join a 0#32 m) b n _ (by omega) (by omega)).mono ?_))
  rintro _ w3 ⟨rfl, he3⟩
  have he3 := he2.trans he3
  refine RL.ev rfl rfl (ev_true (ev_eql rfl rfl) (by rw [join_add _ _ _ _ hm0 hn0])) ?_
  refine RL.ev rfl rfl ev_move ?_
  refine RL.onEv rfl rfl (by decide) rfl rfl ev_move ?_
  refine RL.onEv rfl rfl (by decide) rfl rfl ev_move ?_
  refine RL.on rfl rfl (by decide) rfl rfl (op_call3 Try.func24 rfl rfl rfl rfl rfl ((join_calls a b 0 _ (by omega) (by omega)).mono ?_))
  rintro _ w4 ⟨rfl, he4⟩
  have he4 := he3.trans he4
  refine RL.onEv rfl rfl (by decide) rfl rfl ev_move ?_
  refine RL.onEv rfl rfl (by decide) rfl rfl ev_move ?_
  refine RL.onEv rfl rfl (by decide) rfl rfl (ev_arith rfl rfl rfl (b_xor _ _)) ?_
  refine RL.onEv rfl rfl (by decide) rfl rfl (ev_true (ev_eql rfl rfl) (by rw [join_zero _ _ _ (Int.le_refl _)])) ?_
  refine RL.ev rfl rfl (ev_pickT rfl) ?_
  refine RL.ev rfl rfl ev_move ?_
  refine RL.onEv rfl rfl (by decide) rfl rfl ev_move ?_
  refine RL.onEv rfl rfl (by decide) rfl rfl ev_move ?_
  refine RL.onEv rfl rfl (by decide) rfl rfl ev_move ?_
  refine RL.onEv rfl rfl (by decide) rfl rfl (ev_arith rfl rfl rfl (sub64 (by omega) (by omega))) ?_
  refine RL.on rfl rfl (by decide) rfl rfl (op_call3 Try.func24 rfl rfl rfl rfl rfl ((join_calls a b (-1 - n) _ (by omega) (by omega)).mono ?_))
  rintro _ w5 ⟨rfl, he5⟩
  have he5 := he4.trans he5
  refine RL.onEv rfl rfl (by decide) rfl rfl ev_move ?_
  refine RL.onEv rfl rfl (by decide) rfl rfl ev_move ?_
  refine RL.onEv rfl rfl (by decide) rfl rfl (ev_arith rfl rfl rfl (b_xor _ _)) ?_
  refine RL.onEv rfl rfl (by decide) rfl rfl (ev_true (ev_eql rfl rfl) (by rw [join_zero _ _ _ (by omega)])) ?_
  refine RL.ev rfl rfl (ev_pickT rfl) ?_
  refine RL.ev rfl rfl ev_move ?_
  refine RL.onEv rfl rfl (by decide) rfl rfl ev_move ?_
  refine RL.onEv rfl rfl (by decide) rfl rfl ev_move ?_
  refine RL.onEv rfl rfl (by decide) rfl rfl ev_move ?_
  refine RL.on rfl rfl (by decide) rfl rfl (op_call3 Try.func24 rfl rfl rfl rfl rfl ((join_calls a b m _ (by omega) (by omega)).mono ?_))
  rintro _ w6 ⟨rfl, he6⟩
  have he6 := he5.trans he6
  refine RL.onEv rfl rfl (by decide) rfl rfl ev_move ?_
  refine RL.on rfl rfl (by decide) rfl rfl (op_call3 Try.func24 rfl rfl rfl rfl rfl ((join_calls (join a b m) b 0 _ (by omega) (by omega)).mono ?_))
  rintro _ w7 ⟨rfl, he7⟩
  have he7 := he6.trans he7
  refine RL.onEv rfl rfl (by decide) rfl rfl ev_move ?_
  refine RL.onEv rfl rfl (by decide) rfl rfl ev_move ?_
  refine RL.on rfl rfl (by decide) rfl rfl (op_call3 Try.func24 rfl rfl rfl rfl rfl ((join_calls a 0#32 m _ (by omega) (by omega)).mono ?_))
  rintro _ w8 ⟨rfl, he8⟩
  have he8 := he7.trans he8
  refine RL.onEv rfl rfl (by decide) rfl rfl (ev_true (ev_eql rfl rfl) (by rw [join_back _ _ _ _ (Int.le_refl _)])) ?_
  refine RL.ev rfl rfl (ev_pickT rfl) ?_
  refine RL.ev rfl rfl ev_move ?_
  refine RL.on rfl rfl (by decide) rfl rfl (op_call0 Try.func11 rfl rfl ((known_calls _).mono ?_))
  rintro _ wk ⟨rfl, hek⟩
  refine RL.ev rfl rfl (ev_pickT rfl) ?_
  refine RL.ev rfl rfl ev_assign ?_
  refine RL.nil ?_
  refine thenN ?_
  refine RW.ret ?_
  refine retI (RV.tmp rfl) ?_
  exact ⟨rfl, he8.trans hek⟩

set_option maxHeartbeats 4000000 in
set_option maxRecDepth 100000 in
/-- postroad/postroadlaw01.CrcLinear -/
theorem crcLinear_calls (a b : BitVec 32) (x : Int) (w : World) (hx0 : 0 ≤ x) : Gives Try.prog 10 #[u32 a, u32 b, .int .u64 x] w fun r w' => r = .bool true ∧ Ext w w' := by
  refine Gives.start Try.func10 rfl (Nat.le_of_ble_eq_true rfl) ?_
  rw [args3]
  refine RW.seq ?_
  refine RW.region ?_
  refine RL.ev rfl rfl ev_assign ?_
  refine RL.nil ?_
  refine thenN ?_
  refine RW.seq ?_
  refine RW.region ?_
  refine RL.ev rfl rfl ev_move ?_
  refine RL.ev rfl rfl (ev_rem rfl rfl (by decide) (Int.tmod_eq_emod_of_nonneg hx0)) ?_
  refine RL.ev rfl rfl (ev_conv Try.underlying40 Try.underlying3 rfl (wrap_i64 (by omega) (by omega))) ?_
  refine RL.ev rfl rfl ev_assign ?_
  have hm0 := Int.emod_nonneg x (show (4611686018427387904 : Int) ≠ 0 by decide)
  have hm1 := Int.emod_lt_of_pos x (show (0 : Int) < 4611686018427387904 by decide)
  generalize x % 4611686018427387904 = m at hm0 hm1
  refine RL.nil ?_
  refine thenN ?_
  refine RW.seq ?_
  refine RW.region ?_
  refine RL.ev rfl rfl ev_move ?_
  refine RL.ev rfl rfl ev_move ?_
  refine RL.ev rfl rfl (ev_arith rfl rfl rfl (b_xor _ _)) ?_
  refine RL.ev rfl rfl ev_move ?_
  refine RL.op rfl rfl (op_call3 Try.func24 rfl rfl rfl rfl rfl ((join_calls (a ^^^ b) 0#32 m _ (by omega) (by omega)).mono ?_))
  rintro _ w1 ⟨rfl, he1⟩
  refine RL.ev rfl rfl ev_move ?_
  refine RL.ev rfl rfl ev_move ?_
  refine RL.op rfl rfl (op_call3 Try.func24 rfl rfl rfl rfl rfl ((join_calls a 0#32 m _ (by omega) (by omega)).mono ?_))
  rintro _ w2 ⟨rfl, he2⟩
  have he2 := he1.trans he2
  refine RL.ev rfl rfl ev_move ?_
  refine RL.ev rfl rfl ev_move ?_
  refine RL.op rfl rfl (op_call3 Try.func24 rfl rfl rfl rfl rfl ((join_calls b 0#32 m _ (by omega) (by omega)).mono ?_))
  rintro _ w3 ⟨rfl, he3⟩
  have he3 := he2.trans he3
  refine RL.ev rfl rfl (ev_arith rfl rfl rfl (b_xor _ _)) ?_
  refine RL.ev rfl rfl (ev_true (ev_eql rfl rfl) (by rw [join_xor])) ?_
  refine RL.ev rfl rfl ev_move ?_
  refine RL.onEv rfl rfl (by decide) rfl rfl ev_move ?_
  refine RL.onEv rfl rfl (by decide) rfl rfl ev_move ?_
  refine RL.on rfl rfl (by decide) rfl rfl (op_call3 Try.func24 rfl rfl rfl rfl rfl ((join_calls 0#32 b m _ (by omega) (by omega)).mono ?_))
  rintro _ w4 ⟨rfl, he4⟩
  have he4 := he3.trans he4
  refine RL.onEv rfl rfl (by decide) rfl rfl ev_move ?_
  refine RL.onEv rfl rfl (by decide) rfl rfl (ev_true (ev_eql rfl rfl) (by rw [join_none])) ?_
  refine RL.ev rfl rfl (ev_pickT rfl) ?_
  refine RL.ev rfl rfl ev_move ?_
  refine RL.onEv rfl rfl (by decide) rfl rfl ev_move ?_
  refine RL.onEv rfl rfl (by decide) rfl rfl ev_move ?_
  refine RL.onEv rfl rfl (by decide) rfl rfl ev_move ?_
  refine RL.on rfl rfl (by decide) rfl rfl (op_call3 Try.func24 rfl rfl rfl rfl rfl ((join_calls b 0#32 m _ (by omega) (by omega)).mono ?_))
  rintro _ w5 ⟨rfl, he5⟩
  have he5 := he4.trans he5
  refine RL.onEv rfl rfl (by decide) rfl rfl ev_move ?_
  refine RL.on rfl rfl (by decide) rfl rfl (op_call3 Try.func24 rfl rfl rfl rfl rfl ((join_calls a (join b 0#32 m) m _ (by omega) (by omega)).mono ?_))
  rintro _ w6 ⟨rfl, he6⟩
  have he6 := he5.trans he6
  refine RL.onEv rfl rfl (by decide) rfl rfl ev_move ?_
  refine RL.onEv rfl rfl (by decide) rfl rfl ev_move ?_
  refine RL.onEv rfl rfl (by decide) rfl rfl (ev_arith rfl rfl rfl (b_xor _ _)) ?_
  refine RL.onEv rfl rfl (by decide) rfl rfl ev_move ?_
  refine RL.on rfl rfl (by decide) rfl rfl (op_call3 Try.func24 rfl rfl rfl rfl rfl ((join_calls (a ^^^ b) 0#32 m _ (by omega) (by omega)).mono ?_))
  rintro _ w7 ⟨rfl, he7⟩
  have he7 := he6.trans he7
  refine RL.onEv rfl rfl (by decide) rfl rfl (ev_true (ev_eql rfl rfl) (by rw [join_in])) ?_
  refine RL.ev rfl rfl (ev_pickT rfl) ?_
  refine RL.ev rfl rfl ev_move ?_
  refine RL.on rfl rfl (by decide) rfl rfl (op_call0 Try.func11 rfl rfl ((known_calls _).mono ?_))
  rintro _ wk ⟨rfl, hek⟩
  refine RL.ev rfl rfl (ev_pickT rfl) ?_
  refine RL.ev rfl rfl ev_assign ?_
  refine RL.nil ?_
  refine thenN ?_
  refine RW.ret ?_
  refine retI (RV.tmp rfl) ?_
  exact ⟨rfl, he7.trans hek⟩

end Go.Proofs.Ythgojfmcjbieiaa
