import Derived.Test.YtlblpiapeieofaaDiskW2
set_option linter.unusedVariables false
set_option linter.unusedSimpArgs false
namespace Go.Proofs.Ytlblpiapeieofaa
open Go.RowKit Go.Rl

open Go.Disk
set_option maxHeartbeats 4000000 in
set_option maxRecDepth 100000 in
/-- (*postroad/disk.Disk).Size -/
theorem size_calls (g : Nat) (d : Dk) (n : Nat) (w : World) (hD : DkR 64 71 w g d) (hfit : Fits n d) (hn : n ≤ 1048576) : Gives Try.prog 24 #[.pointer (some ⟨g, 0, none⟩)] w fun r w' => r = .int .i64 ((size d.fs : Nat) : Int) ∧ Ext w w' := by
  refine Gives.start Try.func24 rfl (Nat.le_of_ble_eq_true rfl) ?_
  rw [args1]
  have hN := Now.nil w none_
  obtain ⟨m, rs, clock, hD⟩ := hD
  have hw := hD.well
  have hrl := hw.length
  have hfs := hfit.size
  have hfr := hfit.room
  have hfl := hfit.loose
  have hff := hfit.files
  refine RW.seq ?_
  refine RW.region ?_
  refine RL.ev rfl rfl ev_assign ?_
  refine RL.nil ?_
  refine thenN ?_
  refine RW.seq ?_
  refine RW.seq ?_
  refine RW.region ?_
  refine RL.ev rfl rfl ev_move ?_
  refine RL.ev rfl rfl (ev_false (ev_isNil Try.underlying27 rfl rfl) (by simp)) ?_
  refine RL.nil ?_
  refine thenN ?_
  refine RW.condF rfl ?_
  refine RW.skip ?_
  refine thenN ?_
  refine RW.seq ?_
  refine RW.region ?_
  refine RL.ev rfl rfl ev_assign ?_
  refine RL.nil ?_
  refine thenN ?_
  refine RW.seq ?_
  refine RW.seq ?_
  refine RW.region ?_
  refine RL.ev rfl rfl ev_move ?_
  refine RL.ev rfl rfl (ev_nilCheck rfl) ?_
  refine RL.ev rfl rfl (ev_fieldAddr Try.underlying64 rfl sz62 (by decide) rfl) ?_
  refine RL.ev rfl rfl (ev_loadB Try.underlying62 rfl rfl (hD.blk.ext hN.ext0) rfl) ?_
  refine RL.op rfl rfl (opN_range Try.underlying62 (hN.ext0.heap hD.mp id) rfl hN ?_)
  intro g1 w1 hN_
  clear hN
  have hN : Now w none_ w1 [_] := hN_
  clear hN_
  refine RL.nil ?_
  refine thenN ?_
  refine RW.block ?_
  refine RW.loop (fun k R0 w0' => ∃ z : Int, ∃ dn : List Rec, ∃ lf : List Rec, ∃ c0 : Nat, R0 3 = .int .i64 (z) ∧ R0 12 = .pointer (some ⟨g1, 0, none⟩) ∧ Now w none_ w0' [.iter g1 m clock ((dn.map Rec.ent).map (·.2.2)) c0] ∧ (rs.Perm (dn ++ lf)) ∧ (k = lf.length) ∧ (clock ≤ c0) ∧ (z = (size (dn.map Rec.fil) : Nat))) (rs.length) ?_ ?_
  · skip
    exact ⟨0, [], rs, clock, rfl, rfl, hN, .refl _, rfl, Nat.le_refl _, rfl⟩
  · skip
    clear hN
    rintro k R0 w0' ⟨z, dn, lf, c0, hr3_, hr12_, hN, hp, hk, hc, hz⟩
    have hR_ : ∃ R0_, R0 = (upd (upd R0_ 3 _) 12 _) := ⟨R0, by rw [upd_self hr3_, upd_self hr12_]⟩
    obtain ⟨R0_, rfl⟩ := hR_
    clear hr3_ hr12_
    refine RW.seq ?_
    refine RW.region ?_
    refine RL.op rfl rfl (opN_nextR hN 0 rfl (hN.ext0.heap hD.mp id) rfl hp hw hc ?_ ?_)
    · skip
      intro hlf
      refine RL.ev rfl rfl (ev_extract rfl rfl) ?_
      refine RL.nil ?_
      refine thenN ?_
      refine RW.seq ?_
      refine RW.condF rfl ?_
      refine RW.exit ?_
      refine thenX ?_
      refine thenX ?_
      refine blockHit ?_
      refine thenN ?_
      refine RW.seq ?_
      have hsp := hw.size hp
      subst hlf
      have he_ : size (([] : List Rec).map Rec.fil) = 0 := rfl
      refine RW.region ?_
      refine RL.ev rfl rfl ev_move ?_
      refine RL.ev rfl rfl ev_assign ?_
      refine RL.nil ?_
      refine thenN ?_
      refine RW.ret ?_
      refine retI (RV.tmp rfl) ?_
      exact ⟨congrArg (Value.int .i64) (by omega), hN.ext0⟩
    · skip
      rintro r l1 l2 hlf w2 hN_
      clear hN
      have hN : Now w none_ w2 [_] := hN_
      clear hN_
      have hrm := mem_next hp hlf
      have hkl := len_next hlf
      have hpn := perm_next hp hlf
      have hOb_ := hD.file r hrm
      obtain ⟨h0, h1, hs, hb3, hf3, hw3, hel3⟩ := hOb_
      have hln := hfit.fileLen hw hrm
      have hlw := hfit.fileWs hn hw hrm
      have hlh := hel3.1
      refine RL.ev rfl rfl (ev_extract rfl rfl) ?_
      refine RL.nil ?_
      refine thenN ?_
      refine RW.seq ?_
      refine RW.condT rfl ?_
      refine RW.skip ?_
      refine thenN ?_
      refine RW.block ?_
      refine RW.seq ?_
      refine RW.region ?_
      refine RL.ev rfl rfl (ev_entryR (dn := dn) (r := r) (hN.iterAt 0 rfl) (hN.ext0.heap hD.mp id) rfl hrm hw) ?_
      refine RL.ev rfl rfl (ev_extract rfl rfl) ?_
      refine RL.ev rfl rfl ev_assign ?_
      refine RL.nil ?_
      refine thenN ?_
      refine RW.region ?_
      refine RL.ev rfl rfl ev_move ?_
      refine RL.ev rfl rfl ev_move ?_
      refine RL.op rfl rfl (op_call1 Try.func32 rfl rfl rfl ((all_calls r.ptr _ _ _ r.firm r.ws _ (hb3.ext hN.ext0) (hf3.ext hN.ext0) (hw3.ext hN.ext0) (hel3.ext hN.ext0) hln hlw).mono ?_))
      rintro v4 w4 ⟨ho_, he_⟩
      have hN_ := hN.pushOwn (l := (r.firm ++ r.ws.flatten)) ho_ he_
      clear ho_ he_
      clear hN
      have hN : Now w none_ w4 [_, _] := hN_
      clear hN_
      have hL_5 := (hN.sl 0 rfl).len_le
      refine RL.ev rfl rfl (ev_lenS Try.underlying23 (hN.sl 0 rfl) rfl) ?_
      have hsn := size_snoc dn r
      have hsp := hw.size hpn
      refine RL.ev rfl rfl (ev_arith rfl rfl rfl (add64 (by omega) (by omega))) ?_
      refine RL.ev rfl rfl ev_assign ?_
      refine RL.nil ?_
      refine blockN ?_
      refine thenN ?_
      exact ⟨(l1 ++ l2).length, by omega, (z) + ((((r.firm ++ r.ws.flatten)).length : Int)), dn ++ [r], l1 ++ l2, clock, rfl, rfl, (hN.sub [1] (by decide) rfl), hpn, rfl, Nat.le_refl _, by rw [hsn, hz]; omega⟩

set_option maxHeartbeats 4000000 in
set_option maxRecDepth 100000 in
/-- (*postroad/disk.Disk).Loose -/
theorem loose_calls (g : Nat) (d : Dk) (n : Nat) (w : World) (hD : DkR 64 71 w g d) (hfit : Fits n d) (hn : n ≤ 1048576) : Gives Try.prog 25 #[.pointer (some ⟨g, 0, none⟩)] w fun r w' => r = .int .i64 ((loose d.fs : Nat) : Int) ∧ Ext w w' := by
  refine Gives.start Try.func25 rfl (Nat.le_of_ble_eq_true rfl) ?_
  rw [args1]
  have hN := Now.nil w none_
  obtain ⟨m, rs, clock, hD⟩ := hD
  have hw := hD.well
  have hrl := hw.length
  have hfs := hfit.size
  have hfr := hfit.room
  have hfl := hfit.loose
  have hff := hfit.files
  refine RW.seq ?_
  refine RW.region ?_
  refine RL.ev rfl rfl ev_assign ?_
  refine RL.nil ?_
  refine thenN ?_
  refine RW.seq ?_
  refine RW.seq ?_
  refine RW.region ?_
  refine RL.ev rfl rfl ev_move ?_
  refine RL.ev rfl rfl (ev_false (ev_isNil Try.underlying27 rfl rfl) (by simp)) ?_
  refine RL.nil ?_
  refine thenN ?_
  refine RW.condF rfl ?_
  refine RW.skip ?_
  refine thenN ?_
  refine RW.seq ?_
  refine RW.region ?_
  refine RL.ev rfl rfl ev_assign ?_
  refine RL.nil ?_
  refine thenN ?_
  refine RW.seq ?_
  refine RW.seq ?_
  refine RW.region ?_
  refine RL.ev rfl rfl ev_move ?_
  refine RL.ev rfl rfl (ev_nilCheck rfl) ?_
  refine RL.ev rfl rfl (ev_fieldAddr Try.underlying64 rfl sz62 (by decide) rfl) ?_
  refine RL.ev rfl rfl (ev_loadB Try.underlying62 rfl rfl (hD.blk.ext hN.ext0) rfl) ?_
  refine RL.op rfl rfl (opN_range Try.underlying62 (hN.ext0.heap hD.mp id) rfl hN ?_)
  intro g1 w1 hN_
  clear hN
  have hN : Now w none_ w1 [_] := hN_
  clear hN_
  refine RL.nil ?_
  refine thenN ?_
  refine RW.block ?_
  refine RW.loop (fun k R0 w0' => ∃ z : Int, ∃ dn : List Rec, ∃ lf : List Rec, ∃ c0 : Nat, R0 3 = .int .i64 (z) ∧ R0 12 = .pointer (some ⟨g1, 0, none⟩) ∧ Now w none_ w0' [.iter g1 m clock ((dn.map Rec.ent).map (·.2.2)) c0] ∧ (rs.Perm (dn ++ lf)) ∧ (k = lf.length) ∧ (clock ≤ c0) ∧ (z = (loose (dn.map Rec.fil) : Nat))) (rs.length) ?_ ?_
  · skip
    exact ⟨0, [], rs, clock, rfl, rfl, hN, .refl _, rfl, Nat.le_refl _, rfl⟩
  · skip
    clear hN
    rintro k R0 w0' ⟨z, dn, lf, c0, hr3_, hr12_, hN, hp, hk, hc, hz⟩
    have hR_ : ∃ R0_, R0 = (upd (upd R0_ 3 _) 12 _) := ⟨R0, by rw [upd_self hr3_, upd_self hr12_]⟩
    obtain ⟨R0_, rfl⟩ := hR_
    clear hr3_ hr12_
    refine RW.seq ?_
    refine RW.region ?_
    refine RL.op rfl rfl (opN_nextR hN 0 rfl (hN.ext0.heap hD.mp id) rfl hp hw hc ?_ ?_)
    · skip
      intro hlf
      refine RL.ev rfl rfl (ev_extract rfl rfl) ?_
      refine RL.nil ?_
      refine thenN ?_
      refine RW.seq ?_
      refine RW.condF rfl ?_
      refine RW.exit ?_
      refine thenX ?_
      refine thenX ?_
      refine blockHit ?_
      refine thenN ?_
      refine RW.seq ?_
      have hsp := hw.loose hp
      subst hlf
      have he_ : loose (([] : List Rec).map Rec.fil) = 0 := rfl
      refine RW.region ?_
      refine RL.ev rfl rfl ev_move ?_
      refine RL.ev rfl rfl ev_assign ?_
      refine RL.nil ?_
      refine thenN ?_
      refine RW.ret ?_
      refine retI (RV.tmp rfl) ?_
      exact ⟨congrArg (Value.int .i64) (by omega), hN.ext0⟩
    · skip
      rintro r l1 l2 hlf w2 hN_
      clear hN
      have hN : Now w none_ w2 [_] := hN_
      clear hN_
      have hrm := mem_next hp hlf
      have hkl := len_next hlf
      have hpn := perm_next hp hlf
      have hOb_ := hD.file r hrm
      obtain ⟨h0, h1, hs, hb3, hf3, hw3, hel3⟩ := hOb_
      have hln := hfit.fileLen hw hrm
      have hlw := hfit.fileWs hn hw hrm
      have hlh := hel3.1
      refine RL.ev rfl rfl (ev_extract rfl rfl) ?_
      refine RL.nil ?_
      refine thenN ?_
      refine RW.seq ?_
      refine RW.condT rfl ?_
      refine RW.skip ?_
      refine thenN ?_
      refine RW.block ?_
      refine RW.seq ?_
      refine RW.region ?_
      refine RL.ev rfl rfl (ev_entryR (dn := dn) (r := r) (hN.iterAt 0 rfl) (hN.ext0.heap hD.mp id) rfl hrm hw) ?_
      refine RL.ev rfl rfl (ev_extract rfl rfl) ?_
      refine RL.ev rfl rfl ev_assign ?_
      refine RL.nil ?_
      refine thenN ?_
      refine RW.region ?_
      refine RL.ev rfl rfl ev_move ?_
      refine RL.ev rfl rfl ev_move ?_
      refine RL.ev rfl rfl (ev_nilCheck rfl) ?_
      refine RL.ev rfl rfl (ev_fieldAddr Try.underlying71 rfl sz69 (by decide) rfl) ?_
      refine RL.ev rfl rfl (ev_loadB Try.underlying69 rfl rfl (hb3.ext hN.ext0) rfl) ?_
      have hL_4 := (hw3.ext hN.ext0).len_le
      refine RL.ev rfl rfl (ev_lenS Try.underlying69 (hw3.ext hN.ext0) rfl) ?_
      have hsn := loose_snoc dn r
      have hsp := hw.loose hpn
      refine RL.ev rfl rfl (ev_arith rfl rfl rfl (add64 (by omega) (by omega))) ?_
      refine RL.ev rfl rfl ev_assign ?_
      refine RL.nil ?_
      refine blockN ?_
      refine thenN ?_
      exact ⟨(l1 ++ l2).length, by omega, z + (hs.length : Int), dn ++ [r], l1 ++ l2, clock, rfl, rfl, hN, hpn, rfl, Nat.le_refl _, by rw [hsn, hz]; omega⟩

theorem keys_calls (m : Nat) (w : World) : Gives Try.prog 34 #[.map (some m)] w fun r w' => r = .func (.func 47) #[] #[.pointer (some ⟨w.heap.size, 0, none⟩)] ∧ w' = w.alloc (.cells #[.map (some m)] 62) :=
  Calls.mono (callsIn_wide.1 (maps_Keys_34 (some m) w)) fun e w' h => ⟨_, h.1, rfl, h.2⟩
theorem sorted_calls (d : Dk) (m n clock : Nat) (rs : List Rec) (w : World) (hw : Well rs clock d) (hb : w.heap[m]? = some (.map (ents str (rs.map Rec.ent)) clock)) (hfit : Fits n d) (hn : n ≤ 1048576) :
    Gives Try.prog 33 #[.func (.func 47) #[] #[.pointer (some ⟨w.heap.size, 0, none⟩)]] (w.alloc (.cells #[.map (some m)] 62)) fun r w' => Own str 9 w' (w.alloc (.cells #[.map (some m)] 62)).heap.size r (names d.fs) ∧ Ext (w.alloc (.cells #[.map (some m)] 62)) w' := by
  obtain ⟨D0, h1, h2, h3⟩ := keys_own Unit Try.underlying9 hw hb hfit hn
  have hl := hw.length
  have hff := hfit.files
  refine Calls.mono (callsIn_wide.1 (slices_Sorted_keys_33_34 m rs.length D0 (unread Unit) w h1 (by rw [h2]; unfold maxLen; omega) (by rw [h2]; omega))) ?_
  rintro e w' ⟨v, ss, he, hp, ho, _, hB⟩
  have h4 := h3 ss hp
  rw [h4.1, h4.2] at ho
  exact ⟨v, he, ho, Ext.of_below hB⟩

set_option maxHeartbeats 4000000 in
set_option maxRecDepth 100000 in
/-- (*postroad/disk.Disk).Names -/
theorem names_calls (g : Nat) (d : Dk) (n : Nat) (w : World) (hD : DkR 64 71 w g d) (hfit : Fits n d) (hn : n ≤ 1048576) : Gives Try.prog 16 #[.pointer (some ⟨g, 0, none⟩)] w fun r w' => Own str 9 w' w.heap.size r (names d.fs) ∧ Ext w w' := by
  refine Gives.start Try.func16 rfl (Nat.le_of_ble_eq_true rfl) ?_
  rw [args1]
  have hN := Now.nil w none_
  obtain ⟨m, rs, clock, hD⟩ := hD
  have hw := hD.well
  have hrl := hw.length
  have hfs := hfit.size
  have hfr := hfit.room
  have hfl := hfit.loose
  have hff := hfit.files
  refine RW.seq ?_
  refine RW.region ?_
  refine RL.ev rfl rfl ev_assign ?_
  refine RL.nil ?_
  refine thenN ?_
  refine RW.seq ?_
  refine RW.seq ?_
  refine RW.region ?_
  refine RL.ev rfl rfl ev_move ?_
  refine RL.ev rfl rfl (ev_false (ev_isNil Try.underlying27 rfl rfl) (by simp)) ?_
  refine RL.nil ?_
  refine thenN ?_
  refine RW.condF rfl ?_
  refine RW.skip ?_
  refine thenN ?_
  refine RW.seq ?_
  refine RW.region ?_
  refine RL.ev rfl rfl ev_move ?_
  refine RL.ev rfl rfl (ev_nilCheck rfl) ?_
  refine RL.ev rfl rfl (ev_fieldAddr Try.underlying64 rfl sz62 (by decide) rfl) ?_
  refine RL.ev rfl rfl (ev_loadB Try.underlying62 rfl rfl (hD.blk.ext hN.ext0) rfl) ?_
  refine RL.op rfl rfl (op_call1 Try.func34 rfl rfl rfl ((keys_calls m _).mono ?_))
  rintro _ _ ⟨rfl, rfl⟩
  refine RL.op rfl rfl (op_call1 Try.func33 rfl rfl rfl ((sorted_calls d m n clock rs _ hw hD.mp hfit hn).mono ?_))
  rintro v5 w5 ⟨ho_, he_⟩
  replace hN := (hN.ext (Ext.alloc _ _)).pushOwn ho_ he_
  clear ho_ he_
  refine RL.ev rfl rfl ev_assign ?_
  refine RL.nil ?_
  refine thenN ?_
  refine RW.ret ?_
  refine retI (RV.tmp rfl) ?_
  exact ⟨hN.ownOut 0 rfl, hN.ext0⟩

set_option maxHeartbeats 4000000 in
set_option maxRecDepth 100000 in
/-- (*postroad/disk.Disk).Read -/
theorem read_calls (g : Nat) (d : Dk) (l : List UInt8) (n : Nat) (w : World) (hD : DkR 64 71 w g d) (hfit : Fits n d) (hn : n ≤ 1048576) (res : Bs × Int) (hres : read d l = res) : Gives Try.prog 15 #[.pointer (some ⟨g, 0, none⟩), (str l)] w fun r w' => ∃ v, r = .tuple #[v, .int .i64 res.2] ∧ Own vb 5 w' w.heap.size v res.1 ∧ Ext w w' := by
  refine Gives.start Try.func15 rfl (Nat.le_of_ble_eq_true rfl) ?_
  rw [args2]
  have hN := Now.nil w none_
  obtain ⟨m, rs, clock, hD⟩ := hD
  have hw := hD.well
  have hrl := hw.length
  have hfs := hfit.size
  have hfr := hfit.room
  have hfl := hfit.loose
  have hff := hfit.files
  refine RW.seq ?_
  refine RW.region ?_
  refine RL.ev rfl rfl ev_assign ?_
  refine RL.ev rfl rfl ev_assign ?_
  refine RL.nil ?_
  refine thenN ?_
  refine RW.seq ?_
  refine RW.seq ?_
  refine RW.region ?_
  refine RL.ev rfl rfl ev_move ?_
  refine RL.ev rfl rfl (ev_false (ev_isNil Try.underlying27 rfl rfl) (by simp)) ?_
  refine RL.nil ?_
  refine thenN ?_
  refine RW.condF rfl ?_
  refine RW.skip ?_
  refine thenN ?_
  refine RW.seq ?_
  refine RW.region ?_
  refine RL.ev rfl rfl ev_move ?_
  refine RL.ev rfl rfl (ev_nilCheck rfl) ?_
  refine RL.ev rfl rfl (ev_fieldAddr Try.underlying64 rfl sz62 (by decide) rfl) ?_
  refine RL.ev rfl rfl (ev_loadB Try.underlying62 rfl rfl (hD.blk.ext hN.ext0) rfl) ?_
  refine RL.ev rfl rfl ev_move ?_
  have hOb_ := opt_cases (find l d.fs)
  rcases hOb_ with hfd | ⟨f, hfd⟩
  · skip
    have hr_ : res = ([], 4) := by rw [← hres]; unfold Disk.read; rw [hfd]
    subst hr_
    refine RL.ev rfl rfl (ev_lookF Try.underlying62 (ke_str Try.underlying9) zero66 (hN.ext0.heap hD.mp id) rfl rfl (hw.kNone hfd)) ?_
    refine RL.ev rfl rfl ev_move ?_
    refine RL.ev rfl rfl (ev_extract rfl rfl) ?_
    refine RL.ev rfl rfl (ev_extract rfl rfl) ?_
    refine RL.ev rfl rfl ev_assign ?_
    refine RL.ev rfl rfl ev_assign ?_
    refine RL.nil ?_
    refine thenN ?_
    refine RW.seq ?_
    refine RW.seq ?_
    refine RW.region ?_
    refine RL.ev rfl rfl ev_move ?_
    refine RL.ev rfl rfl (ev_not rfl) ?_
    refine RL.nil ?_
    refine thenN ?_
    refine RW.condT rfl ?_
    refine RW.seq ?_
    refine RW.region ?_
    refine RL.ev rfl rfl ev_assign ?_
    refine RL.ev rfl rfl ev_assign ?_
    refine RL.nil ?_
    refine thenN ?_
    refine RW.ret ?_
    refine thenR ?_
    refine retI (RV.tmp2 rfl) ?_
    exact ⟨_, rfl, Own.nil _ _ _ _, hN.ext0⟩
  · skip
    have hOb_ := hw.kSome hfd
    obtain ⟨i, r, hi, hrf, hrn, hk⟩ := hOb_
    have hrm := List.mem_of_getElem? hi
    have hOb_ := hD.file r hrm
    obtain ⟨h0, h1, hs, hb1, hf1, hw1, hel1⟩ := hOb_
    have hln := hfit.fileLen hw hrm
    have hlw := hfit.fileWs hn hw hrm
    have hlh := hel1.1
    have hr_ : res = (r.firm ++ r.ws.flatten, 0) := by rw [← hres]; unfold Disk.read; rw [hfd, ← hrf]; rfl
    subst hr_
    refine RL.ev rfl rfl (ev_lookT (v := .pointer (some ⟨r.ptr, 0, none⟩)) Try.underlying62 (ke_str Try.underlying9) (hN.ext0.heap hD.mp id) rfl rfl hk) ?_
    refine RL.ev rfl rfl ev_move ?_
    refine RL.ev rfl rfl (ev_extract rfl rfl) ?_
    refine RL.ev rfl rfl (ev_extract rfl rfl) ?_
    refine RL.ev rfl rfl ev_assign ?_
    refine RL.ev rfl rfl ev_assign ?_
    refine RL.nil ?_
    refine thenN ?_
    refine RW.seq ?_
    refine RW.seq ?_
    refine RW.region ?_
    refine RL.ev rfl rfl ev_move ?_
    refine RL.ev rfl rfl (ev_not rfl) ?_
    refine RL.nil ?_
    refine thenN ?_
    refine RW.condF rfl ?_
    refine RW.skip ?_
    refine thenN ?_
    refine RW.seq ?_
    refine RW.region ?_
    refine RL.ev rfl rfl ev_move ?_
    refine RL.op rfl rfl (op_call1 Try.func32 rfl rfl rfl ((all_calls r.ptr _ _ _ r.firm r.ws _ (hb1.ext hN.ext0) (hf1.ext hN.ext0) (hw1.ext hN.ext0) (hel1.ext hN.ext0) hln hlw).mono ?_))
    rintro v2 w2 ⟨ho_, he_⟩
    have hN_ := hN.pushOwn (l := (r.firm ++ r.ws.flatten)) ho_ he_
    clear ho_ he_
    clear hN
    have hN : Now w none_ w2 [_] := hN_
    clear hN_
    refine RL.ev rfl rfl ev_assign ?_
    refine RL.ev rfl rfl ev_assign ?_
    refine RL.nil ?_
    refine thenN ?_
    refine RW.ret ?_
    refine retI (RV.tmp2 rfl) ?_
    exact ⟨_, rfl, hN.ownOut 0 rfl, hN.ext0⟩

end Go.Proofs.Ytlblpiapeieofaa
