import Derived.Test.YtlblpiapeieofaaDiskW6
set_option linter.unusedVariables false
set_option linter.unusedSimpArgs false
namespace Go.Proofs.Ytlblpiapeieofaa
open Go.RowKit Go.Rl

open Go.Disk
set_option maxHeartbeats 4000000 in
set_option maxRecDepth 100000 in
/-- postroad/disk.Run -/
theorem run_calls (g : Nat) (d : Dk) (B : Nat → Prop) (n : Nat) (Lv : Value) (os : List OH) (xs : List Disk.Op) (w : World) (hN : Now w (foots [dskA 64 71 23 g d B]) w [dskA 64 71 23 g d B]) (hfit : Fits n d) (hn : n + xs.length ≤ 1048576) (hL : SmO (foots [dskA 64 71 23 g d B]) ocells w Lv os) (hel : OEls (foots [dskA 64 71 23 g d B]) w os xs) (hdl : ∀ x ∈ xs, x.data.length ≤ 1099511627776) (res : Dk × Nat) (hres : run d xs = res) : Gives Try.prog 13 #[.pointer (some ⟨g, 0, none⟩), Lv] w fun r w' => ∃ B', r = .int .i64 (res.2 : Int) ∧ Now w (foots [dskA 64 71 23 g d B]) w' [dskA 64 71 23 g res.1 B'] := by
  refine Gives.start Try.func13 rfl (Nat.le_of_ble_eq_true rfl) ?_
  rw [args2]
  have hle := hel.1
  refine RW.seq ?_
  refine RW.region ?_
  refine RL.ev rfl rfl ev_assign ?_
  refine RL.nil ?_
  refine thenN ?_
  refine RW.seq ?_
  refine RW.seq ?_
  refine RW.region ?_
  refine RL.ev rfl rfl ev_move ?_
  have hL_1 := (hL.now hN).len_le
  refine RL.ev rfl rfl (ev_lenM Try.underlying22 (hL.now hN) rfl) ?_
  refine RL.ev rfl rfl ev_move ?_
  refine RL.nil ?_
  refine thenN ?_
  refine RW.block ?_
  refine RW.loop (fun k R0 w0' => ∃ d2 : Dk, ∃ B2 : Nat → Prop, ∃ i : Nat, R0 0 = .pointer (some ⟨g, 0, none⟩) ∧ R0 1 = Lv ∧ R0 7 = Lv ∧ R0 8 = .int .i64 ((os.length : Int)) ∧ R0 9 = .int .i64 ((i : Int)) ∧ Now w (foots [dskA 64 71 23 g d B]) w0' [dskA 64 71 23 g d2 B2] ∧ (i + k = os.length) ∧ (Fits (n + i) d2) ∧ (run d xs = ((run d2 (xs.drop i)).1, (run d2 (xs.drop i)).2 + i))) (os.length) ?_ ?_
  · skip
    exact ⟨d, B, 0, rfl, rfl, rfl, rfl, rfl, hN, by omega, hfit, rfl⟩
  · skip
    clear hN
    rintro k R0 w0' ⟨d2, B2, i, hr0_, hr1_, hr7_, hr8_, hr9_, hN, hik, hfit2, hr⟩
    have hR_ : ∃ R0_, R0 = (upd (upd (upd (upd (upd R0_ 0 _) 1 _) 7 _) 8 _) 9 _) := ⟨R0, by rw [upd_self hr0_, upd_self hr1_, upd_self hr7_, upd_self hr8_, upd_self hr9_]⟩
    obtain ⟨R0_, rfl⟩ := hR_
    clear hr0_ hr1_ hr7_ hr8_ hr9_
    refine RW.seq ?_
    refine RW.region ?_
    refine RL.ev rfl rfl (ev_lss rfl rfl) ?_
    refine RL.nil ?_
    refine thenN ?_
    refine RW.seq ?_
    refine RW.condP _ rfl (fun hlt => ?_) (fun hlt => ?_)
    · skip
      refine RW.skip ?_
      refine thenN ?_
      refine RW.seq ?_
      refine RW.block ?_
      refine RW.seq ?_
      refine RW.region ?_
      refine RL.ev rfl rfl ev_move ?_
      refine RL.ev rfl rfl (ev_indexM Try.underlying22 sz33 ocells_len (by decide) (hL.now hN) rfl rfl (by omega) (by omega)) ?_
      have hOb_ := OEls.get hel i (by omega)
      obtain ⟨xe, hxe, hae, hxse, hde⟩ := hOb_
      have hdle := hdl xe (List.mem_of_getElem? hxse)
      refine RL.ev rfl rfl (ev_loadM (m := i) (a := (xe.kind, xe.name, xe.to, hxe)) Try.underlying33 rfl sz33 ocells_len (by decide) (hL.now hN) rfl hae (cs := [.int .i64 (xe.kind), (str xe.name), (str xe.to), (vh hxe)]) rfl) ?_
      refine RL.op rfl rfl (opN_alloc (cs := [.int .i64 (0), .string ByteArray.empty, .string ByteArray.empty, .slice none 0 0]) zero33 rfl hN ?_)
      intro g2 w2 hN_
      clear hN
      have hN : Now w (foots [dskA 64 71 23 g d B]) w2 [_, _] := hN_
      clear hN_
      refine RL.ev rfl rfl ev_assign ?_
      refine RL.op rfl rfl (opN_storeAll (vs := [.int .i64 (xe.kind), (str xe.name), (str xe.to), (vh hxe)]) sz33 rfl rfl rfl (by intro u hu; simp only [List.mem_cons, List.not_mem_nil, or_false] at hu; rcases hu with rfl | rfl | rfl | rfl <;> first | rfl) hN 0 rfl rfl ?_)
      intro w3 hN_
      clear hN
      have hN : Now w (foots [dskA 64 71 23 g d B]) w3 [_, _] := hN_
      clear hN_
      have hdr : xs.drop i = xe :: xs.drop (i + 1) := by
        have hOb_ := List.getElem?_eq_some_iff.1 hxse
        obtain ⟨h1, h2⟩ := hOb_
        rw [List.drop_eq_getElem_cons h1, h2]
      refine RL.nil ?_
      refine thenN ?_
      refine RW.seq ?_
      refine RW.region ?_
      refine RL.ev rfl rfl ev_move ?_
      refine RL.ev rfl rfl (ev_loadAll (cs := [.int .i64 (xe.kind), (str xe.name), (str xe.to), (vh hxe)]) Try.underlying33 rfl sz33 rfl (hN.blk 0 rfl)) ?_
      refine RL.op rfl rfl (op_call2 Try.func14 rfl rfl rfl rfl ((do_calls g d2 B2 (n + i) xe hxe _ (hN.pickL (M := [_]) [1] (by decide) rfl) hfit2 (by omega) (SlO.at hde hN 1 rfl) hdle _ rfl).mono ?_))
      rintro _ w4 ⟨B4, rfl, hC_⟩
      have hN_ := Now.callA (M := [_]) (N := [_]) (hN.sub [1, 0] (by decide) rfl) hC_
      clear hC_
      clear hN
      have hN : Now w (foots [dskA 64 71 23 g d B]) w4 [_, _] := hN_
      clear hN_
      replace hN : Now w (foots [dskA 64 71 23 g d B]) w4 [dskA 64 71 23 g ((act d2 xe).1) B4, .blk g2 [.int .i64 (xe.kind), (str xe.name), (str xe.to), (vh hxe)] 33] := hN
      refine RL.ev rfl rfl (ev_neq rfl rfl) ?_
      refine RL.nil ?_
      refine thenN ?_
      refine RW.condP _ rfl (fun hbad => ?_) (fun hbad => ?_)
      · skip
        refine RW.seq ?_
        refine RW.region ?_
        refine RL.ev rfl rfl ev_move ?_
        refine RL.ev rfl rfl ev_assign ?_
        refine RL.nil ?_
        refine thenN ?_
        refine RW.ret ?_
        refine blockR ?_
        refine thenR ?_
        refine thenR ?_
        refine blockR ?_
        refine thenR ?_
        refine retI (RV.tmp rfl) ?_
        have hr_ : res = (d2, i) := by rw [← hres, hr, hdr, run_cons_err hbad, Nat.zero_add]
        subst hr_
        rw [act_err hbad] at hN
        exact ⟨_, rfl, hN.sub [0] (by decide) rfl⟩
      · skip
        refine RW.skip ?_
        refine blockN ?_
        refine thenN ?_
        refine RW.region ?_
        refine RL.ev rfl rfl (ev_arith rfl rfl rfl (add64 (by omega) (by omega))) ?_
        refine RL.ev rfl rfl ev_move ?_
        refine RL.nil ?_
        refine thenN ?_
        exact ⟨k - 1, by omega, (act d2 xe).1, B4, i + 1, rfl, rfl, rfl, rfl, rfl, (hN.sub [0] (by decide) rfl), by omega, (by rw [← Nat.add_assoc]; exact hfit2.act xe), by rw [hr, hdr, run_cons_ok (Decidable.not_not.1 hbad), Nat.add_assoc, Nat.add_comm 1 i]⟩
    · skip
      refine RW.exit ?_
      refine thenX ?_
      refine thenX ?_
      refine blockHit ?_
      refine thenN ?_
      refine RW.seq ?_
      refine RW.region ?_
      refine RL.ev rfl rfl ev_move ?_
      refine RL.ev rfl rfl (ev_lenM Try.underlying22 (hL.now hN) rfl) ?_
      refine RL.ev rfl rfl ev_assign ?_
      refine RL.nil ?_
      refine thenN ?_
      refine RW.ret ?_
      refine retI (RV.tmp rfl) ?_
      have hi_ : i = xs.length := by omega
      have hr_ : res = (d2, xs.length) := by rw [← hres, hr, hi_, List.drop_length]; simp [Disk.run]
      subst hr_
      exact ⟨_, congrArg (Value.int .i64) (by omega), hN.sub [0] (by decide) rfl⟩

end Go.Proofs.Ytlblpiapeieofaa
