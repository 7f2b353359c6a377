import Derived.Test.YtlblpiapeieofaaDiskW5
set_option linter.unusedVariables false
set_option linter.unusedSimpArgs false
namespace Go.Proofs.Ytlblpiapeieofaa
open Go.RowKit Go.Rl

open Go.Disk
set_option maxHeartbeats 4000000 in
set_option maxRecDepth 100000 in
/-- (*postroad/disk.Disk).Do -/
theorem do_nil (x : Disk.Op) (hx : Hd) (w : World) (hd : Sl vb w (vh hx) x.data) : Gives Try.prog 14 #[.pointer none, opV x hx] w fun r w' => r = .int .i64 1 ∧ Ext w w' := by
  unfold opV
  refine Gives.start Try.func14 rfl (Nat.le_of_ble_eq_true rfl) ?_
  rw [args2]
  have hN := Now.nil w none_
  refine RW.seq ?_
  refine RW.region ?_
  refine RL.op rfl rfl (opN_box (cs := [.int .i64 (x.kind), (str x.name), (str x.to), (vh hx)]) rfl rfl hN ?_)
  intro g1 w1 hN_
  clear hN
  have hN : Now w none_ w1 [_] := hN_
  clear hN_
  refine RL.ev rfl rfl ev_assign ?_
  refine RL.nil ?_
  refine thenN ?_
  refine RW.seq ?_
  refine RW.block ?_
  refine RW.seq ?_
  refine RW.region ?_
  refine RL.ev rfl rfl ev_move ?_
  refine RL.ev rfl rfl (ev_true (ev_isNil Try.underlying27 rfl rfl) rfl) ?_
  refine RL.ev rfl rfl ev_assign ?_
  refine RL.nil ?_
  refine thenN ?_
  refine RW.condT rfl ?_
  refine RW.seq ?_
  refine RW.region ?_
  refine RL.ev rfl rfl ev_assign ?_
  refine RL.nil ?_
  refine thenN ?_
  refine RW.ret ?_
  refine blockR ?_
  refine thenR ?_
  refine retI (RV.tmp rfl) ?_
  exact ⟨rfl, hN.ext0⟩

set_option maxHeartbeats 4000000 in
set_option maxRecDepth 100000 in
/-- (*postroad/disk.Disk).Do -/
theorem do_calls (g : Nat) (d : Dk) (B : Nat → Prop) (n : Nat) (x : Disk.Op) (hx : Hd) (w : World) (hN : Now w (foots [dskA 64 71 23 g d B]) w [dskA 64 71 23 g d B]) (hfit : Fits n d) (hn : n ≤ 1048576) (hdat : SlO (foots [dskA 64 71 23 g d B]) vb w (vh hx) x.data) (hdl : x.data.length ≤ 1099511627776) (res : Dk × Int) (hres : act d x = res) : Gives Try.prog 14 #[.pointer (some ⟨g, 0, none⟩), opV x hx] w fun r w' => ∃ B', r = .int .i64 res.2 ∧ Now w (foots [dskA 64 71 23 g d B]) w' [dskA 64 71 23 g res.1 B'] := by
  unfold opV
  refine Gives.start Try.func14 rfl (Nat.le_of_ble_eq_true rfl) ?_
  rw [args2]
  have hfs := hfit.size
  have hfr := hfit.room
  have hfl := hfit.loose
  have hff := hfit.files
  refine RW.seq ?_
  refine RW.region ?_
  refine RL.op rfl rfl (opN_box (cs := [.int .i64 (x.kind), (str x.name), (str x.to), (vh hx)]) rfl rfl hN ?_)
  intro g1 w1 hN_
  clear hN
  have hN : Now w (foots [dskA 64 71 23 g d B]) w1 [_, _] := hN_
  clear hN_
  refine RL.ev rfl rfl ev_assign ?_
  refine RL.nil ?_
  refine thenN ?_
  refine RW.seq ?_
  refine RW.block ?_
  refine RW.seq ?_
  by_cases hbad : badOp x
  · skip
    have hr_ : res = (d, 2) := by
      rw [← hres]
      unfold Disk.act
      rw [if_pos hbad]
    subst hr_
    refine RW.region ?_
    refine RL.ev rfl rfl ev_move ?_
    refine RL.ev rfl rfl (ev_false (ev_isNil Try.underlying27 rfl rfl) (by simp)) ?_
    refine RL.ev rfl rfl ev_assign ?_
    refine RL.nil ?_
    refine thenN ?_
    refine RW.condF rfl ?_
    refine RW.seq ?_
    refine RW.region ?_
    refine RL.ev rfl rfl (ev_fieldAddr Try.underlying33 rfl sz3 (by decide) rfl) ?_
    refine RL.ev rfl rfl (ev_loadB Try.underlying3 rfl rfl (hN.blk 0 rfl) rfl) ?_
    refine RL.ev rfl rfl (ev_lss rfl rfl) ?_
    refine RL.ev rfl rfl ev_move ?_
    by_cases hg3_3 : x.kind < 1
    · skip
      rw [decide_eq_true hg3_3]
      refine RL.off rfl rfl (by decide) rfl rfl ?_
      refine RL.off rfl rfl (by decide) rfl rfl ?_
      refine RL.off rfl rfl (by decide) rfl rfl ?_
      refine RL.ev rfl rfl (ev_pickT rfl) ?_
      refine RL.ev rfl rfl ev_move ?_
      refine RL.off rfl rfl (by decide) rfl rfl ?_
      refine RL.off rfl rfl (by decide) rfl rfl ?_
      refine RL.off rfl rfl (by decide) rfl rfl ?_
      refine RL.off rfl rfl (by decide) rfl rfl ?_
      refine RL.ev rfl rfl (ev_pickT rfl) ?_
      refine RL.ev rfl rfl ev_move ?_
      refine RL.off rfl rfl (by decide) rfl rfl ?_
      refine RL.off rfl rfl (by decide) rfl rfl ?_
      refine RL.off rfl rfl (by decide) rfl rfl ?_
      refine RL.off rfl rfl (by decide) rfl rfl ?_
      refine RL.offU rfl rfl (by decide) rfl rfl ?_
      refine RL.offU rfl rfl (by decide) rfl rfl ?_
      refine RL.offU rfl rfl (by decide) rfl rfl ?_
      refine RL.offU rfl rfl (by decide) rfl rfl ?_
      refine RL.off rfl rfl (by decide) rfl rfl ?_
      refine RL.ev rfl rfl (ev_pickT rfl) ?_
      refine RL.ev rfl rfl ev_assign ?_
      refine RL.nil ?_
      refine thenN ?_
      refine RW.condT rfl ?_
      refine RW.seq ?_
      refine RW.region ?_
      refine RL.ev rfl rfl ev_assign ?_
      refine RL.nil ?_
      refine thenN ?_
      refine RW.ret ?_
      refine blockR ?_
      refine thenR ?_
      refine retI (RV.tmp rfl) ?_
      exact ⟨B, rfl, hN.sub [1] (by decide) rfl⟩
    · skip
      rw [decide_eq_false hg3_3]
      refine RL.onEv rfl rfl (by decide) rfl rfl (ev_fieldAddr Try.underlying33 rfl sz3 (by decide) rfl) ?_
      refine RL.onEv rfl rfl (by decide) rfl rfl (ev_loadB Try.underlying3 rfl rfl (hN.blk 0 rfl) rfl) ?_
      refine RL.onEv rfl rfl (by decide) rfl rfl (ev_gtr rfl rfl) ?_
      refine RL.ev rfl rfl (ev_pickF rfl) ?_
      refine RL.ev rfl rfl ev_move ?_
      by_cases hg3_8 : 4 < x.kind
      · skip
        rw [decide_eq_true hg3_8]
        refine RL.off rfl rfl (by decide) rfl rfl ?_
        refine RL.off rfl rfl (by decide) rfl rfl ?_
        refine RL.off rfl rfl (by decide) rfl rfl ?_
        refine RL.off rfl rfl (by decide) rfl rfl ?_
        refine RL.ev rfl rfl (ev_pickT rfl) ?_
        refine RL.ev rfl rfl ev_move ?_
        refine RL.off rfl rfl (by decide) rfl rfl ?_
        refine RL.off rfl rfl (by decide) rfl rfl ?_
        refine RL.off rfl rfl (by decide) rfl rfl ?_
        refine RL.off rfl rfl (by decide) rfl rfl ?_
        refine RL.offU rfl rfl (by decide) rfl rfl ?_
        refine RL.offU rfl rfl (by decide) rfl rfl ?_
        refine RL.offU rfl rfl (by decide) rfl rfl ?_
        refine RL.offU rfl rfl (by decide) rfl rfl ?_
        refine RL.off rfl rfl (by decide) rfl rfl ?_
        refine RL.ev rfl rfl (ev_pickT rfl) ?_
        refine RL.ev rfl rfl ev_assign ?_
        refine RL.nil ?_
        refine thenN ?_
        refine RW.condT rfl ?_
        refine RW.seq ?_
        refine RW.region ?_
        refine RL.ev rfl rfl ev_assign ?_
        refine RL.nil ?_
        refine thenN ?_
        refine RW.ret ?_
        refine blockR ?_
        refine thenR ?_
        refine retI (RV.tmp rfl) ?_
        exact ⟨B, rfl, hN.sub [1] (by decide) rfl⟩
      · skip
        rw [decide_eq_false hg3_8]
        refine RL.onEv rfl rfl (by decide) rfl rfl (ev_fieldAddr Try.underlying33 rfl sz9 (by decide) rfl) ?_
        refine RL.onEv rfl rfl (by decide) rfl rfl (ev_loadB Try.underlying9 rfl rfl (hN.blk 0 rfl) rfl) ?_
        refine RL.on rfl rfl (by decide) rfl rfl (op_call1 Try.func30 rfl rfl rfl ((named_calls x.name _).mono ?_))
        rintro _ _ ⟨rfl, rfl⟩
        refine RL.onEv rfl rfl (by decide) rfl rfl (ev_notP rfl) ?_
        refine RL.ev rfl rfl (ev_pickF rfl) ?_
        refine RL.ev rfl rfl ev_move ?_
        by_cases hg3_14 : ¬ (Disk.named x.name)
        · skip
          rw [decide_eq_true hg3_14]
          refine RL.off rfl rfl (by decide) rfl rfl ?_
          refine RL.off rfl rfl (by decide) rfl rfl ?_
          refine RL.off rfl rfl (by decide) rfl rfl ?_
          refine RL.off rfl rfl (by decide) rfl rfl ?_
          refine RL.offU rfl rfl (by decide) rfl rfl ?_
          refine RL.offU rfl rfl (by decide) rfl rfl ?_
          refine RL.offU rfl rfl (by decide) rfl rfl ?_
          refine RL.offU rfl rfl (by decide) rfl rfl ?_
          refine RL.off rfl rfl (by decide) rfl rfl ?_
          refine RL.ev rfl rfl (ev_pickT rfl) ?_
          refine RL.ev rfl rfl ev_assign ?_
          refine RL.nil ?_
          refine thenN ?_
          refine RW.condT rfl ?_
          refine RW.seq ?_
          refine RW.region ?_
          refine RL.ev rfl rfl ev_assign ?_
          refine RL.nil ?_
          refine thenN ?_
          refine RW.ret ?_
          refine blockR ?_
          refine thenR ?_
          refine retI (RV.tmp rfl) ?_
          exact ⟨B, rfl, hN.sub [1] (by decide) rfl⟩
        · skip
          rw [decide_eq_false hg3_14]
          refine RL.onEv rfl rfl (by decide) rfl rfl (ev_fieldAddr Try.underlying33 rfl sz3 (by decide) rfl) ?_
          refine RL.onEv rfl rfl (by decide) rfl rfl (ev_loadB Try.underlying3 rfl rfl (hN.blk 0 rfl) rfl) ?_
          refine RL.onEv rfl rfl (by decide) rfl rfl (ev_eql rfl rfl) ?_
          refine RL.onEv rfl rfl (by decide) rfl rfl ev_move ?_
          by_cases hg3_18 : x.kind = 3
          · skip
            rw [decide_eq_true hg3_18]
            refine RL.onEv rfl rfl (by decide) rfl rfl (ev_fieldAddr Try.underlying33 rfl sz9 (by decide) rfl) ?_
            refine RL.onEv rfl rfl (by decide) rfl rfl (ev_loadB Try.underlying9 rfl rfl (hN.blk 0 rfl) rfl) ?_
            refine RL.on rfl rfl (by decide) rfl rfl (op_call1 Try.func30 rfl rfl rfl ((named_calls x.to _).mono ?_))
            rintro _ _ ⟨rfl, rfl⟩
            refine RL.onEv rfl rfl (by decide) rfl rfl (ev_notP rfl) ?_
            refine RL.onEv rfl rfl (by decide) rfl rfl (ev_pickT rfl) ?_
            refine RL.ev rfl rfl (ev_pickF rfl) ?_
            refine RL.ev rfl rfl ev_assign ?_
            refine RL.nil ?_
            refine thenN ?_
            refine RW.condP _ rfl (fun hc10 => ?_) (fun hc10 => ?_)
            · skip
              refine RW.seq ?_
              refine RW.region ?_
              refine RL.ev rfl rfl ev_assign ?_
              refine RL.nil ?_
              refine thenN ?_
              refine RW.ret ?_
              refine blockR ?_
              refine thenR ?_
              refine retI (RV.tmp rfl) ?_
              exact ⟨B, rfl, hN.sub [1] (by decide) rfl⟩
            · skip
              rcases hbad with h | h | h | ⟨h, h'⟩
              · exact absurd h hg3_3
              · exact absurd h hg3_8
              · exact absurd h hg3_14
              · exact absurd h' hc10 -- closed
          · skip
            rw [decide_eq_false hg3_18]
            refine RL.off rfl rfl (by decide) rfl rfl ?_
            refine RL.off rfl rfl (by decide) rfl rfl ?_
            refine RL.off rfl rfl (by decide) rfl rfl ?_
            refine RL.off rfl rfl (by decide) rfl rfl ?_
            refine RL.onEv rfl rfl (by decide) rfl rfl (ev_pickF rfl) ?_
            refine RL.ev rfl rfl (ev_pickF rfl) ?_
            refine RL.ev rfl rfl ev_assign ?_
            refine RL.nil ?_
            refine thenN ?_
            refine RW.condF rfl ?_
            refine RW.seq ?_
            rcases hbad with h | h | h | ⟨h, h'⟩
            · exact absurd h hg3_3
            · exact absurd h hg3_8
            · exact absurd h hg3_14
            · exact absurd h hg3_18
  · skip
    have hb1 : ¬ x.kind < 1 := fun h => hbad (.inl h)
    have hb2 : ¬ 4 < x.kind := fun h => hbad (.inr (.inl h))
    have hb3 : Disk.named x.name := Decidable.byContradiction fun h => hbad (.inr (.inr (.inl h)))
    have hb4 : x.kind = 3 → Disk.named x.to := fun h3 => Decidable.byContradiction fun h => hbad (.inr (.inr (.inr ⟨h3, h⟩)))
    refine RW.region ?_
    refine RL.ev rfl rfl ev_move ?_
    refine RL.ev rfl rfl (ev_false (ev_isNil Try.underlying27 rfl rfl) (by simp)) ?_
    refine RL.ev rfl rfl ev_assign ?_
    refine RL.nil ?_
    refine thenN ?_
    refine RW.condF rfl ?_
    refine RW.seq ?_
    refine RW.region ?_
    refine RL.ev rfl rfl (ev_fieldAddr Try.underlying33 rfl sz3 (by decide) rfl) ?_
    refine RL.ev rfl rfl (ev_loadB Try.underlying3 rfl rfl (hN.blk 0 rfl) rfl) ?_
    refine RL.ev rfl rfl (ev_false (ev_lss rfl rfl) hb1) ?_
    refine RL.ev rfl rfl ev_move ?_
    refine RL.onEv rfl rfl (by decide) rfl rfl (ev_fieldAddr Try.underlying33 rfl sz3 (by decide) rfl) ?_
    refine RL.onEv rfl rfl (by decide) rfl rfl (ev_loadB Try.underlying3 rfl rfl (hN.blk 0 rfl) rfl) ?_
    refine RL.onEv rfl rfl (by decide) rfl rfl (ev_false (ev_gtr rfl rfl) hb2) ?_
    refine RL.ev rfl rfl (ev_pickF rfl) ?_
    refine RL.ev rfl rfl ev_move ?_
    refine RL.onEv rfl rfl (by decide) rfl rfl (ev_fieldAddr Try.underlying33 rfl sz9 (by decide) rfl) ?_
    refine RL.onEv rfl rfl (by decide) rfl rfl (ev_loadB Try.underlying9 rfl rfl (hN.blk 0 rfl) rfl) ?_
    refine RL.on rfl rfl (by decide) rfl rfl (op_call1 Try.func30 rfl rfl rfl ((named_true x.name _ hb3).mono ?_))
    rintro _ _ ⟨rfl, rfl⟩
    refine RL.onEv rfl rfl (by decide) rfl rfl (ev_not rfl) ?_
    refine RL.ev rfl rfl (ev_pickF rfl) ?_
    refine RL.ev rfl rfl ev_move ?_
    refine RL.onEv rfl rfl (by decide) rfl rfl (ev_fieldAddr Try.underlying33 rfl sz3 (by decide) rfl) ?_
    refine RL.onEv rfl rfl (by decide) rfl rfl (ev_loadB Try.underlying3 rfl rfl (hN.blk 0 rfl) rfl) ?_
    refine RL.onEv rfl rfl (by decide) rfl rfl (ev_eql rfl rfl) ?_
    refine RL.onEv rfl rfl (by decide) rfl rfl ev_move ?_
    by_cases hg3_18 : x.kind = 3
    · skip
      rw [decide_eq_true hg3_18]
      refine RL.onEv rfl rfl (by decide) rfl rfl (ev_fieldAddr Try.underlying33 rfl sz9 (by decide) rfl) ?_
      refine RL.onEv rfl rfl (by decide) rfl rfl (ev_loadB Try.underlying9 rfl rfl (hN.blk 0 rfl) rfl) ?_
      refine RL.on rfl rfl (by decide) rfl rfl (op_call1 Try.func30 rfl rfl rfl ((named_true x.to _ (hb4 hg3_18)).mono ?_))
      rintro _ _ ⟨rfl, rfl⟩
      refine RL.onEv rfl rfl (by decide) rfl rfl (ev_not rfl) ?_
      refine RL.onEv rfl rfl (by decide) rfl rfl (ev_pickT rfl) ?_
      refine RL.ev rfl rfl (ev_pickF rfl) ?_
      refine RL.ev rfl rfl ev_assign ?_
      refine RL.nil ?_
      refine thenN ?_
      refine RW.condF rfl ?_
      refine RW.seq ?_
      refine RW.region ?_
      refine RL.ev rfl rfl (ev_fieldAddr Try.underlying33 rfl sz3 (by decide) rfl) ?_
      refine RL.ev rfl rfl (ev_loadB Try.underlying3 rfl rfl (hN.blk 0 rfl) rfl) ?_
      refine RL.ev rfl rfl (ev_eql rfl rfl) ?_
      refine RL.ev rfl rfl ev_assign ?_
      refine RL.nil ?_
      refine thenN ?_
      refine RW.condP _ rfl (fun hc36 => ?_) (fun hc36 => ?_)
      · skip
        refine RW.seq ?_
        refine RW.region ?_
        refine RL.ev rfl rfl ev_move ?_
        refine RL.ev rfl rfl (ev_loadAll (cs := [.int .i64 (x.kind), (str x.name), (str x.to), (vh hx)]) Try.underlying33 rfl sz33 rfl (hN.blk 0 rfl)) ?_
        refine RL.op rfl rfl (op_call2 Try.func31 rfl rfl rfl rfl ((write_calls _ d _ n x hx _ (hN.pickL (M := [_]) [1] (by decide) rfl) hfit hn (SlO.at hdat hN 1 rfl) hdl _ rfl hbad hc36).mono ?_))
        rintro _ w6 ⟨B6, rfl, hC_⟩
        have hN_ := Now.callA (M := [_]) (N := [_]) (hN.sub [1, 0] (by decide) rfl) hC_
        clear hC_
        clear hN
        have hN : Now w (foots [dskA 64 71 23 g d B]) w6 [_, _] := hN_
        clear hN_
        replace hN : Now w (foots [dskA 64 71 23 g d B]) w6 [dskA 64 71 23 g ((act d x).1) B6, .blk g1 [.int .i64 (x.kind), (str x.name), (str x.to), (vh hx)] 33] := hN
        refine RL.ev rfl rfl ev_assign ?_
        refine RL.nil ?_
        refine thenN ?_
        refine RW.ret ?_
        refine blockR ?_
        refine thenR ?_
        refine retI (RV.tmp rfl) ?_
        have hr_ : act d x = res := hres
        subst hr_
        exact ⟨_, rfl, hN.sub [0] (by decide) rfl⟩
      · skip
        refine RW.skip ?_
        refine blockN ?_
        refine thenN ?_
        refine RW.seq ?_
        replace hN := hN.sub (M := [dskA 64 71 23 g d B, .blk g1 [.int .i64 (x.kind), (str x.name), (str x.to), (vh hx)] 33]) [1, 0] (by decide) rfl
        have hN2_ := dsk_open (R := [_]) hN
        clear hN
        obtain ⟨m, rs, clock, Bf, hw, hN⟩ := hN2_
        replace hN : Now w (foots [dskA 64 71 23 g d B]) w1 [.blk g [.int .i64 (d.room), .map (some m)] 64, .mp str m (rs.map Rec.ent) (clock), .each (IsFile 71 23) Bf rs, .blk g1 [.int .i64 (x.kind), (str x.name), (str x.to), (vh hx)] 33] := hN
        have hrl := hw.length
        refine RW.draw rfl (fun u => Now w (foots [dskA 64 71 23 g d B]) u [.blk g [.int .i64 (d.room), .map (some m)] 64, .mp str m (rs.map Rec.ent) (clock), .each (IsFile 71 23) Bf rs, .blk g1 [.int .i64 (x.kind), (str x.name), (str x.to), (vh hx)] 33]) ?_
        replace hN := hN.ext (Ext.drew w1)
        refine RA.take (i := 0) rfl rfl (by kernel_rfl) (by kernel_rfl) (by kernel_rfl) (by intro _ _ _ h; exact h) rfl hN (fun w hS => ev_move) ?_
        refine RA.take (i := 1) rfl rfl (by kernel_rfl) (by kernel_rfl) (by kernel_rfl) (by intro _ _ _ h; exact h) rfl hN (fun w hS => (ev_nilCheck rfl)) ?_
        refine RA.take (i := 2) rfl rfl (by kernel_rfl) (by kernel_rfl) (by kernel_rfl) (by intro _ _ _ h; exact h) rfl hN (fun w hS => (ev_fieldAddr Try.underlying64 rfl sz62 (by decide) rfl)) ?_
        refine RA.take (i := 3) rfl rfl (by kernel_rfl) (by kernel_rfl) (by kernel_rfl) (by intro _ _ _ h; exact h) rfl hN (fun w hS => (ev_loadB Try.underlying62 rfl rfl (hS.blk 0 rfl) rfl)) ?_
        refine RA.take (i := 4) rfl rfl (by kernel_rfl) (by kernel_rfl) (by kernel_rfl) (by intro _ _ _ h; exact h) rfl hN (fun w hS => (ev_fieldAddr Try.underlying33 rfl sz9 (by decide) rfl)) ?_
        refine RA.take (i := 5) rfl rfl (by kernel_rfl) (by kernel_rfl) (by kernel_rfl) (by intro _ _ _ h; exact h) rfl hN (fun w hS => (ev_loadB Try.underlying9 rfl rfl (hS.blk 3 rfl) rfl)) ?_
        have hOb_ := opt_cases (find x.name d.fs)
        rcases hOb_ with hfd | ⟨f, hfd⟩
        · skip
          refine RA.take (i := 6) rfl rfl (by kernel_rfl) (by kernel_rfl) (by kernel_rfl) (by intro _ _ _ h; exact h) rfl hN (fun w hS => (ev_lookF Try.underlying62 (ke_str Try.underlying9) zero66 (hS.mp 1 rfl) rfl rfl (hw.kNone hfd))) ?_
          refine RA.take (i := 7) rfl rfl (by kernel_rfl) (by kernel_rfl) (by kernel_rfl) (by intro _ _ _ h; exact h) rfl hN (fun w hS => ev_move) ?_
          refine RA.take (i := 8) rfl rfl (by kernel_rfl) (by kernel_rfl) (by kernel_rfl) (by intro _ _ _ h; exact h) rfl hN (fun w hS => (ev_extract rfl rfl)) ?_
          refine RA.take (i := 9) rfl rfl (by kernel_rfl) (by kernel_rfl) (by kernel_rfl) (by intro _ _ _ h; exact h) rfl hN (fun w hS => (ev_extract rfl rfl)) ?_
          refine RA.take (i := 10) rfl rfl (by kernel_rfl) (by kernel_rfl) (by kernel_rfl) (by intro _ _ _ h; exact h) rfl hN (fun w hS => ev_assign) ?_
          refine RA.take (i := 11) rfl rfl (by kernel_rfl) (by kernel_rfl) (by kernel_rfl) (by intro _ _ _ h; exact h) rfl hN (fun w hS => ev_assign) ?_
          refine RA.done (by kernel_rfl) ?_
          refine thenN ?_
          refine RW.seq ?_
          refine RW.seq ?_
          refine RW.region ?_
          refine RL.ev rfl rfl ev_move ?_
          refine RL.ev rfl rfl (ev_not rfl) ?_
          refine RL.nil ?_
          refine thenN ?_
          refine RW.condT rfl ?_
          refine RW.seq ?_
          refine RW.region ?_
          refine RL.ev rfl rfl ev_assign ?_
          refine RL.nil ?_
          refine thenN ?_
          refine RW.ret ?_
          refine thenR ?_
          refine retI (RV.tmp rfl) ?_
          have hr_ : res = (d, 4) := by
            rw [← hres]
            unfold Disk.act
            rw [if_neg hbad, if_neg hc36, hfd]
            skip
          subst hr_
          replace hN := hN.sub (M := [.blk g [.int .i64 (d.room), .map (some m)] 64, .mp str m (rs.map Rec.ent) (clock), .each (IsFile 71 23) Bf rs, .blk g1 [.int .i64 (x.kind), (str x.name), (str x.to), (vh hx)] 33]) [0, 1, 2, 3] (by decide) rfl
          have hN2_ := dsk_close (Td := 64) (R := [_]) hw hN
          clear hN
          obtain ⟨B2, hN⟩ := hN2_
          exact ⟨B2, rfl, hN.sub [0] (by decide) rfl⟩
        · skip
          have hOb_ := hw.kSome hfd
          obtain ⟨i, r, hi, hrf, hrn, hk⟩ := hOb_
          have hrm := List.mem_of_getElem? hi
          have hln := hfit.fileLen hw hrm
          have hlw := hfit.fileWs hn hw hrm
          refine RA.take (i := 6) rfl rfl (by kernel_rfl) (by kernel_rfl) (by kernel_rfl) (by intro _ _ _ h; exact h) rfl hN (fun w hS => (ev_lookT (v := .pointer (some ⟨r.ptr, 0, none⟩)) Try.underlying62 (ke_str Try.underlying9) (hS.mp 1 rfl) rfl rfl hk)) ?_
          refine RA.take (i := 7) rfl rfl (by kernel_rfl) (by kernel_rfl) (by kernel_rfl) (by intro _ _ _ h; exact h) rfl hN (fun w hS => ev_move) ?_
          refine RA.take (i := 8) rfl rfl (by kernel_rfl) (by kernel_rfl) (by kernel_rfl) (by intro _ _ _ h; exact h) rfl hN (fun w hS => (ev_extract rfl rfl)) ?_
          refine RA.take (i := 9) rfl rfl (by kernel_rfl) (by kernel_rfl) (by kernel_rfl) (by intro _ _ _ h; exact h) rfl hN (fun w hS => (ev_extract rfl rfl)) ?_
          refine RA.take (i := 10) rfl rfl (by kernel_rfl) (by kernel_rfl) (by kernel_rfl) (by intro _ _ _ h; exact h) rfl hN (fun w hS => ev_assign) ?_
          refine RA.take (i := 11) rfl rfl (by kernel_rfl) (by kernel_rfl) (by kernel_rfl) (by intro _ _ _ h; exact h) rfl hN (fun w hS => ev_assign) ?_
          refine RA.done (by kernel_rfl) ?_
          refine thenN ?_
          refine RW.seq ?_
          refine RW.seq ?_
          refine RW.region ?_
          refine RL.ev rfl rfl ev_move ?_
          refine RL.ev rfl rfl (ev_not rfl) ?_
          refine RL.nil ?_
          refine thenN ?_
          refine RW.condF rfl ?_
          refine RW.skip ?_
          refine thenN ?_
          refine RW.seq ?_
          refine RW.seq ?_
          refine RW.region ?_
          refine RL.ev rfl rfl (ev_fieldAddr Try.underlying33 rfl sz3 (by decide) rfl) ?_
          refine RL.ev rfl rfl (ev_loadB Try.underlying3 rfl rfl (hN.blk 3 rfl) rfl) ?_
          refine RL.nil ?_
          refine thenN ?_
          refine RW.block ?_
          refine RW.seq ?_
          refine RW.region ?_
          refine RL.ev rfl rfl (ev_eql rfl rfl) ?_
          refine RL.ev rfl rfl ev_assign ?_
          refine RL.nil ?_
          refine thenN ?_
          refine RW.condP _ rfl (fun hc63 => ?_) (fun hc63 => ?_)
          · skip
            replace hN := hN.sub (M := [.each (IsFile 71 23) Bf rs, .blk g [.int .i64 (d.room), .map (some m)] 64, .mp str m (rs.map Rec.ent) (clock), .blk g1 [.int .i64 (x.kind), (str x.name), (str x.to), (vh hx)] 33]) [2, 0, 1, 3] (by decide) rfl
            have hN2_ := file_open (R := [_, _, _]) hi hN
            clear hN
            obtain ⟨h0, h1, hs, Bf1, hN⟩ := hN2_
            replace hN : Now w (foots [dskA 64 71 23 g d B]) w1.drew [.blk r.ptr [(vh h0), (vh h1)] 71, .sl vb ((vh h0)) (r.firm), .own vh 23 ((vh h1)) (hs), .fam vb (hs) (r.ws), .each (IsFile 71 23) Bf1 (rs.eraseIdx i), .blk g [.int .i64 (d.room), .map (some m)] 64, .mp str m (rs.map Rec.ent) (clock), .blk g1 [.int .i64 (x.kind), (str x.name), (str x.to), (vh hx)] 33] := hN
            have hlh := (hN.els 3 rfl).1
            refine RW.region ?_
            refine RL.ev rfl rfl ev_move ?_
            refine RL.ev rfl rfl ev_move ?_
            refine RL.ev rfl rfl ev_move ?_
            refine RL.op rfl rfl (op_call1 Try.func32 rfl rfl rfl ((all_calls r.ptr _ _ _ r.firm r.ws _ (hN.blk 0 rfl) (hN.slr 1 rfl) (hN.sl 2 rfl) (hN.els 3 rfl) hln hlw).mono ?_))
            rintro v8 w8 ⟨ho_, he_⟩
            have hN_ := hN.pushOwn (l := (r.firm ++ r.ws.flatten)) ho_ he_
            clear ho_ he_
            clear hN
            have hN : Now w (foots [dskA 64 71 23 g d B]) w8 [_, _, _, _, _, _, _, _, _] := hN_
            clear hN_
            refine RL.ev rfl rfl (ev_nilCheck rfl) ?_
            refine RL.ev rfl rfl (ev_fieldAddr Try.underlying71 rfl sz23 (by decide) rfl) ?_
            refine RL.op rfl rfl (opN_store sz23 rfl rfl (hN.sl 0 rfl).cells1 (hN.sl 0 rfl).one1 hN 1 rfl (Nat.le_of_ble_eq_true rfl) ?_)
            intro w9 hN_
            clear hN
            have hN : Now w (foots [dskA 64 71 23 g d B]) w9 [_, _, _, _, _, _, _, _, _] := hN_
            clear hN_
            refine RL.ev rfl rfl (ev_nilCheck rfl) ?_
            refine RL.ev rfl rfl (ev_fieldAddr Try.underlying71 rfl sz69 (by decide) rfl) ?_
            refine RL.op rfl rfl (opN_store sz69 rfl rfl rfl rfl hN 1 rfl (Nat.le_of_ble_eq_true rfl) ?_)
            intro w10 hN_
            clear hN
            have hN : Now w (foots [dskA 64 71 23 g d B]) w10 [_, _, _, _, _, _, _, _, _] := hN_
            clear hN_
            refine RL.nil ?_
            refine blockN ?_
            refine thenN ?_
            refine RW.seq ?_
            refine RW.region ?_
            refine RL.ev rfl rfl ev_assign ?_
            refine RL.nil ?_
            refine thenN ?_
            refine RW.ret ?_
            refine retI (RV.tmp rfl) ?_
            replace hN := hN.ownSl 0 rfl
            replace hN := hN.addNil vh 23
            replace hN := hN.famNil vb
            replace hN : Now w (foots [dskA 64 71 23 g d B]) w10 [.fam vb ([]) ([]), .own vh 23 (.slice none 0 0) ([]), .sl vb (v8) ((r.firm ++ r.ws.flatten)), .blk r.ptr [v8, .slice none 0 0] 71, .sl vb ((vh h0)) (r.firm), .own vh 23 ((vh h1)) (hs), .fam vb (hs) (r.ws), .each (IsFile 71 23) Bf1 (rs.eraseIdx i), .blk g [.int .i64 (d.room), .map (some m)] 64, .mp str m (rs.map Rec.ent) (clock), .blk g1 [.int .i64 (x.kind), (str x.name), (str x.to), (vh hx)] 33] := hN
            replace hN := hN.sub (M := [.blk r.ptr [v8, .slice none 0 0] 71, .sl vb (v8) ((r.firm ++ r.ws.flatten)), .own vh 23 (.slice none 0 0) ([]), .fam vb ([]) ([]), .each (IsFile 71 23) Bf1 (rs.eraseIdx i), .sl vb ((vh h0)) (r.firm), .own vh 23 ((vh h1)) (hs), .fam vb (hs) (r.ws), .blk g [.int .i64 (d.room), .map (some m)] 64, .mp str m (rs.map Rec.ent) (clock), .blk g1 [.int .i64 (x.kind), (str x.name), (str x.to), (vh hx)] 33]) [3, 2, 1, 0, 7, 4, 5, 6, 8, 9, 10] (by decide) rfl
            have hN2_ := file_in (r' := ⟨r.name, r.ptr, r.born, r.firm ++ r.ws.flatten, []⟩) (R := [_, _, _, _, _, _]) hi hN
            clear hN
            obtain ⟨Bf2, hN⟩ := hN2_
            rw [← ent_set (r' := ⟨r.name, r.ptr, r.born, r.firm ++ r.ws.flatten, []⟩) hi rfl] at hN
            replace hN : Now w (foots [dskA 64 71 23 g d B]) w10 [.each (IsFile 71 23) Bf2 (rs.set i ⟨r.name, r.ptr, r.born, r.firm ++ r.ws.flatten, []⟩), .sl vb ((vh h0)) (r.firm), .own vh 23 ((vh h1)) (hs), .fam vb (hs) (r.ws), .blk g [.int .i64 (d.room), .map (some m)] 64, .mp str m ((rs.set i ⟨r.name, r.ptr, r.born, r.firm ++ r.ws.flatten, []⟩).map Rec.ent) (clock), .blk g1 [.int .i64 (x.kind), (str x.name), (str x.to), (vh hx)] 33] := hN
            have hr_ : res = ((⟨d.room, putIn ⟨r.name, r.firm ++ r.ws.flatten, []⟩ d.fs⟩ : Dk), 0) := by
              rw [← hres]
              unfold Disk.act
              rw [if_neg hbad, if_neg hc36, hfd]
              rw [← hrf]; exact if_pos hc63
            subst hr_
            replace hN := hN.sub (M := [.blk g [.int .i64 (d.room), .map (some m)] 64, .mp str m ((rs.set i ⟨r.name, r.ptr, r.born, r.firm ++ r.ws.flatten, []⟩).map Rec.ent) (clock), .each (IsFile 71 23) Bf2 (rs.set i ⟨r.name, r.ptr, r.born, r.firm ++ r.ws.flatten, []⟩), .sl vb ((vh h0)) (r.firm), .own vh 23 ((vh h1)) (hs), .fam vb (hs) (r.ws), .blk g1 [.int .i64 (x.kind), (str x.name), (str x.to), (vh hx)] 33]) [4, 5, 0, 1, 2, 3, 6] (by decide) rfl
            have hN2_ := dsk_close (Td := 64) (R := [_, _, _, _]) (hw.set (firm := r.firm ++ r.ws.flatten) (ws := []) hi) hN
            clear hN
            obtain ⟨B2, hN⟩ := hN2_
            exact ⟨B2, rfl, hN.sub [0] (by decide) rfl⟩
          · skip
            refine RW.seq ?_
            refine RW.region ?_
            refine RL.ev rfl rfl (ev_eql rfl rfl) ?_
            refine RL.ev rfl rfl ev_assign ?_
            refine RL.nil ?_
            refine thenN ?_
            refine RW.condP _ rfl (fun hc73 => ?_) (fun hc73 => ?_)
            · skip
              refine RW.seq ?_
              refine RW.draw rfl (fun u => Now w (foots [dskA 64 71 23 g d B]) u [.blk g [.int .i64 (d.room), .map (some m)] 64, .each (IsFile 71 23) Bf rs, .blk g1 [.int .i64 (x.kind), (str x.name), (str x.to), (vh hx)] 33]) ?_
              replace hN := hN.ext (Ext.drew w1.drew)
              refine RA.take (i := 0) rfl rfl (by kernel_rfl) (by kernel_rfl) (by kernel_rfl) (by intro _ _ _ h; exact h) rfl (hN.sub [0, 2, 3] (by decide) rfl) (fun w hS => ev_move) ?_
              refine RA.take (i := 1) rfl rfl (by kernel_rfl) (by kernel_rfl) (by kernel_rfl) (by intro _ _ _ h; exact h) rfl (hN.sub [0, 2, 3] (by decide) rfl) (fun w hS => (ev_nilCheck rfl)) ?_
              refine RA.take (i := 2) rfl rfl (by kernel_rfl) (by kernel_rfl) (by kernel_rfl) (by intro _ _ _ h; exact h) rfl (hN.sub [0, 2, 3] (by decide) rfl) (fun w hS => (ev_fieldAddr Try.underlying64 rfl sz62 (by decide) rfl)) ?_
              refine RA.take (i := 3) rfl rfl (by kernel_rfl) (by kernel_rfl) (by kernel_rfl) (by intro _ _ _ h; exact h) rfl (hN.sub [0, 2, 3] (by decide) rfl) (fun w hS => (ev_loadB Try.underlying62 rfl rfl (hS.blk 0 rfl) rfl)) ?_
              refine RA.take (i := 4) rfl rfl (by kernel_rfl) (by kernel_rfl) (by kernel_rfl) (by intro _ _ _ h; exact h) rfl (hN.sub [0, 2, 3] (by decide) rfl) (fun w hS => (ev_fieldAddr Try.underlying33 rfl sz9 (by decide) rfl)) ?_
              refine RA.take (i := 5) rfl rfl (by kernel_rfl) (by kernel_rfl) (by kernel_rfl) (by intro _ _ _ h; exact h) rfl (hN.sub [0, 2, 3] (by decide) rfl) (fun w hS => (ev_loadB Try.underlying9 rfl rfl (hS.blk 2 rfl) rfl)) ?_
              refine RA.only (i := 6) (by kernel_rfl) rfl rfl rfl (opN_delete (a := x.name) (j := i) Try.underlying62 (ke_str Try.underlying9) hN 1 rfl rfl rfl (show kfind x.name (rs.map Rec.ent) 0 = _ from hk) ?_)
              intro w11 hN_
              clear hN
              have hN : Now w (foots [dskA 64 71 23 g d B]) w11 [_, _, _, _] := hN_
              clear hN_
              refine ⟨(hN.sub [0, 2, 3] (by decide) rfl), ?_⟩
              have hw2 := hw.erase hi
              rw [← map_eraseIdx' Rec.ent] at hN
              replace hN : Now w (foots [dskA 64 71 23 g d B]) w11 [.blk g [.int .i64 (d.room), .map (some m)] 64, .mp str m ((rs.eraseIdx i).map Rec.ent) (clock), .each (IsFile 71 23) Bf rs, .blk g1 [.int .i64 (x.kind), (str x.name), (str x.to), (vh hx)] 33] := hN
              refine RA.done (by kernel_rfl) ?_
              refine thenN ?_
              refine RW.draw rfl (fun u => Now w (foots [dskA 64 71 23 g d B]) u [.blk g [.int .i64 (d.room), .map (some m)] 64, .each (IsFile 71 23) Bf rs, .blk g1 [.int .i64 (x.kind), (str x.name), (str x.to), (vh hx)] 33]) ?_
              replace hN := hN.ext (Ext.drew w11)
              refine RA.take (i := 0) rfl rfl (by kernel_rfl) (by kernel_rfl) (by kernel_rfl) (by intro _ _ _ h; exact h) rfl (hN.sub [0, 2, 3] (by decide) rfl) (fun w hS => ev_move) ?_
              refine RA.take (i := 1) rfl rfl (by kernel_rfl) (by kernel_rfl) (by kernel_rfl) (by intro _ _ _ h; exact h) rfl (hN.sub [0, 2, 3] (by decide) rfl) (fun w hS => (ev_nilCheck rfl)) ?_
              refine RA.take (i := 2) rfl rfl (by kernel_rfl) (by kernel_rfl) (by kernel_rfl) (by intro _ _ _ h; exact h) rfl (hN.sub [0, 2, 3] (by decide) rfl) (fun w hS => (ev_fieldAddr Try.underlying64 rfl sz62 (by decide) rfl)) ?_
              refine RA.take (i := 3) rfl rfl (by kernel_rfl) (by kernel_rfl) (by kernel_rfl) (by intro _ _ _ h; exact h) rfl (hN.sub [0, 2, 3] (by decide) rfl) (fun w hS => (ev_loadB Try.underlying62 rfl rfl (hS.blk 0 rfl) rfl)) ?_
              refine RA.take (i := 4) rfl rfl (by kernel_rfl) (by kernel_rfl) (by kernel_rfl) (by intro _ _ _ h; exact h) rfl (hN.sub [0, 2, 3] (by decide) rfl) (fun w hS => (ev_fieldAddr Try.underlying33 rfl sz9 (by decide) rfl)) ?_
              refine RA.take (i := 5) rfl rfl (by kernel_rfl) (by kernel_rfl) (by kernel_rfl) (by intro _ _ _ h; exact h) rfl (hN.sub [0, 2, 3] (by decide) rfl) (fun w hS => (ev_loadB Try.underlying9 rfl rfl (hS.blk 2 rfl) rfl)) ?_
              refine RA.take (i := 6) rfl rfl (by kernel_rfl) (by kernel_rfl) (by kernel_rfl) (by intro _ _ _ h; exact h) rfl (hN.sub [0, 2, 3] (by decide) rfl) (fun w hS => ev_move) ?_
              have hOb_ := opt_cases (find x.to (without r.name d.fs))
              rcases hOb_ with hfe | ⟨f2, hfe⟩
              · skip
                refine RA.only (i := 7) (by kernel_rfl) rfl rfl rfl (opN_mapNew (a := x.to) (v := .pointer (some ⟨r.ptr, 0, none⟩)) Try.underlying62 (ke_str Try.underlying9) hN 1 rfl rfl rfl rfl (hw2.kNone hfe) ?_)
                intro w12 hN_
                clear hN
                have hN : Now w (foots [dskA 64 71 23 g d B]) w12 [_, _, _, _] := hN_
                clear hN_
                refine ⟨(hN.sub [0, 2, 3] (by decide) rfl), ?_⟩
                refine RA.done (by kernel_rfl) ?_
                refine blockN ?_
                refine thenN ?_
                refine RW.seq ?_
                refine RW.region ?_
                refine RL.ev rfl rfl ev_assign ?_
                refine RL.nil ?_
                refine thenN ?_
                refine RW.ret ?_
                refine retI (RV.tmp rfl) ?_
                replace hN := hN.sub (M := [.each (IsFile 71 23) Bf rs, .blk g [.int .i64 (d.room), .map (some m)] 64, .mp str m ((rs.eraseIdx i).map Rec.ent ++ [(x.to, .pointer (some ⟨r.ptr, 0, none⟩), clock)]) (clock + 1), .blk g1 [.int .i64 (x.kind), (str x.name), (str x.to), (vh hx)] 33]) [2, 0, 1, 3] (by decide) rfl
                have hN2_ := file_move' (r' := ⟨x.to, r.ptr, clock, r.firm, r.ws⟩) (R := [_, _, _]) hi rfl rfl rfl hN
                clear hN
                obtain ⟨Bf2, hN⟩ := hN2_
                have hm_ : (rs.eraseIdx i ++ [(⟨x.to, r.ptr, clock, r.firm, r.ws⟩ : Rec)]).map Rec.ent = (rs.eraseIdx i).map Rec.ent ++ [(x.to, .pointer (some ⟨r.ptr, 0, none⟩), clock)] := by rw [List.map_append]; rfl
                rw [← hm_] at hN
                replace hN : Now w (foots [dskA 64 71 23 g d B]) w12 [.each (IsFile 71 23) Bf2 (rs.eraseIdx i ++ [(⟨x.to, r.ptr, clock, r.firm, r.ws⟩ : Rec)]), .blk g [.int .i64 (d.room), .map (some m)] 64, .mp str m ((rs.eraseIdx i ++ [(⟨x.to, r.ptr, clock, r.firm, r.ws⟩ : Rec)]).map Rec.ent) (clock + 1), .blk g1 [.int .i64 (x.kind), (str x.name), (str x.to), (vh hx)] 33] := hN
                have hr_ : res = ((⟨d.room, putIn ⟨x.to, r.firm, r.ws⟩ (without r.name d.fs)⟩ : Dk), 0) := by
                  rw [← hres]
                  unfold Disk.act
                  rw [if_neg hbad, if_neg hc36, hfd]
                  rw [hrn, ← hrf]; exact (if_neg hc63).trans (if_pos hc73)
                subst hr_
                replace hN := hN.sub (M := [.blk g [.int .i64 (d.room), .map (some m)] 64, .mp str m ((rs.eraseIdx i ++ [(⟨x.to, r.ptr, clock, r.firm, r.ws⟩ : Rec)]).map Rec.ent) (clock + 1), .each (IsFile 71 23) Bf2 (rs.eraseIdx i ++ [(⟨x.to, r.ptr, clock, r.firm, r.ws⟩ : Rec)]), .blk g1 [.int .i64 (x.kind), (str x.name), (str x.to), (vh hx)] 33]) [1, 2, 0, 3] (by decide) rfl
                have hN2_ := dsk_close (Td := 64) (R := [_]) (hw2.new (p := r.ptr) (firm := r.firm) (ws := r.ws) hfe) hN
                clear hN
                obtain ⟨B2, hN⟩ := hN2_
                exact ⟨B2, rfl, hN.sub [0] (by decide) rfl⟩
              · skip
                have hOb_ := hw2.kSome hfe
                obtain ⟨k2, r2, hi2, hrf2, hrn2, hk2⟩ := hOb_
                refine RA.only (i := 7) (by kernel_rfl) rfl rfl rfl (opN_mapOld (a := x.to) (v := .pointer (some ⟨r.ptr, 0, none⟩)) (j := k2) (q := r2.born) Try.underlying62 (ke_str Try.underlying9) hN 1 rfl rfl rfl rfl hk2 (show ((rs.eraseIdx i).map Rec.ent)[k2]? = some (x.to, _, r2.born) from by rw [ent_get hi2, hrn2]) ?_)
                intro w13 hN_
                clear hN
                have hN : Now w (foots [dskA 64 71 23 g d B]) w13 [_, _, _, _] := hN_
                clear hN_
                refine ⟨(hN.sub [0, 2, 3] (by decide) rfl), ?_⟩
                refine RA.done (by kernel_rfl) ?_
                refine blockN ?_
                refine thenN ?_
                refine RW.seq ?_
                refine RW.region ?_
                refine RL.ev rfl rfl ev_assign ?_
                refine RL.nil ?_
                refine thenN ?_
                refine RW.ret ?_
                refine retI (RV.tmp rfl) ?_
                replace hN := hN.sub (M := [.each (IsFile 71 23) Bf rs, .blk g [.int .i64 (d.room), .map (some m)] 64, .mp str m (((rs.eraseIdx i).map Rec.ent).set k2 (x.to, .pointer (some ⟨r.ptr, 0, none⟩), r2.born)) (clock), .blk g1 [.int .i64 (x.kind), (str x.name), (str x.to), (vh hx)] 33]) [2, 0, 1, 3] (by decide) rfl
                have hN2_ := file_move (r' := ⟨r2.name, r.ptr, r2.born, r.firm, r.ws⟩) (R := [_, _, _]) hi hi2 rfl rfl rfl hN
                clear hN
                obtain ⟨Bf2, hN⟩ := hN2_
                have hm_ : ((rs.eraseIdx i).set k2 (⟨r2.name, r.ptr, r2.born, r.firm, r.ws⟩ : Rec)).map Rec.ent = ((rs.eraseIdx i).map Rec.ent).set k2 (x.to, .pointer (some ⟨r.ptr, 0, none⟩), r2.born) := by rw [List.map_set, ← hrn2]; rfl
                rw [← hm_] at hN
                replace hN : Now w (foots [dskA 64 71 23 g d B]) w13 [.each (IsFile 71 23) Bf2 ((rs.eraseIdx i).set k2 ⟨r2.name, r.ptr, r2.born, r.firm, r.ws⟩), .blk g [.int .i64 (d.room), .map (some m)] 64, .mp str m (((rs.eraseIdx i).set k2 (⟨r2.name, r.ptr, r2.born, r.firm, r.ws⟩ : Rec)).map Rec.ent) (clock), .blk g1 [.int .i64 (x.kind), (str x.name), (str x.to), (vh hx)] 33] := hN
                have hr_ : res = ((⟨d.room, putIn ⟨r2.name, r.firm, r.ws⟩ (without r.name d.fs)⟩ : Dk), 0) := by
                  rw [← hres]
                  unfold Disk.act
                  rw [if_neg hbad, if_neg hc36, hfd]
                  rw [hrn, hrn2, ← hrf]; exact (if_neg hc63).trans (if_pos hc73)
                subst hr_
                replace hN := hN.sub (M := [.blk g [.int .i64 (d.room), .map (some m)] 64, .mp str m (((rs.eraseIdx i).set k2 (⟨r2.name, r.ptr, r2.born, r.firm, r.ws⟩ : Rec)).map Rec.ent) (clock), .each (IsFile 71 23) Bf2 ((rs.eraseIdx i).set k2 ⟨r2.name, r.ptr, r2.born, r.firm, r.ws⟩), .blk g1 [.int .i64 (x.kind), (str x.name), (str x.to), (vh hx)] 33]) [1, 2, 0, 3] (by decide) rfl
                have hN2_ := dsk_close (Td := 64) (R := [_]) (hw2.put (p := r.ptr) (firm := r.firm) (ws := r.ws) hi2) hN
                clear hN
                obtain ⟨B2, hN⟩ := hN2_
                exact ⟨B2, rfl, hN.sub [0] (by decide) rfl⟩
            · skip
              refine RW.draw rfl (fun u => Now w (foots [dskA 64 71 23 g d B]) u [.blk g [.int .i64 (d.room), .map (some m)] 64, .each (IsFile 71 23) Bf rs, .blk g1 [.int .i64 (x.kind), (str x.name), (str x.to), (vh hx)] 33]) ?_
              replace hN := hN.ext (Ext.drew w1.drew)
              refine RA.take (i := 0) rfl rfl (by kernel_rfl) (by kernel_rfl) (by kernel_rfl) (by intro _ _ _ h; exact h) rfl (hN.sub [0, 2, 3] (by decide) rfl) (fun w hS => ev_move) ?_
              refine RA.take (i := 1) rfl rfl (by kernel_rfl) (by kernel_rfl) (by kernel_rfl) (by intro _ _ _ h; exact h) rfl (hN.sub [0, 2, 3] (by decide) rfl) (fun w hS => (ev_nilCheck rfl)) ?_
              refine RA.take (i := 2) rfl rfl (by kernel_rfl) (by kernel_rfl) (by kernel_rfl) (by intro _ _ _ h; exact h) rfl (hN.sub [0, 2, 3] (by decide) rfl) (fun w hS => (ev_fieldAddr Try.underlying64 rfl sz62 (by decide) rfl)) ?_
              refine RA.take (i := 3) rfl rfl (by kernel_rfl) (by kernel_rfl) (by kernel_rfl) (by intro _ _ _ h; exact h) rfl (hN.sub [0, 2, 3] (by decide) rfl) (fun w hS => (ev_loadB Try.underlying62 rfl rfl (hS.blk 0 rfl) rfl)) ?_
              refine RA.take (i := 4) rfl rfl (by kernel_rfl) (by kernel_rfl) (by kernel_rfl) (by intro _ _ _ h; exact h) rfl (hN.sub [0, 2, 3] (by decide) rfl) (fun w hS => (ev_fieldAddr Try.underlying33 rfl sz9 (by decide) rfl)) ?_
              refine RA.take (i := 5) rfl rfl (by kernel_rfl) (by kernel_rfl) (by kernel_rfl) (by intro _ _ _ h; exact h) rfl (hN.sub [0, 2, 3] (by decide) rfl) (fun w hS => (ev_loadB Try.underlying9 rfl rfl (hS.blk 2 rfl) rfl)) ?_
              refine RA.only (i := 6) (by kernel_rfl) rfl rfl rfl (opN_delete (a := x.name) (j := i) Try.underlying62 (ke_str Try.underlying9) hN 1 rfl rfl rfl (show kfind x.name (rs.map Rec.ent) 0 = _ from hk) ?_)
              intro w14 hN_
              clear hN
              have hN : Now w (foots [dskA 64 71 23 g d B]) w14 [_, _, _, _] := hN_
              clear hN_
              refine ⟨(hN.sub [0, 2, 3] (by decide) rfl), ?_⟩
              refine RA.done (by kernel_rfl) ?_
              refine blockN ?_
              refine thenN ?_
              refine RW.seq ?_
              refine RW.region ?_
              refine RL.ev rfl rfl ev_assign ?_
              refine RL.nil ?_
              refine thenN ?_
              refine RW.ret ?_
              refine retI (RV.tmp rfl) ?_
              replace hN := hN.sub (M := [.each (IsFile 71 23) Bf rs, .blk g [.int .i64 (d.room), .map (some m)] 64, .mp str m ((rs.map Rec.ent).eraseIdx i) (clock), .blk g1 [.int .i64 (x.kind), (str x.name), (str x.to), (vh hx)] 33]) [2, 0, 1, 3] (by decide) rfl
              have hN2_ := file_drop (R := [_, _, _]) hi hN
              clear hN
              obtain ⟨Bf2, hN⟩ := hN2_
              rw [← map_eraseIdx' Rec.ent] at hN
              replace hN : Now w (foots [dskA 64 71 23 g d B]) w14 [.each (IsFile 71 23) Bf2 (rs.eraseIdx i), .blk g [.int .i64 (d.room), .map (some m)] 64, .mp str m ((rs.eraseIdx i).map Rec.ent) (clock), .blk g1 [.int .i64 (x.kind), (str x.name), (str x.to), (vh hx)] 33] := hN
              have hr_ : res = ((⟨d.room, without r.name d.fs⟩ : Dk), 0) := by
                rw [← hres]
                unfold Disk.act
                rw [if_neg hbad, if_neg hc36, hfd]
                rw [hrn]; exact (if_neg hc63).trans (if_neg hc73)
              subst hr_
              replace hN := hN.sub (M := [.blk g [.int .i64 (d.room), .map (some m)] 64, .mp str m ((rs.eraseIdx i).map Rec.ent) (clock), .each (IsFile 71 23) Bf2 (rs.eraseIdx i), .blk g1 [.int .i64 (x.kind), (str x.name), (str x.to), (vh hx)] 33]) [1, 2, 0, 3] (by decide) rfl
              have hN2_ := dsk_close (Td := 64) (R := [_]) (hw.erase hi) hN
              clear hN
              obtain ⟨B2, hN⟩ := hN2_
              exact ⟨B2, rfl, hN.sub [0] (by decide) rfl⟩
    · skip
      rw [decide_eq_false hg3_18]
      refine RL.off rfl rfl (by decide) rfl rfl ?_
      refine RL.off rfl rfl (by decide) rfl rfl ?_
      refine RL.off rfl rfl (by decide) rfl rfl ?_
      refine RL.off rfl rfl (by decide) rfl rfl ?_
      refine RL.onEv rfl rfl (by decide) rfl rfl (ev_pickF rfl) ?_
      refine RL.ev rfl rfl (ev_pickF rfl) ?_
      refine RL.ev rfl rfl ev_assign ?_
      refine RL.nil ?_
      refine thenN ?_
      refine RW.condF rfl ?_
      refine RW.seq ?_
      refine RW.region ?_
      refine RL.ev rfl rfl (ev_fieldAddr Try.underlying33 rfl sz3 (by decide) rfl) ?_
      refine RL.ev rfl rfl (ev_loadB Try.underlying3 rfl rfl (hN.blk 0 rfl) rfl) ?_
      refine RL.ev rfl rfl (ev_eql rfl rfl) ?_
      refine RL.ev rfl rfl ev_assign ?_
      refine RL.nil ?_
      refine thenN ?_
      refine RW.condP _ rfl (fun hc36 => ?_) (fun hc36 => ?_)
      · skip
        refine RW.seq ?_
        refine RW.region ?_
        refine RL.ev rfl rfl ev_move ?_
        refine RL.ev rfl rfl (ev_loadAll (cs := [.int .i64 (x.kind), (str x.name), (str x.to), (vh hx)]) Try.underlying33 rfl sz33 rfl (hN.blk 0 rfl)) ?_
        refine RL.op rfl rfl (op_call2 Try.func31 rfl rfl rfl rfl ((write_calls _ d _ n x hx _ (hN.pickL (M := [_]) [1] (by decide) rfl) hfit hn (SlO.at hdat hN 1 rfl) hdl _ rfl hbad hc36).mono ?_))
        rintro _ w15 ⟨B15, rfl, hC_⟩
        have hN_ := Now.callA (M := [_]) (N := [_]) (hN.sub [1, 0] (by decide) rfl) hC_
        clear hC_
        clear hN
        have hN : Now w (foots [dskA 64 71 23 g d B]) w15 [_, _] := hN_
        clear hN_
        replace hN : Now w (foots [dskA 64 71 23 g d B]) w15 [dskA 64 71 23 g ((act d x).1) B15, .blk g1 [.int .i64 (x.kind), (str x.name), (str x.to), (vh hx)] 33] := hN
        refine RL.ev rfl rfl ev_assign ?_
        refine RL.nil ?_
        refine thenN ?_
        refine RW.ret ?_
        refine blockR ?_
        refine thenR ?_
        refine retI (RV.tmp rfl) ?_
        have hr_ : act d x = res := hres
        subst hr_
        exact ⟨_, rfl, hN.sub [0] (by decide) rfl⟩
      · skip
        refine RW.skip ?_
        refine blockN ?_
        refine thenN ?_
        refine RW.seq ?_
        replace hN := hN.sub (M := [dskA 64 71 23 g d B, .blk g1 [.int .i64 (x.kind), (str x.name), (str x.to), (vh hx)] 33]) [1, 0] (by decide) rfl
        have hN2_ := dsk_open (R := [_]) hN
        clear hN
        obtain ⟨m, rs, clock, Bf, hw, hN⟩ := hN2_
        replace hN : Now w (foots [dskA 64 71 23 g d B]) w1 [.blk g [.int .i64 (d.room), .map (some m)] 64, .mp str m (rs.map Rec.ent) (clock), .each (IsFile 71 23) Bf rs, .blk g1 [.int .i64 (x.kind), (str x.name), (str x.to), (vh hx)] 33] := hN
        have hrl := hw.length
        refine RW.draw rfl (fun u => Now w (foots [dskA 64 71 23 g d B]) u [.blk g [.int .i64 (d.room), .map (some m)] 64, .mp str m (rs.map Rec.ent) (clock), .each (IsFile 71 23) Bf rs, .blk g1 [.int .i64 (x.kind), (str x.name), (str x.to), (vh hx)] 33]) ?_
        replace hN := hN.ext (Ext.drew w1)
        refine RA.take (i := 0) rfl rfl (by kernel_rfl) (by kernel_rfl) (by kernel_rfl) (by intro _ _ _ h; exact h) rfl hN (fun w hS => ev_move) ?_
        refine RA.take (i := 1) rfl rfl (by kernel_rfl) (by kernel_rfl) (by kernel_rfl) (by intro _ _ _ h; exact h) rfl hN (fun w hS => (ev_nilCheck rfl)) ?_
        refine RA.take (i := 2) rfl rfl (by kernel_rfl) (by kernel_rfl) (by kernel_rfl) (by intro _ _ _ h; exact h) rfl hN (fun w hS => (ev_fieldAddr Try.underlying64 rfl sz62 (by decide) rfl)) ?_
        refine RA.take (i := 3) rfl rfl (by kernel_rfl) (by kernel_rfl) (by kernel_rfl) (by intro _ _ _ h; exact h) rfl hN (fun w hS => (ev_loadB Try.underlying62 rfl rfl (hS.blk 0 rfl) rfl)) ?_
        refine RA.take (i := 4) rfl rfl (by kernel_rfl) (by kernel_rfl) (by kernel_rfl) (by intro _ _ _ h; exact h) rfl hN (fun w hS => (ev_fieldAddr Try.underlying33 rfl sz9 (by decide) rfl)) ?_
        refine RA.take (i := 5) rfl rfl (by kernel_rfl) (by kernel_rfl) (by kernel_rfl) (by intro _ _ _ h; exact h) rfl hN (fun w hS => (ev_loadB Try.underlying9 rfl rfl (hS.blk 3 rfl) rfl)) ?_
        have hOb_ := opt_cases (find x.name d.fs)
        rcases hOb_ with hfd | ⟨f, hfd⟩
        · skip
          refine RA.take (i := 6) rfl rfl (by kernel_rfl) (by kernel_rfl) (by kernel_rfl) (by intro _ _ _ h; exact h) rfl hN (fun w hS => (ev_lookF Try.underlying62 (ke_str Try.underlying9) zero66 (hS.mp 1 rfl) rfl rfl (hw.kNone hfd))) ?_
          refine RA.take (i := 7) rfl rfl (by kernel_rfl) (by kernel_rfl) (by kernel_rfl) (by intro _ _ _ h; exact h) rfl hN (fun w hS => ev_move) ?_
          refine RA.take (i := 8) rfl rfl (by kernel_rfl) (by kernel_rfl) (by kernel_rfl) (by intro _ _ _ h; exact h) rfl hN (fun w hS => (ev_extract rfl rfl)) ?_
          refine RA.take (i := 9) rfl rfl (by kernel_rfl) (by kernel_rfl) (by kernel_rfl) (by intro _ _ _ h; exact h) rfl hN (fun w hS => (ev_extract rfl rfl)) ?_
          refine RA.take (i := 10) rfl rfl (by kernel_rfl) (by kernel_rfl) (by kernel_rfl) (by intro _ _ _ h; exact h) rfl hN (fun w hS => ev_assign) ?_
          refine RA.take (i := 11) rfl rfl (by kernel_rfl) (by kernel_rfl) (by kernel_rfl) (by intro _ _ _ h; exact h) rfl hN (fun w hS => ev_assign) ?_
          refine RA.done (by kernel_rfl) ?_
          refine thenN ?_
          refine RW.seq ?_
          refine RW.seq ?_
          refine RW.region ?_
          refine RL.ev rfl rfl ev_move ?_
          refine RL.ev rfl rfl (ev_not rfl) ?_
          refine RL.nil ?_
          refine thenN ?_
          refine RW.condT rfl ?_
          refine RW.seq ?_
          refine RW.region ?_
          refine RL.ev rfl rfl ev_assign ?_
          refine RL.nil ?_
          refine thenN ?_
          refine RW.ret ?_
          refine thenR ?_
          refine retI (RV.tmp rfl) ?_
          have hr_ : res = (d, 4) := by
            rw [← hres]
            unfold Disk.act
            rw [if_neg hbad, if_neg hc36, hfd]
            skip
          subst hr_
          replace hN := hN.sub (M := [.blk g [.int .i64 (d.room), .map (some m)] 64, .mp str m (rs.map Rec.ent) (clock), .each (IsFile 71 23) Bf rs, .blk g1 [.int .i64 (x.kind), (str x.name), (str x.to), (vh hx)] 33]) [0, 1, 2, 3] (by decide) rfl
          have hN2_ := dsk_close (Td := 64) (R := [_]) hw hN
          clear hN
          obtain ⟨B2, hN⟩ := hN2_
          exact ⟨B2, rfl, hN.sub [0] (by decide) rfl⟩
        · skip
          have hOb_ := hw.kSome hfd
          obtain ⟨i, r, hi, hrf, hrn, hk⟩ := hOb_
          have hrm := List.mem_of_getElem? hi
          have hln := hfit.fileLen hw hrm
          have hlw := hfit.fileWs hn hw hrm
          refine RA.take (i := 6) rfl rfl (by kernel_rfl) (by kernel_rfl) (by kernel_rfl) (by intro _ _ _ h; exact h) rfl hN (fun w hS => (ev_lookT (v := .pointer (some ⟨r.ptr, 0, none⟩)) Try.underlying62 (ke_str Try.underlying9) (hS.mp 1 rfl) rfl rfl hk)) ?_
          refine RA.take (i := 7) rfl rfl (by kernel_rfl) (by kernel_rfl) (by kernel_rfl) (by intro _ _ _ h; exact h) rfl hN (fun w hS => ev_move) ?_
          refine RA.take (i := 8) rfl rfl (by kernel_rfl) (by kernel_rfl) (by kernel_rfl) (by intro _ _ _ h; exact h) rfl hN (fun w hS => (ev_extract rfl rfl)) ?_
          refine RA.take (i := 9) rfl rfl (by kernel_rfl) (by kernel_rfl) (by kernel_rfl) (by intro _ _ _ h; exact h) rfl hN (fun w hS => (ev_extract rfl rfl)) ?_
          refine RA.take (i := 10) rfl rfl (by kernel_rfl) (by kernel_rfl) (by kernel_rfl) (by intro _ _ _ h; exact h) rfl hN (fun w hS => ev_assign) ?_
          refine RA.take (i := 11) rfl rfl (by kernel_rfl) (by kernel_rfl) (by kernel_rfl) (by intro _ _ _ h; exact h) rfl hN (fun w hS => ev_assign) ?_
          refine RA.done (by kernel_rfl) ?_
          refine thenN ?_
          refine RW.seq ?_
          refine RW.seq ?_
          refine RW.region ?_
          refine RL.ev rfl rfl ev_move ?_
          refine RL.ev rfl rfl (ev_not rfl) ?_
          refine RL.nil ?_
          refine thenN ?_
          refine RW.condF rfl ?_
          refine RW.skip ?_
          refine thenN ?_
          refine RW.seq ?_
          refine RW.seq ?_
          refine RW.region ?_
          refine RL.ev rfl rfl (ev_fieldAddr Try.underlying33 rfl sz3 (by decide) rfl) ?_
          refine RL.ev rfl rfl (ev_loadB Try.underlying3 rfl rfl (hN.blk 3 rfl) rfl) ?_
          refine RL.nil ?_
          refine thenN ?_
          refine RW.block ?_
          refine RW.seq ?_
          refine RW.region ?_
          refine RL.ev rfl rfl (ev_eql rfl rfl) ?_
          refine RL.ev rfl rfl ev_assign ?_
          refine RL.nil ?_
          refine thenN ?_
          refine RW.condP _ rfl (fun hc63 => ?_) (fun hc63 => ?_)
          · skip
            replace hN := hN.sub (M := [.each (IsFile 71 23) Bf rs, .blk g [.int .i64 (d.room), .map (some m)] 64, .mp str m (rs.map Rec.ent) (clock), .blk g1 [.int .i64 (x.kind), (str x.name), (str x.to), (vh hx)] 33]) [2, 0, 1, 3] (by decide) rfl
            have hN2_ := file_open (R := [_, _, _]) hi hN
            clear hN
            obtain ⟨h0, h1, hs, Bf1, hN⟩ := hN2_
            replace hN : Now w (foots [dskA 64 71 23 g d B]) w1.drew [.blk r.ptr [(vh h0), (vh h1)] 71, .sl vb ((vh h0)) (r.firm), .own vh 23 ((vh h1)) (hs), .fam vb (hs) (r.ws), .each (IsFile 71 23) Bf1 (rs.eraseIdx i), .blk g [.int .i64 (d.room), .map (some m)] 64, .mp str m (rs.map Rec.ent) (clock), .blk g1 [.int .i64 (x.kind), (str x.name), (str x.to), (vh hx)] 33] := hN
            have hlh := (hN.els 3 rfl).1
            refine RW.region ?_
            refine RL.ev rfl rfl ev_move ?_
            refine RL.ev rfl rfl ev_move ?_
            refine RL.ev rfl rfl ev_move ?_
            refine RL.op rfl rfl (op_call1 Try.func32 rfl rfl rfl ((all_calls r.ptr _ _ _ r.firm r.ws _ (hN.blk 0 rfl) (hN.slr 1 rfl) (hN.sl 2 rfl) (hN.els 3 rfl) hln hlw).mono ?_))
            rintro v17 w17 ⟨ho_, he_⟩
            have hN_ := hN.pushOwn (l := (r.firm ++ r.ws.flatten)) ho_ he_
            clear ho_ he_
            clear hN
            have hN : Now w (foots [dskA 64 71 23 g d B]) w17 [_, _, _, _, _, _, _, _, _] := hN_
            clear hN_
            refine RL.ev rfl rfl (ev_nilCheck rfl) ?_
            refine RL.ev rfl rfl (ev_fieldAddr Try.underlying71 rfl sz23 (by decide) rfl) ?_
            refine RL.op rfl rfl (opN_store sz23 rfl rfl (hN.sl 0 rfl).cells1 (hN.sl 0 rfl).one1 hN 1 rfl (Nat.le_of_ble_eq_true rfl) ?_)
            intro w18 hN_
            clear hN
            have hN : Now w (foots [dskA 64 71 23 g d B]) w18 [_, _, _, _, _, _, _, _, _] := hN_
            clear hN_
            refine RL.ev rfl rfl (ev_nilCheck rfl) ?_
            refine RL.ev rfl rfl (ev_fieldAddr Try.underlying71 rfl sz69 (by decide) rfl) ?_
            refine RL.op rfl rfl (opN_store sz69 rfl rfl rfl rfl hN 1 rfl (Nat.le_of_ble_eq_true rfl) ?_)
            intro w19 hN_
            clear hN
            have hN : Now w (foots [dskA 64 71 23 g d B]) w19 [_, _, _, _, _, _, _, _, _] := hN_
            clear hN_
            refine RL.nil ?_
            refine blockN ?_
            refine thenN ?_
            refine RW.seq ?_
            refine RW.region ?_
            refine RL.ev rfl rfl ev_assign ?_
            refine RL.nil ?_
            refine thenN ?_
            refine RW.ret ?_
            refine retI (RV.tmp rfl) ?_
            replace hN := hN.ownSl 0 rfl
            replace hN := hN.addNil vh 23
            replace hN := hN.famNil vb
            replace hN : Now w (foots [dskA 64 71 23 g d B]) w19 [.fam vb ([]) ([]), .own vh 23 (.slice none 0 0) ([]), .sl vb (v17) ((r.firm ++ r.ws.flatten)), .blk r.ptr [v17, .slice none 0 0] 71, .sl vb ((vh h0)) (r.firm), .own vh 23 ((vh h1)) (hs), .fam vb (hs) (r.ws), .each (IsFile 71 23) Bf1 (rs.eraseIdx i), .blk g [.int .i64 (d.room), .map (some m)] 64, .mp str m (rs.map Rec.ent) (clock), .blk g1 [.int .i64 (x.kind), (str x.name), (str x.to), (vh hx)] 33] := hN
            replace hN := hN.sub (M := [.blk r.ptr [v17, .slice none 0 0] 71, .sl vb (v17) ((r.firm ++ r.ws.flatten)), .own vh 23 (.slice none 0 0) ([]), .fam vb ([]) ([]), .each (IsFile 71 23) Bf1 (rs.eraseIdx i), .sl vb ((vh h0)) (r.firm), .own vh 23 ((vh h1)) (hs), .fam vb (hs) (r.ws), .blk g [.int .i64 (d.room), .map (some m)] 64, .mp str m (rs.map Rec.ent) (clock), .blk g1 [.int .i64 (x.kind), (str x.name), (str x.to), (vh hx)] 33]) [3, 2, 1, 0, 7, 4, 5, 6, 8, 9, 10] (by decide) rfl
            have hN2_ := file_in (r' := ⟨r.name, r.ptr, r.born, r.firm ++ r.ws.flatten, []⟩) (R := [_, _, _, _, _, _]) hi hN
            clear hN
            obtain ⟨Bf2, hN⟩ := hN2_
            rw [← ent_set (r' := ⟨r.name, r.ptr, r.born, r.firm ++ r.ws.flatten, []⟩) hi rfl] at hN
            replace hN : Now w (foots [dskA 64 71 23 g d B]) w19 [.each (IsFile 71 23) Bf2 (rs.set i ⟨r.name, r.ptr, r.born, r.firm ++ r.ws.flatten, []⟩), .sl vb ((vh h0)) (r.firm), .own vh 23 ((vh h1)) (hs), .fam vb (hs) (r.ws), .blk g [.int .i64 (d.room), .map (some m)] 64, .mp str m ((rs.set i ⟨r.name, r.ptr, r.born, r.firm ++ r.ws.flatten, []⟩).map Rec.ent) (clock), .blk g1 [.int .i64 (x.kind), (str x.name), (str x.to), (vh hx)] 33] := hN
            have hr_ : res = ((⟨d.room, putIn ⟨r.name, r.firm ++ r.ws.flatten, []⟩ d.fs⟩ : Dk), 0) := by
              rw [← hres]
              unfold Disk.act
              rw [if_neg hbad, if_neg hc36, hfd]
              rw [← hrf]; exact if_pos hc63
            subst hr_
            replace hN := hN.sub (M := [.blk g [.int .i64 (d.room), .map (some m)] 64, .mp str m ((rs.set i ⟨r.name, r.ptr, r.born, r.firm ++ r.ws.flatten, []⟩).map Rec.ent) (clock), .each (IsFile 71 23) Bf2 (rs.set i ⟨r.name, r.ptr, r.born, r.firm ++ r.ws.flatten, []⟩), .sl vb ((vh h0)) (r.firm), .own vh 23 ((vh h1)) (hs), .fam vb (hs) (r.ws), .blk g1 [.int .i64 (x.kind), (str x.name), (str x.to), (vh hx)] 33]) [4, 5, 0, 1, 2, 3, 6] (by decide) rfl
            have hN2_ := dsk_close (Td := 64) (R := [_, _, _, _]) (hw.set (firm := r.firm ++ r.ws.flatten) (ws := []) hi) hN
            clear hN
            obtain ⟨B2, hN⟩ := hN2_
            exact ⟨B2, rfl, hN.sub [0] (by decide) rfl⟩
          · skip
            refine RW.seq ?_
            refine RW.region ?_
            refine RL.ev rfl rfl (ev_eql rfl rfl) ?_
            refine RL.ev rfl rfl ev_assign ?_
            refine RL.nil ?_
            refine thenN ?_
            refine RW.condP _ rfl (fun hc73 => ?_) (fun hc73 => ?_)
            · skip
              refine RW.seq ?_
              refine RW.draw rfl (fun u => Now w (foots [dskA 64 71 23 g d B]) u [.blk g [.int .i64 (d.room), .map (some m)] 64, .each (IsFile 71 23) Bf rs, .blk g1 [.int .i64 (x.kind), (str x.name), (str x.to), (vh hx)] 33]) ?_
              replace hN := hN.ext (Ext.drew w1.drew)
              refine RA.take (i := 0) rfl rfl (by kernel_rfl) (by kernel_rfl) (by kernel_rfl) (by intro _ _ _ h; exact h) rfl (hN.sub [0, 2, 3] (by decide) rfl) (fun w hS => ev_move) ?_
              refine RA.take (i := 1) rfl rfl (by kernel_rfl) (by kernel_rfl) (by kernel_rfl) (by intro _ _ _ h; exact h) rfl (hN.sub [0, 2, 3] (by decide) rfl) (fun w hS => (ev_nilCheck rfl)) ?_
              refine RA.take (i := 2) rfl rfl (by kernel_rfl) (by kernel_rfl) (by kernel_rfl) (by intro _ _ _ h; exact h) rfl (hN.sub [0, 2, 3] (by decide) rfl) (fun w hS => (ev_fieldAddr Try.underlying64 rfl sz62 (by decide) rfl)) ?_
              refine RA.take (i := 3) rfl rfl (by kernel_rfl) (by kernel_rfl) (by kernel_rfl) (by intro _ _ _ h; exact h) rfl (hN.sub [0, 2, 3] (by decide) rfl) (fun w hS => (ev_loadB Try.underlying62 rfl rfl (hS.blk 0 rfl) rfl)) ?_
              refine RA.take (i := 4) rfl rfl (by kernel_rfl) (by kernel_rfl) (by kernel_rfl) (by intro _ _ _ h; exact h) rfl (hN.sub [0, 2, 3] (by decide) rfl) (fun w hS => (ev_fieldAddr Try.underlying33 rfl sz9 (by decide) rfl)) ?_
              refine RA.take (i := 5) rfl rfl (by kernel_rfl) (by kernel_rfl) (by kernel_rfl) (by intro _ _ _ h; exact h) rfl (hN.sub [0, 2, 3] (by decide) rfl) (fun w hS => (ev_loadB Try.underlying9 rfl rfl (hS.blk 2 rfl) rfl)) ?_
              refine RA.only (i := 6) (by kernel_rfl) rfl rfl rfl (opN_delete (a := x.name) (j := i) Try.underlying62 (ke_str Try.underlying9) hN 1 rfl rfl rfl (show kfind x.name (rs.map Rec.ent) 0 = _ from hk) ?_)
              intro w20 hN_
              clear hN
              have hN : Now w (foots [dskA 64 71 23 g d B]) w20 [_, _, _, _] := hN_
              clear hN_
              refine ⟨(hN.sub [0, 2, 3] (by decide) rfl), ?_⟩
              have hw2 := hw.erase hi
              rw [← map_eraseIdx' Rec.ent] at hN
              replace hN : Now w (foots [dskA 64 71 23 g d B]) w20 [.blk g [.int .i64 (d.room), .map (some m)] 64, .mp str m ((rs.eraseIdx i).map Rec.ent) (clock), .each (IsFile 71 23) Bf rs, .blk g1 [.int .i64 (x.kind), (str x.name), (str x.to), (vh hx)] 33] := hN
              refine RA.done (by kernel_rfl) ?_
              refine thenN ?_
              refine RW.draw rfl (fun u => Now w (foots [dskA 64 71 23 g d B]) u [.blk g [.int .i64 (d.room), .map (some m)] 64, .each (IsFile 71 23) Bf rs, .blk g1 [.int .i64 (x.kind), (str x.name), (str x.to), (vh hx)] 33]) ?_
              replace hN := hN.ext (Ext.drew w20)
              refine RA.take (i := 0) rfl rfl (by kernel_rfl) (by kernel_rfl) (by kernel_rfl) (by intro _ _ _ h; exact h) rfl (hN.sub [0, 2, 3] (by decide) rfl) (fun w hS => ev_move) ?_
              refine RA.take (i := 1) rfl rfl (by kernel_rfl) (by kernel_rfl) (by kernel_rfl) (by intro _ _ _ h; exact h) rfl (hN.sub [0, 2, 3] (by decide) rfl) (fun w hS => (ev_nilCheck rfl)) ?_
              refine RA.take (i := 2) rfl rfl (by kernel_rfl) (by kernel_rfl) (by kernel_rfl) (by intro _ _ _ h; exact h) rfl (hN.sub [0, 2, 3] (by decide) rfl) (fun w hS => (ev_fieldAddr Try.underlying64 rfl sz62 (by decide) rfl)) ?_
              refine RA.take (i := 3) rfl rfl (by kernel_rfl) (by kernel_rfl) (by kernel_rfl) (by intro _ _ _ h; exact h) rfl (hN.sub [0, 2, 3] (by decide) rfl) (fun w hS => (ev_loadB Try.underlying62 rfl rfl (hS.blk 0 rfl) rfl)) ?_
              refine RA.take (i := 4) rfl rfl (by kernel_rfl) (by kernel_rfl) (by kernel_rfl) (by intro _ _ _ h; exact h) rfl (hN.sub [0, 2, 3] (by decide) rfl) (fun w hS => (ev_fieldAddr Try.underlying33 rfl sz9 (by decide) rfl)) ?_
              refine RA.take (i := 5) rfl rfl (by kernel_rfl) (by kernel_rfl) (by kernel_rfl) (by intro _ _ _ h; exact h) rfl (hN.sub [0, 2, 3] (by decide) rfl) (fun w hS => (ev_loadB Try.underlying9 rfl rfl (hS.blk 2 rfl) rfl)) ?_
              refine RA.take (i := 6) rfl rfl (by kernel_rfl) (by kernel_rfl) (by kernel_rfl) (by intro _ _ _ h; exact h) rfl (hN.sub [0, 2, 3] (by decide) rfl) (fun w hS => ev_move) ?_
              have hOb_ := opt_cases (find x.to (without r.name d.fs))
              rcases hOb_ with hfe | ⟨f2, hfe⟩
              · skip
                refine RA.only (i := 7) (by kernel_rfl) rfl rfl rfl (opN_mapNew (a := x.to) (v := .pointer (some ⟨r.ptr, 0, none⟩)) Try.underlying62 (ke_str Try.underlying9) hN 1 rfl rfl rfl rfl (hw2.kNone hfe) ?_)
                intro w21 hN_
                clear hN
                have hN : Now w (foots [dskA 64 71 23 g d B]) w21 [_, _, _, _] := hN_
                clear hN_
                refine ⟨(hN.sub [0, 2, 3] (by decide) rfl), ?_⟩
                refine RA.done (by kernel_rfl) ?_
                refine blockN ?_
                refine thenN ?_
                refine RW.seq ?_
                refine RW.region ?_
                refine RL.ev rfl rfl ev_assign ?_
                refine RL.nil ?_
                refine thenN ?_
                refine RW.ret ?_
                refine retI (RV.tmp rfl) ?_
                replace hN := hN.sub (M := [.each (IsFile 71 23) Bf rs, .blk g [.int .i64 (d.room), .map (some m)] 64, .mp str m ((rs.eraseIdx i).map Rec.ent ++ [(x.to, .pointer (some ⟨r.ptr, 0, none⟩), clock)]) (clock + 1), .blk g1 [.int .i64 (x.kind), (str x.name), (str x.to), (vh hx)] 33]) [2, 0, 1, 3] (by decide) rfl
                have hN2_ := file_move' (r' := ⟨x.to, r.ptr, clock, r.firm, r.ws⟩) (R := [_, _, _]) hi rfl rfl rfl hN
                clear hN
                obtain ⟨Bf2, hN⟩ := hN2_
                have hm_ : (rs.eraseIdx i ++ [(⟨x.to, r.ptr, clock, r.firm, r.ws⟩ : Rec)]).map Rec.ent = (rs.eraseIdx i).map Rec.ent ++ [(x.to, .pointer (some ⟨r.ptr, 0, none⟩), clock)] := by rw [List.map_append]; rfl
                rw [← hm_] at hN
                replace hN : Now w (foots [dskA 64 71 23 g d B]) w21 [.each (IsFile 71 23) Bf2 (rs.eraseIdx i ++ [(⟨x.to, r.ptr, clock, r.firm, r.ws⟩ : Rec)]), .blk g [.int .i64 (d.room), .map (some m)] 64, .mp str m ((rs.eraseIdx i ++ [(⟨x.to, r.ptr, clock, r.firm, r.ws⟩ : Rec)]).map Rec.ent) (clock + 1), .blk g1 [.int .i64 (x.kind), (str x.name), (str x.to), (vh hx)] 33] := hN
                have hr_ : res = ((⟨d.room, putIn ⟨x.to, r.firm, r.ws⟩ (without r.name d.fs)⟩ : Dk), 0) := by
                  rw [← hres]
                  unfold Disk.act
                  rw [if_neg hbad, if_neg hc36, hfd]
                  rw [hrn, ← hrf]; exact (if_neg hc63).trans (if_pos hc73)
                subst hr_
                replace hN := hN.sub (M := [.blk g [.int .i64 (d.room), .map (some m)] 64, .mp str m ((rs.eraseIdx i ++ [(⟨x.to, r.ptr, clock, r.firm, r.ws⟩ : Rec)]).map Rec.ent) (clock + 1), .each (IsFile 71 23) Bf2 (rs.eraseIdx i ++ [(⟨x.to, r.ptr, clock, r.firm, r.ws⟩ : Rec)]), .blk g1 [.int .i64 (x.kind), (str x.name), (str x.to), (vh hx)] 33]) [1, 2, 0, 3] (by decide) rfl
                have hN2_ := dsk_close (Td := 64) (R := [_]) (hw2.new (p := r.ptr) (firm := r.firm) (ws := r.ws) hfe) hN
                clear hN
                obtain ⟨B2, hN⟩ := hN2_
                exact ⟨B2, rfl, hN.sub [0] (by decide) rfl⟩
              · skip
                have hOb_ := hw2.kSome hfe
                obtain ⟨k2, r2, hi2, hrf2, hrn2, hk2⟩ := hOb_
                refine RA.only (i := 7) (by kernel_rfl) rfl rfl rfl (opN_mapOld (a := x.to) (v := .pointer (some ⟨r.ptr, 0, none⟩)) (j := k2) (q := r2.born) Try.underlying62 (ke_str Try.underlying9) hN 1 rfl rfl rfl rfl hk2 (show ((rs.eraseIdx i).map Rec.ent)[k2]? = some (x.to, _, r2.born) from by rw [ent_get hi2, hrn2]) ?_)
                intro w22 hN_
                clear hN
                have hN : Now w (foots [dskA 64 71 23 g d B]) w22 [_, _, _, _] := hN_
                clear hN_
                refine ⟨(hN.sub [0, 2, 3] (by decide) rfl), ?_⟩
                refine RA.done (by kernel_rfl) ?_
                refine blockN ?_
                refine thenN ?_
                refine RW.seq ?_
                refine RW.region ?_
                refine RL.ev rfl rfl ev_assign ?_
                refine RL.nil ?_
                refine thenN ?_
                refine RW.ret ?_
                refine retI (RV.tmp rfl) ?_
                replace hN := hN.sub (M := [.each (IsFile 71 23) Bf rs, .blk g [.int .i64 (d.room), .map (some m)] 64, .mp str m (((rs.eraseIdx i).map Rec.ent).set k2 (x.to, .pointer (some ⟨r.ptr, 0, none⟩), r2.born)) (clock), .blk g1 [.int .i64 (x.kind), (str x.name), (str x.to), (vh hx)] 33]) [2, 0, 1, 3] (by decide) rfl
                have hN2_ := file_move (r' := ⟨r2.name, r.ptr, r2.born, r.firm, r.ws⟩) (R := [_, _, _]) hi hi2 rfl rfl rfl hN
                clear hN
                obtain ⟨Bf2, hN⟩ := hN2_
                have hm_ : ((rs.eraseIdx i).set k2 (⟨r2.name, r.ptr, r2.born, r.firm, r.ws⟩ : Rec)).map Rec.ent = ((rs.eraseIdx i).map Rec.ent).set k2 (x.to, .pointer (some ⟨r.ptr, 0, none⟩), r2.born) := by rw [List.map_set, ← hrn2]; rfl
                rw [← hm_] at hN
                replace hN : Now w (foots [dskA 64 71 23 g d B]) w22 [.each (IsFile 71 23) Bf2 ((rs.eraseIdx i).set k2 ⟨r2.name, r.ptr, r2.born, r.firm, r.ws⟩), .blk g [.int .i64 (d.room), .map (some m)] 64, .mp str m (((rs.eraseIdx i).set k2 (⟨r2.name, r.ptr, r2.born, r.firm, r.ws⟩ : Rec)).map Rec.ent) (clock), .blk g1 [.int .i64 (x.kind), (str x.name), (str x.to), (vh hx)] 33] := hN
                have hr_ : res = ((⟨d.room, putIn ⟨r2.name, r.firm, r.ws⟩ (without r.name d.fs)⟩ : Dk), 0) := by
                  rw [← hres]
                  unfold Disk.act
                  rw [if_neg hbad, if_neg hc36, hfd]
                  rw [hrn, hrn2, ← hrf]; exact (if_neg hc63).trans (if_pos hc73)
                subst hr_
                replace hN := hN.sub (M := [.blk g [.int .i64 (d.room), .map (some m)] 64, .mp str m (((rs.eraseIdx i).set k2 (⟨r2.name, r.ptr, r2.born, r.firm, r.ws⟩ : Rec)).map Rec.ent) (clock), .each (IsFile 71 23) Bf2 ((rs.eraseIdx i).set k2 ⟨r2.name, r.ptr, r2.born, r.firm, r.ws⟩), .blk g1 [.int .i64 (x.kind), (str x.name), (str x.to), (vh hx)] 33]) [1, 2, 0, 3] (by decide) rfl
                have hN2_ := dsk_close (Td := 64) (R := [_]) (hw2.put (p := r.ptr) (firm := r.firm) (ws := r.ws) hi2) hN
                clear hN
                obtain ⟨B2, hN⟩ := hN2_
                exact ⟨B2, rfl, hN.sub [0] (by decide) rfl⟩
            · skip
              refine RW.draw rfl (fun u => Now w (foots [dskA 64 71 23 g d B]) u [.blk g [.int .i64 (d.room), .map (some m)] 64, .each (IsFile 71 23) Bf rs, .blk g1 [.int .i64 (x.kind), (str x.name), (str x.to), (vh hx)] 33]) ?_
              replace hN := hN.ext (Ext.drew w1.drew)
              refine RA.take (i := 0) rfl rfl (by kernel_rfl) (by kernel_rfl) (by kernel_rfl) (by intro _ _ _ h; exact h) rfl (hN.sub [0, 2, 3] (by decide) rfl) (fun w hS => ev_move) ?_
              refine RA.take (i := 1) rfl rfl (by kernel_rfl) (by kernel_rfl) (by kernel_rfl) (by intro _ _ _ h; exact h) rfl (hN.sub [0, 2, 3] (by decide) rfl) (fun w hS => (ev_nilCheck rfl)) ?_
              refine RA.take (i := 2) rfl rfl (by kernel_rfl) (by kernel_rfl) (by kernel_rfl) (by intro _ _ _ h; exact h) rfl (hN.sub [0, 2, 3] (by decide) rfl) (fun w hS => (ev_fieldAddr Try.underlying64 rfl sz62 (by decide) rfl)) ?_
              refine RA.take (i := 3) rfl rfl (by kernel_rfl) (by kernel_rfl) (by kernel_rfl) (by intro _ _ _ h; exact h) rfl (hN.sub [0, 2, 3] (by decide) rfl) (fun w hS => (ev_loadB Try.underlying62 rfl rfl (hS.blk 0 rfl) rfl)) ?_
              refine RA.take (i := 4) rfl rfl (by kernel_rfl) (by kernel_rfl) (by kernel_rfl) (by intro _ _ _ h; exact h) rfl (hN.sub [0, 2, 3] (by decide) rfl) (fun w hS => (ev_fieldAddr Try.underlying33 rfl sz9 (by decide) rfl)) ?_
              refine RA.take (i := 5) rfl rfl (by kernel_rfl) (by kernel_rfl) (by kernel_rfl) (by intro _ _ _ h; exact h) rfl (hN.sub [0, 2, 3] (by decide) rfl) (fun w hS => (ev_loadB Try.underlying9 rfl rfl (hS.blk 2 rfl) rfl)) ?_
              refine RA.only (i := 6) (by kernel_rfl) rfl rfl rfl (opN_delete (a := x.name) (j := i) Try.underlying62 (ke_str Try.underlying9) hN 1 rfl rfl rfl (show kfind x.name (rs.map Rec.ent) 0 = _ from hk) ?_)
              intro w23 hN_
              clear hN
              have hN : Now w (foots [dskA 64 71 23 g d B]) w23 [_, _, _, _] := hN_
              clear hN_
              refine ⟨(hN.sub [0, 2, 3] (by decide) rfl), ?_⟩
              refine RA.done (by kernel_rfl) ?_
              refine blockN ?_
              refine thenN ?_
              refine RW.seq ?_
              refine RW.region ?_
              refine RL.ev rfl rfl ev_assign ?_
              refine RL.nil ?_
              refine thenN ?_
              refine RW.ret ?_
              refine retI (RV.tmp rfl) ?_
              replace hN := hN.sub (M := [.each (IsFile 71 23) Bf rs, .blk g [.int .i64 (d.room), .map (some m)] 64, .mp str m ((rs.map Rec.ent).eraseIdx i) (clock), .blk g1 [.int .i64 (x.kind), (str x.name), (str x.to), (vh hx)] 33]) [2, 0, 1, 3] (by decide) rfl
              have hN2_ := file_drop (R := [_, _, _]) hi hN
              clear hN
              obtain ⟨Bf2, hN⟩ := hN2_
              rw [← map_eraseIdx' Rec.ent] at hN
              replace hN : Now w (foots [dskA 64 71 23 g d B]) w23 [.each (IsFile 71 23) Bf2 (rs.eraseIdx i), .blk g [.int .i64 (d.room), .map (some m)] 64, .mp str m ((rs.eraseIdx i).map Rec.ent) (clock), .blk g1 [.int .i64 (x.kind), (str x.name), (str x.to), (vh hx)] 33] := hN
              have hr_ : res = ((⟨d.room, without r.name d.fs⟩ : Dk), 0) := by
                rw [← hres]
                unfold Disk.act
                rw [if_neg hbad, if_neg hc36, hfd]
                rw [hrn]; exact (if_neg hc63).trans (if_neg hc73)
              subst hr_
              replace hN := hN.sub (M := [.blk g [.int .i64 (d.room), .map (some m)] 64, .mp str m ((rs.eraseIdx i).map Rec.ent) (clock), .each (IsFile 71 23) Bf2 (rs.eraseIdx i), .blk g1 [.int .i64 (x.kind), (str x.name), (str x.to), (vh hx)] 33]) [1, 2, 0, 3] (by decide) rfl
              have hN2_ := dsk_close (Td := 64) (R := [_]) (hw.erase hi) hN
              clear hN
              obtain ⟨B2, hN⟩ := hN2_
              exact ⟨B2, rfl, hN.sub [0] (by decide) rfl⟩

end Go.Proofs.Ytlblpiapeieofaa
