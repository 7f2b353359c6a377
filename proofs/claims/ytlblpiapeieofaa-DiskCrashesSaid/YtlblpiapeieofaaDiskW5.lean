import Derived.Test.YtlblpiapeieofaaDiskW4
set_option linter.unusedVariables false
set_option linter.unusedSimpArgs false
namespace Go.Proofs.Ytlblpiapeieofaa
open Go.RowKit Go.Rl

open Go.Disk
set_option maxHeartbeats 4000000 in
set_option maxRecDepth 100000 in
/-- (*postroad/disk.Disk).write -/
theorem write_calls (g : Nat) (d : Dk) (B : Nat → Prop) (n : Nat) (x : Disk.Op) (hx : Hd) (w : World) (hN : Now w (foots [dskA 64 71 23 g d B]) w [dskA 64 71 23 g d B]) (hfit : Fits n d) (hn : n ≤ 1048576) (hdat : SlO (foots [dskA 64 71 23 g d B]) vb w (vh hx) x.data) (hdl : x.data.length ≤ 1099511627776) (res : Dk × Int) (hres : act d x = res) (hbad : ¬ badOp x) (hk1 : x.kind = 1) : Gives Try.prog 31 #[.pointer (some ⟨g, 0, none⟩), opV x hx] w fun r w' => ∃ B', r = .int .i64 res.2 ∧ Now w (foots [dskA 64 71 23 g d B]) w' [dskA 64 71 23 g res.1 B'] := by
  unfold opV
  refine Gives.start Try.func31 rfl (Nat.le_of_ble_eq_true rfl) ?_
  rw [args2]
  have hfs := hfit.size
  have hfr := hfit.room
  have hfl := hfit.loose
  have hff := hfit.files
  refine RW.seq ?_
  replace hN := hN.sub (M := [dskA 64 71 23 g d B]) [0] (by decide) rfl
  have hN2_ := dsk_open (R := []) hN
  clear hN
  obtain ⟨m, rs, clock, Bf, hw, hN⟩ := hN2_
  replace hN : Now w (foots [dskA 64 71 23 g d B]) w [.blk g [.int .i64 (d.room), .map (some m)] 64, .mp str m (rs.map Rec.ent) (clock), .each (IsFile 71 23) Bf rs] := hN
  have hrl := hw.length
  refine RW.region ?_
  refine RL.op rfl rfl (opN_box (cs := [.int .i64 (x.kind), (str x.name), (str x.to), (vh hx)]) rfl rfl hN ?_)
  intro g2 w2 hN_
  clear hN
  have hN : Now w (foots [dskA 64 71 23 g d B]) w2 [_, _, _, _] := hN_
  clear hN_
  refine RL.ev rfl rfl ev_assign ?_
  refine RL.nil ?_
  refine thenN ?_
  refine RW.seq ?_
  refine RW.seq ?_
  refine RW.draw rfl (fun u => Now w (foots [dskA 64 71 23 g d B]) u [.blk g2 [.int .i64 (x.kind), (str x.name), (str x.to), (vh hx)] 33, .blk g [.int .i64 (d.room), .map (some m)] 64, .mp str m (rs.map Rec.ent) (clock), .each (IsFile 71 23) Bf rs]) ?_
  replace hN := hN.ext (Ext.drew w2)
  refine RA.take (i := 0) rfl rfl (by kernel_rfl) (by kernel_rfl) (by kernel_rfl) (by intro _ _ _ h; exact h) rfl hN (fun w hS => (ev_fieldAddr Try.underlying33 rfl sz23 (by decide) rfl)) ?_
  refine RA.take (i := 1) rfl rfl (by kernel_rfl) (by kernel_rfl) (by kernel_rfl) (by intro _ _ _ h; exact h) rfl hN (fun w hS => (ev_loadB Try.underlying23 rfl rfl (hS.blk 0 rfl) rfl)) ?_
  have hL_3 := (hdat.now hN).len_le
  refine RA.take (i := 2) rfl rfl (by kernel_rfl) (by kernel_rfl) (by kernel_rfl) (by intro _ _ _ h; exact h) rfl hN (fun w hS => (ev_lenS Try.underlying23 (hdat.now hS) rfl)) ?_
  refine RA.take (i := 3) rfl rfl (by kernel_rfl) (by kernel_rfl) (by kernel_rfl) (by intro _ _ _ h; exact h) rfl hN (fun w hS => ev_move) ?_
  refine RA.take (i := 4) rfl rfl (by kernel_rfl) (by kernel_rfl) (by kernel_rfl) (by intro _ _ _ h; exact h) rfl hN (fun w hS => (ev_nilCheck rfl)) ?_
  refine RA.take (i := 5) rfl rfl (by kernel_rfl) (by kernel_rfl) (by kernel_rfl) (by intro _ _ _ h; exact h) rfl hN (fun w hS => (ev_fieldAddr Try.underlying64 rfl sz3 (by decide) rfl)) ?_
  refine RA.take (i := 6) rfl rfl (by kernel_rfl) (by kernel_rfl) (by kernel_rfl) (by intro _ _ _ h; exact h) rfl hN (fun w hS => (ev_loadB Try.underlying3 rfl rfl (hS.blk 1 rfl) rfl)) ?_
  refine RA.take (i := 7) rfl rfl (by kernel_rfl) (by kernel_rfl) (by kernel_rfl) (by intro _ _ _ h; exact h) rfl hN (fun w hS => ev_move) ?_
  refine RA.only (i := 8) (by kernel_rfl) rfl rfl rfl (op_call1 Try.func24 rfl rfl rfl ((size_calls _ d _ _ ⟨m, rs, clock, DkF.of (Ew := 23) (Bf := Bf) (R := []) hw (hN.sub [1, 2, 3] (by decide) rfl)⟩ hfit hn).mono ?_))
  rintro _ w4 ⟨rfl, he_⟩
  replace hN := hN.ext he_
  clear he_
  refine ⟨hN, ?_⟩
  refine RA.take (i := 9) rfl rfl (by kernel_rfl) (by kernel_rfl) (by kernel_rfl) (by intro _ _ _ h; exact h) rfl hN (fun w hS => (ev_arith rfl rfl rfl (sub64 (by omega) (by omega)))) ?_
  refine RA.take (i := 10) rfl rfl (by kernel_rfl) (by kernel_rfl) (by kernel_rfl) (by intro _ _ _ h; exact h) rfl hN (fun w hS => (ev_gtr rfl rfl)) ?_
  refine RA.done (by kernel_rfl) ?_
  refine thenN ?_
  refine RW.condP _ rfl (fun hfull => ?_) (fun hfull => ?_)
  · skip
    refine RW.seq ?_
    refine RW.region ?_
    refine RL.ev rfl rfl ev_assign ?_
    refine RL.nil ?_
    refine thenN ?_
    refine RW.ret ?_
    refine thenR ?_
    refine retI (RV.tmp rfl) ?_
    have hr_ : res = (d, 11) := by
      rw [← hres]
      unfold Disk.act
      rw [if_neg hbad, if_pos hk1, if_pos (by omega)]
    subst hr_
    replace hN := hN.sub (M := [.blk g [.int .i64 (d.room), .map (some m)] 64, .mp str m (rs.map Rec.ent) (clock), .each (IsFile 71 23) Bf rs, .blk g2 [.int .i64 (x.kind), (str x.name), (str x.to), (vh hx)] 33]) [1, 2, 3, 0] (by decide) rfl
    have hN2_ := dsk_close (Td := 64) (R := [_]) hw hN
    clear hN
    obtain ⟨B2, hN⟩ := hN2_
    exact ⟨B2, rfl, hN.sub [0] (by decide) rfl⟩
  · skip
    refine RW.skip ?_
    refine thenN ?_
    refine RW.seq ?_
    refine RW.draw rfl (fun u => Now w (foots [dskA 64 71 23 g d B]) u [.blk g2 [.int .i64 (x.kind), (str x.name), (str x.to), (vh hx)] 33, .blk g [.int .i64 (d.room), .map (some m)] 64, .mp str m (rs.map Rec.ent) (clock), .each (IsFile 71 23) Bf rs]) ?_
    replace hN := hN.ext (Ext.drew w4)
    refine RA.take (i := 0) rfl rfl (by kernel_rfl) (by kernel_rfl) (by kernel_rfl) (by intro _ _ _ h; exact h) rfl hN (fun w hS => ev_move) ?_
    refine RA.take (i := 1) rfl rfl (by kernel_rfl) (by kernel_rfl) (by kernel_rfl) (by intro _ _ _ h; exact h) rfl hN (fun w hS => (ev_nilCheck rfl)) ?_
    refine RA.take (i := 2) rfl rfl (by kernel_rfl) (by kernel_rfl) (by kernel_rfl) (by intro _ _ _ h; exact h) rfl hN (fun w hS => (ev_fieldAddr Try.underlying64 rfl sz62 (by decide) rfl)) ?_
    refine RA.take (i := 3) rfl rfl (by kernel_rfl) (by kernel_rfl) (by kernel_rfl) (by intro _ _ _ h; exact h) rfl hN (fun w hS => (ev_loadB Try.underlying62 rfl rfl (hS.blk 1 rfl) rfl)) ?_
    refine RA.take (i := 4) rfl rfl (by kernel_rfl) (by kernel_rfl) (by kernel_rfl) (by intro _ _ _ h; exact h) rfl hN (fun w hS => (ev_fieldAddr Try.underlying33 rfl sz9 (by decide) rfl)) ?_
    refine RA.take (i := 5) rfl rfl (by kernel_rfl) (by kernel_rfl) (by kernel_rfl) (by intro _ _ _ h; exact h) rfl hN (fun w hS => (ev_loadB Try.underlying9 rfl rfl (hS.blk 0 rfl) rfl)) ?_
    have hOb_ := opt_cases (find x.name d.fs)
    rcases hOb_ with hfd | ⟨f, hfd⟩
    · skip
      refine RA.take (i := 6) rfl rfl (by kernel_rfl) (by kernel_rfl) (by kernel_rfl) (by intro _ _ _ h; exact h) rfl hN (fun w hS => (ev_lookF Try.underlying62 (ke_str Try.underlying9) zero66 (hS.mp 2 rfl) rfl rfl (hw.kNone hfd))) ?_
      refine RA.take (i := 7) rfl rfl (by kernel_rfl) (by kernel_rfl) (by kernel_rfl) (by intro _ _ _ h; exact h) rfl hN (fun w hS => ev_move) ?_
      refine RA.take (i := 8) rfl rfl (by kernel_rfl) (by kernel_rfl) (by kernel_rfl) (by intro _ _ _ h; exact h) rfl hN (fun w hS => (ev_extract rfl rfl)) ?_
      refine RA.take (i := 9) rfl rfl (by kernel_rfl) (by kernel_rfl) (by kernel_rfl) (by intro _ _ _ h; exact h) rfl hN (fun w hS => (ev_extract rfl rfl)) ?_
      refine RA.take (i := 10) rfl rfl (by kernel_rfl) (by kernel_rfl) (by kernel_rfl) (by intro _ _ _ h; exact h) rfl hN (fun w hS => ev_assign) ?_
      refine RA.take (i := 11) rfl rfl (by kernel_rfl) (by kernel_rfl) (by kernel_rfl) (by intro _ _ _ h; exact h) rfl hN (fun w hS => ev_assign) ?_
      refine RA.done (by kernel_rfl) ?_
      refine thenN ?_
      refine RW.seq ?_
      refine RW.seq ?_
      refine RW.region ?_
      refine RL.ev rfl rfl ev_move ?_
      refine RL.ev rfl rfl (ev_not rfl) ?_
      refine RL.nil ?_
      refine thenN ?_
      refine RW.condT rfl ?_
      refine RW.seq ?_
      refine RW.region ?_
      refine RL.ev rfl rfl (ev_buildL (cs := [.slice none 0 0, .slice none 0 0]) Try.underlying71 zero71 (places := #[(0, 1), (1, 1)]) (by intro w; kernel_rfl) (pl := []) rfl (ps := []) rfl (zc := [.slice none 0 0, .slice none 0 0]) rfl rfl) ?_
      refine RL.op rfl rfl (opN_box (cs := [.slice none 0 0, .slice none 0 0]) rfl rfl hN ?_)
      intro g5 w5 hN_
      clear hN
      have hN : Now w (foots [dskA 64 71 23 g d B]) w5 [_, _, _, _, _] := hN_
      clear hN_
      refine RL.ev rfl rfl ev_assign ?_
      refine RL.nil ?_
      refine thenN ?_
      refine RW.draw rfl (fun u => Now w (foots [dskA 64 71 23 g d B]) u [.blk g5 [.slice none 0 0, .slice none 0 0] 71, .blk g2 [.int .i64 (x.kind), (str x.name), (str x.to), (vh hx)] 33, .blk g [.int .i64 (d.room), .map (some m)] 64, .each (IsFile 71 23) Bf rs]) ?_
      replace hN := hN.ext (Ext.drew w5)
      refine RA.take (i := 0) rfl rfl (by kernel_rfl) (by kernel_rfl) (by kernel_rfl) (by intro _ _ _ h; exact h) rfl (hN.sub [0, 1, 2, 4] (by decide) rfl) (fun w hS => ev_move) ?_
      refine RA.take (i := 1) rfl rfl (by kernel_rfl) (by kernel_rfl) (by kernel_rfl) (by intro _ _ _ h; exact h) rfl (hN.sub [0, 1, 2, 4] (by decide) rfl) (fun w hS => (ev_nilCheck rfl)) ?_
      refine RA.take (i := 2) rfl rfl (by kernel_rfl) (by kernel_rfl) (by kernel_rfl) (by intro _ _ _ h; exact h) rfl (hN.sub [0, 1, 2, 4] (by decide) rfl) (fun w hS => (ev_fieldAddr Try.underlying64 rfl sz62 (by decide) rfl)) ?_
      refine RA.take (i := 3) rfl rfl (by kernel_rfl) (by kernel_rfl) (by kernel_rfl) (by intro _ _ _ h; exact h) rfl (hN.sub [0, 1, 2, 4] (by decide) rfl) (fun w hS => (ev_loadB Try.underlying62 rfl rfl (hS.blk 2 rfl) rfl)) ?_
      refine RA.take (i := 4) rfl rfl (by kernel_rfl) (by kernel_rfl) (by kernel_rfl) (by intro _ _ _ h; exact h) rfl (hN.sub [0, 1, 2, 4] (by decide) rfl) (fun w hS => (ev_fieldAddr Try.underlying33 rfl sz9 (by decide) rfl)) ?_
      refine RA.take (i := 5) rfl rfl (by kernel_rfl) (by kernel_rfl) (by kernel_rfl) (by intro _ _ _ h; exact h) rfl (hN.sub [0, 1, 2, 4] (by decide) rfl) (fun w hS => (ev_loadB Try.underlying9 rfl rfl (hS.blk 1 rfl) rfl)) ?_
      refine RA.take (i := 6) rfl rfl (by kernel_rfl) (by kernel_rfl) (by kernel_rfl) (by intro _ _ _ h; exact h) rfl (hN.sub [0, 1, 2, 4] (by decide) rfl) (fun w hS => ev_move) ?_
      refine RA.only (i := 7) (by kernel_rfl) rfl rfl rfl (opN_mapNew (a := x.name) (v := .pointer (some ⟨g5, 0, none⟩)) Try.underlying62 (ke_str Try.underlying9) hN 3 rfl rfl rfl rfl (hw.kNone hfd) ?_)
      intro w6 hN_
      clear hN
      have hN : Now w (foots [dskA 64 71 23 g d B]) w6 [_, _, _, _, _] := hN_
      clear hN_
      refine ⟨(hN.sub [0, 1, 2, 4] (by decide) rfl), ?_⟩
      refine RA.done (by kernel_rfl) ?_
      refine thenN ?_
      refine RW.seq ?_
      replace hN := hN.addNil vh 23
      replace hN := hN.famNil vb
      replace hN := Now.addSlNil hN
      replace hN : Now w (foots [dskA 64 71 23 g d B]) w6 [.sl vb (.slice none 0 0) ([]), .fam vb ([]) ([]), .own vh 23 (.slice none 0 0) ([]), .blk g5 [.slice none 0 0, .slice none 0 0] 71, .blk g2 [.int .i64 (x.kind), (str x.name), (str x.to), (vh hx)] 33, .blk g [.int .i64 (d.room), .map (some m)] 64, .mp str m (rs.map Rec.ent ++ [(x.name, .pointer (some ⟨g5, 0, none⟩), clock)]) (clock + 1), .each (IsFile 71 23) Bf rs] := hN
      refine RW.drawE rfl (fun u => Now w (foots [dskA 64 71 23 g d B]) u [.sl vb (.slice none 0 0) ([]), .fam vb ([]) ([]), .blk g5 [.slice none 0 0, .slice none 0 0] 71, .blk g2 [.int .i64 (x.kind), (str x.name), (str x.to), (vh hx)] 33, .blk g [.int .i64 (d.room), .map (some m)] 64, .mp str m (rs.map Rec.ent ++ [(x.name, .pointer (some ⟨g5, 0, none⟩), clock)]) (clock + 1), .each (IsFile 71 23) Bf rs]) 12 ?_
      replace hN := hN.ext (Ext.drew w6)
      refine RE.take (i := 0) rfl (by decide) (by kernel_rfl) rfl (by kernel_rfl) (by kernel_rfl) (by kernel_rfl) (by intro _ _ _ h; exact h) rfl (hN.sub [0, 1, 3, 4, 5, 6, 7] (by decide) rfl) (fun w hS => ev_move) ?_
      refine RE.take (i := 1) rfl (by decide) (by kernel_rfl) rfl (by kernel_rfl) (by kernel_rfl) (by kernel_rfl) (by intro _ _ _ h; exact h) rfl (hN.sub [0, 1, 3, 4, 5, 6, 7] (by decide) rfl) (fun w hS => ev_move) ?_
      refine RE.take (i := 2) rfl (by decide) (by kernel_rfl) rfl (by kernel_rfl) (by kernel_rfl) (by kernel_rfl) (by intro _ _ _ h; exact h) rfl (hN.sub [0, 1, 3, 4, 5, 6, 7] (by decide) rfl) (fun w hS => (ev_nilCheck rfl)) ?_
      refine RE.take (i := 3) rfl (by decide) (by kernel_rfl) rfl (by kernel_rfl) (by kernel_rfl) (by kernel_rfl) (by intro _ _ _ h; exact h) rfl (hN.sub [0, 1, 3, 4, 5, 6, 7] (by decide) rfl) (fun w hS => (ev_fieldAddr Try.underlying71 rfl sz69 (by decide) rfl)) ?_
      refine RE.take (i := 4) rfl (by decide) (by kernel_rfl) rfl (by kernel_rfl) (by kernel_rfl) (by kernel_rfl) (by intro _ _ _ h; exact h) rfl (hN.sub [0, 1, 3, 4, 5, 6, 7] (by decide) rfl) (fun w hS => (ev_loadB Try.underlying69 rfl rfl (hS.blk 2 rfl) rfl)) ?_
      refine RE.take (i := 5) rfl (by decide) (by kernel_rfl) rfl (by kernel_rfl) (by kernel_rfl) (by kernel_rfl) (by intro _ _ _ h; exact h) rfl (hN.sub [0, 1, 3, 4, 5, 6, 7] (by decide) rfl) (fun w hS => (ev_fieldAddr Try.underlying33 rfl sz23 (by decide) rfl)) ?_
      refine RE.take (i := 6) rfl (by decide) (by kernel_rfl) rfl (by kernel_rfl) (by kernel_rfl) (by kernel_rfl) (by intro _ _ _ h; exact h) rfl (hN.sub [0, 1, 3, 4, 5, 6, 7] (by decide) rfl) (fun w hS => (ev_loadB Try.underlying23 rfl rfl (hS.blk 3 rfl) rfl)) ?_
      refine RE.only (i := 7) (by kernel_rfl) rfl rfl rfl (op_call1 Try.func44 rfl rfl rfl ((clone_calls _ x.data _ (hdat.now hN) (by omega)).mono ?_))
      rintro v7 w7 ⟨ho_, he_⟩
      have hN_ := hN.pushOwn (l := x.data) ho_ he_
      clear ho_ he_
      clear hN
      have hN : Now w (foots [dskA 64 71 23 g d B]) w7 [_, _, _, _, _, _, _, _, _] := hN_
      clear hN_
      refine ⟨(hN.sub [1, 2, 4, 5, 6, 7, 8] (by decide) rfl), ?_⟩
      have hOb_ := (hN.sl 0 rfl).hd
      obtain ⟨h9, hq_⟩ := hOb_
      subst hq_
      refine RE.only (i := 8) (by kernel_rfl) rfl rfl rfl (opN_lit (enc := vh) (l := [h9]) (xs := [.tmp 46]) Try.underlying69 sz23 zr23 rfl rfl (fun _ => rfl) rfl (by decide) (by decide) hN ?_)
      intro g8 w8 hN_
      clear hN
      have hN : Now w (foots [dskA 64 71 23 g d B]) w8 [_, _, _, _, _, _, _, _, _, _] := hN_
      clear hN_
      refine ⟨(hN.sub [2, 3, 5, 6, 7, 8, 9] (by decide) rfl), ?_⟩
      refine RE.only (i := 9) (by kernel_rfl) rfl rfl rfl (opN_append Try.underlying69 inf23 rfl vh_one hN 4 rfl rfl (hN.sl 0 rfl) rfl (by simp only [List.length_singleton, List.length_cons, List.length_nil]; omega) (by decide) ?_)
      intro v10 w10 hN_
      clear hN
      have hN : Now w (foots [dskA 64 71 23 g d B]) w10 [_, _, _, _, _, _, _, _, _, _] := hN_
      clear hN_
      replace hN := hN.relist 4 rfl (show _ = [h9] from List.nil_append _)
      replace hN : Now w (foots [dskA 64 71 23 g d B]) w10 [_, _, _, _, _, _, _, _, _, _] := hN
      refine ⟨(hN.sub [2, 3, 5, 6, 7, 8, 9] (by decide) rfl), ?_⟩
      refine RE.only (i := 10) (by kernel_rfl) rfl rfl rfl (OpR.ev (ev_nilCheck rfl) ⟨(hN.sub [2, 3, 5, 6, 7, 8, 9] (by decide) rfl), ?_⟩)
      refine RE.take (i := 11) rfl (by decide) (by kernel_rfl) rfl (by kernel_rfl) (by kernel_rfl) (by kernel_rfl) (by intro _ _ _ h; exact h) rfl (hN.sub [2, 3, 5, 6, 7, 8, 9] (by decide) rfl) (fun w hS => (ev_fieldAddr Try.underlying71 rfl sz69 (by decide) rfl)) ?_
      refine RE.last (by kernel_rfl) rfl rfl rfl (opN_store sz69 rfl rfl (hN.sl 4 rfl).cells1 (hN.sl 4 rfl).one1 hN 5 rfl (Nat.le_of_ble_eq_true rfl) ?_)
      intro w11 hN_
      clear hN
      have hN : Now w (foots [dskA 64 71 23 g d B]) w11 [_, _, _, _, _, _, _, _, _, _] := hN_
      clear hN_
      refine RE.done (by kernel_rfl) ?_
      refine thenN ?_
      refine RW.seq ?_
      refine RW.region ?_
      refine RL.ev rfl rfl ev_assign ?_
      refine RL.nil ?_
      refine thenN ?_
      refine RW.ret ?_
      refine retI (RV.tmp rfl) ?_
      have hN_ := Now.famPush (L := [_, _, _, _, _, _, _, _, _]) (hN.sub [1, 0, 2, 3, 4, 5, 6, 7, 8, 9] (by decide) rfl) 2 rfl
      clear hN
      have hN : Now w (foots [dskA 64 71 23 g d B]) w11 [_, _, _, _, _, _, _, _, _] := hN_
      clear hN_
      have hm_ : (rs ++ [(⟨x.name, g5, clock, [], [] ++ [x.data]⟩ : Rec)]).map Rec.ent = rs.map Rec.ent ++ [(x.name, .pointer (some ⟨g5, 0, none⟩), clock)] := by rw [List.map_append]; rfl
      rw [← hm_] at hN
      replace hN := hN.sub (M := [.blk g5 [.slice none 0 0, v10] 71, .sl vb (.slice none 0 0) ([]), .own vh 23 (v10) ([h9]), .fam vb ([] ++ [h9]) ([] ++ [x.data]), .each (IsFile 71 23) Bf rs, .own vh 23 (.slice (some ⟨g8, 0, none⟩) 1 1) ([h9]), .blk g2 [.int .i64 (x.kind), (str x.name), (str x.to), (vh hx)] 33, .blk g [.int .i64 (d.room), .map (some m)] 64, .mp str m ((rs ++ [(⟨x.name, g5, clock, [], [] ++ [x.data]⟩ : Rec)]).map Rec.ent) (clock + 1)]) [4, 1, 3, 2, 8, 0, 5, 6, 7] (by decide) rfl
      have hN2_ := file_add (r' := ⟨x.name, g5, clock, [], [] ++ [x.data]⟩) (R := [_, _, _, _]) hN
      clear hN
      obtain ⟨Bf2, hN⟩ := hN2_
      replace hN : Now w (foots [dskA 64 71 23 g d B]) w11 [.each (IsFile 71 23) Bf2 (rs ++ [(⟨x.name, g5, clock, [], [] ++ [x.data]⟩ : Rec)]), .own vh 23 (.slice (some ⟨g8, 0, none⟩) 1 1) ([h9]), .blk g2 [.int .i64 (x.kind), (str x.name), (str x.to), (vh hx)] 33, .blk g [.int .i64 (d.room), .map (some m)] 64, .mp str m ((rs ++ [(⟨x.name, g5, clock, [], [] ++ [x.data]⟩ : Rec)]).map Rec.ent) (clock + 1)] := hN
      replace hN := hN.sub (M := [.blk g [.int .i64 (d.room), .map (some m)] 64, .mp str m ((rs ++ [(⟨x.name, g5, clock, [], [] ++ [x.data]⟩ : Rec)]).map Rec.ent) (clock + 1), .each (IsFile 71 23) Bf2 (rs ++ [(⟨x.name, g5, clock, [], [] ++ [x.data]⟩ : Rec)]), .own vh 23 (.slice (some ⟨g8, 0, none⟩) 1 1) ([h9]), .blk g2 [.int .i64 (x.kind), (str x.name), (str x.to), (vh hx)] 33]) [3, 4, 0, 1, 2] (by decide) rfl
      have hN2_ := dsk_close (Td := 64) (R := [_, _]) (hw.new (p := g5) (ws := [] ++ [x.data]) hfd) hN
      clear hN
      obtain ⟨B2, hN⟩ := hN2_
      have hr_ : res = ((⟨d.room, putIn ⟨x.name, [], [] ++ [x.data]⟩ d.fs⟩ : Dk), 0) := by
        rw [← hres]
        unfold Disk.act
        rw [if_neg hbad, if_pos hk1, if_neg (by omega)]
        rw [hfd]
      subst hr_
      exact ⟨B2, rfl, hN.sub [0] (by decide) rfl⟩
    · skip
      have hOb_ := hw.kSome hfd
      obtain ⟨i, r, hi, hrf, hrn, hk⟩ := hOb_
      have hrm := List.mem_of_getElem? hi
      have hlw := hfit.fileWs hn hw hrm
      refine RA.take (i := 6) rfl rfl (by kernel_rfl) (by kernel_rfl) (by kernel_rfl) (by intro _ _ _ h; exact h) rfl hN (fun w hS => (ev_lookT (v := .pointer (some ⟨r.ptr, 0, none⟩)) Try.underlying62 (ke_str Try.underlying9) (hS.mp 2 rfl) rfl rfl hk)) ?_
      refine RA.take (i := 7) rfl rfl (by kernel_rfl) (by kernel_rfl) (by kernel_rfl) (by intro _ _ _ h; exact h) rfl hN (fun w hS => ev_move) ?_
      refine RA.take (i := 8) rfl rfl (by kernel_rfl) (by kernel_rfl) (by kernel_rfl) (by intro _ _ _ h; exact h) rfl hN (fun w hS => (ev_extract rfl rfl)) ?_
      refine RA.take (i := 9) rfl rfl (by kernel_rfl) (by kernel_rfl) (by kernel_rfl) (by intro _ _ _ h; exact h) rfl hN (fun w hS => (ev_extract rfl rfl)) ?_
      refine RA.take (i := 10) rfl rfl (by kernel_rfl) (by kernel_rfl) (by kernel_rfl) (by intro _ _ _ h; exact h) rfl hN (fun w hS => ev_assign) ?_
      refine RA.take (i := 11) rfl rfl (by kernel_rfl) (by kernel_rfl) (by kernel_rfl) (by intro _ _ _ h; exact h) rfl hN (fun w hS => ev_assign) ?_
      refine RA.done (by kernel_rfl) ?_
      refine thenN ?_
      refine RW.seq ?_
      refine RW.seq ?_
      replace hN := hN.sub (M := [.each (IsFile 71 23) Bf rs, .blk g2 [.int .i64 (x.kind), (str x.name), (str x.to), (vh hx)] 33, .blk g [.int .i64 (d.room), .map (some m)] 64, .mp str m (rs.map Rec.ent) (clock)]) [3, 0, 1, 2] (by decide) rfl
      have hN2_ := file_open (R := [_, _, _]) hi hN
      clear hN
      obtain ⟨h0, h1, hs, Bf1, hN⟩ := hN2_
      replace hN : Now w (foots [dskA 64 71 23 g d B]) w4.drew [.blk r.ptr [(vh h0), (vh h1)] 71, .sl vb ((vh h0)) (r.firm), .own vh 23 ((vh h1)) (hs), .fam vb (hs) (r.ws), .each (IsFile 71 23) Bf1 (rs.eraseIdx i), .blk g2 [.int .i64 (x.kind), (str x.name), (str x.to), (vh hx)] 33, .blk g [.int .i64 (d.room), .map (some m)] 64, .mp str m (rs.map Rec.ent) (clock)] := hN
      have hlh := (hN.els 3 rfl).1
      refine RW.region ?_
      refine RL.ev rfl rfl ev_move ?_
      refine RL.ev rfl rfl (ev_not rfl) ?_
      refine RL.nil ?_
      refine thenN ?_
      refine RW.condF rfl ?_
      refine RW.skip ?_
      refine thenN ?_
      refine RW.seq ?_
      refine RW.drawE rfl (fun u => Now w (foots [dskA 64 71 23 g d B]) u [.blk r.ptr [(vh h0), (vh h1)] 71, .sl vb ((vh h0)) (r.firm), .fam vb (hs) (r.ws), .each (IsFile 71 23) Bf1 (rs.eraseIdx i), .blk g2 [.int .i64 (x.kind), (str x.name), (str x.to), (vh hx)] 33, .blk g [.int .i64 (d.room), .map (some m)] 64, .mp str m (rs.map Rec.ent) (clock)]) 12 ?_
      replace hN := hN.ext (Ext.drew w4.drew)
      refine RE.take (i := 0) rfl (by decide) (by kernel_rfl) rfl (by kernel_rfl) (by kernel_rfl) (by kernel_rfl) (by intro _ _ _ h; exact h) rfl (hN.sub [0, 1, 3, 4, 5, 6, 7] (by decide) rfl) (fun w hS => ev_move) ?_
      refine RE.take (i := 1) rfl (by decide) (by kernel_rfl) rfl (by kernel_rfl) (by kernel_rfl) (by kernel_rfl) (by intro _ _ _ h; exact h) rfl (hN.sub [0, 1, 3, 4, 5, 6, 7] (by decide) rfl) (fun w hS => ev_move) ?_
      refine RE.take (i := 2) rfl (by decide) (by kernel_rfl) rfl (by kernel_rfl) (by kernel_rfl) (by kernel_rfl) (by intro _ _ _ h; exact h) rfl (hN.sub [0, 1, 3, 4, 5, 6, 7] (by decide) rfl) (fun w hS => (ev_nilCheck rfl)) ?_
      refine RE.take (i := 3) rfl (by decide) (by kernel_rfl) rfl (by kernel_rfl) (by kernel_rfl) (by kernel_rfl) (by intro _ _ _ h; exact h) rfl (hN.sub [0, 1, 3, 4, 5, 6, 7] (by decide) rfl) (fun w hS => (ev_fieldAddr Try.underlying71 rfl sz69 (by decide) rfl)) ?_
      refine RE.take (i := 4) rfl (by decide) (by kernel_rfl) rfl (by kernel_rfl) (by kernel_rfl) (by kernel_rfl) (by intro _ _ _ h; exact h) rfl (hN.sub [0, 1, 3, 4, 5, 6, 7] (by decide) rfl) (fun w hS => (ev_loadB Try.underlying69 rfl rfl (hS.blk 0 rfl) rfl)) ?_
      refine RE.take (i := 5) rfl (by decide) (by kernel_rfl) rfl (by kernel_rfl) (by kernel_rfl) (by kernel_rfl) (by intro _ _ _ h; exact h) rfl (hN.sub [0, 1, 3, 4, 5, 6, 7] (by decide) rfl) (fun w hS => (ev_fieldAddr Try.underlying33 rfl sz23 (by decide) rfl)) ?_
      refine RE.take (i := 6) rfl (by decide) (by kernel_rfl) rfl (by kernel_rfl) (by kernel_rfl) (by kernel_rfl) (by intro _ _ _ h; exact h) rfl (hN.sub [0, 1, 3, 4, 5, 6, 7] (by decide) rfl) (fun w hS => (ev_loadB Try.underlying23 rfl rfl (hS.blk 4 rfl) rfl)) ?_
      refine RE.only (i := 7) (by kernel_rfl) rfl rfl rfl (op_call1 Try.func44 rfl rfl rfl ((clone_calls _ x.data _ (hdat.now hN) (by omega)).mono ?_))
      rintro v12 w12 ⟨ho_, he_⟩
      have hN_ := hN.pushOwn (l := x.data) ho_ he_
      clear ho_ he_
      clear hN
      have hN : Now w (foots [dskA 64 71 23 g d B]) w12 [_, _, _, _, _, _, _, _, _] := hN_
      clear hN_
      refine ⟨(hN.sub [1, 2, 4, 5, 6, 7, 8] (by decide) rfl), ?_⟩
      have hOb_ := (hN.sl 0 rfl).hd
      obtain ⟨h14, hq_⟩ := hOb_
      subst hq_
      refine RE.only (i := 8) (by kernel_rfl) rfl rfl rfl (opN_lit (enc := vh) (l := [h14]) (xs := [.tmp 46]) Try.underlying69 sz23 zr23 rfl rfl (fun _ => rfl) rfl (by decide) (by decide) hN ?_)
      intro g13 w13 hN_
      clear hN
      have hN : Now w (foots [dskA 64 71 23 g d B]) w13 [_, _, _, _, _, _, _, _, _, _] := hN_
      clear hN_
      refine ⟨(hN.sub [2, 3, 5, 6, 7, 8, 9] (by decide) rfl), ?_⟩
      refine RE.only (i := 9) (by kernel_rfl) rfl rfl rfl (opN_append Try.underlying69 inf23 rfl vh_one hN 4 rfl rfl (hN.sl 0 rfl) rfl (by simp only [List.length_singleton, List.length_cons, List.length_nil]; omega) (by decide) ?_)
      intro v15 w15 hN_
      clear hN
      have hN : Now w (foots [dskA 64 71 23 g d B]) w15 [_, _, _, _, _, _, _, _, _, _] := hN_
      clear hN_
      refine ⟨(hN.sub [2, 3, 5, 6, 7, 8, 9] (by decide) rfl), ?_⟩
      refine RE.only (i := 10) (by kernel_rfl) rfl rfl rfl (OpR.ev (ev_nilCheck rfl) ⟨(hN.sub [2, 3, 5, 6, 7, 8, 9] (by decide) rfl), ?_⟩)
      refine RE.take (i := 11) rfl (by decide) (by kernel_rfl) rfl (by kernel_rfl) (by kernel_rfl) (by kernel_rfl) (by intro _ _ _ h; exact h) rfl (hN.sub [2, 3, 5, 6, 7, 8, 9] (by decide) rfl) (fun w hS => (ev_fieldAddr Try.underlying71 rfl sz69 (by decide) rfl)) ?_
      refine RE.last (by kernel_rfl) rfl rfl rfl (opN_store sz69 rfl rfl (hN.sl 4 rfl).cells1 (hN.sl 4 rfl).one1 hN 2 rfl (Nat.le_of_ble_eq_true rfl) ?_)
      intro w16 hN_
      clear hN
      have hN : Now w (foots [dskA 64 71 23 g d B]) w16 [_, _, _, _, _, _, _, _, _, _] := hN_
      clear hN_
      refine RE.done (by kernel_rfl) ?_
      refine thenN ?_
      refine RW.seq ?_
      refine RW.region ?_
      refine RL.ev rfl rfl ev_assign ?_
      refine RL.nil ?_
      refine thenN ?_
      refine RW.ret ?_
      refine retI (RV.tmp rfl) ?_
      have hN_ := Now.famPush (L := [_, _, _, _, _, _, _, _, _]) (hN.sub [1, 0, 2, 3, 4, 5, 6, 7, 8, 9] (by decide) rfl) 4 rfl
      clear hN
      have hN : Now w (foots [dskA 64 71 23 g d B]) w16 [_, _, _, _, _, _, _, _, _] := hN_
      clear hN_
      replace hN := hN.sub (M := [.blk r.ptr [(vh h0), v15] 71, .sl vb ((vh h0)) (r.firm), .own vh 23 (v15) (hs ++ [h14]), .fam vb (hs ++ [h14]) (r.ws ++ [x.data]), .each (IsFile 71 23) Bf1 (rs.eraseIdx i), .own vh 23 (.slice (some ⟨g13, 0, none⟩) 1 1) ([h14]), .blk g2 [.int .i64 (x.kind), (str x.name), (str x.to), (vh hx)] 33, .blk g [.int .i64 (d.room), .map (some m)] 64, .mp str m (rs.map Rec.ent) (clock)]) [1, 2, 3, 4, 5, 0, 6, 7, 8] (by decide) rfl
      have hN2_ := file_in (r' := ⟨r.name, r.ptr, r.born, r.firm, r.ws ++ [x.data]⟩) (R := [_, _, _, _]) hi hN
      clear hN
      obtain ⟨Bf2, hN⟩ := hN2_
      rw [← ent_set (r' := ⟨r.name, r.ptr, r.born, r.firm, r.ws ++ [x.data]⟩) hi rfl] at hN
      replace hN : Now w (foots [dskA 64 71 23 g d B]) w16 [.each (IsFile 71 23) Bf2 (rs.set i ⟨r.name, r.ptr, r.born, r.firm, r.ws ++ [x.data]⟩), .own vh 23 (.slice (some ⟨g13, 0, none⟩) 1 1) ([h14]), .blk g2 [.int .i64 (x.kind), (str x.name), (str x.to), (vh hx)] 33, .blk g [.int .i64 (d.room), .map (some m)] 64, .mp str m ((rs.set i ⟨r.name, r.ptr, r.born, r.firm, r.ws ++ [x.data]⟩).map Rec.ent) (clock)] := hN
      replace hN := hN.sub (M := [.blk g [.int .i64 (d.room), .map (some m)] 64, .mp str m ((rs.set i ⟨r.name, r.ptr, r.born, r.firm, r.ws ++ [x.data]⟩).map Rec.ent) (clock), .each (IsFile 71 23) Bf2 (rs.set i ⟨r.name, r.ptr, r.born, r.firm, r.ws ++ [x.data]⟩), .own vh 23 (.slice (some ⟨g13, 0, none⟩) 1 1) ([h14]), .blk g2 [.int .i64 (x.kind), (str x.name), (str x.to), (vh hx)] 33]) [3, 4, 0, 1, 2] (by decide) rfl
      have hN2_ := dsk_close (Td := 64) (R := [_, _]) (hw.set (ws := r.ws ++ [x.data]) hi) hN
      clear hN
      obtain ⟨B2, hN⟩ := hN2_
      have hr_ : res = ((⟨d.room, putIn ⟨r.name, r.firm, r.ws ++ [x.data]⟩ d.fs⟩ : Dk), 0) := by
        rw [← hres]
        unfold Disk.act
        rw [if_neg hbad, if_pos hk1, if_neg (by omega)]
        rw [hfd, ← hrf]; rfl
      subst hr_
      exact ⟨B2, rfl, hN.sub [0] (by decide) rfl⟩

end Go.Proofs.Ytlblpiapeieofaa
