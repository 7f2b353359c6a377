import Derived.Test.YtlblpiapeieofaaDiskW3
set_option linter.unusedVariables false
set_option linter.unusedSimpArgs false
namespace Go.Proofs.Ytlblpiapeieofaa
open Go.RowKit Go.Rl

open Go.Disk
set_option maxHeartbeats 4000000 in
set_option maxRecDepth 100000 in
/-- (*postroad/disk.Disk).Copy -/
theorem copy_disk (g : Nat) (d : Dk) (n : Nat) (w : World) (hD : DkR 64 71 w g d) (hfit : Fits n d) (hn : n ≤ 1048576) : Gives Try.prog 27 #[.pointer (some ⟨g, 0, none⟩)] w fun r w' => ∃ g2 B, r = .pointer (some ⟨g2, 0, none⟩) ∧ Now w none_ w' [dskA 64 71 23 g2 d B] := by
  refine Gives.start Try.func27 rfl (Nat.le_of_ble_eq_true rfl) ?_
  rw [args1]
  have hN := Now.nil w none_
  obtain ⟨m, rs, clock, hD⟩ := hD
  have hw := hD.well
  have hrl := hw.length
  have hfs := hfit.size
  have hfr := hfit.room
  have hfl := hfit.loose
  have hff := hfit.files
  refine RW.seq ?_
  refine RW.region ?_
  refine RL.ev rfl rfl ev_assign ?_
  refine RL.nil ?_
  refine thenN ?_
  refine RW.seq ?_
  refine RW.seq ?_
  refine RW.region ?_
  refine RL.ev rfl rfl ev_move ?_
  refine RL.ev rfl rfl (ev_false (ev_isNil Try.underlying27 rfl rfl) (by simp)) ?_
  refine RL.nil ?_
  refine thenN ?_
  refine RW.condF rfl ?_
  refine RW.skip ?_
  refine thenN ?_
  refine RW.seq ?_
  refine RW.region ?_
  refine RL.ev rfl rfl ev_move ?_
  refine RL.ev rfl rfl (ev_nilCheck rfl) ?_
  refine RL.ev rfl rfl (ev_fieldAddr Try.underlying64 rfl sz3 (by decide) rfl) ?_
  refine RL.ev rfl rfl (ev_loadB Try.underlying3 rfl rfl (hD.blk.ext hN.ext0) rfl) ?_
  refine RL.op rfl rfl (op_call1 Try.func12 rfl rfl rfl ((newOpen_calls (d.room) _ (by omega) (by omega)).mono ?_))
  rintro _ w1 ⟨g1, m1, rfl, hC_⟩
  have hN_ := hN.call0 hC_
  clear hC_
  clear hN
  have hN : Now w none_ w1 [_, _, _] := hN_
  clear hN_
  replace hN : Now w none_ w1 [.blk g1 [.int .i64 (d.room), .map (some m1)] 64, .mp str m1 ((([] : List Rec).map Rec.ent)) (0), .each (IsFile 71 23) none_ []] := hN
  refine RL.ev rfl rfl ev_assign ?_
  refine RL.nil ?_
  refine thenN ?_
  refine RW.seq ?_
  refine RW.seq ?_
  refine RW.region ?_
  refine RL.ev rfl rfl ev_move ?_
  refine RL.ev rfl rfl (ev_nilCheck rfl) ?_
  refine RL.ev rfl rfl (ev_fieldAddr Try.underlying64 rfl sz62 (by decide) rfl) ?_
  refine RL.ev rfl rfl (ev_loadB Try.underlying62 rfl rfl (hD.blk.ext hN.ext0) rfl) ?_
  refine RL.op rfl rfl (opN_range Try.underlying62 (hN.ext0.heap hD.mp id) rfl hN ?_)
  intro g2 w2 hN_
  clear hN
  have hN : Now w none_ w2 [_, _, _, _] := hN_
  clear hN_
  refine RL.nil ?_
  refine thenN ?_
  refine RW.block ?_
  refine RW.loop (fun k R0 w0' => ∃ rs2 : List Rec, ∃ Bf : Nat → Prop, ∃ ck2 : Nat, ∃ dn : List Rec, ∃ lf : List Rec, ∃ c0 : Nat, R0 3 = .pointer (some ⟨g1, 0, none⟩) ∧ R0 20 = .pointer (some ⟨g2, 0, none⟩) ∧ Now w none_ w0' [.iter g2 m clock ((dn.map Rec.ent).map (·.2.2)) c0, .blk g1 [.int .i64 (d.room), .map (some m1)] 64, .mp str m1 (rs2.map Rec.ent) (ck2), .each (IsFile 71 23) Bf rs2] ∧ (rs.Perm (dn ++ lf)) ∧ (k = lf.length) ∧ (clock ≤ c0) ∧ (rs2.map Rec.fil = dn.map Rec.fil) ∧ ((rs2.map (·.born)).Nodup) ∧ (∀ r ∈ rs2, r.born < ck2)) (rs.length) ?_ ?_
  · skip
    exact ⟨[], none_, 0, [], rs, clock, rfl, rfl, hN, .refl _, rfl, Nat.le_refl _, rfl, List.nodup_nil, fun r hr => by cases hr⟩
  · skip
    clear hN
    rintro k R0 w0' ⟨rs2, Bf, ck2, dn, lf, c0, hr3_, hr20_, hN, hp, hk, hc, hq, hb2, ho2⟩
    have hR_ : ∃ R0_, R0 = (upd (upd R0_ 3 _) 20 _) := ⟨R0, by rw [upd_self hr3_, upd_self hr20_]⟩
    obtain ⟨R0_, rfl⟩ := hR_
    clear hr3_ hr20_
    refine RW.seq ?_
    refine RW.region ?_
    refine RL.op rfl rfl (opN_nextR hN 0 rfl (hN.ext0.heap hD.mp id) rfl hp hw hc ?_ ?_)
    · skip
      intro hlf
      refine RL.ev rfl rfl (ev_extract rfl rfl) ?_
      refine RL.nil ?_
      refine thenN ?_
      refine RW.seq ?_
      refine RW.condF rfl ?_
      refine RW.exit ?_
      refine thenX ?_
      refine thenX ?_
      refine blockHit ?_
      refine thenN ?_
      refine RW.seq ?_
      refine RW.region ?_
      refine RL.ev rfl rfl ev_move ?_
      refine RL.ev rfl rfl ev_assign ?_
      refine RL.nil ?_
      refine thenN ?_
      refine RW.ret ?_
      refine retI (RV.tmp rfl) ?_
      subst hlf
      have hpd : rs.Perm dn := by rw [List.append_nil] at hp; exact hp
      have hw2 : Well rs2 ck2 d := ⟨by rw [hq]; exact (hpd.symm.map _).trans hw.perm, hw.rising, hb2, ho2⟩
      replace hN := hN.sub (M := [.blk g1 [.int .i64 (d.room), .map (some m1)] 64, .mp str m1 (rs2.map Rec.ent) (ck2), .each (IsFile 71 23) Bf rs2, .iter g2 m clock ((dn.map Rec.ent).map (·.2.2)) c0]) [1, 2, 3, 0] (by decide) rfl
      have hN2_ := dsk_close (Td := 64) (R := [_]) hw2 hN
      obtain ⟨B, hN2⟩ := hN2_
      exact ⟨_, B, rfl, hN2.sub [0] (by decide) rfl⟩
    · skip
      rintro r l1 l2 hlf w3 hN_
      clear hN
      have hN : Now w none_ w3 [_, _, _, _] := hN_
      clear hN_
      have hrm := mem_next hp hlf
      have hkl := len_next hlf
      have hpn := perm_next hp hlf
      have hOb_ := hD.file r hrm
      obtain ⟨h0, h1, hs, hb4, hf4, hw4, hel4⟩ := hOb_
      have hln := hfit.fileLen hw hrm
      have hlw := hfit.fileWs hn hw hrm
      have hlh := hel4.1
      refine RL.ev rfl rfl (ev_extract rfl rfl) ?_
      refine RL.nil ?_
      refine thenN ?_
      refine RW.seq ?_
      refine RW.condT rfl ?_
      refine RW.skip ?_
      refine thenN ?_
      refine RW.block ?_
      refine RW.seq ?_
      refine RW.region ?_
      refine RL.ev rfl rfl (ev_entryR (dn := dn) (r := r) (hN.iterAt 0 rfl) (hN.ext0.heap hD.mp id) rfl hrm hw) ?_
      refine RL.ev rfl rfl (ev_extract rfl rfl) ?_
      refine RL.ev rfl rfl (ev_extract rfl rfl) ?_
      refine RL.ev rfl rfl ev_assign ?_
      refine RL.ev rfl rfl ev_assign ?_
      refine RL.nil ?_
      refine thenN ?_
      refine RW.seq ?_
      refine RW.region ?_
      refine RL.ev rfl rfl ev_move ?_
      refine RL.ev rfl rfl (ev_nilCheck rfl) ?_
      refine RL.ev rfl rfl (ev_fieldAddr Try.underlying71 rfl sz23 (by decide) rfl) ?_
      refine RL.ev rfl rfl (ev_loadB Try.underlying23 rfl rfl (hb4.ext hN.ext0) rfl) ?_
      refine RL.op rfl rfl (op_call1 Try.func44 rfl rfl rfl ((clone_calls _ r.firm _ (hf4.ext hN.ext0) (by rw [List.length_append] at hln; omega)).mono ?_))
      rintro v5 w5 ⟨ho_, he_⟩
      have hN_ := hN.pushOwn (l := r.firm) ho_ he_
      clear ho_ he_
      clear hN
      have hN : Now w none_ w5 [_, _, _, _, _] := hN_
      clear hN_
      refine RL.ev rfl rfl (ev_buildL (cs := [v5, .slice none 0 0]) Try.underlying71 zero71 (places := #[(0, 1), (1, 1)]) (by intro w; kernel_rfl) (pl := [(0, .tmp 30)]) rfl (ps := [(0, v5)]) rfl (zc := [.slice none 0 0, .slice none 0 0]) rfl (fill_step (vs := [v5]) (hN.sl 0 rfl).cells1 rfl (Nat.le_of_ble_eq_true rfl) rfl)) ?_
      refine RL.op rfl rfl (opN_box (cs := [v5, .slice none 0 0]) rfl rfl hN ?_)
      intro g6 w6 hN_
      clear hN
      have hN : Now w none_ w6 [_, _, _, _, _, _] := hN_
      clear hN_
      refine RL.ev rfl rfl ev_assign ?_
      refine RL.nil ?_
      refine thenN ?_
      refine RW.seq ?_
      refine RW.seq ?_
      replace hN := hN.addNil vh 23
      replace hN := hN.famNil vb
      replace hN : Now w none_ w6 [.fam vb ([]) ([]), .own vh 23 (.slice none 0 0) ([]), .blk g6 [v5, .slice none 0 0] 71, .own vb 5 (v5) (r.firm), .iter g2 m clock (((dn ++ [r]).map Rec.ent).map (·.2.2)) clock, .blk g1 [.int .i64 (d.room), .map (some m1)] 64, .mp str m1 (rs2.map Rec.ent) (ck2), .each (IsFile 71 23) Bf rs2] := hN
      refine RW.region ?_
      refine RL.ev rfl rfl ev_move ?_
      refine RL.ev rfl rfl (ev_nilCheck rfl) ?_
      refine RL.ev rfl rfl (ev_fieldAddr Try.underlying71 rfl sz69 (by decide) rfl) ?_
      refine RL.ev rfl rfl (ev_loadB Try.underlying69 rfl rfl (hb4.ext hN.ext0) rfl) ?_
      have hL_7 := (hw4.ext hN.ext0).len_le
      refine RL.ev rfl rfl (ev_lenS Try.underlying69 (hw4.ext hN.ext0) rfl) ?_
      refine RL.ev rfl rfl ev_move ?_
      refine RL.nil ?_
      refine thenN ?_
      refine RW.block ?_
      refine RW.loop (fun k2 R1 w1' => ∃ va : Value, ∃ hs2 : List Hd, ∃ j : Nat, R1 3 = .pointer (some ⟨g1, 0, none⟩) ∧ R1 4 = (str r.name) ∧ R1 6 = .pointer (some ⟨g6, 0, none⟩) ∧ R1 20 = .pointer (some ⟨g2, 0, none⟩) ∧ R1 36 = (vh h1) ∧ R1 37 = .int .i64 ((hs.length : Int)) ∧ R1 38 = .int .i64 ((j : Int)) ∧ Now w none_ w1' [.fam vb (hs2) (r.ws.take j), .own vh 23 (va) (hs2), .blk g6 [v5, va] 71, .own vb 5 (v5) (r.firm), .iter g2 m clock (((dn ++ [r]).map Rec.ent).map (·.2.2)) clock, .blk g1 [.int .i64 (d.room), .map (some m1)] 64, .mp str m1 (rs2.map Rec.ent) (ck2), .each (IsFile 71 23) Bf rs2] ∧ (j + k2 = hs.length) ∧ (hs2.length = j)) (hs.length) ?_ ?_
      · skip
        exact ⟨.slice none 0 0, [], 0, rfl, rfl, rfl, rfl, rfl, rfl, rfl, hN, by omega, rfl⟩
      · skip
        clear hN
        rintro k2 R1 w1' ⟨va, hs2, j, hr3_, hr4_, hr6_, hr20_, hr36_, hr37_, hr38_, hN, hjk, hl2⟩
        have hR_ : ∃ R1_, R1 = (upd (upd (upd (upd (upd (upd (upd R1_ 3 _) 4 _) 6 _) 20 _) 36 _) 37 _) 38 _) := ⟨R1, by rw [upd_self hr3_, upd_self hr4_, upd_self hr6_, upd_self hr20_, upd_self hr36_, upd_self hr37_, upd_self hr38_]⟩
        obtain ⟨R1_, rfl⟩ := hR_
        clear hr3_ hr4_ hr6_ hr20_ hr36_ hr37_ hr38_
        refine RW.seq ?_
        refine RW.region ?_
        refine RL.ev rfl rfl (ev_lss rfl rfl) ?_
        refine RL.nil ?_
        refine thenN ?_
        refine RW.seq ?_
        refine RW.condP _ rfl (fun hlt => ?_) (fun hlt => ?_)
        · skip
          refine RW.skip ?_
          refine thenN ?_
          refine RW.seq ?_
          refine RW.block ?_
          refine RW.seq ?_
          refine RW.region ?_
          refine RL.ev rfl rfl (ev_index Try.underlying69 sz23 (hw4.ext hN.ext0) rfl rfl (by omega) (by omega)) ?_
          have hOb_ : ∃ a_, (hs)[j]? = some a_ := ⟨_, List.getElem?_eq_getElem (by omega)⟩
          obtain ⟨ap, hap⟩ := hOb_
          have hOb_ : ∃ l_, (r.ws)[j]? = some l_ := ⟨_, List.getElem?_eq_getElem (by have := hel4.1; omega)⟩
          obtain ⟨lp, hlp⟩ := hOb_
          refine RL.ev rfl rfl (ev_loadG (m := j) (a := ap) Try.underlying23 rfl (hw4.ext hN.ext0) rfl hap) ?_
          have hft := flat_take hlp
          have hfl := flat_le r.ws (j + 1)
          refine RL.ev rfl rfl ev_assign ?_
          refine RL.nil ?_
          refine thenN ?_
          refine RW.drawE rfl (fun u => Now w none_ u [.fam vb (hs2) (r.ws.take j), .blk g6 [v5, va] 71, .own vb 5 (v5) (r.firm), .iter g2 m clock (((dn ++ [r]).map Rec.ent).map (·.2.2)) clock, .blk g1 [.int .i64 (d.room), .map (some m1)] 64, .mp str m1 (rs2.map Rec.ent) (ck2), .each (IsFile 71 23) Bf rs2]) 11 ?_
          replace hN := hN.ext (Ext.drew w1')
          refine RE.take (i := 0) rfl (by decide) (by kernel_rfl) rfl (by kernel_rfl) (by kernel_rfl) (by kernel_rfl) (by intro _ _ _ h; exact h) rfl (hN.sub [0, 2, 3, 4, 5, 6, 7] (by decide) rfl) (fun w hS => ev_move) ?_
          refine RE.take (i := 1) rfl (by decide) (by kernel_rfl) rfl (by kernel_rfl) (by kernel_rfl) (by kernel_rfl) (by intro _ _ _ h; exact h) rfl (hN.sub [0, 2, 3, 4, 5, 6, 7] (by decide) rfl) (fun w hS => ev_move) ?_
          refine RE.take (i := 2) rfl (by decide) (by kernel_rfl) rfl (by kernel_rfl) (by kernel_rfl) (by kernel_rfl) (by intro _ _ _ h; exact h) rfl (hN.sub [0, 2, 3, 4, 5, 6, 7] (by decide) rfl) (fun w hS => (ev_nilCheck rfl)) ?_
          refine RE.take (i := 3) rfl (by decide) (by kernel_rfl) rfl (by kernel_rfl) (by kernel_rfl) (by kernel_rfl) (by intro _ _ _ h; exact h) rfl (hN.sub [0, 2, 3, 4, 5, 6, 7] (by decide) rfl) (fun w hS => (ev_fieldAddr Try.underlying71 rfl sz69 (by decide) rfl)) ?_
          refine RE.take (i := 4) rfl (by decide) (by kernel_rfl) rfl (by kernel_rfl) (by kernel_rfl) (by kernel_rfl) (by intro _ _ _ h; exact h) rfl (hN.sub [0, 2, 3, 4, 5, 6, 7] (by decide) rfl) (fun w hS => (ev_loadB Try.underlying69 rfl rfl (hS.blk 1 rfl) rfl)) ?_
          refine RE.take (i := 5) rfl (by decide) (by kernel_rfl) rfl (by kernel_rfl) (by kernel_rfl) (by kernel_rfl) (by intro _ _ _ h; exact h) rfl (hN.sub [0, 2, 3, 4, 5, 6, 7] (by decide) rfl) (fun w hS => ev_move) ?_
          refine RE.only (i := 6) (by kernel_rfl) rfl rfl rfl (op_call1 Try.func44 rfl rfl rfl ((clone_calls _ lp _ ((hel4.2 _ _ _ hap hlp).1.ext hN.ext0) (by rw [List.length_append] at hln; omega)).mono ?_))
          rintro v8 w8 ⟨ho_, he_⟩
          have hN_ := hN.pushOwn (l := lp) ho_ he_
          clear ho_ he_
          clear hN
          have hN : Now w none_ w8 [_, _, _, _, _, _, _, _, _] := hN_
          clear hN_
          refine ⟨(hN.sub [1, 3, 4, 5, 6, 7, 8] (by decide) rfl), ?_⟩
          have hOb_ := (hN.sl 0 rfl).hd
          obtain ⟨h10, hq_⟩ := hOb_
          subst hq_
          refine RE.only (i := 7) (by kernel_rfl) rfl rfl rfl (opN_lit (enc := vh) (l := [h10]) (xs := [.tmp 48]) Try.underlying69 sz23 zr23 rfl rfl (fun _ => rfl) rfl (by decide) (by decide) hN ?_)
          intro g9 w9 hN_
          clear hN
          have hN : Now w none_ w9 [_, _, _, _, _, _, _, _, _, _] := hN_
          clear hN_
          refine ⟨(hN.sub [2, 4, 5, 6, 7, 8, 9] (by decide) rfl), ?_⟩
          refine RE.only (i := 8) (by kernel_rfl) rfl rfl rfl (opN_append Try.underlying69 inf23 rfl vh_one hN 3 rfl rfl (hN.sl 0 rfl) rfl (by rw [hl2]; simp only [List.length_singleton, List.length_cons, List.length_nil]; omega) (by decide) ?_)
          intro v11 w11 hN_
          clear hN
          have hN : Now w none_ w11 [_, _, _, _, _, _, _, _, _, _] := hN_
          clear hN_
          refine ⟨(hN.sub [2, 4, 5, 6, 7, 8, 9] (by decide) rfl), ?_⟩
          refine RE.only (i := 9) (by kernel_rfl) rfl rfl rfl (OpR.ev (ev_nilCheck rfl) ⟨(hN.sub [2, 4, 5, 6, 7, 8, 9] (by decide) rfl), ?_⟩)
          refine RE.take (i := 10) rfl (by decide) (by kernel_rfl) rfl (by kernel_rfl) (by kernel_rfl) (by kernel_rfl) (by intro _ _ _ h; exact h) rfl (hN.sub [2, 4, 5, 6, 7, 8, 9] (by decide) rfl) (fun w hS => (ev_fieldAddr Try.underlying71 rfl sz69 (by decide) rfl)) ?_
          refine RE.last (by kernel_rfl) rfl rfl rfl (opN_store sz69 rfl rfl (hN.sl 3 rfl).cells1 (hN.sl 3 rfl).one1 hN 4 rfl (Nat.le_of_ble_eq_true rfl) ?_)
          intro w12 hN_
          clear hN
          have hN : Now w none_ w12 [_, _, _, _, _, _, _, _, _, _] := hN_
          clear hN_
          refine RE.done (by kernel_rfl) ?_
          refine blockN ?_
          refine thenN ?_
          refine RW.region ?_
          refine RL.ev rfl rfl (ev_arith rfl rfl rfl (add64 (by omega) (by omega))) ?_
          refine RL.ev rfl rfl ev_move ?_
          refine RL.nil ?_
          refine thenN ?_
          have hN_ := Now.famPush (L := [_, _, _, _, _, _, _, _, _]) (hN.sub [1, 0, 2, 3, 4, 5, 6, 7, 8, 9] (by decide) rfl) 1 rfl
          clear hN
          have hN : Now w none_ w12 [_, _, _, _, _, _, _, _, _] := hN_
          clear hN_
          have ht_ : r.ws.take (j + 1) = r.ws.take j ++ [lp] := by rw [List.take_add_one, hlp]; rfl
          rw [← ht_] at hN
          exact ⟨k2 - 1, by omega, v11, hs2 ++ [h10], j + 1, rfl, rfl, rfl, rfl, rfl, rfl, rfl, (hN.sub [1, 2, 3, 4, 5, 6, 7, 8] (by decide) rfl), by omega, by rw [List.length_append, hl2]; rfl⟩
        · skip
          refine RW.exit ?_
          refine thenX ?_
          refine thenX ?_
          refine blockHit ?_
          refine thenN ?_
          have hj_ : j = hs.length := by omega
          have htw : r.ws.take j = r.ws := List.take_of_length_le (by omega)
          rw [htw] at hN
          replace hN := hN.ownSl 3 rfl
          replace hN : Now w none_ w1' [.fam vb (hs2) (r.ws), .own vh 23 (va) (hs2), .blk g6 [v5, va] 71, .sl vb (v5) (r.firm), .iter g2 m clock (((dn ++ [r]).map Rec.ent).map (·.2.2)) clock, .blk g1 [.int .i64 (d.room), .map (some m1)] 64, .mp str m1 (rs2.map Rec.ent) (ck2), .each (IsFile 71 23) Bf rs2] := hN
          refine RW.region ?_
          refine RL.ev rfl rfl ev_move ?_
          refine RL.ev rfl rfl (ev_nilCheck rfl) ?_
          refine RL.ev rfl rfl (ev_fieldAddr Try.underlying64 rfl sz62 (by decide) rfl) ?_
          refine RL.ev rfl rfl (ev_loadB Try.underlying62 rfl rfl (hN.blk 5 rfl) rfl) ?_
          refine RL.ev rfl rfl ev_move ?_
          refine RL.ev rfl rfl ev_move ?_
          have hnm : kfind r.name (rs2.map Rec.ent) 0 = none := by
            have h1 := kfind_rec r.name rs2 0
            rw [hq, find_new hw hp hlf] at h1
            exact h1
          refine RL.op rfl rfl (opN_mapNew (a := r.name) (v := .pointer (some ⟨g6, 0, none⟩)) Try.underlying62 (ke_str Try.underlying9) hN 6 rfl rfl rfl rfl hnm ?_)
          intro w13 hN_
          clear hN
          have hN : Now w none_ w13 [_, _, _, _, _, _, _, _] := hN_
          clear hN_
          refine RL.nil ?_
          refine blockN ?_
          refine thenN ?_
          have hm_ : (rs2 ++ [(⟨r.name, g6, ck2, r.firm, r.ws⟩ : Rec)]).map Rec.ent = rs2.map Rec.ent ++ [(r.name, .pointer (some ⟨g6, 0, none⟩), ck2)] := by rw [List.map_append]; rfl
          rw [← hm_] at hN
          replace hN := hN.sub (M := [.blk g6 [v5, va] 71, .sl vb (v5) (r.firm), .own vh 23 (va) (hs2), .fam vb (hs2) (r.ws), .each (IsFile 71 23) Bf rs2, .iter g2 m clock (((dn ++ [r]).map Rec.ent).map (·.2.2)) clock, .blk g1 [.int .i64 (d.room), .map (some m1)] 64, .mp str m1 ((rs2 ++ [(⟨r.name, g6, ck2, r.firm, r.ws⟩ : Rec)]).map Rec.ent) (ck2 + 1)]) [2, 3, 1, 0, 7, 4, 5, 6] (by decide) rfl
          have hN2_ := file_add (r' := ⟨r.name, g6, ck2, r.firm, r.ws⟩) (R := [_, _, _]) hN
          obtain ⟨Bf2, hN2⟩ := hN2_
          clear hN
          have hN := hN2
          clear hN2
          replace hN : Now w none_ w13 [.each (IsFile 71 23) Bf2 (rs2 ++ [(⟨r.name, g6, ck2, r.firm, r.ws⟩ : Rec)]), .iter g2 m clock (((dn ++ [r]).map Rec.ent).map (·.2.2)) clock, .blk g1 [.int .i64 (d.room), .map (some m1)] 64, .mp str m1 ((rs2 ++ [(⟨r.name, g6, ck2, r.firm, r.ws⟩ : Rec)]).map Rec.ent) (ck2 + 1)] := hN
          exact ⟨(l1 ++ l2).length, by omega, rs2 ++ [(⟨r.name, g6, ck2, r.firm, r.ws⟩ : Rec)], Bf2, ck2 + 1, dn ++ [r], l1 ++ l2, clock, rfl, rfl, (hN.sub [1, 2, 3, 0] (by decide) rfl), hpn, rfl, Nat.le_refl _, by rw [List.map_append, hq, List.map_append]; rfl, nodup_snoc hb2 ho2, lt_snoc ho2⟩

end Go.Proofs.Ytlblpiapeieofaa
