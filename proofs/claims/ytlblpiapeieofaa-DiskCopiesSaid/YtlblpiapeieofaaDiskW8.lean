import Derived.Test.YtlblpiapeieofaaDiskW7
set_option linter.unusedVariables false
set_option linter.unusedSimpArgs false
namespace Go.Proofs.Ytlblpiapeieofaa
open Go.RowKit Go.Rl

open Go.Disk
theorem headD_of {ms : List Int} {a : Int} (h : ms[0]? = some a) : ms.headD 0 = a := by
  cases ms with
  | nil => simp at h
  | cons x r => simpa using h
theorem crash_file {d : Dk} {n j clock : Nat} {ms : List Int} {rs2 : List Rec} {a : Bs} (hfit : Fits n d) (hn : n ≤ 1048576) (hw2 : Well rs2 clock ⟨d.room, (crash ms d.fs).take j ++ d.fs.drop j⟩) (hlt : j < d.fs.length) (ha : (names d.fs)[j]? = some a) :
    ∃ i r, rs2[i]? = some r ∧ d.fs[j]? = some r.fil ∧ ((crash ms d.fs).take j ++ d.fs.drop j)[j]? = some r.fil ∧ kfind a (rs2.map Rec.ent) 0 = some (i, .pointer (some ⟨r.ptr, 0, none⟩)) ∧ (r.firm ++ r.ws.flatten).length ≤ 1099511627776 ∧ r.firm.length + r.ws.flatten.length ≤ 1099511627776 ∧ r.ws.length ≤ 1048576 ∧
      loose (d.fs.take (j + 1)) = loose (d.fs.take j) + r.ws.length := by
  have hfs := hfit.size
  have hfr := hfit.room
  have hfl := hfit.loose
  have hf_ : d.fs[j]? = some d.fs[j] := List.getElem?_eq_getElem hlt
  generalize d.fs[j] = f at hf_
  have hnm : a = f.name := by
    have h1 : (names d.fs)[j]? = some f.name := by unfold names; rw [List.getElem?_map, hf_]; rfl
    rw [ha] at h1; exact Option.some.inj h1
  subst hnm
  have hcl := crash_length d.fs ms
  have hfj : ((crash ms d.fs).take j ++ d.fs.drop j)[j]? = some f := by
    rw [List.getElem?_append_right (by rw [List.length_take]; omega), List.length_take, List.getElem?_drop, show j + (j - min j (crash ms d.fs).length) = j by omega]; exact hf_
  have hfd : find f.name ((crash ms d.fs).take j ++ d.fs.drop j) = some f := find_mem hw2.rising.nodup (List.mem_of_getElem? hfj)
  obtain ⟨i, r, hi, hrf, hrn, hk⟩ := hw2.kSome hfd
  subst hrf
  have hfm := List.mem_of_getElem? hf_
  have h1 := size_mem hfm
  have h2 := loose_mem hfm
  have e1 : r.fil.all.length = (r.firm ++ r.ws.flatten).length := rfl
  have e2 : r.fil.ws.length = r.ws.length := rfl
  have h3 : (r.firm ++ r.ws.flatten).length ≤ 1099511627776 := by omega
  refine ⟨i, r, hi, hf_, hfj, hk, h3, by rw [← List.length_append]; exact h3, by omega, ?_⟩
  rw [List.take_add_one, hf_, loose_append]; simp [loose, Rec.fil]
theorem crashW_eq {acc lu : Bs} {st n : Nat} (mark : Int) (hn : n = min mark.toNat lu.length) : crashW (acc, st) lu mark = (acc ++ lu.take n ++ List.replicate ((lu.length : Int) - (n : Int)).toNat 0, if n = 0 then st else acc.length + n) := by
  subst hn
  unfold crashW
  have h1 : lu.take (min mark.toNat lu.length) = lu.take mark.toNat := by
    rcases Nat.le_total mark.toNat lu.length with h | h
    · rw [Nat.min_eq_left h]
    · rw [Nat.min_eq_right h, List.take_of_length_le (Nat.le_refl _), List.take_of_length_le h]
  have h2 : ((lu.length : Int) - ((min mark.toNat lu.length : Nat) : Int)).toNat = lu.length - mark.toNat := by omega
  rw [h1, h2, List.append_assoc]
theorem crash_step {cs fs : List Fil} {j : Nat} {f g : Fil} (hf : fs[j]? = some f) (hg : cs[j]? = some g) (hl : (cs.take j).length = j) : (cs.take j ++ fs.drop j).set j g = cs.take (j + 1) ++ fs.drop (j + 1) := by
  rw [List.set_append_right _ _ (by omega), hl, Nat.sub_self, List.take_add_one, hg]
  obtain ⟨h1, h2⟩ := List.getElem?_eq_some_iff.1 hf
  rw [List.drop_eq_getElem_cons h1, List.set_cons_zero, List.append_assoc]
  rfl

set_option maxHeartbeats 4000000 in
set_option maxRecDepth 100000 in
/-- (*postroad/disk.Disk).Crash -/
theorem crash_calls (g : Nat) (d : Dk) (B : Nat → Prop) (n : Nat) (Mv : Value) (ms : List Int) (w : World) (hN : Now w (foots [dskA 64 71 23 g d B]) w [dskA 64 71 23 g d B]) (hfit : Fits n d) (hn : n ≤ 1048576) (hM : SlO (foots [dskA 64 71 23 g d B]) vI w Mv ms) : Gives Try.prog 17 #[.pointer (some ⟨g, 0, none⟩), Mv] w fun r w' => ∃ B', r = .tuple #[] ∧ Now w (foots [dskA 64 71 23 g d B]) w' [dskA 64 71 23 g ⟨d.room, crash ms d.fs⟩ B'] := by
  refine Gives.start Try.func17 rfl (Nat.le_of_ble_eq_true rfl) ?_
  rw [args2]
  have hfs := hfit.size
  have hfr := hfit.room
  have hfl := hfit.loose
  have hff := hfit.files
  have hnl : (names d.fs).length = d.fs.length := by simp [names]
  refine RW.seq ?_
  refine RW.region ?_
  refine RL.ev rfl rfl ev_move ?_
  refine RL.op rfl rfl (op_call1 Try.func16 rfl rfl rfl ((names_calls _ d _ _ (dsk_says (hN.says 0 _ rfl)) hfit hn).mono ?_))
  rintro v1 w1 ⟨ho_, he_⟩
  have hN_ := hN.pushOwn (l := names d.fs) ho_ he_
  clear ho_ he_
  clear hN
  have hN : Now w (foots [dskA 64 71 23 g d B]) w1 [_, _] := hN_
  clear hN_
  replace hN := hN.sub (M := [dskA 64 71 23 g d B, .own str 9 (v1) (names d.fs)]) [1, 0] (by decide) rfl
  have hN2_ := dsk_open (R := [_]) hN
  clear hN
  obtain ⟨m, rs, clock, Bf, hw, hN⟩ := hN2_
  replace hN : Now w (foots [dskA 64 71 23 g d B]) w1 [.blk g [.int .i64 (d.room), .map (some m)] 64, .mp str m (rs.map Rec.ent) (clock), .each (IsFile 71 23) Bf rs, .own str 9 (v1) (names d.fs)] := hN
  have hrl := hw.length
  have hL_3 := (hN.sl 3 rfl).len_le
  refine RL.ev rfl rfl (ev_lenS Try.underlying36 (hN.sl 3 rfl) rfl) ?_
  refine RL.ev rfl rfl ev_move ?_
  refine RL.nil ?_
  refine thenN ?_
  refine RW.block ?_
  refine RW.loop (fun k R0 w0' => ∃ rs2 : List Rec, ∃ Bf2 : Nat → Prop, ∃ mv : Value, ∃ j : Nat, R0 0 = .pointer (some ⟨g, 0, none⟩) ∧ R0 1 = mv ∧ R0 13 = v1 ∧ R0 14 = .int .i64 (((names d.fs).length : Int)) ∧ R0 15 = .int .i64 ((j : Int)) ∧ Now w (foots [dskA 64 71 23 g d B]) w0' [.blk g [.int .i64 (d.room), .map (some m)] 64, .mp str m (rs2.map Rec.ent) (clock), .each (IsFile 71 23) Bf2 rs2, .own str 9 (v1) (names d.fs)] ∧ (j + k = d.fs.length) ∧ (Well rs2 clock ⟨d.room, ((crash ms d.fs).take j ++ d.fs.drop j)⟩) ∧ (SlO (foots [dskA 64 71 23 g d B]) vI w mv (ms.drop (loose (d.fs.take j))))) (d.fs.length) ?_ ?_
  · skip
    exact ⟨rs, Bf, Mv, 0, rfl, rfl, rfl, rfl, rfl, hN, by omega, hw, hM⟩
  · skip
    clear hN
    rintro k R0 w0' ⟨rs2, Bf2, mv, j, hr0_, hr1_, hr13_, hr14_, hr15_, hN, hjk, hw2, hmv⟩
    have hR_ : ∃ R0_, R0 = (upd (upd (upd (upd (upd R0_ 0 _) 1 _) 13 _) 14 _) 15 _) := ⟨R0, by rw [upd_self hr0_, upd_self hr1_, upd_self hr13_, upd_self hr14_, upd_self hr15_]⟩
    obtain ⟨R0_, rfl⟩ := hR_
    clear hr0_ hr1_ hr13_ hr14_ hr15_
    refine RW.seq ?_
    refine RW.region ?_
    refine RL.ev rfl rfl (ev_lss rfl rfl) ?_
    refine RL.nil ?_
    refine thenN ?_
    refine RW.seq ?_
    refine RW.condP _ rfl (fun hlt => ?_) (fun hlt => ?_)
    · skip
      refine RW.skip ?_
      refine thenN ?_
      refine RW.seq ?_
      refine RW.block ?_
      refine RW.seq ?_
      refine RW.region ?_
      refine RL.ev rfl rfl (ev_index Try.underlying36 sz9 (hN.sl 3 rfl) rfl rfl (by omega) (by omega)) ?_
      have hOb_ : ∃ a_, ((names d.fs))[j]? = some a_ := ⟨_, List.getElem?_eq_getElem (by omega)⟩
      obtain ⟨ap, hap⟩ := hOb_
      refine RL.ev rfl rfl (ev_loadG (m := j) (a := ap) Try.underlying9 rfl (hN.sl 3 rfl) rfl hap) ?_
      refine RL.ev rfl rfl ev_assign ?_
      have hOb_ := crash_file hfit hn hw2 (by omega) hap
      obtain ⟨i, r, hi, hf_, hfj, hk, hln, hln2, hlw, hlo⟩ := hOb_
      have hcl := crash_length d.fs ms
      refine RL.nil ?_
      refine thenN ?_
      refine RW.scope ?_
      refine RW.seq ?_
      refine RW.region ?_
      refine RL.ev rfl rfl ev_move ?_
      refine RL.ev rfl rfl (ev_nilCheck rfl) ?_
      refine RL.ev rfl rfl (ev_fieldAddr Try.underlying64 rfl sz62 (by decide) rfl) ?_
      refine RL.ev rfl rfl (ev_loadB Try.underlying62 rfl rfl (hN.blk 0 rfl) rfl) ?_
      refine RL.ev rfl rfl ev_move ?_
      refine RL.ev rfl rfl (ev_look1 (v := .pointer (some ⟨r.ptr, 0, none⟩)) Try.underlying62 (ke_str Try.underlying9) (hN.mp 1 rfl) rfl rfl hk) ?_
      refine RL.ev rfl rfl ev_assign ?_
      refine RL.nil ?_
      refine thenN ?_
      refine RW.seq ?_
      refine RW.region ?_
      refine RL.ev rfl rfl ev_assign ?_
      refine RL.nil ?_
      refine thenN ?_
      refine RW.seq ?_
      refine RW.region ?_
      refine RL.ev rfl rfl ev_assign ?_
      refine RL.nil ?_
      refine thenN ?_
      refine RW.seq ?_
      refine RW.label ?_
      refine thenN ?_
      refine RW.seq ?_
      refine RW.seq ?_
      replace hN := hN.sub (M := [.each (IsFile 71 23) Bf2 rs2, .blk g [.int .i64 (d.room), .map (some m)] 64, .mp str m (rs2.map Rec.ent) (clock), .own str 9 (v1) (names d.fs)]) [2, 0, 1, 3] (by decide) rfl
      have hN2_ := file_open (R := [_, _, _]) hi hN
      clear hN
      obtain ⟨h0, h1, hs, Bf1, hN⟩ := hN2_
      replace hN : Now w (foots [dskA 64 71 23 g d B]) w0' [.blk r.ptr [(vh h0), (vh h1)] 71, .sl vb ((vh h0)) (r.firm), .own vh 23 ((vh h1)) (hs), .fam vb (hs) (r.ws), .each (IsFile 71 23) Bf1 (rs2.eraseIdx i), .blk g [.int .i64 (d.room), .map (some m)] 64, .mp str m (rs2.map Rec.ent) (clock), .own str 9 (v1) (names d.fs)] := hN
      have hlh := (hN.els 3 rfl).1
      refine RW.region ?_
      refine RL.ev rfl rfl ev_move ?_
      refine RL.ev rfl rfl (ev_nilCheck rfl) ?_
      refine RL.ev rfl rfl (ev_fieldAddr Try.underlying71 rfl sz69 (by decide) rfl) ?_
      refine RL.ev rfl rfl (ev_loadB Try.underlying69 rfl rfl (hN.blk 0 rfl) rfl) ?_
      have hL_4 := (hN.sl 2 rfl).len_le
      refine RL.ev rfl rfl (ev_lenS Try.underlying69 (hN.sl 2 rfl) rfl) ?_
      refine RL.ev rfl rfl ev_move ?_
      refine RL.nil ?_
      refine thenN ?_
      refine RW.block ?_
      replace hN := hN.addNil vb 5
      refine RW.loop (fun k2 R1 w1' => ∃ st : Nat, ∃ mv2 : Value, ∃ va : Value, ∃ acc : List UInt8, ∃ q : Nat, R1 0 = .pointer (some ⟨g, 0, none⟩) ∧ R1 1 = mv2 ∧ R1 6 = .pointer (some ⟨r.ptr, 0, none⟩) ∧ R1 7 = va ∧ R1 8 = .int .i64 ((st : Int)) ∧ R1 13 = v1 ∧ R1 14 = .int .i64 (((names d.fs).length : Int)) ∧ R1 15 = .int .i64 ((j : Int)) ∧ R1 28 = (vh h1) ∧ R1 29 = .int .i64 ((hs.length : Int)) ∧ R1 30 = .int .i64 ((q : Int)) ∧ Now w (foots [dskA 64 71 23 g d B]) w1' [.own vb 5 (va) (acc), .blk r.ptr [(vh h0), (vh h1)] 71, .sl vb ((vh h0)) (r.firm), .own vh 23 ((vh h1)) (hs), .fam vb (hs) (r.ws), .each (IsFile 71 23) Bf1 (rs2.eraseIdx i), .blk g [.int .i64 (d.room), .map (some m)] 64, .mp str m (rs2.map Rec.ent) (clock), .own str 9 (v1) (names d.fs)] ∧ (q + k2 = hs.length) ∧ (st ≤ acc.length) ∧ ((crashWs (ms.drop (loose (d.fs.take j))) (r.ws.take q) ([], 0)) = (acc, st)) ∧ (SlO (foots [dskA 64 71 23 g d B]) vI w mv2 (ms.drop (loose (d.fs.take j) + q)))) (hs.length) ?_ ?_
      · skip
        exact ⟨0, mv, .slice none 0 0, [], 0, rfl, rfl, rfl, rfl, rfl, rfl, rfl, rfl, rfl, rfl, rfl, hN, by omega, Nat.zero_le _, rfl, hmv⟩
      · skip
        clear hN
        rintro k2 R1 w1' ⟨st, mv2, va, acc, q, hr0_, hr1_, hr6_, hr7_, hr8_, hr13_, hr14_, hr15_, hr28_, hr29_, hr30_, hN, hqk, hsl, hst, hmv2⟩
        have hR_ : ∃ R1_, R1 = (upd (upd (upd (upd (upd (upd (upd (upd (upd (upd (upd R1_ 0 _) 1 _) 6 _) 7 _) 8 _) 13 _) 14 _) 15 _) 28 _) 29 _) 30 _) := ⟨R1, by rw [upd_self hr0_, upd_self hr1_, upd_self hr6_, upd_self hr7_, upd_self hr8_, upd_self hr13_, upd_self hr14_, upd_self hr15_, upd_self hr28_, upd_self hr29_, upd_self hr30_]⟩
        obtain ⟨R1_, rfl⟩ := hR_
        clear hr0_ hr1_ hr6_ hr7_ hr8_ hr13_ hr14_ hr15_ hr28_ hr29_ hr30_
        refine RW.seq ?_
        refine RW.region ?_
        refine RL.ev rfl rfl (ev_lss rfl rfl) ?_
        refine RL.nil ?_
        refine thenN ?_
        refine RW.seq ?_
        refine RW.condP _ rfl (fun hlt2 => ?_) (fun hlt2 => ?_)
        · skip
          refine RW.skip ?_
          refine thenN ?_
          refine RW.seq ?_
          refine RW.block ?_
          refine RW.seq ?_
          refine RW.region ?_
          refine RL.ev rfl rfl (ev_index Try.underlying69 sz23 (hN.sl 3 rfl) rfl rfl (by omega) (by omega)) ?_
          have hOb_ : ∃ a_, (hs)[q]? = some a_ := ⟨_, List.getElem?_eq_getElem (by omega)⟩
          obtain ⟨au, hau⟩ := hOb_
          have hOb_ : ∃ l_, (r.ws)[q]? = some l_ := ⟨_, List.getElem?_eq_getElem (by have := (hN.els 4 rfl).1; omega)⟩
          obtain ⟨lu, hlu⟩ := hOb_
          refine RL.ev rfl rfl (ev_loadG (m := q) (a := au) Try.underlying23 rfl (hN.sl 3 rfl) rfl hau) ?_
          have hft := flat_take hlu
          have hfl := flat_le r.ws (q + 1)
          have hcs : r.ws.take (q + 1) = r.ws.take q ++ [lu] := by rw [List.take_add_one, hlu]; rfl
          have hcw := crashWs_snoc (r.ws.take q) (ms.drop (loose (d.fs.take j))) lu ([], 0)
          rw [← hcs, hst, List.length_take, Nat.min_eq_left (by omega), List.drop_drop] at hcw
          have hal : acc.length = (r.ws.take q).flatten.length := by have := crashWs_len (r.ws.take q) (ms.drop (loose (d.fs.take j))) ([], 0); rw [hst] at this; simpa using this
          refine RL.ev rfl rfl ev_assign ?_
          refine RL.nil ?_
          refine thenN ?_
          refine RW.seq ?_
          refine RW.region ?_
          refine RL.ev rfl rfl ev_assign ?_
          refine RL.nil ?_
          refine thenN ?_
          refine RW.seq ?_
          refine RW.seq ?_
          refine RW.region ?_
          refine RL.ev rfl rfl ev_move ?_
          have hL_6 := (hmv2.now hN).len_le
          refine RL.ev rfl rfl (ev_lenS Try.underlying24 (hmv2.now hN) rfl) ?_
          refine RL.ev rfl rfl (ev_gtr rfl rfl) ?_
          refine RL.nil ?_
          refine thenN ?_
          refine RW.condP _ rfl (fun hmk => ?_) (fun hmk => ?_)
          · skip
            refine RW.draw rfl (fun u => Now w (foots [dskA 64 71 23 g d B]) u [.own vb 5 (va) (acc), .blk r.ptr [(vh h0), (vh h1)] 71, .sl vb ((vh h0)) (r.firm), .own vh 23 ((vh h1)) (hs), .fam vb (hs) (r.ws), .each (IsFile 71 23) Bf1 (rs2.eraseIdx i), .blk g [.int .i64 (d.room), .map (some m)] 64, .mp str m (rs2.map Rec.ent) (clock), .own str 9 (v1) (names d.fs)]) ?_
            replace hN := hN.ext (Ext.drew w1')
            refine RA.take (i := 0) rfl rfl (by kernel_rfl) (by kernel_rfl) (by kernel_rfl) (by intro _ _ _ h; exact h) rfl hN (fun w hS => ev_move) ?_
            refine RA.take (i := 1) rfl rfl (by kernel_rfl) (by kernel_rfl) (by kernel_rfl) (by intro _ _ _ h; exact h) rfl hN (fun w hS => (ev_index Try.underlying24 sz3 (hmv2.now hS) rfl rfl (by omega) (by omega))) ?_
            have hOb_ : ∃ a_, ((ms.drop (loose (d.fs.take j) + q)))[0]? = some a_ := ⟨_, List.getElem?_eq_getElem (by omega)⟩
            obtain ⟨amk, hamk⟩ := hOb_
            refine RA.take (i := 2) rfl rfl (by kernel_rfl) (by kernel_rfl) (by kernel_rfl) (by intro _ _ _ h; exact h) rfl hN (fun w hS => (ev_loadG (m := 0) (a := amk) Try.underlying3 rfl (hmv2.now hS) rfl hamk)) ?_
            have hnn : max 0 (min amk (lu.length : Int)) = ((min amk.toNat lu.length : Nat) : Int) := by omega
            have hhd : (ms.drop (loose (d.fs.take j) + q)).headD 0 = amk := headD_of hamk
            refine RA.take (i := 3) rfl rfl (by kernel_rfl) (by kernel_rfl) (by kernel_rfl) (by intro _ _ _ h; exact h) rfl hN (fun w hS => ev_move) ?_
            have hL_7 := ((hN.els 4 rfl).2 _ _ _ hau hlu).1.len_le
            refine RA.take (i := 4) rfl rfl (by kernel_rfl) (by kernel_rfl) (by kernel_rfl) (by intro _ _ _ h; exact h) rfl hN (fun w hS => (ev_lenS Try.underlying23 ((hS.els 4 rfl).2 _ _ _ hau hlu).1 rfl)) ?_
            refine RA.take (i := 5) rfl rfl (by kernel_rfl) (by kernel_rfl) (by kernel_rfl) (by intro _ _ _ h; exact h) rfl hN (fun w hS => (ev_min rfl rfl)) ?_
            refine RA.take (i := 6) rfl rfl (by kernel_rfl) (by kernel_rfl) (by kernel_rfl) (by intro _ _ _ h; exact h) rfl hN (fun w hS => (show Ev _ _ _ _ (.int .i64 ((min amk.toNat lu.length : Nat) : Int)) from by rw [← hnn]; exact ev_max rfl rfl)) ?_
            refine RA.take (i := 7) rfl rfl (by kernel_rfl) (by kernel_rfl) (by kernel_rfl) (by intro _ _ _ h; exact h) rfl hN (fun w hS => ev_move) ?_
            refine RA.take (i := 8) rfl rfl (by kernel_rfl) (by kernel_rfl) (by kernel_rfl) (by intro _ _ _ h; exact h) rfl hN (fun w hS => (ev_cutFrom Try.underlying24 sz3 (hmv2.now hS) rfl rfl (by omega) (by omega))) ?_
            refine RA.take (i := 9) rfl rfl (by kernel_rfl) (by kernel_rfl) (by kernel_rfl) (by intro _ _ _ h; exact h) rfl hN (fun w hS => ev_assign) ?_
            refine RA.take (i := 10) rfl rfl (by kernel_rfl) (by kernel_rfl) (by kernel_rfl) (by intro _ _ _ h; exact h) rfl hN (fun w hS => ev_assign) ?_
            refine RA.done (by kernel_rfl) ?_
            refine thenN ?_
            refine RW.seq ?_
            refine RW.region ?_
            refine RL.ev rfl rfl ev_move ?_
            refine RL.ev rfl rfl ev_move ?_
            refine RL.ev rfl rfl ev_move ?_
            refine RL.ev rfl rfl (ev_cutTo Try.underlying23 sz5 ((hN.els 4 rfl).2 _ _ _ hau hlu).1 rfl rfl (by omega) (by omega)) ?_
            refine RL.op rfl rfl (opN_append Try.underlying23 inf5 rfl vb_one hN 0 rfl rfl (((hN.els 4 rfl).2 _ _ _ hau hlu).1.cutTo (by omega)) rfl (by (try simp only [List.length_append, List.length_take, List.length_drop, List.length_nil, List.length_cons, List.length_replicate, List.length_append]); omega) (by decide) ?_)
            intro v8 w8 hN_
            clear hN
            have hN : Now w (foots [dskA 64 71 23 g d B]) w8 [_, _, _, _, _, _, _, _, _] := hN_
            clear hN_
            refine RL.ev rfl rfl ev_move ?_
            refine RL.ev rfl rfl (ev_lenS Try.underlying23 ((hN.els 4 rfl).2 _ _ _ hau hlu).1 rfl) ?_
            refine RL.ev rfl rfl ev_move ?_
            refine RL.ev rfl rfl (ev_arith rfl rfl rfl (sub64 (by omega) (by omega))) ?_
            refine RL.op rfl rfl (opN_appendZ (enc := vb) (z := 0) (m := (lu.length : Int) - ((min amk.toNat lu.length : Nat) : Int)) Try.underlying23 Try.underlying3 inf5 rfl rfl hN 0 rfl rfl rfl (by omega) (by (try simp only [List.length_append, List.length_take, List.length_drop, List.length_nil, List.length_cons, List.length_replicate, List.length_append]); omega) (by decide) ?_)
            intro v9 w9 hN_
            clear hN
            have hN : Now w (foots [dskA 64 71 23 g d B]) w9 [_, _, _, _, _, _, _, _, _] := hN_
            clear hN_
            refine RL.ev rfl rfl ev_assign ?_
            refine RL.nil ?_
            refine thenN ?_
            refine RW.seq ?_
            refine RW.seq ?_
            refine RW.region ?_
            refine RL.ev rfl rfl ev_move ?_
            refine RL.ev rfl rfl (ev_eql rfl rfl) ?_
            refine RL.nil ?_
            refine thenN ?_
            refine RW.condP _ rfl (fun hz => ?_) (fun hz => ?_)
            · skip
              refine RW.exit ?_
              refine thenX ?_
              refine blockHit ?_
              refine thenN ?_
              refine RW.region ?_
              refine RL.ev rfl rfl (ev_arith rfl rfl rfl (add64 (by omega) (by omega))) ?_
              refine RL.ev rfl rfl ev_move ?_
              refine RL.nil ?_
              refine thenN ?_
              rw [hhd, crashW_eq amk (by omega : (min amk.toNat lu.length) = min amk.toNat lu.length)] at hcw
              exact ⟨k2 - 1, by omega, st, (cutV mv2 1 (ms.drop (loose (d.fs.take j) + q)).length), v9, acc ++ (lu.take (min amk.toNat lu.length)) ++ List.replicate ((lu.length : Int) - ((min amk.toNat lu.length : Nat) : Int)).toNat 0, q + 1, rfl, rfl, rfl, rfl, rfl, rfl, rfl, rfl, rfl, rfl, rfl, hN, by omega, by (try simp only [List.length_append, List.length_take, List.length_replicate]); omega, by rw [hcw, if_pos (show (min amk.toNat lu.length) = 0 from by omega)]; try rfl, by have h1 := SlO.cutFrom hmv2 (lo := 1) (by omega); rw [List.drop_drop] at h1; exact h1⟩
            · skip
              refine RW.skip ?_
              refine thenN ?_
              have h14 : (((acc ++ (lu.take (min amk.toNat lu.length)) ++ List.replicate ((lu.length : Int) - ((min amk.toNat lu.length : Nat) : Int)).toNat 0).length : Int) - (lu.length : Int) + (((min amk.toNat lu.length : Nat) : Int))) = ((acc.length + (min amk.toNat lu.length) : Nat) : Int) := by (try simp only [List.length_append, List.length_take, List.length_replicate]); omega
              refine RW.region ?_
              refine RL.ev rfl rfl ev_move ?_
              have hL_10 := (hN.sl 0 rfl).len_le
              refine RL.ev rfl rfl (ev_lenS Try.underlying23 (hN.sl 0 rfl) rfl) ?_
              refine RL.ev rfl rfl ev_move ?_
              refine RL.ev rfl rfl (ev_lenS Try.underlying23 ((hN.els 4 rfl).2 _ _ _ hau hlu).1 rfl) ?_
              refine RL.ev rfl rfl (ev_arith rfl rfl rfl (sub64 (by omega) (by omega))) ?_
              refine RL.ev rfl rfl ev_move ?_
              refine RL.ev rfl rfl (show Ev _ _ _ _ (.int .i64 ((acc.length + (min amk.toNat lu.length) : Nat) : Int)) from by rw [← h14]; exact ev_arith rfl rfl rfl (add64 (by (try simp only [List.length_append, List.length_take, List.length_replicate]); omega) (by (try simp only [List.length_append, List.length_take, List.length_replicate]); omega))) ?_
              refine RL.ev rfl rfl ev_assign ?_
              refine RL.nil ?_
              refine blockN ?_
              refine thenN ?_
              refine RW.region ?_
              refine RL.ev rfl rfl (ev_arith rfl rfl rfl (add64 (by omega) (by omega))) ?_
              refine RL.ev rfl rfl ev_move ?_
              refine RL.nil ?_
              refine thenN ?_
              rw [hhd, crashW_eq amk (by omega : (min amk.toNat lu.length) = min amk.toNat lu.length)] at hcw
              exact ⟨k2 - 1, by omega, (acc.length + (min amk.toNat lu.length)), (cutV mv2 1 (ms.drop (loose (d.fs.take j) + q)).length), v9, acc ++ (lu.take (min amk.toNat lu.length)) ++ List.replicate ((lu.length : Int) - ((min amk.toNat lu.length : Nat) : Int)).toNat 0, q + 1, rfl, rfl, rfl, rfl, rfl, rfl, rfl, rfl, rfl, rfl, rfl, hN, by omega, by (try simp only [List.length_append, List.length_take, List.length_replicate]); omega, by rw [hcw, if_neg (show ¬ (min amk.toNat lu.length) = 0 from by omega)]; try rfl, by have h1 := SlO.cutFrom hmv2 (lo := 1) (by omega); rw [List.drop_drop] at h1; exact h1⟩
          · skip
            refine RW.skip ?_
            refine thenN ?_
            refine RW.seq ?_
            refine RW.region ?_
            refine RL.ev rfl rfl ev_move ?_
            refine RL.ev rfl rfl ev_move ?_
            refine RL.ev rfl rfl ev_move ?_
            refine RL.ev rfl rfl (ev_cutTo Try.underlying23 sz5 ((hN.els 4 rfl).2 _ _ _ hau hlu).1 rfl rfl (by omega) (by omega)) ?_
            refine RL.op rfl rfl (opN_append Try.underlying23 inf5 rfl vb_one hN 0 rfl rfl (((hN.els 4 rfl).2 _ _ _ hau hlu).1.cutTo (by omega)) rfl (by (try simp only [List.length_append, List.length_take, List.length_drop, List.length_nil, List.length_cons, List.length_replicate, List.length_append]); omega) (by decide) ?_)
            intro v11 w11 hN_
            clear hN
            have hN : Now w (foots [dskA 64 71 23 g d B]) w11 [_, _, _, _, _, _, _, _, _] := hN_
            clear hN_
            refine RL.ev rfl rfl ev_move ?_
            have hL_12 := ((hN.els 4 rfl).2 _ _ _ hau hlu).1.len_le
            refine RL.ev rfl rfl (ev_lenS Try.underlying23 ((hN.els 4 rfl).2 _ _ _ hau hlu).1 rfl) ?_
            refine RL.ev rfl rfl ev_move ?_
            refine RL.ev rfl rfl (ev_arith rfl rfl rfl (sub64 (by omega) (by omega))) ?_
            refine RL.op rfl rfl (opN_appendZ (enc := vb) (z := 0) (m := (lu.length : Int) - 0) Try.underlying23 Try.underlying3 inf5 rfl rfl hN 0 rfl rfl rfl (by omega) (by (try simp only [List.length_append, List.length_take, List.length_drop, List.length_nil, List.length_cons, List.length_replicate, List.length_append]); omega) (by decide) ?_)
            intro v13 w13 hN_
            clear hN
            have hN : Now w (foots [dskA 64 71 23 g d B]) w13 [_, _, _, _, _, _, _, _, _] := hN_
            clear hN_
            refine RL.ev rfl rfl ev_assign ?_
            refine RL.nil ?_
            refine thenN ?_
            refine RW.seq ?_
            refine RW.seq ?_
            refine RW.region ?_
            refine RL.ev rfl rfl ev_move ?_
            refine RL.ev rfl rfl (ev_true (ev_eql rfl rfl) rfl) ?_
            refine RL.nil ?_
            refine thenN ?_
            refine RW.condT rfl ?_
            refine RW.exit ?_
            refine thenX ?_
            refine blockHit ?_
            refine thenN ?_
            refine RW.region ?_
            refine RL.ev rfl rfl (ev_arith rfl rfl rfl (add64 (by omega) (by omega))) ?_
            refine RL.ev rfl rfl ev_move ?_
            refine RL.nil ?_
            refine thenN ?_
            have hms0 : ms.drop (loose (d.fs.take j) + q) = [] := List.eq_nil_of_length_eq_zero (by omega)
            have hhd : (ms.drop (loose (d.fs.take j) + q)).headD 0 = 0 := by rw [hms0]; rfl
            rw [hhd, crashW_eq 0 (by simp : 0 = min (0 : Int).toNat lu.length)] at hcw
            exact ⟨k2 - 1, by omega, st, mv2, v13, acc ++ (lu.take 0) ++ List.replicate ((lu.length : Int) - 0).toNat 0, q + 1, rfl, rfl, rfl, rfl, rfl, rfl, rfl, rfl, rfl, rfl, rfl, hN, by omega, by (try simp only [List.length_append, List.length_take, List.length_replicate]); omega, by rw [hcw, if_pos rfl]; try rfl, by rw [hms0] at hmv2; have h1 : ms.drop (loose (d.fs.take j) + (q + 1)) = [] := (by rw [← Nat.add_assoc, ← List.drop_drop, hms0]; rfl); rw [h1]; exact hmv2⟩
        · skip
          refine RW.exit ?_
          refine thenX ?_
          refine thenX ?_
          refine blockHit ?_
          refine thenN ?_
          have hqe_ := (((hN.sl 0 rfl).cutTo hsl).hd)
          obtain ⟨hqq, hqq_⟩ := hqe_
          refine RW.draw rfl (fun u => Now w (foots [dskA 64 71 23 g d B]) u [.own vb 5 (va) (acc), .sl vb ((vh h0)) (r.firm), .own vh 23 ((vh h1)) (hs), .fam vb (hs) (r.ws), .each (IsFile 71 23) Bf1 (rs2.eraseIdx i), .blk g [.int .i64 (d.room), .map (some m)] 64, .mp str m (rs2.map Rec.ent) (clock), .own str 9 (v1) (names d.fs)]) ?_
          replace hN := hN.ext (Ext.drew w1')
          refine RA.take (i := 0) rfl rfl (by kernel_rfl) (by kernel_rfl) (by kernel_rfl) (by intro _ _ _ h; exact h) rfl (hN.sub [0, 2, 3, 4, 5, 6, 7, 8] (by decide) rfl) (fun w hS => ev_move) ?_
          refine RA.take (i := 1) rfl rfl (by kernel_rfl) (by kernel_rfl) (by kernel_rfl) (by intro _ _ _ h; exact h) rfl (hN.sub [0, 2, 3, 4, 5, 6, 7, 8] (by decide) rfl) (fun w hS => ev_move) ?_
          refine RA.take (i := 2) rfl rfl (by kernel_rfl) (by kernel_rfl) (by kernel_rfl) (by intro _ _ _ h; exact h) rfl (hN.sub [0, 2, 3, 4, 5, 6, 7, 8] (by decide) rfl) (fun w hS => ev_move) ?_
          refine RA.take (i := 3) rfl rfl (by kernel_rfl) (by kernel_rfl) (by kernel_rfl) (by intro _ _ _ h; exact h) rfl (hN.sub [0, 2, 3, 4, 5, 6, 7, 8] (by decide) rfl) (fun w hS => (ev_nilCheck rfl)) ?_
          refine RA.take (i := 4) rfl rfl (by kernel_rfl) (by kernel_rfl) (by kernel_rfl) (by intro _ _ _ h; exact h) rfl (hN.sub [0, 2, 3, 4, 5, 6, 7, 8] (by decide) rfl) (fun w hS => (ev_fieldAddr Try.underlying71 rfl sz23 (by decide) rfl)) ?_
          refine RA.take (i := 6) rfl rfl (by kernel_rfl) (by kernel_rfl) (by kernel_rfl) (by intro _ _ _ h; exact h) rfl (hN.sub [0, 2, 3, 4, 5, 6, 7, 8] (by decide) rfl) (fun w hS => ev_move) ?_
          refine RA.take (i := 7) rfl rfl (by kernel_rfl) (by kernel_rfl) (by kernel_rfl) (by intro _ _ _ h; exact h) rfl (hN.sub [0, 2, 3, 4, 5, 6, 7, 8] (by decide) rfl) (fun w hS => ev_move) ?_
          refine RA.take (i := 8) rfl rfl (by kernel_rfl) (by kernel_rfl) (by kernel_rfl) (by intro _ _ _ h; exact h) rfl (hN.sub [0, 2, 3, 4, 5, 6, 7, 8] (by decide) rfl) (fun w hS => (ev_cutTo Try.underlying23 sz5 (hS.sl 0 rfl) rfl rfl (by omega) (by omega))) ?_
          refine RA.only (i := 5) (by kernel_rfl) rfl rfl rfl (OpR.ev (ev_loadB Try.underlying23 rfl rfl (hN.blk 1 rfl) rfl) ⟨(hN.sub [0, 2, 3, 4, 5, 6, 7, 8] (by decide) rfl), ?_⟩)
          refine RA.only (i := 9) (by kernel_rfl) rfl rfl rfl (opN_lit (enc := vh) (l := [h0, hqq]) (xs := [.tmp 71, .tmp 74]) Try.underlying69 sz23 zr23 rfl (by show [vh h0, cutV va 0 st] = [vh h0, vh hqq]; rw [hqq_]) (fun _ => rfl) rfl (by decide) (by decide) hN ?_)
          intro g14 w14 hN_
          clear hN
          have hN : Now w (foots [dskA 64 71 23 g d B]) w14 [_, _, _, _, _, _, _, _, _, _] := hN_
          clear hN_
          refine ⟨(hN.sub [1, 3, 4, 5, 6, 7, 8, 9] (by decide) rfl), ?_⟩
          refine RA.only (i := 10) (by kernel_rfl) rfl rfl rfl (op_call1 Try.func35 rfl rfl rfl ((concat_calls _ ([h0, hqq]) ([r.firm, acc.take st]) _ (hN.sl 0 rfl) (Els.cons (hN.slr 3 rfl) (Off.none _ _) (Els.cons (hqq_ ▸ ((hN.sl 1 rfl).cutTo (show st ≤ acc.length from hsl))) (Off.none _ _) (Els.nil _ _ _))) (by simp only [List.flatten_cons, List.flatten_nil, List.append_nil, List.length_append, List.length_take]; have := flat_le r.ws q; have hal : acc.length = (r.ws.take q).flatten.length := by {have := crashWs_len (r.ws.take q) (ms.drop (loose (d.fs.take j))) ([], 0); rw [hst] at this; simpa using this}; omega)).mono ?_))
          rintro v15 w15 ⟨ho_, he_⟩
          have hN_ := hN.pushOwn (l := ([r.firm, acc.take st]).flatten) ho_ he_
          clear ho_ he_
          clear hN
          have hN : Now w (foots [dskA 64 71 23 g d B]) w15 [_, _, _, _, _, _, _, _, _, _, _] := hN_
          clear hN_
          refine ⟨(hN.sub [2, 4, 5, 6, 7, 8, 9, 10] (by decide) rfl), ?_⟩
          refine RA.take (i := 11) rfl rfl (by kernel_rfl) (by kernel_rfl) (by kernel_rfl) (by intro _ _ _ h; exact h) rfl (hN.sub [2, 4, 5, 6, 7, 8, 9, 10] (by decide) rfl) (fun w hS => (ev_nilCheck rfl)) ?_
          refine RA.take (i := 12) rfl rfl (by kernel_rfl) (by kernel_rfl) (by kernel_rfl) (by intro _ _ _ h; exact h) rfl (hN.sub [2, 4, 5, 6, 7, 8, 9, 10] (by decide) rfl) (fun w hS => (ev_fieldAddr Try.underlying71 rfl sz23 (by decide) rfl)) ?_
          refine RA.only (i := 13) (by kernel_rfl) rfl rfl rfl (opN_store sz23 rfl rfl (hN.sl 0 rfl).cells1 (hN.sl 0 rfl).one1 hN 3 rfl (Nat.le_of_ble_eq_true rfl) ?_)
          intro w16 hN_
          clear hN
          have hN : Now w (foots [dskA 64 71 23 g d B]) w16 [_, _, _, _, _, _, _, _, _, _, _] := hN_
          clear hN_
          refine ⟨(hN.sub [2, 4, 5, 6, 7, 8, 9, 10] (by decide) rfl), ?_⟩
          refine RA.take (i := 14) rfl rfl (by kernel_rfl) (by kernel_rfl) (by kernel_rfl) (by intro _ _ _ h; exact h) rfl (hN.sub [2, 4, 5, 6, 7, 8, 9, 10] (by decide) rfl) (fun w hS => (ev_nilCheck rfl)) ?_
          refine RA.take (i := 15) rfl rfl (by kernel_rfl) (by kernel_rfl) (by kernel_rfl) (by intro _ _ _ h; exact h) rfl (hN.sub [2, 4, 5, 6, 7, 8, 9, 10] (by decide) rfl) (fun w hS => (ev_fieldAddr Try.underlying71 rfl sz69 (by decide) rfl)) ?_
          refine RA.only (i := 16) (by kernel_rfl) rfl rfl rfl (opN_store sz69 rfl rfl rfl rfl hN 3 rfl (Nat.le_of_ble_eq_true rfl) ?_)
          intro w17 hN_
          clear hN
          have hN : Now w (foots [dskA 64 71 23 g d B]) w17 [_, _, _, _, _, _, _, _, _, _, _] := hN_
          clear hN_
          refine ⟨(hN.sub [2, 4, 5, 6, 7, 8, 9, 10] (by decide) rfl), ?_⟩
          refine RA.done (by kernel_rfl) ?_
          refine scopeN ?_
          refine blockN ?_
          refine thenN ?_
          refine RW.region ?_
          refine RL.ev rfl rfl (ev_arith rfl rfl rfl (add64 (by omega) (by omega))) ?_
          refine RL.ev rfl rfl ev_move ?_
          refine RL.nil ?_
          refine thenN ?_
          replace hN := hN.ownSl 0 rfl
          replace hN := hN.addNil vh 23
          replace hN := hN.famNil vb
          replace hN : Now w (foots [dskA 64 71 23 g d B]) w17 [.fam vb ([]) ([]), .own vh 23 (.slice none 0 0) ([]), .sl vb (v15) (([r.firm, acc.take st]).flatten), .own vh 23 (.slice (some ⟨g14, 0, none⟩) 2 2) ([h0, hqq]), .own vb 5 (va) (acc), .blk r.ptr [v15, .slice none 0 0] 71, .sl vb ((vh h0)) (r.firm), .own vh 23 ((vh h1)) (hs), .fam vb (hs) (r.ws), .each (IsFile 71 23) Bf1 (rs2.eraseIdx i), .blk g [.int .i64 (d.room), .map (some m)] 64, .mp str m (rs2.map Rec.ent) (clock), .own str 9 (v1) (names d.fs)] := hN
          have hfl_ : [r.firm, acc.take st].flatten = r.firm ++ acc.take st := by simp
          rw [hfl_] at hN
          replace hN := hN.sub (M := [.blk r.ptr [v15, .slice none 0 0] 71, .sl vb (v15) ((r.firm ++ acc.take st)), .own vh 23 (.slice none 0 0) ([]), .fam vb ([]) ([]), .each (IsFile 71 23) Bf1 (rs2.eraseIdx i), .own vh 23 (.slice (some ⟨g14, 0, none⟩) 2 2) ([h0, hqq]), .own vb 5 (va) (acc), .sl vb ((vh h0)) (r.firm), .own vh 23 ((vh h1)) (hs), .fam vb (hs) (r.ws), .blk g [.int .i64 (d.room), .map (some m)] 64, .mp str m (rs2.map Rec.ent) (clock), .own str 9 (v1) (names d.fs)]) [5, 2, 1, 0, 9, 3, 4, 6, 7, 8, 10, 11, 12] (by decide) rfl
          have hN2_ := file_in (r' := ⟨r.name, r.ptr, r.born, r.firm ++ acc.take st, []⟩) (R := [_, _, _, _, _, _, _, _]) hi hN
          clear hN
          obtain ⟨Bf3, hN⟩ := hN2_
          rw [← ent_set (r' := ⟨r.name, r.ptr, r.born, r.firm ++ acc.take st, []⟩) hi rfl] at hN
          replace hN : Now w (foots [dskA 64 71 23 g d B]) w17 [.each (IsFile 71 23) Bf3 (rs2.set i ⟨r.name, r.ptr, r.born, r.firm ++ acc.take st, []⟩), .own vh 23 (.slice (some ⟨g14, 0, none⟩) 2 2) ([h0, hqq]), .own vb 5 (va) (acc), .sl vb ((vh h0)) (r.firm), .own vh 23 ((vh h1)) (hs), .fam vb (hs) (r.ws), .blk g [.int .i64 (d.room), .map (some m)] 64, .mp str m ((rs2.set i ⟨r.name, r.ptr, r.born, r.firm ++ acc.take st, []⟩).map Rec.ent) (clock), .own str 9 (v1) (names d.fs)] := hN
          have hq_ : q = r.ws.length := by omega
          have hcf : crashF (ms.drop (loose (d.fs.take j))) r.fil = ⟨r.name, r.firm ++ acc.take st, []⟩ := by
            unfold crashF
            rw [hq_, List.take_length] at hst
            show (⟨r.name, r.firm ++ (crashWs (ms.drop (loose (d.fs.take j))) r.ws ([], 0)).1.take (crashWs (ms.drop (loose (d.fs.take j))) r.ws ([], 0)).2, []⟩ : Fil) = _
            rw [hst]
          have hcg := crash_get (ms := ms) hf_
          rw [hcf] at hcg
          have hset := crash_step hf_ hcg (List.length_take_of_le (by omega))
          exact ⟨k - 1, by omega, rs2.set i ⟨r.name, r.ptr, r.born, r.firm ++ acc.take st, []⟩, Bf3, mv2, j + 1, rfl, rfl, rfl, rfl, rfl, (hN.sub [6, 7, 0, 8] (by decide) rfl), by omega, by have h1 := hw2.set (firm := r.firm ++ acc.take st) (ws := []) hi; rw [putIn_set (g := ⟨r.name, r.firm ++ acc.take st, []⟩) hw2.rising hfj rfl, hset] at h1; exact h1, by rw [hlo, ← show r.fil.ws.length = r.ws.length from rfl]; rw [hq_] at hmv2; exact hmv2⟩
    · skip
      refine RW.exit ?_
      refine thenX ?_
      refine thenX ?_
      refine blockHit ?_
      refine retN (RV.zero rfl) ?_
      have hj_ : j = d.fs.length := by omega
      have hcl := crash_length d.fs ms
      rw [hj_, List.drop_length, List.append_nil, List.take_of_length_le (by omega)] at hw2
      replace hN := hN.sub (M := [.blk g [.int .i64 (d.room), .map (some m)] 64, .mp str m (rs2.map Rec.ent) (clock), .each (IsFile 71 23) Bf2 rs2, .own str 9 (v1) (names d.fs)]) [0, 1, 2, 3] (by decide) rfl
      replace hN : Now w (foots [dskA 64 71 23 g d B]) w0' (dskL 64 71 23 g ⟨d.room, crash ms d.fs⟩ m rs2 clock Bf2 ++ [_]) := hN
      have hN2_ := dsk_close (Td := 64) (R := [_]) hw2 hN
      clear hN
      obtain ⟨B2, hN⟩ := hN2_
      exact ⟨B2, rfl, hN.sub [0] (by decide) rfl⟩

end Go.Proofs.Ytlblpiapeieofaa
