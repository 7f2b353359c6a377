import Derived.Test.YtlblpiapeieofaaDiskW1
import Derived.Test.YtlblpiapeieofaaDiskKeys
import Derived.Test.YtlblpiapeieofaaIter
set_option linter.unusedVariables false
set_option linter.unusedSimpArgs false
namespace Go.Proofs.Ytlblpiapeieofaa
open Go.RowKit Go.Rl

open Go.Disk
set_option maxHeartbeats 4000000 in
set_option maxRecDepth 100000 in
/-- postroad/disk.named -/
theorem named_calls (l : List UInt8) (w : World) : Gives Try.prog 30 #[(str l)] w fun r w' => r = .bool (decide (Disk.named l)) ∧ w = w' := by
  refine Gives.start Try.func30 rfl (Nat.le_of_ble_eq_true rfl) ?_
  rw [args1]
  have hN := Now.nil w none_
  refine RW.seq ?_
  refine RW.region ?_
  refine RL.ev rfl rfl ev_assign ?_
  refine RL.nil ?_
  refine thenN ?_
  refine RW.seq ?_
  refine RW.region ?_
  refine RL.ev rfl rfl ev_move ?_
  refine RL.ev rfl rfl (ev_strNe rfl rfl) ?_
  refine RL.ev rfl rfl ev_move ?_
  by_cases hg1_2 : ¬ l = []
  · skip
    rw [decide_eq_true hg1_2]
    refine RL.onEv rfl rfl (by decide) rfl rfl ev_move ?_
    refine RL.onEv rfl rfl (by decide) rfl rfl (ev_lenS' Try.underlying9 rfl) ?_
    refine RL.onEv rfl rfl (by decide) rfl rfl (ev_leq rfl rfl) ?_
    refine RL.ev rfl rfl (ev_pickT rfl) ?_
    refine RL.ev rfl rfl ev_assign ?_
    refine RL.nil ?_
    refine thenN ?_
    refine RW.ret ?_
    refine retI (RV.tmp rfl) ?_
    refine ⟨congrArg Value.bool ?_, rfl⟩
    refine decide_eq_decide.2 ⟨fun h => ⟨?_, by omega⟩, fun h => by have := h.2; omega⟩
    exact List.length_pos_iff.2 hg1_2
  · skip
    rw [decide_eq_false hg1_2]
    refine RL.off rfl rfl (by decide) rfl rfl ?_
    refine RL.off rfl rfl (by decide) rfl rfl ?_
    refine RL.off rfl rfl (by decide) rfl rfl ?_
    refine RL.ev rfl rfl (ev_pickF rfl) ?_
    refine RL.ev rfl rfl ev_assign ?_
    refine RL.nil ?_
    refine thenN ?_
    refine RW.ret ?_
    refine retI (RV.tmp rfl) ?_
    refine ⟨congrArg Value.bool (decide_eq_false fun h : Disk.named l => ?_).symm, rfl⟩
    have h1 := h.1
    exact hg1_2 fun e => by rw [e] at h1; exact absurd h1 (by decide)

set_option maxHeartbeats 4000000 in
set_option maxRecDepth 100000 in
/-- postroad/postroadref04.named -/
theorem refNamed_calls (l : List UInt8) (w : World) : Gives Try.prog 36 #[(str l)] w fun r w' => r = .bool (decide (Disk.named l)) ∧ w = w' := by
  refine Gives.start Try.func36 rfl (Nat.le_of_ble_eq_true rfl) ?_
  rw [args1]
  have hN := Now.nil w none_
  refine RW.seq ?_
  refine RW.region ?_
  refine RL.ev rfl rfl ev_assign ?_
  refine RL.nil ?_
  refine thenN ?_
  refine RW.seq ?_
  refine RW.region ?_
  refine RL.ev rfl rfl ev_move ?_
  refine RL.ev rfl rfl (ev_lenS' Try.underlying9 rfl) ?_
  refine RL.ev rfl rfl (ev_geq rfl rfl) ?_
  refine RL.ev rfl rfl ev_move ?_
  by_cases hg1_3 : 1 ≤ (l.length : Int)
  · skip
    rw [decide_eq_true hg1_3]
    refine RL.onEv rfl rfl (by decide) rfl rfl ev_move ?_
    refine RL.onEv rfl rfl (by decide) rfl rfl (ev_lenS' Try.underlying9 rfl) ?_
    refine RL.onEv rfl rfl (by decide) rfl rfl (ev_leq rfl rfl) ?_
    refine RL.ev rfl rfl (ev_pickT rfl) ?_
    refine RL.ev rfl rfl ev_assign ?_
    refine RL.nil ?_
    refine thenN ?_
    refine RW.ret ?_
    refine retI (RV.tmp rfl) ?_
    refine ⟨congrArg Value.bool ?_, rfl⟩
    refine decide_eq_decide.2 ⟨fun h => ⟨?_, by omega⟩, fun h => by have := h.2; omega⟩
    omega
  · skip
    rw [decide_eq_false hg1_3]
    refine RL.off rfl rfl (by decide) rfl rfl ?_
    refine RL.off rfl rfl (by decide) rfl rfl ?_
    refine RL.off rfl rfl (by decide) rfl rfl ?_
    refine RL.ev rfl rfl (ev_pickF rfl) ?_
    refine RL.ev rfl rfl ev_assign ?_
    refine RL.nil ?_
    refine thenN ?_
    refine RW.ret ?_
    refine retI (RV.tmp rfl) ?_
    refine ⟨congrArg Value.bool (decide_eq_false fun h : Disk.named l => ?_).symm, rfl⟩
    have h1 := h.1
    omega

theorem named_true (l : List UInt8) (w : World) (h : Disk.named l) : Gives Try.prog 30 #[str l] w fun r w' => r = .bool true ∧ w = w' := (named_calls l w).mono fun r w' hr => by rw [decide_eq_true h] at hr; exact hr
theorem refNamed_true (l : List UInt8) (w : World) (h : Disk.named l) : Gives Try.prog 36 #[str l] w fun r w' => r = .bool true ∧ w = w' := (refNamed_calls l w).mono fun r w' hr => by rw [decide_eq_true h] at hr; exact hr

set_option maxHeartbeats 4000000 in
set_option maxRecDepth 100000 in
/-- (*postroad/disk.file).all -/
theorem all_calls (g : Nat) (h0 h1 : Hd) (hs : List Hd) (firm : List UInt8) (ws : List (List UInt8)) (w : World) (hb : Blk w g [vh h0, vh h1] 71) (hf : Sl vb w (vh h0) firm) (hw : Sl vh w (vh h1) hs) (hel : Els none_ vb w hs ws) (hm : (firm ++ ws.flatten).length ≤ 1099511627776) (hn : ws.length ≤ 1048576) : Gives Try.prog 32 #[.pointer (some ⟨g, 0, none⟩)] w fun r w' => Own vb 5 w' w.heap.size r (firm ++ ws.flatten) ∧ Ext w w' := by
  refine Gives.start Try.func32 rfl (Nat.le_of_ble_eq_true rfl) ?_
  rw [args1]
  have hN := Now.nil w none_
  have hl0 := hel.1
  refine RW.seq ?_
  refine RW.region ?_
  refine RL.ev rfl rfl ev_assign ?_
  refine RL.nil ?_
  refine thenN ?_
  refine RW.seq ?_
  refine RW.draw rfl (fun u => Now w none_ u []) ?_
  replace hN := hN.ext (Ext.drew w)
  refine RA.take (i := 0) rfl rfl (by kernel_rfl) (by kernel_rfl) (by kernel_rfl) (by intro _ _ _ h; exact h) rfl hN (fun w hS => ev_move) ?_
  refine RA.take (i := 1) rfl rfl (by kernel_rfl) (by kernel_rfl) (by kernel_rfl) (by intro _ _ _ h; exact h) rfl hN (fun w hS => (ev_nilCheck rfl)) ?_
  refine RA.take (i := 2) rfl rfl (by kernel_rfl) (by kernel_rfl) (by kernel_rfl) (by intro _ _ _ h; exact h) rfl hN (fun w hS => (ev_fieldAddr Try.underlying71 rfl sz23 (by decide) rfl)) ?_
  refine RA.take (i := 3) rfl rfl (by kernel_rfl) (by kernel_rfl) (by kernel_rfl) (by intro _ _ _ h; exact h) rfl hN (fun w hS => (ev_loadB Try.underlying23 rfl rfl (hb.ext hS.ext0) rfl)) ?_
  refine RA.take (i := 5) rfl rfl (by kernel_rfl) (by kernel_rfl) (by kernel_rfl) (by intro _ _ _ h; exact h) rfl hN (fun w hS => ev_move) ?_
  refine RA.take (i := 6) rfl rfl (by kernel_rfl) (by kernel_rfl) (by kernel_rfl) (by intro _ _ _ h; exact h) rfl hN (fun w hS => (ev_nilCheck rfl)) ?_
  refine RA.take (i := 7) rfl rfl (by kernel_rfl) (by kernel_rfl) (by kernel_rfl) (by intro _ _ _ h; exact h) rfl hN (fun w hS => (ev_fieldAddr Try.underlying71 rfl sz69 (by decide) rfl)) ?_
  refine RA.take (i := 8) rfl rfl (by kernel_rfl) (by kernel_rfl) (by kernel_rfl) (by intro _ _ _ h; exact h) rfl hN (fun w hS => (ev_loadB Try.underlying69 rfl rfl (hb.ext hS.ext0) rfl)) ?_
  refine RA.only (i := 4) (by kernel_rfl) rfl rfl rfl (opN_lit (enc := vh) (l := [h0]) (xs := [.tmp 6]) Try.underlying69 sz23 zr23 rfl rfl (fun _ => rfl) rfl (by decide) (by decide) hN ?_)
  intro g1 w1 hN_
  clear hN
  have hN : Now w none_ w1 [_] := hN_
  clear hN_
  refine ⟨(hN.sub [] (by decide) rfl), ?_⟩
  refine RA.only (i := 9) (by kernel_rfl) rfl rfl rfl (opN_append Try.underlying69 inf23 rfl vh_one hN 0 rfl rfl (hw.ext hN.ext0) rfl (by simp only [List.length_singleton, List.length_cons, List.length_nil]; omega) (by decide) ?_)
  intro v2 w2 hN_
  clear hN
  have hN : Now w none_ w2 [_] := hN_
  clear hN_
  refine ⟨(hN.sub [] (by decide) rfl), ?_⟩
  refine RA.only (i := 10) (by kernel_rfl) rfl rfl rfl (op_call1 Try.func35 rfl rfl rfl ((concat_calls _ ([h0] ++ hs) ([firm] ++ ws) _ (hN.sl 0 rfl) ((Els.cons (hf.ext hN.ext0) (Off.none _ _) (Els.nil _ _ _)).append (hel.ext hN.ext0)) (by simp only [List.flatten_append, List.flatten_cons, List.flatten_nil, List.append_nil]; omega)).mono ?_))
  rintro v3 w3 ⟨ho_, he_⟩
  have hN_ := hN.pushOwn (l := ([firm] ++ ws).flatten) ho_ he_
  clear ho_ he_
  clear hN
  have hN : Now w none_ w3 [_, _] := hN_
  clear hN_
  refine ⟨(hN.sub [] (by decide) rfl), ?_⟩
  refine RA.take (i := 11) rfl rfl (by kernel_rfl) (by kernel_rfl) (by kernel_rfl) (by intro _ _ _ h; exact h) rfl (hN.sub [] (by decide) rfl) (fun w hS => ev_assign) ?_
  refine RA.done (by kernel_rfl) ?_
  refine thenN ?_
  refine RW.ret ?_
  refine retI (RV.tmp rfl) ?_
  exact ⟨(hN.ownOut 0 rfl).relist (by simp), hN.ext0⟩

set_option maxHeartbeats 4000000 in
set_option maxRecDepth 100000 in
/-- postroad/disk.New -/
theorem newNone_calls (room : Int) (w : World) (hb : ¬ (0 ≤ room ∧ room ≤ 1099511627776)) : Gives Try.prog 12 #[.int .i64 (room)] w fun r w' => r = .pointer none ∧ w' = w := by
  refine Gives.start Try.func12 rfl (Nat.le_of_ble_eq_true rfl) ?_
  rw [args1]
  have hN := Now.nil w none_
  refine RW.seq ?_
  refine RW.region ?_
  refine RL.ev rfl rfl ev_assign ?_
  refine RL.nil ?_
  refine thenN ?_
  refine RW.seq ?_
  refine RW.seq ?_
  refine RW.region ?_
  refine RL.ev rfl rfl ev_move ?_
  refine RL.ev rfl rfl (ev_lss rfl rfl) ?_
  refine RL.ev rfl rfl ev_move ?_
  by_cases hg1_2 : room < 0
  · skip
    rw [decide_eq_true hg1_2]
    refine RL.off rfl rfl (by decide) rfl rfl ?_
    refine RL.off rfl rfl (by decide) rfl rfl ?_
    refine RL.ev rfl rfl (ev_pickT rfl) ?_
    refine RL.nil ?_
    refine thenN ?_
    refine RW.condT rfl ?_
    refine RW.seq ?_
    refine RW.region ?_
    refine RL.ev rfl rfl ev_assign ?_
    refine RL.nil ?_
    refine thenN ?_
    refine RW.ret ?_
    refine thenR ?_
    refine retI (RV.tmp rfl) ?_
    exact ⟨rfl, rfl⟩
  · skip
    rw [decide_eq_false hg1_2]
    refine RL.onEv rfl rfl (by decide) rfl rfl ev_move ?_
    refine RL.onEv rfl rfl (by decide) rfl rfl (ev_gtr rfl rfl) ?_
    refine RL.ev rfl rfl (ev_pickF rfl) ?_
    refine RL.nil ?_
    refine thenN ?_
    refine RW.condP _ rfl (fun hc8 => ?_) (fun hc8 => ?_)
    · skip
      refine RW.seq ?_
      refine RW.region ?_
      refine RL.ev rfl rfl ev_assign ?_
      refine RL.nil ?_
      refine thenN ?_
      refine RW.ret ?_
      refine thenR ?_
      refine retI (RV.tmp rfl) ?_
      exact ⟨rfl, rfl⟩
    · skip
      exact absurd ⟨by omega, by omega⟩ hb -- closed

set_option maxHeartbeats 4000000 in
set_option maxRecDepth 100000 in
/-- postroad/disk.New -/
theorem newOpen_calls (room : Int) (w : World) (h0 : 0 ≤ room) (h1 : room ≤ 1099511627776) : Gives Try.prog 12 #[.int .i64 (room)] w fun r w' => ∃ g m, r = .pointer (some ⟨g, 0, none⟩) ∧ Now w none_ w' (dskL 64 71 23 g ⟨room, []⟩ m [] 0 none_) := by
  refine Gives.start Try.func12 rfl (Nat.le_of_ble_eq_true rfl) ?_
  rw [args1]
  have hN := Now.nil w none_
  refine RW.seq ?_
  refine RW.region ?_
  refine RL.ev rfl rfl ev_assign ?_
  refine RL.nil ?_
  refine thenN ?_
  refine RW.seq ?_
  refine RW.seq ?_
  refine RW.region ?_
  refine RL.ev rfl rfl ev_move ?_
  refine RL.ev rfl rfl (ev_false (ev_lss rfl rfl) (by omega)) ?_
  refine RL.ev rfl rfl ev_move ?_
  refine RL.onEv rfl rfl (by decide) rfl rfl ev_move ?_
  refine RL.onEv rfl rfl (by decide) rfl rfl (ev_false (ev_gtr rfl rfl) (by omega)) ?_
  refine RL.ev rfl rfl (ev_pickF rfl) ?_
  refine RL.nil ?_
  refine thenN ?_
  refine RW.condF rfl ?_
  refine RW.skip ?_
  refine thenN ?_
  refine RW.seq ?_
  refine RW.region ?_
  refine RL.ev rfl rfl ev_move ?_
  refine RL.op rfl rfl (opN_makeMap (t := 62) (kt := 9) (et := 66) (str) hN ?_)
  intro m1 w1 hN_
  clear hN
  have hN : Now w none_ w1 [_] := hN_
  clear hN_
  refine RL.ev rfl rfl (ev_buildL (cs := [.int .i64 (room), .map (some m1)]) Try.underlying64 zero64 (places := #[(0, 1), (1, 1)]) (by intro w; kernel_rfl) (pl := [(0, .tmp 9), (1, .tmp 10)]) rfl (ps := [(0, .int .i64 (room)), (1, .map (some m1))]) rfl (zc := [.int .i64 (0), .map none]) rfl (fill_step (vs := [.int .i64 (room)]) rfl rfl (Nat.le_of_ble_eq_true rfl) (fill_step (vs := [.map (some m1)]) rfl rfl (Nat.le_of_ble_eq_true rfl) rfl))) ?_
  refine RL.op rfl rfl (opN_box (cs := [.int .i64 (room), .map (some m1)]) rfl rfl hN ?_)
  intro g2 w2 hN_
  clear hN
  have hN : Now w none_ w2 [_, _] := hN_
  clear hN_
  refine RL.ev rfl rfl ev_assign ?_
  refine RL.nil ?_
  refine thenN ?_
  refine RW.ret ?_
  refine retI (RV.tmp rfl) ?_
  exact ⟨_, _, rfl, (Now.eachNil hN (IsFile 71 23)).sub [1, 2, 0] (by decide) rfl⟩

theorem new_calls (room : Int) (w : World) (h0 : 0 ≤ room) (h1 : room ≤ 1099511627776) : Gives Try.prog 12 #[.int .i64 (room)] w fun r w' => ∃ g B, r = .pointer (some ⟨g, 0, none⟩) ∧ Now w none_ w' [dskA 64 71 23 g ⟨room, []⟩ B] :=
  (newOpen_calls room w h0 h1).mono fun r w' ⟨g, m, hr, hN⟩ => by
    obtain ⟨B, hN3⟩ := dsk_close (R := []) (show Well [] 0 ⟨room, []⟩ from ⟨.refl _, List.Pairwise.nil, List.nodup_nil, fun r hr => by cases hr⟩) (by rw [List.append_nil]; exact hN)
    exact ⟨g, B, hr, hN3⟩

end Go.Proofs.Ytlblpiapeieofaa
