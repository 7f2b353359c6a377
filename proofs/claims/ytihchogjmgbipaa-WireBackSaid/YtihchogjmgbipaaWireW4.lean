import Derived.Test.YtihchogjmgbipaaWireW3
import Derived.Test.YtihchogjmgbipaaWirePlain2
set_option linter.unusedVariables false
set_option linter.unusedSimpArgs false
namespace Go.Proofs.Ytihchogjmgbipaa
open Go.RowKit Go.Rl

open Go.Codec
set_option maxHeartbeats 4000000 in
set_option maxRecDepth 100000 in
/-- postroad/wire.Tell$1 -/
theorem tellAdd_calls {F : Nat → Prop} (v : Value) (hs : List Hd) (ls : List (List UInt8)) (gO : Nat) (vo : Value) (lo : List UInt8) (w : World) (hv : Sl vh w v hs) (hvo : Off F v hs)
    (hel : Els F vb w hs ls) (hN : Now w F w [.blk gO [vo] 23, .own vb 5 vo lo]) (hsz : lo.length + ls.flatten.length ≤ 140737488351232) : Gives Try.prog 41 #[v, .pointer (some ⟨gO, 0, none⟩)] w fun r w' => ∃ vo', r = .tuple #[] ∧ Now w F w' [.blk gO [vo'] 23, .own vb 5 vo' (lo ++ ls.flatten)] := by
  refine Gives.start Try.func41 rfl (Nat.le_of_ble_eq_true rfl) ?_
  rw [args2]
  refine RW.seq ?_
  refine RW.region ?_
  refine RL.ev rfl rfl ev_move ?_
  have hL_1 := (hv.off hvo hN.mod).len_le
  refine RL.ev rfl rfl (ev_lenS Try.underlying22 (hv.off hvo hN.mod) rfl) ?_
  refine RL.ev rfl rfl ev_move ?_
  refine RL.nil ?_
  refine thenN ?_
  refine RW.block ?_
  refine RW.loop (fun k R0 w0' => ∃ vi_ : Value, ∃ li : List UInt8, ∃ i : Nat, R0 1 = .pointer (some ⟨gO, 0, none⟩) ∧ R0 5 = v ∧ R0 6 = .int .i64 ((hs.length : Int)) ∧ R0 7 = .int .i64 ((i : Int)) ∧ Now w F w0' [.blk gO [vi_] 23, .own vb 5 (vi_) (li)] ∧ (i + k = hs.length) ∧ (li = lo ++ (ls.take i).flatten)) (hs.length) ?_ ?_
  · skip
    exact ⟨vo, lo, 0, rfl, rfl, rfl, rfl, hN, by omega, by simp⟩
  · skip
    clear hN
    rintro k R0 w0' ⟨vi_, li, i, hr1_, hr5_, hr6_, hr7_, hN, hik, hli⟩
    have hR_ : ∃ R0_, R0 = (upd (upd (upd (upd R0_ 1 _) 5 _) 6 _) 7 _) := ⟨R0, by rw [upd_self hr1_, upd_self hr5_, upd_self hr6_, upd_self hr7_]⟩
    obtain ⟨R0_, rfl⟩ := hR_
    clear hr1_ hr5_ hr6_ hr7_
    refine RW.seq ?_
    refine RW.region ?_
    refine RL.ev rfl rfl (ev_lss rfl rfl) ?_
    refine RL.nil ?_
    refine thenN ?_
    refine RW.seq ?_
    refine RW.condP _ rfl (fun hlt => ?_) (fun hlt => ?_)
    · skip
      refine RW.skip ?_
      refine thenN ?_
      refine RW.seq ?_
      refine RW.block ?_
      refine RW.seq ?_
      refine RW.region ?_
      refine RL.ev rfl rfl (ev_index Try.underlying22 sz23 (hv.off hvo hN.mod) rfl rfl (by omega) (by omega)) ?_
      obtain ⟨ap, hap⟩ : ∃ a_, (hs)[i]? = some a_ := ⟨_, List.getElem?_eq_getElem (by omega)⟩
      obtain ⟨lp, hlp⟩ : ∃ l_, (ls)[i]? = some l_ := ⟨_, List.getElem?_eq_getElem (by have := hel.1; omega)⟩
      refine RL.ev rfl rfl (ev_loadG (m := i) (a := ap) Try.underlying23 rfl (hv.off hvo hN.mod) rfl hap) ?_
      refine RL.ev rfl rfl ev_assign ?_
      refine RL.nil ?_
      refine thenN ?_
      refine RW.region ?_
      refine RL.ev rfl rfl (ev_loadB Try.underlying23 rfl rfl (hN.blk 0 rfl) rfl) ?_
      refine RL.ev rfl rfl ev_move ?_
      refine RL.op rfl rfl (opN_append Try.underlying23 inf5 rfl vb_one hN 1 rfl rfl ((hel.2 _ _ _ hap hlp).1.off (hel.2 _ _ _ hap hlp).2 hN.mod) rfl (by have := flat_le1 hlp; rw [hli, List.length_append]; omega) (by decide) ?_)
      intro v2 w2 hN_
      clear hN
      have hN : Now w F w2 [_, _] := hN_
      clear hN_
      refine RL.op rfl rfl (opN_store sz23 rfl rfl (hN.sl 1 rfl).cells1 (hN.sl 1 rfl).one1 hN 0 rfl (Nat.le_of_ble_eq_true rfl) ?_)
      intro w3 hN_
      clear hN
      have hN : Now w F w3 [_, _] := hN_
      clear hN_
      refine RL.nil ?_
      refine blockN ?_
      refine thenN ?_
      refine RW.region ?_
      refine RL.ev rfl rfl (ev_arith rfl rfl rfl (add64 (by omega) (by omega))) ?_
      refine RL.ev rfl rfl ev_move ?_
      refine RL.nil ?_
      refine thenN ?_
      exact ⟨k - 1, by omega, v2, li ++ lp, i + 1, rfl, rfl, rfl, rfl, hN, by omega, by rw [hli, List.append_assoc, flat_snoc1 hlp]⟩
    · skip
      refine RW.exit ?_
      refine thenX ?_
      refine thenX ?_
      refine blockHit ?_
      refine retN (RV.zero rfl) ?_
      have h1 := hel.1
      refine ⟨vi_, rfl, ?_⟩
      rw [hli, List.take_of_length_le (by omega)] at hN
      exact hN

theorem respOpen {w : World} {v : Value} {r : Resp} (h : RespV w v r) : ∃ x y, v = .agg #[.int .i64 r.err, .int .i64 r.line, .int .i64 r.d, x, y, .int .i64 r.n, .int .i64 r.m, .int .i64 r.k, .int .u64 (r.print : Int)] ∧ Sl vi w x r.ds ∧ Sl vi w y r.arcs := h

set_option maxHeartbeats 4000000 in
set_option maxRecDepth 100000 in
/-- postroad/wire.Tell -/
theorem tell_calls (v : Value) (r : Resp) (w : World) (hr : RespV w v r) (h1 : r.ds.length ≤ 1048576) (h2 : r.arcs.length ≤ 1048576) (hp : r.print < 18446744073709551616) : Gives Try.prog 20 #[v] w fun r' w' => Own vb 5 w' w.heap.size r' (tellB r) ∧ Ext w w' := by
  have hOb_ := respOpen hr
  obtain ⟨x, y, e_, hx, hy⟩ := hOb_
  subst e_
  refine Gives.start Try.func20 rfl (Nat.le_of_ble_eq_true rfl) ?_
  rw [args1]
  have hN := Now.nil w none_
  refine RW.seq ?_
  refine RW.region ?_
  refine RL.op rfl rfl (opN_box (cs := [.int .i64 (r.err), .int .i64 (r.line), .int .i64 (r.d), x, y, .int .i64 (r.n), .int .i64 (r.m), .int .i64 (r.k), .int .u64 ((r.print : Int))]) rfl rfl hN ?_)
  intro g1 w1 hN_
  clear hN
  have hN : Now w none_ w1 [_] := hN_
  clear hN_
  refine RL.ev rfl rfl ev_assign ?_
  refine RL.nil ?_
  refine thenN ?_
  refine RW.seq ?_
  refine RW.region ?_
  refine RL.ev rfl rfl (ev_fieldAddr Try.underlying41 rfl sz25 (by decide) rfl) ?_
  refine RL.ev rfl rfl (ev_loadB Try.underlying25 rfl rfl (hN.blk 0 rfl) rfl) ?_
  refine RL.ev rfl rfl (ev_conv Try.underlying25 Try.underlying39 rfl (wrap_u64 _)) ?_
  refine RL.op rfl rfl (op_call2 Try.func40 rfl rfl rfl rfl ((put_calls (toU r.err) 2 _ (toU_lt _)).mono ?_))
  rintro v2 w2 ⟨ho_, he_⟩
  have hN_ := hN.pushOwn (l := put (toU r.err) 2) ho_ he_
  clear ho_ he_
  clear hN
  have hN : Now w none_ w2 [_, _] := hN_
  clear hN_
  refine RL.op rfl rfl (opN_alloc (cs := [.slice none 0 0]) zero23 rfl hN ?_)
  intro g3 w3 hN_
  clear hN
  have hN : Now w none_ w3 [_, _, _] := hN_
  clear hN_
  refine RL.op rfl rfl (opN_store sz23 rfl rfl (hN.sl 1 rfl).cells1 (hN.sl 1 rfl).one1 hN 0 rfl (Nat.le_of_ble_eq_true rfl) ?_)
  intro w4 hN_
  clear hN
  have hN : Now w none_ w4 [_, _, _] := hN_
  clear hN_
  refine RL.nil ?_
  refine thenN ?_
  refine RW.seq ?_
  refine RW.region ?_
  refine RL.ev rfl rfl (ev_makeFuncL (vs := [.pointer (some ⟨g3, 0, none⟩)]) (xs := [.tmp 3]) rfl rfl) ?_
  refine RL.ev rfl rfl ev_assign ?_
  refine RL.nil ?_
  refine thenN ?_
  refine RW.seq ?_
  refine RW.draw rfl (fun u => Now w none_ u [.blk g1 [.int .i64 (r.err), .int .i64 (r.line), .int .i64 (r.d), x, y, .int .i64 (r.n), .int .i64 (r.m), .int .i64 (r.k), .int .u64 ((r.print : Int))] 41]) ?_
  replace hN := hN.ext (Ext.drew w4)
  refine RA.take (i := 0) rfl rfl (by kernel_rfl) (by kernel_rfl) (by kernel_rfl) (by intro _ _ _ h; exact h) rfl (hN.sub [2] (by decide) rfl) (fun w hS => ev_move) ?_
  refine RA.take (i := 1) rfl rfl (by kernel_rfl) (by kernel_rfl) (by kernel_rfl) (by intro _ _ _ h; exact h) rfl (hN.sub [2] (by decide) rfl) (fun w hS => (ev_fieldAddr Try.underlying41 rfl sz3 (by decide) rfl)) ?_
  refine RA.take (i := 2) rfl rfl (by kernel_rfl) (by kernel_rfl) (by kernel_rfl) (by intro _ _ _ h; exact h) rfl (hN.sub [2] (by decide) rfl) (fun w hS => (ev_loadB Try.underlying3 rfl rfl (hS.blk 0 rfl) rfl)) ?_
  refine RA.take (i := 4) rfl rfl (by kernel_rfl) (by kernel_rfl) (by kernel_rfl) (by intro _ _ _ h; exact h) rfl (hN.sub [2] (by decide) rfl) (fun w hS => (ev_fieldAddr Try.underlying41 rfl sz3 (by decide) rfl)) ?_
  refine RA.take (i := 5) rfl rfl (by kernel_rfl) (by kernel_rfl) (by kernel_rfl) (by intro _ _ _ h; exact h) rfl (hN.sub [2] (by decide) rfl) (fun w hS => (ev_loadB Try.underlying3 rfl rfl (hS.blk 0 rfl) rfl)) ?_
  refine RA.take (i := 7) rfl rfl (by kernel_rfl) (by kernel_rfl) (by kernel_rfl) (by intro _ _ _ h; exact h) rfl (hN.sub [2] (by decide) rfl) (fun w hS => (ev_fieldAddr Try.underlying41 rfl sz36 (by decide) rfl)) ?_
  refine RA.take (i := 8) rfl rfl (by kernel_rfl) (by kernel_rfl) (by kernel_rfl) (by intro _ _ _ h; exact h) rfl (hN.sub [2] (by decide) rfl) (fun w hS => (ev_loadB Try.underlying36 rfl rfl (hS.blk 0 rfl) rfl)) ?_
  refine RA.take (i := 10) rfl rfl (by kernel_rfl) (by kernel_rfl) (by kernel_rfl) (by intro _ _ _ h; exact h) rfl (hN.sub [2] (by decide) rfl) (fun w hS => (ev_fieldAddr Try.underlying41 rfl sz36 (by decide) rfl)) ?_
  refine RA.take (i := 11) rfl rfl (by kernel_rfl) (by kernel_rfl) (by kernel_rfl) (by intro _ _ _ h; exact h) rfl (hN.sub [2] (by decide) rfl) (fun w hS => (ev_loadB Try.underlying36 rfl rfl (hS.blk 0 rfl) rfl)) ?_
  refine RA.only (i := 3) (by kernel_rfl) rfl rfl rfl (op_call1 Try.func42 rfl rfl rfl ((number_calls (r.line) _).mono ?_))
  rintro v5 w5 ⟨ho_, he_⟩
  have hN_ := hN.pushOwn (l := num8 (r.line)) ho_ he_
  clear ho_ he_
  clear hN
  have hN : Now w none_ w5 [_, _, _, _] := hN_
  clear hN_
  refine ⟨(hN.sub [3] (by decide) rfl), ?_⟩
  refine RA.only (i := 6) (by kernel_rfl) rfl rfl rfl (op_call1 Try.func42 rfl rfl rfl ((number_calls (r.d) _).mono ?_))
  rintro v6 w6 ⟨ho_, he_⟩
  have hN_ := hN.pushOwn (l := num8 (r.d)) ho_ he_
  clear ho_ he_
  clear hN
  have hN : Now w none_ w6 [_, _, _, _, _] := hN_
  clear hN_
  refine ⟨(hN.sub [4] (by decide) rfl), ?_⟩
  refine RA.only (i := 9) (by kernel_rfl) rfl rfl rfl (op_call1 Try.func43 rfl rfl rfl ((ints_calls _ r.ds _ (hx.ext hN.ext0) (by omega)).mono ?_))
  rintro v7 w7 ⟨ho_, he_⟩
  have hN_ := hN.pushOwn (l := putInts r.ds) ho_ he_
  clear ho_ he_
  clear hN
  have hN : Now w none_ w7 [_, _, _, _, _, _] := hN_
  clear hN_
  refine ⟨(hN.sub [5] (by decide) rfl), ?_⟩
  refine RA.only (i := 12) (by kernel_rfl) rfl rfl rfl (op_call1 Try.func43 rfl rfl rfl ((ints_calls _ r.arcs _ (hy.ext hN.ext0) (by omega)).mono ?_))
  rintro v8 w8 ⟨ho_, he_⟩
  have hN_ := hN.pushOwn (l := putInts r.arcs) ho_ he_
  clear ho_ he_
  clear hN
  have hN : Now w none_ w8 [_, _, _, _, _, _, _] := hN_
  clear hN_
  refine ⟨(hN.sub [6] (by decide) rfl), ?_⟩
  have hOb_ := (hN.sl 3 rfl).hd
  obtain ⟨h10, hq_⟩ := hOb_
  subst hq_
  have hOb_ := (hN.sl 2 rfl).hd
  obtain ⟨h11, hq_⟩ := hOb_
  subst hq_
  have hOb_ := (hN.sl 1 rfl).hd
  obtain ⟨h12, hq_⟩ := hOb_
  subst hq_
  have hOb_ := (hN.sl 0 rfl).hd
  obtain ⟨h13, hq_⟩ := hOb_
  subst hq_
  refine RA.only (i := 13) (by kernel_rfl) rfl rfl rfl (opN_lit (enc := vh) (l := [h10, h11, h12, h13]) (xs := [.tmp 13, .tmp 16, .tmp 19, .tmp 22]) Try.underlying22 sz23 zr23 rfl rfl (fun _ => rfl) rfl (by decide) (by decide) hN ?_)
  intro g9 w9 hN_
  clear hN
  have hN : Now w none_ w9 [_, _, _, _, _, _, _, _] := hN_
  clear hN_
  refine ⟨(hN.sub [7] (by decide) rfl), ?_⟩
  refine RA.only (i := 14) (by kernel_rfl) rfl rfl rfl (op_callw1 (first := #[]) (captured := #[.pointer (some ⟨g3, 0, none⟩)]) (v0 := .slice (some ⟨g9, 0, none⟩) 4 4) (args := #[.slice (some ⟨g9, 0, none⟩) 4 4, .pointer (some ⟨g3, 0, none⟩)]) Try.func41 rfl rfl (by simp) rfl rfl ((tellAdd_calls _ _ [(num8 (r.line)), (num8 (r.d)), (putInts r.ds), (putInts r.arcs)] _ _ _ _ (hN.sl 0 rfl) (hN.offL (M := [_, _]) [5, 6] rfl 0 rfl rfl) (Els.cons (hN.sl 4 rfl) (hN.offL (M := [_, _]) [5, 6] rfl 4 rfl rfl) (Els.cons (hN.sl 3 rfl) (hN.offL (M := [_, _]) [5, 6] rfl 3 rfl rfl) (Els.cons (hN.sl 2 rfl) (hN.offL (M := [_, _]) [5, 6] rfl 2 rfl rfl) (Els.cons (hN.sl 1 rfl) (hN.offL (M := [_, _]) [5, 6] rfl 1 rfl rfl) (Els.nil _ _ _))))) (hN.pickL (M := [_, _]) [5, 6] (by decide) rfl) (by simp only [List.length_append, List.flatten_cons, List.flatten_nil, List.length_nil, num8_length, putInts_length, put_length, List.length_cons]; omega)).mono ?_))
  rintro _ w14 ⟨vo14, rfl, hC_⟩
  have hN_ := Now.callA (M := [_, _]) (N := [_, _, _, _, _, _]) (hN.sub [5, 6, 0, 1, 2, 3, 4, 7] (by decide) rfl) hC_
  clear hC_
  clear hN
  have hN : Now w none_ w14 [_, _, _, _, _, _, _, _] := hN_
  clear hN_
  refine ⟨(hN.sub [7] (by decide) rfl), ?_⟩
  refine RA.done (by kernel_rfl) ?_
  refine thenN ?_
  refine RW.seq ?_
  refine RW.draw rfl (fun u => Now w none_ u [.blk g1 [.int .i64 (r.err), .int .i64 (r.line), .int .i64 (r.d), x, y, .int .i64 (r.n), .int .i64 (r.m), .int .i64 (r.k), .int .u64 ((r.print : Int))] 41]) ?_
  replace hN := hN.ext (Ext.drew w14)
  refine RA.take (i := 0) rfl rfl (by kernel_rfl) (by kernel_rfl) (by kernel_rfl) (by intro _ _ _ h; exact h) rfl (hN.sub [7] (by decide) rfl) (fun w hS => ev_move) ?_
  refine RA.take (i := 1) rfl rfl (by kernel_rfl) (by kernel_rfl) (by kernel_rfl) (by intro _ _ _ h; exact h) rfl (hN.sub [7] (by decide) rfl) (fun w hS => (ev_fieldAddr Try.underlying41 rfl sz3 (by decide) rfl)) ?_
  refine RA.take (i := 2) rfl rfl (by kernel_rfl) (by kernel_rfl) (by kernel_rfl) (by intro _ _ _ h; exact h) rfl (hN.sub [7] (by decide) rfl) (fun w hS => (ev_loadB Try.underlying3 rfl rfl (hS.blk 0 rfl) rfl)) ?_
  refine RA.take (i := 4) rfl rfl (by kernel_rfl) (by kernel_rfl) (by kernel_rfl) (by intro _ _ _ h; exact h) rfl (hN.sub [7] (by decide) rfl) (fun w hS => (ev_fieldAddr Try.underlying41 rfl sz3 (by decide) rfl)) ?_
  refine RA.take (i := 5) rfl rfl (by kernel_rfl) (by kernel_rfl) (by kernel_rfl) (by intro _ _ _ h; exact h) rfl (hN.sub [7] (by decide) rfl) (fun w hS => (ev_loadB Try.underlying3 rfl rfl (hS.blk 0 rfl) rfl)) ?_
  refine RA.take (i := 7) rfl rfl (by kernel_rfl) (by kernel_rfl) (by kernel_rfl) (by intro _ _ _ h; exact h) rfl (hN.sub [7] (by decide) rfl) (fun w hS => (ev_fieldAddr Try.underlying41 rfl sz3 (by decide) rfl)) ?_
  refine RA.take (i := 8) rfl rfl (by kernel_rfl) (by kernel_rfl) (by kernel_rfl) (by intro _ _ _ h; exact h) rfl (hN.sub [7] (by decide) rfl) (fun w hS => (ev_loadB Try.underlying3 rfl rfl (hS.blk 0 rfl) rfl)) ?_
  refine RA.take (i := 10) rfl rfl (by kernel_rfl) (by kernel_rfl) (by kernel_rfl) (by intro _ _ _ h; exact h) rfl (hN.sub [7] (by decide) rfl) (fun w hS => (ev_fieldAddr Try.underlying41 rfl sz39 (by decide) rfl)) ?_
  refine RA.take (i := 11) rfl rfl (by kernel_rfl) (by kernel_rfl) (by kernel_rfl) (by intro _ _ _ h; exact h) rfl (hN.sub [7] (by decide) rfl) (fun w hS => (ev_loadB Try.underlying39 rfl rfl (hS.blk 0 rfl) rfl)) ?_
  refine RA.only (i := 3) (by kernel_rfl) rfl rfl rfl (op_call1 Try.func42 rfl rfl rfl ((number_calls (r.n) _).mono ?_))
  rintro v15 w15 ⟨ho_, he_⟩
  have hN_ := hN.pushOwn (l := num8 (r.n)) ho_ he_
  clear ho_ he_
  clear hN
  have hN : Now w none_ w15 [_, _, _, _, _, _, _, _, _] := hN_
  clear hN_
  refine ⟨(hN.sub [8] (by decide) rfl), ?_⟩
  refine RA.only (i := 6) (by kernel_rfl) rfl rfl rfl (op_call1 Try.func42 rfl rfl rfl ((number_calls (r.m) _).mono ?_))
  rintro v16 w16 ⟨ho_, he_⟩
  have hN_ := hN.pushOwn (l := num8 (r.m)) ho_ he_
  clear ho_ he_
  clear hN
  have hN : Now w none_ w16 [_, _, _, _, _, _, _, _, _, _] := hN_
  clear hN_
  refine ⟨(hN.sub [9] (by decide) rfl), ?_⟩
  refine RA.only (i := 9) (by kernel_rfl) rfl rfl rfl (op_call1 Try.func42 rfl rfl rfl ((number_calls (r.k) _).mono ?_))
  rintro v17 w17 ⟨ho_, he_⟩
  have hN_ := hN.pushOwn (l := num8 (r.k)) ho_ he_
  clear ho_ he_
  clear hN
  have hN : Now w none_ w17 [_, _, _, _, _, _, _, _, _, _, _] := hN_
  clear hN_
  refine ⟨(hN.sub [10] (by decide) rfl), ?_⟩
  refine RA.only (i := 12) (by kernel_rfl) rfl rfl rfl (op_call2 Try.func40 rfl rfl rfl rfl ((put_calls r.print 8 _ (by omega)).mono ?_))
  rintro v18 w18 ⟨ho_, he_⟩
  have hN_ := hN.pushOwn (l := put r.print 8) ho_ he_
  clear ho_ he_
  clear hN
  have hN : Now w none_ w18 [_, _, _, _, _, _, _, _, _, _, _, _] := hN_
  clear hN_
  refine ⟨(hN.sub [11] (by decide) rfl), ?_⟩
  have hOb_ := (hN.sl 3 rfl).hd
  obtain ⟨h20, hq_⟩ := hOb_
  subst hq_
  have hOb_ := (hN.sl 2 rfl).hd
  obtain ⟨h21, hq_⟩ := hOb_
  subst hq_
  have hOb_ := (hN.sl 1 rfl).hd
  obtain ⟨h22, hq_⟩ := hOb_
  subst hq_
  have hOb_ := (hN.sl 0 rfl).hd
  obtain ⟨h23, hq_⟩ := hOb_
  subst hq_
  refine RA.only (i := 13) (by kernel_rfl) rfl rfl rfl (opN_lit (enc := vh) (l := [h20, h21, h22, h23]) (xs := [.tmp 28, .tmp 31, .tmp 34, .tmp 37]) Try.underlying22 sz23 zr23 rfl rfl (fun _ => rfl) rfl (by decide) (by decide) hN ?_)
  intro g19 w19 hN_
  clear hN
  have hN : Now w none_ w19 [_, _, _, _, _, _, _, _, _, _, _, _, _] := hN_
  clear hN_
  refine ⟨(hN.sub [12] (by decide) rfl), ?_⟩
  refine RA.only (i := 14) (by kernel_rfl) rfl rfl rfl (op_callw1 (first := #[]) (captured := #[.pointer (some ⟨g3, 0, none⟩)]) (v0 := .slice (some ⟨g19, 0, none⟩) 4 4) (args := #[.slice (some ⟨g19, 0, none⟩) 4 4, .pointer (some ⟨g3, 0, none⟩)]) Try.func41 rfl rfl (by simp) rfl rfl ((tellAdd_calls _ _ [(num8 (r.n)), (num8 (r.m)), (num8 (r.k)), (put r.print 8)] _ _ _ _ (hN.sl 0 rfl) (hN.offL (M := [_, _]) [5, 6] rfl 0 rfl rfl) (Els.cons (hN.sl 4 rfl) (hN.offL (M := [_, _]) [5, 6] rfl 4 rfl rfl) (Els.cons (hN.sl 3 rfl) (hN.offL (M := [_, _]) [5, 6] rfl 3 rfl rfl) (Els.cons (hN.sl 2 rfl) (hN.offL (M := [_, _]) [5, 6] rfl 2 rfl rfl) (Els.cons (hN.sl 1 rfl) (hN.offL (M := [_, _]) [5, 6] rfl 1 rfl rfl) (Els.nil _ _ _))))) (hN.pickL (M := [_, _]) [5, 6] (by decide) rfl) (by simp only [List.length_append, List.flatten_cons, List.flatten_nil, List.length_nil, num8_length, putInts_length, put_length, List.length_cons]; omega)).mono ?_))
  rintro _ w24 ⟨vo24, rfl, hC_⟩
  have hN_ := Now.callA (M := [_, _]) (N := [_, _, _, _, _, _, _, _, _, _, _]) (hN.sub [5, 6, 0, 1, 2, 3, 4, 7, 8, 9, 10, 11, 12] (by decide) rfl) hC_
  clear hC_
  clear hN
  have hN : Now w none_ w24 [_, _, _, _, _, _, _, _, _, _, _, _, _] := hN_
  clear hN_
  refine ⟨(hN.sub [12] (by decide) rfl), ?_⟩
  refine RA.done (by kernel_rfl) ?_
  refine thenN ?_
  refine RW.seq ?_
  refine RW.region ?_
  refine RL.ev rfl rfl (ev_loadB Try.underlying23 rfl rfl (hN.blk 0 rfl) rfl) ?_
  refine RL.ev rfl rfl ev_assign ?_
  refine RL.nil ?_
  refine thenN ?_
  refine RW.ret ?_
  refine retI (RV.tmp rfl) ?_
  exact ⟨(hN.ownOut 1 rfl).relist (by simp [tellB, List.append_assoc]), hN.ext0⟩

set_option maxHeartbeats 4000000 in
set_option maxRecDepth 100000 in
/-- postroad/postroadref19.put -/
theorem rput_calls {F : Nat → Prop} (v : Value) (l : List UInt8) (x : Int) (w : World) (hN : Now w F w [.own vb 5 v l]) (hl : l.length ≤ 140737488351232) : Gives Try.prog 44 #[v, .int .i64 (x)] w fun r w' => ∃ v', r = v' ∧ Now w F w' [.own vb 5 v' (l ++ num8 x)] := by
  refine Gives.start Try.func44 rfl (Nat.le_of_ble_eq_true rfl) ?_
  rw [args2]
  refine RW.seq ?_
  refine RW.region ?_
  refine RL.ev rfl rfl ev_assign ?_
  refine RL.nil ?_
  refine thenN ?_
  refine RW.seq ?_
  refine RW.region ?_
  refine RL.ev rfl rfl ev_move ?_
  refine RL.ev rfl rfl ev_move ?_
  refine RL.ev rfl rfl (ev_conv Try.underlying3 Try.underlying39 rfl (wrap_u64 _)) ?_
  refine RL.op rfl rfl (op_call2 Try.func30 rfl rfl rfl rfl ((refPut_calls (toU x) 8 _ (toU_lt _)).mono ?_))
  rintro v1 w1 ⟨ho_, he_⟩
  have hN_ := hN.pushOwn (l := num8 x) ho_ he_
  clear ho_ he_
  clear hN
  have hN : Now w F w1 [_, _] := hN_
  clear hN_
  refine RL.op rfl rfl (opN_append Try.underlying23 inf5 rfl vb_one hN 1 rfl rfl (hN.sl 0 rfl) rfl (by rw [num8_length]; omega) (by decide) ?_)
  intro v2 w2 hN_
  clear hN
  have hN : Now w F w2 [_, _] := hN_
  clear hN_
  refine RL.ev rfl rfl ev_assign ?_
  refine RL.nil ?_
  refine thenN ?_
  refine RW.seq ?_
  refine RW.region ?_
  refine RL.ev rfl rfl ev_move ?_
  refine RL.ev rfl rfl ev_assign ?_
  refine RL.nil ?_
  refine thenN ?_
  refine RW.ret ?_
  refine retI (RV.tmp rfl) ?_
  exact ⟨_, rfl, hN.sub [1] (by decide) rfl⟩

set_option maxHeartbeats 4000000 in
set_option maxRecDepth 100000 in
/-- postroad/postroadref19.ints -/
theorem rints_calls_ {F : Nat → Prop} (v q : Value) (l : List UInt8) (xs : List Int) (w : World) (hN : Now w F w [.own vb 5 v l]) (hq : Sl vi w q xs) (ho : Off F q xs) (hl : l.length ≤ 70368744175616) (hxs : xs.length ≤ 1048576) : Gives Try.prog 45 #[v, q] w fun r w' => ∃ v', r = v' ∧ Now w F w' [.own vb 5 v' (l ++ putInts xs)] := by
  refine Gives.start Try.func45 rfl (Nat.le_of_ble_eq_true rfl) ?_
  rw [args2]
  refine RW.seq ?_
  refine RW.region ?_
  refine RL.ev rfl rfl ev_assign ?_
  refine RL.nil ?_
  refine thenN ?_
  refine RW.seq ?_
  refine RW.region ?_
  refine RL.ev rfl rfl ev_move ?_
  refine RL.ev rfl rfl ev_move ?_
  refine RL.op rfl rfl (op_call1 Try.func59 rfl rfl rfl ((refInts_calls _ xs _ (hq.off ho hN.mod) (by omega)).mono ?_))
  rintro v1 w1 ⟨ho_, he_⟩
  have hN_ := hN.pushOwn (l := putInts xs) ho_ he_
  clear ho_ he_
  clear hN
  have hN : Now w F w1 [_, _] := hN_
  clear hN_
  refine RL.op rfl rfl (opN_append Try.underlying23 inf5 rfl vb_one hN 1 rfl rfl (hN.sl 0 rfl) rfl (by rw [putInts_length]; omega) (by decide) ?_)
  intro v2 w2 hN_
  clear hN
  have hN : Now w F w2 [_, _] := hN_
  clear hN_
  refine RL.ev rfl rfl ev_assign ?_
  refine RL.nil ?_
  refine thenN ?_
  refine RW.seq ?_
  refine RW.region ?_
  refine RL.ev rfl rfl ev_move ?_
  refine RL.ev rfl rfl ev_assign ?_
  refine RL.nil ?_
  refine thenN ?_
  refine RW.ret ?_
  refine retI (RV.tmp rfl) ?_
  exact ⟨_, rfl, hN.sub [1] (by decide) rfl⟩

set_option maxHeartbeats 4000000 in
set_option maxRecDepth 100000 in
/-- postroad/postroadref19.Tell -/
theorem refTell_calls (v : Value) (r : Resp) (w : World) (hr : RespV w v r) (h1 : r.ds.length ≤ 1048576) (h2 : r.arcs.length ≤ 1048576) (hp : r.print < 18446744073709551616) : Gives Try.prog 21 #[v] w fun r' w' => Own vb 5 w' w.heap.size r' (tellB r) ∧ Ext w w' := by
  have hOb_ := respOpen hr
  obtain ⟨x, y, e_, hx, hy⟩ := hOb_
  subst e_
  refine Gives.start Try.func21 rfl (Nat.le_of_ble_eq_true rfl) ?_
  rw [args1]
  have hN := Now.nil w none_
  refine RW.seq ?_
  refine RW.region ?_
  refine RL.op rfl rfl (opN_box (cs := [.int .i64 (r.err), .int .i64 (r.line), .int .i64 (r.d), x, y, .int .i64 (r.n), .int .i64 (r.m), .int .i64 (r.k), .int .u64 ((r.print : Int))]) rfl rfl hN ?_)
  intro g1 w1 hN_
  clear hN
  have hN : Now w none_ w1 [_] := hN_
  clear hN_
  refine RL.ev rfl rfl ev_assign ?_
  refine RL.nil ?_
  refine thenN ?_
  refine RW.seq ?_
  refine RW.draw rfl (fun u => Now w none_ u [.blk g1 [.int .i64 (r.err), .int .i64 (r.line), .int .i64 (r.d), x, y, .int .i64 (r.n), .int .i64 (r.m), .int .i64 (r.k), .int .u64 ((r.print : Int))] 41]) ?_
  replace hN := hN.ext (Ext.drew w1)
  refine RA.take (i := 0) rfl rfl (by kernel_rfl) (by kernel_rfl) (by kernel_rfl) (by intro _ _ _ h; exact h) rfl hN (fun w hS => (ev_fieldAddr Try.underlying41 rfl sz25 (by decide) rfl)) ?_
  refine RA.take (i := 1) rfl rfl (by kernel_rfl) (by kernel_rfl) (by kernel_rfl) (by intro _ _ _ h; exact h) rfl hN (fun w hS => (ev_loadB Try.underlying25 rfl rfl (hS.blk 0 rfl) rfl)) ?_
  refine RA.take (i := 2) rfl rfl (by kernel_rfl) (by kernel_rfl) (by kernel_rfl) (by intro _ _ _ h; exact h) rfl hN (fun w hS => (ev_conv Try.underlying25 Try.underlying39 rfl (wrap_u64 _))) ?_
  refine RA.take (i := 4) rfl rfl (by kernel_rfl) (by kernel_rfl) (by kernel_rfl) (by intro _ _ _ h; exact h) rfl hN (fun w hS => (ev_fieldAddr Try.underlying41 rfl sz3 (by decide) rfl)) ?_
  refine RA.take (i := 5) rfl rfl (by kernel_rfl) (by kernel_rfl) (by kernel_rfl) (by intro _ _ _ h; exact h) rfl hN (fun w hS => (ev_loadB Try.underlying3 rfl rfl (hS.blk 0 rfl) rfl)) ?_
  refine RA.take (i := 7) rfl rfl (by kernel_rfl) (by kernel_rfl) (by kernel_rfl) (by intro _ _ _ h; exact h) rfl hN (fun w hS => (ev_fieldAddr Try.underlying41 rfl sz3 (by decide) rfl)) ?_
  refine RA.take (i := 8) rfl rfl (by kernel_rfl) (by kernel_rfl) (by kernel_rfl) (by intro _ _ _ h; exact h) rfl hN (fun w hS => (ev_loadB Try.underlying3 rfl rfl (hS.blk 0 rfl) rfl)) ?_
  refine RA.only (i := 3) (by kernel_rfl) rfl rfl rfl (op_call2 Try.func30 rfl rfl rfl rfl ((refPut_calls (toU r.err) 2 _ (toU_lt _)).mono ?_))
  rintro v2 w2 ⟨ho_, he_⟩
  have hN_ := hN.pushOwn (l := put (toU r.err) 2) ho_ he_
  clear ho_ he_
  clear hN
  have hN : Now w none_ w2 [_, _] := hN_
  clear hN_
  refine ⟨(hN.sub [1] (by decide) rfl), ?_⟩
  refine RA.only (i := 6) (by kernel_rfl) rfl rfl rfl (op_call2 Try.func44 rfl rfl rfl rfl ((rput_calls _ (put (toU r.err) 2) (r.line) _ (hN.pickL (M := [_]) [0] (by decide) rfl) (by simp only [List.length_append, num8_length, putInts_length, put_length]; omega)).mono ?_))
  rintro _ w3 ⟨v3, rfl, hC_⟩
  have hN_ := Now.callA (M := [_]) (N := [_]) (hN.sub [0, 1] (by decide) rfl) hC_
  clear hC_
  clear hN
  have hN : Now w none_ w3 [_, _] := hN_
  clear hN_
  refine ⟨(hN.sub [1] (by decide) rfl), ?_⟩
  refine RA.only (i := 9) (by kernel_rfl) rfl rfl rfl (op_call2 Try.func44 rfl rfl rfl rfl ((rput_calls _ (put (toU r.err) 2 ++ num8 (r.line)) (r.d) _ (hN.pickL (M := [_]) [0] (by decide) rfl) (by simp only [List.length_append, num8_length, putInts_length, put_length]; omega)).mono ?_))
  rintro _ w4 ⟨v4, rfl, hC_⟩
  have hN_ := Now.callA (M := [_]) (N := [_]) (hN.sub [0, 1] (by decide) rfl) hC_
  clear hC_
  clear hN
  have hN : Now w none_ w4 [_, _] := hN_
  clear hN_
  refine ⟨(hN.sub [1] (by decide) rfl), ?_⟩
  refine RA.take (i := 10) rfl rfl (by kernel_rfl) (by kernel_rfl) (by kernel_rfl) (by intro _ _ _ h; exact h) rfl (hN.sub [1] (by decide) rfl) (fun w hS => ev_assign) ?_
  refine RA.done (by kernel_rfl) ?_
  refine thenN ?_
  refine RW.seq ?_
  refine RW.draw rfl (fun u => Now w none_ u [.blk g1 [.int .i64 (r.err), .int .i64 (r.line), .int .i64 (r.d), x, y, .int .i64 (r.n), .int .i64 (r.m), .int .i64 (r.k), .int .u64 ((r.print : Int))] 41]) ?_
  replace hN := hN.ext (Ext.drew w4)
  refine RA.take (i := 0) rfl rfl (by kernel_rfl) (by kernel_rfl) (by kernel_rfl) (by intro _ _ _ h; exact h) rfl (hN.sub [1] (by decide) rfl) (fun w hS => ev_move) ?_
  refine RA.take (i := 1) rfl rfl (by kernel_rfl) (by kernel_rfl) (by kernel_rfl) (by intro _ _ _ h; exact h) rfl (hN.sub [1] (by decide) rfl) (fun w hS => (ev_fieldAddr Try.underlying41 rfl sz36 (by decide) rfl)) ?_
  refine RA.take (i := 2) rfl rfl (by kernel_rfl) (by kernel_rfl) (by kernel_rfl) (by intro _ _ _ h; exact h) rfl (hN.sub [1] (by decide) rfl) (fun w hS => (ev_loadB Try.underlying36 rfl rfl (hS.blk 0 rfl) rfl)) ?_
  refine RA.take (i := 4) rfl rfl (by kernel_rfl) (by kernel_rfl) (by kernel_rfl) (by intro _ _ _ h; exact h) rfl (hN.sub [1] (by decide) rfl) (fun w hS => (ev_fieldAddr Try.underlying41 rfl sz36 (by decide) rfl)) ?_
  refine RA.take (i := 5) rfl rfl (by kernel_rfl) (by kernel_rfl) (by kernel_rfl) (by intro _ _ _ h; exact h) rfl (hN.sub [1] (by decide) rfl) (fun w hS => (ev_loadB Try.underlying36 rfl rfl (hS.blk 0 rfl) rfl)) ?_
  refine RA.only (i := 3) (by kernel_rfl) rfl rfl rfl (op_call2 Try.func45 rfl rfl rfl rfl ((rints_calls_ _ _ (put (toU r.err) 2 ++ num8 (r.line) ++ num8 (r.d)) r.ds _ (hN.pickL (M := [_]) [0] (by decide) rfl) (hx.ext hN.ext0) (hN.offOldL (M := [_]) [0] rfl hx) (by simp only [List.length_append, num8_length, putInts_length, put_length]; omega) (by omega)).mono ?_))
  rintro _ w5 ⟨v5, rfl, hC_⟩
  have hN_ := Now.callA (M := [_]) (N := [_]) (hN.sub [0, 1] (by decide) rfl) hC_
  clear hC_
  clear hN
  have hN : Now w none_ w5 [_, _] := hN_
  clear hN_
  refine ⟨(hN.sub [1] (by decide) rfl), ?_⟩
  refine RA.only (i := 6) (by kernel_rfl) rfl rfl rfl (op_call2 Try.func45 rfl rfl rfl rfl ((rints_calls_ _ _ (put (toU r.err) 2 ++ num8 (r.line) ++ num8 (r.d) ++ putInts r.ds) r.arcs _ (hN.pickL (M := [_]) [0] (by decide) rfl) (hy.ext hN.ext0) (hN.offOldL (M := [_]) [0] rfl hy) (by simp only [List.length_append, num8_length, putInts_length, put_length]; omega) (by omega)).mono ?_))
  rintro _ w6 ⟨v6, rfl, hC_⟩
  have hN_ := Now.callA (M := [_]) (N := [_]) (hN.sub [0, 1] (by decide) rfl) hC_
  clear hC_
  clear hN
  have hN : Now w none_ w6 [_, _] := hN_
  clear hN_
  refine ⟨(hN.sub [1] (by decide) rfl), ?_⟩
  refine RA.take (i := 7) rfl rfl (by kernel_rfl) (by kernel_rfl) (by kernel_rfl) (by intro _ _ _ h; exact h) rfl (hN.sub [1] (by decide) rfl) (fun w hS => ev_assign) ?_
  refine RA.done (by kernel_rfl) ?_
  refine thenN ?_
  refine RW.seq ?_
  refine RW.draw rfl (fun u => Now w none_ u [.blk g1 [.int .i64 (r.err), .int .i64 (r.line), .int .i64 (r.d), x, y, .int .i64 (r.n), .int .i64 (r.m), .int .i64 (r.k), .int .u64 ((r.print : Int))] 41]) ?_
  replace hN := hN.ext (Ext.drew w6)
  refine RA.take (i := 0) rfl rfl (by kernel_rfl) (by kernel_rfl) (by kernel_rfl) (by intro _ _ _ h; exact h) rfl (hN.sub [1] (by decide) rfl) (fun w hS => ev_move) ?_
  refine RA.take (i := 1) rfl rfl (by kernel_rfl) (by kernel_rfl) (by kernel_rfl) (by intro _ _ _ h; exact h) rfl (hN.sub [1] (by decide) rfl) (fun w hS => (ev_fieldAddr Try.underlying41 rfl sz3 (by decide) rfl)) ?_
  refine RA.take (i := 2) rfl rfl (by kernel_rfl) (by kernel_rfl) (by kernel_rfl) (by intro _ _ _ h; exact h) rfl (hN.sub [1] (by decide) rfl) (fun w hS => (ev_loadB Try.underlying3 rfl rfl (hS.blk 0 rfl) rfl)) ?_
  refine RA.take (i := 4) rfl rfl (by kernel_rfl) (by kernel_rfl) (by kernel_rfl) (by intro _ _ _ h; exact h) rfl (hN.sub [1] (by decide) rfl) (fun w hS => (ev_fieldAddr Try.underlying41 rfl sz3 (by decide) rfl)) ?_
  refine RA.take (i := 5) rfl rfl (by kernel_rfl) (by kernel_rfl) (by kernel_rfl) (by intro _ _ _ h; exact h) rfl (hN.sub [1] (by decide) rfl) (fun w hS => (ev_loadB Try.underlying3 rfl rfl (hS.blk 0 rfl) rfl)) ?_
  refine RA.take (i := 7) rfl rfl (by kernel_rfl) (by kernel_rfl) (by kernel_rfl) (by intro _ _ _ h; exact h) rfl (hN.sub [1] (by decide) rfl) (fun w hS => (ev_fieldAddr Try.underlying41 rfl sz3 (by decide) rfl)) ?_
  refine RA.take (i := 8) rfl rfl (by kernel_rfl) (by kernel_rfl) (by kernel_rfl) (by intro _ _ _ h; exact h) rfl (hN.sub [1] (by decide) rfl) (fun w hS => (ev_loadB Try.underlying3 rfl rfl (hS.blk 0 rfl) rfl)) ?_
  refine RA.only (i := 3) (by kernel_rfl) rfl rfl rfl (op_call2 Try.func44 rfl rfl rfl rfl ((rput_calls _ (put (toU r.err) 2 ++ num8 (r.line) ++ num8 (r.d) ++ putInts r.ds ++ putInts r.arcs) (r.n) _ (hN.pickL (M := [_]) [0] (by decide) rfl) (by simp only [List.length_append, num8_length, putInts_length, put_length]; omega)).mono ?_))
  rintro _ w7 ⟨v7, rfl, hC_⟩
  have hN_ := Now.callA (M := [_]) (N := [_]) (hN.sub [0, 1] (by decide) rfl) hC_
  clear hC_
  clear hN
  have hN : Now w none_ w7 [_, _] := hN_
  clear hN_
  refine ⟨(hN.sub [1] (by decide) rfl), ?_⟩
  refine RA.only (i := 6) (by kernel_rfl) rfl rfl rfl (op_call2 Try.func44 rfl rfl rfl rfl ((rput_calls _ (put (toU r.err) 2 ++ num8 (r.line) ++ num8 (r.d) ++ putInts r.ds ++ putInts r.arcs ++ num8 (r.n)) (r.m) _ (hN.pickL (M := [_]) [0] (by decide) rfl) (by simp only [List.length_append, num8_length, putInts_length, put_length]; omega)).mono ?_))
  rintro _ w8 ⟨v8, rfl, hC_⟩
  have hN_ := Now.callA (M := [_]) (N := [_]) (hN.sub [0, 1] (by decide) rfl) hC_
  clear hC_
  clear hN
  have hN : Now w none_ w8 [_, _] := hN_
  clear hN_
  refine ⟨(hN.sub [1] (by decide) rfl), ?_⟩
  refine RA.only (i := 9) (by kernel_rfl) rfl rfl rfl (op_call2 Try.func44 rfl rfl rfl rfl ((rput_calls _ (put (toU r.err) 2 ++ num8 (r.line) ++ num8 (r.d) ++ putInts r.ds ++ putInts r.arcs ++ num8 (r.n) ++ num8 (r.m)) (r.k) _ (hN.pickL (M := [_]) [0] (by decide) rfl) (by simp only [List.length_append, num8_length, putInts_length, put_length]; omega)).mono ?_))
  rintro _ w9 ⟨v9, rfl, hC_⟩
  have hN_ := Now.callA (M := [_]) (N := [_]) (hN.sub [0, 1] (by decide) rfl) hC_
  clear hC_
  clear hN
  have hN : Now w none_ w9 [_, _] := hN_
  clear hN_
  refine ⟨(hN.sub [1] (by decide) rfl), ?_⟩
  refine RA.take (i := 10) rfl rfl (by kernel_rfl) (by kernel_rfl) (by kernel_rfl) (by intro _ _ _ h; exact h) rfl (hN.sub [1] (by decide) rfl) (fun w hS => ev_assign) ?_
  refine RA.done (by kernel_rfl) ?_
  refine thenN ?_
  refine RW.seq ?_
  refine RW.region ?_
  refine RL.ev rfl rfl ev_move ?_
  refine RL.ev rfl rfl (ev_fieldAddr Try.underlying41 rfl sz39 (by decide) rfl) ?_
  refine RL.ev rfl rfl (ev_loadB Try.underlying39 rfl rfl (hN.blk 1 rfl) rfl) ?_
  refine RL.op rfl rfl (op_call2 Try.func30 rfl rfl rfl rfl ((refPut_calls r.print 8 _ (by omega)).mono ?_))
  rintro v10 w10 ⟨ho_, he_⟩
  have hN_ := hN.pushOwn (l := put r.print 8) ho_ he_
  clear ho_ he_
  clear hN
  have hN : Now w none_ w10 [_, _, _] := hN_
  clear hN_
  refine RL.op rfl rfl (opN_append Try.underlying23 inf5 rfl vb_one hN 1 rfl rfl (hN.sl 0 rfl) rfl (by simp only [List.length_append, num8_length, putInts_length, put_length]; omega) (by decide) ?_)
  intro v11 w11 hN_
  clear hN
  have hN : Now w none_ w11 [_, _, _] := hN_
  clear hN_
  refine RL.ev rfl rfl ev_assign ?_
  refine RL.nil ?_
  refine thenN ?_
  refine RW.seq ?_
  refine RW.region ?_
  refine RL.ev rfl rfl ev_move ?_
  refine RL.ev rfl rfl ev_assign ?_
  refine RL.nil ?_
  refine thenN ?_
  refine RW.ret ?_
  refine retI (RV.tmp rfl) ?_
  exact ⟨(hN.ownOut 1 rfl).relist (by simp [tellB, List.append_assoc]), hN.ext0⟩

set_option maxHeartbeats 4000000 in
set_option maxRecDepth 100000 in
/-- postroad/wire.Ask -/
theorem ask_calls (v : Value) (q : Req) (w : World) (hq : ReqV w v q) (h1 : q.ts.length ≤ 1048576) (h2 : q.text.length ≤ 70368744175616) : Gives Try.prog 25 #[v] w fun r' w' => Own vb 5 w' w.heap.size r' (askB q) ∧ Ext w w' := by
  obtain ⟨x, e_, hx⟩ := hq
  subst e_
  refine Gives.start Try.func25 rfl (Nat.le_of_ble_eq_true rfl) ?_
  rw [args1]
  have hN := Now.nil w none_
  refine RW.seq ?_
  refine RW.region ?_
  refine RL.op rfl rfl (opN_box (cs := [.int .i64 (q.kind), (str q.text), .int .i64 (q.k), .int .i64 (q.s), .int .i64 (q.t), x]) rfl rfl hN ?_)
  intro g1 w1 hN_
  clear hN
  have hN : Now w none_ w1 [_] := hN_
  clear hN_
  refine RL.ev rfl rfl ev_assign ?_
  refine RL.nil ?_
  refine thenN ?_
  refine RW.seq ?_
  refine RW.region ?_
  refine RL.ev rfl rfl (ev_fieldAddr Try.underlying38 rfl sz3 (by decide) rfl) ?_
  refine RL.ev rfl rfl (ev_loadB Try.underlying3 rfl rfl (hN.blk 0 rfl) rfl) ?_
  refine RL.ev rfl rfl (ev_conv Try.underlying3 Try.underlying39 rfl (wrap_u64 _)) ?_
  refine RL.op rfl rfl (op_call2 Try.func40 rfl rfl rfl rfl ((put_calls (toU q.kind) 1 _ (toU_lt _)).mono ?_))
  rintro v2 w2 ⟨ho_, he_⟩
  have hN_ := hN.pushOwn (l := put (toU q.kind) 1) ho_ he_
  clear ho_ he_
  clear hN
  have hN : Now w none_ w2 [_, _] := hN_
  clear hN_
  refine RL.ev rfl rfl ev_assign ?_
  refine RL.nil ?_
  refine thenN ?_
  refine RW.seq ?_
  refine RW.seq ?_
  refine RW.region ?_
  refine RL.ev rfl rfl (ev_fieldAddr Try.underlying38 rfl sz3 (by decide) rfl) ?_
  refine RL.ev rfl rfl (ev_loadB Try.underlying3 rfl rfl (hN.blk 1 rfl) rfl) ?_
  refine RL.nil ?_
  refine thenN ?_
  refine RW.block ?_
  refine RW.seq ?_
  refine RW.block ?_
  refine RW.block ?_
  refine RW.seq ?_
  refine RW.block ?_
  refine RW.seq ?_
  refine RW.block ?_
  refine RW.seq ?_
  refine RW.block ?_
  refine RW.seq ?_
  refine RW.seq ?_
  refine RW.seq ?_
  refine RW.region ?_
  refine RL.ev rfl rfl (ev_eql rfl rfl) ?_
  refine RL.ev rfl rfl ev_assign ?_
  refine RL.nil ?_
  refine thenN ?_
  refine RW.condP _ rfl (fun h1_ => ?_) (fun h1_ => ?_)
  · skip
    refine RW.exit ?_
    refine thenX ?_
    refine thenX ?_
    refine blockHit ?_
    refine thenN ?_
    refine RW.seq ?_
    refine RW.region ?_
    refine RL.ev rfl rfl ev_move ?_
    refine RL.ev rfl rfl (ev_fieldAddr Try.underlying38 rfl sz9 (by decide) rfl) ?_
    refine RL.ev rfl rfl (ev_loadB Try.underlying9 rfl rfl (hN.blk 1 rfl) rfl) ?_
    refine RL.op rfl rfl (op_call1 Try.func29 rfl rfl rfl ((text_calls q.text _ (by omega)).mono ?_))
    rintro v3 w3 ⟨ho_, he_⟩
    have hN_ := hN.pushOwn (l := putText q.text) ho_ he_
    clear ho_ he_
    clear hN
    have hN : Now w none_ w3 [_, _, _] := hN_
    clear hN_
    refine RL.op rfl rfl (opN_append Try.underlying23 inf5 rfl vb_one hN 1 rfl rfl (hN.sl 0 rfl) rfl (by (try simp only [List.length_append, List.length_take, List.length_drop, num8_length, putInts_length, putText_length, put_length, List.flatten_cons, List.flatten_nil, List.length_nil, List.length_cons]); omega) (by decide) ?_)
    intro v4 w4 hN_
    clear hN
    have hN : Now w none_ w4 [_, _, _] := hN_
    clear hN_
    refine RL.ev rfl rfl ev_assign ?_
    refine RL.nil ?_
    refine thenN ?_
    refine RW.exit ?_
    refine blockMiss (by decide) ?_
    refine thenX ?_
    refine blockMiss (by decide) ?_
    refine thenX ?_
    refine blockMiss (by decide) ?_
    refine blockMiss (by decide) ?_
    refine thenX ?_
    refine blockHit ?_
    refine thenN ?_
    refine RW.seq ?_
    refine RW.region ?_
    refine RL.ev rfl rfl ev_move ?_
    refine RL.ev rfl rfl ev_assign ?_
    refine RL.nil ?_
    refine thenN ?_
    refine RW.ret ?_
    refine retI (RV.tmp rfl) ?_
    exact ⟨(hN.ownOut 1 rfl).relist (by simp [askB, *]), hN.ext0⟩
  · skip
    refine RW.skip ?_
    refine thenN ?_
    refine RW.seq ?_
    refine RW.seq ?_
    refine RW.region ?_
    refine RL.ev rfl rfl (ev_eql rfl rfl) ?_
    refine RL.ev rfl rfl ev_assign ?_
    refine RL.nil ?_
    refine thenN ?_
    refine RW.condP _ rfl (fun h2_ => ?_) (fun h2_ => ?_)
    · skip
      refine RW.exit ?_
      refine thenX ?_
      refine thenX ?_
      refine blockMiss (by decide) ?_
      refine thenX ?_
      refine blockHit ?_
      refine thenN ?_
      refine RW.seq ?_
      refine RW.region ?_
      refine RL.ev rfl rfl ev_move ?_
      refine RL.ev rfl rfl (ev_fieldAddr Try.underlying38 rfl sz3 (by decide) rfl) ?_
      refine RL.ev rfl rfl (ev_loadB Try.underlying3 rfl rfl (hN.blk 1 rfl) rfl) ?_
      refine RL.op rfl rfl (op_call1 Try.func42 rfl rfl rfl ((number_calls (q.k) _).mono ?_))
      rintro v5 w5 ⟨ho_, he_⟩
      have hN_ := hN.pushOwn (l := num8 (q.k)) ho_ he_
      clear ho_ he_
      clear hN
      have hN : Now w none_ w5 [_, _, _] := hN_
      clear hN_
      refine RL.op rfl rfl (opN_append Try.underlying23 inf5 rfl vb_one hN 1 rfl rfl (hN.sl 0 rfl) rfl (by (try simp only [List.length_append, List.length_take, List.length_drop, num8_length, putInts_length, putText_length, put_length, List.flatten_cons, List.flatten_nil, List.length_nil, List.length_cons]); omega) (by decide) ?_)
      intro v6 w6 hN_
      clear hN
      have hN : Now w none_ w6 [_, _, _] := hN_
      clear hN_
      refine RL.ev rfl rfl ev_assign ?_
      refine RL.nil ?_
      refine thenN ?_
      refine RW.exit ?_
      refine blockMiss (by decide) ?_
      refine thenX ?_
      refine blockMiss (by decide) ?_
      refine blockMiss (by decide) ?_
      refine thenX ?_
      refine blockHit ?_
      refine thenN ?_
      refine RW.seq ?_
      refine RW.region ?_
      refine RL.ev rfl rfl ev_move ?_
      refine RL.ev rfl rfl ev_assign ?_
      refine RL.nil ?_
      refine thenN ?_
      refine RW.ret ?_
      refine retI (RV.tmp rfl) ?_
      exact ⟨(hN.ownOut 1 rfl).relist (by simp [askB, *]), hN.ext0⟩
    · skip
      refine RW.skip ?_
      refine thenN ?_
      refine RW.seq ?_
      refine RW.seq ?_
      refine RW.region ?_
      refine RL.ev rfl rfl (ev_eql rfl rfl) ?_
      refine RL.ev rfl rfl ev_assign ?_
      refine RL.nil ?_
      refine thenN ?_
      refine RW.condP _ rfl (fun h7_ => ?_) (fun h7_ => ?_)
      · skip
        refine RW.exit ?_
        refine thenX ?_
        refine thenX ?_
        refine blockMiss (by decide) ?_
        refine thenX ?_
        refine blockMiss (by decide) ?_
        refine thenX ?_
        refine blockHit ?_
        refine thenN ?_
        refine RW.seq ?_
        refine RW.seq ?_
        refine RW.region ?_
        refine RL.ev rfl rfl ev_move ?_
        refine RL.ev rfl rfl (ev_fieldAddr Try.underlying38 rfl sz3 (by decide) rfl) ?_
        refine RL.ev rfl rfl (ev_loadB Try.underlying3 rfl rfl (hN.blk 1 rfl) rfl) ?_
        refine RL.op rfl rfl (op_call1 Try.func42 rfl rfl rfl ((number_calls (q.s) _).mono ?_))
        rintro v7 w7 ⟨ho_, he_⟩
        have hN_ := hN.pushOwn (l := num8 (q.s)) ho_ he_
        clear ho_ he_
        clear hN
        have hN : Now w none_ w7 [_, _, _] := hN_
        clear hN_
        refine RL.op rfl rfl (opN_append Try.underlying23 inf5 rfl vb_one hN 1 rfl rfl (hN.sl 0 rfl) rfl (by (try simp only [List.length_append, List.length_take, List.length_drop, num8_length, putInts_length, putText_length, put_length, List.flatten_cons, List.flatten_nil, List.length_nil, List.length_cons]); omega) (by decide) ?_)
        intro v8 w8 hN_
        clear hN
        have hN : Now w none_ w8 [_, _, _] := hN_
        clear hN_
        refine RL.ev rfl rfl ev_assign ?_
        refine RL.nil ?_
        refine thenN ?_
        refine RW.region ?_
        refine RL.ev rfl rfl ev_move ?_
        refine RL.ev rfl rfl (ev_fieldAddr Try.underlying38 rfl sz36 (by decide) rfl) ?_
        refine RL.ev rfl rfl (ev_loadB Try.underlying36 rfl rfl (hN.blk 2 rfl) rfl) ?_
        refine RL.op rfl rfl (op_call1 Try.func43 rfl rfl rfl ((ints_calls _ q.ts _ (hx.ext hN.ext0) (by omega)).mono ?_))
        rintro v9 w9 ⟨ho_, he_⟩
        have hN_ := hN.pushOwn (l := putInts q.ts) ho_ he_
        clear ho_ he_
        clear hN
        have hN : Now w none_ w9 [_, _, _, _] := hN_
        clear hN_
        refine RL.op rfl rfl (opN_append Try.underlying23 inf5 rfl vb_one hN 2 rfl rfl (hN.sl 0 rfl) rfl (by (try simp only [List.length_append, List.length_take, List.length_drop, num8_length, putInts_length, putText_length, put_length, List.flatten_cons, List.flatten_nil, List.length_nil, List.length_cons]); omega) (by decide) ?_)
        intro v10 w10 hN_
        clear hN
        have hN : Now w none_ w10 [_, _, _, _] := hN_
        clear hN_
        refine RL.ev rfl rfl ev_assign ?_
        refine RL.nil ?_
        refine thenN ?_
        refine RW.exit ?_
        refine blockMiss (by decide) ?_
        refine blockMiss (by decide) ?_
        refine thenX ?_
        refine blockHit ?_
        refine thenN ?_
        refine RW.seq ?_
        refine RW.region ?_
        refine RL.ev rfl rfl ev_move ?_
        refine RL.ev rfl rfl ev_assign ?_
        refine RL.nil ?_
        refine thenN ?_
        refine RW.ret ?_
        refine retI (RV.tmp rfl) ?_
        exact ⟨(hN.ownOut 2 rfl).relist (by simp [askB, *]), hN.ext0⟩
      · skip
        refine RW.skip ?_
        refine thenN ?_
        refine RW.seq ?_
        refine RW.seq ?_
        refine RW.region ?_
        refine RL.ev rfl rfl (ev_eql rfl rfl) ?_
        refine RL.ev rfl rfl ev_assign ?_
        refine RL.nil ?_
        refine thenN ?_
        refine RW.condP _ rfl (fun h5_ => ?_) (fun h5_ => ?_)
        · skip
          refine RW.exit ?_
          refine thenX ?_
          refine thenX ?_
          refine blockMiss (by decide) ?_
          refine thenX ?_
          refine blockMiss (by decide) ?_
          refine thenX ?_
          refine blockMiss (by decide) ?_
          refine thenX ?_
          refine blockHit ?_
          refine blockN ?_
          refine thenN ?_
          refine RW.seq ?_
          refine RW.seq ?_
          refine RW.region ?_
          refine RL.ev rfl rfl ev_move ?_
          refine RL.ev rfl rfl (ev_fieldAddr Try.underlying38 rfl sz3 (by decide) rfl) ?_
          refine RL.ev rfl rfl (ev_loadB Try.underlying3 rfl rfl (hN.blk 1 rfl) rfl) ?_
          refine RL.op rfl rfl (op_call1 Try.func42 rfl rfl rfl ((number_calls (q.s) _).mono ?_))
          rintro v11 w11 ⟨ho_, he_⟩
          have hN_ := hN.pushOwn (l := num8 (q.s)) ho_ he_
          clear ho_ he_
          clear hN
          have hN : Now w none_ w11 [_, _, _] := hN_
          clear hN_
          refine RL.op rfl rfl (opN_append Try.underlying23 inf5 rfl vb_one hN 1 rfl rfl (hN.sl 0 rfl) rfl (by (try simp only [List.length_append, List.length_take, List.length_drop, num8_length, putInts_length, putText_length, put_length, List.flatten_cons, List.flatten_nil, List.length_nil, List.length_cons]); omega) (by decide) ?_)
          intro v12 w12 hN_
          clear hN
          have hN : Now w none_ w12 [_, _, _] := hN_
          clear hN_
          refine RL.ev rfl rfl ev_assign ?_
          refine RL.nil ?_
          refine thenN ?_
          refine RW.region ?_
          refine RL.ev rfl rfl ev_move ?_
          refine RL.ev rfl rfl (ev_fieldAddr Try.underlying38 rfl sz3 (by decide) rfl) ?_
          refine RL.ev rfl rfl (ev_loadB Try.underlying3 rfl rfl (hN.blk 2 rfl) rfl) ?_
          refine RL.op rfl rfl (op_call1 Try.func42 rfl rfl rfl ((number_calls (q.t) _).mono ?_))
          rintro v13 w13 ⟨ho_, he_⟩
          have hN_ := hN.pushOwn (l := num8 (q.t)) ho_ he_
          clear ho_ he_
          clear hN
          have hN : Now w none_ w13 [_, _, _, _] := hN_
          clear hN_
          refine RL.op rfl rfl (opN_append Try.underlying23 inf5 rfl vb_one hN 2 rfl rfl (hN.sl 0 rfl) rfl (by (try simp only [List.length_append, List.length_take, List.length_drop, num8_length, putInts_length, putText_length, put_length, List.flatten_cons, List.flatten_nil, List.length_nil, List.length_cons]); omega) (by decide) ?_)
          intro v14 w14 hN_
          clear hN
          have hN : Now w none_ w14 [_, _, _, _] := hN_
          clear hN_
          refine RL.ev rfl rfl ev_assign ?_
          refine RL.nil ?_
          refine thenN ?_
          refine RW.exit ?_
          refine blockHit ?_
          refine thenN ?_
          refine RW.seq ?_
          refine RW.region ?_
          refine RL.ev rfl rfl ev_move ?_
          refine RL.ev rfl rfl ev_assign ?_
          refine RL.nil ?_
          refine thenN ?_
          refine RW.ret ?_
          refine retI (RV.tmp rfl) ?_
          exact ⟨(hN.ownOut 2 rfl).relist (by simp [askB, *]), hN.ext0⟩
        · skip
          refine RW.skip ?_
          refine thenN ?_
          refine RW.seq ?_
          refine RW.region ?_
          refine RL.ev rfl rfl (ev_eql rfl rfl) ?_
          refine RL.ev rfl rfl ev_assign ?_
          refine RL.nil ?_
          refine thenN ?_
          refine RW.condP _ rfl (fun h6_ => ?_) (fun h6_ => ?_)
          · skip
            refine RW.exit ?_
            refine thenX ?_
            refine blockMiss (by decide) ?_
            refine thenX ?_
            refine blockMiss (by decide) ?_
            refine thenX ?_
            refine blockMiss (by decide) ?_
            refine thenX ?_
            refine blockMiss (by decide) ?_
            refine blockHit ?_
            refine thenN ?_
            refine RW.seq ?_
            refine RW.seq ?_
            refine RW.region ?_
            refine RL.ev rfl rfl ev_move ?_
            refine RL.ev rfl rfl (ev_fieldAddr Try.underlying38 rfl sz3 (by decide) rfl) ?_
            refine RL.ev rfl rfl (ev_loadB Try.underlying3 rfl rfl (hN.blk 1 rfl) rfl) ?_
            refine RL.op rfl rfl (op_call1 Try.func42 rfl rfl rfl ((number_calls (q.s) _).mono ?_))
            rintro v15 w15 ⟨ho_, he_⟩
            have hN_ := hN.pushOwn (l := num8 (q.s)) ho_ he_
            clear ho_ he_
            clear hN
            have hN : Now w none_ w15 [_, _, _] := hN_
            clear hN_
            refine RL.op rfl rfl (opN_append Try.underlying23 inf5 rfl vb_one hN 1 rfl rfl (hN.sl 0 rfl) rfl (by (try simp only [List.length_append, List.length_take, List.length_drop, num8_length, putInts_length, putText_length, put_length, List.flatten_cons, List.flatten_nil, List.length_nil, List.length_cons]); omega) (by decide) ?_)
            intro v16 w16 hN_
            clear hN
            have hN : Now w none_ w16 [_, _, _] := hN_
            clear hN_
            refine RL.ev rfl rfl ev_assign ?_
            refine RL.nil ?_
            refine thenN ?_
            refine RW.region ?_
            refine RL.ev rfl rfl ev_move ?_
            refine RL.ev rfl rfl (ev_fieldAddr Try.underlying38 rfl sz3 (by decide) rfl) ?_
            refine RL.ev rfl rfl (ev_loadB Try.underlying3 rfl rfl (hN.blk 2 rfl) rfl) ?_
            refine RL.op rfl rfl (op_call1 Try.func42 rfl rfl rfl ((number_calls (q.t) _).mono ?_))
            rintro v17 w17 ⟨ho_, he_⟩
            have hN_ := hN.pushOwn (l := num8 (q.t)) ho_ he_
            clear ho_ he_
            clear hN
            have hN : Now w none_ w17 [_, _, _, _] := hN_
            clear hN_
            refine RL.op rfl rfl (opN_append Try.underlying23 inf5 rfl vb_one hN 2 rfl rfl (hN.sl 0 rfl) rfl (by (try simp only [List.length_append, List.length_take, List.length_drop, num8_length, putInts_length, putText_length, put_length, List.flatten_cons, List.flatten_nil, List.length_nil, List.length_cons]); omega) (by decide) ?_)
            intro v18 w18 hN_
            clear hN
            have hN : Now w none_ w18 [_, _, _, _] := hN_
            clear hN_
            refine RL.ev rfl rfl ev_assign ?_
            refine RL.nil ?_
            refine thenN ?_
            refine RW.exit ?_
            refine blockHit ?_
            refine thenN ?_
            refine RW.seq ?_
            refine RW.region ?_
            refine RL.ev rfl rfl ev_move ?_
            refine RL.ev rfl rfl ev_assign ?_
            refine RL.nil ?_
            refine thenN ?_
            refine RW.ret ?_
            refine retI (RV.tmp rfl) ?_
            exact ⟨(hN.ownOut 2 rfl).relist (by simp [askB, *]), hN.ext0⟩
          · skip
            refine RW.skip ?_
            refine thenN ?_
            refine RW.exit ?_
            refine blockMiss (by decide) ?_
            refine thenX ?_
            refine blockMiss (by decide) ?_
            refine thenX ?_
            refine blockMiss (by decide) ?_
            refine thenX ?_
            refine blockMiss (by decide) ?_
            refine blockMiss (by decide) ?_
            refine thenX ?_
            refine blockHit ?_
            refine thenN ?_
            refine RW.seq ?_
            refine RW.region ?_
            refine RL.ev rfl rfl ev_move ?_
            refine RL.ev rfl rfl ev_assign ?_
            refine RL.nil ?_
            refine thenN ?_
            refine RW.ret ?_
            refine retI (RV.tmp rfl) ?_
            exact ⟨(hN.ownOut 0 rfl).relist (by simp [askB, *]), hN.ext0⟩

set_option maxHeartbeats 4000000 in
set_option maxRecDepth 100000 in
/-- postroad/postroadref19.Ask -/
theorem refAsk_calls (v : Value) (q : Req) (w : World) (hq : ReqV w v q) (h1 : q.ts.length ≤ 1048576) (h2 : q.text.length ≤ 70368744175616) : Gives Try.prog 26 #[v] w fun r' w' => Own vb 5 w' w.heap.size r' (askB q) ∧ Ext w w' := by
  obtain ⟨x, e_, hx⟩ := hq
  subst e_
  refine Gives.start Try.func26 rfl (Nat.le_of_ble_eq_true rfl) ?_
  rw [args1]
  have hN := Now.nil w none_
  refine RW.seq ?_
  refine RW.region ?_
  refine RL.op rfl rfl (opN_box (cs := [.int .i64 (q.kind), (str q.text), .int .i64 (q.k), .int .i64 (q.s), .int .i64 (q.t), x]) rfl rfl hN ?_)
  intro g1 w1 hN_
  clear hN
  have hN : Now w none_ w1 [_] := hN_
  clear hN_
  refine RL.ev rfl rfl ev_assign ?_
  refine RL.nil ?_
  refine thenN ?_
  refine RW.seq ?_
  refine RW.region ?_
  refine RL.ev rfl rfl (ev_fieldAddr Try.underlying38 rfl sz3 (by decide) rfl) ?_
  refine RL.ev rfl rfl (ev_loadB Try.underlying3 rfl rfl (hN.blk 0 rfl) rfl) ?_
  refine RL.ev rfl rfl (ev_conv Try.underlying3 Try.underlying39 rfl (wrap_u64 _)) ?_
  refine RL.op rfl rfl (op_call2 Try.func30 rfl rfl rfl rfl ((refPut_calls (toU q.kind) 1 _ (toU_lt _)).mono ?_))
  rintro v2 w2 ⟨ho_, he_⟩
  have hN_ := hN.pushOwn (l := put (toU q.kind) 1) ho_ he_
  clear ho_ he_
  clear hN
  have hN : Now w none_ w2 [_, _] := hN_
  clear hN_
  refine RL.ev rfl rfl ev_assign ?_
  refine RL.nil ?_
  refine thenN ?_
  refine RW.seq ?_
  refine RW.seq ?_
  refine RW.region ?_
  refine RL.ev rfl rfl (ev_fieldAddr Try.underlying38 rfl sz3 (by decide) rfl) ?_
  refine RL.ev rfl rfl (ev_loadB Try.underlying3 rfl rfl (hN.blk 1 rfl) rfl) ?_
  refine RL.nil ?_
  refine thenN ?_
  refine RW.block ?_
  refine RW.seq ?_
  refine RW.region ?_
  refine RL.ev rfl rfl (ev_eql rfl rfl) ?_
  refine RL.ev rfl rfl ev_assign ?_
  refine RL.nil ?_
  refine thenN ?_
  refine RW.condP _ rfl (fun hc10 => ?_) (fun hc10 => ?_)
  · skip
    refine RW.region ?_
    refine RL.ev rfl rfl ev_move ?_
    refine RL.ev rfl rfl (ev_fieldAddr Try.underlying38 rfl sz9 (by decide) rfl) ?_
    refine RL.ev rfl rfl (ev_loadB Try.underlying9 rfl rfl (hN.blk 1 rfl) rfl) ?_
    refine RL.op rfl rfl (op_call1 Try.func49 rfl rfl rfl ((refText_calls q.text _ (by omega)).mono ?_))
    rintro v3 w3 ⟨ho_, he_⟩
    have hN_ := hN.pushOwn (l := putText q.text) ho_ he_
    clear ho_ he_
    clear hN
    have hN : Now w none_ w3 [_, _, _] := hN_
    clear hN_
    refine RL.op rfl rfl (opN_append Try.underlying23 inf5 rfl vb_one hN 1 rfl rfl (hN.sl 0 rfl) rfl (by (try simp only [List.length_append, List.length_take, List.length_drop, num8_length, putInts_length, putText_length, put_length, List.flatten_cons, List.flatten_nil, List.length_nil, List.length_cons]); omega) (by decide) ?_)
    intro v4 w4 hN_
    clear hN
    have hN : Now w none_ w4 [_, _, _] := hN_
    clear hN_
    refine RL.ev rfl rfl ev_assign ?_
    refine RL.nil ?_
    refine blockN ?_
    refine thenN ?_
    refine RW.seq ?_
    refine RW.region ?_
    refine RL.ev rfl rfl ev_move ?_
    refine RL.ev rfl rfl ev_assign ?_
    refine RL.nil ?_
    refine thenN ?_
    refine RW.ret ?_
    refine retI (RV.tmp rfl) ?_
    exact ⟨(hN.ownOut 1 rfl).relist (by simp [askB, *]), hN.ext0⟩
  · skip
    refine RW.seq ?_
    refine RW.region ?_
    refine RL.ev rfl rfl (ev_eql rfl rfl) ?_
    refine RL.ev rfl rfl ev_assign ?_
    refine RL.nil ?_
    refine thenN ?_
    refine RW.condP _ rfl (fun hc17 => ?_) (fun hc17 => ?_)
    · skip
      refine RW.region ?_
      refine RL.ev rfl rfl ev_move ?_
      refine RL.ev rfl rfl (ev_fieldAddr Try.underlying38 rfl sz3 (by decide) rfl) ?_
      refine RL.ev rfl rfl (ev_loadB Try.underlying3 rfl rfl (hN.blk 1 rfl) rfl) ?_
      refine RL.op rfl rfl (op_call2 Try.func44 rfl rfl rfl rfl ((rput_calls _ (put (toU q.kind) 1) (q.k) _ (hN.pickL (M := [_]) [0] (by decide) rfl) (by simp only [List.length_append, num8_length, putInts_length, put_length]; omega)).mono ?_))
      rintro _ w5 ⟨v5, rfl, hC_⟩
      have hN_ := Now.callA (M := [_]) (N := [_]) (hN.sub [0, 1] (by decide) rfl) hC_
      clear hC_
      clear hN
      have hN : Now w none_ w5 [_, _] := hN_
      clear hN_
      refine RL.ev rfl rfl ev_assign ?_
      refine RL.nil ?_
      refine blockN ?_
      refine thenN ?_
      refine RW.seq ?_
      refine RW.region ?_
      refine RL.ev rfl rfl ev_move ?_
      refine RL.ev rfl rfl ev_assign ?_
      refine RL.nil ?_
      refine thenN ?_
      refine RW.ret ?_
      refine retI (RV.tmp rfl) ?_
      exact ⟨(hN.ownOut 0 rfl).relist (by simp [askB, *]), hN.ext0⟩
    · skip
      refine RW.seq ?_
      refine RW.seq ?_
      refine RW.region ?_
      refine RL.ev rfl rfl (ev_eql rfl rfl) ?_
      refine RL.ev rfl rfl ev_assign ?_
      refine RL.nil ?_
      refine thenN ?_
      refine RW.condP _ rfl (fun hc23 => ?_) (fun hc23 => ?_)
      · skip
        refine RW.skip ?_
        refine thenN ?_
        refine RW.condPT _ rfl hc23 ?_
        refine RW.draw rfl (fun u => Now w none_ u [.blk g1 [.int .i64 (q.kind), (str q.text), .int .i64 (q.k), .int .i64 (q.s), .int .i64 (q.t), x] 38]) ?_
        replace hN := hN.ext (Ext.drew w2)
        refine RA.take (i := 0) rfl rfl (by kernel_rfl) (by kernel_rfl) (by kernel_rfl) (by intro _ _ _ h; exact h) rfl (hN.sub [1] (by decide) rfl) (fun w hS => ev_move) ?_
        refine RA.take (i := 1) rfl rfl (by kernel_rfl) (by kernel_rfl) (by kernel_rfl) (by intro _ _ _ h; exact h) rfl (hN.sub [1] (by decide) rfl) (fun w hS => (ev_fieldAddr Try.underlying38 rfl sz3 (by decide) rfl)) ?_
        refine RA.take (i := 2) rfl rfl (by kernel_rfl) (by kernel_rfl) (by kernel_rfl) (by intro _ _ _ h; exact h) rfl (hN.sub [1] (by decide) rfl) (fun w hS => (ev_loadB Try.underlying3 rfl rfl (hS.blk 0 rfl) rfl)) ?_
        refine RA.take (i := 4) rfl rfl (by kernel_rfl) (by kernel_rfl) (by kernel_rfl) (by intro _ _ _ h; exact h) rfl (hN.sub [1] (by decide) rfl) (fun w hS => (ev_fieldAddr Try.underlying38 rfl sz3 (by decide) rfl)) ?_
        refine RA.take (i := 5) rfl rfl (by kernel_rfl) (by kernel_rfl) (by kernel_rfl) (by intro _ _ _ h; exact h) rfl (hN.sub [1] (by decide) rfl) (fun w hS => (ev_loadB Try.underlying3 rfl rfl (hS.blk 0 rfl) rfl)) ?_
        refine RA.only (i := 3) (by kernel_rfl) rfl rfl rfl (op_call2 Try.func44 rfl rfl rfl rfl ((rput_calls _ (put (toU q.kind) 1) (q.s) _ (hN.pickL (M := [_]) [0] (by decide) rfl) (by simp only [List.length_append, num8_length, putInts_length, put_length]; omega)).mono ?_))
        rintro _ w6 ⟨v6, rfl, hC_⟩
        have hN_ := Now.callA (M := [_]) (N := [_]) (hN.sub [0, 1] (by decide) rfl) hC_
        clear hC_
        clear hN
        have hN : Now w none_ w6 [_, _] := hN_
        clear hN_
        refine ⟨(hN.sub [1] (by decide) rfl), ?_⟩
        refine RA.only (i := 6) (by kernel_rfl) rfl rfl rfl (op_call2 Try.func44 rfl rfl rfl rfl ((rput_calls _ (put (toU q.kind) 1 ++ num8 (q.s)) (q.t) _ (hN.pickL (M := [_]) [0] (by decide) rfl) (by simp only [List.length_append, num8_length, putInts_length, put_length]; omega)).mono ?_))
        rintro _ w7 ⟨v7, rfl, hC_⟩
        have hN_ := Now.callA (M := [_]) (N := [_]) (hN.sub [0, 1] (by decide) rfl) hC_
        clear hC_
        clear hN
        have hN : Now w none_ w7 [_, _] := hN_
        clear hN_
        refine ⟨(hN.sub [1] (by decide) rfl), ?_⟩
        refine RA.take (i := 7) rfl rfl (by kernel_rfl) (by kernel_rfl) (by kernel_rfl) (by intro _ _ _ h; exact h) rfl (hN.sub [1] (by decide) rfl) (fun w hS => ev_assign) ?_
        refine RA.done (by kernel_rfl) ?_
        refine blockN ?_
        refine thenN ?_
        refine RW.seq ?_
        refine RW.region ?_
        refine RL.ev rfl rfl ev_move ?_
        refine RL.ev rfl rfl ev_assign ?_
        refine RL.nil ?_
        refine thenN ?_
        refine RW.ret ?_
        refine retI (RV.tmp rfl) ?_
        exact ⟨(hN.ownOut 0 rfl).relist (by simp [askB, *]), hN.ext0⟩
      · skip
        refine RW.region ?_
        refine RL.ev rfl rfl (ev_eql rfl rfl) ?_
        refine RL.ev rfl rfl ev_assign ?_
        refine RL.nil ?_
        refine thenN ?_
        refine RW.condP _ rfl (fun hc23 => ?_) (fun hc23 => ?_)
        · skip
          refine RW.draw rfl (fun u => Now w none_ u [.blk g1 [.int .i64 (q.kind), (str q.text), .int .i64 (q.k), .int .i64 (q.s), .int .i64 (q.t), x] 38]) ?_
          replace hN := hN.ext (Ext.drew w2)
          refine RA.take (i := 0) rfl rfl (by kernel_rfl) (by kernel_rfl) (by kernel_rfl) (by intro _ _ _ h; exact h) rfl (hN.sub [1] (by decide) rfl) (fun w hS => ev_move) ?_
          refine RA.take (i := 1) rfl rfl (by kernel_rfl) (by kernel_rfl) (by kernel_rfl) (by intro _ _ _ h; exact h) rfl (hN.sub [1] (by decide) rfl) (fun w hS => (ev_fieldAddr Try.underlying38 rfl sz3 (by decide) rfl)) ?_
          refine RA.take (i := 2) rfl rfl (by kernel_rfl) (by kernel_rfl) (by kernel_rfl) (by intro _ _ _ h; exact h) rfl (hN.sub [1] (by decide) rfl) (fun w hS => (ev_loadB Try.underlying3 rfl rfl (hS.blk 0 rfl) rfl)) ?_
          refine RA.take (i := 4) rfl rfl (by kernel_rfl) (by kernel_rfl) (by kernel_rfl) (by intro _ _ _ h; exact h) rfl (hN.sub [1] (by decide) rfl) (fun w hS => (ev_fieldAddr Try.underlying38 rfl sz3 (by decide) rfl)) ?_
          refine RA.take (i := 5) rfl rfl (by kernel_rfl) (by kernel_rfl) (by kernel_rfl) (by intro _ _ _ h; exact h) rfl (hN.sub [1] (by decide) rfl) (fun w hS => (ev_loadB Try.underlying3 rfl rfl (hS.blk 0 rfl) rfl)) ?_
          refine RA.only (i := 3) (by kernel_rfl) rfl rfl rfl (op_call2 Try.func44 rfl rfl rfl rfl ((rput_calls _ (put (toU q.kind) 1) (q.s) _ (hN.pickL (M := [_]) [0] (by decide) rfl) (by simp only [List.length_append, num8_length, putInts_length, put_length]; omega)).mono ?_))
          rintro _ w8 ⟨v8, rfl, hC_⟩
          have hN_ := Now.callA (M := [_]) (N := [_]) (hN.sub [0, 1] (by decide) rfl) hC_
          clear hC_
          clear hN
          have hN : Now w none_ w8 [_, _] := hN_
          clear hN_
          refine ⟨(hN.sub [1] (by decide) rfl), ?_⟩
          refine RA.only (i := 6) (by kernel_rfl) rfl rfl rfl (op_call2 Try.func44 rfl rfl rfl rfl ((rput_calls _ (put (toU q.kind) 1 ++ num8 (q.s)) (q.t) _ (hN.pickL (M := [_]) [0] (by decide) rfl) (by simp only [List.length_append, num8_length, putInts_length, put_length]; omega)).mono ?_))
          rintro _ w9 ⟨v9, rfl, hC_⟩
          have hN_ := Now.callA (M := [_]) (N := [_]) (hN.sub [0, 1] (by decide) rfl) hC_
          clear hC_
          clear hN
          have hN : Now w none_ w9 [_, _] := hN_
          clear hN_
          refine ⟨(hN.sub [1] (by decide) rfl), ?_⟩
          refine RA.take (i := 7) rfl rfl (by kernel_rfl) (by kernel_rfl) (by kernel_rfl) (by intro _ _ _ h; exact h) rfl (hN.sub [1] (by decide) rfl) (fun w hS => ev_assign) ?_
          refine RA.done (by kernel_rfl) ?_
          refine blockN ?_
          refine thenN ?_
          refine RW.seq ?_
          refine RW.region ?_
          refine RL.ev rfl rfl ev_move ?_
          refine RL.ev rfl rfl ev_assign ?_
          refine RL.nil ?_
          refine thenN ?_
          refine RW.ret ?_
          refine retI (RV.tmp rfl) ?_
          exact ⟨(hN.ownOut 0 rfl).relist (by simp [askB, *]), hN.ext0⟩
        · skip
          refine RW.seq ?_
          refine RW.region ?_
          refine RL.ev rfl rfl (ev_eql rfl rfl) ?_
          refine RL.ev rfl rfl ev_assign ?_
          refine RL.nil ?_
          refine thenN ?_
          refine RW.condP _ rfl (fun hc33 => ?_) (fun hc33 => ?_)
          · skip
            refine RW.draw rfl (fun u => Now w none_ u [.blk g1 [.int .i64 (q.kind), (str q.text), .int .i64 (q.k), .int .i64 (q.s), .int .i64 (q.t), x] 38]) ?_
            replace hN := hN.ext (Ext.drew w2)
            refine RA.take (i := 0) rfl rfl (by kernel_rfl) (by kernel_rfl) (by kernel_rfl) (by intro _ _ _ h; exact h) rfl (hN.sub [1] (by decide) rfl) (fun w hS => ev_move) ?_
            refine RA.take (i := 1) rfl rfl (by kernel_rfl) (by kernel_rfl) (by kernel_rfl) (by intro _ _ _ h; exact h) rfl (hN.sub [1] (by decide) rfl) (fun w hS => (ev_fieldAddr Try.underlying38 rfl sz3 (by decide) rfl)) ?_
            refine RA.take (i := 2) rfl rfl (by kernel_rfl) (by kernel_rfl) (by kernel_rfl) (by intro _ _ _ h; exact h) rfl (hN.sub [1] (by decide) rfl) (fun w hS => (ev_loadB Try.underlying3 rfl rfl (hS.blk 0 rfl) rfl)) ?_
            refine RA.take (i := 4) rfl rfl (by kernel_rfl) (by kernel_rfl) (by kernel_rfl) (by intro _ _ _ h; exact h) rfl (hN.sub [1] (by decide) rfl) (fun w hS => (ev_fieldAddr Try.underlying38 rfl sz36 (by decide) rfl)) ?_
            refine RA.take (i := 5) rfl rfl (by kernel_rfl) (by kernel_rfl) (by kernel_rfl) (by intro _ _ _ h; exact h) rfl (hN.sub [1] (by decide) rfl) (fun w hS => (ev_loadB Try.underlying36 rfl rfl (hS.blk 0 rfl) rfl)) ?_
            refine RA.only (i := 3) (by kernel_rfl) rfl rfl rfl (op_call2 Try.func44 rfl rfl rfl rfl ((rput_calls _ (put (toU q.kind) 1) (q.s) _ (hN.pickL (M := [_]) [0] (by decide) rfl) (by simp only [List.length_append, num8_length, putInts_length, put_length]; omega)).mono ?_))
            rintro _ w10 ⟨v10, rfl, hC_⟩
            have hN_ := Now.callA (M := [_]) (N := [_]) (hN.sub [0, 1] (by decide) rfl) hC_
            clear hC_
            clear hN
            have hN : Now w none_ w10 [_, _] := hN_
            clear hN_
            refine ⟨(hN.sub [1] (by decide) rfl), ?_⟩
            refine RA.only (i := 6) (by kernel_rfl) rfl rfl rfl (op_call2 Try.func45 rfl rfl rfl rfl ((rints_calls_ _ _ (put (toU q.kind) 1 ++ num8 (q.s)) q.ts _ (hN.pickL (M := [_]) [0] (by decide) rfl) (hx.ext hN.ext0) (hN.offOldL (M := [_]) [0] rfl hx) (by simp only [List.length_append, num8_length, putInts_length, put_length]; omega) (by omega)).mono ?_))
            rintro _ w11 ⟨v11, rfl, hC_⟩
            have hN_ := Now.callA (M := [_]) (N := [_]) (hN.sub [0, 1] (by decide) rfl) hC_
            clear hC_
            clear hN
            have hN : Now w none_ w11 [_, _] := hN_
            clear hN_
            refine ⟨(hN.sub [1] (by decide) rfl), ?_⟩
            refine RA.take (i := 7) rfl rfl (by kernel_rfl) (by kernel_rfl) (by kernel_rfl) (by intro _ _ _ h; exact h) rfl (hN.sub [1] (by decide) rfl) (fun w hS => ev_assign) ?_
            refine RA.done (by kernel_rfl) ?_
            refine blockN ?_
            refine thenN ?_
            refine RW.seq ?_
            refine RW.region ?_
            refine RL.ev rfl rfl ev_move ?_
            refine RL.ev rfl rfl ev_assign ?_
            refine RL.nil ?_
            refine thenN ?_
            refine RW.ret ?_
            refine retI (RV.tmp rfl) ?_
            exact ⟨(hN.ownOut 0 rfl).relist (by simp [askB, *]), hN.ext0⟩
          · skip
            refine RW.skip ?_
            refine blockN ?_
            refine thenN ?_
            refine RW.seq ?_
            refine RW.region ?_
            refine RL.ev rfl rfl ev_move ?_
            refine RL.ev rfl rfl ev_assign ?_
            refine RL.nil ?_
            refine thenN ?_
            refine RW.ret ?_
            refine retI (RV.tmp rfl) ?_
            exact ⟨(hN.ownOut 0 rfl).relist (by simp [askB, *]), hN.ext0⟩

end Go.Proofs.Ytihchogjmgbipaa
