import Derived.Test.YtngkdkbpgoddlaaRefW2
import Derived.Test.YtngkdkbpgoddlaaCrcWalks3
import Derived.Test.YtngkdkbpgoddlaaCodecNow
import Derived.Test.YtngkdkbpgoddlaaImagePlain
set_option linter.unusedVariables false
set_option linter.unusedSimpArgs false
namespace Go.Proofs.Ytngkdkbpgoddlaa
open Go.RowKit Go.Rl

open Go.Codec Go.Crc
set_option maxHeartbeats 4000000 in
set_option maxRecDepth 100000 in
/-- postroad/postroadref02.TakeText -/
theorem refTakeText_calls (b : Nat) (v : Value) (s : St) (most : Int) (w : World) (hB : SlB vb b w v s.1) (hbw : b ≤ w.heap.size) (hm0 : -9223372036854775808 ≤ most) (hm1 : most ≤ 9223372036854775807) : Gives Try.prog 14 #[TV v s.2, vi most] w fun r w' => ∃ x, r = .tuple #[TV x (textR s most).1.2, str (textR s most).2] ∧ SlB vb b w' x (textR s most).1.1 ∧ Ext w w' := by
  refine Gives.start Try.func14 rfl (Nat.le_of_ble_eq_true rfl) ?_
  rw [args2]
  have hN := Now.nil w none_
  have htm := text_many s most
  refine RW.seq ?_
  refine RW.region ?_
  refine RL.op rfl rfl (opN_box (cs := [v, .int .i64 (s.2)]) rfl rfl hN ?_)
  intro g1 w1 hN_
  clear hN
  have hN : Now w none_ w1 [_] := hN_
  clear hN_
  refine RL.op rfl rfl (opN_alloc (cs := [.slice none 0 0, .int .i64 (0)]) zero36 rfl hN ?_)
  intro g2 w2 hN_
  clear hN
  have hN : Now w none_ w2 [_, _] := hN_
  clear hN_
  refine RL.ev rfl rfl ev_assign ?_
  refine RL.nil ?_
  refine thenN ?_
  refine RW.seq ?_
  refine RW.region ?_
  refine RL.ev rfl rfl (ev_loadAll (cs := [v, .int .i64 (s.2)]) Try.underlying36 rfl sz36 rfl (hN.blk 1 rfl)) ?_
  refine RL.ev rfl rfl ev_move ?_
  refine RL.op rfl rfl (op_call3 Try.func26 rfl rfl rfl rfl rfl ((refMany_calls _ _ s (most) 1 _ (hB.ext hN.ext0) (Nat.le_trans hbw hN.size) (by decide) (by omega) (by omega)).mono ?_))
  rintro _ w3 ⟨x3, rfl, ox3, he_⟩
  replace hN := hN.ext he_
  replace ox3 := ox3.back hN.ext0 hbw
  clear he_
  refine RL.ev rfl rfl ev_move ?_
  refine RL.ev rfl rfl (ev_extract rfl rfl) ?_
  refine RL.ev rfl rfl (ev_extract rfl rfl) ?_
  refine RL.op rfl rfl (opN_alloc (cs := [.slice none 0 0, .int .i64 (0)]) zero36 rfl hN ?_)
  intro g4 w4 hN_
  clear hN
  have hN : Now w none_ w4 [_, _, _] := hN_
  clear hN_
  refine RL.op rfl rfl (opN_storeAll (vs := [x3, .int .i64 ((manyR s (most) 1).1.2)]) sz36 rfl rfl rfl (by intro u hu; simp only [List.mem_cons, List.not_mem_nil, or_false] at hu; rcases hu with rfl | rfl <;> first | rfl | exact (ox3.1.ext hN.ext0).one1) hN 0 rfl rfl ?_)
  intro w5 hN_
  clear hN
  have hN : Now w none_ w5 [_, _, _] := hN_
  clear hN_
  refine RL.ev rfl rfl ev_assign ?_
  refine RL.nil ?_
  refine thenN ?_
  refine RW.seq ?_
  refine RW.seq ?_
  refine RW.region ?_
  refine RL.ev rfl rfl ev_move ?_
  refine RL.ev rfl rfl (ev_lss rfl rfl) ?_
  refine RL.nil ?_
  refine thenN ?_
  refine RW.condP _ rfl (fun hlt => ?_) (fun hlt => ?_)
  · skip
    refine RW.seq ?_
    refine RW.region ?_
    refine RL.ev rfl rfl (ev_loadAll (cs := [x3, .int .i64 ((manyR s (most) 1).1.2)]) Try.underlying36 rfl sz36 rfl (hN.blk 0 rfl)) ?_
    refine RL.op rfl rfl (opN_storeAll (vs := [x3, .int .i64 ((manyR s (most) 1).1.2)]) sz36 rfl rfl rfl (by intro u hu; simp only [List.mem_cons, List.not_mem_nil, or_false] at hu; rcases hu with rfl | rfl <;> first | rfl | exact (ox3.1.ext hN.ext0).one1) hN 1 rfl rfl ?_)
    intro w6 hN_
    clear hN
    have hN : Now w none_ w6 [_, _, _] := hN_
    clear hN_
    refine RL.ev rfl rfl ev_assign ?_
    refine RL.nil ?_
    refine thenN ?_
    refine RW.ret ?_
    refine thenR ?_
    refine retI (RV.cellTmp rfl rfl (run_cell (hN.blk 1 rfl) Try.underlying36 rfl sz36)) ?_
    have h2 : textR s most = ((manyR s most 1).1, []) := by
      rcases htm with h | h
      · exact h.2
      · omega
    rw [h2]
    exact ⟨_, rfl, ox3.ext hN.ext0, hN.ext0⟩
  · skip
    refine RW.skip ?_
    refine thenN ?_
    refine RW.seq ?_
    have hge : 0 ≤ (manyR s most 1).2 ∧ (manyR s most 1).2 ≤ (manyR s most 1).1.1.length ∧ textR s most = (((manyR s most 1).1.1.drop (manyR s most 1).2.toNat, 0), (manyR s most 1).1.1.take (manyR s most 1).2.toNat) := htm.resolve_left (fun h => hlt h.1)
    obtain ⟨hg0, hg1, hgt⟩ := hge
    refine RW.draw rfl (fun u => Now w none_ u [.blk g4 [x3, .int .i64 ((manyR s (most) 1).1.2)] 36, .blk g1 [v, .int .i64 (s.2)] 36]) ?_
    replace hN := hN.ext (Ext.drew w5)
    refine RA.take (i := 0) rfl rfl (by kernel_rfl) (by kernel_rfl) (by kernel_rfl) (by intro _ _ _ h; exact h) rfl (hN.sub [0, 2] (by decide) rfl) (fun w hS => (ev_fieldAddr Try.underlying36 rfl sz23 (by decide) rfl)) ?_
    refine RA.take (i := 1) rfl rfl (by kernel_rfl) (by kernel_rfl) (by kernel_rfl) (by intro _ _ _ h; exact h) rfl (hN.sub [0, 2] (by decide) rfl) (fun w hS => (ev_loadB Try.underlying23 rfl rfl (hS.blk 0 rfl) rfl)) ?_
    refine RA.take (i := 2) rfl rfl (by kernel_rfl) (by kernel_rfl) (by kernel_rfl) (by intro _ _ _ h; exact h) rfl (hN.sub [0, 2] (by decide) rfl) (fun w hS => ev_move) ?_
    refine RA.take (i := 3) rfl rfl (by kernel_rfl) (by kernel_rfl) (by kernel_rfl) (by intro _ _ _ h; exact h) rfl (hN.sub [0, 2] (by decide) rfl) (fun w hS => (ev_cutFrom Try.underlying23 sz5 (ox3.1.ext hS.ext0) rfl rfl (by omega) (by omega))) ?_
    refine RA.take (i := 4) rfl rfl (by kernel_rfl) (by kernel_rfl) (by kernel_rfl) (by intro _ _ _ h; exact h) rfl (hN.sub [0, 2] (by decide) rfl) (fun w hS => (ev_buildL (cs := [(cutV x3 ((manyR s (most) 1).2).toNat (manyR s (most) 1).1.1.length), .int .i64 (0)]) Try.underlying36 zero36 (places := #[(0, 1), (1, 1)]) (by intro w; kernel_rfl) (pl := [(0, .tmp 20)]) rfl (ps := [(0, (cutV x3 ((manyR s (most) 1).2).toNat (manyR s (most) 1).1.1.length))]) rfl (zc := [.slice none 0 0, .int .i64 (0)]) rfl (fill_step (vs := [(cutV x3 ((manyR s (most) 1).2).toNat (manyR s (most) 1).1.1.length)]) ((ox3.1.ext hS.ext0).cutFrom (by omega)).cells1 rfl (Nat.le_of_ble_eq_true rfl) rfl))) ?_
    refine RA.take (i := 5) rfl rfl (by kernel_rfl) (by kernel_rfl) (by kernel_rfl) (by intro _ _ _ h; exact h) rfl (hN.sub [0, 2] (by decide) rfl) (fun w hS => (ev_fieldAddr Try.underlying36 rfl sz23 (by decide) rfl)) ?_
    refine RA.take (i := 6) rfl rfl (by kernel_rfl) (by kernel_rfl) (by kernel_rfl) (by intro _ _ _ h; exact h) rfl (hN.sub [0, 2] (by decide) rfl) (fun w hS => (ev_loadB Try.underlying23 rfl rfl (hS.blk 0 rfl) rfl)) ?_
    refine RA.take (i := 7) rfl rfl (by kernel_rfl) (by kernel_rfl) (by kernel_rfl) (by intro _ _ _ h; exact h) rfl (hN.sub [0, 2] (by decide) rfl) (fun w hS => ev_move) ?_
    refine RA.take (i := 8) rfl rfl (by kernel_rfl) (by kernel_rfl) (by kernel_rfl) (by intro _ _ _ h; exact h) rfl (hN.sub [0, 2] (by decide) rfl) (fun w hS => (ev_cutTo Try.underlying23 sz5 (ox3.1.ext hS.ext0) rfl rfl (by omega) (by omega))) ?_
    refine RA.take (i := 9) rfl rfl (by kernel_rfl) (by kernel_rfl) (by kernel_rfl) (by intro _ _ _ h; exact h) rfl (hN.sub [0, 2] (by decide) rfl) (fun w hS => (ev_toStr Try.underlying23 Try.underlying5 Try.underlying9 ((ox3.1.ext hS.ext0).cutTo (by omega)) rfl)) ?_
    refine RA.only (i := 10) (by kernel_rfl) rfl rfl rfl (opN_storeAll (vs := [(cutV x3 ((manyR s (most) 1).2).toNat (manyR s (most) 1).1.1.length), .int .i64 (0)]) sz36 rfl rfl rfl (by intro u hu; simp only [List.mem_cons, List.not_mem_nil, or_false] at hu; rcases hu with rfl | rfl <;> first | rfl | exact ((ox3.1.ext hN.ext0).cutFrom (by omega)).one1) hN 1 rfl rfl ?_)
    intro w7 hN_
    clear hN
    have hN : Now w none_ w7 [_, _, _] := hN_
    clear hN_
    refine ⟨(hN.sub [0, 2] (by decide) rfl), ?_⟩
    refine RA.take (i := 11) rfl rfl (by kernel_rfl) (by kernel_rfl) (by kernel_rfl) (by intro _ _ _ h; exact h) rfl (hN.sub [0, 2] (by decide) rfl) (fun w hS => ev_assign) ?_
    refine RA.done (by kernel_rfl) ?_
    refine thenN ?_
    refine RW.ret ?_
    refine retI (RV.cellTmp rfl rfl (run_cell (hN.blk 1 rfl) Try.underlying36 rfl sz36)) ?_
    rw [hgt]
    exact ⟨_, rfl, (ox3.cutFrom (by omega)).ext hN.ext0, hN.ext0⟩

set_option maxHeartbeats 4000000 in
set_option maxRecDepth 100000 in
/-- postroad/postroadref00.SameLists -/
theorem sameLists_calls (a b : Value) (hs hs2 : List Hd) (ls ls2 : List (List UInt8)) (w : World) (ha : Sl vh w a hs) (hea : Els none_ vb w hs ls) (hb : Sl vh w b hs2) (heb : Els none_ vb w hs2 ls2) : Gives Try.prog 10 #[a, b] w fun r w' => r = .bool (decide (ls = ls2)) ∧ Ext w w' := by
  refine Gives.start Try.func10 rfl (Nat.le_of_ble_eq_true rfl) ?_
  rw [args2]
  have hN := Now.nil w none_
  have hla := hea.1
  have hlb := heb.1
  refine RW.seq ?_
  refine RW.region ?_
  refine RL.ev rfl rfl ev_assign ?_
  refine RL.nil ?_
  refine thenN ?_
  refine RW.seq ?_
  refine RW.seq ?_
  refine RW.region ?_
  refine RL.ev rfl rfl ev_move ?_
  have hL_1 := (ha.ext hN.ext0).len_le
  refine RL.ev rfl rfl (ev_lenS Try.underlying22 (ha.ext hN.ext0) rfl) ?_
  refine RL.ev rfl rfl ev_move ?_
  have hL_2 := (hb.ext hN.ext0).len_le
  refine RL.ev rfl rfl (ev_lenS Try.underlying22 (hb.ext hN.ext0) rfl) ?_
  refine RL.ev rfl rfl (ev_neq rfl rfl) ?_
  refine RL.nil ?_
  refine thenN ?_
  refine RW.condP _ rfl (fun hne => ?_) (fun hne => ?_)
  · skip
    refine RW.seq ?_
    refine RW.region ?_
    refine RL.ev rfl rfl ev_assign ?_
    refine RL.nil ?_
    refine thenN ?_
    refine RW.ret ?_
    refine thenR ?_
    refine retI (RV.tmp rfl) ?_
    exact ⟨(congrArg Value.bool (decide_eq_false (fun e : ls = ls2 => hne (by rw [hla, hlb, e])))).symm, hN.ext0⟩
  · skip
    refine RW.skip ?_
    refine thenN ?_
    refine RW.seq ?_
    refine RW.seq ?_
    have hxy : hs.length = hs2.length := by omega
    refine RW.region ?_
    refine RL.ev rfl rfl ev_assign ?_
    refine RL.nil ?_
    refine thenN ?_
    refine RW.block ?_
    refine RW.loop (fun k R0 w0' => ∃ i : Nat, R0 0 = a ∧ R0 1 = b ∧ R0 5 = .int .i64 ((i : Int)) ∧ Now w none_ w0' [] ∧ (i + k = hs.length) ∧ (ls.take i = ls2.take i)) (hs.length) ?_ ?_
    · skip
      exact ⟨0, rfl, rfl, rfl, hN, by omega, rfl⟩
    · skip
      clear hN
      rintro k R0 w0' ⟨i, hr0_, hr1_, hr5_, hN, hik, htk⟩
      have hR_ : ∃ R0_, R0 = (upd (upd (upd R0_ 0 _) 1 _) 5 _) := ⟨R0, by rw [upd_self hr0_, upd_self hr1_, upd_self hr5_]⟩
      obtain ⟨R0_, rfl⟩ := hR_
      clear hr0_ hr1_ hr5_
      refine RW.seq ?_
      refine RW.seq ?_
      refine RW.region ?_
      refine RL.ev rfl rfl ev_move ?_
      refine RL.ev rfl rfl ev_move ?_
      refine RL.ev rfl rfl (ev_lenS Try.underlying22 (ha.ext hN.ext0) rfl) ?_
      refine RL.ev rfl rfl (ev_lss rfl rfl) ?_
      refine RL.nil ?_
      refine thenN ?_
      refine RW.condP _ rfl (fun hlt => ?_) (fun hlt => ?_)
      · skip
        refine RW.skip ?_
        refine thenN ?_
        refine RW.seq ?_
        refine RW.block ?_
        refine RW.seq ?_
        refine RW.draw rfl (fun u => Now w none_ u []) ?_
        replace hN := hN.ext (Ext.drew w0')
        refine RA.take (i := 0) rfl rfl (by kernel_rfl) (by kernel_rfl) (by kernel_rfl) (by intro _ _ _ h; exact h) rfl hN (fun w hS => ev_move) ?_
        refine RA.take (i := 1) rfl rfl (by kernel_rfl) (by kernel_rfl) (by kernel_rfl) (by intro _ _ _ h; exact h) rfl hN (fun w hS => ev_move) ?_
        refine RA.take (i := 2) rfl rfl (by kernel_rfl) (by kernel_rfl) (by kernel_rfl) (by intro _ _ _ h; exact h) rfl hN (fun w hS => (ev_index Try.underlying22 sz23 (ha.ext hS.ext0) rfl rfl (by omega) (by omega))) ?_
        obtain ⟨ap, hap⟩ : ∃ a_, (hs)[i]? = some a_ := ⟨_, List.getElem?_eq_getElem (by omega)⟩
        obtain ⟨lp, hlp⟩ : ∃ l_, (ls)[i]? = some l_ := ⟨_, List.getElem?_eq_getElem (by have := hea.1; omega)⟩
        refine RA.take (i := 3) rfl rfl (by kernel_rfl) (by kernel_rfl) (by kernel_rfl) (by intro _ _ _ h; exact h) rfl hN (fun w hS => (ev_loadG (m := i) (a := ap) Try.underlying23 rfl (ha.ext hS.ext0) rfl hap)) ?_
        refine RA.take (i := 4) rfl rfl (by kernel_rfl) (by kernel_rfl) (by kernel_rfl) (by intro _ _ _ h; exact h) rfl hN (fun w hS => (ev_toStr Try.underlying23 Try.underlying5 Try.underlying9 ((hea.2 _ _ _ hap hlp).1.ext hS.ext0) rfl)) ?_
        refine RA.take (i := 5) rfl rfl (by kernel_rfl) (by kernel_rfl) (by kernel_rfl) (by intro _ _ _ h; exact h) rfl hN (fun w hS => ev_move) ?_
        refine RA.take (i := 6) rfl rfl (by kernel_rfl) (by kernel_rfl) (by kernel_rfl) (by intro _ _ _ h; exact h) rfl hN (fun w hS => ev_move) ?_
        refine RA.take (i := 7) rfl rfl (by kernel_rfl) (by kernel_rfl) (by kernel_rfl) (by intro _ _ _ h; exact h) rfl hN (fun w hS => (ev_index Try.underlying22 sz23 (hb.ext hS.ext0) rfl rfl (by omega) (by omega))) ?_
        obtain ⟨aq, haq⟩ : ∃ a_, (hs2)[i]? = some a_ := ⟨_, List.getElem?_eq_getElem (by omega)⟩
        obtain ⟨lq, hlq⟩ : ∃ l_, (ls2)[i]? = some l_ := ⟨_, List.getElem?_eq_getElem (by have := heb.1; omega)⟩
        refine RA.take (i := 8) rfl rfl (by kernel_rfl) (by kernel_rfl) (by kernel_rfl) (by intro _ _ _ h; exact h) rfl hN (fun w hS => (ev_loadG (m := i) (a := aq) Try.underlying23 rfl (hb.ext hS.ext0) rfl haq)) ?_
        refine RA.take (i := 9) rfl rfl (by kernel_rfl) (by kernel_rfl) (by kernel_rfl) (by intro _ _ _ h; exact h) rfl hN (fun w hS => (ev_toStr Try.underlying23 Try.underlying5 Try.underlying9 ((heb.2 _ _ _ haq hlq).1.ext hS.ext0) rfl)) ?_
        refine RA.take (i := 10) rfl rfl (by kernel_rfl) (by kernel_rfl) (by kernel_rfl) (by intro _ _ _ h; exact h) rfl hN (fun w hS => (ev_strNe rfl rfl)) ?_
        refine RA.done (by kernel_rfl) ?_
        refine thenN ?_
        refine RW.condP _ rfl (fun hne2 => ?_) (fun hne2 => ?_)
        · skip
          refine RW.seq ?_
          refine RW.region ?_
          refine RL.ev rfl rfl ev_assign ?_
          refine RL.nil ?_
          refine thenN ?_
          refine RW.ret ?_
          refine blockR ?_
          refine thenR ?_
          refine thenR ?_
          refine blockR ?_
          refine thenR ?_
          refine retI (RV.tmp rfl) ?_
          exact ⟨(congrArg Value.bool (decide_eq_false (fun e : ls = ls2 => hne2 (by subst e; rw [hlp] at hlq; exact Option.some.inj hlq)))).symm, hN.ext0⟩
        · skip
          refine RW.skip ?_
          refine blockN ?_
          refine thenN ?_
          refine RW.region ?_
          refine RL.ev rfl rfl ev_move ?_
          refine RL.ev rfl rfl (ev_arith rfl rfl rfl (add64 (by omega) (by omega))) ?_
          refine RL.ev rfl rfl ev_assign ?_
          refine RL.nil ?_
          refine thenN ?_
          exact ⟨k - 1, by omega, i + 1, rfl, rfl, rfl, hN, by omega, by rw [List.take_add_one, List.take_add_one, hlp, hlq, htk, Decidable.not_not.1 hne2]⟩
      · skip
        refine RW.exit ?_
        refine thenX ?_
        refine thenX ?_
        refine blockHit ?_
        refine thenN ?_
        refine RW.seq ?_
        refine RW.region ?_
        refine RL.ev rfl rfl ev_assign ?_
        refine RL.nil ?_
        refine thenN ?_
        refine RW.ret ?_
        refine retI (RV.tmp rfl) ?_
        rw [List.take_of_length_le (by omega), List.take_of_length_le (by omega)] at htk
        exact ⟨(congrArg Value.bool (decide_eq_true htk)).symm, hN.ext0⟩

theorem sameLists_true {a b : Value} {hs hs2 : List Hd} {ls ls2 : List (List UInt8)} {w : World} (ha : Sl vh w a hs) (hea : Els none_ vb w hs ls) (hb : Sl vh w b hs2) (heb : Els none_ vb w hs2 ls2) (h : ls = ls2) :
    Gives Try.prog 10 #[a, b] w fun r w' => r = .bool true ∧ Ext w w' :=
  (sameLists_calls a b hs hs2 ls ls2 w ha hea hb heb).mono fun r w' hr => by rw [decide_eq_true h] at hr; exact hr

set_option maxHeartbeats 4000000 in
set_option maxRecDepth 100000 in
/-- postroad/image.Join -/
theorem join_calls (v : Value) (hs : List Hd) (ls : List (List UInt8)) (w : World) (hv : Sl vh w v hs) (hel : Els none_ vb w hs ls) (hsz : massB ls ≤ 140737488351232) : Gives Try.prog 6 #[v] w fun r w' => Own vb 5 w' w.heap.size r (joinB ls) ∧ Ext w w' := by
  refine Gives.start Try.func6 rfl (Nat.le_of_ble_eq_true rfl) ?_
  rw [args1]
  have hN := Now.nil w none_
  have hl0 := hel.1
  have hm8 := massB_len ls
  refine RW.seq ?_
  refine RW.region ?_
  refine RL.ev rfl rfl ev_assign ?_
  refine RL.nil ?_
  refine thenN ?_
  refine RW.seq ?_
  refine RW.region ?_
  refine RL.ev rfl rfl ev_assign ?_
  refine RL.nil ?_
  refine thenN ?_
  refine RW.seq ?_
  refine RW.seq ?_
  refine RW.region ?_
  refine RL.ev rfl rfl ev_move ?_
  have hL_1 := (hv.ext hN.ext0).len_le
  refine RL.ev rfl rfl (ev_lenS Try.underlying22 (hv.ext hN.ext0) rfl) ?_
  refine RL.ev rfl rfl ev_move ?_
  refine RL.nil ?_
  refine thenN ?_
  refine RW.block ?_
  replace hN := hN.addNil vb 5
  refine RW.loop (fun k R0 w0' => ∃ vo : Value, ∃ acc : List UInt8, ∃ i : Nat, R0 3 = vo ∧ R0 6 = v ∧ R0 7 = .int .i64 ((hs.length : Int)) ∧ R0 8 = .int .i64 ((i : Int)) ∧ Now w none_ w0' [.own vb 5 (vo) (acc)] ∧ (i + k = hs.length) ∧ (acc = joinB (ls.take i))) (hs.length) ?_ ?_
  · skip
    exact ⟨.slice none 0 0, [], 0, rfl, rfl, rfl, rfl, hN, by omega, rfl⟩
  · skip
    clear hN
    rintro k R0 w0' ⟨vo, acc, i, hr3_, hr6_, hr7_, hr8_, hN, hik, hacc⟩
    have hR_ : ∃ R0_, R0 = (upd (upd (upd (upd R0_ 3 _) 6 _) 7 _) 8 _) := ⟨R0, by rw [upd_self hr3_, upd_self hr6_, upd_self hr7_, upd_self hr8_]⟩
    obtain ⟨R0_, rfl⟩ := hR_
    clear hr3_ hr6_ hr7_ hr8_
    refine RW.seq ?_
    refine RW.region ?_
    refine RL.ev rfl rfl (ev_lss rfl rfl) ?_
    refine RL.nil ?_
    refine thenN ?_
    refine RW.seq ?_
    refine RW.condP _ rfl (fun hlt => ?_) (fun hlt => ?_)
    · skip
      refine RW.skip ?_
      refine thenN ?_
      refine RW.seq ?_
      refine RW.block ?_
      refine RW.seq ?_
      refine RW.region ?_
      refine RL.ev rfl rfl (ev_index Try.underlying22 sz23 (hv.ext hN.ext0) rfl rfl (by omega) (by omega)) ?_
      obtain ⟨ap, hap⟩ : ∃ a_, (hs)[i]? = some a_ := ⟨_, List.getElem?_eq_getElem (by omega)⟩
      obtain ⟨lp, hlp⟩ : ∃ l_, (ls)[i]? = some l_ := ⟨_, List.getElem?_eq_getElem (by have := hel.1; omega)⟩
      refine RL.ev rfl rfl (ev_loadG (m := i) (a := ap) Try.underlying23 rfl (hv.ext hN.ext0) rfl hap) ?_
      have hjs := joinB_snoc hlp
      have hmt := massB_take hlp
      have hml := massB_le ls (i + 1)
      have hjl := joinB_length (ls.take i)
      have hal : acc.length = massB (ls.take i) := by rw [hacc, hjl]
      refine RL.ev rfl rfl ev_assign ?_
      refine RL.nil ?_
      refine thenN ?_
      refine RW.region ?_
      refine RL.ev rfl rfl ev_move ?_
      refine RL.ev rfl rfl ev_move ?_
      refine RL.op rfl rfl (op_call1 Try.func13 rfl rfl rfl ((wrap_calls _ lp _ ((hel.2 _ _ _ hap hlp).1.ext hN.ext0) (by (try simp only [List.length_append, List.length_take, List.length_drop, putInts_length, putText_length, put_length, wrapB_length, List.length_nil, List.length_cons]); omega)).mono ?_))
      rintro v3 w3 ⟨ho_, he_⟩
      have hN_ := hN.pushOwn (l := wrapB lp) ho_ he_
      clear ho_ he_
      clear hN
      have hN : Now w none_ w3 [_, _] := hN_
      clear hN_
      refine RL.ev rfl rfl (ev_toStr Try.underlying23 Try.underlying5 Try.underlying9 (hN.sl 0 rfl) rfl) ?_
      refine RL.op rfl rfl (op_call1 Try.func12 rfl rfl rfl ((text_calls (wrapB lp) _ (by (try simp only [List.length_append, List.length_take, List.length_drop, putInts_length, putText_length, put_length, wrapB_length, List.length_nil, List.length_cons]); omega)).mono ?_))
      rintro v4 w4 ⟨ho_, he_⟩
      have hN_ := hN.pushOwn (l := putText (wrapB lp)) ho_ he_
      clear ho_ he_
      clear hN
      have hN : Now w none_ w4 [_, _, _] := hN_
      clear hN_
      refine RL.op rfl rfl (opN_append Try.underlying23 inf5 rfl vb_one hN 2 rfl rfl (hN.sl 0 rfl) rfl (by rw [putText_length, wrapB_length]; omega) (by decide) ?_)
      intro v5 w5 hN_
      clear hN
      have hN : Now w none_ w5 [_, _, _] := hN_
      clear hN_
      refine RL.ev rfl rfl ev_assign ?_
      refine RL.nil ?_
      refine blockN ?_
      refine thenN ?_
      refine RW.region ?_
      refine RL.ev rfl rfl (ev_arith rfl rfl rfl (add64 (by omega) (by omega))) ?_
      refine RL.ev rfl rfl ev_move ?_
      refine RL.nil ?_
      refine thenN ?_
      exact ⟨k - 1, by omega, v5, acc ++ (putText (wrapB lp)), i + 1, rfl, rfl, rfl, rfl, (hN.sub [2] (by decide) rfl), by omega, by rw [hjs, hacc]⟩
    · skip
      refine RW.exit ?_
      refine thenX ?_
      refine thenX ?_
      refine blockHit ?_
      refine thenN ?_
      refine RW.seq ?_
      refine RW.region ?_
      refine RL.ev rfl rfl ev_move ?_
      refine RL.ev rfl rfl ev_assign ?_
      refine RL.nil ?_
      refine thenN ?_
      refine RW.ret ?_
      refine retI (RV.tmp rfl) ?_
      exact ⟨(hN.ownOut 0 rfl).relist (by rw [hacc, List.take_of_length_le (by omega)]), hN.ext0⟩

set_option maxHeartbeats 4000000 in
set_option maxRecDepth 100000 in
/-- postroad/postroadref17.Join -/
theorem refJoin_calls (v : Value) (hs : List Hd) (ls : List (List UInt8)) (w : World) (hv : Sl vh w v hs) (hel : Els none_ vb w hs ls) (hsz : massB ls ≤ 140737488351232) : Gives Try.prog 9 #[v] w fun r w' => Own vb 5 w' w.heap.size r (joinB ls) ∧ Ext w w' := by
  refine Gives.start Try.func9 rfl (Nat.le_of_ble_eq_true rfl) ?_
  rw [args1]
  have hN := Now.nil w none_
  have hl0 := hel.1
  have hm8 := massB_len ls
  refine RW.seq ?_
  refine RW.region ?_
  refine RL.ev rfl rfl ev_assign ?_
  refine RL.nil ?_
  refine thenN ?_
  refine RW.seq ?_
  refine RW.region ?_
  refine RL.ev rfl rfl ev_assign ?_
  refine RL.nil ?_
  refine thenN ?_
  refine RW.seq ?_
  refine RW.seq ?_
  refine RW.region ?_
  refine RL.ev rfl rfl ev_assign ?_
  refine RL.nil ?_
  refine thenN ?_
  refine RW.block ?_
  replace hN := hN.addNil vb 5
  refine RW.loop (fun k R0 w0' => ∃ vo : Value, ∃ acc : List UInt8, ∃ i : Nat, R0 0 = v ∧ R0 3 = vo ∧ R0 4 = .int .i64 ((i : Int)) ∧ Now w none_ w0' [.own vb 5 (vo) (acc)] ∧ (i + k = hs.length) ∧ (acc = joinB (ls.take i))) (hs.length) ?_ ?_
  · skip
    exact ⟨.slice none 0 0, [], 0, rfl, rfl, rfl, hN, by omega, rfl⟩
  · skip
    clear hN
    rintro k R0 w0' ⟨vo, acc, i, hr0_, hr3_, hr4_, hN, hik, hacc⟩
    have hR_ : ∃ R0_, R0 = (upd (upd (upd R0_ 0 _) 3 _) 4 _) := ⟨R0, by rw [upd_self hr0_, upd_self hr3_, upd_self hr4_]⟩
    obtain ⟨R0_, rfl⟩ := hR_
    clear hr0_ hr3_ hr4_
    refine RW.seq ?_
    refine RW.seq ?_
    refine RW.region ?_
    refine RL.ev rfl rfl ev_move ?_
    refine RL.ev rfl rfl ev_move ?_
    have hL_2 := (hv.ext hN.ext0).len_le
    refine RL.ev rfl rfl (ev_lenS Try.underlying22 (hv.ext hN.ext0) rfl) ?_
    refine RL.ev rfl rfl (ev_lss rfl rfl) ?_
    refine RL.nil ?_
    refine thenN ?_
    refine RW.condP _ rfl (fun hlt => ?_) (fun hlt => ?_)
    · skip
      refine RW.skip ?_
      refine thenN ?_
      refine RW.seq ?_
      refine RW.block ?_
      refine RW.region ?_
      refine RL.ev rfl rfl ev_move ?_
      refine RL.ev rfl rfl ev_move ?_
      refine RL.ev rfl rfl ev_move ?_
      refine RL.ev rfl rfl (ev_index Try.underlying22 sz23 (hv.ext hN.ext0) rfl rfl (by omega) (by omega)) ?_
      obtain ⟨ap, hap⟩ : ∃ a_, (hs)[i]? = some a_ := ⟨_, List.getElem?_eq_getElem (by omega)⟩
      obtain ⟨lp, hlp⟩ : ∃ l_, (ls)[i]? = some l_ := ⟨_, List.getElem?_eq_getElem (by have := hel.1; omega)⟩
      refine RL.ev rfl rfl (ev_loadG (m := i) (a := ap) Try.underlying23 rfl (hv.ext hN.ext0) rfl hap) ?_
      have hjs := joinB_snoc hlp
      have hmt := massB_take hlp
      have hml := massB_le ls (i + 1)
      have hjl := joinB_length (ls.take i)
      have hal : acc.length = massB (ls.take i) := by rw [hacc, hjl]
      refine RL.op rfl rfl (op_call1 Try.func17 rfl rfl rfl ((refWrap_calls _ lp _ ((hel.2 _ _ _ hap hlp).1.ext hN.ext0) (by (try simp only [List.length_append, List.length_take, List.length_drop, putInts_length, putText_length, put_length, wrapB_length, List.length_nil, List.length_cons]); omega)).mono ?_))
      rintro v3 w3 ⟨ho_, he_⟩
      have hN_ := hN.pushOwn (l := wrapB lp) ho_ he_
      clear ho_ he_
      clear hN
      have hN : Now w none_ w3 [_, _] := hN_
      clear hN_
      refine RL.ev rfl rfl (ev_toStr Try.underlying23 Try.underlying5 Try.underlying9 (hN.sl 0 rfl) rfl) ?_
      refine RL.op rfl rfl (op_call1 Try.func16 rfl rfl rfl ((refText_calls (wrapB lp) _ (by (try simp only [List.length_append, List.length_take, List.length_drop, putInts_length, putText_length, put_length, wrapB_length, List.length_nil, List.length_cons]); omega)).mono ?_))
      rintro v4 w4 ⟨ho_, he_⟩
      have hN_ := hN.pushOwn (l := putText (wrapB lp)) ho_ he_
      clear ho_ he_
      clear hN
      have hN : Now w none_ w4 [_, _, _] := hN_
      clear hN_
      refine RL.op rfl rfl (opN_append Try.underlying23 inf5 rfl vb_one hN 2 rfl rfl (hN.sl 0 rfl) rfl (by rw [putText_length, wrapB_length]; omega) (by decide) ?_)
      intro v5 w5 hN_
      clear hN
      have hN : Now w none_ w5 [_, _, _] := hN_
      clear hN_
      refine RL.ev rfl rfl ev_assign ?_
      refine RL.nil ?_
      refine blockN ?_
      refine thenN ?_
      refine RW.region ?_
      refine RL.ev rfl rfl ev_move ?_
      refine RL.ev rfl rfl (ev_arith rfl rfl rfl (add64 (by omega) (by omega))) ?_
      refine RL.ev rfl rfl ev_assign ?_
      refine RL.nil ?_
      refine thenN ?_
      exact ⟨k - 1, by omega, v5, acc ++ (putText (wrapB lp)), i + 1, rfl, rfl, rfl, (hN.sub [2] (by decide) rfl), by omega, by rw [hjs, hacc]⟩
    · skip
      refine RW.exit ?_
      refine thenX ?_
      refine thenX ?_
      refine blockHit ?_
      refine thenN ?_
      refine RW.seq ?_
      refine RW.region ?_
      refine RL.ev rfl rfl ev_move ?_
      refine RL.ev rfl rfl ev_assign ?_
      refine RL.nil ?_
      refine thenN ?_
      refine RW.ret ?_
      refine retI (RV.tmp rfl) ?_
      exact ⟨(hN.ownOut 0 rfl).relist (by rw [hacc, List.take_of_length_le (by omega)]), hN.ext0⟩

end Go.Proofs.Ytngkdkbpgoddlaa
