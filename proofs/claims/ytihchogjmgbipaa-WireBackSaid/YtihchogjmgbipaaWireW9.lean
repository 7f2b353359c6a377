import Derived.Test.YtihchogjmgbipaaWireW7
import Derived.Test.YtihchogjmgbipaaWirePlain5
set_option linter.unusedVariables false
set_option linter.unusedSimpArgs false
namespace Go.Proofs.Ytihchogjmgbipaa
open Go.RowKit Go.Rl

open Go.Codec
def encF (x : Value × List UInt8 × Int) : Array Value := #[x.1, .int .i64 x.2.2]
def RdF (F : Nat → Prop) (x : Value × List UInt8 × Int) (w : World) : Prop := Sl vb w x.1 x.2.1 ∧ Off F x.1 x.2.1

set_option maxHeartbeats 4000000 in
set_option maxRecDepth 100000 in
/-- postroad/wire.whole$1 -/
theorem whole1_calls {σ : Type} (l : Nat) (C : Bool → σ → Atom) (T : σ → (Value × List UInt8 × Int) → Bool → σ → Prop) (s0 : σ) {F : Nat → Prop} (gb : Nat) (v : Value) (d : List UInt8) (w : World)
    (hY : YSpec Try.prog l C T Prod.snd s0 (wholeR d) RdF encF) (hN : Now w F w [C true s0, .blk gb [v] 23, .sl vb v d]) (hd : d.length ≤ 140737488351232) : Gives Try.prog 50 #[.func (.yield l) #[] #[], .pointer (some ⟨gb, 0, none⟩)] w fun _ w' => ∃ s', (Run T Prod.snd s0 (wholeR d) s' ∧ Now w F w' [C true s']) ∨ (Stop T Prod.snd s0 (wholeR d) s' ∧ Now w F w' [C false s']) := by
  refine Gives.startX Try.func50 rfl (Nat.le_of_ble_eq_true rfl) ?_
  rw [args2]
  refine XW.block ?_
  refine XW.loop (fun k R0 w0' => ∃ vi : Value, ∃ di : List UInt8, ∃ si : σ, ∃ pi : List (List UInt8 × Int), R0 0 = .func (.yield l) #[] #[] ∧ R0 1 = .pointer (some ⟨gb, 0, none⟩) ∧ Now w F w0' [C true si, .blk gb [vi] 23, .sl vb (vi) (di)] ∧ (di.length < k) ∧ (di.length ≤ 140737488351232) ∧ (Run T Prod.snd s0 pi si) ∧ (wholeR d = pi ++ wholeR di)) (d.length + 1) ?_ ?_
  · skip
    exact ⟨v, d, s0, [], rfl, rfl, hN, by omega, by omega, .nil, rfl⟩
  · skip
    clear hN
    rintro k R0 w0' ⟨vi, di, si, pi, hr0_, hr1_, hN, hk, hdl, hrun, hxs⟩
    have hR_ : ∃ R0_, R0 = (upd (upd R0_ 0 _) 1 _) := ⟨R0, by rw [upd_self hr0_, upd_self hr1_]⟩
    obtain ⟨R0_, rfl⟩ := hR_
    clear hr0_ hr1_
    refine XW.seq ?_
    refine XW.seq ?_
    refine XW.region rfl ?_
    refine RL.ev rfl rfl (ev_loadB Try.underlying23 rfl rfl (hN.blk 1 rfl) rfl) ?_
    have hL_1 := (hN.slr 2 rfl).len_le
    refine RL.ev rfl rfl (ev_lenS Try.underlying23 (hN.slr 2 rfl) rfl) ?_
    refine RL.ev rfl rfl (ev_geq rfl rfl) ?_
    refine RL.nil ?_
    refine onlyNi ?_
    refine xthenN ?_
    refine XW.condP _ rfl (fun h4 => ?_) (fun h4 => ?_)
    · skip
      refine XW.skip ?_
      refine xthenN ?_
      refine XW.block ?_
      refine XW.seq ?_
      refine XW.region rfl ?_
      refine RL.ev rfl rfl (ev_loadB Try.underlying23 rfl rfl (hN.blk 1 rfl) rfl) ?_
      refine RL.op rfl rfl (op_call1 Try.func32 rfl rfl rfl ((new_calls _ di _ (hN.slr 2 rfl) (by omega)).mono ?_))
      rintro _ w2 ⟨g2, rfl, hr_, he_⟩
      have hN_ := rdrPush hN hr_ he_
      clear hr_ he_
      generalize hlo2 : (w0').heap.size = lo2 at hN_
      generalize hhi2 : (w2).heap.size = hi2 at hN_
      clear hN
      have hN : Now w F w2 [_, _, _, _] := hN_
      clear hN_
      refine RL.op rfl rfl (op_call2 Try.func33 rfl rfl rfl rfl ((num_at (Rdr.says hN 0 rfl) (show clip 4 = 4 from rfl) (eta (numR (di, 0) 4))).mono ?_))
      rintro _ w3 ⟨rfl, hr_, hm_, _⟩
      have hN_ := rdrStep hN 0 rfl hr_ hm_
      clear hr_ hm_
      clear hN
      have hN : Now w F w3 [_, _, _, _] := hN_
      clear hN_
      refine RL.ev rfl rfl ev_assign ?_
      have hnl := numR_lt32 (di, 0)
      refine RL.nil ?_
      refine onlyNi ?_
      refine xthenN ?_
      refine XW.seq ?_
      refine XW.seq ?_
      refine XW.region rfl ?_
      refine RL.ev rfl rfl ev_move ?_
      refine RL.ev rfl rfl (ev_gtr rfl rfl) ?_
      refine RL.nil ?_
      refine onlyNi ?_
      refine xthenN ?_
      refine XW.condP _ rfl (fun hb => ?_) (fun hb => ?_)
      · skip
        skip
        refine XW.seq ?_
        refine XW.regionY ?_
        refine XL.ev rfl rfl rfl ev_move ?_
        refine XL.op rfl rfl (opX_yield2 rfl rfl rfl ((hY _ (.slice none 0 0, [], -1) _ _ _ hrun (hxs.trans (congrArg (pi ++ ·) (whole_big (by omega) (by unfold n4; omega)))) (hN.pickL (M := [_]) [1] (by decide) rfl) ⟨Sl.nil _ _, fun h => absurd rfl h⟩).mono ?_))
        rintro _ w4 ⟨yb, ys, rfl, hyT, hC_⟩
        have hN_ := Now.callA (M := [_]) (N := [_, _, _]) (hN.sub [1, 0, 2, 3] (by decide) rfl) hC_
        clear hC_
        clear hN
        have hN : Now w F w4 [_, _, _, _] := hN_
        clear hN_
        refine XL.nil ?_
        refine xthenN ?_
        refine XW.ret ?_
        refine xthenR ?_
        refine xblockR ?_
        refine xthenR ?_
        refine xblockR ?_
        refine xretI (RV.zero rfl) ?_
        have hx := hxs.trans (congrArg (pi ++ ·) (whole_big (by omega) (by unfold n4; omega)))
        cases yb
        · exact ⟨_, .inr ⟨⟨_, (.slice none 0 0, [], -1), [], _, hrun, hx, hyT⟩, hN.sub [0] (by decide) rfl⟩⟩
        · exact ⟨_, .inl ⟨by rw [hx]; exact .snoc (x := (.slice none 0 0, [], -1)) hrun hyT, hN.sub [0] (by decide) rfl⟩⟩
      · skip
        refine XW.skip ?_
        refine xthenN ?_
        refine XW.seq ?_
        refine XW.region rfl ?_
        refine RL.ev rfl rfl ev_move ?_
        refine RL.ev rfl rfl (ev_conv Try.underlying39 Try.underlying3 rfl (wr_i64 (by omega) (by omega))) ?_
        refine RL.ev rfl rfl (ev_arith rfl rfl rfl (show IntKind.i64.wrap (4 + ((numR (di, 0) 4).2 : Int)) = ((4 + (numR (di, 0) 4).2 : Nat) : Int) from (wr_i64 (by omega) (by omega)).trans (by omega))) ?_
        refine RL.ev rfl rfl ev_assign ?_
        refine RL.nil ?_
        refine onlyNi ?_
        refine xthenN ?_
        refine XW.seq ?_
        refine XW.seq ?_
        refine XW.regionY ?_
        refine XL.ev rfl rfl rfl ev_move ?_
        refine XL.ev rfl rfl rfl (ev_loadB Try.underlying23 rfl rfl (hN.blk 2 rfl) rfl) ?_
        refine XL.ev rfl rfl rfl (ev_lenS Try.underlying23 (hN.slr 3 rfl) rfl) ?_
        refine XL.ev rfl rfl rfl (ev_gtr rfl rfl) ?_
        refine XL.ev rfl rfl rfl ev_move ?_
        by_cases hs : (di.length : Int) < ((4 + (numR (di, 0) 4).2 : Nat) : Int)
        · skip
          rw [decide_eq_true hs]
          refine XL.off rfl rfl (by decide) rfl rfl ?_
          refine XL.off rfl rfl (by decide) rfl rfl ?_
          refine XL.off rfl rfl (by decide) rfl rfl ?_
          refine XL.off rfl rfl (by decide) rfl rfl ?_
          refine XL.off rfl rfl (by decide) rfl rfl ?_
          refine XL.off rfl rfl (by decide) rfl rfl ?_
          refine XL.off rfl rfl (by decide) rfl rfl ?_
          refine XL.ev rfl rfl rfl (ev_pickT rfl) ?_
          refine XL.nil ?_
          refine xthenN ?_
          refine XW.condT rfl ?_
          refine XW.ret ?_
          refine xthenR ?_
          refine xblockR ?_
          refine xthenR ?_
          refine xblockR ?_
          refine xretI (RV.zero rfl) ?_
          have hx := hxs.trans (congrArg (pi ++ ·) (whole_short (by omega) (by unfold n4; omega) (by unfold n4; omega)))
          rw [List.append_nil] at hx
          exact ⟨_, .inl ⟨hx ▸ hrun, hN.sub [1] (by decide) rfl⟩⟩
        · skip
          rw [decide_eq_false hs]
          refine XL.onEv rfl rfl (by decide) rfl rfl rfl ev_move ?_
          refine XL.onEv rfl rfl (by decide) rfl rfl rfl (ev_loadB Try.underlying23 rfl rfl (hN.blk 2 rfl) rfl) ?_
          refine XL.onEv rfl rfl (by decide) rfl rfl rfl ev_move ?_
          refine XL.onEv rfl rfl (by decide) rfl rfl rfl (ev_cut Try.underlying23 sz5 (hN.slr 3 rfl) rfl rfl rfl (by omega) (by omega) (by omega)) ?_
          refine XL.onEv rfl rfl (by decide) rfl rfl rfl ev_move ?_
          refine XL.on rfl rfl (by decide) rfl rfl (opX_yield2 rfl rfl rfl ((hY _ ((cutV vi 4 (4 + (numR (di, 0) 4).2)), ((di.take (4 + (numR (di, 0) 4).2)).drop 4), ((4 + (numR (di, 0) 4).2 : Nat) : Int)) _ _ _ hrun (hxs.trans (congrArg (pi ++ ·) (whole_cons (by omega) (by unfold n4; omega) (by unfold n4; omega)))) (hN.pickL (M := [_]) [1] (by decide) rfl) ⟨((hN.slr 3 rfl).cut (by omega) (by omega)), hN.offB (M := [_]) [1] rfl 3 rfl rfl (fun k hk => by rwa [cutV_block (hN.slr 3 rfl)] at hk)⟩).mono ?_))
          rintro _ w5 ⟨yb, ys, rfl, hyT, hC_⟩
          have hN_ := Now.callA (M := [_]) (N := [_, _, _]) (hN.sub [1, 0, 2, 3] (by decide) rfl) hC_
          clear hC_
          clear hN
          have hN : Now w F w5 [_, _, _, _] := hN_
          clear hN_
          cases yb
          · skip
            refine XL.onEv rfl rfl (by decide) rfl rfl rfl (ev_not rfl) ?_
            refine XL.ev rfl rfl rfl (ev_pickF rfl) ?_
            refine XL.nil ?_
            refine xthenN ?_
            refine XW.condT rfl ?_
            refine XW.ret ?_
            refine xthenR ?_
            refine xblockR ?_
            refine xthenR ?_
            refine xblockR ?_
            refine xretI (RV.zero rfl) ?_
            exact ⟨_, .inr ⟨⟨_, (cutV vi 4 (4 + (numR (di, 0) 4).2), (di.take (4 + (numR (di, 0) 4).2)).drop 4, ((4 + (numR (di, 0) 4).2 : Nat) : Int)), _, _, hrun, hxs.trans (congrArg (pi ++ ·) (whole_cons (by omega) (by unfold n4; omega) (by unfold n4; omega))), hyT⟩, hN.sub [0] (by decide) rfl⟩⟩
          · skip
            refine XL.onEv rfl rfl (by decide) rfl rfl rfl (ev_not rfl) ?_
            refine XL.ev rfl rfl rfl (ev_pickF rfl) ?_
            refine XL.nil ?_
            refine xthenN ?_
            refine XW.condF rfl ?_
            refine XW.skip ?_
            refine xthenN ?_
            refine XW.region rfl ?_
            refine RL.ev rfl rfl (ev_loadB Try.underlying23 rfl rfl (hN.blk 2 rfl) rfl) ?_
            refine RL.ev rfl rfl ev_move ?_
            refine RL.ev rfl rfl (ev_cutFrom Try.underlying23 sz5 (hN.slr 3 rfl) rfl rfl (by omega) (by omega)) ?_
            refine RL.op rfl rfl (opN_store sz23 rfl rfl ((hN.slr 3 rfl).cutFrom (by omega)).cells1 ((hN.slr 3 rfl).cutFrom (by omega)).one1 hN 2 rfl (Nat.le_of_ble_eq_true rfl) ?_)
            intro w6 hN_
            clear hN
            have hN : Now w F w6 [_, _, _, _] := hN_
            clear hN_
            refine RL.nil ?_
            refine onlyNi ?_
            refine xblockN ?_
            refine xthenN ?_
            replace hN := hN.slFrom 3 rfl (4 + (numR (di, 0) 4).2) (by omega)
            exact ⟨rfl, (di.length - 1), by omega, cutV vi (4 + (numR (di, 0) 4).2) di.length, di.drop (4 + (numR (di, 0) 4).2), ys, pi ++ [((di.take (4 + (numR (di, 0) 4).2)).drop 4, ((4 + (numR (di, 0) 4).2 : Nat) : Int))], rfl, rfl, (hN.sub [0, 2, 3] (by decide) rfl), by simp only [List.length_drop]; omega, by simp only [List.length_drop]; omega, .snoc (x := (cutV vi 4 (4 + (numR (di, 0) 4).2), (di.take (4 + (numR (di, 0) 4).2)).drop 4, ((4 + (numR (di, 0) 4).2 : Nat) : Int))) hrun hyT, by rw [hxs, whole_cons (by omega) (by unfold n4; omega) (by unfold n4; omega), List.append_assoc]; rfl⟩
    · skip
      refine XW.exit ?_
      refine xthenX ?_
      refine xthenX ?_
      refine xblockHit ?_
      refine xretN (RV.zero rfl) ?_
      rw [whole_nil (d := di) (by omega), List.append_nil] at hxs
      exact ⟨_, .inl ⟨hxs ▸ hrun, hN.sub [0] (by decide) rfl⟩⟩

theorem whole_iter (gb : Nat) (v : Value) (d : List UInt8) (hd : d.length ≤ 140737488351232) : IterAt Try.prog 50 #[.pointer (some ⟨gb, 0, none⟩)] [.blk gb [v] 23, .sl vb v d] Prod.snd encF RdF (wholeR d) := by
  intro σ l C T s0 w0 w F hY hN
  have h1 := hN.pickL (M := [_, _, _]) [0, 1, 2] (by decide) rfl
  refine (whole1_calls l C T s0 gb v d w hY h1 hd).mono ?_
  rintro _ w' ⟨s', ⟨hr, h2⟩ | ⟨hr, h2⟩⟩
  · exact ⟨s', .inl ⟨hr, Now.callA (M := [_, _, _]) (N := []) hN h2⟩⟩
  · exact ⟨s', .inr ⟨hr, Now.callA (M := [_, _, _]) (N := []) hN h2⟩⟩

set_option maxHeartbeats 4000000 in
set_option maxRecDepth 100000 in
/-- postroad/wire.whole -/
theorem whole_calls (v : Value) (d : List UInt8) (w : World) (hv : Sl vb w v d) : Gives Try.prog 28 #[v] w fun r w' => ∃ g, r = .func (.func 50) #[] #[.pointer (some ⟨g, 0, none⟩)] ∧ Now w none_ w' [.blk g [v] 23] := by
  refine Gives.start Try.func28 rfl (Nat.le_of_ble_eq_true rfl) ?_
  rw [args1]
  have hN := Now.nil w none_
  refine RW.seq ?_
  refine RW.region ?_
  refine RL.op rfl rfl (opN_box (cs := [v]) rfl (hv.ext hN.ext0).cells1 hN ?_)
  intro g1 w1 hN_
  clear hN
  have hN : Now w none_ w1 [_] := hN_
  clear hN_
  refine RL.ev rfl rfl ev_assign ?_
  refine RL.nil ?_
  refine thenN ?_
  refine RW.seq ?_
  refine RW.region ?_
  refine RL.ev rfl rfl (ev_makeFuncL (vs := [.pointer (some ⟨g1, 0, none⟩)]) (xs := [.tmp 1]) rfl rfl) ?_
  refine RL.ev rfl rfl ev_assign ?_
  refine RL.nil ?_
  refine thenN ?_
  refine RW.ret ?_
  refine retI (RV.tmp rfl) ?_
  exact ⟨_, rfl, hN⟩

set_option maxHeartbeats 4000000 in
set_option maxRecDepth 100000 in
/-- postroad/wire.Frames -/
theorem frames_calls (v : Value) (b : List UInt8) (w : World) (hv : Sl vb w v b) (hb : b.length ≤ 1099511627776) : Gives Try.prog 11 #[v] w fun r w' => ∃ v' hs', r = .tuple #[v', .int .i64 (framesR b).2.1, .int .i64 (framesR b).2.2] ∧ Now w none_ w' [.own vh 23 v' hs', .fam vb hs' (framesR b).1] := by
  refine Gives.startX Try.func11 rfl (Nat.le_of_ble_eq_true rfl) ?_
  rw [args1]
  have hN := Now.nil w none_
  refine XW.seq ?_
  refine XW.region rfl ?_
  refine RL.op rfl rfl (opN_alloc (cs := [.slice none 0 0]) zero22 rfl hN ?_)
  intro g1 w1 hN_
  clear hN
  have hN : Now w none_ w1 [_] := hN_
  clear hN_
  refine RL.op rfl rfl (opN_alloc (cs := [.int .i64 (0)]) zero3 rfl hN ?_)
  intro g2 w2 hN_
  clear hN
  have hN : Now w none_ w2 [_, _] := hN_
  clear hN_
  refine RL.op rfl rfl (opN_alloc (cs := [.int .i64 (0)]) zero25 rfl hN ?_)
  intro g3 w3 hN_
  clear hN
  have hN : Now w none_ w3 [_, _, _] := hN_
  clear hN_
  refine RL.nil ?_
  refine onlyNi ?_
  refine xthenN ?_
  refine XW.seq ?_
  refine XW.region rfl ?_
  refine RL.op rfl rfl (opN_alloc (cs := [.slice none 0 0]) zero22 rfl hN ?_)
  intro g4 w4 hN_
  clear hN
  have hN : Now w none_ w4 [_, _, _, _] := hN_
  clear hN_
  refine RL.nil ?_
  refine onlyNi ?_
  refine xthenN ?_
  refine XW.seq ?_
  refine XW.region rfl ?_
  refine RL.op rfl rfl (opN_alloc (cs := [.int .i64 (0)]) zero3 rfl hN ?_)
  intro g5 w5 hN_
  clear hN
  have hN : Now w none_ w5 [_, _, _, _, _] := hN_
  clear hN_
  refine RL.op rfl rfl (opN_store sz3 rfl rfl rfl rfl hN 0 rfl (Nat.le_of_ble_eq_true rfl) ?_)
  intro w6 hN_
  clear hN
  have hN : Now w none_ w6 [_, _, _, _, _] := hN_
  clear hN_
  refine RL.nil ?_
  refine onlyNi ?_
  refine xthenN ?_
  refine XW.seq ?_
  refine XW.seq ?_
  refine XW.region rfl ?_
  refine RL.ev rfl rfl ev_move ?_
  replace hN := hN.addNil vb 5
  refine RL.op rfl rfl (opN_append Try.underlying23 inf5 rfl vb_one hN 0 rfl rfl (hv.ext hN.ext0) rfl (by (try simp only [List.length_append, List.length_take, List.length_drop, num8_length, putInts_length, putText_length, put_length, List.flatten_cons, List.flatten_nil, List.length_nil, List.length_cons]); omega) (by decide) ?_)
  intro v7 w7 hN_
  clear hN
  have hN : Now w none_ w7 [_, _, _, _, _, _] := hN_
  clear hN_
  replace hN := hN.relist 0 rfl (show _ = b from List.nil_append _)
  replace hN : Now w none_ w7 [_, _, _, _, _, _] := hN
  refine RL.op rfl rfl (op_call1 Try.func28 rfl rfl rfl ((whole_calls _ (b) _ (hN.sl 0 rfl)).mono ?_))
  rintro _ w8 ⟨g8, rfl, hC_⟩
  have hN_ := hN.call0 hC_
  clear hC_
  clear hN
  have hN : Now w none_ w8 [_, _, _, _, _, _, _] := hN_
  clear hN_
  replace hN := hN.ownSl 1 rfl
  replace hN := (hN.addNil vh 23).famNil vb
  replace hN : Now w none_ w8 [_, _, _, _, _, _, _, _, _] := hN
  refine RL.nil ?_
  refine onlyNi ?_
  refine xthenN ?_
  refine XW.block ?_
  refine XW.range (gf := 50) (lb := #[.pointer (some ⟨g8, 0, none⟩)]) (M := [_, _]) (fun s : FrS => [.blk g1 [s.a] 22, .blk g2 [.int .i64 s.b] 3, .blk g3 [.int .i64 s.c] 25, .blk g4 [s.v] 22, .blk g5 [.int .i64 s.u] 3, .own vh 23 s.v s.hs, .fam vb s.hs s.ls]) FrT ⟨.slice none 0 0, [], [], 0, .slice none 0 0, 0, 0⟩ (hN.sub [8, 7, 6, 5, 4, 1, 0, 2, 3] (by decide) rfl) rfl Try.func50 rfl rfl (whole_iter g8 v7 b (by omega)) (fun _ => rfl) (by decide) ?_ ?_ ?_
  · skip
    clear hN
    rintro l_ D_ rc_ FF ⟨v_, hs_, ls_, u_, a_, b_, c_⟩ ⟨xv, xb, xn⟩ pre_ post_ wr hrun hxs hrd hN
    change XW _ _ _ _ _ _ (upd (upd _ 12 (xv)) 13 (.int .i64 (xn))) _
    replace hN : Now wr FF wr [.obj l_ (.loop (rc_ .ready none)), .obj D_ (.deferred (some [])), .blk g1 [a_] 22, .blk g2 [.int .i64 (b_)] 3, .blk g3 [.int .i64 (c_)] 25, .blk g4 [v_] 22, .blk g5 [.int .i64 (u_)] 3, .own vh 23 (v_) (hs_), .fam vb (hs_) (ls_)] := hN
    have hxv : Sl vb wr xv xb := hrd.1
    have hxo : Off FF xv xb := hrd.2
    have hbd : 0 ≤ u_ ∧ 4 * (ls_.length : Int) ≤ u_ ∧ u_ + xn ≤ b.length ∧ u_ ≤ b.length ∧ xb.length ≤ b.length := fr_bound rfl rfl hrun hxs
    have hfl : hs_.length = ls_.length := (hN.els 8 rfl).1
    refine XW.seq ?_
    refine XW.region rfl ?_
    refine RL.ev rfl rfl ev_assign ?_
    refine RL.nil ?_
    refine onlyNi ?_
    refine xthenN ?_
    refine XW.region rfl ?_
    refine RL.ev rfl rfl ev_assign ?_
    refine RL.nil ?_
    refine onlyNi ?_
    refine assignQi ?_
    intro w9 hN_
    clear hN
    have hN : Now wr FF w9 [.obj l_ (.loop (rc_ .busy none)), .obj D_ (.deferred (some [])), .blk g1 [a_] 22, .blk g2 [.int .i64 (b_)] 3, .blk g3 [.int .i64 (c_)] 25, .blk g4 [v_] 22, .blk g5 [.int .i64 (u_)] 3, .own vh 23 (v_) (hs_), .fam vb (hs_) (ls_)] := hN_
    clear hN_
    refine XW.block ?_
    refine XW.seq ?_
    refine XW.seq ?_
    refine XW.region rfl ?_
    refine RL.ev rfl rfl ev_move ?_
    refine RL.ev rfl rfl (ev_lss rfl rfl) ?_
    refine RL.nil ?_
    refine onlyNi ?_
    refine xthenN ?_
    refine XW.condP _ rfl (fun hneg => ?_) (fun hneg => ?_)
    · skip
      refine XW.seq ?_
      refine XW.draw rfl (by kernel_rfl) (fun u => Now wr FF u [.obj l_ (.loop (rc_ .busy none)), .obj D_ (.deferred (some [])), .blk g4 [v_] 22, .blk g5 [.int .i64 (u_)] 3, .own vh 23 (v_) (hs_), .fam vb (hs_) (ls_)]) ?_
      replace hN := hN.ext (Ext.drew w9)
      refine RA.take (i := 0) rfl rfl (by kernel_rfl) (by kernel_rfl) (by kernel_rfl) (by intro _ _ _ h; exact h) rfl (hN.sub [0, 1, 5, 6, 7, 8] (by decide) rfl) (fun w hS => (ev_loadB Try.underlying22 rfl rfl (hS.blk 2 rfl) rfl)) ?_
      refine RA.take (i := 1) rfl rfl (by kernel_rfl) (by kernel_rfl) (by kernel_rfl) (by intro _ _ _ h; exact h) rfl (hN.sub [0, 1, 5, 6, 7, 8] (by decide) rfl) (fun w hS => (ev_loadB Try.underlying3 rfl rfl (hS.blk 3 rfl) rfl)) ?_
      refine RA.only (i := 2) (by kernel_rfl) rfl rfl rfl (opN_store sz22 rfl rfl (hN.sl 7 rfl).cells1 (hN.sl 7 rfl).one1 hN 2 rfl (Nat.le_of_ble_eq_true rfl) ?_)
      intro w10 hN_
      clear hN
      have hN : Now wr FF w10 [_, _, _, _, _, _, _, _, _] := hN_
      clear hN_
      refine ⟨(hN.sub [0, 1, 5, 6, 7, 8] (by decide) rfl), ?_⟩
      refine RA.only (i := 3) (by kernel_rfl) rfl rfl rfl (opN_store sz3 rfl rfl rfl rfl hN 3 rfl (Nat.le_of_ble_eq_true rfl) ?_)
      intro w11 hN_
      clear hN
      have hN : Now wr FF w11 [_, _, _, _, _, _, _, _, _] := hN_
      clear hN_
      refine ⟨(hN.sub [0, 1, 5, 6, 7, 8] (by decide) rfl), ?_⟩
      refine RA.only (i := 4) (by kernel_rfl) rfl rfl rfl (opN_store sz25 rfl rfl rfl rfl hN 4 rfl (Nat.le_of_ble_eq_true rfl) ?_)
      intro w12 hN_
      clear hN
      have hN : Now wr FF w12 [_, _, _, _, _, _, _, _, _] := hN_
      clear hN_
      refine ⟨(hN.sub [0, 1, 5, 6, 7, 8] (by decide) rfl), ?_⟩
      refine RA.done (by kernel_rfl) ?_
      refine onlyNi ?_
      refine xthenN ?_
      refine XW.ret ?_
      refine xthenR ?_
      refine xblockR ?_
      exact roundQr ⟨v_, hs_, ls_, u_, v_, u_, 3⟩ ⟨by show xn < 0; omega, rfl, rfl, rfl, rfl⟩ (hN.sub [0, 1, 2, 3, 4, 5, 6, 7, 8] (by decide) rfl)
    · skip
      refine XW.skip ?_
      refine xthenN ?_
      refine XW.seq ?_
      refine XW.drawE rfl (by kernel_rfl) (fun u => Now wr FF u [.obj l_ (.loop (rc_ .busy none)), .obj D_ (.deferred (some [])), .blk g1 [a_] 22, .blk g2 [.int .i64 (b_)] 3, .blk g3 [.int .i64 (c_)] 25, .blk g4 [v_] 22, .blk g5 [.int .i64 (u_)] 3, .fam vb (hs_) (ls_)]) 5 ?_
      replace hN := hN.ext (Ext.drew w9)
      refine RE.take (i := 0) rfl (by decide) (by kernel_rfl) rfl (by kernel_rfl) (by kernel_rfl) (by kernel_rfl) (by intro _ _ _ h; exact h) rfl (hN.sub [0, 1, 2, 3, 4, 5, 6, 8] (by decide) rfl) (fun w hS => (ev_loadB Try.underlying22 rfl rfl (hS.blk 5 rfl) rfl)) ?_
      refine RE.take (i := 1) rfl (by decide) (by kernel_rfl) rfl (by kernel_rfl) (by kernel_rfl) (by kernel_rfl) (by intro _ _ _ h; exact h) rfl (hN.sub [0, 1, 2, 3, 4, 5, 6, 8] (by decide) rfl) (fun w hS => ev_move) ?_
      replace hN := hN.addNil vb 5
      refine RE.only (i := 2) (by kernel_rfl) rfl rfl rfl (opN_append Try.underlying23 inf5 rfl vb_one hN 0 rfl rfl (hxv.off hxo hN.mod) rfl (by (try simp only [List.length_append, List.length_take, List.length_drop, num8_length, putInts_length, putText_length, put_length, List.flatten_cons, List.flatten_nil, List.length_nil, List.length_cons]); omega) (by decide) ?_)
      intro v13 w13 hN_
      clear hN
      have hN : Now wr FF w13 [_, _, _, _, _, _, _, _, _, _] := hN_
      clear hN_
      replace hN := hN.relist 0 rfl (show _ = xb from List.nil_append _)
      replace hN : Now wr FF w13 [_, _, _, _, _, _, _, _, _, _] := hN
      refine ⟨(hN.sub [1, 2, 3, 4, 5, 6, 7, 9] (by decide) rfl), ?_⟩
      have hOb_ := (hN.sl 0 rfl).hd
      obtain ⟨h15, hq_⟩ := hOb_
      subst hq_
      refine RE.only (i := 3) (by kernel_rfl) rfl rfl rfl (opN_lit (enc := vh) (l := [h15]) (xs := [.tmp 20]) Try.underlying22 sz23 zr23 rfl rfl (fun _ => rfl) rfl (by decide) (by decide) hN ?_)
      intro g14 w14 hN_
      clear hN
      have hN : Now wr FF w14 [_, _, _, _, _, _, _, _, _, _, _] := hN_
      clear hN_
      refine ⟨(hN.sub [2, 3, 4, 5, 6, 7, 8, 10] (by decide) rfl), ?_⟩
      refine RE.only (i := 4) (by kernel_rfl) rfl rfl rfl (opN_append Try.underlying22 inf23 rfl vh_one hN 9 rfl rfl (hN.sl 0 rfl) rfl (by (try simp only [List.length_append, List.length_take, List.length_drop, num8_length, putInts_length, putText_length, put_length, List.flatten_cons, List.flatten_nil, List.length_nil, List.length_cons]); omega) (by decide) ?_)
      intro v16 w16 hN_
      clear hN
      have hN : Now wr FF w16 [_, _, _, _, _, _, _, _, _, _, _] := hN_
      clear hN_
      refine ⟨(hN.sub [2, 3, 4, 5, 6, 7, 8, 10] (by decide) rfl), ?_⟩
      refine RE.last (by kernel_rfl) rfl rfl rfl (opN_store sz22 rfl rfl (hN.sl 9 rfl).cells1 (hN.sl 9 rfl).one1 hN 7 rfl (Nat.le_of_ble_eq_true rfl) ?_)
      intro w17 hN_
      clear hN
      have hN : Now wr FF w17 [_, _, _, _, _, _, _, _, _, _, _] := hN_
      clear hN_
      refine RE.done (by kernel_rfl) ?_
      refine onlyNi ?_
      refine xthenN ?_
      refine XW.region rfl ?_
      refine RL.ev rfl rfl (ev_loadB Try.underlying3 rfl rfl (hN.blk 8 rfl) rfl) ?_
      refine RL.ev rfl rfl ev_move ?_
      refine RL.ev rfl rfl (ev_arith rfl rfl rfl (add64 (by omega) (by omega))) ?_
      refine RL.op rfl rfl (opN_store sz3 rfl rfl rfl rfl hN 8 rfl (Nat.le_of_ble_eq_true rfl) ?_)
      intro w18 hN_
      clear hN
      have hN : Now wr FF w18 [_, _, _, _, _, _, _, _, _, _, _] := hN_
      clear hN_
      refine RL.nil ?_
      refine onlyNi ?_
      refine xblockN ?_
      have hN_ := Now.famPush (L := [_, _, _, _, _, _, _, _, _, _]) (hN.sub [1, 0, 2, 3, 4, 5, 6, 7, 8, 9, 10] (by decide) rfl) 9 rfl
      clear hN
      have hN : Now wr FF w18 [_, _, _, _, _, _, _, _, _, _] := hN_
      clear hN_
      exact roundQn ⟨v16, hs_ ++ [h15], ls_ ++ [xb], u_ + xn, a_, b_, c_⟩ ⟨by show 0 ≤ xn; omega, rfl, rfl⟩ (hN.sub [1, 2, 3, 4, 5, 6, 7, 8, 9] (by decide) rfl)
  · skip
    clear hN
    rintro l_ D_ o_ ⟨v_, hs_, ls_, u_, a_, b_, c_⟩ w19 hrun hN
    replace hN : Now w none_ w19 [.obj l_ o_, .obj D_ (.deferred (some [])), .blk g1 [a_] 22, .blk g2 [.int .i64 (b_)] 3, .blk g3 [.int .i64 (c_)] 25, .blk g4 [v_] 22, .blk g5 [.int .i64 (u_)] 3, .own vh 23 (v_) (hs_), .fam vb (hs_) (ls_)] := hN
    refine xblockN ?_
    refine xthenN ?_
    refine XW.seq ?_
    refine XW.draw rfl (by kernel_rfl) (fun u => Now w none_ u [.obj l_ o_, .obj D_ (.deferred (some [])), .blk g4 [v_] 22, .blk g5 [.int .i64 (u_)] 3, .own vh 23 (v_) (hs_), .fam vb (hs_) (ls_)]) ?_
    replace hN := hN.ext (Ext.drew w19)
    refine RA.take (i := 0) rfl rfl (by kernel_rfl) (by kernel_rfl) (by kernel_rfl) (by intro _ _ _ h; exact h) rfl (hN.sub [0, 1, 5, 6, 7, 8] (by decide) rfl) (fun w hS => (ev_loadB Try.underlying22 rfl rfl (hS.blk 2 rfl) rfl)) ?_
    refine RA.take (i := 1) rfl rfl (by kernel_rfl) (by kernel_rfl) (by kernel_rfl) (by intro _ _ _ h; exact h) rfl (hN.sub [0, 1, 5, 6, 7, 8] (by decide) rfl) (fun w hS => (ev_loadB Try.underlying3 rfl rfl (hS.blk 3 rfl) rfl)) ?_
    refine RA.only (i := 2) (by kernel_rfl) rfl rfl rfl (opN_store sz22 rfl rfl (hN.sl 7 rfl).cells1 (hN.sl 7 rfl).one1 hN 2 rfl (Nat.le_of_ble_eq_true rfl) ?_)
    intro w20 hN_
    clear hN
    have hN : Now w none_ w20 [_, _, _, _, _, _, _, _, _] := hN_
    clear hN_
    refine ⟨(hN.sub [0, 1, 5, 6, 7, 8] (by decide) rfl), ?_⟩
    refine RA.only (i := 3) (by kernel_rfl) rfl rfl rfl (opN_store sz3 rfl rfl rfl rfl hN 3 rfl (Nat.le_of_ble_eq_true rfl) ?_)
    intro w21 hN_
    clear hN
    have hN : Now w none_ w21 [_, _, _, _, _, _, _, _, _] := hN_
    clear hN_
    refine ⟨(hN.sub [0, 1, 5, 6, 7, 8] (by decide) rfl), ?_⟩
    refine RA.only (i := 4) (by kernel_rfl) rfl rfl rfl (opN_store sz25 rfl rfl rfl rfl hN 4 rfl (Nat.le_of_ble_eq_true rfl) ?_)
    intro w22 hN_
    clear hN
    have hN : Now w none_ w22 [_, _, _, _, _, _, _, _, _] := hN_
    clear hN_
    refine ⟨(hN.sub [0, 1, 5, 6, 7, 8] (by decide) rfl), ?_⟩
    refine RA.done (by kernel_rfl) ?_
    refine onlyNi ?_
    refine xthenN ?_
    refine XW.ret ?_
    refine xretM hN (.inl rfl) 1 rfl ?_
    intro w23 hN_
    clear hN
    have hN : Now w none_ w23 [_, _, _, _, _, _, _, _, _] := hN_
    clear hN_
    refine ⟨_, RV.cell3 rfl rfl rfl rfl (run_cell1 (hN.blk 2 rfl) Try.underlying22 rfl rfl) (run_cell1 (hN.blk 3 rfl) Try.underlying3 rfl rfl) (run_cell1 (hN.blk 4 rfl) Try.underlying25 rfl rfl), ?_⟩
    skip
    have hq := fr_done rfl rfl hrun
    rw [hq]
    exact ⟨v_, hs_, rfl, hN.sub [7, 8] (by decide) rfl⟩
  · skip
    clear hN
    rintro l_ D_ o_ ⟨v_, hs_, ls_, u_, a_, b_, c_⟩ w24 hrun hN
    replace hN : Now w none_ w24 [.obj l_ o_, .obj D_ (.deferred (some [])), .blk g1 [a_] 22, .blk g2 [.int .i64 (b_)] 3, .blk g3 [.int .i64 (c_)] 25, .blk g4 [v_] 22, .blk g5 [.int .i64 (u_)] 3, .own vh 23 (v_) (hs_), .fam vb (hs_) (ls_)] := hN
    have hstop := fr_stop rfl rfl hrun
    have ha_ : v_ = a_ := hstop.2.symm
    subst ha_
    refine xblockR ?_
    refine xthenR ?_
    refine xretM hN (.inl rfl) 1 rfl ?_
    intro w25 hN_
    clear hN
    have hN : Now w none_ w25 [_, _, _, _, _, _, _, _, _] := hN_
    clear hN_
    refine ⟨_, RV.cell3 rfl rfl rfl rfl (run_cell1 (hN.blk 2 rfl) Try.underlying22 rfl rfl) (run_cell1 (hN.blk 3 rfl) Try.underlying3 rfl rfl) (run_cell1 (hN.blk 4 rfl) Try.underlying25 rfl rfl), ?_⟩
    skip
    obtain ⟨hq, _⟩ := hstop
    rw [hq]
    exact ⟨v_, hs_, rfl, hN.sub [7, 8] (by decide) rfl⟩

end Go.Proofs.Ytihchogjmgbipaa
