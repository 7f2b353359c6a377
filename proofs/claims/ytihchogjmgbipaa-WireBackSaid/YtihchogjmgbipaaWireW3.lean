import Derived.Test.YtihchogjmgbipaaWireW2
set_option linter.unusedVariables false
set_option linter.unusedSimpArgs false
namespace Go.Proofs.Ytihchogjmgbipaa
open Go.RowKit Go.Rl

open Go.Codec
set_option maxHeartbeats 4000000 in
set_option maxRecDepth 100000 in
/-- postroad/wire.Tell$1 -/
theorem tell1_calls (v : Value) (hs : List Hd) (ls : List (List UInt8)) (gO base : Nat) (vo : Value) (lo : List UInt8) (D : Nat → Prop) (w : World) (hv : Sl vh w v hs) (hlen : hs.length = ls.length) (hel : ∀ i (h1 : i < hs.length) (h2 : i < ls.length), Sl vb w (vh hs[i]) ls[i]) (hb : Blk w gO [vo] 23) (ho : Own vb 5 w base vo lo) (hbase : base ≤ w.heap.size) (hDv : ∀ k, v.ownBlock = some k → D k) (hDe : ∀ i (h : i < hs.length) k, (vh hs[i]).ownBlock = some k → D k) (hDlt : ∀ k, D k → k < w.heap.size) (hDO : ¬ D gO) (hDo : ∀ k, vo.ownBlock = some k → ¬ D k ∧ k ≠ gO) (hsz : lo.length + ls.flatten.length ≤ 140737488351232) : Gives Try.prog 41 #[v, .pointer (some ⟨gO, 0, none⟩)] w fun r w' => r = .tuple #[] ∧ ∃ vo', Blk w' gO [vo'] 23 ∧ Own vb 5 w' base vo' (lo ++ ls.flatten) ∧ Rl.Mod (fun k => k = gO ∨ vo.ownBlock = some k) w w' ∧ (∀ k, vo'.ownBlock = some k → vo.ownBlock = some k ∨ w.heap.size ≤ k) := by
  refine Gives.start Try.func41 rfl (Nat.le_of_ble_eq_true rfl) ?_
  rw [args2]
  refine RW.seq ?_
  refine RW.region ?_
  have hlen2 := hv.len_le
  have hgl := hb.lt
  refine RL.ev rfl rfl ev_move ?_
  refine RL.ev rfl rfl (ev_lenS Try.underlying22 hv rfl) ?_
  refine RL.ev rfl rfl ev_move ?_
  refine RL.nil ?_
  refine thenN ?_
  refine RW.block ?_
  refine RW.loop (fun k R w' => ∃ i : Nat, ∃ vi_ : Value, R 7 = .int .i64 (i : Int) ∧ R 6 = .int .i64 (hs.length : Int) ∧ R 5 = v ∧ R 1 = .pointer (some ⟨gO, 0, none⟩) ∧ (i + k = hs.length) ∧ (Blk w' gO [vi_] 23) ∧ (Own vb 5 w' base vi_ (lo ++ (ls.take i).flatten)) ∧ (Rl.Mod (fun k => k = gO ∨ vo.ownBlock = some k) w w') ∧ (∀ k, vi_.ownBlock = some k → vo.ownBlock = some k ∨ w.heap.size ≤ k)) hs.length ?_ ?_
  · exact ⟨0, vo, rfl, rfl, rfl, rfl, by omega, hb, by simpa using ho, Mod.refl _ _, fun k hk => .inl hk⟩
  · rintro k R w' ⟨i, vi_, hr7_, hr6_, hr5_, hr1_, hik, hbi, hoi, hm, hbk⟩
    have hR_ : ∃ R0, R = (upd (upd (upd (upd R0 7 _) 6 _) 5 _) 1 _) := ⟨R, by rw [upd_self hr7_, upd_self hr6_, upd_self hr5_, upd_self hr1_]⟩
    obtain ⟨R0, rfl⟩ := hR_
    clear hr7_ hr6_ hr5_ hr1_
    refine RW.seq ?_
    refine RW.region ?_
    refine RL.ev rfl rfl (ev_lss rfl rfl) ?_
    refine RL.nil ?_
    refine thenN ?_
    refine RW.seq ?_
    refine RW.condP _ rfl (fun hlt => ?_) (fun hlt => ?_)
    · skip
      refine RW.skip ?_
      refine thenN ?_
      refine RW.seq ?_
      refine RW.block ?_
      refine RW.seq ?_
      refine RW.region ?_
      have hi : i < hs.length := by omega
      have hv' := hv.mod hm (fun k hk e => by
        have hd := hDv k hk
        rcases e with e | e
        · subst e; exact hDO hd
        · exact (hDo k e).1 hd)
      have he' := (hel i hi (by omega)).mod hm (fun k hk e => by
        have hd := hDe i hi k hk
        rcases e with e | e
        · subst e; exact hDO hd
        · exact (hDo k e).1 hd)
      have hfl : (ls.take i).flatten.length + (ls[i]'(by omega)).length ≤ ls.flatten.length := by
        have h1 : (ls.take (i + 1)).flatten.length ≤ ls.flatten.length := by
          conv => rhs; rw [← List.take_append_drop (i + 1) ls]
          rw [List.flatten_append, List.length_append]; omega
        rw [List.take_succ_eq_append_getElem (show i < ls.length by omega), List.flatten_append, List.length_append] at h1
        simpa using h1
      refine RL.ev rfl rfl (ev_index Try.underlying22 sz23 hv' rfl rfl (by omega) (by omega)) ?_
      refine RL.ev rfl rfl (ev_loadG (m := (i : Int).toNat) (a := hs[i]) Try.underlying23 rfl hv' rfl (List.getElem?_eq_getElem hi)) ?_
      refine RL.ev rfl rfl ev_assign ?_
      refine RL.nil ?_
      refine thenN ?_
      refine RW.region ?_
      refine RL.ev rfl rfl (ev_loadB Try.underlying23 rfl rfl hbi rfl) ?_
      refine RL.ev rfl rfl ev_move ?_
      refine RL.op rfl rfl (op_append Try.underlying23 inf5 rfl vb_one hoi rfl he' rfl (by rw [List.length_append]; omega) (by decide) (by have := hm.size; omega) ?_)
      intro v3 w3 ho3 hm3 hk3
      have hne3 : ¬ vi_.ownBlock = some gO := fun e => (hbk _ e).elim (fun h => (hDo _ h).2 rfl) (fun h => by omega)
      have hbi3 := hbi.mod hm3 hne3
      refine RL.op rfl rfl (op_storeB (v := v3) sz23 rfl rfl ho3.sl.cells1 ho3.sl.one1 hbi3 (by simp) ?_)
      intro w4 hb4 hm4 hs4
      have hz := hm.size
      refine RL.nil ?_
      refine blockN ?_
      refine thenN ?_
      refine RW.region ?_
      refine RL.ev rfl rfl (ev_arith rfl rfl rfl (add64 (by omega) (by omega))) ?_
      refine RL.ev rfl rfl ev_move ?_
      refine RL.nil ?_
      refine thenN ?_
      have hbk3 : ∀ k, v3.ownBlock = some k → vo.ownBlock = some k ∨ w.heap.size ≤ k := by
        intro k hk
        rcases hk3 with h | h
        · exact hbk k (h ▸ hk)
        · rw [h] at hk; have := Option.some.inj hk; omega
      refine ⟨k - 1, by omega, i + 1, v3, rfl, rfl, rfl, rfl, by omega, hb4, ?_, Mod.trans (Mod.trans hm hm3 (fun _ _ => id) (fun i hi e => (hbk i e).elim .inr (fun h => by omega))) hm4 (fun _ _ => id) (fun i hi e => .inl e), hbk3⟩
      rw [List.take_succ_eq_append_getElem (show i < ls.length by omega), List.flatten_append, ← List.append_assoc]
      have ho4 := ho3.mod hm4 (fun k hk e => (hbk3 k hk).elim (fun h => (hDo _ h).2 e) (fun h => by omega))
      simpa using ho4
    · skip
      refine RW.exit ?_
      refine thenX ?_
      refine thenX ?_
      refine blockHit ?_
      refine retN (RV.zero rfl) ?_
      refine ⟨rfl, vi_, hbi, ?_, hm, hbk⟩
      rw [List.take_of_length_le (by omega)] at hoi
      exact hoi

set_option maxHeartbeats 4000000 in
set_option maxRecDepth 100000 in
/-- postroad/postroadref19.put -/
theorem refPutTo_calls (base : Nat) (v : Value) (l : List UInt8) (x : Int) (w : World) (ho : Own vb 5 w base v l) (hbase : base ≤ w.heap.size) (hl : l.length ≤ 140737488351232) : Gives Try.prog 44 #[v, vi x] w fun r w' => Own vb 5 w' base r (l ++ num8 x) ∧ Rl.Mod (fun k => v.ownBlock = some k) w w' ∧ (r.ownBlock = v.ownBlock ∨ ∃ k, r.ownBlock = some k ∧ w.heap.size ≤ k) := by
  refine Gives.start Try.func44 rfl (Nat.le_of_ble_eq_true rfl) ?_
  rw [args2]
  refine RW.seq ?_
  refine RW.region ?_
  refine RL.ev rfl rfl ev_assign ?_
  refine RL.nil ?_
  refine thenN ?_
  refine RW.seq ?_
  refine RW.region ?_
  refine RL.ev rfl rfl ev_move ?_
  refine RL.ev rfl rfl ev_move ?_
  refine RL.ev rfl rfl (ev_conv Try.underlying3 Try.underlying39 rfl (wrap_u64 _)) ?_
  refine RL.op rfl rfl (op_call2 Try.func30 rfl rfl rfl rfl ((refPut_calls (toU x) 8 _ (toU_lt x)).mono ?_))
  rintro v1 w1 ⟨ho1, he1⟩
  rw [clip_8] at ho1
  refine RL.op rfl rfl (op_append Try.underlying23 inf5 rfl vb_one (ho.ext he1) rfl ho1.sl rfl (by rw [put_length]; omega) (by decide) (by have := he1.size; omega) ?_)
  intro v2 w2 ho2 hm2 hk2
  refine RL.ev rfl rfl ev_assign ?_
  refine RL.nil ?_
  refine thenN ?_
  refine RW.seq ?_
  refine RW.region ?_
  refine RL.ev rfl rfl ev_move ?_
  refine RL.ev rfl rfl ev_assign ?_
  refine RL.nil ?_
  refine thenN ?_
  refine RW.ret ?_
  refine retI (RV.tmp rfl) ?_
  exact ⟨ho2, Mod.trans he1 hm2 (fun _ _ h => h.elim) (fun _ _ => id), hk2.imp id (fun h => ⟨_, h, he1.size⟩)⟩

set_option maxHeartbeats 4000000 in
set_option maxRecDepth 100000 in
/-- postroad/postroadref19.ints -/
theorem refIntsTo_calls (base : Nat) (v q : Value) (l : List UInt8) (xs : List Int) (w : World) (ho : Own vb 5 w base v l) (hq : Sl vi w q xs) (hbase : base ≤ w.heap.size) (hl : l.length ≤ 70368744175616) (hxs : xs.length ≤ 1048576) : Gives Try.prog 45 #[v, q] w fun r w' => Own vb 5 w' base r (l ++ putInts xs) ∧ Rl.Mod (fun k => v.ownBlock = some k) w w' ∧ (r.ownBlock = v.ownBlock ∨ ∃ k, r.ownBlock = some k ∧ w.heap.size ≤ k) := by
  refine Gives.start Try.func45 rfl (Nat.le_of_ble_eq_true rfl) ?_
  rw [args2]
  refine RW.seq ?_
  refine RW.region ?_
  refine RL.ev rfl rfl ev_assign ?_
  refine RL.nil ?_
  refine thenN ?_
  refine RW.seq ?_
  refine RW.region ?_
  refine RL.ev rfl rfl ev_move ?_
  refine RL.ev rfl rfl ev_move ?_
  refine RL.op rfl rfl (op_call1 Try.func59 rfl rfl rfl ((refInts_calls q xs _ hq (by omega)).mono ?_))
  rintro v1 w1 ⟨ho1, he1⟩
  refine RL.op rfl rfl (op_append Try.underlying23 inf5 rfl vb_one (ho.ext he1) rfl ho1.sl rfl (by rw [putInts_length]; omega) (by decide) (by have := he1.size; omega) ?_)
  intro v2 w2 ho2 hm2 hk2
  refine RL.ev rfl rfl ev_assign ?_
  refine RL.nil ?_
  refine thenN ?_
  refine RW.seq ?_
  refine RW.region ?_
  refine RL.ev rfl rfl ev_move ?_
  refine RL.ev rfl rfl ev_assign ?_
  refine RL.nil ?_
  refine thenN ?_
  refine RW.ret ?_
  refine retI (RV.tmp rfl) ?_
  exact ⟨ho2, Mod.trans he1 hm2 (fun _ _ h => h.elim) (fun _ _ => id), hk2.imp id (fun h => ⟨_, h, he1.size⟩)⟩

end Go.Proofs.Ytihchogjmgbipaa
