import Derived.Test.YtihchogjmgbipaaWireW5
import Derived.Test.YtihchogjmgbipaaCodecNow
set_option linter.unusedVariables false
set_option linter.unusedSimpArgs false
namespace Go.Proofs.Ytihchogjmgbipaa
open Go.RowKit Go.Rl

open Go.Codec
set_option maxHeartbeats 4000000 in
set_option maxRecDepth 100000 in
/-- postroad/wire.kinds$2 -/
theorem ends_calls {F : Nat → Prop} (lo hi g gq : Nat) (s : St) (kk : Int) (w : World) (hN : Now w F w [Rdr 94 lo hi g s, .blk gq [.int .i64 (kk), (str []), .int .i64 (0), .int .i64 (0), .int .i64 (0), .slice none 0 0] 38]) (hsl : s.1.length ≤ 140737488351232) : Gives Try.prog 61 #[.pointer (some ⟨g, 0, none⟩), .pointer (some ⟨gq, 0, none⟩)] w fun r w' => r = .tuple #[] ∧ Now w F w' [Rdr 94 lo hi g (numR (numR s 8).1 8).1, .blk gq [.int .i64 (kk), (str []), .int .i64 (0), .int .i64 ((toI (numR s 8).2)), .int .i64 ((toI (numR (numR s 8).1 8).2)), .slice none 0 0] 38] := by
  refine Gives.start Try.func61 rfl (Nat.le_of_ble_eq_true rfl) ?_
  rw [args2]
  refine RW.region ?_
  refine RL.ev rfl rfl ev_move ?_
  refine RL.ev rfl rfl ev_move ?_
  refine RL.ev rfl rfl ev_move ?_
  refine RL.op rfl rfl (op_call1 Try.func34 rfl rfl rfl ((next_at (Rdr.says hN 0 rfl) (eta (numR s 8)) (numR_lt _ _ (by decide))).mono ?_))
  rintro _ w1 ⟨rfl, hr_, hm_⟩
  have hN_ := rdrStep hN 0 rfl hr_ hm_
  clear hr_ hm_
  clear hN
  have hN : Now w F w1 [_, _] := hN_
  clear hN_
  refine RL.ev rfl rfl ev_move ?_
  refine RL.op rfl rfl (op_call1 Try.func34 rfl rfl rfl ((next_at (Rdr.says hN 0 rfl) (eta (numR ((numR s 8).1) 8)) (numR_lt _ _ (by decide))).mono ?_))
  rintro _ w2 ⟨rfl, hr_, hm_⟩
  have hN_ := rdrStep hN 0 rfl hr_ hm_
  clear hr_ hm_
  clear hN
  have hN : Now w F w2 [_, _] := hN_
  clear hN_
  refine RL.ev rfl rfl (ev_nilCheck rfl) ?_
  refine RL.ev rfl rfl (ev_fieldAddr Try.underlying38 rfl sz3 (by decide) rfl) ?_
  refine RL.op rfl rfl (opN_store sz3 rfl rfl rfl rfl hN 1 rfl (Nat.le_of_ble_eq_true rfl) ?_)
  intro w3 hN_
  clear hN
  have hN : Now w F w3 [_, _] := hN_
  clear hN_
  refine RL.ev rfl rfl (ev_nilCheck rfl) ?_
  refine RL.ev rfl rfl (ev_fieldAddr Try.underlying38 rfl sz3 (by decide) rfl) ?_
  refine RL.op rfl rfl (opN_store sz3 rfl rfl rfl rfl hN 1 rfl (Nat.le_of_ble_eq_true rfl) ?_)
  intro w4 hN_
  clear hN
  have hN : Now w F w4 [_, _] := hN_
  clear hN_
  refine RL.nil ?_
  refine retN (RV.zero rfl) ?_
  exact ⟨rfl, hN⟩

set_option maxHeartbeats 4000000 in
set_option maxRecDepth 100000 in
/-- postroad/wire.kinds$3 -/
theorem kload_calls {F : Nat → Prop} (lo hi g gq : Nat) (s : St) (kk : Int) (w : World) (hN : Now w F w [Rdr 94 lo hi g s, .blk gq [.int .i64 (kk), (str []), .int .i64 (0), .int .i64 (0), .int .i64 (0), .slice none 0 0] 38]) (hsl : s.1.length ≤ 140737488351232) : Gives Try.prog 62 #[.pointer (some ⟨g, 0, none⟩), .pointer (some ⟨gq, 0, none⟩)] w fun r w' => r = .tuple #[] ∧ Now w F w' [Rdr 94 lo hi g (textR s 1048576).1, .blk gq [.int .i64 (kk), (str (textR s 1048576).2), .int .i64 (0), .int .i64 (0), .int .i64 (0), .slice none 0 0] 38] := by
  refine Gives.start Try.func62 rfl (Nat.le_of_ble_eq_true rfl) ?_
  rw [args2]
  refine RW.region ?_
  refine RL.ev rfl rfl ev_move ?_
  refine RL.ev rfl rfl ev_move ?_
  refine RL.op rfl rfl (op_call2 Try.func63 rfl rfl rfl rfl ((rtext_at (Rdr.says hN 0 rfl) (rdrHi hN 0 rfl) (by omega) (by omega) (by omega) (eta (textR s (1048576)))).mono ?_))
  rintro _ w1 ⟨rfl, hr_, hm_⟩
  have hN_ := rdrStep hN 0 rfl hr_ hm_
  clear hr_ hm_
  clear hN
  have hN : Now w F w1 [_, _] := hN_
  clear hN_
  refine RL.ev rfl rfl (ev_nilCheck rfl) ?_
  refine RL.ev rfl rfl (ev_fieldAddr Try.underlying38 rfl sz9 (by decide) rfl) ?_
  refine RL.op rfl rfl (opN_store sz9 rfl rfl rfl rfl hN 1 rfl (Nat.le_of_ble_eq_true rfl) ?_)
  intro w2 hN_
  clear hN
  have hN : Now w F w2 [_, _] := hN_
  clear hN_
  refine RL.nil ?_
  refine retN (RV.zero rfl) ?_
  exact ⟨rfl, hN⟩

set_option maxHeartbeats 4000000 in
set_option maxRecDepth 100000 in
/-- postroad/wire.kinds$4 -/
theorem kbuild_calls {F : Nat → Prop} (lo hi g gq : Nat) (s : St) (kk : Int) (w : World) (hN : Now w F w [Rdr 94 lo hi g s, .blk gq [.int .i64 (kk), (str []), .int .i64 (0), .int .i64 (0), .int .i64 (0), .slice none 0 0] 38]) (hsl : s.1.length ≤ 140737488351232) : Gives Try.prog 64 #[.pointer (some ⟨g, 0, none⟩), .pointer (some ⟨gq, 0, none⟩)] w fun r w' => r = .tuple #[] ∧ Now w F w' [Rdr 94 lo hi g (numR s 8).1, .blk gq [.int .i64 (kk), (str []), .int .i64 ((toI (numR s 8).2)), .int .i64 (0), .int .i64 (0), .slice none 0 0] 38] := by
  refine Gives.start Try.func64 rfl (Nat.le_of_ble_eq_true rfl) ?_
  rw [args2]
  refine RW.region ?_
  refine RL.ev rfl rfl ev_move ?_
  refine RL.ev rfl rfl ev_move ?_
  refine RL.op rfl rfl (op_call1 Try.func34 rfl rfl rfl ((next_at (Rdr.says hN 0 rfl) (eta (numR s 8)) (numR_lt _ _ (by decide))).mono ?_))
  rintro _ w1 ⟨rfl, hr_, hm_⟩
  have hN_ := rdrStep hN 0 rfl hr_ hm_
  clear hr_ hm_
  clear hN
  have hN : Now w F w1 [_, _] := hN_
  clear hN_
  refine RL.ev rfl rfl (ev_nilCheck rfl) ?_
  refine RL.ev rfl rfl (ev_fieldAddr Try.underlying38 rfl sz3 (by decide) rfl) ?_
  refine RL.op rfl rfl (opN_store sz3 rfl rfl rfl rfl hN 1 rfl (Nat.le_of_ble_eq_true rfl) ?_)
  intro w2 hN_
  clear hN
  have hN : Now w F w2 [_, _] := hN_
  clear hN_
  refine RL.nil ?_
  refine retN (RV.zero rfl) ?_
  exact ⟨rfl, hN⟩

set_option maxHeartbeats 4000000 in
set_option maxRecDepth 100000 in
/-- postroad/wire.kinds$5 -/
theorem kmany_calls {F : Nat → Prop} (lo hi g gq : Nat) (s : St) (kk : Int) (w : World) (hN : Now w F w [Rdr 94 lo hi g s, .blk gq [.int .i64 (kk), (str []), .int .i64 (0), .int .i64 (0), .int .i64 (0), .slice none 0 0] 38]) (hsl : s.1.length ≤ 140737488351232) : Gives Try.prog 65 #[.pointer (some ⟨g, 0, none⟩), .pointer (some ⟨gq, 0, none⟩)] w fun r w' => ∃ v, r = .tuple #[] ∧ Now w F w' [.own vi 3 v (intsR (numR s 8).1 1000).2, Rdr 94 lo hi g (intsR (numR s 8).1 1000).1, .blk gq [.int .i64 kk, .string ByteArray.empty, .int .i64 0, .int .i64 (toI (numR s 8).2), .int .i64 0, v] 38] := by
  refine Gives.start Try.func65 rfl (Nat.le_of_ble_eq_true rfl) ?_
  rw [args2]
  refine RW.region ?_
  refine RL.ev rfl rfl ev_move ?_
  refine RL.ev rfl rfl ev_move ?_
  refine RL.ev rfl rfl ev_move ?_
  refine RL.op rfl rfl (op_call1 Try.func34 rfl rfl rfl ((next_at (Rdr.says hN 0 rfl) (eta (numR s 8)) (numR_lt _ _ (by decide))).mono ?_))
  rintro _ w1 ⟨rfl, hr_, hm_⟩
  have hN_ := rdrStep hN 0 rfl hr_ hm_
  clear hr_ hm_
  clear hN
  have hN : Now w F w1 [_, _] := hN_
  clear hN_
  refine RL.ev rfl rfl ev_move ?_
  refine RL.op rfl rfl (op_call2 Try.func35 rfl rfl rfl rfl ((rints_at (Rdr.says hN 0 rfl) (rdrHi hN 0 rfl) (by omega) (by omega) (by have := num_sub s 8; omega) (eta (intsR ((numR s 8).1) (1000)))).mono ?_))
  rintro v2 w2 ⟨ho_, hr_, hm_⟩
  have hN_ := rdrOwn hN 0 rfl ho_ hr_ hm_
  clear ho_ hr_ hm_
  clear hN
  have hN : Now w F w2 [_, _, _] := hN_
  clear hN_
  refine RL.ev rfl rfl (ev_nilCheck rfl) ?_
  refine RL.ev rfl rfl (ev_fieldAddr Try.underlying38 rfl sz3 (by decide) rfl) ?_
  refine RL.op rfl rfl (opN_store sz3 rfl rfl rfl rfl hN 2 rfl (Nat.le_of_ble_eq_true rfl) ?_)
  intro w3 hN_
  clear hN
  have hN : Now w F w3 [_, _, _] := hN_
  clear hN_
  refine RL.ev rfl rfl (ev_nilCheck rfl) ?_
  refine RL.ev rfl rfl (ev_fieldAddr Try.underlying38 rfl sz36 (by decide) rfl) ?_
  refine RL.op rfl rfl (opN_store sz36 rfl rfl (hN.sl 0 rfl).cells1 (hN.sl 0 rfl).one1 hN 2 rfl (Nat.le_of_ble_eq_true rfl) ?_)
  intro w4 hN_
  clear hN
  have hN : Now w F w4 [_, _, _] := hN_
  clear hN_
  refine RL.nil ?_
  refine retN (RV.zero rfl) ?_
  exact ⟨_, rfl, hN⟩

set_option maxHeartbeats 4000000 in
set_option maxRecDepth 100000 in
/-- postroad/wire.kinds$1 -/
theorem knone_calls (a b : Value) (w : World) : Gives Try.prog 60 #[a, b] w fun r w' => r = .tuple #[] ∧ w = w' := by
  refine Gives.start Try.func60 rfl (Nat.le_of_ble_eq_true rfl) ?_
  rw [args2]
  have hN := Now.nil w none_
  refine RW.skip ?_
  refine retN (RV.zero rfl) ?_
  exact ⟨rfl, rfl⟩

set_option maxHeartbeats 4000000 in
set_option maxRecDepth 100000 in
/-- postroad/wire.kinds -/
theorem kinds_calls (w : World) : Gives Try.prog 47 #[] w fun r w' => ∃ b, r = .map (some b) ∧ Now w none_ w' [.mp (Value.int .i64) b [(1, .func (.func 62) #[] #[], 0), (2, .func (.func 64) #[] #[], 1), (7, .func (.func 65) #[] #[], 2), (5, .func (.func 61) #[] #[], 3), (6, .func (.func 61) #[] #[], 4), (3, .func (.func 60) #[] #[], 5), (4, .func (.func 60) #[] #[], 6), (8, .func (.func 60) #[] #[], 7)] 8] := by
  refine Gives.start Try.func47 rfl (Nat.le_of_ble_eq_true rfl) ?_
  rw [args0]
  have hN := Now.nil w none_
  refine RW.seq ?_
  refine RW.region ?_
  refine RL.ev rfl rfl ev_assign ?_
  refine RL.nil ?_
  refine thenN ?_
  refine RW.seq ?_
  refine RW.region ?_
  refine RL.ev rfl rfl ev_assign ?_
  refine RL.nil ?_
  refine thenN ?_
  refine RW.seq ?_
  refine RW.region ?_
  refine RL.ev rfl rfl ev_assign ?_
  refine RL.nil ?_
  refine thenN ?_
  refine RW.seq ?_
  refine RW.region ?_
  refine RL.op rfl rfl (opN_makeMap (t := 86) (kt := 3) (et := 84) (Value.int .i64) hN ?_)
  intro m1 w1 hN_
  clear hN
  have hN : Now w none_ w1 [_] := hN_
  clear hN_
  refine RL.op rfl rfl (opN_insert (a := 1) Try.underlying86 (ke_int Try.underlying3) hN 0 rfl rfl rfl rfl rfl ?_)
  intro w2 hN_
  clear hN
  have hN : Now w none_ w2 [_] := hN_
  clear hN_
  refine RL.op rfl rfl (opN_insert (a := 2) Try.underlying86 (ke_int Try.underlying3) hN 0 rfl rfl rfl rfl rfl ?_)
  intro w3 hN_
  clear hN
  have hN : Now w none_ w3 [_] := hN_
  clear hN_
  refine RL.op rfl rfl (opN_insert (a := 7) Try.underlying86 (ke_int Try.underlying3) hN 0 rfl rfl rfl rfl rfl ?_)
  intro w4 hN_
  clear hN
  have hN : Now w none_ w4 [_] := hN_
  clear hN_
  refine RL.ev rfl rfl ev_move ?_
  refine RL.op rfl rfl (opN_insert (a := 5) Try.underlying86 (ke_int Try.underlying3) hN 0 rfl rfl rfl rfl rfl ?_)
  intro w5 hN_
  clear hN
  have hN : Now w none_ w5 [_] := hN_
  clear hN_
  refine RL.ev rfl rfl ev_move ?_
  refine RL.op rfl rfl (opN_insert (a := 6) Try.underlying86 (ke_int Try.underlying3) hN 0 rfl rfl rfl rfl rfl ?_)
  intro w6 hN_
  clear hN
  have hN : Now w none_ w6 [_] := hN_
  clear hN_
  refine RL.ev rfl rfl ev_move ?_
  refine RL.op rfl rfl (opN_insert (a := 3) Try.underlying86 (ke_int Try.underlying3) hN 0 rfl rfl rfl rfl rfl ?_)
  intro w7 hN_
  clear hN
  have hN : Now w none_ w7 [_] := hN_
  clear hN_
  refine RL.ev rfl rfl ev_move ?_
  refine RL.op rfl rfl (opN_insert (a := 4) Try.underlying86 (ke_int Try.underlying3) hN 0 rfl rfl rfl rfl rfl ?_)
  intro w8 hN_
  clear hN
  have hN : Now w none_ w8 [_] := hN_
  clear hN_
  refine RL.ev rfl rfl ev_move ?_
  refine RL.op rfl rfl (opN_insert (a := 8) Try.underlying86 (ke_int Try.underlying3) hN 0 rfl rfl rfl rfl rfl ?_)
  intro w9 hN_
  clear hN
  have hN : Now w none_ w9 [_] := hN_
  clear hN_
  refine RL.ev rfl rfl ev_move ?_
  refine RL.ev rfl rfl ev_assign ?_
  refine RL.nil ?_
  refine thenN ?_
  refine RW.ret ?_
  refine retI (RV.tmp rfl) ?_
  exact ⟨_, rfl, hN⟩

set_option maxHeartbeats 4000000 in
set_option maxRecDepth 100000 in
/-- postroad/wire.Read -/
theorem read_calls (v : Value) (l : List UInt8) (w : World) (hv : Sl vb w v l) (hl : l.length ≤ 1048576) : Gives Try.prog 23 #[v] w fun r w' => ∃ x e, r = .tuple #[x, vi e] ∧ ReqV w' x (readR l).1 ∧ e = (readR l).2 ∧ Ext w w' := by
  refine Gives.start Try.func23 rfl (Nat.le_of_ble_eq_true rfl) ?_
  rw [args1]
  have hN := Now.nil w none_
  refine RW.seq ?_
  refine RW.region ?_
  refine RL.op rfl rfl (opN_alloc (cs := [.int .i64 (0), .string ByteArray.empty, .int .i64 (0), .int .i64 (0), .int .i64 (0), .slice none 0 0]) zero38 rfl hN ?_)
  intro g1 w1 hN_
  clear hN
  have hN : Now w none_ w1 [_] := hN_
  clear hN_
  refine RL.ev rfl rfl ev_assign ?_
  refine RL.nil ?_
  refine thenN ?_
  refine RW.seq ?_
  refine RW.seq ?_
  refine RW.region ?_
  refine RL.ev rfl rfl ev_move ?_
  have hL_2 := (hv.ext hN.ext0).len_le
  refine RL.ev rfl rfl (ev_lenS Try.underlying23 (hv.ext hN.ext0) rfl) ?_
  refine RL.ev rfl rfl (ev_gtr rfl rfl) ?_
  refine RL.nil ?_
  refine thenN ?_
  refine RW.condPF _ rfl (by omega) ?_
  refine RW.skip ?_
  refine thenN ?_
  refine RW.seq ?_
  refine RW.region ?_
  refine RL.ev rfl rfl ev_move ?_
  refine RL.op rfl rfl (op_call1 Try.func32 rfl rfl rfl ((new_calls _ l _ (hv.ext hN.ext0) (by omega)).mono ?_))
  rintro _ w3 ⟨g3, rfl, hr_, he_⟩
  have hN_ := rdrPush hN hr_ he_
  clear hr_ he_
  generalize hlo3 : (w1).heap.size = lo3 at hN_
  generalize hhi3 : (w3).heap.size = hi3 at hN_
  clear hN
  have hN : Now w none_ w3 [_, _] := hN_
  clear hN_
  refine RL.ev rfl rfl ev_assign ?_
  refine RL.nil ?_
  refine thenN ?_
  refine RW.seq ?_
  have hc_ : l = [] ∨ ∃ c r, l = c :: r := by cases l <;> simp
  rcases hc_ with hl0 | ⟨c, r, hl0⟩
  · skip
    have hn : numR (l, 0) 1 = (([], 10), 0) := by rw [hl0]; rfl
    refine RW.region ?_
    refine RL.ev rfl rfl ev_move ?_
    refine RL.op rfl rfl (op_call2 Try.func33 rfl rfl rfl rfl ((num_at (Rdr.says hN 0 rfl) (show clip 1 = 1 from rfl) hn).mono ?_))
    rintro _ w4 ⟨rfl, hr_, hm_, _⟩
    have hN_ := rdrStep hN 0 rfl hr_ hm_
    clear hr_ hm_
    clear hN
    have hN : Now w none_ w4 [_, _] := hN_
    clear hN_
    refine RL.ev rfl rfl (ev_conv Try.underlying39 Try.underlying3 rfl (wr_i64 (by omega) (by omega))) ?_
    refine RL.ev rfl rfl (ev_buildL (cs := [.int .i64 (0), .string ByteArray.empty, .int .i64 (0), .int .i64 (0), .int .i64 (0), .slice none 0 0]) Try.underlying38 zero38 (places := #[(0, 1), (1, 1), (2, 1), (3, 1), (4, 1), (5, 1)]) (by intro w; kernel_rfl) (pl := [(0, .tmp 17)]) rfl (ps := [(0, .int .i64 (0))]) rfl (zc := [.int .i64 (0), .string ByteArray.empty, .int .i64 (0), .int .i64 (0), .int .i64 (0), .slice none 0 0]) rfl (fill_step (vs := [.int .i64 (0)]) rfl rfl (Nat.le_of_ble_eq_true rfl) rfl)) ?_
    refine RL.op rfl rfl (opN_alloc (cs := [.int .i64 (0), .string ByteArray.empty, .int .i64 (0), .int .i64 (0), .int .i64 (0), .slice none 0 0]) zero38 rfl hN ?_)
    intro g5 w5 hN_
    clear hN
    have hN : Now w none_ w5 [_, _, _] := hN_
    clear hN_
    refine RL.op rfl rfl (opN_storeAll (vs := [.int .i64 (0), .string ByteArray.empty, .int .i64 (0), .int .i64 (0), .int .i64 (0), .slice none 0 0]) sz38 rfl rfl rfl (by intro u hu; simp only [List.mem_cons, List.not_mem_nil, or_false] at hu; rcases hu with rfl | rfl | rfl | rfl | rfl | rfl <;> first | rfl) hN 0 rfl rfl ?_)
    intro w6 hN_
    clear hN
    have hN : Now w none_ w6 [_, _, _] := hN_
    clear hN_
    refine RL.nil ?_
    refine thenN ?_
    refine RW.seq ?_
    refine RW.seq ?_
    refine RW.region ?_
    refine RL.ev rfl rfl ev_move ?_
    refine RL.op rfl rfl (op_call1 Try.func46 rfl rfl rfl ((failed_calls _ _ _ (([] : List UInt8), 10) _ (Rdr.says hN 1 rfl)).mono ?_))
    rintro _ _ ⟨rfl, rfl⟩
    refine RL.ev rfl rfl ev_assign ?_
    refine RL.nil ?_
    refine thenN ?_
    refine RW.seq ?_
    refine RW.region ?_
    refine RL.ev rfl rfl ev_move ?_
    refine RL.ev rfl rfl (ev_true (ev_neq rfl rfl) (by decide)) ?_
    refine RL.nil ?_
    refine thenN ?_
    refine RW.condT rfl ?_
    refine RW.seq ?_
    refine RW.region ?_
    refine RL.ev rfl rfl (ev_buildL (cs := [.int .i64 (0), .string ByteArray.empty, .int .i64 (0), .int .i64 (0), .int .i64 (0), .slice none 0 0]) Try.underlying38 zero38 (places := #[(0, 1), (1, 1), (2, 1), (3, 1), (4, 1), (5, 1)]) (by intro w; kernel_rfl) (pl := []) rfl (ps := []) rfl (zc := [.int .i64 (0), .string ByteArray.empty, .int .i64 (0), .int .i64 (0), .int .i64 (0), .slice none 0 0]) rfl rfl) ?_
    refine RL.ev rfl rfl ev_move ?_
    refine RL.op rfl rfl (opN_storeAll (vs := [.int .i64 (0), .string ByteArray.empty, .int .i64 (0), .int .i64 (0), .int .i64 (0), .slice none 0 0]) sz38 rfl rfl rfl (by intro u hu; simp only [List.mem_cons, List.not_mem_nil, or_false] at hu; rcases hu with rfl | rfl | rfl | rfl | rfl | rfl <;> first | rfl) hN 2 rfl rfl ?_)
    intro w8 hN_
    clear hN
    have hN : Now w none_ w8 [_, _, _] := hN_
    clear hN_
    refine RL.ev rfl rfl ev_assign ?_
    refine RL.nil ?_
    refine thenN ?_
    refine RW.ret ?_
    refine thenR ?_
    refine retI (RV.cellTmp rfl rfl (run_cell (hN.blk 2 rfl) Try.underlying38 rfl sz38)) ?_
    have hq : readR l = (Req.zero, (([] : List UInt8), 10).2) := by rw [readR_nil (by rw [hl0]; rfl)]
    refine ⟨.agg #[.int .i64 (0), .string ByteArray.empty, .int .i64 (0), .int .i64 (0), .int .i64 (0), .slice none 0 0], (([] : List UInt8), 10).2, rfl, ?_, ?_, hN.ext0⟩
    · rw [hq]; exact ReqV.zero _
    · rw [hq]
  · skip
    have hn : numR (l, 0) 1 = ((r, 0), c.toNat) := by
      rw [hl0]; unfold numR; rw [takeR_ok rfl (by simp)]; simp [le]
    have hrd : readR l = if (c.toNat : Int) < 1 ∨ 8 < (c.toNat : Int) then (Req.zero, 13) else readK c.toNat r := by rw [hl0]; rfl
    have hlt := UInt8.toNat_lt c
    have hrl : r.length ≤ l.length := by rw [hl0]; simp
    refine RW.region ?_
    refine RL.ev rfl rfl ev_move ?_
    refine RL.op rfl rfl (op_call2 Try.func33 rfl rfl rfl rfl ((num_at (Rdr.says hN 0 rfl) (show clip 1 = 1 from rfl) hn).mono ?_))
    rintro _ w9 ⟨rfl, hr_, hm_, _⟩
    have hN_ := rdrStep hN 0 rfl hr_ hm_
    clear hr_ hm_
    clear hN
    have hN : Now w none_ w9 [_, _] := hN_
    clear hN_
    refine RL.ev rfl rfl (ev_conv Try.underlying39 Try.underlying3 rfl (wr_i64 (by omega) (by omega))) ?_
    refine RL.ev rfl rfl (ev_buildL (cs := [.int .i64 ((c.toNat : Int)), .string ByteArray.empty, .int .i64 (0), .int .i64 (0), .int .i64 (0), .slice none 0 0]) Try.underlying38 zero38 (places := #[(0, 1), (1, 1), (2, 1), (3, 1), (4, 1), (5, 1)]) (by intro w; kernel_rfl) (pl := [(0, .tmp 17)]) rfl (ps := [(0, .int .i64 ((c.toNat : Int)))]) rfl (zc := [.int .i64 (0), .string ByteArray.empty, .int .i64 (0), .int .i64 (0), .int .i64 (0), .slice none 0 0]) rfl (fill_step (vs := [.int .i64 ((c.toNat : Int))]) rfl rfl (Nat.le_of_ble_eq_true rfl) rfl)) ?_
    refine RL.op rfl rfl (opN_alloc (cs := [.int .i64 (0), .string ByteArray.empty, .int .i64 (0), .int .i64 (0), .int .i64 (0), .slice none 0 0]) zero38 rfl hN ?_)
    intro g10 w10 hN_
    clear hN
    have hN : Now w none_ w10 [_, _, _] := hN_
    clear hN_
    refine RL.op rfl rfl (opN_storeAll (vs := [.int .i64 ((c.toNat : Int)), .string ByteArray.empty, .int .i64 (0), .int .i64 (0), .int .i64 (0), .slice none 0 0]) sz38 rfl rfl rfl (by intro u hu; simp only [List.mem_cons, List.not_mem_nil, or_false] at hu; rcases hu with rfl | rfl | rfl | rfl | rfl | rfl <;> first | rfl) hN 0 rfl rfl ?_)
    intro w11 hN_
    clear hN
    have hN : Now w none_ w11 [_, _, _] := hN_
    clear hN_
    refine RL.nil ?_
    refine thenN ?_
    refine RW.seq ?_
    refine RW.seq ?_
    refine RW.region ?_
    refine RL.ev rfl rfl ev_move ?_
    refine RL.op rfl rfl (op_call1 Try.func46 rfl rfl rfl ((failed_calls _ _ _ (r, 0) _ (Rdr.says hN 1 rfl)).mono ?_))
    rintro _ _ ⟨rfl, rfl⟩
    refine RL.ev rfl rfl ev_assign ?_
    refine RL.nil ?_
    refine thenN ?_
    refine RW.seq ?_
    refine RW.region ?_
    refine RL.ev rfl rfl ev_move ?_
    refine RL.ev rfl rfl (ev_false (ev_neq rfl rfl) (by simp)) ?_
    refine RL.nil ?_
    refine thenN ?_
    refine RW.condF rfl ?_
    refine RW.skip ?_
    refine thenN ?_
    refine RW.seq ?_
    rcases (show (c.toNat : Int) = 1 ∨ (c.toNat : Int) = 2 ∨ (c.toNat : Int) = 5 ∨ (c.toNat : Int) = 6 ∨ (c.toNat : Int) = 7 ∨ (c.toNat : Int) = 3 ∨ (c.toNat : Int) = 4 ∨ (c.toNat : Int) = 8 ∨ ((c.toNat : Int) < 1 ∨ 8 < (c.toNat : Int)) by omega) with hk | hk | hk | hk | hk | hk | hk | hk | hk
    · skip
      refine RW.draw rfl (fun u => Now w none_ u [.blk g10 [.int .i64 ((c.toNat : Int)), .string ByteArray.empty, .int .i64 (0), .int .i64 (0), .int .i64 (0), .slice none 0 0] 38, Rdr 94 lo3 hi3 g3 (r, 0), .blk g1 [.int .i64 (0), .string ByteArray.empty, .int .i64 (0), .int .i64 (0), .int .i64 (0), .slice none 0 0] 38]) ?_
      replace hN := hN.ext (Ext.drew w11)
      refine RA.take (i := 1) rfl rfl (by kernel_rfl) (by kernel_rfl) (by kernel_rfl) (by intro _ _ _ h; exact h) rfl hN (fun w hS => (ev_fieldAddr Try.underlying38 rfl sz3 (by decide) rfl)) ?_
      refine RA.take (i := 2) rfl rfl (by kernel_rfl) (by kernel_rfl) (by kernel_rfl) (by intro _ _ _ h; exact h) rfl hN (fun w hS => (ev_loadB Try.underlying3 rfl rfl (hS.blk 0 rfl) rfl)) ?_
      refine RA.only (i := 0) (by kernel_rfl) rfl rfl rfl (op_call0 Try.func47 rfl rfl ((kinds_calls _).mono ?_))
      rintro _ w13 ⟨b13, rfl, hC_⟩
      have hN_ := hN.call0 hC_
      clear hC_
      clear hN
      have hN : Now w none_ w13 [_, _, _, _] := hN_
      clear hN_
      refine ⟨(hN.sub [1, 2, 3] (by decide) rfl), ?_⟩
      refine RA.only (i := 3) (by kernel_rfl) rfl rfl rfl (OpR.ev (ev_lookT (v := .func (.func 62) #[] #[]) Try.underlying86 (ke_int Try.underlying3) (hN.mp 0 rfl) rfl rfl (by rw [hk]; rfl)) ⟨(hN.sub [1, 2, 3] (by decide) rfl), ?_⟩)
      refine RA.take (i := 4) rfl rfl (by kernel_rfl) (by kernel_rfl) (by kernel_rfl) (by intro _ _ _ h; exact h) rfl (hN.sub [1, 2, 3] (by decide) rfl) (fun w hS => ev_move) ?_
      refine RA.take (i := 5) rfl rfl (by kernel_rfl) (by kernel_rfl) (by kernel_rfl) (by intro _ _ _ h; exact h) rfl (hN.sub [1, 2, 3] (by decide) rfl) (fun w hS => (ev_extract rfl rfl)) ?_
      refine RA.take (i := 6) rfl rfl (by kernel_rfl) (by kernel_rfl) (by kernel_rfl) (by intro _ _ _ h; exact h) rfl (hN.sub [1, 2, 3] (by decide) rfl) (fun w hS => (ev_extract rfl rfl)) ?_
      refine RA.take (i := 7) rfl rfl (by kernel_rfl) (by kernel_rfl) (by kernel_rfl) (by intro _ _ _ h; exact h) rfl (hN.sub [1, 2, 3] (by decide) rfl) (fun w hS => ev_assign) ?_
      refine RA.take (i := 8) rfl rfl (by kernel_rfl) (by kernel_rfl) (by kernel_rfl) (by intro _ _ _ h; exact h) rfl (hN.sub [1, 2, 3] (by decide) rfl) (fun w hS => ev_assign) ?_
      refine RA.done (by kernel_rfl) ?_
      refine thenN ?_
      refine RW.seq ?_
      refine RW.seq ?_
      refine RW.region ?_
      refine RL.ev rfl rfl ev_move ?_
      refine RL.ev rfl rfl (ev_not rfl) ?_
      refine RL.nil ?_
      refine thenN ?_
      refine RW.condF rfl ?_
      refine RW.skip ?_
      refine thenN ?_
      refine RW.seq ?_
      refine RW.seq ?_
      refine RW.region ?_
      refine RL.ev rfl rfl ev_move ?_
      refine RL.ev rfl rfl ev_move ?_
      refine RL.op rfl rfl (op_callw2 (first := #[]) (captured := #[]) (v0 := .pointer (some ⟨g3, 0, none⟩)) (v1 := .pointer (some ⟨g10, 0, none⟩)) (args := #[.pointer (some ⟨g3, 0, none⟩), .pointer (some ⟨g10, 0, none⟩)]) Try.func62 rfl rfl (by simp) rfl rfl rfl ((kload_calls _ _ _ _ (r, 0) ((c.toNat : Int)) _ (hN.pickL (M := [_, _]) [2, 1] (by decide) rfl) (by dsimp only; omega)).mono ?_))
      rintro _ w14 ⟨rfl, hC_⟩
      have hN_ := Now.callA (M := [_, _]) (N := [_, _]) (hN.sub [2, 1, 0, 3] (by decide) rfl) hC_
      clear hC_
      clear hN
      have hN : Now w none_ w14 [_, _, _, _] := hN_
      clear hN_
      refine RL.nil ?_
      refine thenN ?_
      refine RW.seq ?_
      refine RW.region ?_
      refine RL.ev rfl rfl ev_move ?_
      refine RL.op rfl rfl (op_call1 Try.func36 rfl rfl rfl ((end_calls _ _ _ ((textR (r, 0) 1048576).1) _ (Rdr.says hN 0 rfl)).mono ?_))
      rintro _ _ ⟨rfl, rfl⟩
      refine RL.ev rfl rfl (ev_neq rfl rfl) ?_
      refine RL.nil ?_
      refine thenN ?_
      refine RW.condP _ rfl (fun hbad => ?_) (fun hbad => ?_)
      · skip
        refine RW.seq ?_
        refine RW.region ?_
        refine RL.ev rfl rfl (ev_buildL (cs := [.int .i64 (0), .string ByteArray.empty, .int .i64 (0), .int .i64 (0), .int .i64 (0), .slice none 0 0]) Try.underlying38 zero38 (places := #[(0, 1), (1, 1), (2, 1), (3, 1), (4, 1), (5, 1)]) (by intro w; kernel_rfl) (pl := []) rfl (ps := []) rfl (zc := [.int .i64 (0), .string ByteArray.empty, .int .i64 (0), .int .i64 (0), .int .i64 (0), .slice none 0 0]) rfl rfl) ?_
        refine RL.ev rfl rfl ev_move ?_
        refine RL.op rfl rfl (op_call1 Try.func36 rfl rfl rfl ((end_calls _ _ _ ((textR (r, 0) 1048576).1) _ (Rdr.says hN 0 rfl)).mono ?_))
        rintro _ _ ⟨rfl, rfl⟩
        refine RL.op rfl rfl (opN_storeAll (vs := [.int .i64 (0), .string ByteArray.empty, .int .i64 (0), .int .i64 (0), .int .i64 (0), .slice none 0 0]) sz38 rfl rfl rfl (by intro u hu; simp only [List.mem_cons, List.not_mem_nil, or_false] at hu; rcases hu with rfl | rfl | rfl | rfl | rfl | rfl <;> first | rfl) hN 3 rfl rfl ?_)
        intro w17 hN_
        clear hN
        have hN : Now w none_ w17 [_, _, _, _] := hN_
        clear hN_
        refine RL.ev rfl rfl ev_assign ?_
        refine RL.nil ?_
        refine thenN ?_
        refine RW.ret ?_
        refine thenR ?_
        refine retI (RV.cellTmp rfl rfl (run_cell (hN.blk 3 rfl) Try.underlying38 rfl sz38)) ?_
        have hq : readR l = (Req.zero, (endR ((textR (r, 0) 1048576).1))) := by rw [hrd, if_neg (by omega), readK_1 hk, finR_bad hbad]
        refine ⟨.agg #[.int .i64 (0), .string ByteArray.empty, .int .i64 (0), .int .i64 (0), .int .i64 (0), .slice none 0 0], (endR ((textR (r, 0) 1048576).1)), rfl, ?_, ?_, hN.ext0⟩
        · rw [hq]; exact ReqV.zero _
        · rw [hq]
      · skip
        refine RW.skip ?_
        refine thenN ?_
        refine RW.seq ?_
        refine RW.region ?_
        refine RL.ev rfl rfl (ev_loadAll (cs := [.int .i64 ((c.toNat : Int)), (str (textR (r, 0) 1048576).2), .int .i64 (0), .int .i64 (0), .int .i64 (0), .slice none 0 0]) Try.underlying38 rfl sz38 rfl (hN.blk 1 rfl)) ?_
        refine RL.op rfl rfl (opN_storeAll (vs := [.int .i64 ((c.toNat : Int)), (str (textR (r, 0) 1048576).2), .int .i64 (0), .int .i64 (0), .int .i64 (0), .slice none 0 0]) sz38 rfl rfl rfl (by intro u hu; simp only [List.mem_cons, List.not_mem_nil, or_false] at hu; rcases hu with rfl | rfl | rfl | rfl | rfl | rfl <;> first | rfl) hN 3 rfl rfl ?_)
        intro w18 hN_
        clear hN
        have hN : Now w none_ w18 [_, _, _, _] := hN_
        clear hN_
        refine RL.ev rfl rfl ev_assign ?_
        refine RL.nil ?_
        refine thenN ?_
        refine RW.ret ?_
        refine retI (RV.cellTmp rfl rfl (run_cell (hN.blk 3 rfl) Try.underlying38 rfl sz38)) ?_
        have hq : readR l = (⟨(c.toNat : Int), (textR (r, 0) 1048576).2, 0, 0, 0, []⟩, 0) := by rw [hrd, if_neg (by omega), readK_1 hk, finR_ok hbad]
        refine ⟨.agg #[.int .i64 ((c.toNat : Int)), (str (textR (r, 0) 1048576).2), .int .i64 (0), .int .i64 (0), .int .i64 (0), .slice none 0 0], 0, rfl, ?_, ?_, hN.ext0⟩
        · rw [hq]; exact ⟨_, rfl, (Sl.nil _ _)⟩
        · rw [hq]
    · skip
      refine RW.draw rfl (fun u => Now w none_ u [.blk g10 [.int .i64 ((c.toNat : Int)), .string ByteArray.empty, .int .i64 (0), .int .i64 (0), .int .i64 (0), .slice none 0 0] 38, Rdr 94 lo3 hi3 g3 (r, 0), .blk g1 [.int .i64 (0), .string ByteArray.empty, .int .i64 (0), .int .i64 (0), .int .i64 (0), .slice none 0 0] 38]) ?_
      replace hN := hN.ext (Ext.drew w11)
      refine RA.take (i := 1) rfl rfl (by kernel_rfl) (by kernel_rfl) (by kernel_rfl) (by intro _ _ _ h; exact h) rfl hN (fun w hS => (ev_fieldAddr Try.underlying38 rfl sz3 (by decide) rfl)) ?_
      refine RA.take (i := 2) rfl rfl (by kernel_rfl) (by kernel_rfl) (by kernel_rfl) (by intro _ _ _ h; exact h) rfl hN (fun w hS => (ev_loadB Try.underlying3 rfl rfl (hS.blk 0 rfl) rfl)) ?_
      refine RA.only (i := 0) (by kernel_rfl) rfl rfl rfl (op_call0 Try.func47 rfl rfl ((kinds_calls _).mono ?_))
      rintro _ w19 ⟨b19, rfl, hC_⟩
      have hN_ := hN.call0 hC_
      clear hC_
      clear hN
      have hN : Now w none_ w19 [_, _, _, _] := hN_
      clear hN_
      refine ⟨(hN.sub [1, 2, 3] (by decide) rfl), ?_⟩
      refine RA.only (i := 3) (by kernel_rfl) rfl rfl rfl (OpR.ev (ev_lookT (v := .func (.func 64) #[] #[]) Try.underlying86 (ke_int Try.underlying3) (hN.mp 0 rfl) rfl rfl (by rw [hk]; rfl)) ⟨(hN.sub [1, 2, 3] (by decide) rfl), ?_⟩)
      refine RA.take (i := 4) rfl rfl (by kernel_rfl) (by kernel_rfl) (by kernel_rfl) (by intro _ _ _ h; exact h) rfl (hN.sub [1, 2, 3] (by decide) rfl) (fun w hS => ev_move) ?_
      refine RA.take (i := 5) rfl rfl (by kernel_rfl) (by kernel_rfl) (by kernel_rfl) (by intro _ _ _ h; exact h) rfl (hN.sub [1, 2, 3] (by decide) rfl) (fun w hS => (ev_extract rfl rfl)) ?_
      refine RA.take (i := 6) rfl rfl (by kernel_rfl) (by kernel_rfl) (by kernel_rfl) (by intro _ _ _ h; exact h) rfl (hN.sub [1, 2, 3] (by decide) rfl) (fun w hS => (ev_extract rfl rfl)) ?_
      refine RA.take (i := 7) rfl rfl (by kernel_rfl) (by kernel_rfl) (by kernel_rfl) (by intro _ _ _ h; exact h) rfl (hN.sub [1, 2, 3] (by decide) rfl) (fun w hS => ev_assign) ?_
      refine RA.take (i := 8) rfl rfl (by kernel_rfl) (by kernel_rfl) (by kernel_rfl) (by intro _ _ _ h; exact h) rfl (hN.sub [1, 2, 3] (by decide) rfl) (fun w hS => ev_assign) ?_
      refine RA.done (by kernel_rfl) ?_
      refine thenN ?_
      refine RW.seq ?_
      refine RW.seq ?_
      refine RW.region ?_
      refine RL.ev rfl rfl ev_move ?_
      refine RL.ev rfl rfl (ev_not rfl) ?_
      refine RL.nil ?_
      refine thenN ?_
      refine RW.condF rfl ?_
      refine RW.skip ?_
      refine thenN ?_
      refine RW.seq ?_
      refine RW.seq ?_
      refine RW.region ?_
      refine RL.ev rfl rfl ev_move ?_
      refine RL.ev rfl rfl ev_move ?_
      refine RL.op rfl rfl (op_callw2 (first := #[]) (captured := #[]) (v0 := .pointer (some ⟨g3, 0, none⟩)) (v1 := .pointer (some ⟨g10, 0, none⟩)) (args := #[.pointer (some ⟨g3, 0, none⟩), .pointer (some ⟨g10, 0, none⟩)]) Try.func64 rfl rfl (by simp) rfl rfl rfl ((kbuild_calls _ _ _ _ (r, 0) ((c.toNat : Int)) _ (hN.pickL (M := [_, _]) [2, 1] (by decide) rfl) (by dsimp only; omega)).mono ?_))
      rintro _ w20 ⟨rfl, hC_⟩
      have hN_ := Now.callA (M := [_, _]) (N := [_, _]) (hN.sub [2, 1, 0, 3] (by decide) rfl) hC_
      clear hC_
      clear hN
      have hN : Now w none_ w20 [_, _, _, _] := hN_
      clear hN_
      refine RL.nil ?_
      refine thenN ?_
      refine RW.seq ?_
      refine RW.region ?_
      refine RL.ev rfl rfl ev_move ?_
      refine RL.op rfl rfl (op_call1 Try.func36 rfl rfl rfl ((end_calls _ _ _ ((numR (r, 0) 8).1) _ (Rdr.says hN 0 rfl)).mono ?_))
      rintro _ _ ⟨rfl, rfl⟩
      refine RL.ev rfl rfl (ev_neq rfl rfl) ?_
      refine RL.nil ?_
      refine thenN ?_
      refine RW.condP _ rfl (fun hbad => ?_) (fun hbad => ?_)
      · skip
        refine RW.seq ?_
        refine RW.region ?_
        refine RL.ev rfl rfl (ev_buildL (cs := [.int .i64 (0), .string ByteArray.empty, .int .i64 (0), .int .i64 (0), .int .i64 (0), .slice none 0 0]) Try.underlying38 zero38 (places := #[(0, 1), (1, 1), (2, 1), (3, 1), (4, 1), (5, 1)]) (by intro w; kernel_rfl) (pl := []) rfl (ps := []) rfl (zc := [.int .i64 (0), .string ByteArray.empty, .int .i64 (0), .int .i64 (0), .int .i64 (0), .slice none 0 0]) rfl rfl) ?_
        refine RL.ev rfl rfl ev_move ?_
        refine RL.op rfl rfl (op_call1 Try.func36 rfl rfl rfl ((end_calls _ _ _ ((numR (r, 0) 8).1) _ (Rdr.says hN 0 rfl)).mono ?_))
        rintro _ _ ⟨rfl, rfl⟩
        refine RL.op rfl rfl (opN_storeAll (vs := [.int .i64 (0), .string ByteArray.empty, .int .i64 (0), .int .i64 (0), .int .i64 (0), .slice none 0 0]) sz38 rfl rfl rfl (by intro u hu; simp only [List.mem_cons, List.not_mem_nil, or_false] at hu; rcases hu with rfl | rfl | rfl | rfl | rfl | rfl <;> first | rfl) hN 3 rfl rfl ?_)
        intro w23 hN_
        clear hN
        have hN : Now w none_ w23 [_, _, _, _] := hN_
        clear hN_
        refine RL.ev rfl rfl ev_assign ?_
        refine RL.nil ?_
        refine thenN ?_
        refine RW.ret ?_
        refine thenR ?_
        refine retI (RV.cellTmp rfl rfl (run_cell (hN.blk 3 rfl) Try.underlying38 rfl sz38)) ?_
        have hq : readR l = (Req.zero, (endR ((numR (r, 0) 8).1))) := by rw [hrd, if_neg (by omega), readK_2 hk, finR_bad hbad]
        refine ⟨.agg #[.int .i64 (0), .string ByteArray.empty, .int .i64 (0), .int .i64 (0), .int .i64 (0), .slice none 0 0], (endR ((numR (r, 0) 8).1)), rfl, ?_, ?_, hN.ext0⟩
        · rw [hq]; exact ReqV.zero _
        · rw [hq]
      · skip
        refine RW.skip ?_
        refine thenN ?_
        refine RW.seq ?_
        refine RW.region ?_
        refine RL.ev rfl rfl (ev_loadAll (cs := [.int .i64 ((c.toNat : Int)), .string ByteArray.empty, .int .i64 ((toI (numR (r, 0) 8).2)), .int .i64 (0), .int .i64 (0), .slice none 0 0]) Try.underlying38 rfl sz38 rfl (hN.blk 1 rfl)) ?_
        refine RL.op rfl rfl (opN_storeAll (vs := [.int .i64 ((c.toNat : Int)), .string ByteArray.empty, .int .i64 ((toI (numR (r, 0) 8).2)), .int .i64 (0), .int .i64 (0), .slice none 0 0]) sz38 rfl rfl rfl (by intro u hu; simp only [List.mem_cons, List.not_mem_nil, or_false] at hu; rcases hu with rfl | rfl | rfl | rfl | rfl | rfl <;> first | rfl) hN 3 rfl rfl ?_)
        intro w24 hN_
        clear hN
        have hN : Now w none_ w24 [_, _, _, _] := hN_
        clear hN_
        refine RL.ev rfl rfl ev_assign ?_
        refine RL.nil ?_
        refine thenN ?_
        refine RW.ret ?_
        refine retI (RV.cellTmp rfl rfl (run_cell (hN.blk 3 rfl) Try.underlying38 rfl sz38)) ?_
        have hq : readR l = (⟨(c.toNat : Int), [], (toI (numR (r, 0) 8).2), 0, 0, []⟩, 0) := by rw [hrd, if_neg (by omega), readK_2 hk, finR_ok hbad]
        refine ⟨.agg #[.int .i64 ((c.toNat : Int)), .string ByteArray.empty, .int .i64 ((toI (numR (r, 0) 8).2)), .int .i64 (0), .int .i64 (0), .slice none 0 0], 0, rfl, ?_, ?_, hN.ext0⟩
        · rw [hq]; exact ⟨_, rfl, (Sl.nil _ _)⟩
        · rw [hq]
    · skip
      refine RW.draw rfl (fun u => Now w none_ u [.blk g10 [.int .i64 ((c.toNat : Int)), .string ByteArray.empty, .int .i64 (0), .int .i64 (0), .int .i64 (0), .slice none 0 0] 38, Rdr 94 lo3 hi3 g3 (r, 0), .blk g1 [.int .i64 (0), .string ByteArray.empty, .int .i64 (0), .int .i64 (0), .int .i64 (0), .slice none 0 0] 38]) ?_
      replace hN := hN.ext (Ext.drew w11)
      refine RA.take (i := 1) rfl rfl (by kernel_rfl) (by kernel_rfl) (by kernel_rfl) (by intro _ _ _ h; exact h) rfl hN (fun w hS => (ev_fieldAddr Try.underlying38 rfl sz3 (by decide) rfl)) ?_
      refine RA.take (i := 2) rfl rfl (by kernel_rfl) (by kernel_rfl) (by kernel_rfl) (by intro _ _ _ h; exact h) rfl hN (fun w hS => (ev_loadB Try.underlying3 rfl rfl (hS.blk 0 rfl) rfl)) ?_
      refine RA.only (i := 0) (by kernel_rfl) rfl rfl rfl (op_call0 Try.func47 rfl rfl ((kinds_calls _).mono ?_))
      rintro _ w25 ⟨b25, rfl, hC_⟩
      have hN_ := hN.call0 hC_
      clear hC_
      clear hN
      have hN : Now w none_ w25 [_, _, _, _] := hN_
      clear hN_
      refine ⟨(hN.sub [1, 2, 3] (by decide) rfl), ?_⟩
      refine RA.only (i := 3) (by kernel_rfl) rfl rfl rfl (OpR.ev (ev_lookT (v := .func (.func 61) #[] #[]) Try.underlying86 (ke_int Try.underlying3) (hN.mp 0 rfl) rfl rfl (by rw [hk]; rfl)) ⟨(hN.sub [1, 2, 3] (by decide) rfl), ?_⟩)
      refine RA.take (i := 4) rfl rfl (by kernel_rfl) (by kernel_rfl) (by kernel_rfl) (by intro _ _ _ h; exact h) rfl (hN.sub [1, 2, 3] (by decide) rfl) (fun w hS => ev_move) ?_
      refine RA.take (i := 5) rfl rfl (by kernel_rfl) (by kernel_rfl) (by kernel_rfl) (by intro _ _ _ h; exact h) rfl (hN.sub [1, 2, 3] (by decide) rfl) (fun w hS => (ev_extract rfl rfl)) ?_
      refine RA.take (i := 6) rfl rfl (by kernel_rfl) (by kernel_rfl) (by kernel_rfl) (by intro _ _ _ h; exact h) rfl (hN.sub [1, 2, 3] (by decide) rfl) (fun w hS => (ev_extract rfl rfl)) ?_
      refine RA.take (i := 7) rfl rfl (by kernel_rfl) (by kernel_rfl) (by kernel_rfl) (by intro _ _ _ h; exact h) rfl (hN.sub [1, 2, 3] (by decide) rfl) (fun w hS => ev_assign) ?_
      refine RA.take (i := 8) rfl rfl (by kernel_rfl) (by kernel_rfl) (by kernel_rfl) (by intro _ _ _ h; exact h) rfl (hN.sub [1, 2, 3] (by decide) rfl) (fun w hS => ev_assign) ?_
      refine RA.done (by kernel_rfl) ?_
      refine thenN ?_
      refine RW.seq ?_
      refine RW.seq ?_
      refine RW.region ?_
      refine RL.ev rfl rfl ev_move ?_
      refine RL.ev rfl rfl (ev_not rfl) ?_
      refine RL.nil ?_
      refine thenN ?_
      refine RW.condF rfl ?_
      refine RW.skip ?_
      refine thenN ?_
      refine RW.seq ?_
      refine RW.seq ?_
      refine RW.region ?_
      refine RL.ev rfl rfl ev_move ?_
      refine RL.ev rfl rfl ev_move ?_
      refine RL.op rfl rfl (op_callw2 (first := #[]) (captured := #[]) (v0 := .pointer (some ⟨g3, 0, none⟩)) (v1 := .pointer (some ⟨g10, 0, none⟩)) (args := #[.pointer (some ⟨g3, 0, none⟩), .pointer (some ⟨g10, 0, none⟩)]) Try.func61 rfl rfl (by simp) rfl rfl rfl ((ends_calls _ _ _ _ (r, 0) ((c.toNat : Int)) _ (hN.pickL (M := [_, _]) [2, 1] (by decide) rfl) (by dsimp only; omega)).mono ?_))
      rintro _ w26 ⟨rfl, hC_⟩
      have hN_ := Now.callA (M := [_, _]) (N := [_, _]) (hN.sub [2, 1, 0, 3] (by decide) rfl) hC_
      clear hC_
      clear hN
      have hN : Now w none_ w26 [_, _, _, _] := hN_
      clear hN_
      refine RL.nil ?_
      refine thenN ?_
      refine RW.seq ?_
      refine RW.region ?_
      refine RL.ev rfl rfl ev_move ?_
      refine RL.op rfl rfl (op_call1 Try.func36 rfl rfl rfl ((end_calls _ _ _ ((numR (numR (r, 0) 8).1 8).1) _ (Rdr.says hN 0 rfl)).mono ?_))
      rintro _ _ ⟨rfl, rfl⟩
      refine RL.ev rfl rfl (ev_neq rfl rfl) ?_
      refine RL.nil ?_
      refine thenN ?_
      refine RW.condP _ rfl (fun hbad => ?_) (fun hbad => ?_)
      · skip
        refine RW.seq ?_
        refine RW.region ?_
        refine RL.ev rfl rfl (ev_buildL (cs := [.int .i64 (0), .string ByteArray.empty, .int .i64 (0), .int .i64 (0), .int .i64 (0), .slice none 0 0]) Try.underlying38 zero38 (places := #[(0, 1), (1, 1), (2, 1), (3, 1), (4, 1), (5, 1)]) (by intro w; kernel_rfl) (pl := []) rfl (ps := []) rfl (zc := [.int .i64 (0), .string ByteArray.empty, .int .i64 (0), .int .i64 (0), .int .i64 (0), .slice none 0 0]) rfl rfl) ?_
        refine RL.ev rfl rfl ev_move ?_
        refine RL.op rfl rfl (op_call1 Try.func36 rfl rfl rfl ((end_calls _ _ _ ((numR (numR (r, 0) 8).1 8).1) _ (Rdr.says hN 0 rfl)).mono ?_))
        rintro _ _ ⟨rfl, rfl⟩
        refine RL.op rfl rfl (opN_storeAll (vs := [.int .i64 (0), .string ByteArray.empty, .int .i64 (0), .int .i64 (0), .int .i64 (0), .slice none 0 0]) sz38 rfl rfl rfl (by intro u hu; simp only [List.mem_cons, List.not_mem_nil, or_false] at hu; rcases hu with rfl | rfl | rfl | rfl | rfl | rfl <;> first | rfl) hN 3 rfl rfl ?_)
        intro w29 hN_
        clear hN
        have hN : Now w none_ w29 [_, _, _, _] := hN_
        clear hN_
        refine RL.ev rfl rfl ev_assign ?_
        refine RL.nil ?_
        refine thenN ?_
        refine RW.ret ?_
        refine thenR ?_
        refine retI (RV.cellTmp rfl rfl (run_cell (hN.blk 3 rfl) Try.underlying38 rfl sz38)) ?_
        have hq : readR l = (Req.zero, (endR ((numR (numR (r, 0) 8).1 8).1))) := by rw [hrd, if_neg (by omega), readK_5 (.inl hk), finR_bad hbad]
        refine ⟨.agg #[.int .i64 (0), .string ByteArray.empty, .int .i64 (0), .int .i64 (0), .int .i64 (0), .slice none 0 0], (endR ((numR (numR (r, 0) 8).1 8).1)), rfl, ?_, ?_, hN.ext0⟩
        · rw [hq]; exact ReqV.zero _
        · rw [hq]
      · skip
        refine RW.skip ?_
        refine thenN ?_
        refine RW.seq ?_
        refine RW.region ?_
        refine RL.ev rfl rfl (ev_loadAll (cs := [.int .i64 ((c.toNat : Int)), .string ByteArray.empty, .int .i64 (0), .int .i64 ((toI (numR (r, 0) 8).2)), .int .i64 ((toI (numR (numR (r, 0) 8).1 8).2)), .slice none 0 0]) Try.underlying38 rfl sz38 rfl (hN.blk 1 rfl)) ?_
        refine RL.op rfl rfl (opN_storeAll (vs := [.int .i64 ((c.toNat : Int)), .string ByteArray.empty, .int .i64 (0), .int .i64 ((toI (numR (r, 0) 8).2)), .int .i64 ((toI (numR (numR (r, 0) 8).1 8).2)), .slice none 0 0]) sz38 rfl rfl rfl (by intro u hu; simp only [List.mem_cons, List.not_mem_nil, or_false] at hu; rcases hu with rfl | rfl | rfl | rfl | rfl | rfl <;> first | rfl) hN 3 rfl rfl ?_)
        intro w30 hN_
        clear hN
        have hN : Now w none_ w30 [_, _, _, _] := hN_
        clear hN_
        refine RL.ev rfl rfl ev_assign ?_
        refine RL.nil ?_
        refine thenN ?_
        refine RW.ret ?_
        refine retI (RV.cellTmp rfl rfl (run_cell (hN.blk 3 rfl) Try.underlying38 rfl sz38)) ?_
        have hq : readR l = (⟨(c.toNat : Int), [], 0, (toI (numR (r, 0) 8).2), (toI (numR (numR (r, 0) 8).1 8).2), []⟩, 0) := by rw [hrd, if_neg (by omega), readK_5 (.inl hk), finR_ok hbad]
        refine ⟨.agg #[.int .i64 ((c.toNat : Int)), .string ByteArray.empty, .int .i64 (0), .int .i64 ((toI (numR (r, 0) 8).2)), .int .i64 ((toI (numR (numR (r, 0) 8).1 8).2)), .slice none 0 0], 0, rfl, ?_, ?_, hN.ext0⟩
        · rw [hq]; exact ⟨_, rfl, (Sl.nil _ _)⟩
        · rw [hq]
    · skip
      refine RW.draw rfl (fun u => Now w none_ u [.blk g10 [.int .i64 ((c.toNat : Int)), .string ByteArray.empty, .int .i64 (0), .int .i64 (0), .int .i64 (0), .slice none 0 0] 38, Rdr 94 lo3 hi3 g3 (r, 0), .blk g1 [.int .i64 (0), .string ByteArray.empty, .int .i64 (0), .int .i64 (0), .int .i64 (0), .slice none 0 0] 38]) ?_
      replace hN := hN.ext (Ext.drew w11)
      refine RA.take (i := 1) rfl rfl (by kernel_rfl) (by kernel_rfl) (by kernel_rfl) (by intro _ _ _ h; exact h) rfl hN (fun w hS => (ev_fieldAddr Try.underlying38 rfl sz3 (by decide) rfl)) ?_
      refine RA.take (i := 2) rfl rfl (by kernel_rfl) (by kernel_rfl) (by kernel_rfl) (by intro _ _ _ h; exact h) rfl hN (fun w hS => (ev_loadB Try.underlying3 rfl rfl (hS.blk 0 rfl) rfl)) ?_
      refine RA.only (i := 0) (by kernel_rfl) rfl rfl rfl (op_call0 Try.func47 rfl rfl ((kinds_calls _).mono ?_))
      rintro _ w31 ⟨b31, rfl, hC_⟩
      have hN_ := hN.call0 hC_
      clear hC_
      clear hN
      have hN : Now w none_ w31 [_, _, _, _] := hN_
      clear hN_
      refine ⟨(hN.sub [1, 2, 3] (by decide) rfl), ?_⟩
      refine RA.only (i := 3) (by kernel_rfl) rfl rfl rfl (OpR.ev (ev_lookT (v := .func (.func 61) #[] #[]) Try.underlying86 (ke_int Try.underlying3) (hN.mp 0 rfl) rfl rfl (by rw [hk]; rfl)) ⟨(hN.sub [1, 2, 3] (by decide) rfl), ?_⟩)
      refine RA.take (i := 4) rfl rfl (by kernel_rfl) (by kernel_rfl) (by kernel_rfl) (by intro _ _ _ h; exact h) rfl (hN.sub [1, 2, 3] (by decide) rfl) (fun w hS => ev_move) ?_
      refine RA.take (i := 5) rfl rfl (by kernel_rfl) (by kernel_rfl) (by kernel_rfl) (by intro _ _ _ h; exact h) rfl (hN.sub [1, 2, 3] (by decide) rfl) (fun w hS => (ev_extract rfl rfl)) ?_
      refine RA.take (i := 6) rfl rfl (by kernel_rfl) (by kernel_rfl) (by kernel_rfl) (by intro _ _ _ h; exact h) rfl (hN.sub [1, 2, 3] (by decide) rfl) (fun w hS => (ev_extract rfl rfl)) ?_
      refine RA.take (i := 7) rfl rfl (by kernel_rfl) (by kernel_rfl) (by kernel_rfl) (by intro _ _ _ h; exact h) rfl (hN.sub [1, 2, 3] (by decide) rfl) (fun w hS => ev_assign) ?_
      refine RA.take (i := 8) rfl rfl (by kernel_rfl) (by kernel_rfl) (by kernel_rfl) (by intro _ _ _ h; exact h) rfl (hN.sub [1, 2, 3] (by decide) rfl) (fun w hS => ev_assign) ?_
      refine RA.done (by kernel_rfl) ?_
      refine thenN ?_
      refine RW.seq ?_
      refine RW.seq ?_
      refine RW.region ?_
      refine RL.ev rfl rfl ev_move ?_
      refine RL.ev rfl rfl (ev_not rfl) ?_
      refine RL.nil ?_
      refine thenN ?_
      refine RW.condF rfl ?_
      refine RW.skip ?_
      refine thenN ?_
      refine RW.seq ?_
      refine RW.seq ?_
      refine RW.region ?_
      refine RL.ev rfl rfl ev_move ?_
      refine RL.ev rfl rfl ev_move ?_
      refine RL.op rfl rfl (op_callw2 (first := #[]) (captured := #[]) (v0 := .pointer (some ⟨g3, 0, none⟩)) (v1 := .pointer (some ⟨g10, 0, none⟩)) (args := #[.pointer (some ⟨g3, 0, none⟩), .pointer (some ⟨g10, 0, none⟩)]) Try.func61 rfl rfl (by simp) rfl rfl rfl ((ends_calls _ _ _ _ (r, 0) ((c.toNat : Int)) _ (hN.pickL (M := [_, _]) [2, 1] (by decide) rfl) (by dsimp only; omega)).mono ?_))
      rintro _ w32 ⟨rfl, hC_⟩
      have hN_ := Now.callA (M := [_, _]) (N := [_, _]) (hN.sub [2, 1, 0, 3] (by decide) rfl) hC_
      clear hC_
      clear hN
      have hN : Now w none_ w32 [_, _, _, _] := hN_
      clear hN_
      refine RL.nil ?_
      refine thenN ?_
      refine RW.seq ?_
      refine RW.region ?_
      refine RL.ev rfl rfl ev_move ?_
      refine RL.op rfl rfl (op_call1 Try.func36 rfl rfl rfl ((end_calls _ _ _ ((numR (numR (r, 0) 8).1 8).1) _ (Rdr.says hN 0 rfl)).mono ?_))
      rintro _ _ ⟨rfl, rfl⟩
      refine RL.ev rfl rfl (ev_neq rfl rfl) ?_
      refine RL.nil ?_
      refine thenN ?_
      refine RW.condP _ rfl (fun hbad => ?_) (fun hbad => ?_)
      · skip
        refine RW.seq ?_
        refine RW.region ?_
        refine RL.ev rfl rfl (ev_buildL (cs := [.int .i64 (0), .string ByteArray.empty, .int .i64 (0), .int .i64 (0), .int .i64 (0), .slice none 0 0]) Try.underlying38 zero38 (places := #[(0, 1), (1, 1), (2, 1), (3, 1), (4, 1), (5, 1)]) (by intro w; kernel_rfl) (pl := []) rfl (ps := []) rfl (zc := [.int .i64 (0), .string ByteArray.empty, .int .i64 (0), .int .i64 (0), .int .i64 (0), .slice none 0 0]) rfl rfl) ?_
        refine RL.ev rfl rfl ev_move ?_
        refine RL.op rfl rfl (op_call1 Try.func36 rfl rfl rfl ((end_calls _ _ _ ((numR (numR (r, 0) 8).1 8).1) _ (Rdr.says hN 0 rfl)).mono ?_))
        rintro _ _ ⟨rfl, rfl⟩
        refine RL.op rfl rfl (opN_storeAll (vs := [.int .i64 (0), .string ByteArray.empty, .int .i64 (0), .int .i64 (0), .int .i64 (0), .slice none 0 0]) sz38 rfl rfl rfl (by intro u hu; simp only [List.mem_cons, List.not_mem_nil, or_false] at hu; rcases hu with rfl | rfl | rfl | rfl | rfl | rfl <;> first | rfl) hN 3 rfl rfl ?_)
        intro w35 hN_
        clear hN
        have hN : Now w none_ w35 [_, _, _, _] := hN_
        clear hN_
        refine RL.ev rfl rfl ev_assign ?_
        refine RL.nil ?_
        refine thenN ?_
        refine RW.ret ?_
        refine thenR ?_
        refine retI (RV.cellTmp rfl rfl (run_cell (hN.blk 3 rfl) Try.underlying38 rfl sz38)) ?_
        have hq : readR l = (Req.zero, (endR ((numR (numR (r, 0) 8).1 8).1))) := by rw [hrd, if_neg (by omega), readK_5 (.inr hk), finR_bad hbad]
        refine ⟨.agg #[.int .i64 (0), .string ByteArray.empty, .int .i64 (0), .int .i64 (0), .int .i64 (0), .slice none 0 0], (endR ((numR (numR (r, 0) 8).1 8).1)), rfl, ?_, ?_, hN.ext0⟩
        · rw [hq]; exact ReqV.zero _
        · rw [hq]
      · skip
        refine RW.skip ?_
        refine thenN ?_
        refine RW.seq ?_
        refine RW.region ?_
        refine RL.ev rfl rfl (ev_loadAll (cs := [.int .i64 ((c.toNat : Int)), .string ByteArray.empty, .int .i64 (0), .int .i64 ((toI (numR (r, 0) 8).2)), .int .i64 ((toI (numR (numR (r, 0) 8).1 8).2)), .slice none 0 0]) Try.underlying38 rfl sz38 rfl (hN.blk 1 rfl)) ?_
        refine RL.op rfl rfl (opN_storeAll (vs := [.int .i64 ((c.toNat : Int)), .string ByteArray.empty, .int .i64 (0), .int .i64 ((toI (numR (r, 0) 8).2)), .int .i64 ((toI (numR (numR (r, 0) 8).1 8).2)), .slice none 0 0]) sz38 rfl rfl rfl (by intro u hu; simp only [List.mem_cons, List.not_mem_nil, or_false] at hu; rcases hu with rfl | rfl | rfl | rfl | rfl | rfl <;> first | rfl) hN 3 rfl rfl ?_)
        intro w36 hN_
        clear hN
        have hN : Now w none_ w36 [_, _, _, _] := hN_
        clear hN_
        refine RL.ev rfl rfl ev_assign ?_
        refine RL.nil ?_
        refine thenN ?_
        refine RW.ret ?_
        refine retI (RV.cellTmp rfl rfl (run_cell (hN.blk 3 rfl) Try.underlying38 rfl sz38)) ?_
        have hq : readR l = (⟨(c.toNat : Int), [], 0, (toI (numR (r, 0) 8).2), (toI (numR (numR (r, 0) 8).1 8).2), []⟩, 0) := by rw [hrd, if_neg (by omega), readK_5 (.inr hk), finR_ok hbad]
        refine ⟨.agg #[.int .i64 ((c.toNat : Int)), .string ByteArray.empty, .int .i64 (0), .int .i64 ((toI (numR (r, 0) 8).2)), .int .i64 ((toI (numR (numR (r, 0) 8).1 8).2)), .slice none 0 0], 0, rfl, ?_, ?_, hN.ext0⟩
        · rw [hq]; exact ⟨_, rfl, (Sl.nil _ _)⟩
        · rw [hq]
    · skip
      refine RW.draw rfl (fun u => Now w none_ u [.blk g10 [.int .i64 ((c.toNat : Int)), .string ByteArray.empty, .int .i64 (0), .int .i64 (0), .int .i64 (0), .slice none 0 0] 38, Rdr 94 lo3 hi3 g3 (r, 0), .blk g1 [.int .i64 (0), .string ByteArray.empty, .int .i64 (0), .int .i64 (0), .int .i64 (0), .slice none 0 0] 38]) ?_
      replace hN := hN.ext (Ext.drew w11)
      refine RA.take (i := 1) rfl rfl (by kernel_rfl) (by kernel_rfl) (by kernel_rfl) (by intro _ _ _ h; exact h) rfl hN (fun w hS => (ev_fieldAddr Try.underlying38 rfl sz3 (by decide) rfl)) ?_
      refine RA.take (i := 2) rfl rfl (by kernel_rfl) (by kernel_rfl) (by kernel_rfl) (by intro _ _ _ h; exact h) rfl hN (fun w hS => (ev_loadB Try.underlying3 rfl rfl (hS.blk 0 rfl) rfl)) ?_
      refine RA.only (i := 0) (by kernel_rfl) rfl rfl rfl (op_call0 Try.func47 rfl rfl ((kinds_calls _).mono ?_))
      rintro _ w37 ⟨b37, rfl, hC_⟩
      have hN_ := hN.call0 hC_
      clear hC_
      clear hN
      have hN : Now w none_ w37 [_, _, _, _] := hN_
      clear hN_
      refine ⟨(hN.sub [1, 2, 3] (by decide) rfl), ?_⟩
      refine RA.only (i := 3) (by kernel_rfl) rfl rfl rfl (OpR.ev (ev_lookT (v := .func (.func 65) #[] #[]) Try.underlying86 (ke_int Try.underlying3) (hN.mp 0 rfl) rfl rfl (by rw [hk]; rfl)) ⟨(hN.sub [1, 2, 3] (by decide) rfl), ?_⟩)
      refine RA.take (i := 4) rfl rfl (by kernel_rfl) (by kernel_rfl) (by kernel_rfl) (by intro _ _ _ h; exact h) rfl (hN.sub [1, 2, 3] (by decide) rfl) (fun w hS => ev_move) ?_
      refine RA.take (i := 5) rfl rfl (by kernel_rfl) (by kernel_rfl) (by kernel_rfl) (by intro _ _ _ h; exact h) rfl (hN.sub [1, 2, 3] (by decide) rfl) (fun w hS => (ev_extract rfl rfl)) ?_
      refine RA.take (i := 6) rfl rfl (by kernel_rfl) (by kernel_rfl) (by kernel_rfl) (by intro _ _ _ h; exact h) rfl (hN.sub [1, 2, 3] (by decide) rfl) (fun w hS => (ev_extract rfl rfl)) ?_
      refine RA.take (i := 7) rfl rfl (by kernel_rfl) (by kernel_rfl) (by kernel_rfl) (by intro _ _ _ h; exact h) rfl (hN.sub [1, 2, 3] (by decide) rfl) (fun w hS => ev_assign) ?_
      refine RA.take (i := 8) rfl rfl (by kernel_rfl) (by kernel_rfl) (by kernel_rfl) (by intro _ _ _ h; exact h) rfl (hN.sub [1, 2, 3] (by decide) rfl) (fun w hS => ev_assign) ?_
      refine RA.done (by kernel_rfl) ?_
      refine thenN ?_
      refine RW.seq ?_
      refine RW.seq ?_
      refine RW.region ?_
      refine RL.ev rfl rfl ev_move ?_
      refine RL.ev rfl rfl (ev_not rfl) ?_
      refine RL.nil ?_
      refine thenN ?_
      refine RW.condF rfl ?_
      refine RW.skip ?_
      refine thenN ?_
      refine RW.seq ?_
      refine RW.seq ?_
      refine RW.region ?_
      refine RL.ev rfl rfl ev_move ?_
      refine RL.ev rfl rfl ev_move ?_
      refine RL.op rfl rfl (op_callw2 (first := #[]) (captured := #[]) (v0 := .pointer (some ⟨g3, 0, none⟩)) (v1 := .pointer (some ⟨g10, 0, none⟩)) (args := #[.pointer (some ⟨g3, 0, none⟩), .pointer (some ⟨g10, 0, none⟩)]) Try.func65 rfl rfl (by simp) rfl rfl rfl ((kmany_calls _ _ _ _ (r, 0) ((c.toNat : Int)) _ (hN.pickL (M := [_, _]) [2, 1] (by decide) rfl) (by dsimp only; omega)).mono ?_))
      rintro _ w38 ⟨v38, rfl, hC_⟩
      have hN_ := Now.callA (M := [_, _]) (N := [_, _]) (hN.sub [2, 1, 0, 3] (by decide) rfl) hC_
      clear hC_
      clear hN
      have hN : Now w none_ w38 [_, _, _, _, _] := hN_
      clear hN_
      refine RL.nil ?_
      refine thenN ?_
      refine RW.seq ?_
      refine RW.region ?_
      refine RL.ev rfl rfl ev_move ?_
      refine RL.op rfl rfl (op_call1 Try.func36 rfl rfl rfl ((end_calls _ _ _ ((intsR (numR (r, 0) 8).1 1000).1) _ (Rdr.says hN 1 rfl)).mono ?_))
      rintro _ _ ⟨rfl, rfl⟩
      refine RL.ev rfl rfl (ev_neq rfl rfl) ?_
      refine RL.nil ?_
      refine thenN ?_
      refine RW.condP _ rfl (fun hbad => ?_) (fun hbad => ?_)
      · skip
        refine RW.seq ?_
        refine RW.region ?_
        refine RL.ev rfl rfl (ev_buildL (cs := [.int .i64 (0), .string ByteArray.empty, .int .i64 (0), .int .i64 (0), .int .i64 (0), .slice none 0 0]) Try.underlying38 zero38 (places := #[(0, 1), (1, 1), (2, 1), (3, 1), (4, 1), (5, 1)]) (by intro w; kernel_rfl) (pl := []) rfl (ps := []) rfl (zc := [.int .i64 (0), .string ByteArray.empty, .int .i64 (0), .int .i64 (0), .int .i64 (0), .slice none 0 0]) rfl rfl) ?_
        refine RL.ev rfl rfl ev_move ?_
        refine RL.op rfl rfl (op_call1 Try.func36 rfl rfl rfl ((end_calls _ _ _ ((intsR (numR (r, 0) 8).1 1000).1) _ (Rdr.says hN 1 rfl)).mono ?_))
        rintro _ _ ⟨rfl, rfl⟩
        refine RL.op rfl rfl (opN_storeAll (vs := [.int .i64 (0), .string ByteArray.empty, .int .i64 (0), .int .i64 (0), .int .i64 (0), .slice none 0 0]) sz38 rfl rfl rfl (by intro u hu; simp only [List.mem_cons, List.not_mem_nil, or_false] at hu; rcases hu with rfl | rfl | rfl | rfl | rfl | rfl <;> first | rfl) hN 4 rfl rfl ?_)
        intro w41 hN_
        clear hN
        have hN : Now w none_ w41 [_, _, _, _, _] := hN_
        clear hN_
        refine RL.ev rfl rfl ev_assign ?_
        refine RL.nil ?_
        refine thenN ?_
        refine RW.ret ?_
        refine thenR ?_
        refine retI (RV.cellTmp rfl rfl (run_cell (hN.blk 4 rfl) Try.underlying38 rfl sz38)) ?_
        have hq : readR l = (Req.zero, (endR ((intsR (numR (r, 0) 8).1 1000).1))) := by rw [hrd, if_neg (by omega), readK_7 hk, finR_bad hbad]
        refine ⟨.agg #[.int .i64 (0), .string ByteArray.empty, .int .i64 (0), .int .i64 (0), .int .i64 (0), .slice none 0 0], (endR ((intsR (numR (r, 0) 8).1 1000).1)), rfl, ?_, ?_, hN.ext0⟩
        · rw [hq]; exact ReqV.zero _
        · rw [hq]
      · skip
        refine RW.skip ?_
        refine thenN ?_
        refine RW.seq ?_
        refine RW.region ?_
        refine RL.ev rfl rfl (ev_loadAll (cs := [.int .i64 ((c.toNat : Int)), .string ByteArray.empty, .int .i64 (0), .int .i64 ((toI (numR (r, 0) 8).2)), .int .i64 (0), v38]) Try.underlying38 rfl sz38 rfl (hN.blk 2 rfl)) ?_
        refine RL.op rfl rfl (opN_storeAll (vs := [.int .i64 ((c.toNat : Int)), .string ByteArray.empty, .int .i64 (0), .int .i64 ((toI (numR (r, 0) 8).2)), .int .i64 (0), v38]) sz38 rfl rfl rfl (by intro u hu; simp only [List.mem_cons, List.not_mem_nil, or_false] at hu; rcases hu with rfl | rfl | rfl | rfl | rfl | rfl <;> first | rfl | exact (hN.sl 0 rfl).one1) hN 4 rfl rfl ?_)
        intro w42 hN_
        clear hN
        have hN : Now w none_ w42 [_, _, _, _, _] := hN_
        clear hN_
        refine RL.ev rfl rfl ev_assign ?_
        refine RL.nil ?_
        refine thenN ?_
        refine RW.ret ?_
        refine retI (RV.cellTmp rfl rfl (run_cell (hN.blk 4 rfl) Try.underlying38 rfl sz38)) ?_
        have hq : readR l = (⟨(c.toNat : Int), [], 0, (toI (numR (r, 0) 8).2), 0, (intsR (numR (r, 0) 8).1 1000).2⟩, 0) := by rw [hrd, if_neg (by omega), readK_7 hk, finR_ok hbad]
        refine ⟨.agg #[.int .i64 ((c.toNat : Int)), .string ByteArray.empty, .int .i64 (0), .int .i64 ((toI (numR (r, 0) 8).2)), .int .i64 (0), v38], 0, rfl, ?_, ?_, hN.ext0⟩
        · rw [hq]; exact ⟨_, rfl, (hN.sl 0 rfl)⟩
        · rw [hq]
    · skip
      refine RW.draw rfl (fun u => Now w none_ u [.blk g10 [.int .i64 ((c.toNat : Int)), .string ByteArray.empty, .int .i64 (0), .int .i64 (0), .int .i64 (0), .slice none 0 0] 38, Rdr 94 lo3 hi3 g3 (r, 0), .blk g1 [.int .i64 (0), .string ByteArray.empty, .int .i64 (0), .int .i64 (0), .int .i64 (0), .slice none 0 0] 38]) ?_
      replace hN := hN.ext (Ext.drew w11)
      refine RA.take (i := 1) rfl rfl (by kernel_rfl) (by kernel_rfl) (by kernel_rfl) (by intro _ _ _ h; exact h) rfl hN (fun w hS => (ev_fieldAddr Try.underlying38 rfl sz3 (by decide) rfl)) ?_
      refine RA.take (i := 2) rfl rfl (by kernel_rfl) (by kernel_rfl) (by kernel_rfl) (by intro _ _ _ h; exact h) rfl hN (fun w hS => (ev_loadB Try.underlying3 rfl rfl (hS.blk 0 rfl) rfl)) ?_
      refine RA.only (i := 0) (by kernel_rfl) rfl rfl rfl (op_call0 Try.func47 rfl rfl ((kinds_calls _).mono ?_))
      rintro _ w43 ⟨b43, rfl, hC_⟩
      have hN_ := hN.call0 hC_
      clear hC_
      clear hN
      have hN : Now w none_ w43 [_, _, _, _] := hN_
      clear hN_
      refine ⟨(hN.sub [1, 2, 3] (by decide) rfl), ?_⟩
      refine RA.only (i := 3) (by kernel_rfl) rfl rfl rfl (OpR.ev (ev_lookT (v := .func (.func 60) #[] #[]) Try.underlying86 (ke_int Try.underlying3) (hN.mp 0 rfl) rfl rfl (by rw [hk]; rfl)) ⟨(hN.sub [1, 2, 3] (by decide) rfl), ?_⟩)
      refine RA.take (i := 4) rfl rfl (by kernel_rfl) (by kernel_rfl) (by kernel_rfl) (by intro _ _ _ h; exact h) rfl (hN.sub [1, 2, 3] (by decide) rfl) (fun w hS => ev_move) ?_
      refine RA.take (i := 5) rfl rfl (by kernel_rfl) (by kernel_rfl) (by kernel_rfl) (by intro _ _ _ h; exact h) rfl (hN.sub [1, 2, 3] (by decide) rfl) (fun w hS => (ev_extract rfl rfl)) ?_
      refine RA.take (i := 6) rfl rfl (by kernel_rfl) (by kernel_rfl) (by kernel_rfl) (by intro _ _ _ h; exact h) rfl (hN.sub [1, 2, 3] (by decide) rfl) (fun w hS => (ev_extract rfl rfl)) ?_
      refine RA.take (i := 7) rfl rfl (by kernel_rfl) (by kernel_rfl) (by kernel_rfl) (by intro _ _ _ h; exact h) rfl (hN.sub [1, 2, 3] (by decide) rfl) (fun w hS => ev_assign) ?_
      refine RA.take (i := 8) rfl rfl (by kernel_rfl) (by kernel_rfl) (by kernel_rfl) (by intro _ _ _ h; exact h) rfl (hN.sub [1, 2, 3] (by decide) rfl) (fun w hS => ev_assign) ?_
      refine RA.done (by kernel_rfl) ?_
      refine thenN ?_
      refine RW.seq ?_
      refine RW.seq ?_
      refine RW.region ?_
      refine RL.ev rfl rfl ev_move ?_
      refine RL.ev rfl rfl (ev_not rfl) ?_
      refine RL.nil ?_
      refine thenN ?_
      refine RW.condF rfl ?_
      refine RW.skip ?_
      refine thenN ?_
      refine RW.seq ?_
      refine RW.seq ?_
      refine RW.region ?_
      refine RL.ev rfl rfl ev_move ?_
      refine RL.ev rfl rfl ev_move ?_
      refine RL.op rfl rfl (op_callw2 (first := #[]) (captured := #[]) (v0 := .pointer (some ⟨g3, 0, none⟩)) (v1 := .pointer (some ⟨g10, 0, none⟩)) (args := #[.pointer (some ⟨g3, 0, none⟩), .pointer (some ⟨g10, 0, none⟩)]) Try.func60 rfl rfl (by simp) rfl rfl rfl ((knone_calls _ _ _).mono ?_))
      rintro _ _ ⟨rfl, rfl⟩
      refine RL.nil ?_
      refine thenN ?_
      refine RW.seq ?_
      refine RW.region ?_
      refine RL.ev rfl rfl ev_move ?_
      refine RL.op rfl rfl (op_call1 Try.func36 rfl rfl rfl ((end_calls _ _ _ (r, 0) _ (Rdr.says hN 2 rfl)).mono ?_))
      rintro _ _ ⟨rfl, rfl⟩
      refine RL.ev rfl rfl (ev_neq rfl rfl) ?_
      refine RL.nil ?_
      refine thenN ?_
      refine RW.condP _ rfl (fun hbad => ?_) (fun hbad => ?_)
      · skip
        refine RW.seq ?_
        refine RW.region ?_
        refine RL.ev rfl rfl (ev_buildL (cs := [.int .i64 (0), .string ByteArray.empty, .int .i64 (0), .int .i64 (0), .int .i64 (0), .slice none 0 0]) Try.underlying38 zero38 (places := #[(0, 1), (1, 1), (2, 1), (3, 1), (4, 1), (5, 1)]) (by intro w; kernel_rfl) (pl := []) rfl (ps := []) rfl (zc := [.int .i64 (0), .string ByteArray.empty, .int .i64 (0), .int .i64 (0), .int .i64 (0), .slice none 0 0]) rfl rfl) ?_
        refine RL.ev rfl rfl ev_move ?_
        refine RL.op rfl rfl (op_call1 Try.func36 rfl rfl rfl ((end_calls _ _ _ (r, 0) _ (Rdr.says hN 2 rfl)).mono ?_))
        rintro _ _ ⟨rfl, rfl⟩
        refine RL.op rfl rfl (opN_storeAll (vs := [.int .i64 (0), .string ByteArray.empty, .int .i64 (0), .int .i64 (0), .int .i64 (0), .slice none 0 0]) sz38 rfl rfl rfl (by intro u hu; simp only [List.mem_cons, List.not_mem_nil, or_false] at hu; rcases hu with rfl | rfl | rfl | rfl | rfl | rfl <;> first | rfl) hN 3 rfl rfl ?_)
        intro w47 hN_
        clear hN
        have hN : Now w none_ w47 [_, _, _, _] := hN_
        clear hN_
        refine RL.ev rfl rfl ev_assign ?_
        refine RL.nil ?_
        refine thenN ?_
        refine RW.ret ?_
        refine thenR ?_
        refine retI (RV.cellTmp rfl rfl (run_cell (hN.blk 3 rfl) Try.underlying38 rfl sz38)) ?_
        have hq : readR l = (Req.zero, (endR (r, 0))) := by rw [hrd, if_neg (by omega), readK_3 (.inl hk), finR_bad hbad]
        refine ⟨.agg #[.int .i64 (0), .string ByteArray.empty, .int .i64 (0), .int .i64 (0), .int .i64 (0), .slice none 0 0], (endR (r, 0)), rfl, ?_, ?_, hN.ext0⟩
        · rw [hq]; exact ReqV.zero _
        · rw [hq]
      · skip
        refine RW.skip ?_
        refine thenN ?_
        refine RW.seq ?_
        refine RW.region ?_
        refine RL.ev rfl rfl (ev_loadAll (cs := [.int .i64 ((c.toNat : Int)), .string ByteArray.empty, .int .i64 (0), .int .i64 (0), .int .i64 (0), .slice none 0 0]) Try.underlying38 rfl sz38 rfl (hN.blk 1 rfl)) ?_
        refine RL.op rfl rfl (opN_storeAll (vs := [.int .i64 ((c.toNat : Int)), .string ByteArray.empty, .int .i64 (0), .int .i64 (0), .int .i64 (0), .slice none 0 0]) sz38 rfl rfl rfl (by intro u hu; simp only [List.mem_cons, List.not_mem_nil, or_false] at hu; rcases hu with rfl | rfl | rfl | rfl | rfl | rfl <;> first | rfl) hN 3 rfl rfl ?_)
        intro w48 hN_
        clear hN
        have hN : Now w none_ w48 [_, _, _, _] := hN_
        clear hN_
        refine RL.ev rfl rfl ev_assign ?_
        refine RL.nil ?_
        refine thenN ?_
        refine RW.ret ?_
        refine retI (RV.cellTmp rfl rfl (run_cell (hN.blk 3 rfl) Try.underlying38 rfl sz38)) ?_
        have hq : readR l = (⟨(c.toNat : Int), [], 0, 0, 0, []⟩, 0) := by rw [hrd, if_neg (by omega), readK_3 (.inl hk), finR_ok hbad]
        refine ⟨.agg #[.int .i64 ((c.toNat : Int)), .string ByteArray.empty, .int .i64 (0), .int .i64 (0), .int .i64 (0), .slice none 0 0], 0, rfl, ?_, ?_, hN.ext0⟩
        · rw [hq]; exact ⟨_, rfl, (Sl.nil _ _)⟩
        · rw [hq]
    · skip
      refine RW.draw rfl (fun u => Now w none_ u [.blk g10 [.int .i64 ((c.toNat : Int)), .string ByteArray.empty, .int .i64 (0), .int .i64 (0), .int .i64 (0), .slice none 0 0] 38, Rdr 94 lo3 hi3 g3 (r, 0), .blk g1 [.int .i64 (0), .string ByteArray.empty, .int .i64 (0), .int .i64 (0), .int .i64 (0), .slice none 0 0] 38]) ?_
      replace hN := hN.ext (Ext.drew w11)
      refine RA.take (i := 1) rfl rfl (by kernel_rfl) (by kernel_rfl) (by kernel_rfl) (by intro _ _ _ h; exact h) rfl hN (fun w hS => (ev_fieldAddr Try.underlying38 rfl sz3 (by decide) rfl)) ?_
      refine RA.take (i := 2) rfl rfl (by kernel_rfl) (by kernel_rfl) (by kernel_rfl) (by intro _ _ _ h; exact h) rfl hN (fun w hS => (ev_loadB Try.underlying3 rfl rfl (hS.blk 0 rfl) rfl)) ?_
      refine RA.only (i := 0) (by kernel_rfl) rfl rfl rfl (op_call0 Try.func47 rfl rfl ((kinds_calls _).mono ?_))
      rintro _ w49 ⟨b49, rfl, hC_⟩
      have hN_ := hN.call0 hC_
      clear hC_
      clear hN
      have hN : Now w none_ w49 [_, _, _, _] := hN_
      clear hN_
      refine ⟨(hN.sub [1, 2, 3] (by decide) rfl), ?_⟩
      refine RA.only (i := 3) (by kernel_rfl) rfl rfl rfl (OpR.ev (ev_lookT (v := .func (.func 60) #[] #[]) Try.underlying86 (ke_int Try.underlying3) (hN.mp 0 rfl) rfl rfl (by rw [hk]; rfl)) ⟨(hN.sub [1, 2, 3] (by decide) rfl), ?_⟩)
      refine RA.take (i := 4) rfl rfl (by kernel_rfl) (by kernel_rfl) (by kernel_rfl) (by intro _ _ _ h; exact h) rfl (hN.sub [1, 2, 3] (by decide) rfl) (fun w hS => ev_move) ?_
      refine RA.take (i := 5) rfl rfl (by kernel_rfl) (by kernel_rfl) (by kernel_rfl) (by intro _ _ _ h; exact h) rfl (hN.sub [1, 2, 3] (by decide) rfl) (fun w hS => (ev_extract rfl rfl)) ?_
      refine RA.take (i := 6) rfl rfl (by kernel_rfl) (by kernel_rfl) (by kernel_rfl) (by intro _ _ _ h; exact h) rfl (hN.sub [1, 2, 3] (by decide) rfl) (fun w hS => (ev_extract rfl rfl)) ?_
      refine RA.take (i := 7) rfl rfl (by kernel_rfl) (by kernel_rfl) (by kernel_rfl) (by intro _ _ _ h; exact h) rfl (hN.sub [1, 2, 3] (by decide) rfl) (fun w hS => ev_assign) ?_
      refine RA.take (i := 8) rfl rfl (by kernel_rfl) (by kernel_rfl) (by kernel_rfl) (by intro _ _ _ h; exact h) rfl (hN.sub [1, 2, 3] (by decide) rfl) (fun w hS => ev_assign) ?_
      refine RA.done (by kernel_rfl) ?_
      refine thenN ?_
      refine RW.seq ?_
      refine RW.seq ?_
      refine RW.region ?_
      refine RL.ev rfl rfl ev_move ?_
      refine RL.ev rfl rfl (ev_not rfl) ?_
      refine RL.nil ?_
      refine thenN ?_
      refine RW.condF rfl ?_
      refine RW.skip ?_
      refine thenN ?_
      refine RW.seq ?_
      refine RW.seq ?_
      refine RW.region ?_
      refine RL.ev rfl rfl ev_move ?_
      refine RL.ev rfl rfl ev_move ?_
      refine RL.op rfl rfl (op_callw2 (first := #[]) (captured := #[]) (v0 := .pointer (some ⟨g3, 0, none⟩)) (v1 := .pointer (some ⟨g10, 0, none⟩)) (args := #[.pointer (some ⟨g3, 0, none⟩), .pointer (some ⟨g10, 0, none⟩)]) Try.func60 rfl rfl (by simp) rfl rfl rfl ((knone_calls _ _ _).mono ?_))
      rintro _ _ ⟨rfl, rfl⟩
      refine RL.nil ?_
      refine thenN ?_
      refine RW.seq ?_
      refine RW.region ?_
      refine RL.ev rfl rfl ev_move ?_
      refine RL.op rfl rfl (op_call1 Try.func36 rfl rfl rfl ((end_calls _ _ _ (r, 0) _ (Rdr.says hN 2 rfl)).mono ?_))
      rintro _ _ ⟨rfl, rfl⟩
      refine RL.ev rfl rfl (ev_neq rfl rfl) ?_
      refine RL.nil ?_
      refine thenN ?_
      refine RW.condP _ rfl (fun hbad => ?_) (fun hbad => ?_)
      · skip
        refine RW.seq ?_
        refine RW.region ?_
        refine RL.ev rfl rfl (ev_buildL (cs := [.int .i64 (0), .string ByteArray.empty, .int .i64 (0), .int .i64 (0), .int .i64 (0), .slice none 0 0]) Try.underlying38 zero38 (places := #[(0, 1), (1, 1), (2, 1), (3, 1), (4, 1), (5, 1)]) (by intro w; kernel_rfl) (pl := []) rfl (ps := []) rfl (zc := [.int .i64 (0), .string ByteArray.empty, .int .i64 (0), .int .i64 (0), .int .i64 (0), .slice none 0 0]) rfl rfl) ?_
        refine RL.ev rfl rfl ev_move ?_
        refine RL.op rfl rfl (op_call1 Try.func36 rfl rfl rfl ((end_calls _ _ _ (r, 0) _ (Rdr.says hN 2 rfl)).mono ?_))
        rintro _ _ ⟨rfl, rfl⟩
        refine RL.op rfl rfl (opN_storeAll (vs := [.int .i64 (0), .string ByteArray.empty, .int .i64 (0), .int .i64 (0), .int .i64 (0), .slice none 0 0]) sz38 rfl rfl rfl (by intro u hu; simp only [List.mem_cons, List.not_mem_nil, or_false] at hu; rcases hu with rfl | rfl | rfl | rfl | rfl | rfl <;> first | rfl) hN 3 rfl rfl ?_)
        intro w53 hN_
        clear hN
        have hN : Now w none_ w53 [_, _, _, _] := hN_
        clear hN_
        refine RL.ev rfl rfl ev_assign ?_
        refine RL.nil ?_
        refine thenN ?_
        refine RW.ret ?_
        refine thenR ?_
        refine retI (RV.cellTmp rfl rfl (run_cell (hN.blk 3 rfl) Try.underlying38 rfl sz38)) ?_
        have hq : readR l = (Req.zero, (endR (r, 0))) := by rw [hrd, if_neg (by omega), readK_3 (.inr (.inl hk)), finR_bad hbad]
        refine ⟨.agg #[.int .i64 (0), .string ByteArray.empty, .int .i64 (0), .int .i64 (0), .int .i64 (0), .slice none 0 0], (endR (r, 0)), rfl, ?_, ?_, hN.ext0⟩
        · rw [hq]; exact ReqV.zero _
        · rw [hq]
      · skip
        refine RW.skip ?_
        refine thenN ?_
        refine RW.seq ?_
        refine RW.region ?_
        refine RL.ev rfl rfl (ev_loadAll (cs := [.int .i64 ((c.toNat : Int)), .string ByteArray.empty, .int .i64 (0), .int .i64 (0), .int .i64 (0), .slice none 0 0]) Try.underlying38 rfl sz38 rfl (hN.blk 1 rfl)) ?_
        refine RL.op rfl rfl (opN_storeAll (vs := [.int .i64 ((c.toNat : Int)), .string ByteArray.empty, .int .i64 (0), .int .i64 (0), .int .i64 (0), .slice none 0 0]) sz38 rfl rfl rfl (by intro u hu; simp only [List.mem_cons, List.not_mem_nil, or_false] at hu; rcases hu with rfl | rfl | rfl | rfl | rfl | rfl <;> first | rfl) hN 3 rfl rfl ?_)
        intro w54 hN_
        clear hN
        have hN : Now w none_ w54 [_, _, _, _] := hN_
        clear hN_
        refine RL.ev rfl rfl ev_assign ?_
        refine RL.nil ?_
        refine thenN ?_
        refine RW.ret ?_
        refine retI (RV.cellTmp rfl rfl (run_cell (hN.blk 3 rfl) Try.underlying38 rfl sz38)) ?_
        have hq : readR l = (⟨(c.toNat : Int), [], 0, 0, 0, []⟩, 0) := by rw [hrd, if_neg (by omega), readK_3 (.inr (.inl hk)), finR_ok hbad]
        refine ⟨.agg #[.int .i64 ((c.toNat : Int)), .string ByteArray.empty, .int .i64 (0), .int .i64 (0), .int .i64 (0), .slice none 0 0], 0, rfl, ?_, ?_, hN.ext0⟩
        · rw [hq]; exact ⟨_, rfl, (Sl.nil _ _)⟩
        · rw [hq]
    · skip
      refine RW.draw rfl (fun u => Now w none_ u [.blk g10 [.int .i64 ((c.toNat : Int)), .string ByteArray.empty, .int .i64 (0), .int .i64 (0), .int .i64 (0), .slice none 0 0] 38, Rdr 94 lo3 hi3 g3 (r, 0), .blk g1 [.int .i64 (0), .string ByteArray.empty, .int .i64 (0), .int .i64 (0), .int .i64 (0), .slice none 0 0] 38]) ?_
      replace hN := hN.ext (Ext.drew w11)
      refine RA.take (i := 1) rfl rfl (by kernel_rfl) (by kernel_rfl) (by kernel_rfl) (by intro _ _ _ h; exact h) rfl hN (fun w hS => (ev_fieldAddr Try.underlying38 rfl sz3 (by decide) rfl)) ?_
      refine RA.take (i := 2) rfl rfl (by kernel_rfl) (by kernel_rfl) (by kernel_rfl) (by intro _ _ _ h; exact h) rfl hN (fun w hS => (ev_loadB Try.underlying3 rfl rfl (hS.blk 0 rfl) rfl)) ?_
      refine RA.only (i := 0) (by kernel_rfl) rfl rfl rfl (op_call0 Try.func47 rfl rfl ((kinds_calls _).mono ?_))
      rintro _ w55 ⟨b55, rfl, hC_⟩
      have hN_ := hN.call0 hC_
      clear hC_
      clear hN
      have hN : Now w none_ w55 [_, _, _, _] := hN_
      clear hN_
      refine ⟨(hN.sub [1, 2, 3] (by decide) rfl), ?_⟩
      refine RA.only (i := 3) (by kernel_rfl) rfl rfl rfl (OpR.ev (ev_lookT (v := .func (.func 60) #[] #[]) Try.underlying86 (ke_int Try.underlying3) (hN.mp 0 rfl) rfl rfl (by rw [hk]; rfl)) ⟨(hN.sub [1, 2, 3] (by decide) rfl), ?_⟩)
      refine RA.take (i := 4) rfl rfl (by kernel_rfl) (by kernel_rfl) (by kernel_rfl) (by intro _ _ _ h; exact h) rfl (hN.sub [1, 2, 3] (by decide) rfl) (fun w hS => ev_move) ?_
      refine RA.take (i := 5) rfl rfl (by kernel_rfl) (by kernel_rfl) (by kernel_rfl) (by intro _ _ _ h; exact h) rfl (hN.sub [1, 2, 3] (by decide) rfl) (fun w hS => (ev_extract rfl rfl)) ?_
      refine RA.take (i := 6) rfl rfl (by kernel_rfl) (by kernel_rfl) (by kernel_rfl) (by intro _ _ _ h; exact h) rfl (hN.sub [1, 2, 3] (by decide) rfl) (fun w hS => (ev_extract rfl rfl)) ?_
      refine RA.take (i := 7) rfl rfl (by kernel_rfl) (by kernel_rfl) (by kernel_rfl) (by intro _ _ _ h; exact h) rfl (hN.sub [1, 2, 3] (by decide) rfl) (fun w hS => ev_assign) ?_
      refine RA.take (i := 8) rfl rfl (by kernel_rfl) (by kernel_rfl) (by kernel_rfl) (by intro _ _ _ h; exact h) rfl (hN.sub [1, 2, 3] (by decide) rfl) (fun w hS => ev_assign) ?_
      refine RA.done (by kernel_rfl) ?_
      refine thenN ?_
      refine RW.seq ?_
      refine RW.seq ?_
      refine RW.region ?_
      refine RL.ev rfl rfl ev_move ?_
      refine RL.ev rfl rfl (ev_not rfl) ?_
      refine RL.nil ?_
      refine thenN ?_
      refine RW.condF rfl ?_
      refine RW.skip ?_
      refine thenN ?_
      refine RW.seq ?_
      refine RW.seq ?_
      refine RW.region ?_
      refine RL.ev rfl rfl ev_move ?_
      refine RL.ev rfl rfl ev_move ?_
      refine RL.op rfl rfl (op_callw2 (first := #[]) (captured := #[]) (v0 := .pointer (some ⟨g3, 0, none⟩)) (v1 := .pointer (some ⟨g10, 0, none⟩)) (args := #[.pointer (some ⟨g3, 0, none⟩), .pointer (some ⟨g10, 0, none⟩)]) Try.func60 rfl rfl (by simp) rfl rfl rfl ((knone_calls _ _ _).mono ?_))
      rintro _ _ ⟨rfl, rfl⟩
      refine RL.nil ?_
      refine thenN ?_
      refine RW.seq ?_
      refine RW.region ?_
      refine RL.ev rfl rfl ev_move ?_
      refine RL.op rfl rfl (op_call1 Try.func36 rfl rfl rfl ((end_calls _ _ _ (r, 0) _ (Rdr.says hN 2 rfl)).mono ?_))
      rintro _ _ ⟨rfl, rfl⟩
      refine RL.ev rfl rfl (ev_neq rfl rfl) ?_
      refine RL.nil ?_
      refine thenN ?_
      refine RW.condP _ rfl (fun hbad => ?_) (fun hbad => ?_)
      · skip
        refine RW.seq ?_
        refine RW.region ?_
        refine RL.ev rfl rfl (ev_buildL (cs := [.int .i64 (0), .string ByteArray.empty, .int .i64 (0), .int .i64 (0), .int .i64 (0), .slice none 0 0]) Try.underlying38 zero38 (places := #[(0, 1), (1, 1), (2, 1), (3, 1), (4, 1), (5, 1)]) (by intro w; kernel_rfl) (pl := []) rfl (ps := []) rfl (zc := [.int .i64 (0), .string ByteArray.empty, .int .i64 (0), .int .i64 (0), .int .i64 (0), .slice none 0 0]) rfl rfl) ?_
        refine RL.ev rfl rfl ev_move ?_
        refine RL.op rfl rfl (op_call1 Try.func36 rfl rfl rfl ((end_calls _ _ _ (r, 0) _ (Rdr.says hN 2 rfl)).mono ?_))
        rintro _ _ ⟨rfl, rfl⟩
        refine RL.op rfl rfl (opN_storeAll (vs := [.int .i64 (0), .string ByteArray.empty, .int .i64 (0), .int .i64 (0), .int .i64 (0), .slice none 0 0]) sz38 rfl rfl rfl (by intro u hu; simp only [List.mem_cons, List.not_mem_nil, or_false] at hu; rcases hu with rfl | rfl | rfl | rfl | rfl | rfl <;> first | rfl) hN 3 rfl rfl ?_)
        intro w59 hN_
        clear hN
        have hN : Now w none_ w59 [_, _, _, _] := hN_
        clear hN_
        refine RL.ev rfl rfl ev_assign ?_
        refine RL.nil ?_
        refine thenN ?_
        refine RW.ret ?_
        refine thenR ?_
        refine retI (RV.cellTmp rfl rfl (run_cell (hN.blk 3 rfl) Try.underlying38 rfl sz38)) ?_
        have hq : readR l = (Req.zero, (endR (r, 0))) := by rw [hrd, if_neg (by omega), readK_3 (.inr (.inr hk)), finR_bad hbad]
        refine ⟨.agg #[.int .i64 (0), .string ByteArray.empty, .int .i64 (0), .int .i64 (0), .int .i64 (0), .slice none 0 0], (endR (r, 0)), rfl, ?_, ?_, hN.ext0⟩
        · rw [hq]; exact ReqV.zero _
        · rw [hq]
      · skip
        refine RW.skip ?_
        refine thenN ?_
        refine RW.seq ?_
        refine RW.region ?_
        refine RL.ev rfl rfl (ev_loadAll (cs := [.int .i64 ((c.toNat : Int)), .string ByteArray.empty, .int .i64 (0), .int .i64 (0), .int .i64 (0), .slice none 0 0]) Try.underlying38 rfl sz38 rfl (hN.blk 1 rfl)) ?_
        refine RL.op rfl rfl (opN_storeAll (vs := [.int .i64 ((c.toNat : Int)), .string ByteArray.empty, .int .i64 (0), .int .i64 (0), .int .i64 (0), .slice none 0 0]) sz38 rfl rfl rfl (by intro u hu; simp only [List.mem_cons, List.not_mem_nil, or_false] at hu; rcases hu with rfl | rfl | rfl | rfl | rfl | rfl <;> first | rfl) hN 3 rfl rfl ?_)
        intro w60 hN_
        clear hN
        have hN : Now w none_ w60 [_, _, _, _] := hN_
        clear hN_
        refine RL.ev rfl rfl ev_assign ?_
        refine RL.nil ?_
        refine thenN ?_
        refine RW.ret ?_
        refine retI (RV.cellTmp rfl rfl (run_cell (hN.blk 3 rfl) Try.underlying38 rfl sz38)) ?_
        have hq : readR l = (⟨(c.toNat : Int), [], 0, 0, 0, []⟩, 0) := by rw [hrd, if_neg (by omega), readK_3 (.inr (.inr hk)), finR_ok hbad]
        refine ⟨.agg #[.int .i64 ((c.toNat : Int)), .string ByteArray.empty, .int .i64 (0), .int .i64 (0), .int .i64 (0), .slice none 0 0], 0, rfl, ?_, ?_, hN.ext0⟩
        · rw [hq]; exact ⟨_, rfl, (Sl.nil _ _)⟩
        · rw [hq]
    · skip
      refine RW.draw rfl (fun u => Now w none_ u [.blk g10 [.int .i64 ((c.toNat : Int)), .string ByteArray.empty, .int .i64 (0), .int .i64 (0), .int .i64 (0), .slice none 0 0] 38, Rdr 94 lo3 hi3 g3 (r, 0), .blk g1 [.int .i64 (0), .string ByteArray.empty, .int .i64 (0), .int .i64 (0), .int .i64 (0), .slice none 0 0] 38]) ?_
      replace hN := hN.ext (Ext.drew w11)
      refine RA.take (i := 1) rfl rfl (by kernel_rfl) (by kernel_rfl) (by kernel_rfl) (by intro _ _ _ h; exact h) rfl hN (fun w hS => (ev_fieldAddr Try.underlying38 rfl sz3 (by decide) rfl)) ?_
      refine RA.take (i := 2) rfl rfl (by kernel_rfl) (by kernel_rfl) (by kernel_rfl) (by intro _ _ _ h; exact h) rfl hN (fun w hS => (ev_loadB Try.underlying3 rfl rfl (hS.blk 0 rfl) rfl)) ?_
      refine RA.only (i := 0) (by kernel_rfl) rfl rfl rfl (op_call0 Try.func47 rfl rfl ((kinds_calls _).mono ?_))
      rintro _ w61 ⟨b61, rfl, hC_⟩
      have hN_ := hN.call0 hC_
      clear hC_
      clear hN
      have hN : Now w none_ w61 [_, _, _, _] := hN_
      clear hN_
      refine ⟨(hN.sub [1, 2, 3] (by decide) rfl), ?_⟩
      refine RA.only (i := 3) (by kernel_rfl) rfl rfl rfl (OpR.ev (ev_lookF Try.underlying86 (ke_int Try.underlying3) zero84 (hN.mp 0 rfl) rfl rfl (by simp only [kfind]; repeat (rw [if_neg (by omega)]))) ⟨(hN.sub [1, 2, 3] (by decide) rfl), ?_⟩)
      refine RA.take (i := 4) rfl rfl (by kernel_rfl) (by kernel_rfl) (by kernel_rfl) (by intro _ _ _ h; exact h) rfl (hN.sub [1, 2, 3] (by decide) rfl) (fun w hS => ev_move) ?_
      refine RA.take (i := 5) rfl rfl (by kernel_rfl) (by kernel_rfl) (by kernel_rfl) (by intro _ _ _ h; exact h) rfl (hN.sub [1, 2, 3] (by decide) rfl) (fun w hS => (ev_extract rfl rfl)) ?_
      refine RA.take (i := 6) rfl rfl (by kernel_rfl) (by kernel_rfl) (by kernel_rfl) (by intro _ _ _ h; exact h) rfl (hN.sub [1, 2, 3] (by decide) rfl) (fun w hS => (ev_extract rfl rfl)) ?_
      refine RA.take (i := 7) rfl rfl (by kernel_rfl) (by kernel_rfl) (by kernel_rfl) (by intro _ _ _ h; exact h) rfl (hN.sub [1, 2, 3] (by decide) rfl) (fun w hS => ev_assign) ?_
      refine RA.take (i := 8) rfl rfl (by kernel_rfl) (by kernel_rfl) (by kernel_rfl) (by intro _ _ _ h; exact h) rfl (hN.sub [1, 2, 3] (by decide) rfl) (fun w hS => ev_assign) ?_
      refine RA.done (by kernel_rfl) ?_
      refine thenN ?_
      refine RW.seq ?_
      refine RW.seq ?_
      refine RW.region ?_
      refine RL.ev rfl rfl ev_move ?_
      refine RL.ev rfl rfl (ev_not rfl) ?_
      refine RL.nil ?_
      refine thenN ?_
      refine RW.condT rfl ?_
      refine RW.seq ?_
      refine RW.region ?_
      refine RL.ev rfl rfl (ev_buildL (cs := [.int .i64 (0), .string ByteArray.empty, .int .i64 (0), .int .i64 (0), .int .i64 (0), .slice none 0 0]) Try.underlying38 zero38 (places := #[(0, 1), (1, 1), (2, 1), (3, 1), (4, 1), (5, 1)]) (by intro w; kernel_rfl) (pl := []) rfl (ps := []) rfl (zc := [.int .i64 (0), .string ByteArray.empty, .int .i64 (0), .int .i64 (0), .int .i64 (0), .slice none 0 0]) rfl rfl) ?_
      refine RL.op rfl rfl (opN_storeAll (vs := [.int .i64 (0), .string ByteArray.empty, .int .i64 (0), .int .i64 (0), .int .i64 (0), .slice none 0 0]) sz38 rfl rfl rfl (by intro u hu; simp only [List.mem_cons, List.not_mem_nil, or_false] at hu; rcases hu with rfl | rfl | rfl | rfl | rfl | rfl <;> first | rfl) hN 3 rfl rfl ?_)
      intro w62 hN_
      clear hN
      have hN : Now w none_ w62 [_, _, _, _] := hN_
      clear hN_
      refine RL.ev rfl rfl ev_assign ?_
      refine RL.nil ?_
      refine thenN ?_
      refine RW.ret ?_
      refine thenR ?_
      refine retI (RV.cellTmp rfl rfl (run_cell (hN.blk 3 rfl) Try.underlying38 rfl sz38)) ?_
      have hq : readR l = (Req.zero, 13) := by rw [hrd, if_pos (by omega)]
      refine ⟨.agg #[.int .i64 (0), .string ByteArray.empty, .int .i64 (0), .int .i64 (0), .int .i64 (0), .slice none 0 0], 13, rfl, ?_, ?_, hN.ext0⟩
      · rw [hq]; exact ReqV.zero _
      · rw [hq]

end Go.Proofs.Ytihchogjmgbipaa
