import Derived.Test.YtihchogjmgbipaaRefW2
import Derived.Test.YtihchogjmgbipaaWirePlain
set_option linter.unusedVariables false
set_option linter.unusedSimpArgs false
namespace Go.Proofs.Ytihchogjmgbipaa
open Go.RowKit Go.Rl

open Go.Codec
theorem zeroResp : (Try.prog.info? 41).map (·.zero) = some (some (.agg (respCs (.slice none 0 0) (.slice none 0 0) Resp.zero).toArray)) := by kernel_rfl

set_option maxHeartbeats 4000000 in
set_option maxRecDepth 100000 in
/-- postroad/wire.next -/
theorem next_at {lo hi g : Nat} {s s' : St} {m : Nat} {w : World} (hr : Rd 94 w lo hi g s) (hn : numR s 8 = (s', m)) (hm : m < 18446744073709551616) : Gives Try.prog 34 #[.pointer (some ⟨g, 0, none⟩)] w fun r w' => r = vi (toI m) ∧ Rd 94 w' lo hi g s' ∧ Rl.Mod (fun k => k = g) w w' := by
  refine Gives.start Try.func34 rfl (Nat.le_of_ble_eq_true rfl) ?_
  rw [args1]
  refine RW.seq ?_
  refine RW.region ?_
  refine RL.ev rfl rfl ev_assign ?_
  refine RL.nil ?_
  refine thenN ?_
  refine RW.seq ?_
  refine RW.region ?_
  refine RL.ev rfl rfl ev_move ?_
  refine RL.op rfl rfl (op_call2 Try.func33 rfl rfl rfl rfl ((num_at hr clip_8 hn).mono ?_))
  rintro _ w1 ⟨rfl, hr1, hm1, hs1⟩
  refine RL.ev rfl rfl (ev_conv Try.underlying39 Try.underlying3 rfl (wrap_i64n _ hm)) ?_
  refine RL.ev rfl rfl ev_assign ?_
  refine RL.nil ?_
  refine thenN ?_
  refine RW.ret ?_
  refine retI (RV.tmp rfl) ?_
  exact ⟨rfl, hr1, hm1⟩

set_option maxHeartbeats 4000000 in
set_option maxRecDepth 100000 in
/-- postroad/wire.number -/
theorem number_calls (x : Int) (w : World) : Gives Try.prog 42 #[vi x] w fun r w' => Own vb 5 w' w.heap.size r (num8 x) ∧ Ext w w' := by
  refine Gives.start Try.func42 rfl (Nat.le_of_ble_eq_true rfl) ?_
  rw [args1]
  refine RW.seq ?_
  refine RW.region ?_
  refine RL.ev rfl rfl ev_assign ?_
  refine RL.nil ?_
  refine thenN ?_
  refine RW.seq ?_
  refine RW.region ?_
  refine RL.ev rfl rfl ev_move ?_
  refine RL.ev rfl rfl (ev_conv Try.underlying3 Try.underlying39 rfl (wrap_u64 _)) ?_
  refine RL.op rfl rfl (op_call2 Try.func40 rfl rfl rfl rfl ((put_calls (toU x) 8 _ (toU_lt x)).mono ?_))
  rintro v1 w1 ⟨ho1, he1⟩
  rw [clip_8] at ho1
  refine RL.ev rfl rfl ev_assign ?_
  refine RL.nil ?_
  refine thenN ?_
  refine RW.ret ?_
  refine retI (RV.tmp rfl) ?_
  exact ⟨ho1, he1⟩

set_option maxHeartbeats 4000000 in
set_option maxRecDepth 100000 in
/-- postroad/wire.Hear -/
theorem hear_calls (v : Value) (l : List UInt8) (w : World) (hv : Sl vb w v l) (hl : l.length ≤ 1048576) : Gives Try.prog 18 #[v] w fun r w' => ∃ x e, r = .tuple #[x, vi e] ∧ RespV w' x (hearR l).1 ∧ e = (hearR l).2 ∧ Ext w w' := by
  refine Gives.start Try.func18 rfl (Nat.le_of_ble_eq_true rfl) ?_
  rw [args1]
  refine RW.seq ?_
  refine RW.region ?_
  refine RL.op rfl rfl (op_alloc (cs := respCs (.slice none 0 0) (.slice none 0 0) Resp.zero) zeroResp rfl ?_)
  intro w1 hb0 he1 hs1
  have hlens := hr_len l
  have hz1 := he1.size
  have hE1 := he1
  refine RL.ev rfl rfl ev_assign ?_
  refine RL.nil ?_
  refine thenN ?_
  refine RW.seq ?_
  refine RW.seq ?_
  refine RW.region ?_
  refine RL.ev rfl rfl ev_move ?_
  refine RL.ev rfl rfl (ev_lenS Try.underlying23 (hv.ext hE1) rfl) ?_
  refine RL.ev rfl rfl (ev_gtr rfl rfl) ?_
  refine RL.nil ?_
  refine thenN ?_
  refine RW.condPF _ rfl (by omega) ?_
  refine RW.skip ?_
  refine thenN ?_
  refine RW.seq ?_
  refine RW.region ?_
  refine RL.ev rfl rfl ev_move ?_
  refine RL.op rfl rfl (op_call1 Try.func32 rfl rfl rfl ((new_calls v l _ (hv.ext hE1) (by omega)).mono ?_))
  rintro _ w2 ⟨g, rfl, r_g, he2⟩
  have hz2 := he2.size
  have hE2 := hE1.trans he2
  replace hb0 := hb0.ext he2
  have b_r_g := r_g.lt
  refine RL.ev rfl rfl ev_assign ?_
  refine RL.nil ?_
  refine thenN ?_
  refine RW.seq ?_
  refine RW.region ?_
  refine RL.op rfl rfl (op_alloc (cs := respCs (.slice none 0 0) (.slice none 0 0) Resp.zero) zeroResp rfl ?_)
  intro w3 hbx he3 hs3
  have hz3 := he3.size
  have hE3 := hE2.trans he3
  replace hb0 := hb0.ext he3
  replace r_g := r_g.ext he3
  refine RL.nil ?_
  refine thenN ?_
  refine RW.seq ?_
  refine RW.region ?_
  refine RL.ev rfl rfl ev_move ?_
  refine RL.op rfl rfl (op_call2 Try.func33 rfl rfl rfl rfl ((num_at r_g (show clip 2 = 2 from rfl) (eta (hr1 l))).mono ?_))
  rintro _ w4 ⟨rfl, r_g, hm4, hs4⟩
  have hz4 := hm4.size
  have hE4 := hE3.then hm4 (fun i hi e => by omega)
  replace hb0 := hb0.mod hm4 (fun e => by omega)
  replace hbx := hbx.mod hm4 (fun e => by omega)
  refine RL.ev rfl rfl (ev_conv Try.underlying39 Try.underlying25 rfl (wrap_i64n _ (numR_lt _ _ (by decide)))) ?_
  refine RL.ev rfl rfl (ev_fieldAddr Try.underlying41 rfl sz25 (by decide) rfl) ?_
  refine RL.op rfl rfl (op_storeB (v := vi (toI (hr1 l).2)) sz25 rfl rfl (rfl) (rfl) hbx (by simp) ?_)
  intro w5 hbx hm5 hs5
  replace hbx : Blk w5 w2.heap.size [vi (toI (hr1 l).2), vi 0, vi 0, .slice none 0 0, .slice none 0 0, vi 0, vi 0, vi 0, .int .u64 0] 41 := hbx
  have hz5 := hm5.size
  have hE5 := hE4.then hm5 (fun i hi e => by omega)
  replace hb0 := hb0.mod hm5 (fun e => by omega)
  replace r_g := r_g.mod hm5 (fun k h1 h2 e => by omega)
  refine RL.nil ?_
  refine thenN ?_
  refine RW.seq ?_
  refine RW.region ?_
  refine RL.ev rfl rfl ev_move ?_
  refine RL.op rfl rfl (op_call1 Try.func34 rfl rfl rfl ((next_at r_g (eta (hr2 l)) (numR_lt _ _ (by decide))).mono ?_))
  rintro _ w6 ⟨rfl, r_g, hm6⟩
  have hz6 := hm6.size
  have hE6 := hE5.then hm6 (fun i hi e => by omega)
  replace hb0 := hb0.mod hm6 (fun e => by omega)
  replace hbx := hbx.mod hm6 (fun e => by omega)
  refine RL.ev rfl rfl ev_move ?_
  refine RL.op rfl rfl (op_call1 Try.func34 rfl rfl rfl ((next_at r_g (eta (hr3 l)) (numR_lt _ _ (by decide))).mono ?_))
  rintro _ w7 ⟨rfl, r_g, hm7⟩
  have hz7 := hm7.size
  have hE7 := hE6.then hm7 (fun i hi e => by omega)
  replace hb0 := hb0.mod hm7 (fun e => by omega)
  replace hbx := hbx.mod hm7 (fun e => by omega)
  refine RL.ev rfl rfl (ev_fieldAddr Try.underlying41 rfl sz3 (by decide) rfl) ?_
  refine RL.op rfl rfl (op_storeB (v := vi (toI (hr2 l).2)) sz3 rfl rfl (rfl) (rfl) hbx (by simp) ?_)
  intro w8 hbx hm8 hs8
  replace hbx : Blk w8 w2.heap.size [vi (toI (hr1 l).2), vi (toI (hr2 l).2), vi 0, .slice none 0 0, .slice none 0 0, vi 0, vi 0, vi 0, .int .u64 0] 41 := hbx
  have hz8 := hm8.size
  have hE8 := hE7.then hm8 (fun i hi e => by omega)
  replace hb0 := hb0.mod hm8 (fun e => by omega)
  replace r_g := r_g.mod hm8 (fun k h1 h2 e => by omega)
  refine RL.ev rfl rfl (ev_fieldAddr Try.underlying41 rfl sz3 (by decide) rfl) ?_
  refine RL.op rfl rfl (op_storeB (v := vi (toI (hr3 l).2)) sz3 rfl rfl (rfl) (rfl) hbx (by simp) ?_)
  intro w9 hbx hm9 hs9
  replace hbx : Blk w9 w2.heap.size [vi (toI (hr1 l).2), vi (toI (hr2 l).2), vi (toI (hr3 l).2), .slice none 0 0, .slice none 0 0, vi 0, vi 0, vi 0, .int .u64 0] 41 := hbx
  have hz9 := hm9.size
  have hE9 := hE8.then hm9 (fun i hi e => by omega)
  replace hb0 := hb0.mod hm9 (fun e => by omega)
  replace r_g := r_g.mod hm9 (fun k h1 h2 e => by omega)
  refine RL.nil ?_
  refine thenN ?_
  refine RW.seq ?_
  refine RW.region ?_
  refine RL.ev rfl rfl ev_move ?_
  refine RL.op rfl rfl (op_call2 Try.func35 rfl rfl rfl rfl ((rints_at r_g (by omega) (by decide) (by decide) (by omega) (eta (hr4 l))).mono ?_))
  rintro ds w10 ⟨o_ds, r_g, hm10⟩
  have hz10 := hm10.size
  have hE10 := hE9.then hm10 (fun i hi e => by omega)
  replace hb0 := hb0.mod hm10 (fun e => by omega)
  replace hbx := hbx.mod hm10 (fun e => by omega)
  have b_o_ds := o_ds.lt
  refine RL.ev rfl rfl ev_move ?_
  refine RL.op rfl rfl (op_call2 Try.func35 rfl rfl rfl rfl ((rints_at r_g (by omega) (by decide) (by decide) (by omega) (eta (hr5 l))).mono ?_))
  rintro arcs w11 ⟨o_arcs, r_g, hm11⟩
  have hz11 := hm11.size
  have hE11 := hE10.then hm11 (fun i hi e => by omega)
  replace hb0 := hb0.mod hm11 (fun e => by omega)
  replace hbx := hbx.mod hm11 (fun e => by omega)
  replace o_ds := o_ds.mod hm11 (fun k hk e => by have := b_o_ds k hk; omega)
  have b_o_arcs := o_arcs.lt
  refine RL.ev rfl rfl (ev_fieldAddr Try.underlying41 rfl sz36 (by decide) rfl) ?_
  refine RL.op rfl rfl (op_storeB (v := ds) sz36 rfl rfl (o_ds.sl.cells1) (o_ds.sl.one1) hbx (by simp) ?_)
  intro w12 hbx hm12 hs12
  replace hbx : Blk w12 w2.heap.size [vi (toI (hr1 l).2), vi (toI (hr2 l).2), vi (toI (hr3 l).2), ds, .slice none 0 0, vi 0, vi 0, vi 0, .int .u64 0] 41 := hbx
  have hz12 := hm12.size
  have hE12 := hE11.then hm12 (fun i hi e => by omega)
  replace hb0 := hb0.mod hm12 (fun e => by omega)
  replace r_g := r_g.mod hm12 (fun k h1 h2 e => by omega)
  replace o_ds := o_ds.mod hm12 (fun k hk e => by have := b_o_ds k hk; omega)
  replace o_arcs := o_arcs.mod hm12 (fun k hk e => by have := b_o_arcs k hk; omega)
  refine RL.ev rfl rfl (ev_fieldAddr Try.underlying41 rfl sz36 (by decide) rfl) ?_
  refine RL.op rfl rfl (op_storeB (v := arcs) sz36 rfl rfl (o_arcs.sl.cells1) (o_arcs.sl.one1) hbx (by simp) ?_)
  intro w13 hbx hm13 hs13
  replace hbx : Blk w13 w2.heap.size [vi (toI (hr1 l).2), vi (toI (hr2 l).2), vi (toI (hr3 l).2), ds, arcs, vi 0, vi 0, vi 0, .int .u64 0] 41 := hbx
  have hz13 := hm13.size
  have hE13 := hE12.then hm13 (fun i hi e => by omega)
  replace hb0 := hb0.mod hm13 (fun e => by omega)
  replace r_g := r_g.mod hm13 (fun k h1 h2 e => by omega)
  replace o_ds := o_ds.mod hm13 (fun k hk e => by have := b_o_ds k hk; omega)
  replace o_arcs := o_arcs.mod hm13 (fun k hk e => by have := b_o_arcs k hk; omega)
  refine RL.nil ?_
  refine thenN ?_
  refine RW.seq ?_
  refine RW.region ?_
  refine RL.ev rfl rfl ev_move ?_
  refine RL.op rfl rfl (op_call1 Try.func34 rfl rfl rfl ((next_at r_g (eta (hr6 l)) (numR_lt _ _ (by decide))).mono ?_))
  rintro _ w14 ⟨rfl, r_g, hm14⟩
  have hz14 := hm14.size
  have hE14 := hE13.then hm14 (fun i hi e => by omega)
  replace hb0 := hb0.mod hm14 (fun e => by omega)
  replace hbx := hbx.mod hm14 (fun e => by omega)
  replace o_ds := o_ds.mod hm14 (fun k hk e => by have := b_o_ds k hk; omega)
  replace o_arcs := o_arcs.mod hm14 (fun k hk e => by have := b_o_arcs k hk; omega)
  refine RL.ev rfl rfl ev_move ?_
  refine RL.op rfl rfl (op_call1 Try.func34 rfl rfl rfl ((next_at r_g (eta (hr7 l)) (numR_lt _ _ (by decide))).mono ?_))
  rintro _ w15 ⟨rfl, r_g, hm15⟩
  have hz15 := hm15.size
  have hE15 := hE14.then hm15 (fun i hi e => by omega)
  replace hb0 := hb0.mod hm15 (fun e => by omega)
  replace hbx := hbx.mod hm15 (fun e => by omega)
  replace o_ds := o_ds.mod hm15 (fun k hk e => by have := b_o_ds k hk; omega)
  replace o_arcs := o_arcs.mod hm15 (fun k hk e => by have := b_o_arcs k hk; omega)
  refine RL.ev rfl rfl ev_move ?_
  refine RL.op rfl rfl (op_call1 Try.func34 rfl rfl rfl ((next_at r_g (eta (hr8 l)) (numR_lt _ _ (by decide))).mono ?_))
  rintro _ w16 ⟨rfl, r_g, hm16⟩
  have hz16 := hm16.size
  have hE16 := hE15.then hm16 (fun i hi e => by omega)
  replace hb0 := hb0.mod hm16 (fun e => by omega)
  replace hbx := hbx.mod hm16 (fun e => by omega)
  replace o_ds := o_ds.mod hm16 (fun k hk e => by have := b_o_ds k hk; omega)
  replace o_arcs := o_arcs.mod hm16 (fun k hk e => by have := b_o_arcs k hk; omega)
  refine RL.ev rfl rfl (ev_fieldAddr Try.underlying41 rfl sz3 (by decide) rfl) ?_
  refine RL.op rfl rfl (op_storeB (v := vi (toI (hr6 l).2)) sz3 rfl rfl (rfl) (rfl) hbx (by simp) ?_)
  intro w17 hbx hm17 hs17
  replace hbx : Blk w17 w2.heap.size [vi (toI (hr1 l).2), vi (toI (hr2 l).2), vi (toI (hr3 l).2), ds, arcs, vi (toI (hr6 l).2), vi 0, vi 0, .int .u64 0] 41 := hbx
  have hz17 := hm17.size
  have hE17 := hE16.then hm17 (fun i hi e => by omega)
  replace hb0 := hb0.mod hm17 (fun e => by omega)
  replace r_g := r_g.mod hm17 (fun k h1 h2 e => by omega)
  replace o_ds := o_ds.mod hm17 (fun k hk e => by have := b_o_ds k hk; omega)
  replace o_arcs := o_arcs.mod hm17 (fun k hk e => by have := b_o_arcs k hk; omega)
  refine RL.ev rfl rfl (ev_fieldAddr Try.underlying41 rfl sz3 (by decide) rfl) ?_
  refine RL.op rfl rfl (op_storeB (v := vi (toI (hr7 l).2)) sz3 rfl rfl (rfl) (rfl) hbx (by simp) ?_)
  intro w18 hbx hm18 hs18
  replace hbx : Blk w18 w2.heap.size [vi (toI (hr1 l).2), vi (toI (hr2 l).2), vi (toI (hr3 l).2), ds, arcs, vi (toI (hr6 l).2), vi (toI (hr7 l).2), vi 0, .int .u64 0] 41 := hbx
  have hz18 := hm18.size
  have hE18 := hE17.then hm18 (fun i hi e => by omega)
  replace hb0 := hb0.mod hm18 (fun e => by omega)
  replace r_g := r_g.mod hm18 (fun k h1 h2 e => by omega)
  replace o_ds := o_ds.mod hm18 (fun k hk e => by have := b_o_ds k hk; omega)
  replace o_arcs := o_arcs.mod hm18 (fun k hk e => by have := b_o_arcs k hk; omega)
  refine RL.ev rfl rfl (ev_fieldAddr Try.underlying41 rfl sz3 (by decide) rfl) ?_
  refine RL.op rfl rfl (op_storeB (v := vi (toI (hr8 l).2)) sz3 rfl rfl (rfl) (rfl) hbx (by simp) ?_)
  intro w19 hbx hm19 hs19
  replace hbx : Blk w19 w2.heap.size [vi (toI (hr1 l).2), vi (toI (hr2 l).2), vi (toI (hr3 l).2), ds, arcs, vi (toI (hr6 l).2), vi (toI (hr7 l).2), vi (toI (hr8 l).2), .int .u64 0] 41 := hbx
  have hz19 := hm19.size
  have hE19 := hE18.then hm19 (fun i hi e => by omega)
  replace hb0 := hb0.mod hm19 (fun e => by omega)
  replace r_g := r_g.mod hm19 (fun k h1 h2 e => by omega)
  replace o_ds := o_ds.mod hm19 (fun k hk e => by have := b_o_ds k hk; omega)
  replace o_arcs := o_arcs.mod hm19 (fun k hk e => by have := b_o_arcs k hk; omega)
  refine RL.nil ?_
  refine thenN ?_
  refine RW.seq ?_
  refine RW.region ?_
  refine RL.ev rfl rfl ev_move ?_
  refine RL.op rfl rfl (op_call2 Try.func33 rfl rfl rfl rfl ((num_at r_g clip_8 (eta (hr9 l))).mono ?_))
  rintro _ w20 ⟨rfl, r_g, hm20, hs20⟩
  have hz20 := hm20.size
  have hE20 := hE19.then hm20 (fun i hi e => by omega)
  replace hb0 := hb0.mod hm20 (fun e => by omega)
  replace hbx := hbx.mod hm20 (fun e => by omega)
  replace o_ds := o_ds.mod hm20 (fun k hk e => by have := b_o_ds k hk; omega)
  replace o_arcs := o_arcs.mod hm20 (fun k hk e => by have := b_o_arcs k hk; omega)
  refine RL.ev rfl rfl (ev_fieldAddr Try.underlying41 rfl sz39 (by decide) rfl) ?_
  refine RL.op rfl rfl (op_storeB (v := .int .u64 ((hr9 l).2 : Int)) sz39 rfl rfl (rfl) (rfl) hbx (by simp) ?_)
  intro w21 hbx hm21 hs21
  replace hbx : Blk w21 w2.heap.size [vi (toI (hr1 l).2), vi (toI (hr2 l).2), vi (toI (hr3 l).2), ds, arcs, vi (toI (hr6 l).2), vi (toI (hr7 l).2), vi (toI (hr8 l).2), .int .u64 ((hr9 l).2 : Int)] 41 := hbx
  have hz21 := hm21.size
  have hE21 := hE20.then hm21 (fun i hi e => by omega)
  replace hb0 := hb0.mod hm21 (fun e => by omega)
  replace r_g := r_g.mod hm21 (fun k h1 h2 e => by omega)
  replace o_ds := o_ds.mod hm21 (fun k hk e => by have := b_o_ds k hk; omega)
  replace o_arcs := o_arcs.mod hm21 (fun k hk e => by have := b_o_arcs k hk; omega)
  refine RL.nil ?_
  refine thenN ?_
  refine RW.seq ?_
  refine RW.seq ?_
  refine RW.region ?_
  refine RL.ev rfl rfl ev_move ?_
  refine RL.op rfl rfl (op_call1 Try.func36 rfl rfl rfl ((end_calls _ _ g _ _ r_g).mono ?_))
  rintro _ _ ⟨rfl, rfl⟩
  refine RL.ev rfl rfl ev_assign ?_
  refine RL.nil ?_
  refine thenN ?_
  refine RW.seq ?_
  refine RW.region ?_
  refine RL.ev rfl rfl ev_move ?_
  refine RL.ev rfl rfl (ev_neq rfl rfl) ?_
  refine RL.nil ?_
  refine thenN ?_
  refine RW.condP _ rfl (fun hbad => ?_) (fun hbad => ?_)
  · skip
    refine RW.seq ?_
    refine RW.region ?_
    refine RL.ev rfl rfl (ev_build (cs := respCs (.slice none 0 0) (.slice none 0 0) Resp.zero) Try.underlying41 zeroResp (places := #[(0, 1), (1, 1), (2, 1), (3, 1), (4, 1), (5, 1), (6, 1), (7, 1), (8, 1)]) (by intro w; kernel_rfl) (pl := []) rfl rfl rfl) ?_
    refine RL.ev rfl rfl ev_move ?_
    refine RL.op rfl rfl (op_storeAll (vs := respCs (.slice none 0 0) (.slice none 0 0) Resp.zero) sz41 rfl rfl rfl (oneResp rfl rfl _) hb0 rfl ?_)
    intro w22 hbz hm22 hs22
    have hE : Ext w w22 := hE21.then hm22 (fun i hi e => by omega)
    refine RL.ev rfl rfl ev_assign ?_
    refine RL.nil ?_
    refine thenN ?_
    refine RW.ret ?_
    refine thenR ?_
    skip
    have hq : hearR l = (Resp.zero, endR (hr9 l).1) := by
      unfold hearR
      rw [if_pos hbad]
    refine retI (RV.cellTmp rfl rfl (run_cell hbz Try.underlying41 rfl sz41)) ?_
    refine ⟨.agg (respCs (.slice none 0 0) (.slice none 0 0) Resp.zero).toArray, endR (hr9 l).1, rfl, ?_, ?_, hE⟩
    · rw [hq]; exact ⟨_, _, rfl, Sl.nil _ _, Sl.nil _ _⟩
    · rw [hq]
  · skip
    refine RW.skip ?_
    refine thenN ?_
    refine RW.seq ?_
    refine RW.region ?_
    refine RL.ev rfl rfl (ev_loadAll (cs := respCs ds arcs ⟨toI (hr1 l).2, toI (hr2 l).2, toI (hr3 l).2, (hr4 l).2, (hr5 l).2, toI (hr6 l).2, toI (hr7 l).2, toI (hr8 l).2, (hr9 l).2⟩) Try.underlying41 rfl sz41 rfl hbx) ?_
    refine RL.op rfl rfl (op_storeAll (vs := respCs ds arcs ⟨toI (hr1 l).2, toI (hr2 l).2, toI (hr3 l).2, (hr4 l).2, (hr5 l).2, toI (hr6 l).2, toI (hr7 l).2, toI (hr8 l).2, (hr9 l).2⟩) sz41 rfl rfl rfl (oneResp o_ds.sl.one1 o_arcs.sl.one1 _) hb0 rfl ?_)
    intro w22 hbz hm22 hs22
    have hE : Ext w w22 := hE21.then hm22 (fun i hi e => by omega)
    refine RL.ev rfl rfl ev_assign ?_
    refine RL.nil ?_
    refine thenN ?_
    refine RW.ret ?_
    skip
    have hq : hearR l = (⟨toI (hr1 l).2, toI (hr2 l).2, toI (hr3 l).2, (hr4 l).2, (hr5 l).2, toI (hr6 l).2, toI (hr7 l).2, toI (hr8 l).2, (hr9 l).2⟩, 0) := by
      unfold hearR
      rw [if_neg hbad]
    refine retI (RV.cellTmp rfl rfl (run_cell hbz Try.underlying41 rfl sz41)) ?_
    refine ⟨.agg (respCs ds arcs ⟨toI (hr1 l).2, toI (hr2 l).2, toI (hr3 l).2, (hr4 l).2, (hr5 l).2, toI (hr6 l).2, toI (hr7 l).2, toI (hr8 l).2, (hr9 l).2⟩).toArray, 0, rfl, ?_, ?_, hE⟩
    · rw [hq]; exact ⟨_, _, rfl, (o_ds.mod hm22 (fun k hk e => by have := b_o_ds k hk; omega)).sl, (o_arcs.mod hm22 (fun k hk e => by have := b_o_arcs k hk; omega)).sl⟩
    · rw [hq]

end Go.Proofs.Ytihchogjmgbipaa
