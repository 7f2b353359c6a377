import Derived.Test.YtihchogjmgbipaaWireW1
set_option linter.unusedVariables false
set_option linter.unusedSimpArgs false
namespace Go.Proofs.Ytihchogjmgbipaa
open Go.RowKit Go.Rl

open Go.Codec
theorem fill9 {ds arcs : Value} {e1 e2 e3 e6 e7 e8 : Int} {e9 : Int} {w1 w2 : World} {l1 l2 : List Int} (hd : Sl vi w1 ds l1) (ha : Sl vi w2 arcs l2) :
    Instr.fill (#[(0, 1), (1, 1), (2, 1), (3, 1), (4, 1), (5, 1), (6, 1), (7, 1), (8, 1)][·]?) (Value.agg (respCs (.slice none 0 0) (.slice none 0 0) Resp.zero).toArray).cells [(0, .int .i64 e1), (1, .int .i64 e2), (2, .int .i64 e3), (3, ds), (4, arcs), (5, .int .i64 e6), (6, .int .i64 e7), (7, .int .i64 e8), (8, .int .u64 e9)]
      = some [.int .i64 e1, .int .i64 e2, .int .i64 e3, ds, arcs, .int .i64 e6, .int .i64 e7, .int .i64 e8, .int .u64 e9].toArray := by
  obtain ⟨A, c, rfl, _, _, _⟩ := hd
  obtain ⟨A', c', rfl, _, _, _⟩ := ha
  kernel_rfl

set_option maxHeartbeats 4000000 in
set_option maxRecDepth 100000 in
/-- postroad/postroadref19.Hear -/
theorem refHear_calls (v : Value) (l : List UInt8) (w : World) (hv : Sl vb w v l) (hl : l.length ≤ 1048576) : Gives Try.prog 19 #[v] w fun r w' => ∃ x e, r = .tuple #[x, vi e] ∧ RespV w' x (hearR l).1 ∧ e = (hearR l).2 ∧ Ext w w' := by
  refine Gives.start Try.func19 rfl (Nat.le_of_ble_eq_true rfl) ?_
  rw [args1]
  have hB := hv.below
  have hOb_ := id hv
  obtain ⟨A0, c0, hv1, hcc, hmm, hcell⟩ := hOb_
  subst hv1
  refine RW.seq ?_
  refine RW.region ?_
  refine RL.op rfl rfl (op_alloc (cs := respCs (.slice none 0 0) (.slice none 0 0) Resp.zero) zeroResp rfl ?_)
  intro w1 hb0 he1 hs1
  have hz1 := he1.size
  have hE1 := he1
  have ox := hB.ext he1
  refine RL.ev rfl rfl ev_assign ?_
  refine RL.nil ?_
  refine thenN ?_
  refine RW.seq ?_
  refine RW.seq ?_
  refine RW.region ?_
  refine RL.ev rfl rfl ev_move ?_
  refine RL.ev rfl rfl (ev_lenS Try.underlying23 (hv.ext hE1) rfl) ?_
  refine RL.ev rfl rfl (ev_gtr rfl rfl) ?_
  refine RL.nil ?_
  refine thenN ?_
  refine RW.condPF _ rfl (by omega) ?_
  refine RW.skip ?_
  refine thenN ?_
  refine RW.seq ?_
  refine RW.region ?_
  refine RL.ev rfl rfl ev_move ?_
  refine RL.ev rfl rfl (ev_build (cs := [.slice A0 l.length c0, .int .i64 0]) Try.underlying73 zeroT (places := #[(0, 1), (1, 1)]) (by intro w; kernel_rfl) (pl := [(0, .tmp 28)]) rfl rfl rfl) ?_
  refine RL.op rfl rfl (op_call2 Try.func37 rfl rfl rfl rfl ((refNum_at (s := (l, 0)) ox (by omega) (show clip 2 = 2 from rfl) (eta (hr1 l))).mono ?_))
  rintro _ w2 ⟨x0, rfl, ox, he2⟩
  have hA_ := ox.sl
  obtain ⟨A1, c1, hx_, _, _, _⟩ := hA_
  subst hx_
  have hz2 := he2.size
  have hE2 := hE1.trans he2
  replace hb0 := hb0.ext he2
  refine RL.ev rfl rfl ev_move ?_
  refine RL.ev rfl rfl (ev_extract rfl rfl) ?_
  refine RL.ev rfl rfl (ev_extract rfl rfl) ?_
  refine RL.op rfl rfl (op_alloc (cs := [.slice none 0 0, .int .i64 0]) zeroT rfl ?_)
  intro w3 hbt he3 hs3
  have hz3 := he3.size
  have hE3 := hE2.trans he3
  replace hb0 := hb0.ext he3
  replace ox := ox.ext he3
  refine RL.op rfl rfl (op_storeAll (vs := [.slice A1 (hr1 l).1.1.length c1, .int .i64 (hr1 l).1.2]) sz73 rfl rfl rfl (oneTV _ _ _ _) hbt rfl ?_)
  intro w4 hbt hm4 hs4
  have hz4 := hm4.size
  have hE4 := hE3.then hm4 (fun i hi e => by omega)
  replace hb0 := hb0.mod hm4 (fun e => by omega)
  replace ox := ox.mod hm4 (fun k h1 e => by omega)
  refine RL.ev rfl rfl ev_assign ?_
  refine RL.nil ?_
  refine thenN ?_
  refine RW.seq ?_
  refine RW.region ?_
  refine RL.ev rfl rfl (ev_loadAll (cs := [.slice A1 (hr1 l).1.1.length c1, .int .i64 (hr1 l).1.2]) Try.underlying73 rfl sz73 rfl hbt) ?_
  refine RL.op rfl rfl (op_call2 Try.func37 rfl rfl rfl rfl ((refNum_at (s := (hr1 l).1) ox (by omega) clip_8 (eta (hr2 l))).mono ?_))
  rintro _ w5 ⟨x1, rfl, ox, he5⟩
  have hA_ := ox.sl
  obtain ⟨A2, c2, hx_, _, _, _⟩ := hA_
  subst hx_
  have hz5 := he5.size
  have hE5 := hE4.trans he5
  replace hb0 := hb0.ext he5
  refine RL.ev rfl rfl ev_move ?_
  refine RL.ev rfl rfl (ev_extract rfl rfl) ?_
  refine RL.ev rfl rfl (ev_extract rfl rfl) ?_
  refine RL.op rfl rfl (op_alloc (cs := [.slice none 0 0, .int .i64 0]) zeroT rfl ?_)
  intro w6 hbt he6 hs6
  have hz6 := he6.size
  have hE6 := hE5.trans he6
  replace hb0 := hb0.ext he6
  replace ox := ox.ext he6
  refine RL.op rfl rfl (op_storeAll (vs := [.slice A2 (hr2 l).1.1.length c2, .int .i64 (hr2 l).1.2]) sz73 rfl rfl rfl (oneTV _ _ _ _) hbt rfl ?_)
  intro w7 hbt hm7 hs7
  have hz7 := hm7.size
  have hE7 := hE6.then hm7 (fun i hi e => by omega)
  replace hb0 := hb0.mod hm7 (fun e => by omega)
  replace ox := ox.mod hm7 (fun k h1 e => by omega)
  refine RL.ev rfl rfl ev_assign ?_
  refine RL.nil ?_
  refine thenN ?_
  refine RW.seq ?_
  refine RW.region ?_
  refine RL.ev rfl rfl (ev_loadAll (cs := [.slice A2 (hr2 l).1.1.length c2, .int .i64 (hr2 l).1.2]) Try.underlying73 rfl sz73 rfl hbt) ?_
  refine RL.op rfl rfl (op_call2 Try.func37 rfl rfl rfl rfl ((refNum_at (s := (hr2 l).1) ox (by omega) clip_8 (eta (hr3 l))).mono ?_))
  rintro _ w8 ⟨x2, rfl, ox, he8⟩
  have hA_ := ox.sl
  obtain ⟨A3, c3, hx_, _, _, _⟩ := hA_
  subst hx_
  have hz8 := he8.size
  have hE8 := hE7.trans he8
  replace hb0 := hb0.ext he8
  refine RL.ev rfl rfl ev_move ?_
  refine RL.ev rfl rfl (ev_extract rfl rfl) ?_
  refine RL.ev rfl rfl (ev_extract rfl rfl) ?_
  refine RL.op rfl rfl (op_alloc (cs := [.slice none 0 0, .int .i64 0]) zeroT rfl ?_)
  intro w9 hbt he9 hs9
  have hz9 := he9.size
  have hE9 := hE8.trans he9
  replace hb0 := hb0.ext he9
  replace ox := ox.ext he9
  refine RL.op rfl rfl (op_storeAll (vs := [.slice A3 (hr3 l).1.1.length c3, .int .i64 (hr3 l).1.2]) sz73 rfl rfl rfl (oneTV _ _ _ _) hbt rfl ?_)
  intro w10 hbt hm10 hs10
  have hz10 := hm10.size
  have hE10 := hE9.then hm10 (fun i hi e => by omega)
  replace hb0 := hb0.mod hm10 (fun e => by omega)
  replace ox := ox.mod hm10 (fun k h1 e => by omega)
  refine RL.ev rfl rfl ev_assign ?_
  refine RL.nil ?_
  refine thenN ?_
  refine RW.seq ?_
  refine RW.region ?_
  refine RL.ev rfl rfl (ev_loadAll (cs := [.slice A3 (hr3 l).1.1.length c3, .int .i64 (hr3 l).1.2]) Try.underlying73 rfl sz73 rfl hbt) ?_
  refine RL.op rfl rfl (op_call2 Try.func38 rfl rfl rfl rfl ((refTakeInts_calls w.heap.size _ (hr3 l).1 1048576 _ ox (by omega) (by decide) (by decide)).mono ?_))
  rintro _ w11 ⟨x3, ds, rfl, ox, o_ds, he11⟩
  change SlB vb _ _ _ (hr4 l).1.1 at ox
  change Own vi _ _ _ _ (hr4 l).2 at o_ds
  have hA_ := ox.sl
  obtain ⟨A4, c4, hx_, _, _, _⟩ := hA_
  subst hx_
  have hz11 := he11.size
  have hE11 := hE10.trans he11
  replace hb0 := hb0.ext he11
  have b_o_ds := o_ds.lt
  refine RL.ev rfl rfl ev_move ?_
  refine RL.ev rfl rfl (ev_extract rfl rfl) ?_
  refine RL.ev rfl rfl (ev_extract rfl rfl) ?_
  refine RL.op rfl rfl (op_alloc (cs := [.slice none 0 0, .int .i64 0]) zeroT rfl ?_)
  intro w12 hbt he12 hs12
  have hz12 := he12.size
  have hE12 := hE11.trans he12
  replace hb0 := hb0.ext he12
  replace o_ds := o_ds.ext he12
  replace ox := ox.ext he12
  refine RL.op rfl rfl (op_storeAll (vs := [.slice A4 (hr4 l).1.1.length c4, .int .i64 (hr4 l).1.2]) sz73 rfl rfl rfl (oneTV _ _ _ _) hbt rfl ?_)
  intro w13 hbt hm13 hs13
  have hz13 := hm13.size
  have hE13 := hE12.then hm13 (fun i hi e => by omega)
  replace hb0 := hb0.mod hm13 (fun e => by omega)
  replace o_ds := o_ds.mod hm13 (fun k hk e => by have := b_o_ds k hk; omega)
  replace ox := ox.mod hm13 (fun k h1 e => by omega)
  refine RL.ev rfl rfl ev_assign ?_
  refine RL.nil ?_
  refine thenN ?_
  refine RW.seq ?_
  refine RW.region ?_
  refine RL.ev rfl rfl (ev_loadAll (cs := [.slice A4 (hr4 l).1.1.length c4, .int .i64 (hr4 l).1.2]) Try.underlying73 rfl sz73 rfl hbt) ?_
  refine RL.op rfl rfl (op_call2 Try.func38 rfl rfl rfl rfl ((refTakeInts_calls w.heap.size _ (hr4 l).1 1048576 _ ox (by omega) (by decide) (by decide)).mono ?_))
  rintro _ w14 ⟨x4, arcs, rfl, ox, o_arcs, he14⟩
  change SlB vb _ _ _ (hr5 l).1.1 at ox
  change Own vi _ _ _ _ (hr5 l).2 at o_arcs
  have hA_ := ox.sl
  obtain ⟨A5, c5, hx_, _, _, _⟩ := hA_
  subst hx_
  have hz14 := he14.size
  have hE14 := hE13.trans he14
  replace hb0 := hb0.ext he14
  replace o_ds := o_ds.ext he14
  have b_o_arcs := o_arcs.lt
  refine RL.ev rfl rfl ev_move ?_
  refine RL.ev rfl rfl (ev_extract rfl rfl) ?_
  refine RL.ev rfl rfl (ev_extract rfl rfl) ?_
  refine RL.op rfl rfl (op_alloc (cs := [.slice none 0 0, .int .i64 0]) zeroT rfl ?_)
  intro w15 hbt he15 hs15
  have hz15 := he15.size
  have hE15 := hE14.trans he15
  replace hb0 := hb0.ext he15
  replace o_ds := o_ds.ext he15
  replace o_arcs := o_arcs.ext he15
  replace ox := ox.ext he15
  refine RL.op rfl rfl (op_storeAll (vs := [.slice A5 (hr5 l).1.1.length c5, .int .i64 (hr5 l).1.2]) sz73 rfl rfl rfl (oneTV _ _ _ _) hbt rfl ?_)
  intro w16 hbt hm16 hs16
  have hz16 := hm16.size
  have hE16 := hE15.then hm16 (fun i hi e => by omega)
  replace hb0 := hb0.mod hm16 (fun e => by omega)
  replace o_ds := o_ds.mod hm16 (fun k hk e => by have := b_o_ds k hk; omega)
  replace o_arcs := o_arcs.mod hm16 (fun k hk e => by have := b_o_arcs k hk; omega)
  replace ox := ox.mod hm16 (fun k h1 e => by omega)
  refine RL.ev rfl rfl ev_assign ?_
  refine RL.nil ?_
  refine thenN ?_
  refine RW.seq ?_
  refine RW.region ?_
  refine RL.ev rfl rfl (ev_loadAll (cs := [.slice A5 (hr5 l).1.1.length c5, .int .i64 (hr5 l).1.2]) Try.underlying73 rfl sz73 rfl hbt) ?_
  refine RL.op rfl rfl (op_call2 Try.func37 rfl rfl rfl rfl ((refNum_at (s := (hr5 l).1) ox (by omega) clip_8 (eta (hr6 l))).mono ?_))
  rintro _ w17 ⟨x5, rfl, ox, he17⟩
  have hA_ := ox.sl
  obtain ⟨A6, c6, hx_, _, _, _⟩ := hA_
  subst hx_
  have hz17 := he17.size
  have hE17 := hE16.trans he17
  replace hb0 := hb0.ext he17
  replace o_ds := o_ds.ext he17
  replace o_arcs := o_arcs.ext he17
  refine RL.ev rfl rfl ev_move ?_
  refine RL.ev rfl rfl (ev_extract rfl rfl) ?_
  refine RL.ev rfl rfl (ev_extract rfl rfl) ?_
  refine RL.op rfl rfl (op_alloc (cs := [.slice none 0 0, .int .i64 0]) zeroT rfl ?_)
  intro w18 hbt he18 hs18
  have hz18 := he18.size
  have hE18 := hE17.trans he18
  replace hb0 := hb0.ext he18
  replace o_ds := o_ds.ext he18
  replace o_arcs := o_arcs.ext he18
  replace ox := ox.ext he18
  refine RL.op rfl rfl (op_storeAll (vs := [.slice A6 (hr6 l).1.1.length c6, .int .i64 (hr6 l).1.2]) sz73 rfl rfl rfl (oneTV _ _ _ _) hbt rfl ?_)
  intro w19 hbt hm19 hs19
  have hz19 := hm19.size
  have hE19 := hE18.then hm19 (fun i hi e => by omega)
  replace hb0 := hb0.mod hm19 (fun e => by omega)
  replace o_ds := o_ds.mod hm19 (fun k hk e => by have := b_o_ds k hk; omega)
  replace o_arcs := o_arcs.mod hm19 (fun k hk e => by have := b_o_arcs k hk; omega)
  replace ox := ox.mod hm19 (fun k h1 e => by omega)
  refine RL.ev rfl rfl ev_assign ?_
  refine RL.nil ?_
  refine thenN ?_
  refine RW.seq ?_
  refine RW.region ?_
  refine RL.ev rfl rfl (ev_loadAll (cs := [.slice A6 (hr6 l).1.1.length c6, .int .i64 (hr6 l).1.2]) Try.underlying73 rfl sz73 rfl hbt) ?_
  refine RL.op rfl rfl (op_call2 Try.func37 rfl rfl rfl rfl ((refNum_at (s := (hr6 l).1) ox (by omega) clip_8 (eta (hr7 l))).mono ?_))
  rintro _ w20 ⟨x6, rfl, ox, he20⟩
  have hA_ := ox.sl
  obtain ⟨A7, c7, hx_, _, _, _⟩ := hA_
  subst hx_
  have hz20 := he20.size
  have hE20 := hE19.trans he20
  replace hb0 := hb0.ext he20
  replace o_ds := o_ds.ext he20
  replace o_arcs := o_arcs.ext he20
  refine RL.ev rfl rfl ev_move ?_
  refine RL.ev rfl rfl (ev_extract rfl rfl) ?_
  refine RL.ev rfl rfl (ev_extract rfl rfl) ?_
  refine RL.op rfl rfl (op_alloc (cs := [.slice none 0 0, .int .i64 0]) zeroT rfl ?_)
  intro w21 hbt he21 hs21
  have hz21 := he21.size
  have hE21 := hE20.trans he21
  replace hb0 := hb0.ext he21
  replace o_ds := o_ds.ext he21
  replace o_arcs := o_arcs.ext he21
  replace ox := ox.ext he21
  refine RL.op rfl rfl (op_storeAll (vs := [.slice A7 (hr7 l).1.1.length c7, .int .i64 (hr7 l).1.2]) sz73 rfl rfl rfl (oneTV _ _ _ _) hbt rfl ?_)
  intro w22 hbt hm22 hs22
  have hz22 := hm22.size
  have hE22 := hE21.then hm22 (fun i hi e => by omega)
  replace hb0 := hb0.mod hm22 (fun e => by omega)
  replace o_ds := o_ds.mod hm22 (fun k hk e => by have := b_o_ds k hk; omega)
  replace o_arcs := o_arcs.mod hm22 (fun k hk e => by have := b_o_arcs k hk; omega)
  replace ox := ox.mod hm22 (fun k h1 e => by omega)
  refine RL.ev rfl rfl ev_assign ?_
  refine RL.nil ?_
  refine thenN ?_
  refine RW.seq ?_
  refine RW.region ?_
  refine RL.ev rfl rfl (ev_loadAll (cs := [.slice A7 (hr7 l).1.1.length c7, .int .i64 (hr7 l).1.2]) Try.underlying73 rfl sz73 rfl hbt) ?_
  refine RL.op rfl rfl (op_call2 Try.func37 rfl rfl rfl rfl ((refNum_at (s := (hr7 l).1) ox (by omega) clip_8 (eta (hr8 l))).mono ?_))
  rintro _ w23 ⟨x7, rfl, ox, he23⟩
  have hA_ := ox.sl
  obtain ⟨A8, c8, hx_, _, _, _⟩ := hA_
  subst hx_
  have hz23 := he23.size
  have hE23 := hE22.trans he23
  replace hb0 := hb0.ext he23
  replace o_ds := o_ds.ext he23
  replace o_arcs := o_arcs.ext he23
  refine RL.ev rfl rfl ev_move ?_
  refine RL.ev rfl rfl (ev_extract rfl rfl) ?_
  refine RL.ev rfl rfl (ev_extract rfl rfl) ?_
  refine RL.op rfl rfl (op_alloc (cs := [.slice none 0 0, .int .i64 0]) zeroT rfl ?_)
  intro w24 hbt he24 hs24
  have hz24 := he24.size
  have hE24 := hE23.trans he24
  replace hb0 := hb0.ext he24
  replace o_ds := o_ds.ext he24
  replace o_arcs := o_arcs.ext he24
  replace ox := ox.ext he24
  refine RL.op rfl rfl (op_storeAll (vs := [.slice A8 (hr8 l).1.1.length c8, .int .i64 (hr8 l).1.2]) sz73 rfl rfl rfl (oneTV _ _ _ _) hbt rfl ?_)
  intro w25 hbt hm25 hs25
  have hz25 := hm25.size
  have hE25 := hE24.then hm25 (fun i hi e => by omega)
  replace hb0 := hb0.mod hm25 (fun e => by omega)
  replace o_ds := o_ds.mod hm25 (fun k hk e => by have := b_o_ds k hk; omega)
  replace o_arcs := o_arcs.mod hm25 (fun k hk e => by have := b_o_arcs k hk; omega)
  replace ox := ox.mod hm25 (fun k h1 e => by omega)
  refine RL.ev rfl rfl ev_assign ?_
  refine RL.nil ?_
  refine thenN ?_
  refine RW.seq ?_
  refine RW.region ?_
  refine RL.ev rfl rfl (ev_loadAll (cs := [.slice A8 (hr8 l).1.1.length c8, .int .i64 (hr8 l).1.2]) Try.underlying73 rfl sz73 rfl hbt) ?_
  refine RL.op rfl rfl (op_call2 Try.func37 rfl rfl rfl rfl ((refNum_at (s := (hr8 l).1) ox (by omega) clip_8 (eta (hr9 l))).mono ?_))
  rintro _ w26 ⟨x8, rfl, ox, he26⟩
  have hA_ := ox.sl
  obtain ⟨A9, c9, hx_, _, _, _⟩ := hA_
  subst hx_
  have hz26 := he26.size
  have hE26 := hE25.trans he26
  replace hb0 := hb0.ext he26
  replace o_ds := o_ds.ext he26
  replace o_arcs := o_arcs.ext he26
  refine RL.ev rfl rfl ev_move ?_
  refine RL.ev rfl rfl (ev_extract rfl rfl) ?_
  refine RL.ev rfl rfl (ev_extract rfl rfl) ?_
  refine RL.op rfl rfl (op_alloc (cs := [.slice none 0 0, .int .i64 0]) zeroT rfl ?_)
  intro w27 hbt he27 hs27
  have hz27 := he27.size
  have hE27 := hE26.trans he27
  replace hb0 := hb0.ext he27
  replace o_ds := o_ds.ext he27
  replace o_arcs := o_arcs.ext he27
  replace ox := ox.ext he27
  refine RL.op rfl rfl (op_storeAll (vs := [.slice A9 (hr9 l).1.1.length c9, .int .i64 (hr9 l).1.2]) sz73 rfl rfl rfl (oneTV _ _ _ _) hbt rfl ?_)
  intro w28 hbt hm28 hs28
  have hz28 := hm28.size
  have hE28 := hE27.then hm28 (fun i hi e => by omega)
  replace hb0 := hb0.mod hm28 (fun e => by omega)
  replace o_ds := o_ds.mod hm28 (fun k hk e => by have := b_o_ds k hk; omega)
  replace o_arcs := o_arcs.mod hm28 (fun k hk e => by have := b_o_arcs k hk; omega)
  replace ox := ox.mod hm28 (fun k h1 e => by omega)
  refine RL.ev rfl rfl ev_assign ?_
  refine RL.nil ?_
  refine thenN ?_
  refine RW.seq ?_
  refine RW.region ?_
  refine RL.ev rfl rfl (ev_loadAll (cs := [.slice A9 (hr9 l).1.1.length c9, .int .i64 (hr9 l).1.2]) Try.underlying73 rfl sz73 rfl hbt) ?_
  refine RL.op rfl rfl (op_call1 Try.func39 rfl rfl rfl ((refEnd_calls _ (hr9 l).1 _ ox.sl).mono ?_))
  rintro _ w29 ⟨rfl, he29⟩
  have hz29 := he29.size
  have hE29 := hE28.trans he29
  replace hb0 := hb0.ext he29
  replace o_ds := o_ds.ext he29
  replace o_arcs := o_arcs.ext he29
  replace ox := ox.ext he29
  replace hbt := hbt.ext he29
  refine RL.ev rfl rfl ev_assign ?_
  refine RL.nil ?_
  refine thenN ?_
  refine RW.seq ?_
  refine RW.seq ?_
  refine RW.region ?_
  refine RL.ev rfl rfl ev_move ?_
  refine RL.ev rfl rfl (ev_neq rfl rfl) ?_
  refine RL.nil ?_
  refine thenN ?_
  refine RW.condP _ rfl (fun hbad => ?_) (fun hbad => ?_)
  · skip
    refine RW.seq ?_
    refine RW.region ?_
    refine RL.ev rfl rfl (ev_build (cs := respCs (.slice none 0 0) (.slice none 0 0) Resp.zero) Try.underlying41 zeroResp (places := #[(0, 1), (1, 1), (2, 1), (3, 1), (4, 1), (5, 1), (6, 1), (7, 1), (8, 1)]) (by intro w; kernel_rfl) (pl := []) rfl rfl rfl) ?_
    refine RL.ev rfl rfl ev_move ?_
    refine RL.op rfl rfl (op_storeAll (vs := respCs (.slice none 0 0) (.slice none 0 0) Resp.zero) sz41 rfl rfl rfl (oneResp rfl rfl _) hb0 rfl ?_)
    intro w30 hbz hm30 hs30
    have hE : Ext w w30 := hE29.then hm30 (fun i hi e => by omega)
    refine RL.ev rfl rfl ev_assign ?_
    refine RL.nil ?_
    refine thenN ?_
    refine RW.ret ?_
    refine thenR ?_
    skip
    have hq : hearR l = (Resp.zero, endR (hr9 l).1) := by
      unfold hearR
      rw [if_pos hbad]
    refine retI (RV.cellTmp rfl rfl (run_cell hbz Try.underlying41 rfl sz41)) ?_
    refine ⟨.agg (respCs (.slice none 0 0) (.slice none 0 0) Resp.zero).toArray, endR (hr9 l).1, rfl, ?_, ?_, hE⟩
    · rw [hq]; exact ⟨_, _, rfl, Sl.nil _ _, Sl.nil _ _⟩
    · rw [hq]
  · skip
    refine RW.skip ?_
    refine thenN ?_
    refine RW.seq ?_
    refine RW.region ?_
    refine RL.ev rfl rfl ev_move ?_
    refine RL.ev rfl rfl (ev_conv Try.underlying39 Try.underlying25 rfl (wrap_i64n _ (numR_lt _ _ (by decide)))) ?_
    refine RL.ev rfl rfl ev_move ?_
    refine RL.ev rfl rfl (ev_conv Try.underlying39 Try.underlying3 rfl (wrap_i64n _ (numR_lt _ _ (by decide)))) ?_
    refine RL.ev rfl rfl ev_move ?_
    refine RL.ev rfl rfl (ev_conv Try.underlying39 Try.underlying3 rfl (wrap_i64n _ (numR_lt _ _ (by decide)))) ?_
    refine RL.ev rfl rfl ev_move ?_
    refine RL.ev rfl rfl ev_move ?_
    refine RL.ev rfl rfl ev_move ?_
    refine RL.ev rfl rfl (ev_conv Try.underlying39 Try.underlying3 rfl (wrap_i64n _ (numR_lt _ _ (by decide)))) ?_
    refine RL.ev rfl rfl ev_move ?_
    refine RL.ev rfl rfl (ev_conv Try.underlying39 Try.underlying3 rfl (wrap_i64n _ (numR_lt _ _ (by decide)))) ?_
    refine RL.ev rfl rfl ev_move ?_
    refine RL.ev rfl rfl (ev_conv Try.underlying39 Try.underlying3 rfl (wrap_i64n _ (numR_lt _ _ (by decide)))) ?_
    refine RL.ev rfl rfl ev_move ?_
    refine RL.ev rfl rfl (ev_build (cs := respCs ds arcs ⟨toI (hr1 l).2, toI (hr2 l).2, toI (hr3 l).2, (hr4 l).2, (hr5 l).2, toI (hr6 l).2, toI (hr7 l).2, toI (hr8 l).2, (hr9 l).2⟩) Try.underlying41 zeroResp (places := #[(0, 1), (1, 1), (2, 1), (3, 1), (4, 1), (5, 1), (6, 1), (7, 1), (8, 1)]) (by intro w; kernel_rfl) (pl := [(0, .tmp 80), (1, .tmp 82), (2, .tmp 84), (3, .tmp 85), (4, .tmp 86), (5, .tmp 88), (6, .tmp 90), (7, .tmp 92), (8, .tmp 93)]) (ps := [(0, vi (toI (hr1 l).2)), (1, vi (toI (hr2 l).2)), (2, vi (toI (hr3 l).2)), (3, ds), (4, arcs), (5, vi (toI (hr6 l).2)), (6, vi (toI (hr7 l).2)), (7, vi (toI (hr8 l).2)), (8, .int .u64 ((hr9 l).2 : Int))]) rfl rfl (fill9 o_ds.sl o_arcs.sl)) ?_
    refine RL.op rfl rfl (op_storeAll (vs := respCs ds arcs ⟨toI (hr1 l).2, toI (hr2 l).2, toI (hr3 l).2, (hr4 l).2, (hr5 l).2, toI (hr6 l).2, toI (hr7 l).2, toI (hr8 l).2, (hr9 l).2⟩) sz41 rfl rfl rfl (oneResp o_ds.sl.one1 o_arcs.sl.one1 _) hb0 rfl ?_)
    intro w30 hbz hm30 hs30
    have hE : Ext w w30 := hE29.then hm30 (fun i hi e => by omega)
    refine RL.ev rfl rfl ev_assign ?_
    refine RL.nil ?_
    refine thenN ?_
    refine RW.ret ?_
    skip
    have hq : hearR l = (⟨toI (hr1 l).2, toI (hr2 l).2, toI (hr3 l).2, (hr4 l).2, (hr5 l).2, toI (hr6 l).2, toI (hr7 l).2, toI (hr8 l).2, (hr9 l).2⟩, 0) := by
      unfold hearR
      rw [if_neg hbad]
    refine retI (RV.cellTmp rfl rfl (run_cell hbz Try.underlying41 rfl sz41)) ?_
    refine ⟨.agg (respCs ds arcs ⟨toI (hr1 l).2, toI (hr2 l).2, toI (hr3 l).2, (hr4 l).2, (hr5 l).2, toI (hr6 l).2, toI (hr7 l).2, toI (hr8 l).2, (hr9 l).2⟩).toArray, 0, rfl, ?_, ?_, hE⟩
    · rw [hq]; exact ⟨_, _, rfl, (o_ds.mod hm30 (fun k hk e => by have := b_o_ds k hk; omega)).sl, (o_arcs.mod hm30 (fun k hk e => by have := b_o_arcs k hk; omega)).sl⟩
    · rw [hq]

set_option maxHeartbeats 4000000 in
set_option maxRecDepth 100000 in
/-- postroad/postroadref19.SameResponse -/
theorem sameResp_calls (a b : Value) (r : Resp) (w : World) (ha : RespV w a r) (hb : RespV w b r) : Gives Try.prog 22 #[a, b] w fun r w' => r = .bool true ∧ Ext w w' := by
  refine Gives.start Try.func22 rfl (Nat.le_of_ble_eq_true rfl) ?_
  rw [args2]
  obtain ⟨x1, y1, e1, hx1, hy1⟩ := ha
  obtain ⟨x2, y2, e2, hx2, hy2⟩ := hb
  subst e1 e2
  refine RW.seq ?_
  refine RW.region ?_
  refine RL.op rfl rfl (op_box (cs := respCs x1 y1 r) rfl rfl ?_)
  intro w1 hb1 he1 hs1
  refine RL.op rfl rfl (op_box (cs := respCs x2 y2 r) rfl rfl ?_)
  intro w2 hb2 he2 hs2
  replace hb1 := hb1.ext he2
  have hE := he1.trans he2
  refine RL.ev rfl rfl ev_assign ?_
  refine RL.nil ?_
  refine thenN ?_
  refine RW.seq ?_
  refine RW.region ?_
  refine RL.ev rfl rfl (ev_fieldAddr Try.underlying41 rfl sz25 (by decide) rfl) ?_
  refine RL.ev rfl rfl (ev_loadB Try.underlying25 rfl rfl hb1 rfl) ?_
  refine RL.ev rfl rfl (ev_fieldAddr Try.underlying41 rfl sz25 (by decide) rfl) ?_
  refine RL.ev rfl rfl (ev_loadB Try.underlying25 rfl rfl hb2 rfl) ?_
  refine RL.ev rfl rfl (ev_true (ev_eql rfl rfl) rfl) ?_
  refine RL.ev rfl rfl ev_move ?_
  refine RL.onEv rfl rfl (by decide) rfl rfl (ev_fieldAddr Try.underlying41 rfl sz3 (by decide) rfl) ?_
  refine RL.onEv rfl rfl (by decide) rfl rfl (ev_loadB Try.underlying3 rfl rfl hb1 rfl) ?_
  refine RL.onEv rfl rfl (by decide) rfl rfl (ev_fieldAddr Try.underlying41 rfl sz3 (by decide) rfl) ?_
  refine RL.onEv rfl rfl (by decide) rfl rfl (ev_loadB Try.underlying3 rfl rfl hb2 rfl) ?_
  refine RL.onEv rfl rfl (by decide) rfl rfl (ev_true (ev_eql rfl rfl) rfl) ?_
  refine RL.ev rfl rfl (ev_pickT rfl) ?_
  refine RL.ev rfl rfl ev_move ?_
  refine RL.onEv rfl rfl (by decide) rfl rfl (ev_fieldAddr Try.underlying41 rfl sz3 (by decide) rfl) ?_
  refine RL.onEv rfl rfl (by decide) rfl rfl (ev_loadB Try.underlying3 rfl rfl hb1 rfl) ?_
  refine RL.onEv rfl rfl (by decide) rfl rfl (ev_fieldAddr Try.underlying41 rfl sz3 (by decide) rfl) ?_
  refine RL.onEv rfl rfl (by decide) rfl rfl (ev_loadB Try.underlying3 rfl rfl hb2 rfl) ?_
  refine RL.onEv rfl rfl (by decide) rfl rfl (ev_true (ev_eql rfl rfl) rfl) ?_
  refine RL.ev rfl rfl (ev_pickT rfl) ?_
  refine RL.ev rfl rfl ev_move ?_
  refine RL.onEv rfl rfl (by decide) rfl rfl (ev_fieldAddr Try.underlying41 rfl sz36 (by decide) rfl) ?_
  refine RL.onEv rfl rfl (by decide) rfl rfl (ev_loadB Try.underlying36 rfl rfl hb1 rfl) ?_
  refine RL.onEv rfl rfl (by decide) rfl rfl (ev_fieldAddr Try.underlying41 rfl sz36 (by decide) rfl) ?_
  refine RL.onEv rfl rfl (by decide) rfl rfl (ev_loadB Try.underlying36 rfl rfl hb2 rfl) ?_
  refine RL.on rfl rfl (by decide) rfl rfl (op_call2 Try.func31 rfl rfl rfl rfl ((sameInts_true (hx1.ext hE) (hx2.ext hE) rfl).mono ?_))
  rintro _ w3 ⟨rfl, he3⟩
  replace hb1 := hb1.ext he3
  replace hb2 := hb2.ext he3
  replace hE := hE.trans he3
  refine RL.ev rfl rfl (ev_pickT rfl) ?_
  refine RL.ev rfl rfl ev_move ?_
  refine RL.onEv rfl rfl (by decide) rfl rfl (ev_fieldAddr Try.underlying41 rfl sz36 (by decide) rfl) ?_
  refine RL.onEv rfl rfl (by decide) rfl rfl (ev_loadB Try.underlying36 rfl rfl hb1 rfl) ?_
  refine RL.onEv rfl rfl (by decide) rfl rfl (ev_fieldAddr Try.underlying41 rfl sz36 (by decide) rfl) ?_
  refine RL.onEv rfl rfl (by decide) rfl rfl (ev_loadB Try.underlying36 rfl rfl hb2 rfl) ?_
  refine RL.on rfl rfl (by decide) rfl rfl (op_call2 Try.func31 rfl rfl rfl rfl ((sameInts_true (hy1.ext hE) (hy2.ext hE) rfl).mono ?_))
  rintro _ w4 ⟨rfl, he4⟩
  replace hb1 := hb1.ext he4
  replace hb2 := hb2.ext he4
  replace hE := hE.trans he4
  refine RL.ev rfl rfl (ev_pickT rfl) ?_
  refine RL.ev rfl rfl ev_move ?_
  refine RL.onEv rfl rfl (by decide) rfl rfl (ev_fieldAddr Try.underlying41 rfl sz3 (by decide) rfl) ?_
  refine RL.onEv rfl rfl (by decide) rfl rfl (ev_loadB Try.underlying3 rfl rfl hb1 rfl) ?_
  refine RL.onEv rfl rfl (by decide) rfl rfl (ev_fieldAddr Try.underlying41 rfl sz3 (by decide) rfl) ?_
  refine RL.onEv rfl rfl (by decide) rfl rfl (ev_loadB Try.underlying3 rfl rfl hb2 rfl) ?_
  refine RL.onEv rfl rfl (by decide) rfl rfl (ev_true (ev_eql rfl rfl) rfl) ?_
  refine RL.ev rfl rfl (ev_pickT rfl) ?_
  refine RL.ev rfl rfl ev_move ?_
  refine RL.onEv rfl rfl (by decide) rfl rfl (ev_fieldAddr Try.underlying41 rfl sz3 (by decide) rfl) ?_
  refine RL.onEv rfl rfl (by decide) rfl rfl (ev_loadB Try.underlying3 rfl rfl hb1 rfl) ?_
  refine RL.onEv rfl rfl (by decide) rfl rfl (ev_fieldAddr Try.underlying41 rfl sz3 (by decide) rfl) ?_
  refine RL.onEv rfl rfl (by decide) rfl rfl (ev_loadB Try.underlying3 rfl rfl hb2 rfl) ?_
  refine RL.onEv rfl rfl (by decide) rfl rfl (ev_true (ev_eql rfl rfl) rfl) ?_
  refine RL.ev rfl rfl (ev_pickT rfl) ?_
  refine RL.ev rfl rfl ev_move ?_
  refine RL.onEv rfl rfl (by decide) rfl rfl (ev_fieldAddr Try.underlying41 rfl sz3 (by decide) rfl) ?_
  refine RL.onEv rfl rfl (by decide) rfl rfl (ev_loadB Try.underlying3 rfl rfl hb1 rfl) ?_
  refine RL.onEv rfl rfl (by decide) rfl rfl (ev_fieldAddr Try.underlying41 rfl sz3 (by decide) rfl) ?_
  refine RL.onEv rfl rfl (by decide) rfl rfl (ev_loadB Try.underlying3 rfl rfl hb2 rfl) ?_
  refine RL.onEv rfl rfl (by decide) rfl rfl (ev_true (ev_eql rfl rfl) rfl) ?_
  refine RL.ev rfl rfl (ev_pickT rfl) ?_
  refine RL.ev rfl rfl ev_move ?_
  refine RL.onEv rfl rfl (by decide) rfl rfl (ev_fieldAddr Try.underlying41 rfl sz39 (by decide) rfl) ?_
  refine RL.onEv rfl rfl (by decide) rfl rfl (ev_loadB Try.underlying39 rfl rfl hb1 rfl) ?_
  refine RL.onEv rfl rfl (by decide) rfl rfl (ev_fieldAddr Try.underlying41 rfl sz39 (by decide) rfl) ?_
  refine RL.onEv rfl rfl (by decide) rfl rfl (ev_loadB Try.underlying39 rfl rfl hb2 rfl) ?_
  refine RL.onEv rfl rfl (by decide) rfl rfl (ev_true (ev_eql rfl rfl) rfl) ?_
  refine RL.ev rfl rfl (ev_pickT rfl) ?_
  refine RL.ev rfl rfl ev_assign ?_
  refine RL.nil ?_
  refine thenN ?_
  refine RW.ret ?_
  refine retI (RV.tmp rfl) ?_
  exact ⟨rfl, hE⟩

end Go.Proofs.Ytihchogjmgbipaa
