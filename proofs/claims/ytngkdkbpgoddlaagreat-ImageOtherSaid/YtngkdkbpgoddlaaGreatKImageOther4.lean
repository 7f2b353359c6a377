/- The law ImageOther: texts that its row leans on (4). -/
import Derived.Test.YtngkdkbpgoddlaaGreatKImageOther3
set_option linter.unusedVariables false
set_option linter.unusedSimpArgs false
set_option linter.unusedVariables false
set_option linter.unusedSimpArgs false
namespace Go.Proofs.YtngkdkbpgoddlaaGreat
open Go.RowKit Go.Rl
open Go.Gr Go.Codec Go.Crc
set_option maxHeartbeats 4000000 in
set_option maxRecDepth 100000 in
theorem ofMap_calls (n : Int) (ar : List I3) (v : Value) (w : World) (hv : Sm i3cells w v ar) : Gives Tryz.prog 30 #[.agg #[.int .i64 n, v]] w fun r w' => ∃ g, r = .func (.func 69) #[] #[.pointer (some ⟨g, 0, none⟩)] ∧ Now w none_ w' [.blk g [.int .i64 n, v] 24] := by
 refine Gives.start Tryz.func30 rfl (Nat.le_of_ble_eq_true rfl) ?_
 rw [args1]
 have hN := Now.nil w none_
 refine RW.seq (RW.region ?_)
 refine RL.op rfl rfl (opN_box (cs := [.int .i64 (n), v]) rfl rfl hN ?_)
 clear hN
 intro g1 w1 (hN : Now w none_ w1 [_])
 refine RL.ev rfl rfl ev_assign (RL.nil (thenN (RW.seq (RW.region (RL.ev rfl rfl (ev_makeFuncL (vs := [.pointer (some ⟨g1, 0, none⟩)]) (xs := [.tmp 1]) rfl rfl) (RL.ev (v := .func (.func 69) #[] #[.pointer (some ⟨g1, 0, none⟩)]) rfl rfl ev_assign (RL.nil (thenN (RW.ret ?_)))))))))
 refine retI (RV.tmp rfl) ?_
 exact ⟨_, rfl, hN.sub [0] (by decide) rfl⟩
set_option maxHeartbeats 4000000 in
set_option maxRecDepth 100000 in
theorem ofHier_calls (rk : List Int) (ws : List I5) (rv wv : Value) (w : World) (hr : Sl vI w rv rk) (hw : Sm i5cells w wv ws) : Gives Tryz.prog 31 #[.agg #[rv, wv]] w fun r w' => ∃ g, r = .func (.func 75) #[] #[.pointer (some ⟨g, 0, none⟩)] ∧ Now w none_ w' [.blk g [rv, wv] 28] := by
 refine Gives.start Tryz.func31 rfl (Nat.le_of_ble_eq_true rfl) ?_
 rw [args1]
 have hN := Now.nil w none_
 refine RW.seq (RW.region ?_)
 refine RL.op rfl rfl (opN_box (cs := [rv, wv]) rfl rfl hN ?_)
 clear hN
 intro g1 w1 (hN : Now w none_ w1 [_])
 refine RL.ev rfl rfl ev_assign (RL.nil (thenN (RW.seq (RW.region (RL.ev rfl rfl (ev_makeFuncL (vs := [.pointer (some ⟨g1, 0, none⟩)]) (xs := [.tmp 1]) rfl rfl) (RL.ev (v := .func (.func 75) #[] #[.pointer (some ⟨g1, 0, none⟩)]) rfl rfl ev_assign (RL.nil (thenN (RW.ret ?_)))))))))
 refine retI (RV.tmp rfl) ?_
 exact ⟨_, rfl, hN.sub [0] (by decide) rfl⟩
set_option maxHeartbeats 4000000 in
set_option maxRecDepth 100000 in
theorem ofTables_calls (g0 : List Int) (far : List (List Int)) (outs ins : List (List I2)) (so si : List (List Int)) (gv fv ov iv sov siv : Value) (hf ho hi hso hsi : List Hd) (w : World) (hT : TabO none_ w gv g0 fv hf far ov ho outs iv hi ins sov hso so siv hsi si) : Gives Tryz.prog 32 #[.agg #[gv, fv, ov, iv, sov, siv]] w fun r w' => ∃ g, r = .func (.func 82) #[] #[.pointer (some ⟨g, 0, none⟩)] ∧ Now w none_ w' [.blk g [gv, fv, ov, iv, sov, siv] 32] := by
 refine Gives.start Tryz.func32 rfl (Nat.le_of_ble_eq_true rfl) ?_
 rw [args1]
 have hN := Now.nil w none_
 refine RW.seq (RW.region ?_)
 refine RL.op rfl rfl (opN_box (cs := [gv, fv, ov, iv, sov, siv]) rfl rfl hN ?_)
 clear hN
 intro g1 w1 (hN : Now w none_ w1 [_])
 refine RL.ev rfl rfl ev_assign (RL.nil (thenN (RW.seq (RW.region (RL.ev rfl rfl (ev_makeFuncL (vs := [.pointer (some ⟨g1, 0, none⟩)]) (xs := [.tmp 1]) rfl rfl) (RL.ev (v := .func (.func 82) #[] #[.pointer (some ⟨g1, 0, none⟩)]) rfl rfl ev_assign (RL.nil (thenN (RW.ret ?_)))))))))
 refine retI (RV.tmp rfl) ?_
 exact ⟨_, rfl, hN.sub [0] (by decide) rfl⟩
set_option maxHeartbeats 4000000 in
set_option maxRecDepth 100000 in
theorem encode_calls (n : Int) (ar : List I3) (rk : List Int) (ws : List I5) (g : List Int) (far : List (List Int)) (outs ins : List (List I2)) (so si : List (List Int)) (v rv wv gv fv ov iv sov siv : Value) (hf ho hi hso hsi : List Hd) (w : World) (hv : Sm i3cells w v ar) (hr : Sl vI w rv rk) (hw : Sm i5cells w wv ws) (hT : TabO none_ w gv g fv hf far ov ho outs iv hi ins sov hso so siv hsi si) (hal : ar.length ≤ 67108864) (hrl : rk.length ≤ 67108864) (hwl : ws.length ≤ 67108864) (hgl : g.length ≤ 67108864) (hfl : far.length ≤ 67108864 ∧ ∀ r ∈ far, r.length ≤ 67108864) (hol : outs.length ≤ 67108864 ∧ ∀ r ∈ outs, r.length ≤ 67108864) (hil : ins.length ≤ 67108864 ∧ ∀ r ∈ ins, r.length ≤ 67108864) (hsol : so.length ≤ 67108864 ∧ ∀ r ∈ so, r.length ≤ 67108864) (hsil : si.length ≤ 67108864 ∧ ∀ r ∈ si, r.length ≤ 67108864) (hsz : massB (encB n ar rk ws g far outs ins so si) ≤ 140737488351232) : Gives Tryz.prog 10 #[.agg #[.int .i64 n, v, rv, wv, gv, fv, ov, iv, sov, siv]] w fun r w' => Own vb 5 w' w.heap.size r (joinB (encB n ar rk ws g far outs ins so si)) ∧ Ext w w' := by
 refine Gives.start Tryz.func10 rfl (Nat.le_of_ble_eq_true rfl) ?_
 rw [args1]
 have hN := Now.nil w none_
 have hOb_ := mass4 hsz
 obtain ⟨hs1, hs2, hs3, hs4⟩ := hOb_
 refine RW.seq (RW.region ?_)
 refine RL.op rfl rfl (opN_box (cs := [.int .i64 (n), v, rv, wv, gv, fv, ov, iv, sov, siv]) rfl rfl hN ?_)
 clear hN
 intro g1 w1 (hN : Now w none_ w1 [_])
 refine RL.ev (v := .slice none 0 0) rfl rfl ev_assign (RL.nil (thenN (RW.seq ?_)))
 replace hN := hN.ext (Ext.drew w1)
 refine RW.drawR rfl (fun u => Now w none_ u [.blk g1 [.int .i64 (n), v, rv, wv, gv, fv, ov, iv, sov, siv] 34]) 18 [(0,0), (1,0), (3,0), (4,0), (7,0), (8,0), (11,0), (12,0), (2,1), (5,1), (6,1), (9,1), (10,1), (13,1), (14,1), (15,1), (16,1), (17,0)] (by intro _ _ _ h; exact h) (by kernel_rfl) hN (RQ.ev rfl rfl (fun w hS => (ev_fieldAddr Tryz.underlying34 rfl sz24 (by decide) rfl)) (RQ.ev rfl rfl (fun w hS => (ev_loadSub (cs := [.int .i64 (n), v, rv, wv, gv, fv, ov, iv, sov, siv]) (j := 0) (m := 2) Tryz.underlying24 rfl sz24 rfl (hS.blk 0 rfl) (Nat.le_of_ble_eq_true rfl))) (RQ.ev rfl rfl (fun w hS => (ev_fieldAddr Tryz.underlying34 rfl sz24 (by decide) rfl)) (RQ.ev rfl rfl (fun w hS => (ev_loadSub (cs := [.int .i64 (n), v, rv, wv, gv, fv, ov, iv, sov, siv]) (j := 0) (m := 2) Tryz.underlying24 rfl sz24 rfl (hS.blk 0 rfl) (Nat.le_of_ble_eq_true rfl))) (RQ.ev rfl rfl (fun w hS => (ev_fieldAddr Tryz.underlying34 rfl sz28 (by decide) rfl)) (RQ.ev rfl rfl (fun w hS => (ev_loadSub (cs := [.int .i64 (n), v, rv, wv, gv, fv, ov, iv, sov, siv]) (j := 2) (m := 2) Tryz.underlying28 rfl sz28 rfl (hS.blk 0 rfl) (Nat.le_of_ble_eq_true rfl))) (RQ.ev rfl rfl (fun w hS => (ev_fieldAddr Tryz.underlying34 rfl sz32 (by decide) rfl)) (RQ.ev rfl rfl (fun w hS => (ev_loadSub (cs := [.int .i64 (n), v, rv, wv, gv, fv, ov, iv, sov, siv]) (j := 4) (m := 6) Tryz.underlying32 rfl sz32 rfl (hS.blk 0 rfl) (Nat.le_of_ble_eq_true rfl))) ?_))))))))
 refine RQ.do rfl rfl (op_call1 Tryz.func28 rfl rfl rfl ((headI_calls (n) _ ar _ (hv.o.now hN)).mono ?_))
 rintro v2 w2 ⟨ho_, he_⟩
 replace hN : Now w none_ w2 [_, _] := hN.pushOwn (l := headB (n) ar) ho_ he_
 clear ho_ he_
 refine ⟨(hN.sub [1] (by decide) rfl), ?_⟩
 refine RQ.do rfl rfl (op_call1 Tryz.func30 rfl rfl rfl ((ofMap_calls n ar v _ (hv.o.now hN)).mono ?_))
 rintro _ w3 ⟨g3, rfl, hC_⟩
 replace hN : Now w none_ w3 [_, _, _] := hN.call0 hC_
 clear hC_
 refine ⟨(hN.sub [2] (by decide) rfl), ?_⟩
 refine RQ.do rfl rfl (op_call1 Tryz.func29 rfl rfl rfl ((joined_calls 69 _ #[.pointer (some ⟨g3, 0, none⟩)] [.blk g3 [.int .i64 (n), v] 24] _ (mapB n ar) Tryz.func69 rfl rfl (ofMap_iter n ar g3 v hal) (by omega) _ (SmO.step i3cells_ne hv.o (hN.sub (M := [.blk g3 [.int .i64 (n), v] 24]) [0] (by decide) rfl)) (hN.pickL (M := [_]) [0] (by decide) rfl)).mono ?_))
 rintro v4 w4 hC_
 replace hN : Now w none_ w4 [_, _, _] := Now.callA (M := [_]) (N := [_, _]) (hN.sub [0, 1, 2] (by decide) rfl) hC_
 clear hC_
 refine ⟨(hN.sub [2] (by decide) rfl), ?_⟩
 refine RQ.do rfl rfl (op_call1 Tryz.func31 rfl rfl rfl ((ofHier_calls rk ws rv wv _ (hr.o.now hN) (hw.o.now hN)).mono ?_))
 rintro _ w5 ⟨g5, rfl, hC_⟩
 replace hN : Now w none_ w5 [_, _, _, _] := hN.call0 hC_
 clear hC_
 refine ⟨(hN.sub [3] (by decide) rfl), ?_⟩
 refine RQ.do rfl rfl (op_call1 Tryz.func29 rfl rfl rfl ((joined_calls 75 _ #[.pointer (some ⟨g5, 0, none⟩)] [.blk g5 [rv, wv] 28] _ (hierB rk ws) Tryz.func75 rfl rfl (ofHier_iter rk ws g5 rv wv hrl hwl) (by omega) _ ⟨hr.o.step (hN.sub (M := [.blk g5 [rv, wv] 28]) [0] (by decide) rfl), SmO.step i5cells_ne hw.o (hN.sub (M := [.blk g5 [rv, wv] 28]) [0] (by decide) rfl)⟩ (hN.pickL (M := [_]) [0] (by decide) rfl)).mono ?_))
 rintro v6 w6 hC_
 replace hN : Now w none_ w6 [_, _, _, _] := Now.callA (M := [_]) (N := [_, _, _]) (hN.sub [0, 1, 2, 3] (by decide) rfl) hC_
 clear hC_
 refine ⟨(hN.sub [3] (by decide) rfl), ?_⟩
 refine RQ.do rfl rfl (op_call1 Tryz.func32 rfl rfl rfl ((ofTables_calls g far outs ins so si gv fv ov iv sov siv hf ho hi hso hsi _ (hT.ext hN.ext0)).mono ?_))
 rintro _ w7 ⟨g7, rfl, hC_⟩
 replace hN : Now w none_ w7 [_, _, _, _, _] := hN.call0 hC_
 clear hC_
 refine ⟨(hN.sub [4] (by decide) rfl), ?_⟩
 refine RQ.do rfl rfl (op_call1 Tryz.func29 rfl rfl rfl ((joined_calls 82 _ #[.pointer (some ⟨g7, 0, none⟩)] [.blk g7 [gv, fv, ov, iv, sov, siv] 32] _ (tabsB g far outs ins so si) Tryz.func82 rfl rfl (ofTables_iter g far outs ins so si g7 gv fv ov iv sov siv hf ho hi hso hsi hgl hfl hol hil hsol hsil) (by omega) _ (hT.step (hN.sub (M := [.blk g7 [gv, fv, ov, iv, sov, siv] 32]) [0] (by decide) rfl)) (hN.pickL (M := [_]) [0] (by decide) rfl)).mono ?_))
 rintro v8 w8 hC_
 replace hN : Now w none_ w8 [_, _, _, _, _] := Now.callA (M := [_]) (N := [_, _, _, _]) (hN.sub [0, 1, 2, 3, 4] (by decide) rfl) hC_
 clear hC_
 refine ⟨(hN.sub [4] (by decide) rfl), ?_⟩
 have hOb_ := (hN.sl 3 rfl).hd
 obtain ⟨h10, hq_⟩ := hOb_
 subst hq_
 have hOb_ := (hN.sl 2 rfl).hd
 obtain ⟨h11, hq_⟩ := hOb_
 subst hq_
 have hOb_ := (hN.sl 1 rfl).hd
 obtain ⟨h12, hq_⟩ := hOb_
 subst hq_
 have hOb_ := (hN.sl 0 rfl).hd
 obtain ⟨h13, hq_⟩ := hOb_
 subst hq_
 refine RQ.do rfl rfl (opN_lit (enc := vh) (l := [h10, h11, h12, h13]) (xs := [.tmp 5, .tmp 9, .tmp 13, .tmp 17]) Tryz.underlying45 sz38 zr38 rfl rfl (fun _ => rfl) rfl (by decide) (by decide) hN ?_)
 clear hN
 intro g9 w9 (hN : Now w none_ w9 [_, _, _, _, _, _])
 refine ⟨(hN.sub [5] (by decide) rfl), ?_⟩
 refine RQ.do rfl rfl (op_call1 Tryz.func18 rfl rfl rfl ((join_calls _ ([h10, h11, h12, h13]) [(headB (n) ar), ((mapB n ar).flatten), ((hierB rk ws).flatten), ((tabsB g far outs ins so si).flatten)] _ (hN.sl 0 rfl) (Els.cons (hN.sl 4 rfl) (Off.none _ _) (Els.cons (hN.sl 3 rfl) (Off.none _ _) (Els.cons (hN.sl 2 rfl) (Off.none _ _) (Els.cons (hN.sl 1 rfl) (Off.none _ _) (Els.nil _ _ _))))) hsz).mono ?_))
 rintro v14 w14 ⟨ho_, he_⟩
 replace hN : Now w none_ w14 [_, _, _, _, _, _, _] := hN.pushOwn (l := joinB (encB n ar rk ws g far outs ins so si)) ho_ he_
 clear ho_ he_
 refine ⟨(hN.sub [6] (by decide) rfl), ?_⟩
 refine RQ.ev (v := v14) rfl rfl (fun w hS => ev_assign) (RQ.done (by kernel_rfl) (thenN (RW.ret (retI (RV.tmp rfl) ?_))))
 exact ⟨hN.ownOut 0 rfl, hN.ext0⟩
end Go.Proofs.YtngkdkbpgoddlaaGreat
set_option linter.unusedVariables false
namespace Go.Gr
open Go.Rl
noncomputable def putAll (n : Nat) (ins : List Int) (ls : List I5) (out : List I5) : List I5 := out.foldl (fun ls s => putT n ins ls s.1 s.2.1 s.2.2.1 s.2.2.2.1) ls
theorem putAll_succ {n : Nat} {ins : List Int} {ls out : List I5} {q : Nat} {a : I5} (h : out[q]? = some a) : putAll n ins ls (out.take (q + 1)) = putT n ins (putAll n ins ls (out.take q)) a.1 a.2.1 a.2.2.1 a.2.2.2.1 := by
  unfold putAll; rw [takeAt h, List.foldl_append]; rfl
def wOut (ls : List I5) (v a : Int) : I5 := (v, a, ((wayOf ls v a).getD (0, 0, 0)).1, ((wayOf ls v a).getD (0, 0, 0)).2.1, ((wayOf ls v a).getD (0, 0, 0)).2.2)
def wIn (ls : List I5) (v a : Int) : I5 := (a, v, ((wayOf ls a v).getD (0, 0, 0)).1, ((wayOf ls a v).getD (0, 0, 0)).2.1, ((wayOf ls a v).getD (0, 0, 0)).2.2)
noncomputable def stepW (n : Nat) (ls : List I5) (v : Int) (ways : List I5) : List I5 := ways ++ (outsOf ls v n).map (wOut ls v) ++ (insOf ls v n).map (wIn ls v)
def wmax (r : Nat) : Int := 2147483648 * 2 ^ r
theorem wmax_succ (r : Nat) : wmax (r + 1) = 2 * wmax r := by unfold wmax; rw [Int.pow_succ]; omega
theorem wmax_pos (r : Nat) : 0 ≤ wmax r := by
  induction r with
  | zero => decide
  | succ r ih => rw [wmax_succ]; omega
theorem wmax_mono {r s : Nat} (h : r ≤ s) : wmax r ≤ wmax s := by
  induction s with
  | zero => rw [show r = 0 by omega]; exact Int.le_refl _
  | succ s ih =>
    rcases Nat.lt_or_ge r (s + 1) with h1 | h1
    · have := ih (by omega)
      have := wmax_pos s
      rw [wmax_succ]; omega
    · rw [show r = s + 1 by omega]; exact Int.le_refl _
theorem wmax_le {r : Nat} (h : r ≤ 12) : wmax r ≤ 8796093022208 := Int.le_trans (wmax_mono h) (by decide)
theorem wmax_mul {r n : Nat} (h : r ≤ 12) (hn : n ≤ 12) : (n : Int) * wmax r ≤ 1152921504606846976 := by
  have h1 := wmax_le h
  have h2 := wmax_pos r
  have h3 : (n : Int) * wmax r ≤ 12 * wmax r := Int.mul_le_mul_of_nonneg_right (by omega) h2
  omega
def ones (ins : List Int) : Nat := (ins.filter fun x => decide (x = 1)).length
def Tk (n : Nat) (ins : List Int) (v : Int) : Prop := 0 ≤ v ∧ v < n ∧ ins[v.toNat]? = some 0
def Rt (n : Nat) (l : List I3) (ins : List Int) (ways : List I5) (x : I5) : Prop :=
  (x.2.2.2.1 = -1 ∧ 0 ≤ x.2.2.2.2 ∧ l[x.2.2.2.2.toNat]? = some (x.1, x.2.1, x.2.2.1)) ∨
  (Tk n ins x.2.2.2.1 ∧ x.2.2.2.2 = -1 ∧ ∃ a b, a ∈ ways ∧ b ∈ ways ∧ a.1 = x.1 ∧ a.2.1 = x.2.2.2.1 ∧ b.1 = x.2.2.2.1 ∧ b.2.1 = x.2.1 ∧ a.2.2.1 + b.2.2.1 = x.2.2.1)
def Rk (n : Nat) (rk ins : List Int) (m e : Int) : Prop := Tk n ins e → ∃ p q, rk[m.toNat]? = some p ∧ rk[e.toNat]? = some q ∧ p < q
abbrev Apart (x y : I5) : Prop := ¬ (x.1 = y.1 ∧ x.2.1 = y.2.1)
structure BOk (n : Nat) (l : List I3) (r : Nat) (rk : List Int) (ways : List I5) (ins : List Int) (ls : List I5) : Prop where
  tok : TOk n (wmax r) ins ls
  rank : rk.length = n
  cnt : ones ins + r = n
  ws : ∀ x ∈ ways, 0 ≤ x.1 ∧ x.1 < n ∧ 0 ≤ x.2.1 ∧ x.2.1 < n ∧ 0 ≤ x.2.2.1 ∧ x.2.2.1 ≤ wmax 12
  wsl : ways.length ≤ 24 * r
  rks : ∀ x ∈ rk, 0 ≤ x ∧ x < max n 1
  bit : ∀ x ∈ ins, x = 0 ∨ x = 1
  lin : ∀ x ∈ ls, IsIn n ins x.1 ∧ IsIn n ins x.2.1 ∧ x.1 ≠ x.2.1
  lpw : ls.Pairwise Apart
  lrt : ∀ x ∈ ls, Rt n l ins ways x
  win : ∀ x ∈ ways, x.1 ≠ x.2.1 ∧ (Tk n ins x.1 ∨ Tk n ins x.2.1)
  wpw : ways.Pairwise Apart
  wrt : ∀ x ∈ ways, Rt n l ins ways x ∧ (0 ≤ x.2.2.2.1 → Rk n rk ins x.2.2.2.1 x.1 ∧ Rk n rk ins x.2.2.2.1 x.2.1)
  rsur : ∀ k : Nat, k < r → ∃ v, Tk n ins v ∧ rk[v.toNat]? = some (k : Int)
  rtk : ∀ v, Tk n ins v → ∃ q, rk[v.toNat]? = some q ∧ 0 ≤ q ∧ q < r
theorem TOk.more {n : Nat} {M M' : Int} {ins : List Int} {ls : List I5} (h : TOk n M ins ls) (hm : M ≤ M') : TOk n M' ins ls := ⟨h.ins, fun x hx => by obtain ⟨h1, h2, h3, h4, h5, h6⟩ := h.ws x hx; exact ⟨h1, h2, h3, h4, h5, Int.le_trans h6 hm⟩⟩
theorem TOk.put {n : Nat} {M : Int} {ins : List Int} {ls : List I5} (h : TOk n M ins ls) {u v x mid : Int} (hx : x ≤ M) : TOk n M ins (putT n ins ls u v x mid) := by
  unfold putT
  split
  · exact h
  · rename_i hn
    have hu : IsIn n ins u := Classical.byContradiction fun h => hn (.inl h)
    have hv : IsIn n ins v := Classical.byContradiction fun h => hn (.inr (.inl h))
    have hw : ¬ x < 0 := fun h => hn (.inr (.inr (.inr (.inl h))))
    refine ⟨h.ins, fun y hy => ?_⟩
    rcases List.mem_append.1 hy with h1 | h1
    · exact h.ws y (List.mem_filter.1 h1).1
    · rw [List.mem_singleton] at h1; subst h1
      exact ⟨hu.1, hu.2.1, hv.1, hv.2.1, by show 0 ≤ x; omega, hx⟩
theorem putT_len (n : Nat) (ins : List Int) (ls : List I5) (u v x mid : Int) : (putT n ins ls u v x mid).length ≤ ls.length + 1 := by
  unfold putT
  split
  · omega
  · rw [List.length_append]
    have : (without ls u v).length ≤ ls.length := List.length_filter_le _ _
    simp; exact this
theorem NeedOk.le {n : Nat} {M : Int} {ins : List Int} {ls : List I5} {v : Int} {s : I5} (hs : NeedOk n ls v s) (h : TOk n M ins ls) : s.2.2.1 ≤ 2 * M := by
  obtain ⟨x, y, hx, hy, e⟩ := hs.way
  have h1 := (h.ws _ (wayOf_mem hx)).2.2.2.2.2
  have h2 := (h.ws _ (wayOf_mem hy)).2.2.2.2.2
  rw [e]
  have h1' : x.1 ≤ M := h1
  have h2' : y.1 ≤ M := h2
  omega
theorem putAll_tok {n : Nat} {M : Int} {ins : List Int} {out : List I5} : ∀ {ls : List I5}, TOk n M ins ls → (∀ s ∈ out, s.2.2.1 ≤ M) → TOk n M ins (putAll n ins ls out) := by
  induction out with
  | nil => intro ls h _; exact h
  | cons s r ih =>
    intro ls h hs
    exact ih (h.put (hs s (List.mem_cons_self ..))) fun t ht => hs t (List.mem_cons_of_mem _ ht)
theorem putAll_len (n : Nat) (ins : List Int) (out : List I5) : ∀ (ls : List I5), (putAll n ins ls out).length ≤ ls.length + out.length := by
  induction out with
  | nil => intro ls; exact Nat.le_refl _
  | cons s r ih =>
    intro ls
    have h1 := ih (putT n ins ls s.1 s.2.1 s.2.2.1 s.2.2.2.1)
    have h2 := putT_len n ins ls s.1 s.2.1 s.2.2.1 s.2.2.2.1
    show (putAll n ins (putT n ins ls s.1 s.2.1 s.2.2.1 s.2.2.2.1) r).length ≤ _
    rw [List.length_cons]; omega
theorem ones_pos {n : Nat} {ins : List Int} (hl : ins.length = n) (h : 0 < ones ins) : ∃ x, IsIn n ins x := by
  unfold ones at h
  obtain ⟨y, hy⟩ := List.exists_mem_of_length_pos h
  have h1 := List.mem_filter.1 hy
  obtain ⟨i, hi⟩ := List.getElem?_of_mem h1.1
  have hlt := (List.getElem?_eq_some_iff.1 hi).1
  have e : y = 1 := by simpa using h1.2
  subst e
  exact ⟨(i : Int), Int.natCast_nonneg _, by omega, by rw [Int.toNat_natCast]; exact hi⟩
theorem ones_set {ins : List Int} {i : Nat} (h : ins[i]? = some 1) : ones (ins.set i 0) + 1 = ones ins := by
  obtain ⟨p, q, rfl, hp, hset⟩ := set_split h
  rw [hset]
  unfold ones
  rw [List.filter_append, List.filter_append, List.filter_cons, List.filter_cons, if_neg (by decide), if_pos (by decide)]
  simp; omega
theorem takeT_tok {n : Nat} {M : Int} {ins : List Int} {ls : List I5} (h : TOk n M ins ls) (v : Int) : TOk n M (ins.set v.toNat 0) (takeT ls v) := ⟨by rw [List.length_set]; exact h.ins, fun x hx => h.ws x (List.mem_filter.1 hx).1⟩
theorem takeT_len (ls : List I5) (v : Int) : (takeT ls v).length ≤ ls.length := List.length_filter_le _ _
theorem Tk.no {n : Nat} {ins : List Int} {v : Int} (h : Tk n ins v) (h2 : IsIn n ins v) : False := by
  have h1 := h.2.2
  rw [h2.2.2] at h1
  cases h1
theorem Tk.rep {n : Nat} {v : Int} (h : Tk n (List.replicate n 1) v) : False := by
  have h1 := h.2.2
  have h2 := h.2.1
  have h3 := h.1
  rw [List.getElem?_replicate, if_pos (by omega)] at h1
  cases h1
theorem isIn_rep {n : Nat} {v : Int} (h0 : 0 ≤ v) (h1 : v < n) : IsIn n (List.replicate n 1) v := ⟨h0, h1, by rw [List.getElem?_replicate, if_pos (by omega)]⟩
theorem mem_newL {l : List I3} {ks : List Int} {n : Nat} {x : I5} (h : x ∈ newL l ks n) : ∃ (v k : Nat) (a : I3), v < n ∧ l[k]? = some a ∧ ks[k]? = some 1 ∧ a.1 = (v : Int) ∧ x = ((v : Int), a.2.1, a.2.2, -1, (k : Int)) := by
  unfold newL at h
  obtain ⟨v, hv, h2⟩ := List.mem_flatMap.1 h
  obtain ⟨e, he, rfl⟩ := List.mem_map.1 h2
  obtain ⟨k, a, _, ha, hk, hav, rfl⟩ := mem_sel he
  exact ⟨v, k, a, List.mem_range.1 hv, ha, hk, hav, rfl⟩
theorem kept_one {l : List I3} {k : Nat} (h : (kept l)[k]? = some 1) : Counts l k := by
  unfold kept at h
  rw [List.getElem?_map] at h
  cases hq : (List.range l.length)[k]? with
  | none => rw [hq] at h; cases h
  | some q =>
    rw [hq] at h
    have hqk : q = k := by
      have := List.getElem?_eq_some_iff.1 hq
      obtain ⟨h1, h2⟩ := this
      rw [List.getElem_range] at h2; exact h2.symm
    subst hqk
    simp only [Option.map_some, Option.some.injEq] at h
    by_cases hc : Counts l q
    · exact hc
    · rw [if_neg hc] at h; cases h
theorem sel_pw {l : List I3} {v : Int} (k : Nat) : (sel l (kept l) v k).Pairwise fun e f => e.1 ≠ f.1 := by
  induction k with
  | zero => exact List.Pairwise.nil
  | succ k ih =>
    rw [sel_succ, List.pairwise_append]
    refine ⟨ih, ?_, fun e he f hf => ?_⟩
    · unfold selOne
      split
      · split
        · exact List.pairwise_singleton _ _
        · exact List.Pairwise.nil
      · exact List.Pairwise.nil
    · obtain ⟨i, a, hi, ha, hk, hav, rfl⟩ := mem_sel he
      have hf' : f ∈ sel l (kept l) v (k + 1) := by rw [sel_succ]; exact List.mem_append_right _ hf
      unfold selOne at hf
      split at hf
      · rename_i b hb
        split at hf
        · rename_i hc
          rw [List.mem_singleton] at hf
          subst hf
          intro e
          have := counts_one (kept_one hk) (kept_one hc.1) ha hb (by rw [hav, hc.2]) e
          omega
        · cases hf
      · cases hf
theorem newL_pw (l : List I3) (n : Nat) : (newL l (kept l) n).Pairwise Apart := by
  induction n with
  | zero => exact List.Pairwise.nil
  | succ n ih =>
    rw [newL_succ, List.pairwise_append]
    refine ⟨ih, ?_, fun x hx y hy => ?_⟩
    · rw [List.pairwise_map]
      exact (sel_pw l.length).imp fun {a b} h hh => h hh.2
    · obtain ⟨v, k, a, hv, _, _, _, rfl⟩ := mem_newL hx
      obtain ⟨e, he, rfl⟩ := List.mem_map.1 hy
      rintro ⟨h1, _⟩
      have : (v : Int) = (n : Int) := h1
      omega
theorem pw_perm {ls ls' : List I5} (h : ls.Perm ls') (hp : ls'.Pairwise Apart) : ls.Pairwise Apart := (h.pairwise_iff fun {x y} hxy hyx => hxy ⟨hyx.1.symm, hyx.2.symm⟩).2 hp
theorem BOk.start {n : Nat} {l : List I3} {rk : List Int} {ls : List I5} {ks : List Int} (hl : ∀ a ∈ l, okA n a) (hks : ks = kept l) (hp : ls.Perm (newL l ks n)) (hr : rk = List.replicate n 0) : BOk n l 0 rk [] (List.replicate n 1) ls := by
  subst hks
  have hm : ∀ x ∈ ls, ∃ (v k : Nat) (a : I3), v < n ∧ l[k]? = some a ∧ Counts l k ∧ a.1 = (v : Int) ∧ x = ((v : Int), a.2.1, a.2.2, -1, (k : Int)) := fun x hx => by
    obtain ⟨v, k, a, h1, h2, h3, h4, h5⟩ := mem_newL (hp.mem_iff.1 hx)
    exact ⟨v, k, a, h1, h2, kept_one h3, h4, h5⟩
  refine ⟨⟨List.length_replicate, fun x hx => ?_⟩, by rw [hr, List.length_replicate], ?_, fun x hx => absurd hx List.not_mem_nil, Nat.le_refl _, fun x hx => by rw [hr] at hx; rw [List.eq_of_mem_replicate hx]; omega,
    fun x hx => .inr (List.eq_of_mem_replicate hx), fun x hx => ?_, pw_perm hp (newL_pw l n), fun x hx => ?_, fun x hx => absurd hx List.not_mem_nil, List.Pairwise.nil, fun x hx => absurd hx List.not_mem_nil, fun k hk => absurd hk (Nat.not_lt_zero _), fun v hv => hv.rep.elim⟩
  · obtain ⟨v, k, a, hvn, ha, _, _, rfl⟩ := hm x hx
    obtain ⟨h3, h4, h5, h6, h7, h8⟩ := hl a (List.mem_of_getElem? ha)
    exact ⟨Int.natCast_nonneg v, by show (v : Int) < n; omega, h5, h6, h7, by show a.2.2 ≤ wmax 0; exact Int.le_trans h8 (by decide)⟩
  · unfold ones
    rw [List.filter_eq_self.2 fun x hx => by rw [List.eq_of_mem_replicate hx]; decide, List.length_replicate]; omega
  · obtain ⟨v, k, a, hvn, ha, hc, hav, rfl⟩ := hm x hx
    obtain ⟨h3, h4, h5, h6, h7, h8⟩ := hl a (List.mem_of_getElem? ha)
    obtain ⟨a', ha', hne, _⟩ := hc
    rw [ha] at ha'
    cases ha'
    exact ⟨isIn_rep (Int.natCast_nonneg v) (by show (v : Int) < n; omega), isIn_rep h5 h6, by show (v : Int) ≠ a.2.1; rw [← hav]; exact hne⟩
  · obtain ⟨v, k, a, hvn, ha, hc, hav, rfl⟩ := hm x hx
    exact .inl ⟨rfl, Int.natCast_nonneg k, by show l[((k : Nat) : Int).toNat]? = some ((v : Int), a.2.1, a.2.2); rw [Int.toNat_natCast, ha, ← hav]⟩
theorem BOk.left {n : Nat} {l : List I3} {r : Nat} {rk ins : List Int} {ways ls : List I5} (h : BOk n l r rk ways ins ls) (hr : r < n) : ∃ x, IsIn n ins x := ones_pos h.tok.ins (by have := h.cnt; omega)
theorem mem_wOut {n : Nat} {M : Int} {ins : List Int} {ls : List I5} (h : TOk n M ins ls) {v : Int} {x : I5} (hx : x ∈ (outsOf ls v n).map (wOut ls v) ∨ x ∈ (insOf ls v n).map (wIn ls v)) : 0 ≤ x.1 ∧ x.1 < n ∧ 0 ≤ x.2.1 ∧ x.2.1 < n ∧ 0 ≤ x.2.2.1 ∧ x.2.2.1 ≤ M := by
  rcases hx with hx | hx
  · obtain ⟨a, ha, rfl⟩ := List.mem_map.1 hx
    obtain ⟨y, hy⟩ := (mem_outs ha).2.2.some
    unfold wOut
    rw [hy]
    exact h.ws _ (wayOf_mem hy)
  · obtain ⟨a, ha, rfl⟩ := List.mem_map.1 hx
    obtain ⟨y, hy⟩ := (mem_ins ha).2.2.some
    unfold wIn
    rw [hy]
    exact h.ws _ (wayOf_mem hy)
theorem stepW_len (n : Nat) (ls : List I5) (v : Int) (ways : List I5) : (stepW n ls v ways).length ≤ ways.length + 2 * n := by
  have h1 : (outsOf ls v n).length ≤ n := filter_range_len _ n
  have h2 : (insOf ls v n).length ≤ n := filter_range_len _ n
  unfold stepW
  simp only [List.length_append, List.length_map]; omega
theorem mem_putT {n : Nat} {ins : List Int} {ls : List I5} {u v w mid : Int} {x : I5} (h : x ∈ putT n ins ls u v w mid) : x ∈ ls ∨ (x = (u, v, w, mid, -1) ∧ IsIn n ins u ∧ IsIn n ins v ∧ u ≠ v) := by
  unfold putT at h
  split at h
  · exact .inl h
  · rename_i hn
    rcases List.mem_append.1 h with h1 | h1
    · exact .inl (List.mem_filter.1 h1).1
    · rw [List.mem_singleton] at h1
      exact .inr ⟨h1, Classical.byContradiction fun h => hn (.inl h), Classical.byContradiction fun h => hn (.inr (.inl h)), fun h => hn (.inr (.inr (.inl h)))⟩
theorem putT_keep {n : Nat} {ins : List Int} {ls : List I5} {u v w mid : Int} {x : I5} (h : x ∈ ls) (hne : ¬ (x.1 = u ∧ x.2.1 = v)) : x ∈ putT n ins ls u v w mid := by
  unfold putT
  split
  · exact h
  · refine List.mem_append_left _ (List.mem_filter.2 ⟨h, ?_⟩)
    simp only [decide_eq_true_eq]
    by_cases h1 : x.1 = u
    · exact .inr fun h2 => hne ⟨h1, h2⟩
    · exact .inl h1
theorem putT_pw {n : Nat} {ins : List Int} {ls : List I5} {u v w mid : Int} (h : ls.Pairwise Apart) : (putT n ins ls u v w mid).Pairwise Apart := by
  unfold putT
  split
  · exact h
  · rw [List.pairwise_append]
    refine ⟨h.filter _, List.pairwise_singleton _ _, fun x hx y hy => ?_⟩
    rw [List.mem_singleton] at hy
    subst hy
    have := (List.mem_filter.1 hx).2
    simp only [decide_eq_true_eq] at this
    rintro ⟨h1, h2⟩
    rcases this with h3 | h3
    · exact h3 h1
    · exact h3 h2
def asWay (s : I5) : I5 := (s.1, s.2.1, s.2.2.1, s.2.2.2.1, -1)
theorem putAll_inv {n : Nat} {ins : List Int} {v : Int} {out : List I5} : ∀ {ls : List I5}, (∀ s ∈ out, s.1 ≠ v ∧ s.2.1 ≠ v) → ls.Pairwise Apart →
    (∀ x ∈ putAll n ins ls out, x ∈ ls ∨ ∃ s ∈ out, x = asWay s ∧ IsIn n ins s.1 ∧ IsIn n ins s.2.1 ∧ s.1 ≠ s.2.1) ∧ (∀ x ∈ ls, x.1 = v ∨ x.2.1 = v → x ∈ putAll n ins ls out) ∧ (putAll n ins ls out).Pairwise Apart := by
  induction out with
  | nil => intro ls _ hp; exact ⟨fun x hx => .inl hx, fun x hx _ => hx, hp⟩
  | cons s r ih =>
    intro ls hs hp
    obtain ⟨h1, h2, h3⟩ := ih (ls := putT n ins ls s.1 s.2.1 s.2.2.1 s.2.2.2.1) (fun t ht => hs t (List.mem_cons_of_mem _ ht)) (putT_pw hp)
    have hs0 := hs s (List.mem_cons_self ..)
    refine ⟨fun x hx => ?_, fun x hx hv => ?_, h3⟩
    · rcases h1 x hx with h | ⟨t, ht, h⟩
      · rcases mem_putT h with h | ⟨h, g1, g2, g3⟩
        · exact .inl h
        · exact .inr ⟨s, List.mem_cons_self .., h, g1, g2, g3⟩
      · exact .inr ⟨t, List.mem_cons_of_mem _ ht, h⟩
    · refine h2 x (putT_keep hx ?_) hv
      rintro ⟨e1, e2⟩
      rcases hv with h | h
      · exact hs0.1 (e1.symm.trans h)
      · exact hs0.2 (e2.symm.trans h)
theorem pw_ne {ls : List I5} (hp : ls.Pairwise Apart) {x y : I5} (hx : x ∈ ls) (hy : y ∈ ls) (hne : x ≠ y) : Apart x y := by
  induction ls with
  | nil => cases hx
  | cons a r ih =>
    rw [List.pairwise_cons] at hp
    rcases List.mem_cons.1 hx with rfl | hx' <;> rcases List.mem_cons.1 hy with rfl | hy'
    · exact absurd rfl hne
    · exact hp.1 y hy'
    · exact fun h => hp.1 x hx' ⟨h.1.symm, h.2.symm⟩
    · exact ih hp.2 hx' hy'
theorem wayOf_of {ls : List I5} (hp : ls.Pairwise Apart) {x : I5} (h : x ∈ ls) : wayOf ls x.1 x.2.1 = some x.2.2 := by
  cases hw : wayOf ls x.1 x.2.1 with
  | none =>
    unfold wayOf at hw
    rw [Option.map_eq_none_iff, List.find?_eq_none] at hw
    have := hw x h
    simp at this
  | some y =>
    have hm := wayOf_mem hw
    by_cases e : (x.1, x.2.1, y) = x
    · rw [← e]
    · exfalso
      exact (pw_ne hp hm h e) ⟨rfl, rfl⟩
theorem set_in {n : Nat} {ins : List Int} {v e : Int} (h : IsIn n ins e) (hne : e ≠ v) (hv : 0 ≤ v) : IsIn n (ins.set v.toNat 0) e := ⟨h.1, h.2.1, by rw [List.getElem?_set, if_neg (by have := h.1; omega)]; exact h.2.2⟩
theorem set_tk {n : Nat} {ins : List Int} {v e : Int} (h : Tk n ins e) (hv : IsIn n ins v) : Tk n (ins.set v.toNat 0) e := by
  refine ⟨h.1, h.2.1, ?_⟩
  rw [List.getElem?_set]
  split
  · rw [if_pos (by have := (List.getElem?_eq_some_iff.1 hv.2.2).1; exact this)]
  · exact h.2.2
theorem set_tk_v {n : Nat} {ins : List Int} {v : Int} (hv : IsIn n ins v) : Tk n (ins.set v.toNat 0) v := ⟨hv.1, hv.2.1, by rw [List.getElem?_set, if_pos rfl, if_pos (List.getElem?_eq_some_iff.1 hv.2.2).1]⟩
theorem tk_set {n : Nat} {ins : List Int} {v e : Int} (h : Tk n (ins.set v.toNat 0) e) (hv : 0 ≤ v) (hne : e ≠ v) : Tk n ins e := by
  refine ⟨h.1, h.2.1, ?_⟩
  have := h.2.2
  rw [List.getElem?_set, if_neg (by have := h.1; omega)] at this
  exact this
theorem Rt.mono {n : Nat} {l : List I3} {ins ins' : List Int} {ways ways' : List I5} {x : I5} (h : Rt n l ins ways x) (ht : ∀ v, Tk n ins v → Tk n ins' v) (hw : ∀ y ∈ ways, y ∈ ways') : Rt n l ins' ways' x := by
  rcases h with h | ⟨h1, h2, a, b, ha, hb, h3⟩
  · exact .inl h
  · exact .inr ⟨ht _ h1, h2, a, b, hw a ha, hw b hb, h3⟩
theorem mem_news {n : Nat} {ins : List Int} {ls : List I5} {v : Int} {x : I5} (h : x ∈ (outsOf ls v n).map (wOut ls v) ++ (insOf ls v n).map (wIn ls v)) : x ∈ ls ∧ (x.1 = v ∨ x.2.1 = v) := by
  rcases List.mem_append.1 h with h | h
  · obtain ⟨a, ha, rfl⟩ := List.mem_map.1 h
    obtain ⟨y, hy⟩ := (mem_outs ha).2.2.some
    have hm := wayOf_mem hy
    unfold wOut
    rw [hy]
    exact ⟨hm, .inl rfl⟩
  · obtain ⟨a, ha, rfl⟩ := List.mem_map.1 h
    obtain ⟨y, hy⟩ := (mem_ins ha).2.2.some
    have hm := wayOf_mem hy
    unfold wIn
    rw [hy]
    exact ⟨hm, .inr rfl⟩
theorem outs_mem {ls : List I5} {v x : Int} {k : Nat} (h0 : 0 ≤ x) (h1 : x < k) (h : HasWay ls v x) : x ∈ outsOf ls v k := by
  unfold outsOf
  refine List.mem_map.2 ⟨x.toNat, List.mem_filter.2 ⟨List.mem_range.2 (by omega), ?_⟩, Int.toNat_of_nonneg h0⟩
  simp only [decide_eq_true_eq]
  rw [Int.toNat_of_nonneg h0]; exact h
theorem ins_mem {ls : List I5} {v x : Int} {k : Nat} (h0 : 0 ≤ x) (h1 : x < k) (h : HasWay ls x v) : x ∈ insOf ls v k := by
  unfold insOf
  refine List.mem_map.2 ⟨x.toNat, List.mem_filter.2 ⟨List.mem_range.2 (by omega), ?_⟩, Int.toNat_of_nonneg h0⟩
  simp only [decide_eq_true_eq]
  rw [Int.toNat_of_nonneg h0]; exact h
theorem news_mem {n : Nat} {M : Int} {ins : List Int} {ls : List I5} {v : Int} {x : I5} (ht : TOk n M ins ls) (hp : ls.Pairwise Apart) (hx : x ∈ ls) (hv : x.1 = v ∨ x.2.1 = v) : x ∈ (outsOf ls v n).map (wOut ls v) ++ (insOf ls v n).map (wIn ls v) := by
  have hw := wayOf_of hp hx
  obtain ⟨h1, h2, h3, h4, _, _⟩ := ht.ws x hx
  rcases hv with rfl | rfl
  · refine List.mem_append_left _ (List.mem_map.2 ⟨x.2.1, outs_mem h3 h4 (by unfold HasWay; rw [hw]; rfl), ?_⟩)
    unfold wOut; rw [hw]; rfl
  · refine List.mem_append_right _ (List.mem_map.2 ⟨x.1, ins_mem h1 h2 (by unfold HasWay; rw [hw]; rfl), ?_⟩)
    unfold wIn; rw [hw]; rfl
theorem news_pw {n : Nat} {ls : List I5} {v : Int} (hne : ∀ x ∈ ls, x.1 ≠ x.2.1) : ((outsOf ls v n).map (wOut ls v) ++ (insOf ls v n).map (wIn ls v)).Pairwise Apart := by
  have r1 : (outsOf ls v n).Pairwise fun e f => e < f := by
    unfold outsOf
    rw [List.pairwise_map]
    exact (List.pairwise_lt_range.filter _).imp fun {a b} h => by show (a : Int) < (b : Int); omega
  have r2 : (insOf ls v n).Pairwise fun e f => e < f := by
    unfold insOf
    rw [List.pairwise_map]
    exact (List.pairwise_lt_range.filter _).imp fun {a b} h => by show (a : Int) < (b : Int); omega
  rw [List.pairwise_append]
  refine ⟨?_, ?_, fun x hx y hy => ?_⟩
  · rw [List.pairwise_map]
    exact r1.imp fun {a b} h hh => by have : a = b := hh.2; omega
  · rw [List.pairwise_map]
    exact r2.imp fun {a b} h hh => by have : a = b := hh.1; omega
  · obtain ⟨a, ha, rfl⟩ := List.mem_map.1 hx
    obtain ⟨b, hb, rfl⟩ := List.mem_map.1 hy
    rintro ⟨h1, h2⟩
    have h1' : v = b := h1
    have h2' : a = v := h2
    obtain ⟨y, hy'⟩ := (mem_ins hb).2.2.some
    exact hne _ (wayOf_mem hy') h1'.symm
theorem BOk.step {n : Nat} {l : List I3} {r : Nat} {rk ins : List Int} {ways ls out : List I5} {v : Int} (h : BOk n l r rk ways ins ls) (hr : r < n) (hn : n ≤ 12) (hv : IsIn n ins v) (ho : ∀ s ∈ out, NeedOk n ls v s) :
    BOk n l (r + 1) (rk.set v.toNat r) (stepW n (putAll n ins ls out) v ways) (ins.set v.toNat 0) (takeT (putAll n ins ls out) v) := by
  have ht : TOk n (wmax (r + 1)) ins (putAll n ins ls out) := putAll_tok (h.tok.more (wmax_mono (by omega))) fun s hs => by rw [wmax_succ]; exact (ho s hs).le h.tok
  have hv0 := hv.1
  have hov : ∀ s ∈ out, s.1 ≠ v ∧ s.2.1 ≠ v := fun s hs => by
    obtain ⟨x, y, hx, hy, _⟩ := (ho s hs).way
    exact ⟨(h.lin _ (wayOf_mem hx)).2.2, fun e => (h.lin _ (wayOf_mem hy)).2.2 e.symm⟩
  obtain ⟨hL1, hL2, hL3⟩ := putAll_inv (n := n) (ins := ins) hov h.lpw
  generalize hl1 : putAll n ins ls out = ls1 at *
  have hlin : ∀ x ∈ ls1, IsIn n ins x.1 ∧ IsIn n ins x.2.1 ∧ x.1 ≠ x.2.1 := fun x hx => by
    rcases hL1 x hx with h1 | ⟨s, hs, rfl, g1, g2, g3⟩
    · exact h.lin x h1
    · exact ⟨g1, g2, g3⟩
  have hold : ∀ x ∈ ls1, x.1 = v ∨ x.2.1 = v → x ∈ ls := fun x hx hxv => by
    rcases hL1 x hx with h1 | ⟨s, hs, rfl, _⟩
    · exact h1
    · exact absurd hxv (by rintro (e | e); exact (hov s hs).1 e; exact (hov s hs).2 e)
  have hst : stepW n ls1 v ways = ways ++ ((outsOf ls1 v n).map (wOut ls1 v) ++ (insOf ls1 v n).map (wIn ls1 v)) := by unfold stepW; rw [List.append_assoc]
  have hsub : ∀ y ∈ ways, y ∈ stepW n ls1 v ways := fun y hy => by rw [hst]; exact List.mem_append_left _ hy
  have hnew : ∀ x ∈ ls1, x.1 = v ∨ x.2.1 = v → x ∈ stepW n ls1 v ways := fun x hx hxv => by rw [hst]; exact List.mem_append_right _ (news_mem ht hL3 hx hxv)
  have htk : ∀ u, Tk n ins u → Tk n (ins.set v.toNat 0) u := fun u hu => set_tk hu hv
  have hrl : v.toNat < rk.length := by rw [h.rank]; have := hv.2.1; omega
  have hrv : (rk.set v.toNat (r : Int))[v.toNat]? = some (r : Int) := by rw [List.getElem?_set, if_pos rfl, if_pos hrl]
  have hro : ∀ u, 0 ≤ u → u ≠ v → (rk.set v.toNat (r : Int))[u.toNat]? = rk[u.toNat]? := fun u h0 hne => by rw [List.getElem?_set, if_neg (by omega)]
  have hrk : ∀ m e, Tk n ins m → (Tk n ins e → ∃ p q, rk[m.toNat]? = some p ∧ rk[e.toNat]? = some q ∧ p < q) → Rk n (rk.set v.toNat (r : Int)) (ins.set v.toNat 0) m e := fun m e hm hme hte => by
    have hmv : m ≠ v := fun e => (hm.no (e ▸ hv)).elim
    by_cases hev : e = v
    · subst hev
      obtain ⟨q, hq, _, hq2⟩ := h.rtk m hm
      exact ⟨q, (r : Int), by rw [hro m hm.1 hmv]; exact hq, hrv, hq2⟩
    · obtain ⟨p, q, h1, h2, h3⟩ := hme (tk_set hte hv0 hev)
      exact ⟨p, q, by rw [hro m hm.1 hmv]; exact h1, by rw [hro e hte.1 hev]; exact h2, h3⟩
  refine ⟨takeT_tok ht v, by rw [List.length_set]; exact h.rank, by have := ones_set hv.2.2; have := h.cnt; omega, fun x hx => ?_, by have := stepW_len n ls1 v ways; have := h.wsl; omega, fun x hx => ?_, fun x hx => ?_, fun x hx => ?_, hL3.filter _, fun x hx => ?_, fun x hx => ?_, ?_, fun x hx => ?_, fun k hk => ?_, fun u hu => ?_⟩
  · rw [hst] at hx
    rcases List.mem_append.1 hx with h1 | h1
    · exact h.ws x h1
    · obtain ⟨h1, h2, h3, h4, h5, h6⟩ := mem_wOut ht (List.mem_append.1 h1)
      exact ⟨h1, h2, h3, h4, h5, Int.le_trans h6 (wmax_mono (by omega))⟩
  · rcases List.mem_or_eq_of_mem_set hx with h1 | h1
    · exact h.rks x h1
    · subst h1; omega
  · rcases List.mem_or_eq_of_mem_set hx with h1 | h1
    · exact h.bit x h1
    · exact .inl h1
  · obtain ⟨h1, h2⟩ := List.mem_filter.1 hx
    simp only [decide_eq_true_eq] at h2
    obtain ⟨g1, g2, g3⟩ := hlin x h1
    exact ⟨set_in g1 h2.1 hv0, set_in g2 h2.2 hv0, g3⟩
  · obtain ⟨h1, h2⟩ := List.mem_filter.1 hx
    rcases hL1 x h1 with h3 | ⟨s, hs, rfl, _⟩
    · exact (h.lrt x h3).mono htk hsub
    · have hN := ho s hs
      obtain ⟨a, b, ha, hb, e⟩ := hN.way
      refine .inr ⟨by show Tk n _ s.2.2.2.1; rw [hN.ends.2.1]; exact set_tk_v hv, rfl, _, _, hnew _ (hL2 _ (wayOf_mem ha) (.inr rfl)) (.inr rfl), hnew _ (hL2 _ (wayOf_mem hb) (.inl rfl)) (.inl rfl), rfl, hN.ends.2.1.symm, hN.ends.2.1.symm, rfl, ?_⟩
      exact e.symm
  · rw [hst] at hx
    rcases List.mem_append.1 hx with h1 | h1
    · obtain ⟨g1, g2⟩ := h.win x h1
      exact ⟨g1, g2.imp (htk _) (htk _)⟩
    · obtain ⟨g1, g2⟩ := mem_news (ins := ins) h1
      exact ⟨(hlin x g1).2.2, g2.imp (fun e => by rw [e]; exact set_tk_v hv) (fun e => by rw [e]; exact set_tk_v hv)⟩
  · rw [hst, List.pairwise_append]
    refine ⟨h.wpw, news_pw fun x hx => (hlin x hx).2.2, fun x hx y hy => ?_⟩
    obtain ⟨g1, _⟩ := mem_news (ins := ins) hy
    obtain ⟨k1, k2, _⟩ := hlin y g1
    rintro ⟨e1, e2⟩
    rcases (h.win x hx).2 with h2 | h2
    · rw [e1] at h2; exact h2.no k1
    · rw [e2] at h2; exact h2.no k2
  · rw [hst] at hx
    rcases List.mem_append.1 hx with h1 | h1
    · obtain ⟨g1, g2⟩ := h.wrt x h1
      refine ⟨g1.mono htk hsub, fun h0 => ?_⟩
      rcases g1 with g | ⟨g, _⟩
      · rw [g.1] at h0; omega
      · exact ⟨hrk _ _ g (g2 h0).1, hrk _ _ g (g2 h0).2⟩
    · obtain ⟨g1, g2⟩ := mem_news (ins := ins) h1
      have g3 := h.lrt x (hold x g1 g2)
      obtain ⟨k1, k2, _⟩ := hlin x g1
      refine ⟨g3.mono htk hsub, fun h0 => ?_⟩
      rcases g3 with g | ⟨g, _⟩
      · rw [g.1] at h0; omega
      · exact ⟨hrk _ _ g fun hte => (hte.no k1).elim, hrk _ _ g fun hte => (hte.no k2).elim⟩
  · by_cases hkr : k = r
    · subst hkr; exact ⟨v, set_tk_v hv, hrv⟩
    · obtain ⟨u, h1, h2⟩ := h.rsur k (by omega)
      exact ⟨u, htk u h1, by rw [hro u h1.1 (fun e => (h1.no (e ▸ hv)).elim)]; exact h2⟩
  · by_cases huv : u = v
    · subst huv; exact ⟨(r : Int), hrv, by omega, by omega⟩
    · obtain ⟨q, h1, h2, h3⟩ := h.rtk u (tk_set hu hv0 huv)
      exact ⟨q, by rw [hro u hu.1 huv]; exact h1, h2, by omega⟩
end Go.Gr
set_option linter.unusedVariables false
namespace Go.Gr
open Go.Rl
structure HOk (n : Nat) (rk : List Int) (ways : List I5) : Prop where
  len : rk.length = n
  ws : ∀ x ∈ ways, 0 ≤ x.1 ∧ x.1 < n ∧ 0 ≤ x.2.1 ∧ x.2.1 < n ∧ 0 ≤ x.2.2.1 ∧ x.2.2.1 ≤ wmax 12
  rks : ∀ x ∈ rk, 0 ≤ x ∧ x < max n 1
theorem BOk.hok {n : Nat} {l : List I3} {r : Nat} {rk ins : List Int} {ways ls : List I5} (h : BOk n l r rk ways ins ls) : HOk n rk ways := ⟨h.rank, h.ws, h.rks⟩
theorem zero_keep {d : List Int} {v b : Nat} {x y : Int} (h : d[v]? = some 0) (hb : d[b]? = some y) (hx : 0 ≤ x) (hc : y < 0 ∨ x < y) : (d.set b x)[v]? = some 0 := by
  rw [List.getElem?_set]
  split
  · rename_i e; subst e
    rw [h] at hb; cases hb; omega
  · exact h
def rowOne (rk d : List Int) (lo hi : Int) (v : Nat) : List I2 := match d[v]?, rk[v]? with
  | some x, some q => if 0 ≤ x ∧ lo ≤ q ∧ q < hi then [((v : Int), x)] else []
  | _, _ => []
def rowsOf (rk d : List Int) (lo hi : Int) (k : Nat) : List I2 := (List.range k).flatMap (rowOne rk d lo hi)
theorem rowsOf_succ (rk d : List Int) (lo hi : Int) (k : Nat) : rowsOf rk d lo hi (k + 1) = rowsOf rk d lo hi k ++ rowOne rk d lo hi k := by unfold rowsOf; rw [List.range_succ, List.flatMap_append]; simp
theorem mem_rowOne {rk d : List Int} {lo hi : Int} {v : Nat} {e : I2} : e ∈ rowOne rk d lo hi v ↔ ∃ x q, d[v]? = some x ∧ rk[v]? = some q ∧ 0 ≤ x ∧ lo ≤ q ∧ q < hi ∧ e = ((v : Int), x) := by
  unfold rowOne
  constructor
  · intro h
    split at h
    · split at h
      · rename_i x q h1 h2 h3
        rw [List.mem_singleton] at h
        exact ⟨x, q, h1, h2, h3.1, h3.2.1, h3.2.2, h⟩
      · cases h
    · cases h
  · rintro ⟨x, q, h1, h2, h3, h4, h5, rfl⟩
    simp only [h1, h2]
    rw [if_pos ⟨h3, h4, h5⟩]
    exact List.mem_singleton.2 rfl
theorem mem_rowsOf {rk d : List Int} {lo hi : Int} {k : Nat} {e : I2} : e ∈ rowsOf rk d lo hi k ↔ ∃ (v : Nat) (x q : Int), v < k ∧ d[v]? = some x ∧ rk[v]? = some q ∧ 0 ≤ x ∧ lo ≤ q ∧ q < hi ∧ e = ((v : Int), x) := by
  unfold rowsOf
  rw [List.mem_flatMap]
  constructor
  · rintro ⟨v, hv, he⟩
    obtain ⟨x, q, h⟩ := mem_rowOne.1 he
    exact ⟨v, x, q, List.mem_range.1 hv, h⟩
  · rintro ⟨v, x, q, hv, h⟩
    exact ⟨v, List.mem_range.2 hv, mem_rowOne.2 ⟨x, q, h⟩⟩
theorem rowOne_len (rk d : List Int) (lo hi : Int) (v : Nat) : (rowOne rk d lo hi v).length ≤ 1 := by
  unfold rowOne
  split
  · split <;> simp
  · simp
theorem rowsOf_len (rk d : List Int) (lo hi : Int) (k : Nat) : (rowsOf rk d lo hi k).length ≤ k := by
  induction k with
  | zero => exact Nat.le_refl _
  | succ k ih => rw [rowsOf_succ, List.length_append]; have := rowOne_len rk d lo hi k; omega
def RowOk (n : Nat) (out : List I2) : Prop := ∀ e ∈ out, 0 ≤ e.1 ∧ e.1 < n ∧ 0 ≤ e.2 ∧ e.2 ≤ 105553116266496
theorem Dist.top12 {n : Nat} {d : List Int} (h : Dist n (wmax 12) d) (hn : n ≤ 12) {x : Int} (hx : x ∈ d) : x ≤ 105553116266496 := by
  have h1 := h.top (wmax_pos 12) hx
  have h2 := wmax_le (r := 12) (by omega)
  have h3 : (n : Int) * wmax 12 ≤ 12 * wmax 12 := Int.mul_le_mul_of_nonneg_right (by omega) (wmax_pos 12)
  omega
theorem rows_ok {n : Nat} {rk d : List Int} {lo hi : Int} (h : Dist n (wmax 12) d) (hn : n ≤ 12) : RowOk n (rowsOf rk d lo hi d.length) := by
  intro e he
  obtain ⟨v, x, q, hv, hx, hq, h0, _, _, rfl⟩ := mem_rowsOf.1 he
  have hl := h.len
  exact ⟨Int.natCast_nonneg v, by show (v : Int) < n; omega, h0, h.top12 hn (List.mem_of_getElem? hx)⟩
theorem rows_self {n : Nat} {rk d : List Int} {ways : List I5} {v : Int} (hH : HOk n rk ways) (hl : d.length = n) (h0 : 0 ≤ v) (h1 : v < n) (hz : d[v.toNat]? = some 0) : (v, 0) ∈ rowsOf rk d 0 (rk.length : Int) d.length := by
  have hlt : v.toNat < rk.length := by rw [hH.len]; omega
  have hr := hH.rks rk[v.toNat] (List.getElem_mem hlt)
  refine mem_rowsOf.2 ⟨v.toNat, 0, rk[v.toNat], by omega, hz, List.getElem?_eq_getElem hlt, by omega, hr.1, by rw [hH.len]; omega, ?_⟩
  rw [Int.toNat_of_nonneg h0]
def MeetInv (a b : List I2) (i q : Nat) (z y : Int) : Prop := ∀ (i' k' : Nat) e f, a[i']? = some e → b[k']? = some f → e.1 = f.1 → (i' < i ∨ i' = i ∧ k' < q) → 0 ≤ y ∧ z ≤ e.2 + f.2
theorem MeetInv.row {a b : List I2} {i q : Nat} {z y : Int} (h : MeetInv a b i q z y) (hq : b.length ≤ q) : MeetInv a b (i + 1) 0 z y := fun i' k' e f he hf hef hlt => by
  have := (List.getElem?_eq_some_iff.1 hf).1
  exact h i' k' e f he hf hef (by omega)
theorem MeetInv.skip {a b : List I2} {i q : Nat} {z y : Int} {p r : I2} (h : MeetInv a b i q z y) (hp : a[i]? = some p) (hr : b[q]? = some r) (hs : p.1 = r.1 → 0 ≤ y ∧ z ≤ p.2 + r.2) : MeetInv a b i (q + 1) z y := fun i' k' e f he hf hef hlt => by
  by_cases hn : i' = i ∧ k' = q
  · obtain ⟨rfl, rfl⟩ := hn
    rw [hp] at he; rw [hr] at hf; cases he; cases hf
    exact hs hef
  · exact h i' k' e f he hf hef (by omega)
theorem MeetInv.upd {a b : List I2} {i q : Nat} {z y : Int} {p r : I2} (h : MeetInv a b i q z y) (hp : a[i]? = some p) (hr : b[q]? = some r) (h0 : 0 ≤ p.1) (hc : y < 0 ∨ p.2 + r.2 ≤ z) : MeetInv a b i (q + 1) (p.2 + r.2) p.1 := fun i' k' e f he hf hef hlt => by
  by_cases hn : i' = i ∧ k' = q
  · obtain ⟨rfl, rfl⟩ := hn
    rw [hp] at he; rw [hr] at hf; cases he; cases hf
    exact ⟨h0, Int.le_refl _⟩
  · have := h i' k' e f he hf hef (by omega)
    exact ⟨h0, by omega⟩
theorem meet_self {n : Nat} {a b : List I2} {i : Nat} {z y v : Int} (h : MeetInv a b i 0 z y) (hi : a.length ≤ i) (hz : (y = -1 ∧ z = -1) ∨ (0 ≤ y ∧ 0 ≤ z ∧ z ≤ 211106232532992)) (h1 : (v, (0 : Int)) ∈ a) (h2 : (v, (0 : Int)) ∈ b) : z = 0 := by
  obtain ⟨i', hi'⟩ := List.getElem?_of_mem h1
  obtain ⟨k', hk'⟩ := List.getElem?_of_mem h2
  have := (List.getElem?_eq_some_iff.1 hi').1
  have hh := h i' k' _ _ hi' hk' rfl (by omega)
  have h3 : z ≤ (0 : Int) + 0 := hh.2
  have := hh.1
  omega
theorem many_step {ts acc : List Int} {i : Nat} {s p z : Int} (hal : acc.length = i) (h : ∀ j, j < i → ts[j]? = some s → acc[j]? = some 0) (hp : ts[i]? = some p) (hz : s = p → z = 0) : ∀ j, j < i + 1 → ts[j]? = some s → (acc ++ [z])[j]? = some 0 := by
  intro j hj hs
  rcases Nat.lt_or_ge j i with h1 | h1
  · rw [List.getElem?_append_left (by omega)]; exact h j h1 hs
  · have e : j = i := by omega
    subst e
    rw [hp] at hs
    rw [List.getElem?_append_right (by omega), hal, Nat.sub_self, hz (Option.some.inj hs).symm]; rfl
end Go.Gr
set_option linter.unusedVariables false
set_option linter.unusedSimpArgs false
namespace Go.Proofs.YtngkdkbpgoddlaaGreat
open Go.RowKit Go.Rl
open Go.Gr
set_option maxHeartbeats 4000000 in
set_option maxRecDepth 100000 in
theorem climb_calls (n : Nat) (rv wv : Value) (rk : List Int) (ways : List I5) (w : World) (hr : Sl vI w rv rk) (hw : Sm i5cells w wv ways) (hH : HOk n rk ways) (v top : Int) (bk : Bool) (hn : n ≤ 12) (hv0 : 0 ≤ v) (hv1 : v < n) : Gives Tryz.prog 144 #[.agg #[rv, wv], .int .i64 v, .int .i64 top, .bool (decide (bk = true))] w fun r w' => ∃ d, Own vI 3 w' w.heap.size r d ∧ Dist n (wmax 12) d ∧ d[(v).toNat]? = some 0 ∧ Ext w w' := by
 refine Gives.start Tryz.func144 rfl (Nat.le_of_ble_eq_true rfl) ?_
 rw [args4]
 have hN := Now.nil w none_
 have hln := hH.len
 refine RW.seq (RW.region ?_)
 refine RL.op rfl rfl (opN_box (cs := [rv, wv]) rfl rfl hN ?_)
 clear hN
 intro g1 w1 (hN : Now w none_ w1 [_])
 refine RL.ev (v := .slice none 0 0) rfl rfl ev_assign (RL.nil (thenN (RW.seq (RW.region (RL.ev rfl rfl (ev_fieldAddr Tryz.underlying28 rfl sz25 (by decide) rfl) (RL.ev rfl rfl (ev_loadB Tryz.underlying25 rfl rfl (hN.blk 0 rfl) rfl) ?_))))))
 have hL_2 := (hr.o.now hN).len_le
 refine RL.ev rfl rfl (ev_lenS Tryz.underlying25 (hr.o.now hN) rfl) (RL.ev (v := .int .i64 ((rk.length : Int))) rfl rfl ev_assign (RL.nil (thenN (RW.seq (RW.region (RL.ev (v := .int .i64 ((rk.length : Int))) rfl rfl ev_move ?_))))))
 refine RL.op rfl rfl (opN_make (enc := vI) (z := 0) Tryz.underlying25 inf3 rfl hN rfl (by omega) (by omega) (by omega) ?_)
 clear hN
 intro v3 w3 (hN : Now w none_ w3 [_, _])
 refine RL.ev (v := v3) rfl rfl ev_assign (RL.nil (thenN ?_))
 iterate 2 refine RW.seq ?_
 refine RW.region (RL.ev (v := .int .i64 (0)) rfl rfl ev_assign (RL.nil (thenN (RW.block ?_))))
 refine RW.loop (fun k R0 w0' => ∃ d0 : List Int, ∃ i : Nat, R0 1 = .int .i64 (v) ∧ R0 2 = .int .i64 (top) ∧ R0 3 = .bool (decide (bk = true)) ∧ R0 4 = .pointer (some ⟨g1, 0, none⟩) ∧ R0 9 = .int .i64 ((rk.length : Int)) ∧ R0 10 = v3 ∧ R0 11 = .int .i64 ((i : Int)) ∧ Now w none_ w0' [.own vI 3 (v3) (d0), .blk g1 [rv, wv] 28] ∧ (i + k = rk.length) ∧ (d0.length = rk.length) ∧ (∀ j, j < i → d0[j]? = some (-1))) (rk.length) ?_ ?_
 exact ⟨List.replicate rk.length 0, 0, rfl, rfl, rfl, rfl, rfl, rfl, rfl, hN, by omega, List.length_replicate, fun j hj => by omega⟩
 clear hN
 rintro k R0 w0' ⟨d0, i, hr1_, hr2_, hr3_, hr4_, hr9_, hr10_, hr11_, hN, hik, h0l, h0⟩
 have hR_ : ∃ R0_, R0 = (upd (upd (upd (upd (upd (upd (upd R0_ 1 _) 2 _) 3 _) 4 _) 9 _) 10 _) 11 _) := ⟨R0, by rw [upd_self hr1_, upd_self hr2_, upd_self hr3_, upd_self hr4_, upd_self hr9_, upd_self hr10_, upd_self hr11_]⟩
 obtain ⟨R0_, rfl⟩ := hR_
 clear hr1_ hr2_ hr3_ hr4_ hr9_ hr10_ hr11_
 iterate 2 refine RW.seq ?_
 refine RW.region (RL.ev (v := .int .i64 ((i : Int))) rfl rfl ev_move (RL.ev (v := .int .i64 ((rk.length : Int))) rfl rfl ev_move (RL.ev rfl rfl (ev_lss rfl rfl) (RL.nil (thenN ?_)))))
 refine RW.condP _ rfl (fun hlt => ?_) (fun hlt => ?_)
 refine RW.skip (thenN (RW.seq (RW.block (RW.region (RL.ev (v := v3) rfl rfl ev_move (RL.ev (v := .int .i64 ((i : Int))) rfl rfl ev_move (RL.ev rfl rfl (ev_index Tryz.underlying25 sz3 (hN.sl 0 rfl) rfl rfl (by omega) (by omega)) ?_)))))))
 refine RL.op rfl rfl (opN_storeOwn (m := i) (a := (-1)) sz3 hN 0 rfl rfl (by omega) rfl rfl rfl rfl ?_)
 clear hN
 intro w4 (hN : Now w none_ w4 [_, _])
 refine RL.nil (blockN (thenN (RW.region (RL.ev (v := .int .i64 ((i : Int))) rfl rfl ev_move (RL.ev rfl rfl (ev_arith rfl rfl rfl (add64 (by omega) (by omega))) (RL.ev (v := .int .i64 ((i : Int) + 1)) rfl rfl ev_assign (RL.nil (thenN ?_))))))))
 exact ⟨k - 1, by omega, (d0).set i ((-1)), i + 1, rfl, rfl, rfl, rfl, rfl, rfl, rfl, hN, by omega, by rw [List.length_set]; exact h0l, all_set (by omega) h0⟩
 refine RW.exit ?_
 iterate 2 refine thenX ?_
 refine blockHit (thenN ?_)
 iterate 2 refine RW.seq ?_
 have hd0 : d0 = List.replicate n (-1) := all_rep (by omega) (fun j hj => h0 j (by omega))
 have hrl : (List.replicate n (-1 : Int)).length = n := List.length_replicate
 replace hN := hN.relist 0 rfl (show _ = (List.replicate n (-1)) from hd0)
 replace hN : Now w none_ w0' [_, _] := hN
 refine RW.region (RL.ev (v := .int .i64 (v)) rfl rfl ev_move (RL.ev rfl rfl (ev_false (ev_lss rfl rfl) (by omega)) (RL.ev (v := .bool false) rfl rfl ev_move (RL.onEv (v := .int .i64 (v)) rfl rfl (by decide) rfl rfl ev_move (RL.onEv (v := .int .i64 ((rk.length : Int))) rfl rfl (by decide) rfl rfl ev_move (RL.onEv rfl rfl (by decide) rfl rfl (ev_false (ev_geq rfl rfl) (by omega)) (RL.ev (v := .bool false) rfl rfl (ev_pickF rfl) (RL.nil (thenN ?_)))))))))
 refine RW.condF rfl (RW.skip (thenN (RW.seq (RW.region (RL.ev (v := v3) rfl rfl ev_move (RL.ev (v := .int .i64 (v)) rfl rfl ev_move (RL.ev rfl rfl (ev_index Tryz.underlying25 sz3 (hN.sl 0 rfl) rfl rfl (by omega) (by omega)) ?_)))))))
 refine RL.op rfl rfl (opN_storeOwn (m := (v).toNat) (a := 0) sz3 hN 0 rfl rfl (by omega) rfl rfl rfl rfl ?_)
 clear hN
 intro w5 (hN : Now w none_ w5 [_, _])
 refine RL.nil (thenN ?_)
 iterate 2 refine RW.seq ?_
 refine RW.region (RL.ev (v := .bool true) rfl rfl ev_assign (RL.nil (thenN (RW.block ?_))))
 refine RW.loop (fun k1 R1 w1' => ∃ d1 : List Int, ∃ m : Bool, R1 2 = .int .i64 (top) ∧ R1 3 = .bool (decide (bk = true)) ∧ R1 4 = .pointer (some ⟨g1, 0, none⟩) ∧ R1 10 = v3 ∧ R1 12 = .bool (decide (m = true)) ∧ Now w none_ w1' [.own vI 3 (v3) (d1), .blk g1 [rv, wv] 28] ∧ (k1 = 2 * pot ((n : Int) * wmax 12).toNat d1 + m.toNat) ∧ (Dist n (wmax 12) d1) ∧ (d1[(v).toNat]? = some 0)) (2 * pot ((n : Int) * wmax 12).toNat ((List.replicate n (-1)).set (v).toNat (0)) + 1) ?_ ?_
 exact ⟨(List.replicate n (-1)).set (v).toNat (0), true, rfl, rfl, rfl, rfl, rfl, hN, rfl, Dist.start (wmax_pos 12) (show (v).toNat < n by omega), by rw [List.getElem?_set, if_pos rfl, if_pos (by omega)]⟩
 clear hN
 rintro k1 R1 w1' ⟨d1, m, hr2_, hr3_, hr4_, hr10_, hr12_, hN, hk1, hD, hZ⟩
 have hR_ : ∃ R1_, R1 = (upd (upd (upd (upd (upd R1_ 2 _) 3 _) 4 _) 10 _) 12 _) := ⟨R1, by rw [upd_self hr2_, upd_self hr3_, upd_self hr4_, upd_self hr10_, upd_self hr12_]⟩
 obtain ⟨R1_, rfl⟩ := hR_
 clear hr2_ hr3_ hr4_ hr10_ hr12_
 iterate 2 refine RW.seq ?_
 refine RW.region (RL.ev (v := .bool (decide (m = true))) rfl rfl ev_move (RL.nil (thenN ?_)))
 refine RW.condP _ rfl (fun hm => ?_) (fun hm => ?_)
 refine RW.skip (thenN (RW.block (RW.seq (RW.region (RL.ev (v := .bool false) rfl rfl ev_assign (RL.nil (thenN (RW.seq (RW.region ?_)))))))))
 refine RL.ev (v := .int .i64 (0)) rfl rfl ev_assign (RL.nil (thenN (RW.block ?_)))
 refine RW.loop (fun k2 R2 w2' => ∃ d2 : List Int, ∃ m2 : Bool, ∃ q : Nat, R2 2 = .int .i64 (top) ∧ R2 3 = .bool (decide (bk = true)) ∧ R2 4 = .pointer (some ⟨g1, 0, none⟩) ∧ R2 10 = v3 ∧ R2 12 = .bool (decide (m2 = true)) ∧ R2 13 = .int .i64 ((q : Int)) ∧ Now w none_ w2' [.own vI 3 (v3) (d2), .blk g1 [rv, wv] 28] ∧ (q + k2 = ways.length) ∧ (Dist n (wmax 12) d2) ∧ (d2[(v).toNat]? = some 0) ∧ (pot ((n : Int) * wmax 12).toNat d2 + m2.toNat ≤ pot ((n : Int) * wmax 12).toNat d1)) (ways.length) ?_ ?_
 exact ⟨d1, false, 0, rfl, rfl, rfl, rfl, rfl, rfl, hN, by omega, hD, hZ, Nat.le_refl _⟩
 clear hN
 rintro k2 R2 w2' ⟨d2, m2, q, hr2_, hr3_, hr4_, hr10_, hr12_, hr13_, hN, hqk, hD2, hZ2, hp⟩
 have hR_ : ∃ R2_, R2 = (upd (upd (upd (upd (upd (upd R2_ 2 _) 3 _) 4 _) 10 _) 12 _) 13 _) := ⟨R2, by rw [upd_self hr2_, upd_self hr3_, upd_self hr4_, upd_self hr10_, upd_self hr12_, upd_self hr13_]⟩
 obtain ⟨R2_, rfl⟩ := hR_
 clear hr2_ hr3_ hr4_ hr10_ hr12_ hr13_
 iterate 2 refine RW.seq ?_
 refine RW.region (RL.ev (v := .int .i64 ((q : Int))) rfl rfl ev_move (RL.ev rfl rfl (ev_fieldAddr Tryz.underlying28 rfl sz26 (by decide) rfl) (RL.ev rfl rfl (ev_loadB Tryz.underlying26 rfl rfl (hN.blk 1 rfl) rfl) ?_)))
 have hL_6 := (hw.o.now hN).len_le
 refine RL.ev rfl rfl (ev_lenM Tryz.underlying26 (hw.o.now hN) rfl) (RL.ev rfl rfl (ev_lss rfl rfl) (RL.nil (thenN ?_)))
 refine RW.condP _ rfl (fun hlt2 => ?_) (fun hlt2 => ?_)
 refine RW.skip (thenN (RW.seq (RW.block (RW.seq (RW.region (RL.ev rfl rfl (ev_fieldAddr Tryz.underlying28 rfl sz26 (by decide) rfl) (RL.ev rfl rfl (ev_loadB Tryz.underlying26 rfl rfl (hN.blk 1 rfl) rfl) (RL.ev (v := .int .i64 ((q : Int))) rfl rfl ev_move (RL.ev rfl rfl (ev_indexM Tryz.underlying26 sz98 i5cells_len (by decide) (hw.o.now hN) rfl rfl (by omega) (by omega)) ?_)))))))))
 have hOb_ : ∃ a_, (ways)[q]? = some a_ := ⟨_, List.getElem?_eq_getElem (by omega)⟩
 obtain ⟨ap, hap⟩ := hOb_
 refine RL.ev rfl rfl (ev_fieldM (m := q) (b := 0) Tryz.underlying98 rfl sz3 (by decide) i5cells_len (hw.o.now hN) hap rfl rfl) ?_
 have hOb_ := hH.ws ap (List.mem_of_getElem? hap)
 obtain ⟨hx1, hx2, hx3, hx4, hx5, hx6⟩ := hOb_
 refine RL.ev rfl rfl (ev_loadMF (m := q) (j := 0) (a := ap) Tryz.underlying3 rfl i5cells_len (hw.o.now hN) rfl hap rfl) (RL.ev (v := .int .i64 (ap.1)) rfl rfl ev_assign (RL.nil (thenN (RW.seq (RW.region (RL.ev rfl rfl (ev_fieldAddr Tryz.underlying28 rfl sz26 (by decide) rfl) (RL.ev rfl rfl (ev_loadB Tryz.underlying26 rfl rfl (hN.blk 1 rfl) rfl) (RL.ev (v := .int .i64 ((q : Int))) rfl rfl ev_move (RL.ev rfl rfl (ev_indexM Tryz.underlying26 sz98 i5cells_len (by decide) (hw.o.now hN) rfl rfl (by omega) (by omega)) ?_)))))))))
 refine RL.ev rfl rfl (ev_fieldM (m := q) (b := 0) Tryz.underlying98 rfl sz3 (by decide) i5cells_len (hw.o.now hN) hap rfl rfl) (RL.ev rfl rfl (ev_loadMF (m := q) (j := 1) (a := ap) Tryz.underlying3 rfl i5cells_len (hw.o.now hN) rfl hap rfl) (RL.ev (v := .int .i64 (ap.2.1)) rfl rfl ev_assign (RL.nil (thenN ?_))))
 iterate 2 refine RW.seq ?_
 refine RW.region (RL.ev (v := .bool (decide (bk = true))) rfl rfl ev_move (RL.nil (thenN ?_)))
 refine RW.condP _ rfl (fun hbk => ?_) (fun hbk => ?_)
 refine RW.seq (RW.region (RL.ev rfl rfl (ev_fieldAddr Tryz.underlying28 rfl sz26 (by decide) rfl) (RL.ev rfl rfl (ev_loadB Tryz.underlying26 rfl rfl (hN.blk 1 rfl) rfl) (RL.ev (v := .int .i64 ((q : Int))) rfl rfl ev_move (RL.ev rfl rfl (ev_indexM Tryz.underlying26 sz98 i5cells_len (by decide) (hw.o.now hN) rfl rfl (by omega) (by omega)) (RL.ev rfl rfl (ev_fieldM (m := q) (b := 0) Tryz.underlying98 rfl sz3 (by decide) i5cells_len (hw.o.now hN) hap rfl rfl) (RL.ev rfl rfl (ev_loadMF (m := q) (j := 1) (a := ap) Tryz.underlying3 rfl i5cells_len (hw.o.now hN) rfl hap rfl) (RL.ev (v := .int .i64 (ap.2.1)) rfl rfl ev_assign (RL.nil ?_)))))))))
 refine thenN (RW.region (RL.ev rfl rfl (ev_fieldAddr Tryz.underlying28 rfl sz26 (by decide) rfl) (RL.ev rfl rfl (ev_loadB Tryz.underlying26 rfl rfl (hN.blk 1 rfl) rfl) (RL.ev (v := .int .i64 ((q : Int))) rfl rfl ev_move (RL.ev rfl rfl (ev_indexM Tryz.underlying26 sz98 i5cells_len (by decide) (hw.o.now hN) rfl rfl (by omega) (by omega)) (RL.ev rfl rfl (ev_fieldM (m := q) (b := 0) Tryz.underlying98 rfl sz3 (by decide) i5cells_len (hw.o.now hN) hap rfl rfl) (RL.ev rfl rfl (ev_loadMF (m := q) (j := 0) (a := ap) Tryz.underlying3 rfl i5cells_len (hw.o.now hN) rfl hap rfl) (RL.ev (v := .int .i64 (ap.1)) rfl rfl ev_assign (RL.nil ?_)))))))))
 refine thenN (RW.seq ?_)
 have hdl := hD2.len
 have hOb_ : ∃ a_, d2[(ap.2.1).toNat]? = some a_ := ⟨_, List.getElem?_eq_getElem (by omega)⟩
 obtain ⟨aa, haa⟩ := hOb_
 have hOb_ : ∃ a_, d2[(ap.1).toNat]? = some a_ := ⟨_, List.getElem?_eq_getElem (by omega)⟩
 obtain ⟨ab, hab⟩ := hOb_
 have hOb_ : ∃ a_, rk[(ap.2.1).toNat]? = some a_ := ⟨_, List.getElem?_eq_getElem (by omega)⟩
 obtain ⟨ra, hra⟩ := hOb_
 have hOb_ : ∃ a_, rk[(ap.1).toNat]? = some a_ := ⟨_, List.getElem?_eq_getElem (by omega)⟩
 obtain ⟨rb, hrb⟩ := hOb_
 have hta := hD2.top (wmax_pos 12) (List.mem_of_getElem? haa)
 have htl := hD2.low aa (List.mem_of_getElem? haa)
 have hmm := wmax_mul (r := 12) (by omega) hn
 have hm12 := wmax_le (r := 12) (by omega)
 replace hN := hN.ext (Ext.drew w2')
 refine RW.drawR rfl (fun u => Now w none_ u [.own vI 3 (v3) (d2), .blk g1 [rv, wv] 28]) 53 [(0,0), (1,0), (2,0), (3,0), (4,0), (5,0), (6,0), (7,0), (8,0), (9,0), (10,0), (11,0), (12,0), (13,0), (14,0), (15,0), (16,0), (17,0), (18,0), (19,0), (20,0), (21,0), (22,0), (23,0), (24,0), (25,0), (26,0), (27,0), (28,0), (29,0), (30,0), (31,0), (32,0), (33,0), (34,0), (35,0), (36,0), (37,0), (38,0), (39,0), (40,0), (41,0), (42,0), (43,0), (44,0), (45,0), (46,0), (47,0), (48,0), (49,0), (50,0), (51,0), (52,0)] (by intro _ _ _ h; exact h) (by kernel_rfl) hN (RQ.ev (v := v3) rfl rfl (fun w hS => ev_move) (RQ.ev (v := .int .i64 (ap.2.1)) rfl rfl (fun w hS => ev_move) (RQ.ev rfl rfl (fun w hS => (ev_index Tryz.underlying25 sz3 (hS.sl 0 rfl) rfl rfl (by omega) (by omega))) (RQ.ev rfl rfl (fun w hS => (ev_loadG (m := (ap.2.1).toNat) (a := aa) Tryz.underlying3 rfl (hS.sl 0 rfl) rfl haa)) (RQ.ev rfl rfl (fun w hS => (ev_geq rfl rfl)) (RQ.ev (v := .bool (decide (0 ≤ aa))) rfl rfl (fun w hS => ev_move) ?_))))))
 by_cases hg21_5 : 0 ≤ aa
 rw [decide_eq_true hg21_5]
 refine RQ.on rfl rfl rfl rfl (fun w hS => (ev_fieldAddr Tryz.underlying28 rfl sz25 (by decide) rfl)) (RQ.on rfl rfl rfl rfl (fun w hS => (ev_loadB Tryz.underlying25 rfl rfl (hS.blk 1 rfl) rfl)) (RQ.on (v := .int .i64 (ap.2.1)) rfl rfl rfl rfl (fun w hS => ev_move) (RQ.on rfl rfl rfl rfl (fun w hS => (ev_index Tryz.underlying25 sz3 (hr.o.now hS) rfl rfl (by omega) (by omega))) (RQ.on rfl rfl rfl rfl (fun w hS => (ev_loadG (m := (ap.2.1).toNat) (a := ra) Tryz.underlying3 rfl (hr.o.now hS) rfl hra)) (RQ.on (v := .int .i64 (top)) rfl rfl rfl rfl (fun w hS => ev_move) (RQ.on rfl rfl rfl rfl (fun w hS => (ev_lss rfl rfl)) (RQ.ev (v := .bool (decide (ra < top))) rfl rfl (fun w hS => (ev_pickT rfl)) (RQ.ev (v := .bool (decide (ra < top))) rfl rfl (fun w hS => ev_move) ?_))))))))
 by_cases hg21_14 : ra < top
 rw [decide_eq_true hg21_14]
 refine RQ.on rfl rfl rfl rfl (fun w hS => (ev_fieldAddr Tryz.underlying28 rfl sz25 (by decide) rfl)) (RQ.on rfl rfl rfl rfl (fun w hS => (ev_loadB Tryz.underlying25 rfl rfl (hS.blk 1 rfl) rfl)) (RQ.on (v := .int .i64 (ap.1)) rfl rfl rfl rfl (fun w hS => ev_move) (RQ.on rfl rfl rfl rfl (fun w hS => (ev_index Tryz.underlying25 sz3 (hr.o.now hS) rfl rfl (by omega) (by omega))) (RQ.on rfl rfl rfl rfl (fun w hS => (ev_loadG (m := (ap.1).toNat) (a := rb) Tryz.underlying3 rfl (hr.o.now hS) rfl hrb)) (RQ.on rfl rfl rfl rfl (fun w hS => (ev_fieldAddr Tryz.underlying28 rfl sz25 (by decide) rfl)) (RQ.on rfl rfl rfl rfl (fun w hS => (ev_loadB Tryz.underlying25 rfl rfl (hS.blk 1 rfl) rfl)) (RQ.on (v := .int .i64 (ap.2.1)) rfl rfl rfl rfl (fun w hS => ev_move) (RQ.on rfl rfl rfl rfl (fun w hS => (ev_index Tryz.underlying25 sz3 (hr.o.now hS) rfl rfl (by omega) (by omega))) (RQ.on rfl rfl rfl rfl (fun w hS => (ev_loadG (m := (ap.2.1).toNat) (a := ra) Tryz.underlying3 rfl (hr.o.now hS) rfl hra)) ?_)))))))))
 refine RQ.on rfl rfl rfl rfl (fun w hS => (ev_gtr rfl rfl)) (RQ.ev (v := .bool (decide (ra < rb))) rfl rfl (fun w hS => (ev_pickT rfl)) (RQ.ev (v := .bool (decide (ra < rb))) rfl rfl (fun w hS => ev_move) ?_))
 by_cases hg21_27 : ra < rb
 rw [decide_eq_true hg21_27]
 refine RQ.on (v := v3) rfl rfl rfl rfl (fun w hS => ev_move) (RQ.on (v := .int .i64 (ap.1)) rfl rfl rfl rfl (fun w hS => ev_move) (RQ.on rfl rfl rfl rfl (fun w hS => (ev_index Tryz.underlying25 sz3 (hS.sl 0 rfl) rfl rfl (by omega) (by omega))) (RQ.on rfl rfl rfl rfl (fun w hS => (ev_loadG (m := (ap.1).toNat) (a := ab) Tryz.underlying3 rfl (hS.sl 0 rfl) rfl hab)) (RQ.on rfl rfl rfl rfl (fun w hS => (ev_lss rfl rfl)) (RQ.on (v := .bool (decide (ab < 0))) rfl rfl rfl rfl (fun w hS => ev_move) ?_)))))
 by_cases hg21_33 : ab < 0
 rw [decide_eq_true hg21_33]
 iterate 17 refine RQ.off rfl rfl rfl rfl ?_
 refine RQ.on (v := .bool true) rfl rfl rfl rfl (fun w hS => (ev_pickT rfl)) (RQ.ev (v := .bool true) rfl rfl (fun w hS => (ev_pickT rfl)) (RQ.done (by kernel_rfl) (thenN (RW.condT rfl (RW.seq ?_)))))
 have hcnd : ab < 0 ∨ aa + ap.2.2.1 < ab := by first | exact .inl (by assumption) | exact .inr (by assumption)
 replace hN := hN.ext (Ext.drew w2'.drew)
 refine RW.drawR rfl (fun u => Now w none_ u [.own vI 3 (v3) (d2), .blk g1 [rv, wv] 28]) 15 [(0,0), (1,0), (2,0), (3,0), (4,0), (5,0), (6,0), (7,0), (8,0), (9,0), (10,0), (11,0), (12,0), (13,0), (14,0), (15,2)] (by intro _ _ _ h; exact h) (by kernel_rfl) hN (RQ.ev (v := v3) rfl rfl (fun w hS => ev_move) (RQ.ev (v := .int .i64 (ap.1)) rfl rfl (fun w hS => ev_move) (RQ.ev (v := v3) rfl rfl (fun w hS => ev_move) (RQ.ev (v := .int .i64 (ap.2.1)) rfl rfl (fun w hS => ev_move) (RQ.ev rfl rfl (fun w hS => (ev_index Tryz.underlying25 sz3 (hS.sl 0 rfl) rfl rfl (by omega) (by omega))) (RQ.ev rfl rfl (fun w hS => (ev_loadG (m := (ap.2.1).toNat) (a := aa) Tryz.underlying3 rfl (hS.sl 0 rfl) rfl haa)) (RQ.ev rfl rfl (fun w hS => (ev_fieldAddr Tryz.underlying28 rfl sz26 (by decide) rfl)) (RQ.ev rfl rfl (fun w hS => (ev_loadB Tryz.underlying26 rfl rfl (hS.blk 1 rfl) rfl)) (RQ.ev (v := .int .i64 ((q : Int))) rfl rfl (fun w hS => ev_move) ?_)))))))))
 refine RQ.ev rfl rfl (fun w hS => (ev_indexM Tryz.underlying26 sz98 i5cells_len (by decide) (hw.o.now hS) rfl rfl (by omega) (by omega))) (RQ.ev rfl rfl (fun w hS => (ev_fieldM (m := q) (b := 0) Tryz.underlying98 rfl sz96 (by decide) i5cells_len (hw.o.now hS) hap rfl rfl)) (RQ.ev rfl rfl (fun w hS => (ev_fieldM (m := q) (b := 2) Tryz.underlying96 rfl sz3 (by decide) i5cells_len (hw.o.now hS) hap rfl rfl)) (RQ.ev rfl rfl (fun w hS => (ev_loadMF (m := q) (j := 2) (a := ap) Tryz.underlying3 rfl i5cells_len (hw.o.now hS) rfl hap rfl)) (RQ.ev rfl rfl (fun w hS => (ev_arith rfl rfl rfl (add64 (by omega) (by omega)))) (RQ.ev rfl rfl (fun w hS => (ev_index Tryz.underlying25 sz3 (hS.sl 0 rfl) rfl rfl (by omega) (by omega))) ?_)))))
 refine RQ.last rfl rfl (opN_storeOwn (m := (ap.1).toNat) (a := (aa + ap.2.2.1)) sz3 hN 0 rfl rfl (by omega) rfl rfl rfl rfl ?_)
 clear hN
 intro w13 (hN : Now w none_ w13 [_, _])
 refine RZ.done (by kernel_rfl) (thenN (RW.region (RL.ev (v := .bool true) rfl rfl ev_assign (RL.nil (blockN (thenN (RW.region (RL.ev (v := .int .i64 ((q : Int))) rfl rfl ev_move (RL.ev rfl rfl (ev_arith rfl rfl rfl (add64 (by omega) (by omega))) ?_)))))))))
 refine RL.ev (v := .int .i64 ((q : Int) + 1)) rfl rfl ev_assign (RL.nil (thenN ?_))
 have hst := hD2.step (wmax_pos 12) haa hab (by assumption) ⟨hx5, hx6⟩ hcnd
 exact ⟨k2 - 1, by omega, (d2).set (ap.1).toNat ((aa + ap.2.2.1)), true, q + 1, rfl, rfl, rfl, rfl, rfl, rfl, hN, by omega, hst.1, zero_keep hZ2 hab (by omega) hcnd, Nat.le_trans hst.2 (by omega)⟩
 rw [decide_eq_false hg21_33]
 refine RQ.on (v := v3) rfl rfl rfl rfl (fun w hS => ev_move) (RQ.on (v := .int .i64 (ap.2.1)) rfl rfl rfl rfl (fun w hS => ev_move) (RQ.on rfl rfl rfl rfl (fun w hS => (ev_index Tryz.underlying25 sz3 (hS.sl 0 rfl) rfl rfl (by omega) (by omega))) (RQ.on rfl rfl rfl rfl (fun w hS => (ev_loadG (m := (ap.2.1).toNat) (a := aa) Tryz.underlying3 rfl (hS.sl 0 rfl) rfl haa)) (RQ.on rfl rfl rfl rfl (fun w hS => (ev_fieldAddr Tryz.underlying28 rfl sz26 (by decide) rfl)) (RQ.on rfl rfl rfl rfl (fun w hS => (ev_loadB Tryz.underlying26 rfl rfl (hS.blk 1 rfl) rfl)) (RQ.on (v := .int .i64 ((q : Int))) rfl rfl rfl rfl (fun w hS => ev_move) (RQ.on rfl rfl rfl rfl (fun w hS => (ev_indexM Tryz.underlying26 sz98 i5cells_len (by decide) (hw.o.now hS) rfl rfl (by omega) (by omega))) (RQ.on rfl rfl rfl rfl (fun w hS => (ev_fieldM (m := q) (b := 0) Tryz.underlying98 rfl sz96 (by decide) i5cells_len (hw.o.now hS) hap rfl rfl)) (RQ.on rfl rfl rfl rfl (fun w hS => (ev_fieldM (m := q) (b := 2) Tryz.underlying96 rfl sz3 (by decide) i5cells_len (hw.o.now hS) hap rfl rfl)) ?_)))))))))
 refine RQ.on rfl rfl rfl rfl (fun w hS => (ev_loadMF (m := q) (j := 2) (a := ap) Tryz.underlying3 rfl i5cells_len (hw.o.now hS) rfl hap rfl)) (RQ.on rfl rfl rfl rfl (fun w hS => (ev_arith rfl rfl rfl (add64 (by omega) (by omega)))) (RQ.on (v := v3) rfl rfl rfl rfl (fun w hS => ev_move) (RQ.on (v := .int .i64 (ap.1)) rfl rfl rfl rfl (fun w hS => ev_move) (RQ.on rfl rfl rfl rfl (fun w hS => (ev_index Tryz.underlying25 sz3 (hS.sl 0 rfl) rfl rfl (by omega) (by omega))) (RQ.on rfl rfl rfl rfl (fun w hS => (ev_loadG (m := (ap.1).toNat) (a := ab) Tryz.underlying3 rfl (hS.sl 0 rfl) rfl hab)) (RQ.on rfl rfl rfl rfl (fun w hS => (ev_lss rfl rfl)) (RQ.on (v := .bool (decide (aa + ap.2.2.1 < ab))) rfl rfl rfl rfl (fun w hS => (ev_pickF rfl)) (RQ.ev (v := .bool (decide (aa + ap.2.2.1 < ab))) rfl rfl (fun w hS => (ev_pickT rfl)) (RQ.done (by kernel_rfl) ?_)))))))))
 refine thenN ?_
 refine RW.condP _ rfl (fun hc125 => ?_) (fun hc125 => ?_)
 refine RW.seq ?_
 have hcnd : ab < 0 ∨ aa + ap.2.2.1 < ab := by first | exact .inl (by assumption) | exact .inr (by assumption)
 replace hN := hN.ext (Ext.drew w2'.drew)
 refine RW.drawR rfl (fun u => Now w none_ u [.own vI 3 (v3) (d2), .blk g1 [rv, wv] 28]) 15 [(0,0), (1,0), (2,0), (3,0), (4,0), (5,0), (6,0), (7,0), (8,0), (9,0), (10,0), (11,0), (12,0), (13,0), (14,0), (15,2)] (by intro _ _ _ h; exact h) (by kernel_rfl) hN (RQ.ev (v := v3) rfl rfl (fun w hS => ev_move) (RQ.ev (v := .int .i64 (ap.1)) rfl rfl (fun w hS => ev_move) (RQ.ev (v := v3) rfl rfl (fun w hS => ev_move) (RQ.ev (v := .int .i64 (ap.2.1)) rfl rfl (fun w hS => ev_move) (RQ.ev rfl rfl (fun w hS => (ev_index Tryz.underlying25 sz3 (hS.sl 0 rfl) rfl rfl (by omega) (by omega))) (RQ.ev rfl rfl (fun w hS => (ev_loadG (m := (ap.2.1).toNat) (a := aa) Tryz.underlying3 rfl (hS.sl 0 rfl) rfl haa)) (RQ.ev rfl rfl (fun w hS => (ev_fieldAddr Tryz.underlying28 rfl sz26 (by decide) rfl)) (RQ.ev rfl rfl (fun w hS => (ev_loadB Tryz.underlying26 rfl rfl (hS.blk 1 rfl) rfl)) (RQ.ev (v := .int .i64 ((q : Int))) rfl rfl (fun w hS => ev_move) ?_)))))))))
 refine RQ.ev rfl rfl (fun w hS => (ev_indexM Tryz.underlying26 sz98 i5cells_len (by decide) (hw.o.now hS) rfl rfl (by omega) (by omega))) (RQ.ev rfl rfl (fun w hS => (ev_fieldM (m := q) (b := 0) Tryz.underlying98 rfl sz96 (by decide) i5cells_len (hw.o.now hS) hap rfl rfl)) (RQ.ev rfl rfl (fun w hS => (ev_fieldM (m := q) (b := 2) Tryz.underlying96 rfl sz3 (by decide) i5cells_len (hw.o.now hS) hap rfl rfl)) (RQ.ev rfl rfl (fun w hS => (ev_loadMF (m := q) (j := 2) (a := ap) Tryz.underlying3 rfl i5cells_len (hw.o.now hS) rfl hap rfl)) (RQ.ev rfl rfl (fun w hS => (ev_arith rfl rfl rfl (add64 (by omega) (by omega)))) (RQ.ev rfl rfl (fun w hS => (ev_index Tryz.underlying25 sz3 (hS.sl 0 rfl) rfl rfl (by omega) (by omega))) ?_)))))
 refine RQ.last rfl rfl (opN_storeOwn (m := (ap.1).toNat) (a := (aa + ap.2.2.1)) sz3 hN 0 rfl rfl (by omega) rfl rfl rfl rfl ?_)
 clear hN
 intro w17 (hN : Now w none_ w17 [_, _])
 refine RZ.done (by kernel_rfl) (thenN (RW.region (RL.ev (v := .bool true) rfl rfl ev_assign (RL.nil (blockN (thenN (RW.region (RL.ev (v := .int .i64 ((q : Int))) rfl rfl ev_move (RL.ev rfl rfl (ev_arith rfl rfl rfl (add64 (by omega) (by omega))) ?_)))))))))
 refine RL.ev (v := .int .i64 ((q : Int) + 1)) rfl rfl ev_assign (RL.nil (thenN ?_))
 have hst := hD2.step (wmax_pos 12) haa hab (by assumption) ⟨hx5, hx6⟩ hcnd
 exact ⟨k2 - 1, by omega, (d2).set (ap.1).toNat ((aa + ap.2.2.1)), true, q + 1, rfl, rfl, rfl, rfl, rfl, rfl, hN, by omega, hst.1, zero_keep hZ2 hab (by omega) hcnd, Nat.le_trans hst.2 (by omega)⟩
 refine RW.skip (blockN (thenN (RW.region (RL.ev (v := .int .i64 ((q : Int))) rfl rfl ev_move (RL.ev rfl rfl (ev_arith rfl rfl rfl (add64 (by omega) (by omega))) (RL.ev (v := .int .i64 ((q : Int) + 1)) rfl rfl ev_assign (RL.nil (thenN ?_))))))))
 exact ⟨k2 - 1, by omega, _, _, q + 1, rfl, rfl, rfl, rfl, rfl, rfl, hN, by omega, by omega, by omega, by omega⟩
 rw [decide_eq_false hg21_27]
 iterate 6 refine RQ.off rfl rfl rfl rfl ?_
 iterate 17 refine RQ.offU rfl rfl rfl rfl ?_
 refine RQ.off rfl rfl rfl rfl (RQ.ev (v := .bool false) rfl rfl (fun w hS => (ev_pickF rfl)) (RQ.done (by kernel_rfl) (thenN (RW.condF rfl (RW.skip (blockN (thenN (RW.region (RL.ev (v := .int .i64 ((q : Int))) rfl rfl ev_move ?_)))))))))
 refine RL.ev rfl rfl (ev_arith rfl rfl rfl (add64 (by omega) (by omega))) (RL.ev (v := .int .i64 ((q : Int) + 1)) rfl rfl ev_assign (RL.nil (thenN ?_)))
 exact ⟨k2 - 1, by omega, _, _, q + 1, rfl, rfl, rfl, rfl, rfl, rfl, hN, by omega, by omega, by omega, by omega⟩
 rw [decide_eq_false hg21_14]
 iterate 11 refine RQ.off rfl rfl rfl rfl ?_
 refine RQ.ev (v := .bool false) rfl rfl (fun w hS => (ev_pickF rfl)) (RQ.ev (v := .bool false) rfl rfl (fun w hS => ev_move) ?_)
 iterate 6 refine RQ.off rfl rfl rfl rfl ?_
 iterate 17 refine RQ.offU rfl rfl rfl rfl ?_
 refine RQ.off rfl rfl rfl rfl (RQ.ev (v := .bool false) rfl rfl (fun w hS => (ev_pickF rfl)) (RQ.done (by kernel_rfl) (thenN (RW.condF rfl (RW.skip (blockN (thenN (RW.region (RL.ev (v := .int .i64 ((q : Int))) rfl rfl ev_move ?_)))))))))
 refine RL.ev rfl rfl (ev_arith rfl rfl rfl (add64 (by omega) (by omega))) (RL.ev (v := .int .i64 ((q : Int) + 1)) rfl rfl ev_assign (RL.nil (thenN ?_)))
 exact ⟨k2 - 1, by omega, _, _, q + 1, rfl, rfl, rfl, rfl, rfl, rfl, hN, by omega, by omega, by omega, by omega⟩
 rw [decide_eq_false hg21_5]
 iterate 7 refine RQ.off rfl rfl rfl rfl ?_
 refine RQ.ev (v := .bool false) rfl rfl (fun w hS => (ev_pickF rfl)) (RQ.ev (v := .bool false) rfl rfl (fun w hS => ev_move) ?_)
 iterate 11 refine RQ.off rfl rfl rfl rfl ?_
 refine RQ.ev (v := .bool false) rfl rfl (fun w hS => (ev_pickF rfl)) (RQ.ev (v := .bool false) rfl rfl (fun w hS => ev_move) ?_)
 iterate 6 refine RQ.off rfl rfl rfl rfl ?_
 iterate 17 refine RQ.offU rfl rfl rfl rfl ?_
 refine RQ.off rfl rfl rfl rfl (RQ.ev (v := .bool false) rfl rfl (fun w hS => (ev_pickF rfl)) (RQ.done (by kernel_rfl) (thenN (RW.condF rfl (RW.skip (blockN (thenN (RW.region (RL.ev (v := .int .i64 ((q : Int))) rfl rfl ev_move ?_)))))))))
 refine RL.ev rfl rfl (ev_arith rfl rfl rfl (add64 (by omega) (by omega))) (RL.ev (v := .int .i64 ((q : Int) + 1)) rfl rfl ev_assign (RL.nil (thenN ?_)))
 exact ⟨k2 - 1, by omega, _, _, q + 1, rfl, rfl, rfl, rfl, rfl, rfl, hN, by omega, by omega, by omega, by omega⟩
 refine RW.skip (thenN (RW.seq ?_))
 have hdl := hD2.len
 have hOb_ : ∃ a_, d2[(ap.1).toNat]? = some a_ := ⟨_, List.getElem?_eq_getElem (by omega)⟩
 obtain ⟨aa, haa⟩ := hOb_
 have hOb_ : ∃ a_, d2[(ap.2.1).toNat]? = some a_ := ⟨_, List.getElem?_eq_getElem (by omega)⟩
 obtain ⟨ab, hab⟩ := hOb_
 have hOb_ : ∃ a_, rk[(ap.1).toNat]? = some a_ := ⟨_, List.getElem?_eq_getElem (by omega)⟩
 obtain ⟨ra, hra⟩ := hOb_
 have hOb_ : ∃ a_, rk[(ap.2.1).toNat]? = some a_ := ⟨_, List.getElem?_eq_getElem (by omega)⟩
 obtain ⟨rb, hrb⟩ := hOb_
 have hta := hD2.top (wmax_pos 12) (List.mem_of_getElem? haa)
 have htl := hD2.low aa (List.mem_of_getElem? haa)
 have hmm := wmax_mul (r := 12) (by omega) hn
 have hm12 := wmax_le (r := 12) (by omega)
 replace hN := hN.ext (Ext.drew w2')
 refine RW.drawR rfl (fun u => Now w none_ u [.own vI 3 (v3) (d2), .blk g1 [rv, wv] 28]) 53 [(0,0), (1,0), (2,0), (3,0), (4,0), (5,0), (6,0), (7,0), (8,0), (9,0), (10,0), (11,0), (12,0), (13,0), (14,0), (15,0), (16,0), (17,0), (18,0), (19,0), (20,0), (21,0), (22,0), (23,0), (24,0), (25,0), (26,0), (27,0), (28,0), (29,0), (30,0), (31,0), (32,0), (33,0), (34,0), (35,0), (36,0), (37,0), (38,0), (39,0), (40,0), (41,0), (42,0), (43,0), (44,0), (45,0), (46,0), (47,0), (48,0), (49,0), (50,0), (51,0), (52,0)] (by intro _ _ _ h; exact h) (by kernel_rfl) hN (RQ.ev (v := v3) rfl rfl (fun w hS => ev_move) (RQ.ev (v := .int .i64 (ap.1)) rfl rfl (fun w hS => ev_move) (RQ.ev rfl rfl (fun w hS => (ev_index Tryz.underlying25 sz3 (hS.sl 0 rfl) rfl rfl (by omega) (by omega))) (RQ.ev rfl rfl (fun w hS => (ev_loadG (m := (ap.1).toNat) (a := aa) Tryz.underlying3 rfl (hS.sl 0 rfl) rfl haa)) (RQ.ev rfl rfl (fun w hS => (ev_geq rfl rfl)) (RQ.ev (v := .bool (decide (0 ≤ aa))) rfl rfl (fun w hS => ev_move) ?_))))))
 by_cases hg21_5 : 0 ≤ aa
 rw [decide_eq_true hg21_5]
 refine RQ.on rfl rfl rfl rfl (fun w hS => (ev_fieldAddr Tryz.underlying28 rfl sz25 (by decide) rfl)) (RQ.on rfl rfl rfl rfl (fun w hS => (ev_loadB Tryz.underlying25 rfl rfl (hS.blk 1 rfl) rfl)) (RQ.on (v := .int .i64 (ap.1)) rfl rfl rfl rfl (fun w hS => ev_move) (RQ.on rfl rfl rfl rfl (fun w hS => (ev_index Tryz.underlying25 sz3 (hr.o.now hS) rfl rfl (by omega) (by omega))) (RQ.on rfl rfl rfl rfl (fun w hS => (ev_loadG (m := (ap.1).toNat) (a := ra) Tryz.underlying3 rfl (hr.o.now hS) rfl hra)) (RQ.on (v := .int .i64 (top)) rfl rfl rfl rfl (fun w hS => ev_move) (RQ.on rfl rfl rfl rfl (fun w hS => (ev_lss rfl rfl)) (RQ.ev (v := .bool (decide (ra < top))) rfl rfl (fun w hS => (ev_pickT rfl)) (RQ.ev (v := .bool (decide (ra < top))) rfl rfl (fun w hS => ev_move) ?_))))))))
 by_cases hg21_14 : ra < top
 rw [decide_eq_true hg21_14]
 refine RQ.on rfl rfl rfl rfl (fun w hS => (ev_fieldAddr Tryz.underlying28 rfl sz25 (by decide) rfl)) (RQ.on rfl rfl rfl rfl (fun w hS => (ev_loadB Tryz.underlying25 rfl rfl (hS.blk 1 rfl) rfl)) (RQ.on (v := .int .i64 (ap.2.1)) rfl rfl rfl rfl (fun w hS => ev_move) (RQ.on rfl rfl rfl rfl (fun w hS => (ev_index Tryz.underlying25 sz3 (hr.o.now hS) rfl rfl (by omega) (by omega))) (RQ.on rfl rfl rfl rfl (fun w hS => (ev_loadG (m := (ap.2.1).toNat) (a := rb) Tryz.underlying3 rfl (hr.o.now hS) rfl hrb)) (RQ.on rfl rfl rfl rfl (fun w hS => (ev_fieldAddr Tryz.underlying28 rfl sz25 (by decide) rfl)) (RQ.on rfl rfl rfl rfl (fun w hS => (ev_loadB Tryz.underlying25 rfl rfl (hS.blk 1 rfl) rfl)) (RQ.on (v := .int .i64 (ap.1)) rfl rfl rfl rfl (fun w hS => ev_move) (RQ.on rfl rfl rfl rfl (fun w hS => (ev_index Tryz.underlying25 sz3 (hr.o.now hS) rfl rfl (by omega) (by omega))) (RQ.on rfl rfl rfl rfl (fun w hS => (ev_loadG (m := (ap.1).toNat) (a := ra) Tryz.underlying3 rfl (hr.o.now hS) rfl hra)) ?_)))))))))
 refine RQ.on rfl rfl rfl rfl (fun w hS => (ev_gtr rfl rfl)) (RQ.ev (v := .bool (decide (ra < rb))) rfl rfl (fun w hS => (ev_pickT rfl)) (RQ.ev (v := .bool (decide (ra < rb))) rfl rfl (fun w hS => ev_move) ?_))
 by_cases hg21_27 : ra < rb
 rw [decide_eq_true hg21_27]
 refine RQ.on (v := v3) rfl rfl rfl rfl (fun w hS => ev_move) (RQ.on (v := .int .i64 (ap.2.1)) rfl rfl rfl rfl (fun w hS => ev_move) (RQ.on rfl rfl rfl rfl (fun w hS => (ev_index Tryz.underlying25 sz3 (hS.sl 0 rfl) rfl rfl (by omega) (by omega))) (RQ.on rfl rfl rfl rfl (fun w hS => (ev_loadG (m := (ap.2.1).toNat) (a := ab) Tryz.underlying3 rfl (hS.sl 0 rfl) rfl hab)) (RQ.on rfl rfl rfl rfl (fun w hS => (ev_lss rfl rfl)) (RQ.on (v := .bool (decide (ab < 0))) rfl rfl rfl rfl (fun w hS => ev_move) ?_)))))
 by_cases hg21_33 : ab < 0
 rw [decide_eq_true hg21_33]
 iterate 17 refine RQ.off rfl rfl rfl rfl ?_
 refine RQ.on (v := .bool true) rfl rfl rfl rfl (fun w hS => (ev_pickT rfl)) (RQ.ev (v := .bool true) rfl rfl (fun w hS => (ev_pickT rfl)) (RQ.done (by kernel_rfl) (thenN (RW.condT rfl (RW.seq ?_)))))
 have hcnd : ab < 0 ∨ aa + ap.2.2.1 < ab := by first | exact .inl (by assumption) | exact .inr (by assumption)
 replace hN := hN.ext (Ext.drew w2'.drew)
 refine RW.drawR rfl (fun u => Now w none_ u [.own vI 3 (v3) (d2), .blk g1 [rv, wv] 28]) 15 [(0,0), (1,0), (2,0), (3,0), (4,0), (5,0), (6,0), (7,0), (8,0), (9,0), (10,0), (11,0), (12,0), (13,0), (14,0), (15,2)] (by intro _ _ _ h; exact h) (by kernel_rfl) hN (RQ.ev (v := v3) rfl rfl (fun w hS => ev_move) (RQ.ev (v := .int .i64 (ap.2.1)) rfl rfl (fun w hS => ev_move) (RQ.ev (v := v3) rfl rfl (fun w hS => ev_move) (RQ.ev (v := .int .i64 (ap.1)) rfl rfl (fun w hS => ev_move) (RQ.ev rfl rfl (fun w hS => (ev_index Tryz.underlying25 sz3 (hS.sl 0 rfl) rfl rfl (by omega) (by omega))) (RQ.ev rfl rfl (fun w hS => (ev_loadG (m := (ap.1).toNat) (a := aa) Tryz.underlying3 rfl (hS.sl 0 rfl) rfl haa)) (RQ.ev rfl rfl (fun w hS => (ev_fieldAddr Tryz.underlying28 rfl sz26 (by decide) rfl)) (RQ.ev rfl rfl (fun w hS => (ev_loadB Tryz.underlying26 rfl rfl (hS.blk 1 rfl) rfl)) (RQ.ev (v := .int .i64 ((q : Int))) rfl rfl (fun w hS => ev_move) ?_)))))))))
 refine RQ.ev rfl rfl (fun w hS => (ev_indexM Tryz.underlying26 sz98 i5cells_len (by decide) (hw.o.now hS) rfl rfl (by omega) (by omega))) (RQ.ev rfl rfl (fun w hS => (ev_fieldM (m := q) (b := 0) Tryz.underlying98 rfl sz96 (by decide) i5cells_len (hw.o.now hS) hap rfl rfl)) (RQ.ev rfl rfl (fun w hS => (ev_fieldM (m := q) (b := 2) Tryz.underlying96 rfl sz3 (by decide) i5cells_len (hw.o.now hS) hap rfl rfl)) (RQ.ev rfl rfl (fun w hS => (ev_loadMF (m := q) (j := 2) (a := ap) Tryz.underlying3 rfl i5cells_len (hw.o.now hS) rfl hap rfl)) (RQ.ev rfl rfl (fun w hS => (ev_arith rfl rfl rfl (add64 (by omega) (by omega)))) (RQ.ev rfl rfl (fun w hS => (ev_index Tryz.underlying25 sz3 (hS.sl 0 rfl) rfl rfl (by omega) (by omega))) ?_)))))
 refine RQ.last rfl rfl (opN_storeOwn (m := (ap.2.1).toNat) (a := (aa + ap.2.2.1)) sz3 hN 0 rfl rfl (by omega) rfl rfl rfl rfl ?_)
 clear hN
 intro w24 (hN : Now w none_ w24 [_, _])
 refine RZ.done (by kernel_rfl) (thenN (RW.region (RL.ev (v := .bool true) rfl rfl ev_assign (RL.nil (blockN (thenN (RW.region (RL.ev (v := .int .i64 ((q : Int))) rfl rfl ev_move (RL.ev rfl rfl (ev_arith rfl rfl rfl (add64 (by omega) (by omega))) ?_)))))))))
 refine RL.ev (v := .int .i64 ((q : Int) + 1)) rfl rfl ev_assign (RL.nil (thenN ?_))
 have hst := hD2.step (wmax_pos 12) haa hab (by assumption) ⟨hx5, hx6⟩ hcnd
 exact ⟨k2 - 1, by omega, (d2).set (ap.2.1).toNat ((aa + ap.2.2.1)), true, q + 1, rfl, rfl, rfl, rfl, rfl, rfl, hN, by omega, hst.1, zero_keep hZ2 hab (by omega) hcnd, Nat.le_trans hst.2 (by omega)⟩
 rw [decide_eq_false hg21_33]
 refine RQ.on (v := v3) rfl rfl rfl rfl (fun w hS => ev_move) (RQ.on (v := .int .i64 (ap.1)) rfl rfl rfl rfl (fun w hS => ev_move) (RQ.on rfl rfl rfl rfl (fun w hS => (ev_index Tryz.underlying25 sz3 (hS.sl 0 rfl) rfl rfl (by omega) (by omega))) (RQ.on rfl rfl rfl rfl (fun w hS => (ev_loadG (m := (ap.1).toNat) (a := aa) Tryz.underlying3 rfl (hS.sl 0 rfl) rfl haa)) (RQ.on rfl rfl rfl rfl (fun w hS => (ev_fieldAddr Tryz.underlying28 rfl sz26 (by decide) rfl)) (RQ.on rfl rfl rfl rfl (fun w hS => (ev_loadB Tryz.underlying26 rfl rfl (hS.blk 1 rfl) rfl)) (RQ.on (v := .int .i64 ((q : Int))) rfl rfl rfl rfl (fun w hS => ev_move) (RQ.on rfl rfl rfl rfl (fun w hS => (ev_indexM Tryz.underlying26 sz98 i5cells_len (by decide) (hw.o.now hS) rfl rfl (by omega) (by omega))) (RQ.on rfl rfl rfl rfl (fun w hS => (ev_fieldM (m := q) (b := 0) Tryz.underlying98 rfl sz96 (by decide) i5cells_len (hw.o.now hS) hap rfl rfl)) (RQ.on rfl rfl rfl rfl (fun w hS => (ev_fieldM (m := q) (b := 2) Tryz.underlying96 rfl sz3 (by decide) i5cells_len (hw.o.now hS) hap rfl rfl)) ?_)))))))))
 refine RQ.on rfl rfl rfl rfl (fun w hS => (ev_loadMF (m := q) (j := 2) (a := ap) Tryz.underlying3 rfl i5cells_len (hw.o.now hS) rfl hap rfl)) (RQ.on rfl rfl rfl rfl (fun w hS => (ev_arith rfl rfl rfl (add64 (by omega) (by omega)))) (RQ.on (v := v3) rfl rfl rfl rfl (fun w hS => ev_move) (RQ.on (v := .int .i64 (ap.2.1)) rfl rfl rfl rfl (fun w hS => ev_move) (RQ.on rfl rfl rfl rfl (fun w hS => (ev_index Tryz.underlying25 sz3 (hS.sl 0 rfl) rfl rfl (by omega) (by omega))) (RQ.on rfl rfl rfl rfl (fun w hS => (ev_loadG (m := (ap.2.1).toNat) (a := ab) Tryz.underlying3 rfl (hS.sl 0 rfl) rfl hab)) (RQ.on rfl rfl rfl rfl (fun w hS => (ev_lss rfl rfl)) (RQ.on (v := .bool (decide (aa + ap.2.2.1 < ab))) rfl rfl rfl rfl (fun w hS => (ev_pickF rfl)) (RQ.ev (v := .bool (decide (aa + ap.2.2.1 < ab))) rfl rfl (fun w hS => (ev_pickT rfl)) (RQ.done (by kernel_rfl) ?_)))))))))
 refine thenN ?_
 refine RW.condP _ rfl (fun hc125 => ?_) (fun hc125 => ?_)
 refine RW.seq ?_
 have hcnd : ab < 0 ∨ aa + ap.2.2.1 < ab := by first | exact .inl (by assumption) | exact .inr (by assumption)
 replace hN := hN.ext (Ext.drew w2'.drew)
 refine RW.drawR rfl (fun u => Now w none_ u [.own vI 3 (v3) (d2), .blk g1 [rv, wv] 28]) 15 [(0,0), (1,0), (2,0), (3,0), (4,0), (5,0), (6,0), (7,0), (8,0), (9,0), (10,0), (11,0), (12,0), (13,0), (14,0), (15,2)] (by intro _ _ _ h; exact h) (by kernel_rfl) hN (RQ.ev (v := v3) rfl rfl (fun w hS => ev_move) (RQ.ev (v := .int .i64 (ap.2.1)) rfl rfl (fun w hS => ev_move) (RQ.ev (v := v3) rfl rfl (fun w hS => ev_move) (RQ.ev (v := .int .i64 (ap.1)) rfl rfl (fun w hS => ev_move) (RQ.ev rfl rfl (fun w hS => (ev_index Tryz.underlying25 sz3 (hS.sl 0 rfl) rfl rfl (by omega) (by omega))) (RQ.ev rfl rfl (fun w hS => (ev_loadG (m := (ap.1).toNat) (a := aa) Tryz.underlying3 rfl (hS.sl 0 rfl) rfl haa)) (RQ.ev rfl rfl (fun w hS => (ev_fieldAddr Tryz.underlying28 rfl sz26 (by decide) rfl)) (RQ.ev rfl rfl (fun w hS => (ev_loadB Tryz.underlying26 rfl rfl (hS.blk 1 rfl) rfl)) (RQ.ev (v := .int .i64 ((q : Int))) rfl rfl (fun w hS => ev_move) ?_)))))))))
 refine RQ.ev rfl rfl (fun w hS => (ev_indexM Tryz.underlying26 sz98 i5cells_len (by decide) (hw.o.now hS) rfl rfl (by omega) (by omega))) (RQ.ev rfl rfl (fun w hS => (ev_fieldM (m := q) (b := 0) Tryz.underlying98 rfl sz96 (by decide) i5cells_len (hw.o.now hS) hap rfl rfl)) (RQ.ev rfl rfl (fun w hS => (ev_fieldM (m := q) (b := 2) Tryz.underlying96 rfl sz3 (by decide) i5cells_len (hw.o.now hS) hap rfl rfl)) (RQ.ev rfl rfl (fun w hS => (ev_loadMF (m := q) (j := 2) (a := ap) Tryz.underlying3 rfl i5cells_len (hw.o.now hS) rfl hap rfl)) (RQ.ev rfl rfl (fun w hS => (ev_arith rfl rfl rfl (add64 (by omega) (by omega)))) (RQ.ev rfl rfl (fun w hS => (ev_index Tryz.underlying25 sz3 (hS.sl 0 rfl) rfl rfl (by omega) (by omega))) ?_)))))
 refine RQ.last rfl rfl (opN_storeOwn (m := (ap.2.1).toNat) (a := (aa + ap.2.2.1)) sz3 hN 0 rfl rfl (by omega) rfl rfl rfl rfl ?_)
 clear hN
 intro w28 (hN : Now w none_ w28 [_, _])
 refine RZ.done (by kernel_rfl) (thenN (RW.region (RL.ev (v := .bool true) rfl rfl ev_assign (RL.nil (blockN (thenN (RW.region (RL.ev (v := .int .i64 ((q : Int))) rfl rfl ev_move (RL.ev rfl rfl (ev_arith rfl rfl rfl (add64 (by omega) (by omega))) ?_)))))))))
 refine RL.ev (v := .int .i64 ((q : Int) + 1)) rfl rfl ev_assign (RL.nil (thenN ?_))
 have hst := hD2.step (wmax_pos 12) haa hab (by assumption) ⟨hx5, hx6⟩ hcnd
 exact ⟨k2 - 1, by omega, (d2).set (ap.2.1).toNat ((aa + ap.2.2.1)), true, q + 1, rfl, rfl, rfl, rfl, rfl, rfl, hN, by omega, hst.1, zero_keep hZ2 hab (by omega) hcnd, Nat.le_trans hst.2 (by omega)⟩
 refine RW.skip (blockN (thenN (RW.region (RL.ev (v := .int .i64 ((q : Int))) rfl rfl ev_move (RL.ev rfl rfl (ev_arith rfl rfl rfl (add64 (by omega) (by omega))) (RL.ev (v := .int .i64 ((q : Int) + 1)) rfl rfl ev_assign (RL.nil (thenN ?_))))))))
 exact ⟨k2 - 1, by omega, _, _, q + 1, rfl, rfl, rfl, rfl, rfl, rfl, hN, by omega, by omega, by omega, by omega⟩
 rw [decide_eq_false hg21_27]
 iterate 6 refine RQ.off rfl rfl rfl rfl ?_
 iterate 17 refine RQ.offU rfl rfl rfl rfl ?_
 refine RQ.off rfl rfl rfl rfl (RQ.ev (v := .bool false) rfl rfl (fun w hS => (ev_pickF rfl)) (RQ.done (by kernel_rfl) (thenN (RW.condF rfl (RW.skip (blockN (thenN (RW.region (RL.ev (v := .int .i64 ((q : Int))) rfl rfl ev_move ?_)))))))))
 refine RL.ev rfl rfl (ev_arith rfl rfl rfl (add64 (by omega) (by omega))) (RL.ev (v := .int .i64 ((q : Int) + 1)) rfl rfl ev_assign (RL.nil (thenN ?_)))
 exact ⟨k2 - 1, by omega, _, _, q + 1, rfl, rfl, rfl, rfl, rfl, rfl, hN, by omega, by omega, by omega, by omega⟩
 rw [decide_eq_false hg21_14]
 iterate 11 refine RQ.off rfl rfl rfl rfl ?_
 refine RQ.ev (v := .bool false) rfl rfl (fun w hS => (ev_pickF rfl)) (RQ.ev (v := .bool false) rfl rfl (fun w hS => ev_move) ?_)
 iterate 6 refine RQ.off rfl rfl rfl rfl ?_
 iterate 17 refine RQ.offU rfl rfl rfl rfl ?_
 refine RQ.off rfl rfl rfl rfl (RQ.ev (v := .bool false) rfl rfl (fun w hS => (ev_pickF rfl)) (RQ.done (by kernel_rfl) (thenN (RW.condF rfl (RW.skip (blockN (thenN (RW.region (RL.ev (v := .int .i64 ((q : Int))) rfl rfl ev_move ?_)))))))))
 refine RL.ev rfl rfl (ev_arith rfl rfl rfl (add64 (by omega) (by omega))) (RL.ev (v := .int .i64 ((q : Int) + 1)) rfl rfl ev_assign (RL.nil (thenN ?_)))
 exact ⟨k2 - 1, by omega, _, _, q + 1, rfl, rfl, rfl, rfl, rfl, rfl, hN, by omega, by omega, by omega, by omega⟩
 rw [decide_eq_false hg21_5]
 iterate 7 refine RQ.off rfl rfl rfl rfl ?_
 refine RQ.ev (v := .bool false) rfl rfl (fun w hS => (ev_pickF rfl)) (RQ.ev (v := .bool false) rfl rfl (fun w hS => ev_move) ?_)
 iterate 11 refine RQ.off rfl rfl rfl rfl ?_
 refine RQ.ev (v := .bool false) rfl rfl (fun w hS => (ev_pickF rfl)) (RQ.ev (v := .bool false) rfl rfl (fun w hS => ev_move) ?_)
 iterate 6 refine RQ.off rfl rfl rfl rfl ?_
 iterate 17 refine RQ.offU rfl rfl rfl rfl ?_
 refine RQ.off rfl rfl rfl rfl (RQ.ev (v := .bool false) rfl rfl (fun w hS => (ev_pickF rfl)) (RQ.done (by kernel_rfl) (thenN (RW.condF rfl (RW.skip (blockN (thenN (RW.region (RL.ev (v := .int .i64 ((q : Int))) rfl rfl ev_move ?_)))))))))
 refine RL.ev rfl rfl (ev_arith rfl rfl rfl (add64 (by omega) (by omega))) (RL.ev (v := .int .i64 ((q : Int) + 1)) rfl rfl ev_assign (RL.nil (thenN ?_)))
 exact ⟨k2 - 1, by omega, _, _, q + 1, rfl, rfl, rfl, rfl, rfl, rfl, hN, by omega, by omega, by omega, by omega⟩
 refine RW.exit ?_
 iterate 2 refine thenX ?_
 refine blockHit (blockN (thenN ?_))
 exact ⟨2 * pot ((n : Int) * wmax 12).toNat d2 + m2.toNat, by subst hm; have : (true : Bool).toNat = 1 := rfl; omega, d2, m2, rfl, rfl, rfl, rfl, rfl, hN, rfl, hD2, hZ2⟩
 refine RW.exit ?_
 iterate 2 refine thenX ?_
 refine blockHit (thenN (RW.seq (RW.region (RL.ev (v := v3) rfl rfl ev_move (RL.ev (v := v3) rfl rfl ev_assign (RL.nil (thenN (RW.ret (retI (RV.tmp rfl) ?_)))))))))
 exact ⟨d1, hN.ownOut 0 rfl, hD, hZ, hN.ext0⟩
set_option maxHeartbeats 4000000 in
set_option maxRecDepth 100000 in
theorem rows_calls (rv wv : Value) (rk : List Int) (ways : List I5) (dv : Value) (d : List Int) (lo hi : Int) (w : World) (hr : Sl vI w rv rk) (hd : Sl vI w dv d) (hlen : d.length = rk.length) (hn : d.length ≤ 4096) : Gives Tryz.prog 189 #[.agg #[rv, wv], dv, .int .i64 lo, .int .i64 hi] w fun r w' => OwnM i2cells 2 135 w' w.heap.size r (rowsOf rk d lo hi d.length) ∧ Ext w w' := by
 refine Gives.start Tryz.func189 rfl (Nat.le_of_ble_eq_true rfl) ?_
 rw [args4]
 have hN := Now.nil w none_
 refine RW.seq (RW.region ?_)
 refine RL.op rfl rfl (opN_box (cs := [rv, wv]) rfl rfl hN ?_)
 clear hN
 intro g1 w1 (hN : Now w none_ w1 [_])
 refine RL.ev (v := .slice none 0 0) rfl rfl ev_assign (RL.nil (thenN (RW.seq (RW.region (RL.ev (v := .slice none 0 0) rfl rfl ev_assign (RL.nil (thenN ?_)))))))
 iterate 2 refine RW.seq ?_
 refine RW.region (RL.ev (v := .int .i64 (0)) rfl rfl ev_assign (RL.nil (thenN (RW.block ?_))))
 replace hN := hN.addNilM i2cells 2 135
 refine RW.loop (fun k R0 w0' => ∃ va : Value, ∃ acc : List I2, ∃ i : Nat, R0 1 = dv ∧ R0 2 = .int .i64 (lo) ∧ R0 3 = .int .i64 (hi) ∧ R0 4 = .pointer (some ⟨g1, 0, none⟩) ∧ R0 9 = va ∧ R0 10 = .int .i64 ((i : Int)) ∧ Now w none_ w0' [.ownm i2cells 2 135 (va) (acc), .blk g1 [rv, wv] 28] ∧ (i + k = d.length) ∧ (acc = rowsOf rk d lo hi i) ∧ (acc.length ≤ i)) (d.length) ?_ ?_
 exact ⟨.slice none 0 0, [], 0, rfl, rfl, rfl, rfl, rfl, rfl, hN, by omega, rfl, Nat.le_refl _⟩
 clear hN
 rintro k R0 w0' ⟨va, acc, i, hr1_, hr2_, hr3_, hr4_, hr9_, hr10_, hN, hik, ha, hal⟩
 have hR_ : ∃ R0_, R0 = (upd (upd (upd (upd (upd (upd R0_ 1 _) 2 _) 3 _) 4 _) 9 _) 10 _) := ⟨R0, by rw [upd_self hr1_, upd_self hr2_, upd_self hr3_, upd_self hr4_, upd_self hr9_, upd_self hr10_]⟩
 obtain ⟨R0_, rfl⟩ := hR_
 clear hr1_ hr2_ hr3_ hr4_ hr9_ hr10_
 iterate 2 refine RW.seq ?_
 refine RW.region (RL.ev (v := .int .i64 ((i : Int))) rfl rfl ev_move (RL.ev (v := dv) rfl rfl ev_move ?_))
 have hL_3 := (hd.o.now hN).len_le
 refine RL.ev rfl rfl (ev_lenS Tryz.underlying25 (hd.o.now hN) rfl) (RL.ev rfl rfl (ev_lss rfl rfl) (RL.nil (thenN ?_)))
 refine RW.condP _ rfl (fun hlt => ?_) (fun hlt => ?_)
 refine RW.skip (thenN (RW.seq (RW.block (RW.seq ?_))))
 have hOb_ : ∃ a_, d[i]? = some a_ := ⟨_, List.getElem?_eq_getElem (by omega)⟩
 obtain ⟨ax, hx⟩ := hOb_
 have hOb_ : ∃ a_, rk[i]? = some a_ := ⟨_, List.getElem?_eq_getElem (by omega)⟩
 obtain ⟨q, hq⟩ := hOb_
 by_cases hcc : 0 ≤ ax ∧ lo ≤ q ∧ q < hi
 refine RW.region (RL.ev (v := dv) rfl rfl ev_move (RL.ev (v := .int .i64 ((i : Int))) rfl rfl ev_move (RL.ev rfl rfl (ev_index Tryz.underlying25 sz3 (hd.o.now hN) rfl rfl (by omega) (by omega)) (RL.ev rfl rfl (ev_loadG (m := i) (a := ax) Tryz.underlying3 rfl (hd.o.now hN) rfl hx) (RL.ev rfl rfl (ev_true (ev_geq rfl rfl) hcc.1) (RL.ev (v := .bool true) rfl rfl ev_move (RL.onEv rfl rfl (by decide) rfl rfl (ev_fieldAddr Tryz.underlying28 rfl sz25 (by decide) rfl) (RL.onEv rfl rfl (by decide) rfl rfl (ev_loadB Tryz.underlying25 rfl rfl (hN.blk 1 rfl) rfl) (RL.onEv (v := .int .i64 ((i : Int))) rfl rfl (by decide) rfl rfl ev_move ?_)))))))))
 refine RL.onEv rfl rfl (by decide) rfl rfl (ev_index Tryz.underlying25 sz3 (hr.o.now hN) rfl rfl (by omega) (by omega)) (RL.onEv rfl rfl (by decide) rfl rfl (ev_loadG (m := i) (a := q) Tryz.underlying3 rfl (hr.o.now hN) rfl hq) (RL.onEv (v := .int .i64 (lo)) rfl rfl (by decide) rfl rfl ev_move (RL.onEv rfl rfl (by decide) rfl rfl (ev_true (ev_geq rfl rfl) hcc.2.1) (RL.ev (v := .bool true) rfl rfl (ev_pickT rfl) (RL.ev (v := .bool true) rfl rfl ev_move (RL.onEv rfl rfl (by decide) rfl rfl (ev_fieldAddr Tryz.underlying28 rfl sz25 (by decide) rfl) (RL.onEv rfl rfl (by decide) rfl rfl (ev_loadB Tryz.underlying25 rfl rfl (hN.blk 1 rfl) rfl) (RL.onEv (v := .int .i64 ((i : Int))) rfl rfl (by decide) rfl rfl ev_move (RL.onEv rfl rfl (by decide) rfl rfl (ev_index Tryz.underlying25 sz3 (hr.o.now hN) rfl rfl (by omega) (by omega)) ?_)))))))))
 refine RL.onEv rfl rfl (by decide) rfl rfl (ev_loadG (m := i) (a := q) Tryz.underlying3 rfl (hr.o.now hN) rfl hq) (RL.onEv (v := .int .i64 (hi)) rfl rfl (by decide) rfl rfl ev_move (RL.onEv rfl rfl (by decide) rfl rfl (ev_true (ev_lss rfl rfl) hcc.2.2) (RL.ev (v := .bool true) rfl rfl (ev_pickT rfl) (RL.nil (thenN (RW.condT rfl (RW.region (RL.ev (v := va) rfl rfl ev_move (RL.ev (v := .int .i64 ((i : Int))) rfl rfl ev_move ?_)))))))))
 refine RL.ev (v := dv) rfl rfl ev_move (RL.ev (v := .int .i64 ((i : Int))) rfl rfl ev_move (RL.ev rfl rfl (ev_index Tryz.underlying25 sz3 (hd.o.now hN) rfl rfl (by omega) (by omega)) (RL.ev rfl rfl (ev_loadG (m := i) (a := ax) Tryz.underlying3 rfl (hd.o.now hN) rfl hx) (RL.ev rfl rfl (ev_buildL (cs := [.int .i64 ((i : Int)), .int .i64 (ax)]) Tryz.underlying135 zero135 (places := #[(0, 1), (1, 1)]) (by intro w; kernel_rfl) (pl := [(0, .tmp 41), (1, .tmp 45)]) rfl (ps := [(0, .int .i64 ((i : Int))), (1, .int .i64 (ax))]) rfl (zc := [.int .i64 (0), .int .i64 (0)]) rfl (fill_step (vs := [.int .i64 ((i : Int))]) rfl rfl (Nat.le_of_ble_eq_true rfl) (fill_step (vs := [.int .i64 (ax)]) rfl rfl (Nat.le_of_ble_eq_true rfl) rfl))) ?_))))
 refine RL.op rfl rfl (opN_litM (cf := i2cells) (s := 2) (pl := [(0, .tmp 46)]) (ps := [(0, .agg #[.int .i64 ((i : Int)), .int .i64 (ax)])]) (zc := [.int .i64 (0), .int .i64 (0)]) (l := [((i : Int), ax)]) Tryz.underlying118 inf135 (by kernel_rfl) rfl rfl (fill_step (vs := [.int .i64 ((i : Int)), .int .i64 (ax)]) rfl rfl (Nat.le_of_ble_eq_true rfl) rfl) i2cells_len rfl (by decide) (by decide) (by decide) hN ?_)
 clear hN
 intro g8 w8 (hN : Now w none_ w8 [_, _, _])
 refine RL.op rfl rfl (opN_appendM Tryz.underlying118 inf135 rfl (by decide) i2cells_one i2cells_len hN 1 rfl rfl (hN.sm 0 rfl) rfl (by (try simp only [List.length_append, List.length_singleton, List.length_cons, List.length_nil]); omega) (by decide) ?_)
 clear hN
 intro v9 w9 (hN : Now w none_ w9 [_, _, _])
 refine RL.ev (v := v9) rfl rfl ev_assign (RL.nil (blockN (thenN (RW.region (RL.ev (v := .int .i64 ((i : Int))) rfl rfl ev_move (RL.ev rfl rfl (ev_arith rfl rfl rfl (add64 (by omega) (by omega))) (RL.ev (v := .int .i64 ((i : Int) + 1)) rfl rfl ev_assign (RL.nil (thenN ?_)))))))))
 exact ⟨k - 1, by omega, v9, acc ++ [((i : Int), ax)], i + 1, rfl, rfl, rfl, rfl, rfl, rfl, (hN.sub [1, 2] (by decide) rfl), by omega, by rw [rowsOf_succ, show rowOne rk d lo hi i = [((i : Int), ax)] from by unfold rowOne; rw [hx, hq]; exact if_pos hcc]; rw [ha], by (try simp only [List.length_append, List.length_singleton]); omega⟩
 refine RW.region (RL.ev (v := dv) rfl rfl ev_move (RL.ev (v := .int .i64 ((i : Int))) rfl rfl ev_move (RL.ev rfl rfl (ev_index Tryz.underlying25 sz3 (hd.o.now hN) rfl rfl (by omega) (by omega)) (RL.ev rfl rfl (ev_loadG (m := i) (a := ax) Tryz.underlying3 rfl (hd.o.now hN) rfl hx) (RL.ev rfl rfl (ev_geq rfl rfl) (RL.ev (v := .bool (decide (0 ≤ ax))) rfl rfl ev_move ?_))))))
 by_cases hg5_5 : 0 ≤ ax
 rw [decide_eq_true hg5_5]
 refine RL.onEv rfl rfl (by decide) rfl rfl (ev_fieldAddr Tryz.underlying28 rfl sz25 (by decide) rfl) (RL.onEv rfl rfl (by decide) rfl rfl (ev_loadB Tryz.underlying25 rfl rfl (hN.blk 1 rfl) rfl) (RL.onEv (v := .int .i64 ((i : Int))) rfl rfl (by decide) rfl rfl ev_move (RL.onEv rfl rfl (by decide) rfl rfl (ev_index Tryz.underlying25 sz3 (hr.o.now hN) rfl rfl (by omega) (by omega)) (RL.onEv rfl rfl (by decide) rfl rfl (ev_loadG (m := i) (a := q) Tryz.underlying3 rfl (hr.o.now hN) rfl hq) (RL.onEv (v := .int .i64 (lo)) rfl rfl (by decide) rfl rfl ev_move (RL.onEv rfl rfl (by decide) rfl rfl (ev_geq rfl rfl) (RL.ev (v := .bool (decide (lo ≤ q))) rfl rfl (ev_pickT rfl) (RL.ev (v := .bool (decide (lo ≤ q))) rfl rfl ev_move ?_))))))))
 by_cases hg5_14 : lo ≤ q
 rw [decide_eq_true hg5_14]
 refine RL.onEv rfl rfl (by decide) rfl rfl (ev_fieldAddr Tryz.underlying28 rfl sz25 (by decide) rfl) (RL.onEv rfl rfl (by decide) rfl rfl (ev_loadB Tryz.underlying25 rfl rfl (hN.blk 1 rfl) rfl) (RL.onEv (v := .int .i64 ((i : Int))) rfl rfl (by decide) rfl rfl ev_move (RL.onEv rfl rfl (by decide) rfl rfl (ev_index Tryz.underlying25 sz3 (hr.o.now hN) rfl rfl (by omega) (by omega)) (RL.onEv rfl rfl (by decide) rfl rfl (ev_loadG (m := i) (a := q) Tryz.underlying3 rfl (hr.o.now hN) rfl hq) (RL.onEv (v := .int .i64 (hi)) rfl rfl (by decide) rfl rfl ev_move (RL.onEv rfl rfl (by decide) rfl rfl (ev_false (ev_lss rfl rfl) (fun h => hcc ⟨hg5_5, hg5_14, h⟩)) (RL.ev (v := .bool false) rfl rfl (ev_pickT rfl) (RL.nil (thenN ?_)))))))))
 refine RW.condF rfl (RW.skip (blockN (thenN (RW.region (RL.ev (v := .int .i64 ((i : Int))) rfl rfl ev_move (RL.ev rfl rfl (ev_arith rfl rfl rfl (add64 (by omega) (by omega))) (RL.ev (v := .int .i64 ((i : Int) + 1)) rfl rfl ev_assign (RL.nil (thenN ?_)))))))))
 exact ⟨k - 1, by omega, va, acc, i + 1, rfl, rfl, rfl, rfl, rfl, rfl, hN, by omega, by rw [rowsOf_succ, show rowOne rk d lo hi i = [] from by unfold rowOne; rw [hx, hq]; exact if_neg hcc]; rw [List.append_nil]; exact ha, by omega⟩
 rw [decide_eq_false hg5_14]
 iterate 7 refine RL.off rfl rfl (by decide) rfl rfl ?_
 refine RL.ev (v := .bool false) rfl rfl (ev_pickF rfl) (RL.nil (thenN (RW.condF rfl (RW.skip (blockN (thenN (RW.region (RL.ev (v := .int .i64 ((i : Int))) rfl rfl ev_move (RL.ev rfl rfl (ev_arith rfl rfl rfl (add64 (by omega) (by omega))) ?_)))))))))
 refine RL.ev (v := .int .i64 ((i : Int) + 1)) rfl rfl ev_assign (RL.nil (thenN ?_))
 exact ⟨k - 1, by omega, va, acc, i + 1, rfl, rfl, rfl, rfl, rfl, rfl, hN, by omega, by rw [rowsOf_succ, show rowOne rk d lo hi i = [] from by unfold rowOne; rw [hx, hq]; exact if_neg hcc]; rw [List.append_nil]; exact ha, by omega⟩
 rw [decide_eq_false hg5_5]
 iterate 7 refine RL.off rfl rfl (by decide) rfl rfl ?_
 refine RL.ev (v := .bool false) rfl rfl (ev_pickF rfl) (RL.ev (v := .bool false) rfl rfl ev_move ?_)
 iterate 7 refine RL.off rfl rfl (by decide) rfl rfl ?_
 refine RL.ev (v := .bool false) rfl rfl (ev_pickF rfl) (RL.nil (thenN (RW.condF rfl (RW.skip (blockN (thenN (RW.region (RL.ev (v := .int .i64 ((i : Int))) rfl rfl ev_move (RL.ev rfl rfl (ev_arith rfl rfl rfl (add64 (by omega) (by omega))) ?_)))))))))
 refine RL.ev (v := .int .i64 ((i : Int) + 1)) rfl rfl ev_assign (RL.nil (thenN ?_))
 exact ⟨k - 1, by omega, va, acc, i + 1, rfl, rfl, rfl, rfl, rfl, rfl, hN, by omega, by rw [rowsOf_succ, show rowOne rk d lo hi i = [] from by unfold rowOne; rw [hx, hq]; exact if_neg hcc]; rw [List.append_nil]; exact ha, by omega⟩
 refine RW.exit ?_
 iterate 2 refine thenX ?_
 refine blockHit (thenN (RW.seq (RW.region (RL.ev (v := va) rfl rfl ev_move (RL.ev (v := va) rfl rfl ev_assign (RL.nil (thenN (RW.ret (retI (RV.tmp rfl) ?_)))))))))
 have hi_ : i = d.length := by omega
 subst hi_
 subst ha
 exact ⟨hN.ownmOut 0 rfl, hN.ext0⟩
end Go.Proofs.YtngkdkbpgoddlaaGreat
set_option linter.unusedVariables false
set_option linter.unusedSimpArgs false
namespace Go.Proofs.YtngkdkbpgoddlaaGreat
open Go.RowKit Go.Rl
open Go.Gr
set_option maxHeartbeats 4000000 in
set_option maxRecDepth 100000 in
theorem above_calls (n : Nat) (rv wv : Value) (rk : List Int) (ways : List I5) (w : World) (hr : Sl vI w rv rk) (hw : Sm i5cells w wv ways) (hH : HOk n rk ways) (v : Int) (bk : Bool) (hn : n ≤ 12) (hv0 : 0 ≤ v) (hv1 : v < n) : Gives Tryz.prog 217 #[.agg #[rv, wv], .int .i64 v, .bool (decide (bk = true))] w fun r w' => ∃ out, OwnM i2cells 2 135 w' w.heap.size r out ∧ RowOk n out ∧ (v, 0) ∈ out ∧ out.length ≤ n ∧ Ext w w' := by
 refine Gives.start Tryz.func217 rfl (Nat.le_of_ble_eq_true rfl) ?_
 rw [args3]
 have hN := Now.nil w none_
 have hln := hH.len
 refine RW.seq (RW.region ?_)
 refine RL.op rfl rfl (opN_box (cs := [rv, wv]) rfl rfl hN ?_)
 clear hN
 intro g1 w1 (hN : Now w none_ w1 [_])
 refine RL.ev (v := .slice none 0 0) rfl rfl ev_assign (RL.nil (thenN (RW.seq (RW.region (RL.ev rfl rfl (ev_fieldAddr Tryz.underlying28 rfl sz25 (by decide) rfl) (RL.ev rfl rfl (ev_loadB Tryz.underlying25 rfl rfl (hN.blk 0 rfl) rfl) ?_))))))
 have hL_2 := (hr.o.now hN).len_le
 refine RL.ev rfl rfl (ev_lenS Tryz.underlying25 (hr.o.now hN) rfl) (RL.ev (v := .int .i64 ((rk.length : Int))) rfl rfl ev_assign (RL.nil (thenN (RW.seq ?_))))
 replace hN := hN.ext (Ext.drew w1)
 refine RW.drawR rfl (fun u => Now w none_ u [.blk g1 [rv, wv] 28]) 9 [(0,0), (1,0), (2,0), (3,0), (4,0), (6,0), (5,1), (7,1), (8,0)] (by intro _ _ _ h; exact h) (by kernel_rfl) hN ?_
 iterate 2 refine RQ.ev rfl rfl (fun w hS => (ev_loadAll (cs := [rv, wv]) Tryz.underlying28 rfl sz28 rfl (hS.blk 0 rfl))) ?_
 refine RQ.ev (v := .int .i64 (v)) rfl rfl (fun w hS => ev_move) (RQ.ev (v := .int .i64 ((rk.length : Int))) rfl rfl (fun w hS => ev_move) (RQ.ev (v := .bool (decide (bk = true))) rfl rfl (fun w hS => ev_move) (RQ.ev (v := .int .i64 ((rk.length : Int))) rfl rfl (fun w hS => ev_move) ?_)))
 refine RQ.do rfl rfl (op_call4 Tryz.func144 rfl rfl rfl rfl rfl rfl ((climb_calls n _ _ rk ways _ (hr.o.now hN) (hw.o.now hN) hH v (rk.length : Int) bk hn hv0 hv1).mono ?_))
 rintro v3 w3 ⟨d3, ho_, hD3, hZ3, he_⟩
 replace hN : Now w none_ w3 [_, _] := hN.pushOwn ho_ he_
 clear ho_ he_
 have hdl3 := hD3.len
 refine ⟨(hN.sub [1] (by decide) rfl), ?_⟩
 refine RQ.do rfl rfl (op_call4 Tryz.func189 rfl rfl rfl rfl rfl rfl ((rows_calls _ _ rk ways _ d3 0 (rk.length : Int) _ (hr.o.now hN) (hN.sl 0 rfl) (by have := hH.len; omega) (by omega)).mono ?_))
 rintro v4 w4 ⟨ho_, he_⟩
 replace hN : Now w none_ w4 [_, _, _] := hN.pushOwnM ho_ he_
 clear ho_ he_
 refine ⟨(hN.sub [2] (by decide) rfl), ?_⟩
 refine RQ.ev (v := v4) rfl rfl (fun w hS => ev_assign) (RQ.done (by kernel_rfl) (thenN (RW.ret (retI (RV.tmp rfl) ?_))))
 exact ⟨_, hN.ownmOut 0 rfl, rows_ok hD3 hn, rows_self hH hdl3 hv0 hv1 hZ3, by have := rowsOf_len rk d3 0 (rk.length : Int) d3.length; omega, hN.ext0⟩
set_option maxHeartbeats 4000000 in
set_option maxRecDepth 100000 in
theorem meet_calls (n : Nat) (av bv : Value) (a b : List I2) (w : World) (ha : Sm i2cells w av a) (hb : Sm i2cells w bv b) (hA : RowOk n a) (hB : RowOk n b) (hal : a.length ≤ 4096) (hbl : b.length ≤ 4096) : Gives Tryz.prog 216 #[av, bv] w fun r w' => ∃ z y i, r = .tuple #[.int .i64 z, .int .i64 y] ∧ ((y = -1 ∧ z = -1) ∨ (0 ≤ y ∧ 0 ≤ z ∧ z ≤ 211106232532992)) ∧ MeetInv a b i 0 z y ∧ a.length ≤ i ∧ Ext w w' := by
 refine Gives.start Tryz.func216 rfl (Nat.le_of_ble_eq_true rfl) ?_
 rw [args2]
 have hN := Now.nil w none_
 refine RW.seq (RW.region ?_)
 iterate 2 refine RL.ev (v := .int .i64 (0)) rfl rfl ev_assign ?_
 refine RL.nil (thenN (RW.seq (RW.region (RL.ev (v := .int .i64 (-1)) rfl rfl ev_assign (RL.nil (thenN (RW.seq (RW.region (RL.ev (v := .int .i64 (-1)) rfl rfl ev_assign ?_)))))))))
 refine RL.nil (thenN ?_)
 iterate 2 refine RW.seq ?_
 refine RW.region (RL.ev (v := .int .i64 (0)) rfl rfl ev_assign (RL.nil (thenN (RW.block ?_))))
 refine RW.loop (fun k R0 w0' => ∃ z : Int, ∃ y : Int, ∃ i : Nat, R0 0 = av ∧ R0 1 = bv ∧ R0 6 = .int .i64 (z) ∧ R0 7 = .int .i64 (y) ∧ R0 8 = .int .i64 ((i : Int)) ∧ Now w none_ w0' [] ∧ (i + k = a.length) ∧ ((y = -1 ∧ z = -1) ∨ (0 ≤ y ∧ 0 ≤ z ∧ z ≤ 211106232532992)) ∧ (MeetInv a b i 0 z y)) (a.length) ?_ ?_
 exact ⟨-1, -1, 0, rfl, rfl, rfl, rfl, rfl, hN, by omega, .inl ⟨rfl, rfl⟩, fun i1 k1 e f _ _ _ h => absurd h (by omega)⟩
 clear hN
 rintro k R0 w0' ⟨z, y, i, hr0_, hr1_, hr6_, hr7_, hr8_, hN, hik, hz, hm⟩
 have hR_ : ∃ R0_, R0 = (upd (upd (upd (upd (upd R0_ 0 _) 1 _) 6 _) 7 _) 8 _) := ⟨R0, by rw [upd_self hr0_, upd_self hr1_, upd_self hr6_, upd_self hr7_, upd_self hr8_]⟩
 obtain ⟨R0_, rfl⟩ := hR_
 clear hr0_ hr1_ hr6_ hr7_ hr8_
 iterate 2 refine RW.seq ?_
 refine RW.region (RL.ev (v := .int .i64 ((i : Int))) rfl rfl ev_move (RL.ev (v := av) rfl rfl ev_move ?_))
 have hL_1 := (ha.o.now hN).len_le
 refine RL.ev rfl rfl (ev_lenM Tryz.underlying118 (ha.o.now hN) rfl) (RL.ev rfl rfl (ev_lss rfl rfl) (RL.nil (thenN ?_)))
 refine RW.condP _ rfl (fun hlt => ?_) (fun hlt => ?_)
 refine RW.skip (thenN (RW.seq (RW.block (RW.seq (RW.region (RL.ev (v := .int .i64 (0)) rfl rfl ev_assign (RL.nil (thenN (RW.block ?_)))))))))
 refine RW.loop (fun k2 R1 w1' => ∃ z2 : Int, ∃ y2 : Int, ∃ q : Nat, R1 0 = av ∧ R1 1 = bv ∧ R1 6 = .int .i64 (z2) ∧ R1 7 = .int .i64 (y2) ∧ R1 8 = .int .i64 ((i : Int)) ∧ R1 9 = .int .i64 ((q : Int)) ∧ Now w none_ w1' [] ∧ (q + k2 = b.length) ∧ ((y2 = -1 ∧ z2 = -1) ∨ (0 ≤ y2 ∧ 0 ≤ z2 ∧ z2 ≤ 211106232532992)) ∧ (MeetInv a b i q z2 y2)) (b.length) ?_ ?_
 exact ⟨z, y, 0, rfl, rfl, rfl, rfl, rfl, rfl, hN, by omega, hz, hm⟩
 clear hN
 rintro k2 R1 w1' ⟨z2, y2, q, hr0_, hr1_, hr6_, hr7_, hr8_, hr9_, hN, hqk, hz2, hm2⟩
 have hR_ : ∃ R1_, R1 = (upd (upd (upd (upd (upd (upd R1_ 0 _) 1 _) 6 _) 7 _) 8 _) 9 _) := ⟨R1, by rw [upd_self hr0_, upd_self hr1_, upd_self hr6_, upd_self hr7_, upd_self hr8_, upd_self hr9_]⟩
 obtain ⟨R1_, rfl⟩ := hR_
 clear hr0_ hr1_ hr6_ hr7_ hr8_ hr9_
 iterate 2 refine RW.seq ?_
 refine RW.region (RL.ev (v := .int .i64 ((q : Int))) rfl rfl ev_move (RL.ev (v := bv) rfl rfl ev_move ?_))
 have hL_2 := (hb.o.now hN).len_le
 refine RL.ev rfl rfl (ev_lenM Tryz.underlying118 (hb.o.now hN) rfl) (RL.ev rfl rfl (ev_lss rfl rfl) (RL.nil (thenN ?_)))
 refine RW.condP _ rfl (fun hlt2 => ?_) (fun hlt2 => ?_)
 refine RW.skip (thenN (RW.seq (RW.block (RW.seq ?_))))
 replace hN := hN.ext (Ext.drew w1')
 refine RW.drawR rfl (fun u => Now w none_ u []) 54 [(0,0), (1,0), (2,0), (3,0), (4,0), (5,0), (6,0), (7,0), (8,0), (9,0), (10,0), (11,0), (12,0), (13,0), (14,0), (15,0), (16,0), (17,0), (18,0), (19,0), (20,0), (21,0), (22,0), (23,0), (24,0), (25,0), (26,0), (27,0), (28,0), (29,0), (30,0), (31,0), (32,0), (33,0), (34,0), (35,0), (36,0), (37,0), (38,0), (39,0), (40,0), (41,0), (42,0), (43,0), (44,0), (45,0), (46,0), (47,0), (48,0), (49,0), (50,0), (51,0), (52,0), (53,0)] (by intro _ _ _ h; exact h) (by kernel_rfl) hN (RQ.ev (v := av) rfl rfl (fun w hS => ev_move) (RQ.ev (v := .int .i64 ((i : Int))) rfl rfl (fun w hS => ev_move) (RQ.ev rfl rfl (fun w hS => (ev_indexM Tryz.underlying118 sz135 i2cells_len (by decide) (ha.o.now hS) rfl rfl (by omega) (by omega))) ?_)))
 have hOb_ : ∃ a_, (a)[i]? = some a_ := ⟨_, List.getElem?_eq_getElem (by omega)⟩
 obtain ⟨ap, hap⟩ := hOb_
 refine RQ.ev rfl rfl (fun w hS => (ev_fieldM (m := i) (b := 0) Tryz.underlying135 rfl sz3 (by decide) i2cells_len (ha.o.now hS) hap rfl rfl)) ?_
 have hOb_ := hA ap (List.mem_of_getElem? hap)
 obtain ⟨hp1, hp2, hp3, hp4⟩ := hOb_
 refine RQ.ev rfl rfl (fun w hS => (ev_loadMF (m := i) (j := 0) (a := ap) Tryz.underlying3 rfl i2cells_len (ha.o.now hS) rfl hap rfl)) (RQ.ev (v := bv) rfl rfl (fun w hS => ev_move) (RQ.ev (v := .int .i64 ((q : Int))) rfl rfl (fun w hS => ev_move) (RQ.ev rfl rfl (fun w hS => (ev_indexM Tryz.underlying118 sz135 i2cells_len (by decide) (hb.o.now hS) rfl rfl (by omega) (by omega))) ?_)))
 have hOb_ : ∃ a_, (b)[q]? = some a_ := ⟨_, List.getElem?_eq_getElem (by omega)⟩
 obtain ⟨ar, har⟩ := hOb_
 refine RQ.ev rfl rfl (fun w hS => (ev_fieldM (m := q) (b := 0) Tryz.underlying135 rfl sz3 (by decide) i2cells_len (hb.o.now hS) har rfl rfl)) ?_
 have hOb_ := hB ar (List.mem_of_getElem? har)
 obtain ⟨hr1, hr2, hr3, hr4⟩ := hOb_
 refine RQ.ev rfl rfl (fun w hS => (ev_loadMF (m := q) (j := 0) (a := ar) Tryz.underlying3 rfl i2cells_len (hb.o.now hS) rfl har rfl)) (RQ.ev rfl rfl (fun w hS => (ev_eql rfl rfl)) (RQ.ev (v := .bool (decide (ap.1 = ar.1))) rfl rfl (fun w hS => ev_move) ?_))
 by_cases hg9_11 : ap.1 = ar.1
 rw [decide_eq_true hg9_11]
 refine RQ.on (v := .int .i64 (y2)) rfl rfl rfl rfl (fun w hS => ev_move) (RQ.on rfl rfl rfl rfl (fun w hS => (ev_lss rfl rfl)) (RQ.on (v := .bool (decide (y2 < 0))) rfl rfl rfl rfl (fun w hS => ev_move) ?_))
 by_cases hg9_14 : y2 < 0
 rw [decide_eq_true hg9_14]
 iterate 13 refine RQ.off rfl rfl rfl rfl ?_
 refine RQ.on (v := .bool true) rfl rfl rfl rfl (fun w hS => (ev_pickT rfl)) (RQ.on (v := .bool true) rfl rfl rfl rfl (fun w hS => ev_move) ?_)
 iterate 14 refine RQ.off rfl rfl rfl rfl ?_
 iterate 7 refine RQ.offU rfl rfl rfl rfl ?_
 refine RQ.off rfl rfl rfl rfl (RQ.on (v := .bool true) rfl rfl rfl rfl (fun w hS => (ev_pickT rfl)) (RQ.ev (v := .bool true) rfl rfl (fun w hS => (ev_pickT rfl)) (RQ.done (by kernel_rfl) (thenN (RW.condT rfl (RW.seq ?_))))))
 replace hN := hN.ext (Ext.drew w1'.drew)
 refine RW.drawR rfl (fun u => Now w none_ u []) 12 [(0,0), (1,0), (2,0), (3,0), (4,0), (5,0), (6,0), (7,0), (8,0), (9,0), (10,0), (11,0)] (by intro _ _ _ h; exact h) (by kernel_rfl) hN (RQ.ev (v := av) rfl rfl (fun w hS => ev_move) (RQ.ev (v := .int .i64 ((i : Int))) rfl rfl (fun w hS => ev_move) (RQ.ev rfl rfl (fun w hS => (ev_indexM Tryz.underlying118 sz135 i2cells_len (by decide) (ha.o.now hS) rfl rfl (by omega) (by omega))) (RQ.ev rfl rfl (fun w hS => (ev_fieldM (m := i) (b := 0) Tryz.underlying135 rfl sz3 (by decide) i2cells_len (ha.o.now hS) hap rfl rfl)) (RQ.ev rfl rfl (fun w hS => (ev_loadMF (m := i) (j := 1) (a := ap) Tryz.underlying3 rfl i2cells_len (ha.o.now hS) rfl hap rfl)) (RQ.ev (v := bv) rfl rfl (fun w hS => ev_move) (RQ.ev (v := .int .i64 ((q : Int))) rfl rfl (fun w hS => ev_move) (RQ.ev rfl rfl (fun w hS => (ev_indexM Tryz.underlying118 sz135 i2cells_len (by decide) (hb.o.now hS) rfl rfl (by omega) (by omega))) (RQ.ev rfl rfl (fun w hS => (ev_fieldM (m := q) (b := 0) Tryz.underlying135 rfl sz3 (by decide) i2cells_len (hb.o.now hS) har rfl rfl)) ?_)))))))))
 refine RQ.ev rfl rfl (fun w hS => (ev_loadMF (m := q) (j := 1) (a := ar) Tryz.underlying3 rfl i2cells_len (hb.o.now hS) rfl har rfl)) (RQ.ev rfl rfl (fun w hS => (ev_arith rfl rfl rfl (add64 (by omega) (by omega)))) (RQ.ev (v := .int .i64 (ap.2 + ar.2)) rfl rfl (fun w hS => ev_assign) (RQ.done (by kernel_rfl) (thenN (RW.region (RL.ev (v := av) rfl rfl ev_move (RL.ev (v := .int .i64 ((i : Int))) rfl rfl ev_move (RL.ev rfl rfl (ev_indexM Tryz.underlying118 sz135 i2cells_len (by decide) (ha.o.now hN) rfl rfl (by omega) (by omega)) (RL.ev rfl rfl (ev_fieldM (m := i) (b := 0) Tryz.underlying135 rfl sz3 (by decide) i2cells_len (ha.o.now hN) hap rfl rfl) ?_)))))))))
 refine RL.ev rfl rfl (ev_loadMF (m := i) (j := 0) (a := ap) Tryz.underlying3 rfl i2cells_len (ha.o.now hN) rfl hap rfl) (RL.ev (v := .int .i64 (ap.1)) rfl rfl ev_assign (RL.nil (blockN (thenN (RW.region (RL.ev (v := .int .i64 ((q : Int))) rfl rfl ev_move (RL.ev rfl rfl (ev_arith rfl rfl rfl (add64 (by omega) (by omega))) (RL.ev (v := .int .i64 ((q : Int) + 1)) rfl rfl ev_assign (RL.nil ?_)))))))))
 refine thenN ?_
 exact ⟨k2 - 1, by omega, ap.2 + ar.2, ap.1, q + 1, rfl, rfl, rfl, rfl, rfl, rfl, hN, by omega, .inr ⟨by omega, by omega, by omega⟩, hm2.upd hap har (by omega) (by first | exact .inl (by assumption) | exact .inr (by omega))⟩
 rw [decide_eq_false hg9_14]
 refine RQ.on (v := av) rfl rfl rfl rfl (fun w hS => ev_move) (RQ.on (v := .int .i64 ((i : Int))) rfl rfl rfl rfl (fun w hS => ev_move) (RQ.on rfl rfl rfl rfl (fun w hS => (ev_indexM Tryz.underlying118 sz135 i2cells_len (by decide) (ha.o.now hS) rfl rfl (by omega) (by omega))) (RQ.on rfl rfl rfl rfl (fun w hS => (ev_fieldM (m := i) (b := 0) Tryz.underlying135 rfl sz3 (by decide) i2cells_len (ha.o.now hS) hap rfl rfl)) (RQ.on rfl rfl rfl rfl (fun w hS => (ev_loadMF (m := i) (j := 1) (a := ap) Tryz.underlying3 rfl i2cells_len (ha.o.now hS) rfl hap rfl)) (RQ.on (v := bv) rfl rfl rfl rfl (fun w hS => ev_move) (RQ.on (v := .int .i64 ((q : Int))) rfl rfl rfl rfl (fun w hS => ev_move) (RQ.on rfl rfl rfl rfl (fun w hS => (ev_indexM Tryz.underlying118 sz135 i2cells_len (by decide) (hb.o.now hS) rfl rfl (by omega) (by omega))) (RQ.on rfl rfl rfl rfl (fun w hS => (ev_fieldM (m := q) (b := 0) Tryz.underlying135 rfl sz3 (by decide) i2cells_len (hb.o.now hS) har rfl rfl)) (RQ.on rfl rfl rfl rfl (fun w hS => (ev_loadMF (m := q) (j := 1) (a := ar) Tryz.underlying3 rfl i2cells_len (hb.o.now hS) rfl har rfl)) ?_)))))))))
 refine RQ.on rfl rfl rfl rfl (fun w hS => (ev_arith rfl rfl rfl (add64 (by omega) (by omega)))) (RQ.on (v := .int .i64 (z2)) rfl rfl rfl rfl (fun w hS => ev_move) (RQ.on rfl rfl rfl rfl (fun w hS => (ev_lss rfl rfl)) (RQ.on (v := .bool (decide (ap.2 + ar.2 < z2))) rfl rfl rfl rfl (fun w hS => (ev_pickF rfl)) (RQ.on (v := .bool (decide (ap.2 + ar.2 < z2))) rfl rfl rfl rfl (fun w hS => ev_move) ?_))))
 by_cases hg9_29 : ap.2 + ar.2 < z2
 rw [decide_eq_true hg9_29]
 iterate 14 refine RQ.off rfl rfl rfl rfl ?_
 iterate 7 refine RQ.offU rfl rfl rfl rfl ?_
 refine RQ.off rfl rfl rfl rfl (RQ.on (v := .bool true) rfl rfl rfl rfl (fun w hS => (ev_pickT rfl)) (RQ.ev (v := .bool true) rfl rfl (fun w hS => (ev_pickT rfl)) (RQ.done (by kernel_rfl) (thenN (RW.condT rfl (RW.seq ?_))))))
 replace hN := hN.ext (Ext.drew w1'.drew)
 refine RW.drawR rfl (fun u => Now w none_ u []) 12 [(0,0), (1,0), (2,0), (3,0), (4,0), (5,0), (6,0), (7,0), (8,0), (9,0), (10,0), (11,0)] (by intro _ _ _ h; exact h) (by kernel_rfl) hN (RQ.ev (v := av) rfl rfl (fun w hS => ev_move) (RQ.ev (v := .int .i64 ((i : Int))) rfl rfl (fun w hS => ev_move) (RQ.ev rfl rfl (fun w hS => (ev_indexM Tryz.underlying118 sz135 i2cells_len (by decide) (ha.o.now hS) rfl rfl (by omega) (by omega))) (RQ.ev rfl rfl (fun w hS => (ev_fieldM (m := i) (b := 0) Tryz.underlying135 rfl sz3 (by decide) i2cells_len (ha.o.now hS) hap rfl rfl)) (RQ.ev rfl rfl (fun w hS => (ev_loadMF (m := i) (j := 1) (a := ap) Tryz.underlying3 rfl i2cells_len (ha.o.now hS) rfl hap rfl)) (RQ.ev (v := bv) rfl rfl (fun w hS => ev_move) (RQ.ev (v := .int .i64 ((q : Int))) rfl rfl (fun w hS => ev_move) (RQ.ev rfl rfl (fun w hS => (ev_indexM Tryz.underlying118 sz135 i2cells_len (by decide) (hb.o.now hS) rfl rfl (by omega) (by omega))) (RQ.ev rfl rfl (fun w hS => (ev_fieldM (m := q) (b := 0) Tryz.underlying135 rfl sz3 (by decide) i2cells_len (hb.o.now hS) har rfl rfl)) ?_)))))))))
 refine RQ.ev rfl rfl (fun w hS => (ev_loadMF (m := q) (j := 1) (a := ar) Tryz.underlying3 rfl i2cells_len (hb.o.now hS) rfl har rfl)) (RQ.ev rfl rfl (fun w hS => (ev_arith rfl rfl rfl (add64 (by omega) (by omega)))) (RQ.ev (v := .int .i64 (ap.2 + ar.2)) rfl rfl (fun w hS => ev_assign) (RQ.done (by kernel_rfl) (thenN (RW.region (RL.ev (v := av) rfl rfl ev_move (RL.ev (v := .int .i64 ((i : Int))) rfl rfl ev_move (RL.ev rfl rfl (ev_indexM Tryz.underlying118 sz135 i2cells_len (by decide) (ha.o.now hN) rfl rfl (by omega) (by omega)) (RL.ev rfl rfl (ev_fieldM (m := i) (b := 0) Tryz.underlying135 rfl sz3 (by decide) i2cells_len (ha.o.now hN) hap rfl rfl) ?_)))))))))
 refine RL.ev rfl rfl (ev_loadMF (m := i) (j := 0) (a := ap) Tryz.underlying3 rfl i2cells_len (ha.o.now hN) rfl hap rfl) (RL.ev (v := .int .i64 (ap.1)) rfl rfl ev_assign (RL.nil (blockN (thenN (RW.region (RL.ev (v := .int .i64 ((q : Int))) rfl rfl ev_move (RL.ev rfl rfl (ev_arith rfl rfl rfl (add64 (by omega) (by omega))) (RL.ev (v := .int .i64 ((q : Int) + 1)) rfl rfl ev_assign (RL.nil ?_)))))))))
 refine thenN ?_
 exact ⟨k2 - 1, by omega, ap.2 + ar.2, ap.1, q + 1, rfl, rfl, rfl, rfl, rfl, rfl, hN, by omega, .inr ⟨by omega, by omega, by omega⟩, hm2.upd hap har (by omega) (by first | exact .inl (by assumption) | exact .inr (by omega))⟩
 rw [decide_eq_false hg9_29]
 refine RQ.on (v := av) rfl rfl rfl rfl (fun w hS => ev_move) (RQ.on (v := .int .i64 ((i : Int))) rfl rfl rfl rfl (fun w hS => ev_move) (RQ.on rfl rfl rfl rfl (fun w hS => (ev_indexM Tryz.underlying118 sz135 i2cells_len (by decide) (ha.o.now hS) rfl rfl (by omega) (by omega))) (RQ.on rfl rfl rfl rfl (fun w hS => (ev_fieldM (m := i) (b := 0) Tryz.underlying135 rfl sz3 (by decide) i2cells_len (ha.o.now hS) hap rfl rfl)) (RQ.on rfl rfl rfl rfl (fun w hS => (ev_loadMF (m := i) (j := 1) (a := ap) Tryz.underlying3 rfl i2cells_len (ha.o.now hS) rfl hap rfl)) (RQ.on (v := bv) rfl rfl rfl rfl (fun w hS => ev_move) (RQ.on (v := .int .i64 ((q : Int))) rfl rfl rfl rfl (fun w hS => ev_move) (RQ.on rfl rfl rfl rfl (fun w hS => (ev_indexM Tryz.underlying118 sz135 i2cells_len (by decide) (hb.o.now hS) rfl rfl (by omega) (by omega))) (RQ.on rfl rfl rfl rfl (fun w hS => (ev_fieldM (m := q) (b := 0) Tryz.underlying135 rfl sz3 (by decide) i2cells_len (hb.o.now hS) har rfl rfl)) (RQ.on rfl rfl rfl rfl (fun w hS => (ev_loadMF (m := q) (j := 1) (a := ar) Tryz.underlying3 rfl i2cells_len (hb.o.now hS) rfl har rfl)) ?_)))))))))
 refine RQ.on rfl rfl rfl rfl (fun w hS => (ev_arith rfl rfl rfl (add64 (by omega) (by omega)))) (RQ.on (v := .int .i64 (z2)) rfl rfl rfl rfl (fun w hS => ev_move) (RQ.on rfl rfl rfl rfl (fun w hS => (ev_eql rfl rfl)) (RQ.on (v := .bool (decide (ap.2 + ar.2 = z2))) rfl rfl rfl rfl (fun w hS => ev_move) ?_)))
 by_cases hg9_43 : ap.2 + ar.2 = z2
 rw [decide_eq_true hg9_43]
 refine RQ.on (v := av) rfl rfl rfl rfl (fun w hS => ev_move) (RQ.on (v := .int .i64 ((i : Int))) rfl rfl rfl rfl (fun w hS => ev_move) (RQ.on rfl rfl rfl rfl (fun w hS => (ev_indexM Tryz.underlying118 sz135 i2cells_len (by decide) (ha.o.now hS) rfl rfl (by omega) (by omega))) (RQ.on rfl rfl rfl rfl (fun w hS => (ev_fieldM (m := i) (b := 0) Tryz.underlying135 rfl sz3 (by decide) i2cells_len (ha.o.now hS) hap rfl rfl)) (RQ.on rfl rfl rfl rfl (fun w hS => (ev_loadMF (m := i) (j := 0) (a := ap) Tryz.underlying3 rfl i2cells_len (ha.o.now hS) rfl hap rfl)) (RQ.on (v := .int .i64 (y2)) rfl rfl rfl rfl (fun w hS => ev_move) (RQ.on rfl rfl rfl rfl (fun w hS => (ev_gtr rfl rfl)) (RQ.on (v := .bool (decide (y2 < ap.1))) rfl rfl rfl rfl (fun w hS => (ev_pickT rfl)) (RQ.on (v := .bool (decide (y2 < ap.1))) rfl rfl rfl rfl (fun w hS => (ev_pickF rfl)) (RQ.ev (v := .bool (decide (y2 < ap.1))) rfl rfl (fun w hS => (ev_pickT rfl)) ?_)))))))))
 refine RQ.done (by kernel_rfl) (thenN ?_)
 refine RW.condP _ rfl (fun hc75 => ?_) (fun hc75 => ?_)
 refine RW.seq ?_
 replace hN := hN.ext (Ext.drew w1'.drew)
 refine RW.drawR rfl (fun u => Now w none_ u []) 12 [(0,0), (1,0), (2,0), (3,0), (4,0), (5,0), (6,0), (7,0), (8,0), (9,0), (10,0), (11,0)] (by intro _ _ _ h; exact h) (by kernel_rfl) hN (RQ.ev (v := av) rfl rfl (fun w hS => ev_move) (RQ.ev (v := .int .i64 ((i : Int))) rfl rfl (fun w hS => ev_move) (RQ.ev rfl rfl (fun w hS => (ev_indexM Tryz.underlying118 sz135 i2cells_len (by decide) (ha.o.now hS) rfl rfl (by omega) (by omega))) (RQ.ev rfl rfl (fun w hS => (ev_fieldM (m := i) (b := 0) Tryz.underlying135 rfl sz3 (by decide) i2cells_len (ha.o.now hS) hap rfl rfl)) (RQ.ev rfl rfl (fun w hS => (ev_loadMF (m := i) (j := 1) (a := ap) Tryz.underlying3 rfl i2cells_len (ha.o.now hS) rfl hap rfl)) (RQ.ev (v := bv) rfl rfl (fun w hS => ev_move) (RQ.ev (v := .int .i64 ((q : Int))) rfl rfl (fun w hS => ev_move) (RQ.ev rfl rfl (fun w hS => (ev_indexM Tryz.underlying118 sz135 i2cells_len (by decide) (hb.o.now hS) rfl rfl (by omega) (by omega))) (RQ.ev rfl rfl (fun w hS => (ev_fieldM (m := q) (b := 0) Tryz.underlying135 rfl sz3 (by decide) i2cells_len (hb.o.now hS) har rfl rfl)) ?_)))))))))
 refine RQ.ev rfl rfl (fun w hS => (ev_loadMF (m := q) (j := 1) (a := ar) Tryz.underlying3 rfl i2cells_len (hb.o.now hS) rfl har rfl)) (RQ.ev rfl rfl (fun w hS => (ev_arith rfl rfl rfl (add64 (by omega) (by omega)))) (RQ.ev (v := .int .i64 (ap.2 + ar.2)) rfl rfl (fun w hS => ev_assign) (RQ.done (by kernel_rfl) (thenN (RW.region (RL.ev (v := av) rfl rfl ev_move (RL.ev (v := .int .i64 ((i : Int))) rfl rfl ev_move (RL.ev rfl rfl (ev_indexM Tryz.underlying118 sz135 i2cells_len (by decide) (ha.o.now hN) rfl rfl (by omega) (by omega)) (RL.ev rfl rfl (ev_fieldM (m := i) (b := 0) Tryz.underlying135 rfl sz3 (by decide) i2cells_len (ha.o.now hN) hap rfl rfl) ?_)))))))))
 refine RL.ev rfl rfl (ev_loadMF (m := i) (j := 0) (a := ap) Tryz.underlying3 rfl i2cells_len (ha.o.now hN) rfl hap rfl) (RL.ev (v := .int .i64 (ap.1)) rfl rfl ev_assign (RL.nil (blockN (thenN (RW.region (RL.ev (v := .int .i64 ((q : Int))) rfl rfl ev_move (RL.ev rfl rfl (ev_arith rfl rfl rfl (add64 (by omega) (by omega))) (RL.ev (v := .int .i64 ((q : Int) + 1)) rfl rfl ev_assign (RL.nil ?_)))))))))
 refine thenN ?_
 exact ⟨k2 - 1, by omega, ap.2 + ar.2, ap.1, q + 1, rfl, rfl, rfl, rfl, rfl, rfl, hN, by omega, .inr ⟨by omega, by omega, by omega⟩, hm2.upd hap har (by omega) (by first | exact .inl (by assumption) | exact .inr (by omega))⟩
 refine RW.skip (blockN (thenN (RW.region (RL.ev (v := .int .i64 ((q : Int))) rfl rfl ev_move (RL.ev rfl rfl (ev_arith rfl rfl rfl (add64 (by omega) (by omega))) (RL.ev (v := .int .i64 ((q : Int) + 1)) rfl rfl ev_assign (RL.nil (thenN ?_))))))))
 exact ⟨k2 - 1, by omega, _, _, q + 1, rfl, rfl, rfl, rfl, rfl, rfl, hN, by omega, hz2, hm2.skip hap har (fun h => by first | exact absurd h (by assumption) | (constructor <;> omega))⟩
 rw [decide_eq_false hg9_43]
 iterate 7 refine RQ.off rfl rfl rfl rfl ?_
 iterate 2 refine RQ.on (v := .bool false) rfl rfl rfl rfl (fun w hS => (ev_pickF rfl)) ?_
 refine RQ.ev (v := .bool false) rfl rfl (fun w hS => (ev_pickT rfl)) (RQ.done (by kernel_rfl) (thenN (RW.condF rfl (RW.skip (blockN (thenN (RW.region (RL.ev (v := .int .i64 ((q : Int))) rfl rfl ev_move (RL.ev rfl rfl (ev_arith rfl rfl rfl (add64 (by omega) (by omega))) ?_)))))))))
 refine RL.ev (v := .int .i64 ((q : Int) + 1)) rfl rfl ev_assign (RL.nil (thenN ?_))
 exact ⟨k2 - 1, by omega, _, _, q + 1, rfl, rfl, rfl, rfl, rfl, rfl, hN, by omega, hz2, hm2.skip hap har (fun h => by first | exact absurd h (by assumption) | (constructor <;> omega))⟩
 rw [decide_eq_false hg9_11]
 iterate 3 refine RQ.off rfl rfl rfl rfl ?_
 iterate 13 refine RQ.offU rfl rfl rfl rfl ?_
 iterate 2 refine RQ.off rfl rfl rfl rfl ?_
 iterate 22 refine RQ.offU rfl rfl rfl rfl ?_
 refine RQ.off rfl rfl rfl rfl (RQ.ev (v := .bool false) rfl rfl (fun w hS => (ev_pickF rfl)) (RQ.done (by kernel_rfl) (thenN (RW.condF rfl (RW.skip (blockN (thenN (RW.region (RL.ev (v := .int .i64 ((q : Int))) rfl rfl ev_move ?_)))))))))
 refine RL.ev rfl rfl (ev_arith rfl rfl rfl (add64 (by omega) (by omega))) (RL.ev (v := .int .i64 ((q : Int) + 1)) rfl rfl ev_assign (RL.nil (thenN ?_)))
 exact ⟨k2 - 1, by omega, _, _, q + 1, rfl, rfl, rfl, rfl, rfl, rfl, hN, by omega, hz2, hm2.skip hap har (fun h => by first | exact absurd h (by assumption) | (constructor <;> omega))⟩
 refine RW.exit ?_
 iterate 2 refine thenX ?_
 refine blockHit (blockN (thenN (RW.region (RL.ev (v := .int .i64 ((i : Int))) rfl rfl ev_move (RL.ev rfl rfl (ev_arith rfl rfl rfl (add64 (by omega) (by omega))) (RL.ev (v := .int .i64 ((i : Int) + 1)) rfl rfl ev_assign (RL.nil (thenN ?_))))))))
 exact ⟨k - 1, by omega, z2, y2, i + 1, rfl, rfl, rfl, rfl, rfl, hN, by omega, hz2, hm2.row (by omega)⟩
 refine RW.exit ?_
 iterate 2 refine thenX ?_
 refine blockHit (thenN (RW.seq (RW.region (RL.ev (v := .int .i64 (z)) rfl rfl ev_move (RL.ev (v := .int .i64 (y)) rfl rfl ev_move (RL.ev (v := .int .i64 (z)) rfl rfl ev_assign (RL.ev (v := .int .i64 (y)) rfl rfl ev_assign (RL.nil (thenN ?_)))))))))
 refine RW.ret (retI (RV.tmp2 rfl) ?_)
 exact ⟨z, y, i, rfl, hz, hm, by omega, hN.ext0⟩
set_option maxHeartbeats 4000000 in
set_option maxRecDepth 100000 in
theorem where_calls (n : Nat) (rv wv : Value) (rk : List Int) (ways : List I5) (w : World) (hr : Sl vI w rv rk) (hw : Sm i5cells w wv ways) (hH : HOk n rk ways) (s t : Int) (hn : n ≤ 12) (hs0 : 0 ≤ s) (hs1 : s < n) (ht0 : 0 ≤ t) (ht1 : t < n) : Gives Tryz.prog 208 #[.agg #[rv, wv], .int .i64 s, .int .i64 t] w fun r w' => ∃ z y : Int, r = .tuple #[.int .i64 z, .int .i64 y] ∧ -1 ≤ z ∧ z ≤ 211106232532992 ∧ (s = t → z = 0) ∧ Ext w w' := by
 refine Gives.start Tryz.func208 rfl (Nat.le_of_ble_eq_true rfl) ?_
 rw [args3]
 have hN := Now.nil w none_
 have hln := hH.len
 refine RW.seq (RW.region ?_)
 refine RL.op rfl rfl (opN_box (cs := [rv, wv]) rfl rfl hN ?_)
 clear hN
 intro g1 w1 (hN : Now w none_ w1 [_])
 iterate 2 refine RL.ev (v := .int .i64 (0)) rfl rfl ev_assign ?_
 refine RL.nil (thenN (RW.seq ?_))
 replace hN := hN.ext (Ext.drew w1)
 refine RW.drawR rfl (fun u => Now w none_ u [.blk g1 [rv, wv] 28]) 11 [(0,0), (1,0), (3,0), (4,0), (2,1), (5,1), (6,1), (7,0), (8,0), (9,0), (10,0)] (by intro _ _ _ h; exact h) (by kernel_rfl) hN (RQ.ev rfl rfl (fun w hS => (ev_loadAll (cs := [rv, wv]) Tryz.underlying28 rfl sz28 rfl (hS.blk 0 rfl))) (RQ.ev (v := .int .i64 (s)) rfl rfl (fun w hS => ev_move) (RQ.ev rfl rfl (fun w hS => (ev_loadAll (cs := [rv, wv]) Tryz.underlying28 rfl sz28 rfl (hS.blk 0 rfl))) (RQ.ev (v := .int .i64 (t)) rfl rfl (fun w hS => ev_move) ?_))))
 refine RQ.do rfl rfl (op_call3 Tryz.func217 rfl rfl rfl rfl rfl ((above_calls n _ _ rk ways _ (hr.o.now hN) (hw.o.now hN) hH s false hn hs0 hs1).mono ?_))
 rintro v2 w2 ⟨out2, ho_, hR2, hS2, hol2, he_⟩
 replace hN : Now w none_ w2 [_, _] := hN.pushOwnM ho_ he_
 clear ho_ he_
 refine ⟨(hN.sub [1] (by decide) rfl), ?_⟩
 refine RQ.do rfl rfl (op_call3 Tryz.func217 rfl rfl rfl rfl rfl ((above_calls n _ _ rk ways _ (hr.o.now hN) (hw.o.now hN) hH t true hn ht0 ht1).mono ?_))
 rintro v3 w3 ⟨out3, ho_, hR3, hS3, hol3, he_⟩
 replace hN : Now w none_ w3 [_, _, _] := hN.pushOwnM ho_ he_
 clear ho_ he_
 refine ⟨(hN.sub [2] (by decide) rfl), ?_⟩
 refine RQ.do rfl rfl (op_call2 Tryz.func216 rfl rfl rfl rfl ((meet_calls n _ _ out2 out3 _ (hN.sm 1 rfl) (hN.sm 0 rfl) hR2 hR3 (by omega) (by omega)).mono ?_))
 rintro _ w4 ⟨z4, y4, i4, rfl, hz4, hm4, hi4, he_⟩
 replace hN := hN.ext he_
 clear he_
 refine ⟨(hN.sub [2] (by decide) rfl), ?_⟩
 iterate 2 refine RQ.ev rfl rfl (fun w hS => (ev_extract rfl rfl)) ?_
 refine RQ.ev (v := .int .i64 (z4)) rfl rfl (fun w hS => ev_assign) (RQ.ev (v := .int .i64 (y4)) rfl rfl (fun w hS => ev_assign) (RQ.done (by kernel_rfl) (thenN (RW.ret (retI (RV.tmp2 rfl) ?_)))))
 exact ⟨_, _, rfl, by omega, by omega, fun e => by subst e; exact meet_self (n := n) hm4 hi4 hz4 hS2 hS3, hN.ext0⟩
set_option maxHeartbeats 4000000 in
set_option maxRecDepth 100000 in
theorem far_calls (n : Nat) (rv wv : Value) (rk : List Int) (ways : List I5) (w : World) (hr : Sl vI w rv rk) (hw : Sm i5cells w wv ways) (hH : HOk n rk ways) (s t : Int) (hn : n ≤ 12) (hs0 : 0 ≤ s) (hs1 : s < n) (ht0 : 0 ≤ t) (ht1 : t < n) : Gives Tryz.prog 187 #[.agg #[rv, wv], .int .i64 s, .int .i64 t] w fun r w' => ∃ z : Int, r = .int .i64 z ∧ -1 ≤ z ∧ z ≤ 211106232532992 ∧ (s = t → z = 0) ∧ Ext w w' := by
 refine Gives.start Tryz.func187 rfl (Nat.le_of_ble_eq_true rfl) ?_
 rw [args3]
 have hN := Now.nil w none_
 refine RW.seq (RW.region ?_)
 refine RL.op rfl rfl (opN_box (cs := [rv, wv]) rfl rfl hN ?_)
 clear hN
 intro g1 w1 (hN : Now w none_ w1 [_])
 refine RL.ev (v := .int .i64 (0)) rfl rfl ev_assign (RL.nil (thenN (RW.seq (RW.region (RL.ev rfl rfl (ev_loadAll (cs := [rv, wv]) Tryz.underlying28 rfl sz28 rfl (hN.blk 0 rfl)) (RL.ev (v := .int .i64 (s)) rfl rfl ev_move (RL.ev (v := .int .i64 (t)) rfl rfl ev_move ?_)))))))
 refine RL.op rfl rfl (op_call3 Tryz.func208 rfl rfl rfl rfl rfl ((where_calls n _ _ rk ways _ (hr.o.now hN) (hw.o.now hN) hH s t hn hs0 hs1 ht0 ht1).mono ?_))
 rintro _ w2 ⟨z2, y2, rfl, hlo2, hhi2, hse2, he_⟩
 replace hN := hN.ext he_
 clear he_
 refine RL.ev (v := .tuple #[.int .i64 (z2), .int .i64 (y2)]) rfl rfl ev_move ?_
 iterate 2 refine RL.ev rfl rfl (ev_extract rfl rfl) ?_
 refine RL.ev (v := .int .i64 (z2)) rfl rfl ev_assign (RL.ev (v := .int .i64 (y2)) rfl rfl ev_assign (RL.nil (thenN (RW.seq (RW.region (RL.ev (v := .int .i64 (z2)) rfl rfl ev_move (RL.ev (v := .int .i64 (z2)) rfl rfl ev_assign (RL.nil (thenN ?_)))))))))
 refine RW.ret (retI (RV.tmp rfl) ?_)
 exact ⟨_, rfl, hlo2, hhi2, hse2, hN.ext0⟩
set_option maxHeartbeats 4000000 in
set_option maxRecDepth 100000 in
theorem many_calls (n : Nat) (rv wv : Value) (rk : List Int) (ways : List I5) (tv : Value) (ts : List Int) (w : World) (hr : Sl vI w rv rk) (hw : Sm i5cells w wv ways) (hH : HOk n rk ways) (ht : Sl vI w tv ts) (s : Int) (hn : n ≤ 12) (hs0 : 0 ≤ s) (hs1 : s < n) (hts : ∀ x ∈ ts, 0 ≤ x ∧ x < n) (htl : ts.length ≤ 4096) : Gives Tryz.prog 141 #[.agg #[rv, wv], .int .i64 s, tv] w fun r w' => ∃ out, Own vI 3 w' w.heap.size r out ∧ out.length = ts.length ∧ (∀ z ∈ out, -1 ≤ z ∧ z ≤ 211106232532992) ∧ (∀ j : Nat, ts[j]? = some s → out[j]? = some 0) ∧ Ext w w' := by
 refine Gives.start Tryz.func141 rfl (Nat.le_of_ble_eq_true rfl) ?_
 rw [args3]
 have hN := Now.nil w none_
 refine RW.seq (RW.region ?_)
 refine RL.op rfl rfl (opN_box (cs := [rv, wv]) rfl rfl hN ?_)
 clear hN
 intro g1 w1 (hN : Now w none_ w1 [_])
 refine RL.ev (v := .slice none 0 0) rfl rfl ev_assign (RL.nil (thenN (RW.seq (RW.region (RL.ev (v := .slice none 0 0) rfl rfl ev_assign (RL.nil (thenN ?_)))))))
 iterate 2 refine RW.seq ?_
 refine RW.region (RL.ev (v := .int .i64 (0)) rfl rfl ev_assign (RL.nil (thenN (RW.block ?_))))
 replace hN := hN.addNil vI 3
 refine RW.loop (fun k R0 w0' => ∃ va : Value, ∃ acc : List Int, ∃ i : Nat, R0 1 = .int .i64 (s) ∧ R0 2 = tv ∧ R0 3 = .pointer (some ⟨g1, 0, none⟩) ∧ R0 7 = va ∧ R0 8 = .int .i64 ((i : Int)) ∧ Now w none_ w0' [.own vI 3 (va) (acc), .blk g1 [rv, wv] 28] ∧ (i + k = ts.length) ∧ (acc.length = i) ∧ (∀ z ∈ acc, -1 ≤ z ∧ z ≤ 211106232532992) ∧ (∀ j, j < i → ts[j]? = some s → acc[j]? = some 0)) (ts.length) ?_ ?_
 exact ⟨.slice none 0 0, [], 0, rfl, rfl, rfl, rfl, rfl, hN, by omega, rfl, (fun z hz => absurd hz List.not_mem_nil), (fun j hj => absurd hj (by omega))⟩
 clear hN
 rintro k R0 w0' ⟨va, acc, i, hr1_, hr2_, hr3_, hr7_, hr8_, hN, hik, hal, hok, hse⟩
 have hR_ : ∃ R0_, R0 = (upd (upd (upd (upd (upd R0_ 1 _) 2 _) 3 _) 7 _) 8 _) := ⟨R0, by rw [upd_self hr1_, upd_self hr2_, upd_self hr3_, upd_self hr7_, upd_self hr8_]⟩
 obtain ⟨R0_, rfl⟩ := hR_
 clear hr1_ hr2_ hr3_ hr7_ hr8_
 iterate 2 refine RW.seq ?_
 refine RW.region (RL.ev (v := .int .i64 ((i : Int))) rfl rfl ev_move (RL.ev (v := tv) rfl rfl ev_move ?_))
 have hL_3 := (ht.o.now hN).len_le
 refine RL.ev rfl rfl (ev_lenS Tryz.underlying25 (ht.o.now hN) rfl) (RL.ev rfl rfl (ev_lss rfl rfl) (RL.nil (thenN ?_)))
 refine RW.condP _ rfl (fun hlt => ?_) (fun hlt => ?_)
 refine RW.skip (thenN (RW.seq (RW.block ?_)))
 replace hN := hN.ext (Ext.drew w0')
 refine RW.drawR rfl (fun u => Now w none_ u [.blk g1 [rv, wv] 28]) 11 [(0,0), (1,0), (2,0), (3,0), (4,0), (5,0), (6,0), (7,1), (8,1), (9,1), (10,0)] (by intro _ _ _ h; exact h) (by kernel_rfl) (hN.sub [1] (by decide) rfl) (RQ.ev (v := va) rfl rfl (fun w hS => ev_move) (RQ.ev rfl rfl (fun w hS => (ev_loadAll (cs := [rv, wv]) Tryz.underlying28 rfl sz28 rfl (hS.blk 0 rfl))) (RQ.ev (v := .int .i64 (s)) rfl rfl (fun w hS => ev_move) (RQ.ev (v := tv) rfl rfl (fun w hS => ev_move) (RQ.ev (v := .int .i64 ((i : Int))) rfl rfl (fun w hS => ev_move) (RQ.ev rfl rfl (fun w hS => (ev_index Tryz.underlying25 sz3 (ht.o.now hS) rfl rfl (by omega) (by omega))) ?_))))))
 have hOb_ : ∃ a_, (ts)[i]? = some a_ := ⟨_, List.getElem?_eq_getElem (by omega)⟩
 obtain ⟨ap, hap⟩ := hOb_
 refine RQ.ev rfl rfl (fun w hS => (ev_loadG (m := i) (a := ap) Tryz.underlying3 rfl (ht.o.now hS) rfl hap)) ?_
 have hOb_ := hts ap (List.mem_of_getElem? hap)
 obtain ⟨hap0, hap1⟩ := hOb_
 refine RQ.do rfl rfl (op_call3 Tryz.func187 rfl rfl rfl rfl rfl ((far_calls n _ _ rk ways _ (hr.o.now hN) (hw.o.now hN) hH s ap hn hs0 hs1 hap0 hap1).mono ?_))
 rintro _ w4 ⟨z4, rfl, hlo4, hhi4, hse4, he_⟩
 replace hN := hN.ext he_
 clear he_
 refine ⟨(hN.sub [1] (by decide) rfl), ?_⟩
 refine RQ.do rfl rfl (opN_lit (enc := vI) (l := [z4]) (xs := [.tmp 22]) Tryz.underlying25 sz3 zr3 rfl rfl (fun _ => rfl) rfl (by decide) (by decide) hN ?_)
 clear hN
 intro g5 w5 (hN : Now w none_ w5 [_, _, _])
 refine ⟨(hN.sub [2] (by decide) rfl), ?_⟩
 refine RQ.do rfl rfl (opN_append Tryz.underlying25 inf3 rfl (fun _ => rfl) hN 1 rfl rfl (hN.sl 0 rfl) rfl (by (try simp only [List.length_append, List.length_singleton, List.length_cons, List.length_nil]); omega) (by decide) ?_)
 clear hN
 intro v6 w6 (hN : Now w none_ w6 [_, _, _])
 refine ⟨(hN.sub [2] (by decide) rfl), ?_⟩
 refine RQ.ev (v := v6) rfl rfl (fun w hS => ev_assign) (RQ.done (by kernel_rfl) (blockN (thenN (RW.region (RL.ev (v := .int .i64 ((i : Int))) rfl rfl ev_move (RL.ev rfl rfl (ev_arith rfl rfl rfl (add64 (by omega) (by omega))) (RL.ev (v := .int .i64 ((i : Int) + 1)) rfl rfl ev_assign (RL.nil (thenN ?_)))))))))
 exact ⟨k - 1, by omega, v6, acc ++ [z4], i + 1, rfl, rfl, rfl, rfl, rfl, (hN.sub [1, 2] (by decide) rfl), by omega, by rw [List.length_append, hal]; rfl, (fun z hz => (List.mem_append.1 hz).elim (hok z) fun h => by rw [List.mem_singleton] at h; subst h; exact ⟨hlo4, hhi4⟩), many_step hal hse hap hse4⟩
 refine RW.exit ?_
 iterate 2 refine thenX ?_
 refine blockHit (thenN (RW.seq (RW.region (RL.ev (v := va) rfl rfl ev_move (RL.ev (v := va) rfl rfl ev_assign (RL.nil (thenN (RW.ret (retI (RV.tmp rfl) ?_)))))))))
 exact ⟨acc, hN.ownOut 0 rfl, by omega, hok, fun j hj => hse j (by have := (List.getElem?_eq_some_iff.1 hj).1; omega) hj, hN.ext0⟩
end Go.Proofs.YtngkdkbpgoddlaaGreat
set_option linter.unusedVariables false
namespace Go.Gr
open Go.Rl
def lowOf (n k : Int) : Int := n - max 0 (min k n)
def IsHigh (rk : List Int) (lo : Int) (v : Nat) : Prop := ∃ q, rk[v]? = some q ∧ lo ≤ q
def IsLow (rk d : List Int) (lo : Int) (v : Nat) : Prop := (∃ x, d[v]? = some x ∧ 0 ≤ x) ∧ ∃ q, rk[v]? = some q ∧ q < lo
noncomputable instance (rk : List Int) (lo : Int) (v : Nat) : Decidable (IsHigh rk lo v) := Classical.propDecidable _
noncomputable instance (rk d : List Int) (lo : Int) (v : Nat) : Decidable (IsLow rk d lo v) := Classical.propDecidable _
noncomputable def greatOf (rk : List Int) (lo : Int) (k : Nat) : List Int := ((List.range k).filter fun v : Nat => decide (IsHigh rk lo v)).map Int.ofNat
noncomputable def lowsOf (rk d : List Int) (lo : Int) (k : Nat) : List Int := ((List.range k).filter fun v : Nat => decide (IsLow rk d lo v)).map Int.ofNat
structure GoodRow (n : Nat) (rk : List Int) (lo : Int) (out : List I2) : Prop where
  ok : RowOk n out
  high : ∀ e ∈ out, IsHigh rk lo e.1.toNat
  rise : out.Pairwise fun e f => e.1 < f.1
structure GoodSub (n : Nat) (rk : List Int) (lo : Int) (out : List Int) : Prop where
  ok : ∀ x ∈ out, 0 ≤ x ∧ x < n
  low : ∀ x ∈ out, ¬ IsHigh rk lo x.toNat
  rise : out.Pairwise fun e f => e < f
theorem GoodRow.sub {n : Nat} {rk : List Int} {lo : Int} {out out2 : List I2} (h : GoodRow n rk lo out) (hs : out2.Sublist out) : GoodRow n rk lo out2 := ⟨fun e he => h.ok e (hs.subset he), fun e he => h.high e (hs.subset he), h.rise.sublist hs⟩
theorem rowsOf_rise (rk d : List Int) (lo hi : Int) (k : Nat) : (rowsOf rk d lo hi k).Pairwise fun e f => e.1 < f.1 := by
  induction k with
  | zero => exact List.Pairwise.nil
  | succ k ih =>
    rw [rowsOf_succ, List.pairwise_append]
    refine ⟨ih, ?_, fun e he f hf => ?_⟩
    · have h1 := rowOne_len rk d lo hi k
      match hq : rowOne rk d lo hi k, h1 with
      | [], _ => exact List.Pairwise.nil
      | [x], _ => exact List.pairwise_singleton _ _
    · obtain ⟨v, x, q, hv, _, _, _, _, _, rfl⟩ := mem_rowsOf.1 he
      obtain ⟨x2, q2, _, _, _, _, _, rfl⟩ := mem_rowOne.1 hf
      show (v : Int) < (k : Int)
      omega
theorem raw_good {n : Nat} {rk d : List Int} {lo hi : Int} (h : Dist n (wmax 12) d) (hn : n ≤ 12) : GoodRow n rk lo (rowsOf rk d lo hi d.length) := by
  refine ⟨rows_ok h hn, fun e he => ?_, rowsOf_rise ..⟩
  obtain ⟨v, x, q, hv, hx, hq, h0, h1, _, rfl⟩ := mem_rowsOf.1 he
  exact ⟨q, hq, h1⟩
theorem filter_range_rise (p : Nat → Bool) (k : Nat) : (((List.range k).filter p).map Int.ofNat).Pairwise fun e f => e < f := by
  rw [List.pairwise_map]
  exact (List.pairwise_lt_range.filter _).imp fun {a b} h => by show (a : Int) < (b : Int); omega
theorem lows_good {n : Nat} {rk d : List Int} {lo : Int} : GoodSub n rk lo (lowsOf rk d lo n) := by
  refine ⟨fun x hx => ?_, fun x hx => ?_, filter_range_rise ..⟩
  · obtain ⟨y, hy, rfl⟩ := List.mem_map.1 hx
    have := List.mem_range.1 (List.mem_filter.1 hy).1
    exact ⟨Int.natCast_nonneg y, by show (y : Int) < n; omega⟩
  · obtain ⟨y, hy, rfl⟩ := List.mem_map.1 hx
    have h1 : IsLow rk d lo y := of_decide_eq_true (List.mem_filter.1 hy).2
    obtain ⟨_, q, hq, hql⟩ := h1
    rintro ⟨q2, hq2, h2⟩
    have e : (Int.ofNat y).toNat = y := rfl
    rw [e, hq] at hq2
    cases hq2; omega
theorem sub_more {α : Type} {acc l : List α} {i : Nat} {a : α} (h : acc.Sublist (l.take i)) (ha : l[i]? = some a) : acc.Sublist (l.take (i + 1)) := by rw [takeAt ha]; exact h.trans (List.sublist_append_left ..)
theorem sub_snoc {α : Type} {acc l : List α} {i : Nat} {a : α} (h : acc.Sublist (l.take i)) (ha : l[i]? = some a) : (acc ++ [a]).Sublist (l.take (i + 1)) := by rw [takeAt ha]; exact h.append (List.Sublist.refl _)
def TabOk (ss ts : List Int) (ls : List (List Int)) : Prop := (∀ row ∈ ls, row.length = ts.length ∧ ∀ z ∈ row, -1 ≤ z ∧ z ≤ 211106232532992) ∧ ∀ (i : Nat) s row, ss[i]? = some s → ls[i]? = some row → ∀ j : Nat, ts[j]? = some s → row[j]? = some 0
theorem TabOk.nil (ss ts : List Int) : TabOk ss ts [] := ⟨fun row h => absurd h List.not_mem_nil, fun i s row _ h => by simp at h⟩
theorem TabOk.snoc {ss ts : List Int} {ls : List (List Int)} {s : Int} {row : List Int} (h : TabOk ss ts ls) (hs : ss[ls.length]? = some s) (hl : row.length = ts.length) (hz : ∀ z ∈ row, -1 ≤ z ∧ z ≤ 211106232532992) (h0 : ∀ j : Nat, ts[j]? = some s → row[j]? = some 0) : TabOk ss ts (ls ++ [row]) := by
  refine ⟨fun r hr => ?_, fun i s' r hi hr => ?_⟩
  · rcases List.mem_append.1 hr with h1 | h1
    · exact h.1 r h1
    · rw [List.mem_singleton] at h1; subst h1; exact ⟨hl, hz⟩
  · rcases Nat.lt_or_ge i ls.length with h1 | h1
    · rw [List.getElem?_append_left h1] at hr; exact h.2 i s' r hi hr
    · rw [List.getElem?_append_right h1] at hr
      have e : i = ls.length := by
        rcases Nat.eq_zero_or_pos (i - ls.length) with e | e
        · omega
        · rw [List.getElem?_eq_none (by simp; omega)] at hr; cases hr
      subst e
      rw [Nat.sub_self] at hr
      cases hr
      rw [hs] at hi; cases hi
      exact h0
theorem mem_greatOf {rk : List Int} {lo x : Int} {k : Nat} (h : x ∈ greatOf rk lo k) : 0 ≤ x ∧ x < k ∧ IsHigh rk lo x.toNat := by
  unfold greatOf at h
  obtain ⟨y, hy, rfl⟩ := List.mem_map.1 h
  have h1 := List.mem_filter.1 hy
  exact ⟨Int.natCast_nonneg y, by have := List.mem_range.1 h1.1; show (y : Int) < k; omega, of_decide_eq_true h1.2⟩
structure GoodTab (n : Nat) (rk : List Int) (lo : Int) (g : List Int) (far : List (List Int)) (outs ins : List (List I2)) (so si : List (List Int)) : Prop where
  isGreat : g = greatOf rk lo n
  isFar : TabOk g g far
  farLen : far.length = g.length
  isOuts : ∀ r ∈ outs, GoodRow n rk lo r ∧ r.length ≤ n
  isIns : ∀ r ∈ ins, GoodRow n rk lo r ∧ r.length ≤ n
  isSo : ∀ r ∈ so, GoodSub n rk lo r ∧ r.length ≤ n
  isSi : ∀ r ∈ si, GoodSub n rk lo r ∧ r.length ≤ n
  lens : outs.length = n ∧ ins.length = n ∧ so.length = n ∧ si.length = n
theorem all_snoc {α : Type} {P : α → Prop} {l : List α} {a : α} (h : ∀ r ∈ l, P r) (ha : P a) : ∀ r ∈ l ++ [a], P r := fun r hr => (List.mem_append.1 hr).elim (h r) fun e => by rw [List.mem_singleton] at e; rw [e]; exact ha
end Go.Gr
set_option linter.unusedVariables false
set_option linter.unusedSimpArgs false
namespace Go.Proofs.YtngkdkbpgoddlaaGreat
open Go.RowKit Go.Rl
open Go.Gr
set_option maxHeartbeats 4000000 in
set_option maxRecDepth 100000 in
theorem low_calls (rv wv : Value) (rk : List Int) (kk : Int) (w : World) (hr : Sl vI w rv rk) : Gives Tryz.prog 140 #[.agg #[rv, wv], .int .i64 kk] w fun r w' => r = .int .i64 (lowOf (rk.length : Int) kk) ∧ Ext w w' := by
 refine Gives.start Tryz.func140 rfl (Nat.le_of_ble_eq_true rfl) ?_
 rw [args2]
 have hN := Now.nil w none_
 refine RW.seq (RW.region ?_)
 refine RL.op rfl rfl (opN_box (cs := [rv, wv]) rfl rfl hN ?_)
 clear hN
 intro g1 w1 (hN : Now w none_ w1 [_])
 refine RL.ev (v := .int .i64 (0)) rfl rfl ev_assign (RL.nil (thenN (RW.seq (RW.region (RL.ev rfl rfl (ev_fieldAddr Tryz.underlying28 rfl sz25 (by decide) rfl) (RL.ev rfl rfl (ev_loadB Tryz.underlying25 rfl rfl (hN.blk 0 rfl) rfl) ?_))))))
 have hL_2 := (hr.o.now hN).len_le
 refine RL.ev rfl rfl (ev_lenS Tryz.underlying25 (hr.o.now hN) rfl) (RL.ev (v := .int .i64 ((rk.length : Int))) rfl rfl ev_assign (RL.nil (thenN (RW.seq (RW.region (RL.ev (v := .int .i64 ((rk.length : Int))) rfl rfl ev_move (RL.ev (v := .int .i64 (kk)) rfl rfl ev_move (RL.ev (v := .int .i64 ((rk.length : Int))) rfl rfl ev_move (RL.ev rfl rfl (ev_min rfl rfl) ?_)))))))))
 refine RL.ev rfl rfl (ev_max rfl rfl) (RL.ev rfl rfl (show Ev _ _ _ _ (.int .i64 (lowOf (rk.length : Int) kk)) from ev_arith rfl rfl rfl (sub64 (by omega) (by omega))) (RL.ev (v := .int .i64 ((lowOf (rk.length : Int) kk))) rfl rfl ev_assign (RL.nil (thenN (RW.ret (retI (RV.tmp rfl) ?_))))))
 exact ⟨rfl, hN.ext0⟩
set_option maxHeartbeats 4000000 in
set_option maxRecDepth 100000 in
theorem great_calls (n : Nat) (rv wv : Value) (rk : List Int) (ways : List I5) (w : World) (hr : Sl vI w rv rk) (hw : Sm i5cells w wv ways) (hH : HOk n rk ways) (kk : Int) (hn : n ≤ 12) : Gives Tryz.prog 61 #[.agg #[rv, wv], .int .i64 kk] w fun r w' => Own vI 3 w' w.heap.size r (greatOf rk (lowOf (rk.length : Int) kk) rk.length) ∧ Ext w w' := by
 refine Gives.start Tryz.func61 rfl (Nat.le_of_ble_eq_true rfl) ?_
 rw [args2]
 have hN := Now.nil w none_
 have hln := hH.len
 refine RW.seq (RW.region ?_)
 refine RL.op rfl rfl (opN_box (cs := [rv, wv]) rfl rfl hN ?_)
 clear hN
 intro g1 w1 (hN : Now w none_ w1 [_])
 refine RL.ev (v := .slice none 0 0) rfl rfl ev_assign (RL.nil (thenN (RW.seq (RW.region (RL.ev (v := .slice none 0 0) rfl rfl ev_assign (RL.nil (thenN ?_)))))))
 iterate 2 refine RW.seq ?_
 refine RW.region (RL.ev (v := .int .i64 (0)) rfl rfl ev_assign (RL.nil (thenN (RW.block ?_))))
 replace hN := hN.addNil vI 3
 refine RW.loop (fun k R0 w0' => ∃ va : Value, ∃ acc : List Int, ∃ i : Nat, R0 1 = .int .i64 (kk) ∧ R0 2 = .pointer (some ⟨g1, 0, none⟩) ∧ R0 5 = va ∧ R0 6 = .int .i64 ((i : Int)) ∧ Now w none_ w0' [.own vI 3 (va) (acc), .blk g1 [rv, wv] 28] ∧ (i + k = rk.length) ∧ (acc = greatOf rk (lowOf (rk.length : Int) kk) i) ∧ (acc.length ≤ i)) (rk.length) ?_ ?_
 exact ⟨.slice none 0 0, [], 0, rfl, rfl, rfl, rfl, hN, by omega, rfl, Nat.le_refl _⟩
 clear hN
 rintro k R0 w0' ⟨va, acc, i, hr1_, hr2_, hr5_, hr6_, hN, hik, ha, hal⟩
 have hR_ : ∃ R0_, R0 = (upd (upd (upd (upd R0_ 1 _) 2 _) 5 _) 6 _) := ⟨R0, by rw [upd_self hr1_, upd_self hr2_, upd_self hr5_, upd_self hr6_]⟩
 obtain ⟨R0_, rfl⟩ := hR_
 clear hr1_ hr2_ hr5_ hr6_
 iterate 2 refine RW.seq ?_
 refine RW.region (RL.ev (v := .int .i64 ((i : Int))) rfl rfl ev_move (RL.ev rfl rfl (ev_fieldAddr Tryz.underlying28 rfl sz25 (by decide) rfl) (RL.ev rfl rfl (ev_loadB Tryz.underlying25 rfl rfl (hN.blk 1 rfl) rfl) ?_)))
 have hL_3 := (hr.o.now hN).len_le
 refine RL.ev rfl rfl (ev_lenS Tryz.underlying25 (hr.o.now hN) rfl) (RL.ev rfl rfl (ev_lss rfl rfl) (RL.nil (thenN ?_)))
 refine RW.condP _ rfl (fun hlt => ?_) (fun hlt => ?_)
 refine RW.skip (thenN (RW.seq (RW.block (RW.seq ?_))))
 replace hN := hN.ext (Ext.drew w0')
 refine RW.drawR rfl (fun u => Now w none_ u [.own vI 3 (va) (acc), .blk g1 [rv, wv] 28]) 9 [(0,0), (1,0), (2,0), (3,0), (4,0), (5,0), (6,0), (7,1), (8,0)] (by intro _ _ _ h; exact h) (by kernel_rfl) hN (RQ.ev rfl rfl (fun w hS => (ev_fieldAddr Tryz.underlying28 rfl sz25 (by decide) rfl)) (RQ.ev rfl rfl (fun w hS => (ev_loadB Tryz.underlying25 rfl rfl (hS.blk 1 rfl) rfl)) (RQ.ev (v := .int .i64 ((i : Int))) rfl rfl (fun w hS => ev_move) (RQ.ev rfl rfl (fun w hS => (ev_index Tryz.underlying25 sz3 (hr.o.now hS) rfl rfl (by omega) (by omega))) ?_))))
 have hOb_ : ∃ a_, (rk)[i]? = some a_ := ⟨_, List.getElem?_eq_getElem (by omega)⟩
 obtain ⟨ap, hap⟩ := hOb_
 refine RQ.ev rfl rfl (fun w hS => (ev_loadG (m := i) (a := ap) Tryz.underlying3 rfl (hr.o.now hS) rfl hap)) (RQ.ev rfl rfl (fun w hS => (ev_loadAll (cs := [rv, wv]) Tryz.underlying28 rfl sz28 rfl (hS.blk 1 rfl))) (RQ.ev (v := .int .i64 (kk)) rfl rfl (fun w hS => ev_move) ?_))
 refine RQ.do rfl rfl (op_call2 Tryz.func140 rfl rfl rfl rfl ((low_calls _ _ rk kk _ (hr.o.now hN)).mono ?_))
 rintro _ w4 ⟨rfl, he_⟩
 replace hN := hN.ext he_
 clear he_
 refine ⟨hN, ?_⟩
 refine RQ.ev rfl rfl (fun w hS => (ev_geq rfl rfl)) (RQ.done (by kernel_rfl) (thenN ?_))
 refine RW.condP _ rfl (fun hcx => ?_) (fun hcx => ?_)
 refine RW.region (RL.ev (v := va) rfl rfl ev_move (RL.ev (v := .int .i64 ((i : Int))) rfl rfl ev_move ?_))
 refine RL.op rfl rfl (opN_lit (enc := vI) (l := [(i : Int)]) (xs := [.tmp 24]) Tryz.underlying25 sz3 zr3 rfl rfl (fun _ => rfl) rfl (by decide) (by decide) hN ?_)
 clear hN
 intro g5 w5 (hN : Now w none_ w5 [_, _, _])
 refine RL.op rfl rfl (opN_append Tryz.underlying25 inf3 rfl (fun _ => rfl) hN 1 rfl rfl (hN.sl 0 rfl) rfl (by (try simp only [List.length_append, List.length_singleton, List.length_cons, List.length_nil]); omega) (by decide) ?_)
 clear hN
 intro v6 w6 (hN : Now w none_ w6 [_, _, _])
 refine RL.ev (v := v6) rfl rfl ev_assign (RL.nil (blockN (thenN (RW.region (RL.ev (v := .int .i64 ((i : Int))) rfl rfl ev_move (RL.ev rfl rfl (ev_arith rfl rfl rfl (add64 (by omega) (by omega))) (RL.ev (v := .int .i64 ((i : Int) + 1)) rfl rfl ev_assign (RL.nil (thenN ?_)))))))))
 exact ⟨k - 1, by omega, v6, acc ++ [(i : Int)], i + 1, rfl, rfl, rfl, rfl, (hN.sub [1, 2] (by decide) rfl), by omega, by unfold greatOf at *; rw [filter_range_succ, if_pos (decide_eq_true (show IsHigh rk (lowOf (rk.length : Int) kk) i from ⟨_, hap, hcx⟩)), ha]; try rfl, by (try simp only [List.length_append, List.length_singleton]); omega⟩
 refine RW.skip (blockN (thenN (RW.region (RL.ev (v := .int .i64 ((i : Int))) rfl rfl ev_move (RL.ev rfl rfl (ev_arith rfl rfl rfl (add64 (by omega) (by omega))) (RL.ev (v := .int .i64 ((i : Int) + 1)) rfl rfl ev_assign (RL.nil (thenN ?_))))))))
 exact ⟨k - 1, by omega, va, acc, i + 1, rfl, rfl, rfl, rfl, hN, by omega, by unfold greatOf at *; rw [filter_range_succ, if_neg (fun h => by obtain ⟨q, hq, h2⟩ := of_decide_eq_true h; rw [hap] at hq; cases hq; exact hcx h2), List.append_nil]; exact ha, by (try simp only [List.length_append, List.length_singleton]); omega⟩
 refine RW.exit ?_
 iterate 2 refine thenX ?_
 refine blockHit (thenN (RW.seq (RW.region (RL.ev (v := va) rfl rfl ev_move (RL.ev (v := va) rfl rfl ev_assign (RL.nil (thenN (RW.ret (retI (RV.tmp rfl) ?_)))))))))
 have hi_ : i = rk.length := by omega
 subst hi_
 subst ha
 exact ⟨hN.ownOut 0 rfl, hN.ext0⟩
set_option maxHeartbeats 4000000 in
set_option maxRecDepth 100000 in
theorem raw_calls (n : Nat) (rv wv : Value) (rk : List Int) (ways : List I5) (w : World) (hr : Sl vI w rv rk) (hw : Sm i5cells w wv ways) (hH : HOk n rk ways) (v kk : Int) (bk : Bool) (hn : n ≤ 12) (hv0 : 0 ≤ v) (hv1 : v < n) : Gives Tryz.prog 143 #[.agg #[rv, wv], .int .i64 v, .int .i64 kk, .bool (decide (bk = true))] w fun r w' => ∃ out, OwnM i2cells 2 135 w' w.heap.size r out ∧ GoodRow n rk (lowOf (rk.length : Int) kk) out ∧ out.length ≤ n ∧ Ext w w' := by
 refine Gives.start Tryz.func143 rfl (Nat.le_of_ble_eq_true rfl) ?_
 rw [args4]
 have hN := Now.nil w none_
 have hln := hH.len
 refine RW.seq (RW.region ?_)
 refine RL.op rfl rfl (opN_box (cs := [rv, wv]) rfl rfl hN ?_)
 clear hN
 intro g1 w1 (hN : Now w none_ w1 [_])
 refine RL.ev (v := .slice none 0 0) rfl rfl ev_assign (RL.nil (thenN (RW.seq (RW.region (RL.ev rfl rfl (ev_loadAll (cs := [rv, wv]) Tryz.underlying28 rfl sz28 rfl (hN.blk 0 rfl)) (RL.ev (v := .int .i64 (kk)) rfl rfl ev_move ?_))))))
 refine RL.op rfl rfl (op_call2 Tryz.func140 rfl rfl rfl rfl ((low_calls _ _ rk kk _ (hr.o.now hN)).mono ?_))
 rintro _ w2 ⟨rfl, he_⟩
 replace hN := hN.ext he_
 clear he_
 refine RL.ev (v := .int .i64 ((lowOf (rk.length : Int) kk))) rfl rfl ev_assign (RL.nil (thenN (RW.seq ?_)))
 replace hN := hN.ext (Ext.drew w2)
 refine RW.drawR rfl (fun u => Now w none_ u [.blk g1 [rv, wv] 28]) 12 [(0,0), (1,0), (2,0), (3,0), (4,0), (6,0), (7,0), (8,0), (9,0), (5,1), (10,1), (11,0)] (by intro _ _ _ h; exact h) (by kernel_rfl) hN ?_
 iterate 2 refine RQ.ev rfl rfl (fun w hS => (ev_loadAll (cs := [rv, wv]) Tryz.underlying28 rfl sz28 rfl (hS.blk 0 rfl))) ?_
 refine RQ.ev (v := .int .i64 (v)) rfl rfl (fun w hS => ev_move) (RQ.ev (v := .int .i64 ((lowOf (rk.length : Int) kk))) rfl rfl (fun w hS => ev_move) (RQ.ev (v := .bool (decide (bk = true))) rfl rfl (fun w hS => ev_move) (RQ.ev (v := .int .i64 ((lowOf (rk.length : Int) kk))) rfl rfl (fun w hS => ev_move) (RQ.ev rfl rfl (fun w hS => (ev_fieldAddr Tryz.underlying28 rfl sz25 (by decide) rfl)) (RQ.ev rfl rfl (fun w hS => (ev_loadB Tryz.underlying25 rfl rfl (hS.blk 0 rfl) rfl)) ?_)))))
 have hL_3 := (hr.o.now hN).len_le
 refine RQ.ev rfl rfl (fun w hS => (ev_lenS Tryz.underlying25 (hr.o.now hS) rfl)) ?_
 refine RQ.do rfl rfl (op_call4 Tryz.func144 rfl rfl rfl rfl rfl rfl ((climb_calls n _ _ rk ways _ (hr.o.now hN) (hw.o.now hN) hH v (lowOf (rk.length : Int) kk) bk hn hv0 hv1).mono ?_))
 rintro v4 w4 ⟨d4, ho_, hD4, hZ4, he_⟩
 replace hN : Now w none_ w4 [_, _] := hN.pushOwn ho_ he_
 clear ho_ he_
 have hdl4 := hD4.len
 refine ⟨(hN.sub [1] (by decide) rfl), ?_⟩
 refine RQ.do rfl rfl (op_call4 Tryz.func189 rfl rfl rfl rfl rfl rfl ((rows_calls _ _ rk ways _ d4 (lowOf (rk.length : Int) kk) (rk.length : Int) _ (hr.o.now hN) (hN.sl 0 rfl) (by have := hH.len; omega) (by omega)).mono ?_))
 rintro v5 w5 ⟨ho_, he_⟩
 replace hN : Now w none_ w5 [_, _, _] := hN.pushOwnM ho_ he_
 clear ho_ he_
 refine ⟨(hN.sub [2] (by decide) rfl), ?_⟩
 refine RQ.ev (v := v5) rfl rfl (fun w hS => ev_assign) (RQ.done (by kernel_rfl) (thenN (RW.ret (retI (RV.tmp rfl) ?_))))
 exact ⟨_, hN.ownmOut 0 rfl, raw_good hD4 hn, by have := rowsOf_len rk d4 (lowOf (rk.length : Int) kk) (rk.length : Int) d4.length; omega, hN.ext0⟩
set_option maxHeartbeats 4000000 in
set_option maxRecDepth 100000 in
theorem beats_calls (n : Nat) (rv wv : Value) (rk : List Int) (ways : List I5) (w : World) (hr : Sl vI w rv rk) (hw : Sm i5cells w wv ways) (hH : HOk n rk ways) (a b : I2) (bk : Bool) (hn : n ≤ 12) (hA : (0 ≤ a.1 ∧ a.1 < n ∧ 0 ≤ a.2 ∧ a.2 ≤ 105553116266496)) (hB : (0 ≤ b.1 ∧ b.1 < n ∧ 0 ≤ b.2 ∧ b.2 ≤ 105553116266496)) : Gives Tryz.prog 188 #[.agg #[rv, wv], .agg #[.int .i64 a.1, .int .i64 a.2], .agg #[.int .i64 b.1, .int .i64 b.2], .bool (decide (bk = true))] w fun r w' => ∃ t : Bool, r = .bool (decide (t = true)) ∧ Ext w w' := by
 refine Gives.start Tryz.func188 rfl (Nat.le_of_ble_eq_true rfl) ?_
 rw [args4]
 have hN := Now.nil w none_
 obtain ⟨ha0, ha1, ha2, ha3⟩ := hA
 obtain ⟨hb0, hb1, hb2, hb3⟩ := hB
 refine RW.seq (RW.region ?_)
 refine RL.op rfl rfl (opN_box (cs := [rv, wv]) rfl rfl hN ?_)
 clear hN
 intro g1 w1 (hN : Now w none_ w1 [_])
 refine RL.op rfl rfl (opN_box (cs := [.int .i64 (a.1), .int .i64 (a.2)]) rfl rfl hN ?_)
 clear hN
 intro g2 w2 (hN : Now w none_ w2 [_, _])
 refine RL.op rfl rfl (opN_box (cs := [.int .i64 (b.1), .int .i64 (b.2)]) rfl rfl hN ?_)
 clear hN
 intro g3 w3 (hN : Now w none_ w3 [_, _, _])
 refine RL.ev (v := .bool false) rfl rfl ev_assign (RL.nil (thenN (RW.seq (RW.region (RL.ev rfl rfl (ev_loadAll (cs := [rv, wv]) Tryz.underlying28 rfl sz28 rfl (hN.blk 2 rfl)) (RL.ev rfl rfl (ev_fieldAddr Tryz.underlying135 rfl sz3 (by decide) rfl) (RL.ev rfl rfl (ev_loadB Tryz.underlying3 rfl rfl (hN.blk 1 rfl) rfl) (RL.ev rfl rfl (ev_fieldAddr Tryz.underlying135 rfl sz3 (by decide) rfl) (RL.ev rfl rfl (ev_loadB Tryz.underlying3 rfl rfl (hN.blk 0 rfl) rfl) ?_)))))))))
 refine RL.op rfl rfl (op_call3 Tryz.func187 rfl rfl rfl rfl rfl ((far_calls n _ _ rk ways _ (hr.o.now hN) (hw.o.now hN) hH a.1 b.1 hn ha0 ha1 hb0 hb1).mono ?_))
 rintro _ w4 ⟨z4, rfl, hlo4, hhi4, hse4, he_⟩
 replace hN := hN.ext he_
 clear he_
 refine RL.ev (v := .int .i64 (z4)) rfl rfl ev_assign (RL.nil (thenN ?_))
 iterate 2 refine RW.seq ?_
 refine RW.region (RL.ev (v := .bool (decide (bk = true))) rfl rfl ev_move (RL.nil (thenN ?_)))
 refine RW.condP _ rfl (fun hbk => ?_) (fun hbk => ?_)
 refine RW.region (RL.ev rfl rfl (ev_loadAll (cs := [rv, wv]) Tryz.underlying28 rfl sz28 rfl (hN.blk 2 rfl)) (RL.ev rfl rfl (ev_fieldAddr Tryz.underlying135 rfl sz3 (by decide) rfl) (RL.ev rfl rfl (ev_loadB Tryz.underlying3 rfl rfl (hN.blk 0 rfl) rfl) (RL.ev rfl rfl (ev_fieldAddr Tryz.underlying135 rfl sz3 (by decide) rfl) (RL.ev rfl rfl (ev_loadB Tryz.underlying3 rfl rfl (hN.blk 1 rfl) rfl) ?_)))))
 refine RL.op rfl rfl (op_call3 Tryz.func187 rfl rfl rfl rfl rfl ((far_calls n _ _ rk ways _ (hr.o.now hN) (hw.o.now hN) hH b.1 a.1 hn hb0 hb1 ha0 ha1).mono ?_))
 rintro _ w5 ⟨z5, rfl, hlo5, hhi5, hse5, he_⟩
 replace hN := hN.ext he_
 clear he_
 refine RL.ev (v := .int .i64 (z5)) rfl rfl ev_assign (RL.nil (thenN ?_))
 iterate 2 refine RW.seq ?_
 refine RW.region (RL.ev (v := .int .i64 (z5)) rfl rfl ev_move (RL.ev rfl rfl (ev_lss rfl rfl) (RL.ev (v := .bool (decide (z5 < 0))) rfl rfl ev_move ?_)))
 by_cases hg4_2 : z5 < 0
 rw [decide_eq_true hg4_2]
 iterate 5 refine RL.off rfl rfl (by decide) rfl rfl ?_
 refine RL.ev (v := .bool true) rfl rfl (ev_pickT rfl) (RL.nil (thenN (RW.condT rfl (RW.seq (RW.region (RL.ev (v := .bool false) rfl rfl ev_assign (RL.nil (thenN (RW.ret ?_)))))))))
 refine thenR (retI (RV.tmp rfl) ?_)
 exact ⟨_, boolEx _, hN.ext0⟩
 rw [decide_eq_false hg4_2]
 refine RL.onEv rfl rfl (by decide) rfl rfl (ev_fieldAddr Tryz.underlying135 rfl sz3 (by decide) rfl) (RL.onEv rfl rfl (by decide) rfl rfl (ev_loadB Tryz.underlying3 rfl rfl (hN.blk 1 rfl) rfl) (RL.onEv rfl rfl (by decide) rfl rfl (ev_fieldAddr Tryz.underlying135 rfl sz3 (by decide) rfl) (RL.onEv rfl rfl (by decide) rfl rfl (ev_loadB Tryz.underlying3 rfl rfl (hN.blk 0 rfl) rfl) (RL.onEv rfl rfl (by decide) rfl rfl (ev_eql rfl rfl) (RL.ev (v := .bool (decide (a.1 = b.1))) rfl rfl (ev_pickF rfl) (RL.nil (thenN ?_)))))))
 refine RW.condP _ rfl (fun hc31 => ?_) (fun hc31 => ?_)
 refine RW.seq (RW.region (RL.ev (v := .bool false) rfl rfl ev_assign (RL.nil (thenN (RW.ret (thenR (retI (RV.tmp rfl) ?_)))))))
 exact ⟨_, boolEx _, hN.ext0⟩
 refine RW.skip (thenN (RW.seq (RW.region (RL.ev rfl rfl (ev_fieldAddr Tryz.underlying135 rfl sz3 (by decide) rfl) (RL.ev rfl rfl (ev_loadB Tryz.underlying3 rfl rfl (hN.blk 1 rfl) rfl) (RL.ev (v := .int .i64 (z5)) rfl rfl ev_move (RL.ev rfl rfl (ev_arith rfl rfl rfl (add64 (by omega) (by omega))) (RL.ev rfl rfl (ev_fieldAddr Tryz.underlying135 rfl sz3 (by decide) rfl) (RL.ev rfl rfl (ev_loadB Tryz.underlying3 rfl rfl (hN.blk 0 rfl) rfl) ?_)))))))))
 refine RL.ev rfl rfl (ev_lss rfl rfl) (RL.ev (v := .bool (decide (a.2 + z5 < b.2))) rfl rfl ev_move ?_)
 by_cases hg6_7 : a.2 + z5 < b.2
 rw [decide_eq_true hg6_7]
 iterate 8 refine RL.off rfl rfl (by decide) rfl rfl ?_
 iterate 5 refine RL.offU rfl rfl (by decide) rfl rfl ?_
 refine RL.off rfl rfl (by decide) rfl rfl (RL.ev (v := .bool true) rfl rfl (ev_pickT rfl) (RL.ev (v := .bool true) rfl rfl ev_assign (RL.nil (thenN (RW.ret (retI (RV.tmp rfl) ?_))))))
 exact ⟨_, boolEx _, hN.ext0⟩
 rw [decide_eq_false hg6_7]
 refine RL.onEv rfl rfl (by decide) rfl rfl (ev_fieldAddr Tryz.underlying135 rfl sz3 (by decide) rfl) (RL.onEv rfl rfl (by decide) rfl rfl (ev_loadB Tryz.underlying3 rfl rfl (hN.blk 1 rfl) rfl) (RL.onEv (v := .int .i64 (z5)) rfl rfl (by decide) rfl rfl ev_move (RL.onEv rfl rfl (by decide) rfl rfl (ev_arith rfl rfl rfl (add64 (by omega) (by omega))) (RL.onEv rfl rfl (by decide) rfl rfl (ev_fieldAddr Tryz.underlying135 rfl sz3 (by decide) rfl) (RL.onEv rfl rfl (by decide) rfl rfl (ev_loadB Tryz.underlying3 rfl rfl (hN.blk 0 rfl) rfl) (RL.onEv rfl rfl (by decide) rfl rfl (ev_eql rfl rfl) (RL.onEv (v := .bool (decide (a.2 + z5 = b.2))) rfl rfl (by decide) rfl rfl ev_move ?_)))))))
 by_cases hg6_15 : a.2 + z5 = b.2
 rw [decide_eq_true hg6_15]
 refine RL.onEv rfl rfl (by decide) rfl rfl (ev_fieldAddr Tryz.underlying135 rfl sz3 (by decide) rfl) (RL.onEv rfl rfl (by decide) rfl rfl (ev_loadB Tryz.underlying3 rfl rfl (hN.blk 1 rfl) rfl) (RL.onEv rfl rfl (by decide) rfl rfl (ev_fieldAddr Tryz.underlying135 rfl sz3 (by decide) rfl) (RL.onEv rfl rfl (by decide) rfl rfl (ev_loadB Tryz.underlying3 rfl rfl (hN.blk 0 rfl) rfl) (RL.onEv rfl rfl (by decide) rfl rfl (ev_lss rfl rfl) (RL.onEv (v := .bool (decide (a.1 < b.1))) rfl rfl (by decide) rfl rfl (ev_pickT rfl) (RL.ev (v := .bool (decide (a.1 < b.1))) rfl rfl (ev_pickF rfl) (RL.ev (v := .bool (decide (a.1 < b.1))) rfl rfl ev_assign (RL.nil (thenN ?_)))))))))
 refine RW.ret (retI (RV.tmp rfl) ?_)
 exact ⟨_, boolEx _, hN.ext0⟩
 rw [decide_eq_false hg6_15]
 iterate 5 refine RL.off rfl rfl (by decide) rfl rfl ?_
 refine RL.onEv (v := .bool false) rfl rfl (by decide) rfl rfl (ev_pickF rfl) (RL.ev (v := .bool false) rfl rfl (ev_pickF rfl) (RL.ev (v := .bool false) rfl rfl ev_assign (RL.nil (thenN (RW.ret (retI (RV.tmp rfl) ?_))))))
 exact ⟨_, boolEx _, hN.ext0⟩
 refine RW.skip (thenN ?_)
 iterate 2 refine RW.seq ?_
 refine RW.region (RL.ev (v := .int .i64 (z4)) rfl rfl ev_move (RL.ev rfl rfl (ev_lss rfl rfl) (RL.ev (v := .bool (decide (z4 < 0))) rfl rfl ev_move ?_)))
 by_cases hg4_2 : z4 < 0
 rw [decide_eq_true hg4_2]
 iterate 5 refine RL.off rfl rfl (by decide) rfl rfl ?_
 refine RL.ev (v := .bool true) rfl rfl (ev_pickT rfl) (RL.nil (thenN (RW.condT rfl (RW.seq (RW.region (RL.ev (v := .bool false) rfl rfl ev_assign (RL.nil (thenN (RW.ret ?_)))))))))
 refine thenR (retI (RV.tmp rfl) ?_)
 exact ⟨_, boolEx _, hN.ext0⟩
 rw [decide_eq_false hg4_2]
 refine RL.onEv rfl rfl (by decide) rfl rfl (ev_fieldAddr Tryz.underlying135 rfl sz3 (by decide) rfl) (RL.onEv rfl rfl (by decide) rfl rfl (ev_loadB Tryz.underlying3 rfl rfl (hN.blk 1 rfl) rfl) (RL.onEv rfl rfl (by decide) rfl rfl (ev_fieldAddr Tryz.underlying135 rfl sz3 (by decide) rfl) (RL.onEv rfl rfl (by decide) rfl rfl (ev_loadB Tryz.underlying3 rfl rfl (hN.blk 0 rfl) rfl) (RL.onEv rfl rfl (by decide) rfl rfl (ev_eql rfl rfl) (RL.ev (v := .bool (decide (a.1 = b.1))) rfl rfl (ev_pickF rfl) (RL.nil (thenN ?_)))))))
 refine RW.condP _ rfl (fun hc31 => ?_) (fun hc31 => ?_)
 refine RW.seq (RW.region (RL.ev (v := .bool false) rfl rfl ev_assign (RL.nil (thenN (RW.ret (thenR (retI (RV.tmp rfl) ?_)))))))
 exact ⟨_, boolEx _, hN.ext0⟩
 refine RW.skip (thenN (RW.seq (RW.region (RL.ev rfl rfl (ev_fieldAddr Tryz.underlying135 rfl sz3 (by decide) rfl) (RL.ev rfl rfl (ev_loadB Tryz.underlying3 rfl rfl (hN.blk 1 rfl) rfl) (RL.ev (v := .int .i64 (z4)) rfl rfl ev_move (RL.ev rfl rfl (ev_arith rfl rfl rfl (add64 (by omega) (by omega))) (RL.ev rfl rfl (ev_fieldAddr Tryz.underlying135 rfl sz3 (by decide) rfl) (RL.ev rfl rfl (ev_loadB Tryz.underlying3 rfl rfl (hN.blk 0 rfl) rfl) ?_)))))))))
 refine RL.ev rfl rfl (ev_lss rfl rfl) (RL.ev (v := .bool (decide (a.2 + z4 < b.2))) rfl rfl ev_move ?_)
 by_cases hg6_7 : a.2 + z4 < b.2
 rw [decide_eq_true hg6_7]
 iterate 8 refine RL.off rfl rfl (by decide) rfl rfl ?_
 iterate 5 refine RL.offU rfl rfl (by decide) rfl rfl ?_
 refine RL.off rfl rfl (by decide) rfl rfl (RL.ev (v := .bool true) rfl rfl (ev_pickT rfl) (RL.ev (v := .bool true) rfl rfl ev_assign (RL.nil (thenN (RW.ret (retI (RV.tmp rfl) ?_))))))
 exact ⟨_, boolEx _, hN.ext0⟩
 rw [decide_eq_false hg6_7]
 refine RL.onEv rfl rfl (by decide) rfl rfl (ev_fieldAddr Tryz.underlying135 rfl sz3 (by decide) rfl) (RL.onEv rfl rfl (by decide) rfl rfl (ev_loadB Tryz.underlying3 rfl rfl (hN.blk 1 rfl) rfl) (RL.onEv (v := .int .i64 (z4)) rfl rfl (by decide) rfl rfl ev_move (RL.onEv rfl rfl (by decide) rfl rfl (ev_arith rfl rfl rfl (add64 (by omega) (by omega))) (RL.onEv rfl rfl (by decide) rfl rfl (ev_fieldAddr Tryz.underlying135 rfl sz3 (by decide) rfl) (RL.onEv rfl rfl (by decide) rfl rfl (ev_loadB Tryz.underlying3 rfl rfl (hN.blk 0 rfl) rfl) (RL.onEv rfl rfl (by decide) rfl rfl (ev_eql rfl rfl) (RL.onEv (v := .bool (decide (a.2 + z4 = b.2))) rfl rfl (by decide) rfl rfl ev_move ?_)))))))
 by_cases hg6_15 : a.2 + z4 = b.2
 rw [decide_eq_true hg6_15]
 refine RL.onEv rfl rfl (by decide) rfl rfl (ev_fieldAddr Tryz.underlying135 rfl sz3 (by decide) rfl) (RL.onEv rfl rfl (by decide) rfl rfl (ev_loadB Tryz.underlying3 rfl rfl (hN.blk 1 rfl) rfl) (RL.onEv rfl rfl (by decide) rfl rfl (ev_fieldAddr Tryz.underlying135 rfl sz3 (by decide) rfl) (RL.onEv rfl rfl (by decide) rfl rfl (ev_loadB Tryz.underlying3 rfl rfl (hN.blk 0 rfl) rfl) (RL.onEv rfl rfl (by decide) rfl rfl (ev_lss rfl rfl) (RL.onEv (v := .bool (decide (a.1 < b.1))) rfl rfl (by decide) rfl rfl (ev_pickT rfl) (RL.ev (v := .bool (decide (a.1 < b.1))) rfl rfl (ev_pickF rfl) (RL.ev (v := .bool (decide (a.1 < b.1))) rfl rfl ev_assign (RL.nil (thenN ?_)))))))))
 refine RW.ret (retI (RV.tmp rfl) ?_)
 exact ⟨_, boolEx _, hN.ext0⟩
 rw [decide_eq_false hg6_15]
 iterate 5 refine RL.off rfl rfl (by decide) rfl rfl ?_
 refine RL.onEv (v := .bool false) rfl rfl (by decide) rfl rfl (ev_pickF rfl) (RL.ev (v := .bool false) rfl rfl (ev_pickF rfl) (RL.ev (v := .bool false) rfl rfl ev_assign (RL.nil (thenN (RW.ret (retI (RV.tmp rfl) ?_))))))
 exact ⟨_, boolEx _, hN.ext0⟩
set_option maxHeartbeats 4000000 in
set_option maxRecDepth 100000 in
theorem prune_calls (n : Nat) (rv wv : Value) (rk : List Int) (ways : List I5) (w : World) (hr : Sl vI w rv rk) (hw : Sm i5cells w wv ways) (hH : HOk n rk ways) (lv : Value) (l : List I2) (lo : Int) (bk : Bool) (hl : Sm i2cells w lv l) (hG : GoodRow n rk lo l) (hn : n ≤ 12) (hll : l.length ≤ 4096) : Gives Tryz.prog 142 #[.agg #[rv, wv], lv, .bool (decide (bk = true))] w fun r w' => ∃ out, OwnM i2cells 2 135 w' w.heap.size r out ∧ out.Sublist l ∧ Ext w w' := by
 refine Gives.start Tryz.func142 rfl (Nat.le_of_ble_eq_true rfl) ?_
 rw [args3]
 have hN := Now.nil w none_
 refine RW.seq (RW.region ?_)
 refine RL.op rfl rfl (opN_box (cs := [rv, wv]) rfl rfl hN ?_)
 clear hN
 intro g1 w1 (hN : Now w none_ w1 [_])
 refine RL.ev (v := .slice none 0 0) rfl rfl ev_assign (RL.nil (thenN (RW.seq (RW.region (RL.ev (v := .slice none 0 0) rfl rfl ev_assign (RL.nil (thenN ?_)))))))
 iterate 2 refine RW.seq ?_
 refine RW.region (RL.ev (v := .int .i64 (0)) rfl rfl ev_assign (RL.nil (thenN (RW.block ?_))))
 replace hN := hN.addNilM i2cells 2 135
 refine RW.loop (fun k R0 w0' => ∃ va : Value, ∃ acc : List I2, ∃ i : Nat, R0 1 = lv ∧ R0 2 = .bool (decide (bk = true)) ∧ R0 3 = .pointer (some ⟨g1, 0, none⟩) ∧ R0 7 = va ∧ R0 8 = .int .i64 ((i : Int)) ∧ Now w none_ w0' [.ownm i2cells 2 135 (va) (acc), .blk g1 [rv, wv] 28] ∧ (i + k = l.length) ∧ (acc.Sublist (l.take i)) ∧ (acc.length ≤ i)) (l.length) ?_ ?_
 exact ⟨.slice none 0 0, [], 0, rfl, rfl, rfl, rfl, rfl, hN, by omega, List.Sublist.refl _, Nat.le_refl _⟩
 clear hN
 rintro k R0 w0' ⟨va, acc, i, hr1_, hr2_, hr3_, hr7_, hr8_, hN, hik, hsub, hal⟩
 have hR_ : ∃ R0_, R0 = (upd (upd (upd (upd (upd R0_ 1 _) 2 _) 3 _) 7 _) 8 _) := ⟨R0, by rw [upd_self hr1_, upd_self hr2_, upd_self hr3_, upd_self hr7_, upd_self hr8_]⟩
 obtain ⟨R0_, rfl⟩ := hR_
 clear hr1_ hr2_ hr3_ hr7_ hr8_
 iterate 2 refine RW.seq ?_
 refine RW.region (RL.ev (v := .int .i64 ((i : Int))) rfl rfl ev_move (RL.ev (v := lv) rfl rfl ev_move ?_))
 have hL_3 := (hl.o.now hN).len_le
 refine RL.ev rfl rfl (ev_lenM Tryz.underlying118 (hl.o.now hN) rfl) (RL.ev rfl rfl (ev_lss rfl rfl) (RL.nil (thenN ?_)))
 refine RW.condP _ rfl (fun hlt => ?_) (fun hlt => ?_)
 refine RW.skip (thenN (RW.seq (RW.block (RW.seq ?_))))
 have hOb_ : ∃ a_, l[i]? = some a_ := ⟨_, List.getElem?_eq_getElem (by omega)⟩
 obtain ⟨ap, hap⟩ := hOb_
 refine RW.region (RL.ev (v := .bool false) rfl rfl ev_assign (RL.nil (thenN ?_)))
 iterate 2 refine RW.seq ?_
 refine RW.region (RL.ev (v := .int .i64 (0)) rfl rfl ev_assign (RL.nil (thenN (RW.block ?_))))
 refine RW.loop (fun k2 R1 w1' => ∃ bt : Bool, ∃ q : Nat, R1 1 = lv ∧ R1 2 = .bool (decide (bk = true)) ∧ R1 3 = .pointer (some ⟨g1, 0, none⟩) ∧ R1 7 = va ∧ R1 8 = .int .i64 ((i : Int)) ∧ R1 9 = .bool (decide (bt = true)) ∧ R1 10 = .int .i64 ((q : Int)) ∧ Now w none_ w1' [.ownm i2cells 2 135 (va) (acc), .blk g1 [rv, wv] 28] ∧ (q + k2 = l.length)) (l.length) ?_ ?_
 exact ⟨false, 0, rfl, rfl, rfl, rfl, rfl, rfl, rfl, hN, by omega⟩
 clear hN
 rintro k2 R1 w1' ⟨bt, q, hr1_, hr2_, hr3_, hr7_, hr8_, hr9_, hr10_, hN, hqk⟩
 have hR_ : ∃ R1_, R1 = (upd (upd (upd (upd (upd (upd (upd R1_ 1 _) 2 _) 3 _) 7 _) 8 _) 9 _) 10 _) := ⟨R1, by rw [upd_self hr1_, upd_self hr2_, upd_self hr3_, upd_self hr7_, upd_self hr8_, upd_self hr9_, upd_self hr10_]⟩
 obtain ⟨R1_, rfl⟩ := hR_
 clear hr1_ hr2_ hr3_ hr7_ hr8_ hr9_ hr10_
 iterate 2 refine RW.seq ?_
 refine RW.region (RL.ev (v := .int .i64 ((q : Int))) rfl rfl ev_move (RL.ev (v := lv) rfl rfl ev_move (RL.ev rfl rfl (ev_lenM Tryz.underlying118 (hl.o.now hN) rfl) (RL.ev rfl rfl (ev_lss rfl rfl) (RL.nil (thenN ?_))))))
 refine RW.condP _ rfl (fun hlt2 => ?_) (fun hlt2 => ?_)
 refine RW.skip (thenN (RW.seq (RW.block ?_)))
 replace hN := hN.ext (Ext.drew w1')
 refine RW.drawR rfl (fun u => Now w none_ u [.ownm i2cells 2 135 (va) (acc), .blk g1 [rv, wv] 28]) 15 [(0,0), (1,0), (2,0), (3,0), (4,0), (5,0), (6,0), (7,0), (8,0), (9,0), (10,0), (11,0), (12,1), (13,0), (14,0)] (by intro _ _ _ h; exact h) (by kernel_rfl) hN ?_
 iterate 2 refine RQ.ev (v := .bool (decide (bt = true))) rfl rfl (fun w hS => ev_move) ?_
 by_cases hg9_1 : bt = true
 rw [decide_eq_true hg9_1]
 iterate 11 refine RQ.off rfl rfl rfl rfl ?_
 refine RQ.ev (v := .bool true) rfl rfl (fun w hS => (ev_pickT rfl)) (RQ.ev (v := .bool true) rfl rfl (fun w hS => ev_assign) (RQ.done (by kernel_rfl) (blockN (thenN (RW.region (RL.ev (v := .int .i64 ((q : Int))) rfl rfl ev_move (RL.ev rfl rfl (ev_arith rfl rfl rfl (add64 (by omega) (by omega))) (RL.ev (v := .int .i64 ((q : Int) + 1)) rfl rfl ev_assign (RL.nil ?_)))))))))
 refine thenN ?_
 exact ⟨k2 - 1, by omega, true, q + 1, rfl, rfl, rfl, rfl, rfl, rfl, rfl, hN, by omega⟩
 rw [decide_eq_false hg9_1]
 refine RQ.on rfl rfl rfl rfl (fun w hS => (ev_loadAll (cs := [rv, wv]) Tryz.underlying28 rfl sz28 rfl (hS.blk 1 rfl))) (RQ.on (v := lv) rfl rfl rfl rfl (fun w hS => ev_move) (RQ.on (v := .int .i64 ((q : Int))) rfl rfl rfl rfl (fun w hS => ev_move) (RQ.on rfl rfl rfl rfl (fun w hS => (ev_indexM Tryz.underlying118 sz135 i2cells_len (by decide) (hl.o.now hS) rfl rfl (by omega) (by omega))) ?_)))
 have hOb_ : ∃ a_, (l)[q]? = some a_ := ⟨_, List.getElem?_eq_getElem (by omega)⟩
 obtain ⟨ar, har⟩ := hOb_
 refine RQ.on rfl rfl rfl rfl (fun w hS => (ev_loadM (m := q) (a := ar) Tryz.underlying135 rfl sz135 i2cells_len (by decide) (hl.o.now hS) rfl har (cs := [.int .i64 (ar.1), .int .i64 (ar.2)]) rfl)) (RQ.on (v := lv) rfl rfl rfl rfl (fun w hS => ev_move) (RQ.on (v := .int .i64 ((i : Int))) rfl rfl rfl rfl (fun w hS => ev_move) (RQ.on rfl rfl rfl rfl (fun w hS => (ev_indexM Tryz.underlying118 sz135 i2cells_len (by decide) (hl.o.now hS) rfl rfl (by omega) (by omega))) (RQ.on rfl rfl rfl rfl (fun w hS => (ev_loadM (m := i) (a := ap) Tryz.underlying135 rfl sz135 i2cells_len (by decide) (hl.o.now hS) rfl hap (cs := [.int .i64 (ap.1), .int .i64 (ap.2)]) rfl)) (RQ.on (v := .bool (decide (bk = true))) rfl rfl rfl rfl (fun w hS => ev_move) ?_)))))
 refine RQ.doOn rfl rfl rfl rfl (op_call4 Tryz.func188 rfl rfl rfl rfl rfl rfl ((beats_calls n _ _ rk ways _ (hr.o.now hN) (hw.o.now hN) hH ar ap bk hn (hG.ok _ (List.mem_of_getElem? har)) (hG.ok _ (List.mem_of_getElem? hap))).mono ?_))
 rintro _ w4 ⟨b4, rfl, he_⟩
 replace hN := hN.ext he_
 clear he_
 refine ⟨hN, ?_⟩
 refine RQ.ev (v := .bool (decide (b4 = true))) rfl rfl (fun w hS => (ev_pickF rfl)) (RQ.ev (v := .bool (decide (b4 = true))) rfl rfl (fun w hS => ev_assign) (RQ.done (by kernel_rfl) (blockN (thenN (RW.region (RL.ev (v := .int .i64 ((q : Int))) rfl rfl ev_move (RL.ev rfl rfl (ev_arith rfl rfl rfl (add64 (by omega) (by omega))) (RL.ev (v := .int .i64 ((q : Int) + 1)) rfl rfl ev_assign (RL.nil ?_)))))))))
 refine thenN ?_
 exact ⟨k2 - 1, by omega, b4, q + 1, rfl, rfl, rfl, rfl, rfl, rfl, rfl, hN, by omega⟩
 refine RW.exit ?_
 iterate 2 refine thenX ?_
 refine blockHit (thenN (RW.seq (RW.region (RL.ev (v := .bool (decide (bt = true))) rfl rfl ev_move (RL.ev rfl rfl (ev_notP rfl) (RL.nil (thenN ?_)))))))
 refine RW.condP _ rfl (fun hc38 => ?_) (fun hc38 => ?_)
 refine RW.region (RL.ev (v := va) rfl rfl ev_move (RL.ev (v := lv) rfl rfl ev_move (RL.ev (v := .int .i64 ((i : Int))) rfl rfl ev_move (RL.ev rfl rfl (ev_indexM Tryz.underlying118 sz135 i2cells_len (by decide) (hl.o.now hN) rfl rfl (by omega) (by omega)) (RL.ev rfl rfl (ev_loadM (m := i) (a := ap) Tryz.underlying135 rfl sz135 i2cells_len (by decide) (hl.o.now hN) rfl hap (cs := [.int .i64 (ap.1), .int .i64 (ap.2)]) rfl) ?_)))))
 refine RL.op rfl rfl (opN_litM (cf := i2cells) (s := 2) (pl := [(0, .tmp 43)]) (ps := [(0, .agg #[.int .i64 (ap.1), .int .i64 (ap.2)])]) (zc := [.int .i64 (0), .int .i64 (0)]) (l := [(ap.1, ap.2)]) Tryz.underlying118 inf135 (by kernel_rfl) rfl rfl (fill_step (vs := [.int .i64 (ap.1), .int .i64 (ap.2)]) rfl rfl (Nat.le_of_ble_eq_true rfl) rfl) i2cells_len rfl (by decide) (by decide) (by decide) hN ?_)
 clear hN
 intro g5 w5 (hN : Now w none_ w5 [_, _, _])
 refine RL.op rfl rfl (opN_appendM Tryz.underlying118 inf135 rfl (by decide) i2cells_one i2cells_len hN 1 rfl rfl (hN.sm 0 rfl) rfl (by (try simp only [List.length_append, List.length_singleton, List.length_cons, List.length_nil]); omega) (by decide) ?_)
 clear hN
 intro v6 w6 (hN : Now w none_ w6 [_, _, _])
 refine RL.ev (v := v6) rfl rfl ev_assign (RL.nil (blockN (thenN (RW.region (RL.ev (v := .int .i64 ((i : Int))) rfl rfl ev_move (RL.ev rfl rfl (ev_arith rfl rfl rfl (add64 (by omega) (by omega))) (RL.ev (v := .int .i64 ((i : Int) + 1)) rfl rfl ev_assign (RL.nil (thenN ?_)))))))))
 exact ⟨k - 1, by omega, v6, acc ++ [(ap.1, ap.2)], i + 1, rfl, rfl, rfl, rfl, rfl, (hN.sub [1, 2] (by decide) rfl), by omega, sub_snoc hsub hap, by (try simp only [List.length_append, List.length_singleton]); omega⟩
 refine RW.skip (blockN (thenN (RW.region (RL.ev (v := .int .i64 ((i : Int))) rfl rfl ev_move (RL.ev rfl rfl (ev_arith rfl rfl rfl (add64 (by omega) (by omega))) (RL.ev (v := .int .i64 ((i : Int) + 1)) rfl rfl ev_assign (RL.nil (thenN ?_))))))))
 exact ⟨k - 1, by omega, va, acc, i + 1, rfl, rfl, rfl, rfl, rfl, hN, by omega, sub_more hsub hap, by (try simp only [List.length_append, List.length_singleton]); omega⟩
 refine RW.exit ?_
 iterate 2 refine thenX ?_
 refine blockHit (thenN (RW.seq (RW.region (RL.ev (v := va) rfl rfl ev_move (RL.ev (v := va) rfl rfl ev_assign (RL.nil (thenN (RW.ret (retI (RV.tmp rfl) ?_)))))))))
 have hi_ : i = l.length := by omega
 rw [hi_, List.take_length] at hsub
 exact ⟨acc, hN.ownmOut 0 rfl, hsub, hN.ext0⟩
set_option maxHeartbeats 4000000 in
set_option maxRecDepth 100000 in
theorem gof_calls (n : Nat) (rv wv : Value) (rk : List Int) (ways : List I5) (w : World) (hr : Sl vI w rv rk) (hw : Sm i5cells w wv ways) (hH : HOk n rk ways) (v kk : Int) (bk : Bool) (hn : n ≤ 12) (hv0 : 0 ≤ v) (hv1 : v < n) : Gives Tryz.prog 63 #[.agg #[rv, wv], .int .i64 v, .int .i64 kk, .bool (decide (bk = true))] w fun r w' => ∃ out, OwnM i2cells 2 135 w' w.heap.size r out ∧ GoodRow n rk (lowOf (rk.length : Int) kk) out ∧ out.length ≤ n ∧ Ext w w' := by
 refine Gives.start Tryz.func63 rfl (Nat.le_of_ble_eq_true rfl) ?_
 rw [args4]
 have hN := Now.nil w none_
 refine RW.seq (RW.region ?_)
 refine RL.op rfl rfl (opN_box (cs := [rv, wv]) rfl rfl hN ?_)
 clear hN
 intro g1 w1 (hN : Now w none_ w1 [_])
 refine RL.ev (v := .slice none 0 0) rfl rfl ev_assign (RL.nil (thenN (RW.seq ?_)))
 replace hN := hN.ext (Ext.drew w1)
 refine RW.drawR rfl (fun u => Now w none_ u [.blk g1 [rv, wv] 28]) 9 [(0,0), (1,0), (2,0), (3,0), (4,0), (6,0), (5,1), (7,1), (8,0)] (by intro _ _ _ h; exact h) (by kernel_rfl) hN ?_
 iterate 2 refine RQ.ev rfl rfl (fun w hS => (ev_loadAll (cs := [rv, wv]) Tryz.underlying28 rfl sz28 rfl (hS.blk 0 rfl))) ?_
 refine RQ.ev (v := .int .i64 (v)) rfl rfl (fun w hS => ev_move) (RQ.ev (v := .int .i64 (kk)) rfl rfl (fun w hS => ev_move) ?_)
 iterate 2 refine RQ.ev (v := .bool (decide (bk = true))) rfl rfl (fun w hS => ev_move) ?_
 refine RQ.do rfl rfl (op_call4 Tryz.func143 rfl rfl rfl rfl rfl rfl ((raw_calls n _ _ rk ways _ (hr.o.now hN) (hw.o.now hN) hH v kk bk hn hv0 hv1).mono ?_))
 rintro v2 w2 ⟨out2, ho_, hG2, hl2, he_⟩
 replace hN : Now w none_ w2 [_, _] := hN.pushOwnM ho_ he_
 clear ho_ he_
 refine ⟨(hN.sub [1] (by decide) rfl), ?_⟩
 refine RQ.do rfl rfl (op_call3 Tryz.func142 rfl rfl rfl rfl rfl ((prune_calls n _ _ rk ways _ (hr.o.now hN) (hw.o.now hN) hH _ out2 (lowOf (rk.length : Int) kk) bk (hN.sm 0 rfl) hG2 hn (by omega)).mono ?_))
 rintro v3 w3 ⟨out3, ho_, hs3, he_⟩
 replace hN : Now w none_ w3 [_, _, _] := hN.pushOwnM ho_ he_
 clear ho_ he_
 refine ⟨(hN.sub [2] (by decide) rfl), ?_⟩
 refine RQ.ev (v := v3) rfl rfl (fun w hS => ev_assign) (RQ.done (by kernel_rfl) (thenN (RW.ret (retI (RV.tmp rfl) ?_))))
 exact ⟨_, hN.ownmOut 0 rfl, hG2.sub hs3, Nat.le_trans hs3.length_le hl2, hN.ext0⟩
set_option maxHeartbeats 4000000 in
set_option maxRecDepth 100000 in
theorem sub_calls (n : Nat) (rv wv : Value) (rk : List Int) (ways : List I5) (w : World) (hr : Sl vI w rv rk) (hw : Sm i5cells w wv ways) (hH : HOk n rk ways) (v kk : Int) (bk : Bool) (hn : n ≤ 12) (hv0 : 0 ≤ v) (hv1 : v < n) : Gives Tryz.prog 64 #[.agg #[rv, wv], .int .i64 v, .int .i64 kk, .bool (decide (bk = true))] w fun r w' => ∃ out, Own vI 3 w' w.heap.size r out ∧ GoodSub n rk (lowOf (rk.length : Int) kk) out ∧ out.length ≤ n ∧ Ext w w' := by
 refine Gives.start Tryz.func64 rfl (Nat.le_of_ble_eq_true rfl) ?_
 rw [args4]
 have hN := Now.nil w none_
 have hln := hH.len
 refine RW.seq (RW.region ?_)
 refine RL.op rfl rfl (opN_box (cs := [rv, wv]) rfl rfl hN ?_)
 clear hN
 intro g1 w1 (hN : Now w none_ w1 [_])
 refine RL.ev (v := .slice none 0 0) rfl rfl ev_assign (RL.nil (thenN (RW.seq (RW.region (RL.ev rfl rfl (ev_loadAll (cs := [rv, wv]) Tryz.underlying28 rfl sz28 rfl (hN.blk 0 rfl)) (RL.ev (v := .int .i64 (kk)) rfl rfl ev_move ?_))))))
 refine RL.op rfl rfl (op_call2 Tryz.func140 rfl rfl rfl rfl ((low_calls _ _ rk kk _ (hr.o.now hN)).mono ?_))
 rintro _ w2 ⟨rfl, he_⟩
 replace hN := hN.ext he_
 clear he_
 refine RL.ev (v := .int .i64 ((lowOf (rk.length : Int) kk))) rfl rfl ev_assign (RL.nil (thenN (RW.seq (RW.region (RL.ev rfl rfl (ev_loadAll (cs := [rv, wv]) Tryz.underlying28 rfl sz28 rfl (hN.blk 0 rfl)) (RL.ev (v := .int .i64 (v)) rfl rfl ev_move (RL.ev (v := .int .i64 ((lowOf (rk.length : Int) kk))) rfl rfl ev_move (RL.ev (v := .bool (decide (bk = true))) rfl rfl ev_move ?_))))))))
 refine RL.op rfl rfl (op_call4 Tryz.func144 rfl rfl rfl rfl rfl rfl ((climb_calls n _ _ rk ways _ (hr.o.now hN) (hw.o.now hN) hH v (lowOf (rk.length : Int) kk) bk hn hv0 hv1).mono ?_))
 rintro v3 w3 ⟨d3, ho_, hD3, hZ3, he_⟩
 replace hN : Now w none_ w3 [_, _] := hN.pushOwn ho_ he_
 clear ho_ he_
 have hdl3 := hD3.len
 refine RL.ev (v := v3) rfl rfl ev_assign (RL.nil (thenN (RW.seq (RW.region (RL.ev (v := .slice none 0 0) rfl rfl ev_assign (RL.nil (thenN ?_)))))))
 iterate 2 refine RW.seq ?_
 refine RW.region (RL.ev (v := .int .i64 (0)) rfl rfl ev_assign (RL.nil (thenN (RW.block ?_))))
 replace hN := hN.addNil vI 3
 refine RW.loop (fun k R0 w0' => ∃ va : Value, ∃ acc : List Int, ∃ i : Nat, R0 4 = .pointer (some ⟨g1, 0, none⟩) ∧ R0 9 = .int .i64 ((lowOf (rk.length : Int) kk)) ∧ R0 10 = v3 ∧ R0 11 = va ∧ R0 12 = .int .i64 ((i : Int)) ∧ Now w none_ w0' [.own vI 3 (va) (acc), .own vI 3 (v3) (d3), .blk g1 [rv, wv] 28] ∧ (i + k = d3.length) ∧ (acc = lowsOf rk d3 (lowOf (rk.length : Int) kk) i) ∧ (acc.length ≤ i)) (d3.length) ?_ ?_
 exact ⟨.slice none 0 0, [], 0, rfl, rfl, rfl, rfl, rfl, hN, by omega, rfl, Nat.le_refl _⟩
 clear hN
 rintro k R0 w0' ⟨va, acc, i, hr4_, hr9_, hr10_, hr11_, hr12_, hN, hik, ha, hal⟩
 have hR_ : ∃ R0_, R0 = (upd (upd (upd (upd (upd R0_ 4 _) 9 _) 10 _) 11 _) 12 _) := ⟨R0, by rw [upd_self hr4_, upd_self hr9_, upd_self hr10_, upd_self hr11_, upd_self hr12_]⟩
 obtain ⟨R0_, rfl⟩ := hR_
 clear hr4_ hr9_ hr10_ hr11_ hr12_
 iterate 2 refine RW.seq ?_
 refine RW.region (RL.ev (v := .int .i64 ((i : Int))) rfl rfl ev_move (RL.ev (v := v3) rfl rfl ev_move ?_))
 have hL_5 := (hN.sl 1 rfl).len_le
 refine RL.ev rfl rfl (ev_lenS Tryz.underlying25 (hN.sl 1 rfl) rfl) (RL.ev rfl rfl (ev_lss rfl rfl) (RL.nil (thenN ?_)))
 refine RW.condP _ rfl (fun hlt => ?_) (fun hlt => ?_)
 refine RW.skip (thenN (RW.seq (RW.block (RW.seq (RW.region (RL.ev (v := v3) rfl rfl ev_move (RL.ev (v := .int .i64 ((i : Int))) rfl rfl ev_move (RL.ev rfl rfl (ev_index Tryz.underlying25 sz3 (hN.sl 1 rfl) rfl rfl (by omega) (by omega)) ?_))))))))
 have hOb_ : ∃ a_, (d3)[i]? = some a_ := ⟨_, List.getElem?_eq_getElem (by omega)⟩
 obtain ⟨ap, hap⟩ := hOb_
 refine RL.ev rfl rfl (ev_loadG (m := i) (a := ap) Tryz.underlying3 rfl (hN.sl 1 rfl) rfl hap) (RL.ev rfl rfl (ev_geq rfl rfl) (RL.ev (v := .bool (decide (0 ≤ ap))) rfl rfl ev_move ?_))
 by_cases hg7_5 : 0 ≤ ap
 rw [decide_eq_true hg7_5]
 refine RL.onEv rfl rfl (by decide) rfl rfl (ev_fieldAddr Tryz.underlying28 rfl sz25 (by decide) rfl) (RL.onEv rfl rfl (by decide) rfl rfl (ev_loadB Tryz.underlying25 rfl rfl (hN.blk 2 rfl) rfl) (RL.onEv (v := .int .i64 ((i : Int))) rfl rfl (by decide) rfl rfl ev_move (RL.onEv rfl rfl (by decide) rfl rfl (ev_index Tryz.underlying25 sz3 (hr.o.now hN) rfl rfl (by omega) (by omega)) ?_)))
 have hOb_ : ∃ a_, (rk)[i]? = some a_ := ⟨_, List.getElem?_eq_getElem (by omega)⟩
 obtain ⟨aq, haq⟩ := hOb_
 refine RL.onEv rfl rfl (by decide) rfl rfl (ev_loadG (m := i) (a := aq) Tryz.underlying3 rfl (hr.o.now hN) rfl haq) (RL.onEv (v := .int .i64 ((lowOf (rk.length : Int) kk))) rfl rfl (by decide) rfl rfl ev_move (RL.onEv rfl rfl (by decide) rfl rfl (ev_lss rfl rfl) (RL.ev (v := .bool (decide (aq < (lowOf (rk.length : Int) kk)))) rfl rfl (ev_pickT rfl) (RL.nil (thenN ?_)))))
 refine RW.condP _ rfl (fun hcx => ?_) (fun hcx => ?_)
 refine RW.region (RL.ev (v := va) rfl rfl ev_move (RL.ev (v := .int .i64 ((i : Int))) rfl rfl ev_move ?_))
 refine RL.op rfl rfl (opN_lit (enc := vI) (l := [(i : Int)]) (xs := [.tmp 42]) Tryz.underlying25 sz3 zr3 rfl rfl (fun _ => rfl) rfl (by decide) (by decide) hN ?_)
 clear hN
 intro g6 w6 (hN : Now w none_ w6 [_, _, _, _])
 refine RL.op rfl rfl (opN_append Tryz.underlying25 inf3 rfl (fun _ => rfl) hN 1 rfl rfl (hN.sl 0 rfl) rfl (by (try simp only [List.length_append, List.length_singleton, List.length_cons, List.length_nil]); omega) (by decide) ?_)
 clear hN
 intro v7 w7 (hN : Now w none_ w7 [_, _, _, _])
 refine RL.ev (v := v7) rfl rfl ev_assign (RL.nil (blockN (thenN (RW.region (RL.ev (v := .int .i64 ((i : Int))) rfl rfl ev_move (RL.ev rfl rfl (ev_arith rfl rfl rfl (add64 (by omega) (by omega))) (RL.ev (v := .int .i64 ((i : Int) + 1)) rfl rfl ev_assign (RL.nil (thenN ?_)))))))))
 exact ⟨k - 1, by omega, v7, acc ++ [(i : Int)], i + 1, rfl, rfl, rfl, rfl, rfl, (hN.sub [1, 2, 3] (by decide) rfl), by omega, by unfold lowsOf at *; rw [filter_range_succ, if_pos (decide_eq_true (show IsLow rk d3 (lowOf (rk.length : Int) kk) i from ⟨⟨_, hap, hg7_5⟩, _, haq, hcx⟩)), ha]; try rfl, by (try simp only [List.length_append, List.length_singleton]); omega⟩
 refine RW.skip (blockN (thenN (RW.region (RL.ev (v := .int .i64 ((i : Int))) rfl rfl ev_move (RL.ev rfl rfl (ev_arith rfl rfl rfl (add64 (by omega) (by omega))) (RL.ev (v := .int .i64 ((i : Int) + 1)) rfl rfl ev_assign (RL.nil (thenN ?_))))))))
 exact ⟨k - 1, by omega, va, acc, i + 1, rfl, rfl, rfl, rfl, rfl, hN, by omega, by unfold lowsOf at *; rw [filter_range_succ, if_neg (fun h => by obtain ⟨⟨x1, hx1, hx2⟩, q1, hq1, hq2⟩ := of_decide_eq_true h; rw [hap] at hx1; cases hx1; first | exact hg7_5 hx2 | (rw [haq] at hq1; cases hq1; exact hcx hq2)), List.append_nil]; exact ha, by (try simp only [List.length_append, List.length_singleton]); omega⟩
 rw [decide_eq_false hg7_5]
 iterate 7 refine RL.off rfl rfl (by decide) rfl rfl ?_
 refine RL.ev (v := .bool false) rfl rfl (ev_pickF rfl) (RL.nil (thenN (RW.condF rfl (RW.skip (blockN (thenN (RW.region (RL.ev (v := .int .i64 ((i : Int))) rfl rfl ev_move (RL.ev rfl rfl (ev_arith rfl rfl rfl (add64 (by omega) (by omega))) ?_)))))))))
 refine RL.ev (v := .int .i64 ((i : Int) + 1)) rfl rfl ev_assign (RL.nil (thenN ?_))
 exact ⟨k - 1, by omega, va, acc, i + 1, rfl, rfl, rfl, rfl, rfl, hN, by omega, by unfold lowsOf at *; rw [filter_range_succ, if_neg (fun h => by obtain ⟨⟨x1, hx1, hx2⟩, q1, hq1, hq2⟩ := of_decide_eq_true h; rw [hap] at hx1; cases hx1; first | exact hg7_5 hx2 | (rw [haq] at hq1; cases hq1; exact hcx hq2)), List.append_nil]; exact ha, by (try simp only [List.length_append, List.length_singleton]); omega⟩
 refine RW.exit ?_
 iterate 2 refine thenX ?_
 refine blockHit (thenN (RW.seq (RW.region (RL.ev (v := va) rfl rfl ev_move (RL.ev (v := va) rfl rfl ev_assign (RL.nil (thenN (RW.ret (retI (RV.tmp rfl) ?_)))))))))
 have hi_ : i = n := by omega
 subst hi_
 subst ha
 exact ⟨_, hN.ownOut 0 rfl, lows_good, hal, hN.ext0⟩
end Go.Proofs.YtngkdkbpgoddlaaGreat
set_option linter.unusedVariables false
set_option linter.unusedSimpArgs false
namespace Go.Proofs.YtngkdkbpgoddlaaGreat
open Go.RowKit Go.Rl
open Go.Gr
set_option maxHeartbeats 4000000 in
set_option maxRecDepth 100000 in
theorem tableG_calls (n : Nat) (rv wv : Value) (rk : List Int) (ways : List I5) (sv tv : Value) (ss ts : List Int) (w : World) (hr : Sl vI w rv rk) (hw : Sm i5cells w wv ways) (hH : HOk n rk ways) (hs0 : Sl vI w sv ss) (ht : Sl vI w tv ts) (hn : n ≤ 12) (hss : ∀ x ∈ ss, 0 ≤ x ∧ x < n) (hts : ∀ x ∈ ts, 0 ≤ x ∧ x < n) (hsl : ss.length ≤ 4096) (htl : ts.length ≤ 4096) : Gives Tryz.prog 62 #[.agg #[rv, wv], sv, tv] w fun r w' => ∃ hs ls, Now w none_ w' [.own vh 25 r hs, .fam vI hs ls] ∧ TabOk ss ts ls ∧ ls.length = ss.length := by
 refine Gives.start Tryz.func62 rfl (Nat.le_of_ble_eq_true rfl) ?_
 rw [args3]
 have hN := Now.nil w none_
 refine RW.seq (RW.region ?_)
 refine RL.op rfl rfl (opN_box (cs := [rv, wv]) rfl rfl hN ?_)
 clear hN
 intro g1 w1 (hN : Now w none_ w1 [_])
 refine RL.ev (v := .slice none 0 0) rfl rfl ev_assign (RL.nil (thenN (RW.seq (RW.region (RL.ev (v := .slice none 0 0) rfl rfl ev_assign (RL.nil (thenN ?_)))))))
 iterate 2 refine RW.seq ?_
 replace hN := hN.addNil vh 25
 replace hN := hN.famNil vI
 replace hN : Now w none_ w1 [.fam vI ([]) ([]), .own vh 25 (.slice none 0 0) ([]), .blk g1 [rv, wv] 28] := hN
 refine RW.region (RL.ev (v := .int .i64 (0)) rfl rfl ev_assign (RL.nil (thenN (RW.block ?_))))
 refine RW.loop (fun k R0 w0' => ∃ va : Value, ∃ hs : List Hd, ∃ ls : List (List Int), ∃ i : Nat, R0 1 = sv ∧ R0 2 = tv ∧ R0 3 = .pointer (some ⟨g1, 0, none⟩) ∧ R0 7 = va ∧ R0 8 = .int .i64 ((i : Int)) ∧ Now w none_ w0' [.fam vI (hs) (ls), .own vh 25 (va) (hs), .blk g1 [rv, wv] 28] ∧ (i + k = ss.length) ∧ (ls.length = i) ∧ (hs.length = i) ∧ (TabOk ss ts ls)) (ss.length) ?_ ?_
 exact ⟨.slice none 0 0, [], [], 0, rfl, rfl, rfl, rfl, rfl, hN, by omega, rfl, rfl, TabOk.nil _ _⟩
 clear hN
 rintro k R0 w0' ⟨va, hs, ls, i, hr1_, hr2_, hr3_, hr7_, hr8_, hN, hik, hll, hhl, hT⟩
 have hR_ : ∃ R0_, R0 = (upd (upd (upd (upd (upd R0_ 1 _) 2 _) 3 _) 7 _) 8 _) := ⟨R0, by rw [upd_self hr1_, upd_self hr2_, upd_self hr3_, upd_self hr7_, upd_self hr8_]⟩
 obtain ⟨R0_, rfl⟩ := hR_
 clear hr1_ hr2_ hr3_ hr7_ hr8_
 iterate 2 refine RW.seq ?_
 refine RW.region (RL.ev (v := .int .i64 ((i : Int))) rfl rfl ev_move (RL.ev (v := sv) rfl rfl ev_move ?_))
 have hL_2 := (hs0.o.now hN).len_le
 refine RL.ev rfl rfl (ev_lenS Tryz.underlying25 (hs0.o.now hN) rfl) (RL.ev rfl rfl (ev_lss rfl rfl) (RL.nil (thenN ?_)))
 refine RW.condP _ rfl (fun hlt => ?_) (fun hlt => ?_)
 refine RW.skip (thenN (RW.seq (RW.block ?_)))
 replace hN := hN.ext (Ext.drew w0')
 refine RW.drawR rfl (fun u => Now w none_ u [.fam vI (hs) (ls), .blk g1 [rv, wv] 28]) 11 [(0,0), (1,0), (2,0), (3,0), (4,0), (5,0), (6,0), (7,1), (8,1), (9,1), (10,0)] (by intro _ _ _ h; exact h) (by kernel_rfl) (hN.sub [0, 2] (by decide) rfl) (RQ.ev (v := va) rfl rfl (fun w hS => ev_move) (RQ.ev rfl rfl (fun w hS => (ev_loadAll (cs := [rv, wv]) Tryz.underlying28 rfl sz28 rfl (hS.blk 1 rfl))) (RQ.ev (v := sv) rfl rfl (fun w hS => ev_move) (RQ.ev (v := .int .i64 ((i : Int))) rfl rfl (fun w hS => ev_move) (RQ.ev rfl rfl (fun w hS => (ev_index Tryz.underlying25 sz3 (hs0.o.now hS) rfl rfl (by omega) (by omega))) ?_)))))
 have hOb_ : ∃ a_, (ss)[i]? = some a_ := ⟨_, List.getElem?_eq_getElem (by omega)⟩
 obtain ⟨ap, hap⟩ := hOb_
 refine RQ.ev rfl rfl (fun w hS => (ev_loadG (m := i) (a := ap) Tryz.underlying3 rfl (hs0.o.now hS) rfl hap)) ?_
 have hOb_ := hss ap (List.mem_of_getElem? hap)
 obtain ⟨hap0, hap1⟩ := hOb_
 refine RQ.ev (v := tv) rfl rfl (fun w hS => ev_move) ?_
 refine RQ.do rfl rfl (op_call3 Tryz.func141 rfl rfl rfl rfl rfl ((many_calls n _ _ rk ways _ ts _ (hr.o.now hN) (hw.o.now hN) hH (ht.o.now hN) ap hn hap0 hap1 hts htl).mono ?_))
 rintro v3 w3 ⟨out3, ho_, hl3, hb3, hz3, he_⟩
 replace hN : Now w none_ w3 [_, _, _, _] := hN.pushOwn ho_ he_
 clear ho_ he_
 refine ⟨(hN.sub [1, 3] (by decide) rfl), ?_⟩
 have hOb_ := (hN.sl 0 rfl).hd
 obtain ⟨h5, hq_⟩ := hOb_
 subst hq_
 refine RQ.do rfl rfl (opN_lit (enc := vh) (l := [h5]) (xs := [.tmp 22]) Tryz.underlying29 sz25 zr25 rfl rfl (fun _ => rfl) rfl (by decide) (by decide) hN ?_)
 clear hN
 intro g4 w4 (hN : Now w none_ w4 [_, _, _, _, _])
 refine ⟨(hN.sub [2, 4] (by decide) rfl), ?_⟩
 refine RQ.do rfl rfl (opN_append Tryz.underlying29 inf25 rfl vh_one hN 3 rfl rfl (hN.sl 0 rfl) rfl (by (try simp only [List.length_append, List.length_singleton, List.length_cons, List.length_nil]); omega) (by decide) ?_)
 clear hN
 intro v6 w6 (hN : Now w none_ w6 [_, _, _, _, _])
 refine ⟨(hN.sub [2, 4] (by decide) rfl), ?_⟩
 refine RQ.ev (v := v6) rfl rfl (fun w hS => ev_assign) (RQ.done (by kernel_rfl) (blockN (thenN (RW.region (RL.ev (v := .int .i64 ((i : Int))) rfl rfl ev_move (RL.ev rfl rfl (ev_arith rfl rfl rfl (add64 (by omega) (by omega))) (RL.ev (v := .int .i64 ((i : Int) + 1)) rfl rfl ev_assign (RL.nil (thenN ?_)))))))))
 replace hN : Now w none_ w6 [_, _, _, _] := Now.famPush (L := [_, _, _, _]) (hN.sub [1, 0, 2, 3, 4] (by decide) rfl) 1 rfl
 replace hN : Now w none_ w6 [.own vh 25 (.slice (some ⟨g4, 0, none⟩) 1 1) ([h5]), .fam vI (hs ++ [h5]) (ls ++ [out3]), .own vh 25 (v6) (hs ++ [h5]), .blk g1 [rv, wv] 28] := hN
 exact ⟨k - 1, by omega, v6, hs ++ [h5], ls ++ [out3], i + 1, rfl, rfl, rfl, rfl, rfl, (hN.sub [1, 2, 3] (by decide) rfl), by omega, by rw [List.length_append, hll]; rfl, by rw [List.length_append, hhl]; rfl, hT.snoc (by rw [hll]; exact hap) hl3 hb3 hz3⟩
 refine RW.exit ?_
 iterate 2 refine thenX ?_
 refine blockHit (thenN (RW.seq (RW.region (RL.ev (v := va) rfl rfl ev_move (RL.ev (v := va) rfl rfl ev_assign (RL.nil (thenN (RW.ret (retI (RV.tmp rfl) ?_)))))))))
 exact ⟨hs, ls, hN.sub [1, 0] (by decide) rfl, hT, by omega⟩
end Go.Proofs.YtngkdkbpgoddlaaGreat
set_option linter.unusedVariables false
set_option linter.unusedSimpArgs false
namespace Go.Proofs.YtngkdkbpgoddlaaGreat
open Go.RowKit Go.Rl
open Go.Gr
set_option maxHeartbeats 4000000 in
set_option maxRecDepth 100000 in
theorem tab_calls (n : Nat) (rv wv : Value) (rk : List Int) (ways : List I5) (w : World) (hr : Sl vI w rv rk) (hw : Sm i5cells w wv ways) (hH : HOk n rk ways) (kk : Int) (hn : n ≤ 12) : Gives Tryz.prog 26 #[.agg #[rv, wv], .int .i64 kk] w fun r w' => ∃ gv fv ov iv sov siv hsf far hso outs hsi inss hsso so hssi si, r = .agg #[gv, fv, ov, iv, sov, siv] ∧ Now w none_ w' [.own vI 3 gv (greatOf rk (lowOf (rk.length : Int) kk) rk.length), .own vh 25 fv hsf, .fam vI hsf far, .own vh 118 ov hso, .famm i2cells hso outs, .own vh 118 iv hsi, .famm i2cells hsi inss, .own vh 25 sov hsso, .fam vI hsso so, .own vh 25 siv hssi, .fam vI hssi si] ∧ GoodTab n rk (lowOf (rk.length : Int) kk) (greatOf rk (lowOf (rk.length : Int) kk) rk.length) far outs inss so si := by
 refine Gives.start Tryz.func26 rfl (Nat.le_of_ble_eq_true rfl) ?_
 rw [args2]
 have hN := Now.nil w none_
 have hln := hH.len
 have hts : ∀ x ∈ (greatOf rk (lowOf (rk.length : Int) kk) rk.length), 0 ≤ x ∧ x < n := fun x hx => by have h := mem_greatOf hx; exact ⟨h.1, by omega⟩
 have htl : (greatOf rk (lowOf (rk.length : Int) kk) rk.length).length ≤ 4096 := by have : (greatOf rk (lowOf (rk.length : Int) kk) rk.length).length ≤ rk.length := filter_range_len _ _; omega
 refine RW.seq (RW.region ?_)
 refine RL.op rfl rfl (opN_box (cs := [rv, wv]) rfl rfl hN ?_)
 clear hN
 intro g1 w1 (hN : Now w none_ w1 [_])
 refine RL.op rfl rfl (opN_alloc (cs := [.slice none 0 0, .slice none 0 0, .slice none 0 0, .slice none 0 0, .slice none 0 0, .slice none 0 0]) zero32 rfl hN ?_)
 clear hN
 intro g2 w2 (hN : Now w none_ w2 [_, _])
 refine RL.nil (thenN (RW.seq (RW.region (RL.ev rfl rfl (ev_loadAll (cs := [rv, wv]) Tryz.underlying28 rfl sz28 rfl (hN.blk 1 rfl)) (RL.ev (v := .int .i64 (kk)) rfl rfl ev_move ?_)))))
 refine RL.op rfl rfl (op_call2 Tryz.func61 rfl rfl rfl rfl ((great_calls n _ _ rk ways _ (hr.o.now hN) (hw.o.now hN) hH kk hn).mono ?_))
 rintro v3 w3 ⟨ho_, he_⟩
 replace hN : Now w none_ w3 [_, _, _] := hN.pushOwn (l := (greatOf rk (lowOf (rk.length : Int) kk) rk.length)) ho_ he_
 clear ho_ he_
 refine RL.ev (v := v3) rfl rfl ev_assign (RL.nil (thenN (RW.seq (RW.region (RL.ev (v := v3) rfl rfl ev_move (RL.ev rfl rfl (ev_loadAll (cs := [rv, wv]) Tryz.underlying28 rfl sz28 rfl (hN.blk 2 rfl)) ?_))))))
 iterate 2 refine RL.ev (v := v3) rfl rfl ev_move ?_
 refine RL.op rfl rfl (op_call3 Tryz.func62 rfl rfl rfl rfl rfl ((tableG_calls n _ _ rk ways _ _ ((greatOf rk (lowOf (rk.length : Int) kk) rk.length)) ((greatOf rk (lowOf (rk.length : Int) kk) rk.length)) _ (hr.o.now hN) (hw.o.now hN) hH (hN.sl 0 rfl) (hN.sl 0 rfl) hn hts hts htl htl).mono ?_))
 rintro v4 w4 ⟨hs4, ls4, hC_, hT4, hTl4⟩
 replace hN : Now w none_ w4 [_, _, _, _, _] := hN.call0 hC_
 clear hC_
 refine RL.ev rfl rfl (ev_buildL (cs := [v3, v4, .slice none 0 0, .slice none 0 0, .slice none 0 0, .slice none 0 0]) Tryz.underlying32 zero32 (places := #[(0, 1), (1, 1), (2, 1), (3, 1), (4, 1), (5, 1)]) (by intro w; kernel_rfl) (pl := [(0, .tmp 11), (1, .tmp 15)]) rfl (ps := [(0, v3), (1, v4)]) rfl (zc := [.slice none 0 0, .slice none 0 0, .slice none 0 0, .slice none 0 0, .slice none 0 0, .slice none 0 0]) rfl (fill_step (vs := [v3]) (hN.sl 2 rfl).cells1 rfl (Nat.le_of_ble_eq_true rfl) (fill_step (vs := [v4]) (hN.sl 0 rfl).cells1 rfl (Nat.le_of_ble_eq_true rfl) rfl))) ?_
 refine RL.op rfl rfl (opN_alloc (cs := [.slice none 0 0, .slice none 0 0, .slice none 0 0, .slice none 0 0, .slice none 0 0, .slice none 0 0]) zero32 rfl hN ?_)
 clear hN
 intro g5 w5 (hN : Now w none_ w5 [_, _, _, _, _, _])
 refine RL.op rfl rfl (opN_storeAll (vs := [v3, v4, .slice none 0 0, .slice none 0 0, .slice none 0 0, .slice none 0 0]) sz32 rfl rfl rfl (by intro u hu; simp only [List.mem_cons, List.not_mem_nil, or_false] at hu; rcases hu with rfl | rfl | rfl | rfl | rfl | rfl <;> first | rfl | exact (hN.sl 1 rfl).one1 | exact (hN.sl 3 rfl).one1) hN 0 rfl rfl ?_)
 clear hN
 intro w6 (hN : Now w none_ w6 [_, _, _, _, _, _])
 refine RL.nil (thenN ?_)
 iterate 2 refine RW.seq ?_
 replace hN := hN.addNil vh 118
 replace hN := hN.fammNil i2cells
 replace hN := hN.addNil vh 118
 replace hN := hN.fammNil i2cells
 replace hN := hN.addNil vh 25
 replace hN := hN.famNil vI
 replace hN := hN.addNil vh 25
 replace hN := hN.famNil vI
 replace hN : Now w none_ w6 [.fam vI ([]) ([]), .own vh 25 (.slice none 0 0) ([]), .fam vI ([]) ([]), .own vh 25 (.slice none 0 0) ([]), .famm i2cells ([]) ([]), .own vh 118 (.slice none 0 0) ([]), .famm i2cells ([]) ([]), .own vh 118 (.slice none 0 0) ([]), .blk g5 [v3, v4, .slice none 0 0, .slice none 0 0, .slice none 0 0, .slice none 0 0] 32, .own vh 25 (v4) (hs4), .fam vI (hs4) (ls4), .own vI 3 (v3) ((greatOf rk (lowOf (rk.length : Int) kk) rk.length)), .blk g2 [.slice none 0 0, .slice none 0 0, .slice none 0 0, .slice none 0 0, .slice none 0 0, .slice none 0 0] 32, .blk g1 [rv, wv] 28] := hN
 refine RW.region (RL.ev (v := .int .i64 (0)) rfl rfl ev_assign (RL.nil (thenN (RW.block ?_))))
 refine RW.loop (fun k R0 w0' => ∃ va3 : Value, ∃ hq3 : List Hd, ∃ outs : List (List I2), ∃ va4 : Value, ∃ hq4 : List Hd, ∃ inss : List (List I2), ∃ va5 : Value, ∃ hq5 : List Hd, ∃ so : List (List Int), ∃ va6 : Value, ∃ hq6 : List Hd, ∃ si : List (List Int), ∃ i : Nat, R0 1 = .int .i64 (kk) ∧ R0 2 = .pointer (some ⟨g1, 0, none⟩) ∧ R0 4 = .pointer (some ⟨g2, 0, none⟩) ∧ R0 6 = .pointer (some ⟨g5, 0, none⟩) ∧ R0 7 = .int .i64 ((i : Int)) ∧ Now w none_ w0' [.fam vI (hq6) (si), .own vh 25 (va6) (hq6), .fam vI (hq5) (so), .own vh 25 (va5) (hq5), .famm i2cells (hq4) (inss), .own vh 118 (va4) (hq4), .famm i2cells (hq3) (outs), .own vh 118 (va3) (hq3), .blk g5 [v3, v4, va3, va4, va5, va6] 32, .own vh 25 (v4) (hs4), .fam vI (hs4) (ls4), .own vI 3 (v3) ((greatOf rk (lowOf (rk.length : Int) kk) rk.length)), .blk g2 [.slice none 0 0, .slice none 0 0, .slice none 0 0, .slice none 0 0, .slice none 0 0, .slice none 0 0] 32, .blk g1 [rv, wv] 28] ∧ (i + k = rk.length) ∧ (outs.length = i) ∧ (hq3.length = i) ∧ (∀ r ∈ outs, GoodRow n rk (lowOf (rk.length : Int) kk) r ∧ r.length ≤ n) ∧ (inss.length = i) ∧ (hq4.length = i) ∧ (∀ r ∈ inss, GoodRow n rk (lowOf (rk.length : Int) kk) r ∧ r.length ≤ n) ∧ (so.length = i) ∧ (hq5.length = i) ∧ (∀ r ∈ so, GoodSub n rk (lowOf (rk.length : Int) kk) r ∧ r.length ≤ n) ∧ (si.length = i) ∧ (hq6.length = i) ∧ (∀ r ∈ si, GoodSub n rk (lowOf (rk.length : Int) kk) r ∧ r.length ≤ n)) (rk.length) ?_ ?_
 exact ⟨.slice none 0 0, [], [], .slice none 0 0, [], [], .slice none 0 0, [], [], .slice none 0 0, [], [], 0, rfl, rfl, rfl, rfl, rfl, hN, by omega, rfl, rfl, (fun r hr => absurd hr List.not_mem_nil), rfl, rfl, (fun r hr => absurd hr List.not_mem_nil), rfl, rfl, (fun r hr => absurd hr List.not_mem_nil), rfl, rfl, (fun r hr => absurd hr List.not_mem_nil)⟩
 clear hN
 rintro k R0 w0' ⟨va3, hq3, outs, va4, hq4, inss, va5, hq5, so, va6, hq6, si, i, hr1_, hr2_, hr4_, hr6_, hr7_, hN, hik, hl3, hh3, hg3, hl4, hh4, hg4, hl5, hh5, hg5, hl6, hh6, hg6⟩
 have hR_ : ∃ R0_, R0 = (upd (upd (upd (upd (upd R0_ 1 _) 2 _) 4 _) 6 _) 7 _) := ⟨R0, by rw [upd_self hr1_, upd_self hr2_, upd_self hr4_, upd_self hr6_, upd_self hr7_]⟩
 obtain ⟨R0_, rfl⟩ := hR_
 clear hr1_ hr2_ hr4_ hr6_ hr7_
 iterate 2 refine RW.seq ?_
 refine RW.region (RL.ev (v := .int .i64 ((i : Int))) rfl rfl ev_move (RL.ev rfl rfl (ev_fieldAddr Tryz.underlying28 rfl sz25 (by decide) rfl) (RL.ev rfl rfl (ev_loadB Tryz.underlying25 rfl rfl (hN.blk 13 rfl) rfl) ?_)))
 have hL_7 := (hr.o.now hN).len_le
 refine RL.ev rfl rfl (ev_lenS Tryz.underlying25 (hr.o.now hN) rfl) (RL.ev rfl rfl (ev_lss rfl rfl) (RL.nil (thenN ?_)))
 refine RW.condP _ rfl (fun hlt => ?_) (fun hlt => ?_)
 refine RW.skip (thenN (RW.seq (RW.block (RW.seq ?_))))
 have hv0 : 0 ≤ (i : Int) := by omega
 have hv1 : (i : Int) < n := by omega
 replace hN := hN.ext (Ext.drew w0')
 refine RW.drawR rfl (fun u => Now w none_ u [.fam vI (hq6) (si), .own vh 25 (va6) (hq6), .fam vI (hq5) (so), .own vh 25 (va5) (hq5), .famm i2cells (hq4) (inss), .own vh 118 (va4) (hq4), .famm i2cells (hq3) (outs), .blk g5 [v3, v4, va3, va4, va5, va6] 32, .own vh 25 (v4) (hs4), .fam vI (hs4) (ls4), .own vI 3 (v3) ((greatOf rk (lowOf (rk.length : Int) kk) rk.length)), .blk g2 [.slice none 0 0, .slice none 0 0, .slice none 0 0, .slice none 0 0, .slice none 0 0, .slice none 0 0] 32, .blk g1 [rv, wv] 28]) 9 [(0,0), (1,0), (2,0), (3,0), (4,0), (5,1), (6,1), (7,1), (8,0), (9,2)] (by intro _ _ _ h; exact h) (by kernel_rfl) (hN.sub [0, 1, 2, 3, 4, 5, 6, 8, 9, 10, 11, 12, 13] (by decide) rfl) (RQ.ev rfl rfl (fun w hS => (ev_fieldAddr Tryz.underlying32 rfl sz30 (by decide) rfl)) (RQ.ev rfl rfl (fun w hS => (ev_loadB Tryz.underlying30 rfl rfl (hS.blk 7 rfl) rfl)) (RQ.ev rfl rfl (fun w hS => (ev_loadAll (cs := [rv, wv]) Tryz.underlying28 rfl sz28 rfl (hS.blk 12 rfl))) (RQ.ev (v := .int .i64 ((i : Int))) rfl rfl (fun w hS => ev_move) (RQ.ev (v := .int .i64 (kk)) rfl rfl (fun w hS => ev_move) ?_)))))
 refine RQ.do rfl rfl (op_call4 Tryz.func63 rfl rfl rfl rfl rfl rfl ((gof_calls n _ _ rk ways _ (hr.o.now hN) (hw.o.now hN) hH (i : Int) kk false hn hv0 hv1).mono ?_))
 rintro v8 w8 ⟨out8, ho_, hG8, hl8, he_⟩
 replace hN : Now w none_ w8 [_, _, _, _, _, _, _, _, _, _, _, _, _, _, _] := hN.pushOwnM ho_ he_
 clear ho_ he_
 refine ⟨(hN.sub [1, 2, 3, 4, 5, 6, 7, 9, 10, 11, 12, 13, 14] (by decide) rfl), ?_⟩
 have hOb_ := (hN.sm 0 rfl).hd
 obtain ⟨h10, hq_⟩ := hOb_
 subst hq_
 refine RQ.do rfl rfl (opN_lit (enc := vh) (l := [h10]) (xs := [.tmp 29]) Tryz.underlying30 sz118 zr118 rfl rfl (fun _ => rfl) rfl (by decide) (by decide) hN ?_)
 clear hN
 intro g9 w9 (hN : Now w none_ w9 [_, _, _, _, _, _, _, _, _, _, _, _, _, _, _, _])
 refine ⟨(hN.sub [2, 3, 4, 5, 6, 7, 8, 10, 11, 12, 13, 14, 15] (by decide) rfl), ?_⟩
 refine RQ.do rfl rfl (opN_append Tryz.underlying30 inf118 rfl vh_one hN 9 rfl rfl (hN.sl 0 rfl) rfl (by (try simp only [List.length_append, List.length_singleton, List.length_cons, List.length_nil]); omega) (by decide) ?_)
 clear hN
 intro v11 w11 (hN : Now w none_ w11 [_, _, _, _, _, _, _, _, _, _, _, _, _, _, _, _])
 refine ⟨(hN.sub [2, 3, 4, 5, 6, 7, 8, 10, 11, 12, 13, 14, 15] (by decide) rfl), ?_⟩
 refine RQ.ev rfl rfl (fun w hS => (ev_fieldAddr Tryz.underlying32 rfl sz30 (by decide) rfl)) ?_
 refine RQ.last rfl rfl (opN_store sz30 rfl rfl (hN.sl 9 rfl).cells1 (hN.sl 9 rfl).one1 hN 10 rfl (Nat.le_of_ble_eq_true rfl) ?_)
 clear hN
 intro w12 (hN : Now w none_ w12 [_, _, _, _, _, _, _, _, _, _, _, _, _, _, _, _])
 replace hN : Now w none_ w12 [_, _, _, _, _, _, _, _, _, _, _, _, _, _, _] := Now.fammPush (L := [_, _, _, _, _, _, _, _, _, _, _, _, _, _, _]) (hN.sub [1, 0, 2, 3, 4, 5, 6, 7, 8, 9, 10, 11, 12, 13, 14, 15] (by decide) rfl) 7 rfl
 replace hN : Now w none_ w12 [.own vh 118 (.slice (some ⟨g9, 0, none⟩) 1 1) ([h10]), .fam vI (hq6) (si), .own vh 25 (va6) (hq6), .fam vI (hq5) (so), .own vh 25 (va5) (hq5), .famm i2cells (hq4) (inss), .own vh 118 (va4) (hq4), .famm i2cells (hq3 ++ [h10]) (outs ++ [out8]), .own vh 118 (v11) (hq3 ++ [h10]), .blk g5 [v3, v4, v11, va4, va5, va6] 32, .own vh 25 (v4) (hs4), .fam vI (hs4) (ls4), .own vI 3 (v3) ((greatOf rk (lowOf (rk.length : Int) kk) rk.length)), .blk g2 [.slice none 0 0, .slice none 0 0, .slice none 0 0, .slice none 0 0, .slice none 0 0, .slice none 0 0] 32, .blk g1 [rv, wv] 28] := hN
 refine RZ.done (by kernel_rfl) (thenN (RW.seq ?_))
 replace hN := hN.ext (Ext.drew w12)
 refine RW.drawR rfl (fun u => Now w none_ u [.own vh 118 (.slice (some ⟨g9, 0, none⟩) 1 1) ([h10]), .fam vI (hq6) (si), .own vh 25 (va6) (hq6), .fam vI (hq5) (so), .own vh 25 (va5) (hq5), .famm i2cells (hq4) (inss), .famm i2cells (hq3 ++ [h10]) (outs ++ [out8]), .own vh 118 (v11) (hq3 ++ [h10]), .blk g5 [v3, v4, v11, va4, va5, va6] 32, .own vh 25 (v4) (hs4), .fam vI (hs4) (ls4), .own vI 3 (v3) ((greatOf rk (lowOf (rk.length : Int) kk) rk.length)), .blk g2 [.slice none 0 0, .slice none 0 0, .slice none 0 0, .slice none 0 0, .slice none 0 0, .slice none 0 0] 32, .blk g1 [rv, wv] 28]) 9 [(0,0), (1,0), (2,0), (3,0), (4,0), (5,1), (6,1), (7,1), (8,0), (9,2)] (by intro _ _ _ h; exact h) (by kernel_rfl) (hN.sub [0, 1, 2, 3, 4, 5, 7, 8, 9, 10, 11, 12, 13, 14] (by decide) rfl) (RQ.ev rfl rfl (fun w hS => (ev_fieldAddr Tryz.underlying32 rfl sz30 (by decide) rfl)) (RQ.ev rfl rfl (fun w hS => (ev_loadB Tryz.underlying30 rfl rfl (hS.blk 8 rfl) rfl)) (RQ.ev rfl rfl (fun w hS => (ev_loadAll (cs := [rv, wv]) Tryz.underlying28 rfl sz28 rfl (hS.blk 13 rfl))) (RQ.ev (v := .int .i64 ((i : Int))) rfl rfl (fun w hS => ev_move) (RQ.ev (v := .int .i64 (kk)) rfl rfl (fun w hS => ev_move) ?_)))))
 refine RQ.do rfl rfl (op_call4 Tryz.func63 rfl rfl rfl rfl rfl rfl ((gof_calls n _ _ rk ways _ (hr.o.now hN) (hw.o.now hN) hH (i : Int) kk true hn hv0 hv1).mono ?_))
 rintro v13 w13 ⟨out13, ho_, hG13, hl13, he_⟩
 replace hN : Now w none_ w13 [_, _, _, _, _, _, _, _, _, _, _, _, _, _, _, _] := hN.pushOwnM ho_ he_
 clear ho_ he_
 refine ⟨(hN.sub [1, 2, 3, 4, 5, 6, 8, 9, 10, 11, 12, 13, 14, 15] (by decide) rfl), ?_⟩
 have hOb_ := (hN.sm 0 rfl).hd
 obtain ⟨h15, hq_⟩ := hOb_
 subst hq_
 refine RQ.do rfl rfl (opN_lit (enc := vh) (l := [h15]) (xs := [.tmp 38]) Tryz.underlying30 sz118 zr118 rfl rfl (fun _ => rfl) rfl (by decide) (by decide) hN ?_)
 clear hN
 intro g14 w14 (hN : Now w none_ w14 [_, _, _, _, _, _, _, _, _, _, _, _, _, _, _, _, _])
 refine ⟨(hN.sub [2, 3, 4, 5, 6, 7, 9, 10, 11, 12, 13, 14, 15, 16] (by decide) rfl), ?_⟩
 refine RQ.do rfl rfl (opN_append Tryz.underlying30 inf118 rfl vh_one hN 8 rfl rfl (hN.sl 0 rfl) rfl (by (try simp only [List.length_append, List.length_singleton, List.length_cons, List.length_nil]); omega) (by decide) ?_)
 clear hN
 intro v16 w16 (hN : Now w none_ w16 [_, _, _, _, _, _, _, _, _, _, _, _, _, _, _, _, _])
 refine ⟨(hN.sub [2, 3, 4, 5, 6, 7, 9, 10, 11, 12, 13, 14, 15, 16] (by decide) rfl), ?_⟩
 refine RQ.ev rfl rfl (fun w hS => (ev_fieldAddr Tryz.underlying32 rfl sz30 (by decide) rfl)) ?_
 refine RQ.last rfl rfl (opN_store sz30 rfl rfl (hN.sl 8 rfl).cells1 (hN.sl 8 rfl).one1 hN 11 rfl (Nat.le_of_ble_eq_true rfl) ?_)
 clear hN
 intro w17 (hN : Now w none_ w17 [_, _, _, _, _, _, _, _, _, _, _, _, _, _, _, _, _])
 replace hN : Now w none_ w17 [_, _, _, _, _, _, _, _, _, _, _, _, _, _, _, _] := Now.fammPush (L := [_, _, _, _, _, _, _, _, _, _, _, _, _, _, _, _]) (hN.sub [1, 0, 2, 3, 4, 5, 6, 7, 8, 9, 10, 11, 12, 13, 14, 15, 16] (by decide) rfl) 6 rfl
 replace hN : Now w none_ w17 [.own vh 118 (.slice (some ⟨g14, 0, none⟩) 1 1) ([h15]), .own vh 118 (.slice (some ⟨g9, 0, none⟩) 1 1) ([h10]), .fam vI (hq6) (si), .own vh 25 (va6) (hq6), .fam vI (hq5) (so), .own vh 25 (va5) (hq5), .famm i2cells (hq4 ++ [h15]) (inss ++ [out13]), .own vh 118 (v16) (hq4 ++ [h15]), .famm i2cells (hq3 ++ [h10]) (outs ++ [out8]), .own vh 118 (v11) (hq3 ++ [h10]), .blk g5 [v3, v4, v11, v16, va5, va6] 32, .own vh 25 (v4) (hs4), .fam vI (hs4) (ls4), .own vI 3 (v3) ((greatOf rk (lowOf (rk.length : Int) kk) rk.length)), .blk g2 [.slice none 0 0, .slice none 0 0, .slice none 0 0, .slice none 0 0, .slice none 0 0, .slice none 0 0] 32, .blk g1 [rv, wv] 28] := hN
 refine RZ.done (by kernel_rfl) (thenN (RW.seq ?_))
 replace hN := hN.ext (Ext.drew w17)
 refine RW.drawR rfl (fun u => Now w none_ u [.own vh 118 (.slice (some ⟨g14, 0, none⟩) 1 1) ([h15]), .own vh 118 (.slice (some ⟨g9, 0, none⟩) 1 1) ([h10]), .fam vI (hq6) (si), .own vh 25 (va6) (hq6), .fam vI (hq5) (so), .famm i2cells (hq4 ++ [h15]) (inss ++ [out13]), .own vh 118 (v16) (hq4 ++ [h15]), .famm i2cells (hq3 ++ [h10]) (outs ++ [out8]), .own vh 118 (v11) (hq3 ++ [h10]), .blk g5 [v3, v4, v11, v16, va5, va6] 32, .own vh 25 (v4) (hs4), .fam vI (hs4) (ls4), .own vI 3 (v3) ((greatOf rk (lowOf (rk.length : Int) kk) rk.length)), .blk g2 [.slice none 0 0, .slice none 0 0, .slice none 0 0, .slice none 0 0, .slice none 0 0, .slice none 0 0] 32, .blk g1 [rv, wv] 28]) 9 [(0,0), (1,0), (2,0), (3,0), (4,0), (5,1), (6,1), (7,1), (8,0), (9,2)] (by intro _ _ _ h; exact h) (by kernel_rfl) (hN.sub [0, 1, 2, 3, 4, 6, 7, 8, 9, 10, 11, 12, 13, 14, 15] (by decide) rfl) (RQ.ev rfl rfl (fun w hS => (ev_fieldAddr Tryz.underlying32 rfl sz29 (by decide) rfl)) (RQ.ev rfl rfl (fun w hS => (ev_loadB Tryz.underlying29 rfl rfl (hS.blk 9 rfl) rfl)) (RQ.ev rfl rfl (fun w hS => (ev_loadAll (cs := [rv, wv]) Tryz.underlying28 rfl sz28 rfl (hS.blk 14 rfl))) (RQ.ev (v := .int .i64 ((i : Int))) rfl rfl (fun w hS => ev_move) (RQ.ev (v := .int .i64 (kk)) rfl rfl (fun w hS => ev_move) ?_)))))
 refine RQ.do rfl rfl (op_call4 Tryz.func64 rfl rfl rfl rfl rfl rfl ((sub_calls n _ _ rk ways _ (hr.o.now hN) (hw.o.now hN) hH (i : Int) kk false hn hv0 hv1).mono ?_))
 rintro v18 w18 ⟨out18, ho_, hG18, hl18, he_⟩
 replace hN : Now w none_ w18 [_, _, _, _, _, _, _, _, _, _, _, _, _, _, _, _, _] := hN.pushOwn ho_ he_
 clear ho_ he_
 refine ⟨(hN.sub [1, 2, 3, 4, 5, 7, 8, 9, 10, 11, 12, 13, 14, 15, 16] (by decide) rfl), ?_⟩
 have hOb_ := (hN.sl 0 rfl).hd
 obtain ⟨h20, hq_⟩ := hOb_
 subst hq_
 refine RQ.do rfl rfl (opN_lit (enc := vh) (l := [h20]) (xs := [.tmp 47]) Tryz.underlying29 sz25 zr25 rfl rfl (fun _ => rfl) rfl (by decide) (by decide) hN ?_)
 clear hN
 intro g19 w19 (hN : Now w none_ w19 [_, _, _, _, _, _, _, _, _, _, _, _, _, _, _, _, _, _])
 refine ⟨(hN.sub [2, 3, 4, 5, 6, 8, 9, 10, 11, 12, 13, 14, 15, 16, 17] (by decide) rfl), ?_⟩
 refine RQ.do rfl rfl (opN_append Tryz.underlying29 inf25 rfl vh_one hN 7 rfl rfl (hN.sl 0 rfl) rfl (by (try simp only [List.length_append, List.length_singleton, List.length_cons, List.length_nil]); omega) (by decide) ?_)
 clear hN
 intro v21 w21 (hN : Now w none_ w21 [_, _, _, _, _, _, _, _, _, _, _, _, _, _, _, _, _, _])
 refine ⟨(hN.sub [2, 3, 4, 5, 6, 8, 9, 10, 11, 12, 13, 14, 15, 16, 17] (by decide) rfl), ?_⟩
 refine RQ.ev rfl rfl (fun w hS => (ev_fieldAddr Tryz.underlying32 rfl sz29 (by decide) rfl)) ?_
 refine RQ.last rfl rfl (opN_store sz29 rfl rfl (hN.sl 7 rfl).cells1 (hN.sl 7 rfl).one1 hN 12 rfl (Nat.le_of_ble_eq_true rfl) ?_)
 clear hN
 intro w22 (hN : Now w none_ w22 [_, _, _, _, _, _, _, _, _, _, _, _, _, _, _, _, _, _])
 replace hN : Now w none_ w22 [_, _, _, _, _, _, _, _, _, _, _, _, _, _, _, _, _] := Now.famPush (L := [_, _, _, _, _, _, _, _, _, _, _, _, _, _, _, _, _]) (hN.sub [1, 0, 2, 3, 4, 5, 6, 7, 8, 9, 10, 11, 12, 13, 14, 15, 16, 17] (by decide) rfl) 5 rfl
 replace hN : Now w none_ w22 [.own vh 25 (.slice (some ⟨g19, 0, none⟩) 1 1) ([h20]), .own vh 118 (.slice (some ⟨g14, 0, none⟩) 1 1) ([h15]), .own vh 118 (.slice (some ⟨g9, 0, none⟩) 1 1) ([h10]), .fam vI (hq6) (si), .own vh 25 (va6) (hq6), .fam vI (hq5 ++ [h20]) (so ++ [out18]), .own vh 25 (v21) (hq5 ++ [h20]), .famm i2cells (hq4 ++ [h15]) (inss ++ [out13]), .own vh 118 (v16) (hq4 ++ [h15]), .famm i2cells (hq3 ++ [h10]) (outs ++ [out8]), .own vh 118 (v11) (hq3 ++ [h10]), .blk g5 [v3, v4, v11, v16, v21, va6] 32, .own vh 25 (v4) (hs4), .fam vI (hs4) (ls4), .own vI 3 (v3) ((greatOf rk (lowOf (rk.length : Int) kk) rk.length)), .blk g2 [.slice none 0 0, .slice none 0 0, .slice none 0 0, .slice none 0 0, .slice none 0 0, .slice none 0 0] 32, .blk g1 [rv, wv] 28] := hN
 refine RZ.done (by kernel_rfl) (thenN ?_)
 replace hN := hN.ext (Ext.drew w22)
 refine RW.drawR rfl (fun u => Now w none_ u [.own vh 25 (.slice (some ⟨g19, 0, none⟩) 1 1) ([h20]), .own vh 118 (.slice (some ⟨g14, 0, none⟩) 1 1) ([h15]), .own vh 118 (.slice (some ⟨g9, 0, none⟩) 1 1) ([h10]), .fam vI (hq6) (si), .fam vI (hq5 ++ [h20]) (so ++ [out18]), .own vh 25 (v21) (hq5 ++ [h20]), .famm i2cells (hq4 ++ [h15]) (inss ++ [out13]), .own vh 118 (v16) (hq4 ++ [h15]), .famm i2cells (hq3 ++ [h10]) (outs ++ [out8]), .own vh 118 (v11) (hq3 ++ [h10]), .blk g5 [v3, v4, v11, v16, v21, va6] 32, .own vh 25 (v4) (hs4), .fam vI (hs4) (ls4), .own vI 3 (v3) ((greatOf rk (lowOf (rk.length : Int) kk) rk.length)), .blk g2 [.slice none 0 0, .slice none 0 0, .slice none 0 0, .slice none 0 0, .slice none 0 0, .slice none 0 0] 32, .blk g1 [rv, wv] 28]) 9 [(0,0), (1,0), (2,0), (3,0), (4,0), (5,1), (6,1), (7,1), (8,0), (9,2)] (by intro _ _ _ h; exact h) (by kernel_rfl) (hN.sub [0, 1, 2, 3, 5, 6, 7, 8, 9, 10, 11, 12, 13, 14, 15, 16] (by decide) rfl) (RQ.ev rfl rfl (fun w hS => (ev_fieldAddr Tryz.underlying32 rfl sz29 (by decide) rfl)) (RQ.ev rfl rfl (fun w hS => (ev_loadB Tryz.underlying29 rfl rfl (hS.blk 10 rfl) rfl)) (RQ.ev rfl rfl (fun w hS => (ev_loadAll (cs := [rv, wv]) Tryz.underlying28 rfl sz28 rfl (hS.blk 15 rfl))) (RQ.ev (v := .int .i64 ((i : Int))) rfl rfl (fun w hS => ev_move) (RQ.ev (v := .int .i64 (kk)) rfl rfl (fun w hS => ev_move) ?_)))))
 refine RQ.do rfl rfl (op_call4 Tryz.func64 rfl rfl rfl rfl rfl rfl ((sub_calls n _ _ rk ways _ (hr.o.now hN) (hw.o.now hN) hH (i : Int) kk true hn hv0 hv1).mono ?_))
 rintro v23 w23 ⟨out23, ho_, hG23, hl23, he_⟩
 replace hN : Now w none_ w23 [_, _, _, _, _, _, _, _, _, _, _, _, _, _, _, _, _, _] := hN.pushOwn ho_ he_
 clear ho_ he_
 refine ⟨(hN.sub [1, 2, 3, 4, 6, 7, 8, 9, 10, 11, 12, 13, 14, 15, 16, 17] (by decide) rfl), ?_⟩
 have hOb_ := (hN.sl 0 rfl).hd
 obtain ⟨h25, hq_⟩ := hOb_
 subst hq_
 refine RQ.do rfl rfl (opN_lit (enc := vh) (l := [h25]) (xs := [.tmp 56]) Tryz.underlying29 sz25 zr25 rfl rfl (fun _ => rfl) rfl (by decide) (by decide) hN ?_)
 clear hN
 intro g24 w24 (hN : Now w none_ w24 [_, _, _, _, _, _, _, _, _, _, _, _, _, _, _, _, _, _, _])
 refine ⟨(hN.sub [2, 3, 4, 5, 7, 8, 9, 10, 11, 12, 13, 14, 15, 16, 17, 18] (by decide) rfl), ?_⟩
 refine RQ.do rfl rfl (opN_append Tryz.underlying29 inf25 rfl vh_one hN 6 rfl rfl (hN.sl 0 rfl) rfl (by (try simp only [List.length_append, List.length_singleton, List.length_cons, List.length_nil]); omega) (by decide) ?_)
 clear hN
 intro v26 w26 (hN : Now w none_ w26 [_, _, _, _, _, _, _, _, _, _, _, _, _, _, _, _, _, _, _])
 refine ⟨(hN.sub [2, 3, 4, 5, 7, 8, 9, 10, 11, 12, 13, 14, 15, 16, 17, 18] (by decide) rfl), ?_⟩
 refine RQ.ev rfl rfl (fun w hS => (ev_fieldAddr Tryz.underlying32 rfl sz29 (by decide) rfl)) ?_
 refine RQ.last rfl rfl (opN_store sz29 rfl rfl (hN.sl 6 rfl).cells1 (hN.sl 6 rfl).one1 hN 13 rfl (Nat.le_of_ble_eq_true rfl) ?_)
 clear hN
 intro w27 (hN : Now w none_ w27 [_, _, _, _, _, _, _, _, _, _, _, _, _, _, _, _, _, _, _])
 replace hN : Now w none_ w27 [_, _, _, _, _, _, _, _, _, _, _, _, _, _, _, _, _, _] := Now.famPush (L := [_, _, _, _, _, _, _, _, _, _, _, _, _, _, _, _, _, _]) (hN.sub [1, 0, 2, 3, 4, 5, 6, 7, 8, 9, 10, 11, 12, 13, 14, 15, 16, 17, 18] (by decide) rfl) 4 rfl
 replace hN : Now w none_ w27 [.own vh 25 (.slice (some ⟨g24, 0, none⟩) 1 1) ([h25]), .own vh 25 (.slice (some ⟨g19, 0, none⟩) 1 1) ([h20]), .own vh 118 (.slice (some ⟨g14, 0, none⟩) 1 1) ([h15]), .own vh 118 (.slice (some ⟨g9, 0, none⟩) 1 1) ([h10]), .fam vI (hq6 ++ [h25]) (si ++ [out23]), .own vh 25 (v26) (hq6 ++ [h25]), .fam vI (hq5 ++ [h20]) (so ++ [out18]), .own vh 25 (v21) (hq5 ++ [h20]), .famm i2cells (hq4 ++ [h15]) (inss ++ [out13]), .own vh 118 (v16) (hq4 ++ [h15]), .famm i2cells (hq3 ++ [h10]) (outs ++ [out8]), .own vh 118 (v11) (hq3 ++ [h10]), .blk g5 [v3, v4, v11, v16, v21, v26] 32, .own vh 25 (v4) (hs4), .fam vI (hs4) (ls4), .own vI 3 (v3) ((greatOf rk (lowOf (rk.length : Int) kk) rk.length)), .blk g2 [.slice none 0 0, .slice none 0 0, .slice none 0 0, .slice none 0 0, .slice none 0 0, .slice none 0 0] 32, .blk g1 [rv, wv] 28] := hN
 refine RZ.done (by kernel_rfl) (blockN (thenN (RW.region (RL.ev (v := .int .i64 ((i : Int))) rfl rfl ev_move (RL.ev rfl rfl (ev_arith rfl rfl rfl (add64 (by omega) (by omega))) (RL.ev (v := .int .i64 ((i : Int) + 1)) rfl rfl ev_assign (RL.nil (thenN ?_))))))))
 exact ⟨k - 1, by omega, v11, hq3 ++ [h10], outs ++ [out8], v16, hq4 ++ [h15], inss ++ [out13], v21, hq5 ++ [h20], so ++ [out18], v26, hq6 ++ [h25], si ++ [out23], i + 1, rfl, rfl, rfl, rfl, rfl, (hN.sub [4, 5, 6, 7, 8, 9, 10, 11, 12, 13, 14, 15, 16, 17] (by decide) rfl), by omega, by rw [List.length_append, hl3]; rfl, by rw [List.length_append, hh3]; rfl, all_snoc hg3 ⟨hG8, hl8⟩, by rw [List.length_append, hl4]; rfl, by rw [List.length_append, hh4]; rfl, all_snoc hg4 ⟨hG13, hl13⟩, by rw [List.length_append, hl5]; rfl, by rw [List.length_append, hh5]; rfl, all_snoc hg5 ⟨hG18, hl18⟩, by rw [List.length_append, hl6]; rfl, by rw [List.length_append, hh6]; rfl, all_snoc hg6 ⟨hG23, hl23⟩⟩
 refine RW.exit ?_
 iterate 2 refine thenX ?_
 refine blockHit (thenN (RW.seq (RW.region (RL.ev rfl rfl (ev_loadAll (cs := [v3, v4, va3, va4, va5, va6]) Tryz.underlying32 rfl sz32 rfl (hN.blk 8 rfl)) ?_))))
 refine RL.op rfl rfl (opN_storeAll (vs := [v3, v4, va3, va4, va5, va6]) sz32 rfl rfl rfl (by intro u hu; simp only [List.mem_cons, List.not_mem_nil, or_false] at hu; rcases hu with rfl | rfl | rfl | rfl | rfl | rfl <;> first | rfl | exact (hN.sl 1 rfl).one1 | exact (hN.sl 11 rfl).one1 | exact (hN.sl 3 rfl).one1 | exact (hN.sl 5 rfl).one1 | exact (hN.sl 7 rfl).one1 | exact (hN.sl 9 rfl).one1) hN 12 rfl rfl ?_)
 clear hN
 intro w28 (hN : Now w none_ w28 [_, _, _, _, _, _, _, _, _, _, _, _, _, _])
 refine RL.nil (thenN (RW.ret (retI (RV.cell rfl rfl (hN.blk 12 rfl) Tryz.underlying32 rfl sz32) ?_)))
 exact ⟨_, _, _, _, _, _, _, _, _, _, _, _, _, _, _, _, rfl, hN.sub [11, 9, 10, 7, 6, 5, 4, 3, 2, 1, 0] (by decide) rfl, ⟨by rw [hln], hT4, hTl4, hg3, hg4, hg5, hg6, by omega, by omega, by omega, by omega⟩⟩
end Go.Proofs.YtngkdkbpgoddlaaGreat
set_option linter.unusedVariables false
set_option linter.unusedSimpArgs false
namespace Go.Proofs.YtngkdkbpgoddlaaGreat
open Go.RowKit Go.Rl
open Go.Gr
set_option maxHeartbeats 4000000 in
set_option maxRecDepth 100000 in
theorem part_calls (x n : Int) (w : World) (hn : 0 < n) (hn2 : n ≤ 2147483649) : Gives Tryz.prog 65 #[.int .i64 (x), .int .i64 (n)] w fun r w' => r = .int .i64 (x % n) ∧ w = w' := by
 refine Gives.start Tryz.func65 rfl (Nat.le_of_ble_eq_true rfl) ?_
 rw [args2]
 have hN := Now.nil w none_
 refine RW.seq (RW.region (RL.ev (v := .int .i64 (0)) rfl rfl ev_assign (RL.nil (thenN (RW.seq (RW.region (RL.ev (v := .int .i64 (x)) rfl rfl ev_move (RL.ev (v := .int .i64 (n)) rfl rfl ev_move (RL.ev rfl rfl (ev_rem rfl rfl (by omega) rfl) ?_)))))))))
 refine RL.ev (v := .int .i64 (x.tmod n)) rfl rfl ev_assign (RL.nil (thenN ?_))
 iterate 2 refine RW.seq ?_
 refine RW.region (RL.ev (v := .int .i64 (x.tmod n)) rfl rfl ev_move (RL.ev rfl rfl (ev_lss rfl rfl) (RL.nil (thenN ?_))))
 refine RW.condP _ rfl (fun hneg => ?_) (fun hneg => ?_)
 refine RW.seq ?_
 have hb_ : -n ≤ x.tmod n := by have h1 := tmod_neg hn hneg; have h2 := Int.emod_nonneg x (b := n) (by omega); rw [← h1] at h2; omega
 refine RW.region (RL.ev (v := .int .i64 (x.tmod n)) rfl rfl ev_move (RL.ev (v := .int .i64 (n)) rfl rfl ev_move (RL.ev rfl rfl (ev_arith rfl rfl rfl (add64 (by omega) (by omega))) (RL.ev (v := .int .i64 (x.tmod n + n)) rfl rfl ev_assign (RL.nil (thenN (RW.ret (thenR (retI (RV.tmp rfl) ?_)))))))))
 exact ⟨congrArg (Value.int .i64) (tmod_neg hn hneg), rfl⟩
 refine RW.skip (thenN (RW.seq (RW.region (RL.ev (v := .int .i64 (x.tmod n)) rfl rfl ev_move (RL.ev (v := .int .i64 (x.tmod n)) rfl rfl ev_assign (RL.nil (thenN (RW.ret (retI (RV.tmp rfl) ?_)))))))))
 exact ⟨congrArg (Value.int .i64) (tmod_nn hn hneg), rfl⟩
set_option maxHeartbeats 4000000 in
set_option maxRecDepth 100000 in
theorem of_calls (n : Int) (v : Value) (l : List I3) (w : World) (hv : Sm i3cells w v l) : Gives Tryz.prog 27 #[.int .i64 n, v] w fun r w' => ∃ v', r = .agg #[.int .i64 (ofN n), v'] ∧ OwnM i3cells 3 100 w' w.heap.size v' (ofArcs (ofN n) l) ∧ Ext w w' := by
 refine Gives.start Tryz.func27 rfl (Nat.le_of_ble_eq_true rfl) ?_
 rw [args2]
 have hN := Now.nil w none_
 have hn1 := ofN_pos n
 refine RW.seq (RW.region ?_)
 refine RL.op rfl rfl (opN_alloc (cs := [.int .i64 (0), .slice none 0 0]) zero24 rfl hN ?_)
 clear hN
 intro g1 w1 (hN : Now w none_ w1 [_])
 refine RL.nil (thenN (RW.seq (RW.region (RL.ev (v := .int .i64 (n)) rfl rfl ev_move (RL.ev rfl rfl (ev_min rfl rfl) (RL.ev rfl rfl (show Ev _ _ _ _ (.int .i64 (ofN n)) from ev_max rfl rfl) (RL.ev (v := .int .i64 (ofN n)) rfl rfl ev_assign (RL.nil (thenN ?_)))))))))
 refine RW.seq (RW.region (RL.ev (v := .int .i64 (ofN n)) rfl rfl ev_move (RL.ev rfl rfl (ev_buildL (cs := [.int .i64 (ofN n), .slice none 0 0]) Tryz.underlying24 zero24 (places := #[(0, 1), (1, 1)]) (by intro w; kernel_rfl) (pl := [(0, .tmp 11)]) rfl (ps := [(0, .int .i64 (ofN n))]) rfl (zc := [.int .i64 (0), .slice none 0 0]) rfl (fill_step (vs := [.int .i64 (ofN n)]) rfl rfl (Nat.le_of_ble_eq_true rfl) rfl)) ?_)))
 refine RL.op rfl rfl (opN_alloc (cs := [.int .i64 (0), .slice none 0 0]) zero24 rfl hN ?_)
 clear hN
 intro g2 w2 (hN : Now w none_ w2 [_, _])
 refine RL.op rfl rfl (opN_storeAll (vs := [.int .i64 (ofN n), .slice none 0 0]) sz24 rfl rfl rfl (by intro u hu; simp only [List.mem_cons, List.not_mem_nil, or_false] at hu; rcases hu with rfl | rfl <;> first | rfl) hN 0 rfl rfl ?_)
 clear hN
 intro w3 (hN : Now w none_ w3 [_, _])
 refine RL.nil (thenN ?_)
 iterate 2 refine RW.seq ?_
 replace hN := hN.addNilM i3cells 3 100
 replace hN : Now w none_ w3 [.ownm i3cells 3 100 (.slice none 0 0) ([]), .blk g2 [.int .i64 (ofN n), .slice none 0 0] 24, .blk g1 [.int .i64 (0), .slice none 0 0] 24] := hN
 refine RW.region (RL.ev (v := .int .i64 (0)) rfl rfl ev_assign (RL.nil (thenN (RW.block ?_))))
 refine RW.loop (fun k R0 w0' => ∃ va : Value, ∃ acc : List I3, ∃ i : Nat, R0 0 = .int .i64 (ofN n) ∧ R0 1 = v ∧ R0 4 = .pointer (some ⟨g1, 0, none⟩) ∧ R0 5 = .pointer (some ⟨g2, 0, none⟩) ∧ R0 6 = .int .i64 ((i : Int)) ∧ Now w none_ w0' [.ownm i3cells 3 100 (va) (acc), .blk g2 [.int .i64 (ofN n), va] 24, .blk g1 [.int .i64 (0), .slice none 0 0] 24] ∧ (i + k = l.length) ∧ (i ≤ 40) ∧ (acc = (l.take i).map (ofArc (ofN n))) ∧ (acc.length = i)) (l.length) ?_ ?_
 exact ⟨.slice none 0 0, [], 0, rfl, rfl, rfl, rfl, rfl, hN, by omega, by omega, rfl, rfl⟩
 clear hN
 rintro k R0 w0' ⟨va, acc, i, hr0_, hr1_, hr4_, hr5_, hr6_, hN, hik, hi40, ha, hal⟩
 have hR_ : ∃ R0_, R0 = (upd (upd (upd (upd (upd R0_ 0 _) 1 _) 4 _) 5 _) 6 _) := ⟨R0, by rw [upd_self hr0_, upd_self hr1_, upd_self hr4_, upd_self hr5_, upd_self hr6_]⟩
 obtain ⟨R0_, rfl⟩ := hR_
 clear hr0_ hr1_ hr4_ hr5_ hr6_
 iterate 2 refine RW.seq ?_
 refine RW.region (RL.ev (v := .int .i64 ((i : Int))) rfl rfl ev_move (RL.ev (v := v) rfl rfl ev_move ?_))
 have hL_4 := (hv.o.now hN).len_le
 refine RL.ev rfl rfl (ev_lenM Tryz.underlying22 (hv.o.now hN) rfl) (RL.ev rfl rfl (ev_lss rfl rfl) (RL.ev (v := .bool (decide ((i : Int) < (l.length : Int)))) rfl rfl ev_move ?_))
 by_cases hlt1 : (i : Int) < (l.length : Int)
 rw [decide_eq_true hlt1]
 refine RL.onEv (v := .int .i64 ((i : Int))) rfl rfl (by decide) rfl rfl ev_move (RL.onEv rfl rfl (by decide) rfl rfl (ev_lss rfl rfl) (RL.ev (v := .bool (decide ((i : Int) < 40))) rfl rfl (ev_pickT rfl) (RL.nil (thenN ?_))))
 refine RW.condP _ rfl (fun hlt => ?_) (fun hlt => ?_)
 refine RW.skip (thenN (RW.seq (RW.block (RW.seq (RW.region (RL.ev (v := v) rfl rfl ev_move (RL.ev (v := .int .i64 ((i : Int))) rfl rfl ev_move (RL.ev rfl rfl (ev_indexM Tryz.underlying22 sz100 i3cells_len (by decide) (hv.o.now hN) rfl rfl (by omega) (by omega)) ?_))))))))
 have hOb_ : ∃ a_, (l)[i]? = some a_ := ⟨_, List.getElem?_eq_getElem (by omega)⟩
 obtain ⟨ap, hap⟩ := hOb_
 refine RL.ev rfl rfl (ev_loadM (m := i) (a := ap) Tryz.underlying100 rfl sz100 i3cells_len (by decide) (hv.o.now hN) rfl hap (cs := [.int .i64 (ap.1), .int .i64 (ap.2.1), .int .i64 (ap.2.2)]) rfl) ?_
 refine RL.op rfl rfl (opN_alloc (cs := [.int .i64 (0), .int .i64 (0), .int .i64 (0)]) zero100 rfl hN ?_)
 clear hN
 intro g5 w5 (hN : Now w none_ w5 [_, _, _, _])
 refine RL.op rfl rfl (opN_storeAll (vs := [.int .i64 (ap.1), .int .i64 (ap.2.1), .int .i64 (ap.2.2)]) sz100 rfl rfl rfl (by intro u hu; simp only [List.mem_cons, List.not_mem_nil, or_false] at hu; rcases hu with rfl | rfl | rfl <;> first | rfl) hN 0 rfl rfl ?_)
 clear hN
 intro w6 (hN : Now w none_ w6 [_, _, _, _])
 refine RL.nil (thenN ?_)
 replace hN := hN.ext (Ext.drew w6)
 refine RW.drawR rfl (fun u => Now w none_ u [.blk g5 [.int .i64 (ap.1), .int .i64 (ap.2.1), .int .i64 (ap.2.2)] 100, .blk g2 [.int .i64 (ofN n), va] 24, .blk g1 [.int .i64 (0), .slice none 0 0] 24]) 17 [(0,0), (1,0), (2,0), (3,0), (4,0), (6,0), (7,0), (8,0), (10,0), (11,0), (5,1), (9,1), (12,1), (13,0), (14,1), (15,1), (16,0), (17,2)] (by intro _ _ _ h; exact h) (by kernel_rfl) (hN.sub [0, 2, 3] (by decide) rfl) (RQ.ev rfl rfl (fun w hS => (ev_fieldAddr Tryz.underlying24 rfl sz22 (by decide) rfl)) (RQ.ev rfl rfl (fun w hS => (ev_loadB Tryz.underlying22 rfl rfl (hS.blk 1 rfl) rfl)) (RQ.ev rfl rfl (fun w hS => (ev_fieldAddr Tryz.underlying100 rfl sz3 (by decide) rfl)) (RQ.ev rfl rfl (fun w hS => (ev_loadB Tryz.underlying3 rfl rfl (hS.blk 0 rfl) rfl)) (RQ.ev (v := .int .i64 (ofN n)) rfl rfl (fun w hS => ev_move) (RQ.ev rfl rfl (fun w hS => (ev_fieldAddr Tryz.underlying100 rfl sz3 (by decide) rfl)) (RQ.ev rfl rfl (fun w hS => (ev_loadB Tryz.underlying3 rfl rfl (hS.blk 0 rfl) rfl)) (RQ.ev (v := .int .i64 (ofN n)) rfl rfl (fun w hS => ev_move) (RQ.ev rfl rfl (fun w hS => (ev_fieldAddr Tryz.underlying100 rfl sz3 (by decide) rfl)) ?_)))))))))
 refine RQ.ev rfl rfl (fun w hS => (ev_loadB Tryz.underlying3 rfl rfl (hS.blk 0 rfl) rfl)) ?_
 refine RQ.do rfl rfl (op_call2 Tryz.func65 rfl rfl rfl rfl ((part_calls (ap.1) (ofN n) _ (by omega) (by omega)).mono ?_))
 rintro _ _ ⟨rfl, rfl⟩
 refine ⟨(hN.sub [0, 2, 3] (by decide) rfl), ?_⟩
 refine RQ.do rfl rfl (op_call2 Tryz.func65 rfl rfl rfl rfl ((part_calls (ap.2.1) (ofN n) _ (by omega) (by omega)).mono ?_))
 rintro _ _ ⟨rfl, rfl⟩
 refine ⟨(hN.sub [0, 2, 3] (by decide) rfl), ?_⟩
 refine RQ.do rfl rfl (op_call2 Tryz.func65 rfl rfl rfl rfl ((part_calls (ap.2.2) (2147483649) _ (by omega) (by omega)).mono ?_))
 rintro _ _ ⟨rfl, rfl⟩
 refine ⟨(hN.sub [0, 2, 3] (by decide) rfl), ?_⟩
 refine RQ.ev rfl rfl (fun w hS => (ev_buildL (cs := [.int .i64 (((ap.1) % (ofN n))), .int .i64 (((ap.2.1) % (ofN n))), .int .i64 (((ap.2.2) % (2147483649)))]) Tryz.underlying100 zero100 (places := #[(0, 1), (1, 1), (2, 1)]) (by intro w; kernel_rfl) (pl := [(0, .tmp 32), (1, .tmp 36), (2, .tmp 39)]) rfl (ps := [(0, .int .i64 (((ap.1) % (ofN n)))), (1, .int .i64 (((ap.2.1) % (ofN n)))), (2, .int .i64 (((ap.2.2) % (2147483649))))]) rfl (zc := [.int .i64 (0), .int .i64 (0), .int .i64 (0)]) rfl (fill_step (vs := [.int .i64 (((ap.1) % (ofN n)))]) rfl rfl (Nat.le_of_ble_eq_true rfl) (fill_step (vs := [.int .i64 (((ap.2.1) % (ofN n)))]) rfl rfl (Nat.le_of_ble_eq_true rfl) (fill_step (vs := [.int .i64 (((ap.2.2) % (2147483649)))]) rfl rfl (Nat.le_of_ble_eq_true rfl) rfl))))) ?_
 refine RQ.do rfl rfl (opN_litM (cf := i3cells) (s := 3) (pl := [(0, .tmp 40)]) (ps := [(0, .agg #[.int .i64 (((ap.1) % (ofN n))), .int .i64 (((ap.2.1) % (ofN n))), .int .i64 (((ap.2.2) % (2147483649)))])]) (zc := [.int .i64 (0), .int .i64 (0), .int .i64 (0)]) (l := [(((ap.1) % (ofN n)), ((ap.2.1) % (ofN n)), ((ap.2.2) % (2147483649)))]) Tryz.underlying22 inf100 (by kernel_rfl) rfl rfl (fill_step (vs := [.int .i64 (((ap.1) % (ofN n))), .int .i64 (((ap.2.1) % (ofN n))), .int .i64 (((ap.2.2) % (2147483649)))]) rfl rfl (Nat.le_of_ble_eq_true rfl) rfl) i3cells_len rfl (by decide) (by decide) (by decide) hN ?_)
 clear hN
 intro g10 w10 (hN : Now w none_ w10 [_, _, _, _, _])
 refine ⟨(hN.sub [1, 3, 4] (by decide) rfl), ?_⟩
 refine RQ.do rfl rfl (opN_appendM Tryz.underlying22 inf100 rfl (by decide) i3cells_one i3cells_len hN 2 rfl rfl (hN.sm 0 rfl) rfl (by rw [hal]; simp only [List.length_singleton, List.length_cons, List.length_nil]; omega) (by decide) ?_)
 clear hN
 intro v11 w11 (hN : Now w none_ w11 [_, _, _, _, _])
 refine ⟨(hN.sub [1, 3, 4] (by decide) rfl), ?_⟩
 refine RQ.ev rfl rfl (fun w hS => (ev_fieldAddr Tryz.underlying24 rfl sz22 (by decide) rfl)) ?_
 refine RQ.last rfl rfl (opN_store sz22 rfl rfl (hN.sm 2 rfl).cells1 (hN.sm 2 rfl).one1 hN 3 rfl (Nat.le_of_ble_eq_true rfl) ?_)
 clear hN
 intro w12 (hN : Now w none_ w12 [_, _, _, _, _])
 refine RZ.done (by kernel_rfl) (blockN (thenN (RW.region (RL.ev (v := .int .i64 ((i : Int))) rfl rfl ev_move (RL.ev rfl rfl (ev_arith rfl rfl rfl (add64 (by omega) (by omega))) (RL.ev (v := .int .i64 ((i : Int) + 1)) rfl rfl ev_assign (RL.nil (thenN ?_))))))))
 exact ⟨k - 1, by omega, v11, acc ++ [(((ap.1) % (ofN n)), ((ap.2.1) % (ofN n)), ((ap.2.2) % (2147483649)))], i + 1, rfl, rfl, rfl, rfl, rfl, (hN.sub [2, 3, 4] (by decide) rfl), by omega, by omega, by rw [ha, List.take_add_one, hap, List.map_append]; rfl, by rw [List.length_append, hal]; rfl⟩
 refine RW.exit ?_
 iterate 2 refine thenX ?_
 refine blockHit (thenN (RW.seq (RW.region (RL.ev rfl rfl (ev_loadAll (cs := [.int .i64 (ofN n), va]) Tryz.underlying24 rfl sz24 rfl (hN.blk 1 rfl)) ?_))))
 refine RL.op rfl rfl (opN_storeAll (vs := [.int .i64 (ofN n), va]) sz24 rfl rfl rfl (by intro u hu; simp only [List.mem_cons, List.not_mem_nil, or_false] at hu; rcases hu with rfl | rfl <;> first | rfl | exact (hN.sm 0 rfl).one1) hN 2 rfl rfl ?_)
 clear hN
 intro w13 (hN : Now w none_ w13 [_, _, _])
 refine RL.nil (thenN (RW.ret (retI (RV.cell rfl rfl (hN.blk 2 rfl) Tryz.underlying24 rfl sz24) ?_)))
 have hq_ : (l.take i).map (ofArc (ofN n)) = ofArcs (ofN n) l := by
   unfold ofArcs
   rcases Nat.lt_or_ge i 40 with h | h
   · rw [List.take_of_length_le (by omega), List.take_of_length_le (by omega)]
   · rw [show i = 40 by omega]
 rw [hq_] at ha
 subst ha
 exact ⟨va, rfl, hN.ownmOut 0 rfl, hN.ext0⟩
 rw [decide_eq_false hlt1]
 iterate 2 refine RL.off rfl rfl (by decide) rfl rfl ?_
 refine RL.ev (v := .bool false) rfl rfl (ev_pickF rfl) (RL.nil (thenN (RW.condF rfl (RW.exit ?_))))
 iterate 2 refine thenX ?_
 refine blockHit (thenN (RW.seq (RW.region (RL.ev rfl rfl (ev_loadAll (cs := [.int .i64 (ofN n), va]) Tryz.underlying24 rfl sz24 rfl (hN.blk 1 rfl)) ?_))))
 refine RL.op rfl rfl (opN_storeAll (vs := [.int .i64 (ofN n), va]) sz24 rfl rfl rfl (by intro u hu; simp only [List.mem_cons, List.not_mem_nil, or_false] at hu; rcases hu with rfl | rfl <;> first | rfl | exact (hN.sm 0 rfl).one1) hN 2 rfl rfl ?_)
 clear hN
 intro w14 (hN : Now w none_ w14 [_, _, _])
 refine RL.nil (thenN (RW.ret (retI (RV.cell rfl rfl (hN.blk 2 rfl) Tryz.underlying24 rfl sz24) ?_)))
 have hq_ : (l.take i).map (ofArc (ofN n)) = ofArcs (ofN n) l := by
   unfold ofArcs
   rcases Nat.lt_or_ge i 40 with h | h
   · rw [List.take_of_length_le (by omega), List.take_of_length_le (by omega)]
   · rw [show i = 40 by omega]
 rw [hq_] at ha
 subst ha
 exact ⟨va, rfl, hN.ownmOut 0 rfl, hN.ext0⟩
set_option maxHeartbeats 4000000 in
set_option maxRecDepth 100000 in
theorem mchk_calls (n : Int) (v : Value) (l : List I3) (w : World) (hv : Sm i3cells w v l) : Gives Tryz.prog 24 #[.agg #[.int .i64 n, v]] w fun r w' => r = .int .i64 (mchk n l) ∧ Ext w w' := by
 refine Gives.start Tryz.func24 rfl (Nat.le_of_ble_eq_true rfl) ?_
 rw [args1]
 have hN := Now.nil w none_
 refine RW.seq (RW.region ?_)
 refine RL.op rfl rfl (opN_box (cs := [.int .i64 (n), v]) rfl rfl hN ?_)
 clear hN
 intro g1 w1 (hN : Now w none_ w1 [_])
 refine RL.ev (v := .int .i64 (0)) rfl rfl ev_assign (RL.nil (thenN ?_))
 iterate 2 refine RW.seq ?_
 refine RW.region (RL.ev rfl rfl (ev_fieldAddr Tryz.underlying24 rfl sz3 (by decide) rfl) (RL.ev rfl rfl (ev_loadB Tryz.underlying3 rfl rfl (hN.blk 0 rfl) rfl) (RL.ev rfl rfl (ev_gtr rfl rfl) (RL.ev (v := .bool (decide (16777216 < n))) rfl rfl ev_move ?_))))
 by_cases hg1_3 : 16777216 < n
 rw [decide_eq_true hg1_3]
 iterate 4 refine RL.off rfl rfl (by decide) rfl rfl ?_
 refine RL.ev (v := .bool true) rfl rfl (ev_pickT rfl) (RL.nil (thenN (RW.condT rfl (RW.seq (RW.region (RL.ev (v := .int .i64 (3)) rfl rfl ev_assign (RL.nil (thenN (RW.ret ?_)))))))))
 refine thenR (retI (RV.tmp rfl) ?_)
 exact ⟨congrArg (Value.int .i64) (if_pos (by omega)).symm, hN.ext0⟩
 rw [decide_eq_false hg1_3]
 refine RL.onEv rfl rfl (by decide) rfl rfl (ev_fieldAddr Tryz.underlying24 rfl sz22 (by decide) rfl) (RL.onEv rfl rfl (by decide) rfl rfl (ev_loadB Tryz.underlying22 rfl rfl (hN.blk 0 rfl) rfl) ?_)
 have hL_2 := (hv.o.now hN).len_le
 refine RL.onEv rfl rfl (by decide) rfl rfl (ev_lenM Tryz.underlying22 (hv.o.now hN) rfl) (RL.onEv rfl rfl (by decide) rfl rfl (ev_gtr rfl rfl) (RL.ev (v := .bool (decide (67108864 < (l.length : Int)))) rfl rfl (ev_pickF rfl) (RL.nil (thenN ?_))))
 refine RW.condP _ rfl (fun hc13 => ?_) (fun hc13 => ?_)
 refine RW.seq (RW.region (RL.ev (v := .int .i64 (3)) rfl rfl ev_assign (RL.nil (thenN (RW.ret (thenR (retI (RV.tmp rfl) ?_)))))))
 exact ⟨congrArg (Value.int .i64) (if_pos (by omega)).symm, hN.ext0⟩
 refine RW.skip (thenN ?_)
 iterate 2 refine RW.seq ?_
 refine RW.region (RL.ev rfl rfl (ev_fieldAddr Tryz.underlying24 rfl sz3 (by decide) rfl) (RL.ev rfl rfl (ev_loadB Tryz.underlying3 rfl rfl (hN.blk 0 rfl) rfl) (RL.ev rfl rfl (ev_lss rfl rfl) (RL.nil (thenN ?_)))))
 refine RW.condP _ rfl (fun hc16 => ?_) (fun hc16 => ?_)
 refine RW.seq (RW.region (RL.ev (v := .int .i64 (2)) rfl rfl ev_assign (RL.nil (thenN (RW.ret (thenR (retI (RV.tmp rfl) ?_)))))))
 refine ⟨congrArg (Value.int .i64) ?_, hN.ext0⟩
 unfold mchk
 rw [if_neg (by omega), if_pos (by omega)]
 refine RW.skip (thenN ?_)
 iterate 2 refine RW.seq ?_
 refine RW.region (RL.ev (v := .int .i64 (0)) rfl rfl ev_assign (RL.nil (thenN (RW.block ?_))))
 refine RW.loop (fun k R0 w0' => ∃ i : Nat, R0 1 = .pointer (some ⟨g1, 0, none⟩) ∧ R0 3 = .int .i64 ((i : Int)) ∧ Now w none_ w0' [.blk g1 [.int .i64 (n), v] 24] ∧ (i + k = l.length) ∧ (∀ a ∈ l.take i, okA n a)) (l.length) ?_ ?_
 exact ⟨0, rfl, rfl, hN, by omega, fun a ha => by cases ha⟩
 clear hN
 rintro k R0 w0' ⟨i, hr1_, hr3_, hN, hik, hok⟩
 have hR_ : ∃ R0_, R0 = (upd (upd R0_ 1 _) 3 _) := ⟨R0, by rw [upd_self hr1_, upd_self hr3_]⟩
 obtain ⟨R0_, rfl⟩ := hR_
 clear hr1_ hr3_
 iterate 2 refine RW.seq ?_
 refine RW.region (RL.ev (v := .int .i64 ((i : Int))) rfl rfl ev_move (RL.ev rfl rfl (ev_fieldAddr Tryz.underlying24 rfl sz22 (by decide) rfl) (RL.ev rfl rfl (ev_loadB Tryz.underlying22 rfl rfl (hN.blk 0 rfl) rfl) (RL.ev rfl rfl (ev_lenM Tryz.underlying22 (hv.o.now hN) rfl) (RL.ev rfl rfl (ev_lss rfl rfl) (RL.nil (thenN ?_)))))))
 refine RW.condP _ rfl (fun hlt => ?_) (fun hlt => ?_)
 refine RW.skip (thenN (RW.seq (RW.block (RW.seq (RW.region (RL.ev rfl rfl (ev_fieldAddr Tryz.underlying24 rfl sz22 (by decide) rfl) (RL.ev rfl rfl (ev_loadB Tryz.underlying22 rfl rfl (hN.blk 0 rfl) rfl) (RL.ev (v := .int .i64 ((i : Int))) rfl rfl ev_move (RL.ev rfl rfl (ev_indexM Tryz.underlying22 sz100 i3cells_len (by decide) (hv.o.now hN) rfl rfl (by omega) (by omega)) ?_)))))))))
 have hOb_ : ∃ a_, (l)[i]? = some a_ := ⟨_, List.getElem?_eq_getElem (by omega)⟩
 obtain ⟨ap, hap⟩ := hOb_
 refine RL.ev rfl rfl (ev_loadM (m := i) (a := ap) Tryz.underlying100 rfl sz100 i3cells_len (by decide) (hv.o.now hN) rfl hap (cs := [.int .i64 (ap.1), .int .i64 (ap.2.1), .int .i64 (ap.2.2)]) rfl) ?_
 refine RL.op rfl rfl (opN_alloc (cs := [.int .i64 (0), .int .i64 (0), .int .i64 (0)]) zero100 rfl hN ?_)
 clear hN
 intro g3 w3 (hN : Now w none_ w3 [_, _])
 refine RL.op rfl rfl (opN_storeAll (vs := [.int .i64 (ap.1), .int .i64 (ap.2.1), .int .i64 (ap.2.2)]) sz100 rfl rfl rfl (by intro u hu; simp only [List.mem_cons, List.not_mem_nil, or_false] at hu; rcases hu with rfl | rfl | rfl <;> first | rfl) hN 0 rfl rfl ?_)
 clear hN
 intro w4 (hN : Now w none_ w4 [_, _])
 refine RL.nil (thenN (RW.seq (RW.region (RL.ev rfl rfl (ev_fieldAddr Tryz.underlying100 rfl sz3 (by decide) rfl) (RL.ev rfl rfl (ev_loadB Tryz.underlying3 rfl rfl (hN.blk 0 rfl) rfl) (RL.ev rfl rfl (ev_lss rfl rfl) (RL.ev (v := .bool (decide (ap.1 < 0))) rfl rfl ev_move ?_)))))))
 by_cases hg9_3 : ap.1 < 0
 rw [decide_eq_true hg9_3]
 iterate 5 refine RL.off rfl rfl (by decide) rfl rfl ?_
 refine RL.ev (v := .bool true) rfl rfl (ev_pickT rfl) (RL.ev (v := .bool true) rfl rfl ev_move ?_)
 iterate 3 refine RL.off rfl rfl (by decide) rfl rfl ?_
 refine RL.ev (v := .bool true) rfl rfl (ev_pickT rfl) (RL.ev (v := .bool true) rfl rfl ev_move ?_)
 iterate 5 refine RL.off rfl rfl (by decide) rfl rfl ?_
 refine RL.ev (v := .bool true) rfl rfl (ev_pickT rfl) (RL.ev (v := .bool true) rfl rfl ev_move ?_)
 iterate 3 refine RL.off rfl rfl (by decide) rfl rfl ?_
 refine RL.ev (v := .bool true) rfl rfl (ev_pickT rfl) (RL.ev (v := .bool true) rfl rfl ev_move ?_)
 iterate 3 refine RL.off rfl rfl (by decide) rfl rfl ?_
 refine RL.ev (v := .bool true) rfl rfl (ev_pickT rfl) (RL.nil (thenN (RW.condT rfl (RW.seq (RW.region (RL.ev (v := .int .i64 (2)) rfl rfl ev_assign (RL.nil (thenN (RW.ret ?_)))))))))
 refine blockR ?_
 iterate 2 refine thenR ?_
 refine blockR (thenR (retI (RV.tmp rfl) ?_))
 refine ⟨congrArg (Value.int .i64) ?_, hN.ext0⟩
 unfold mchk
 rw [if_neg (by omega), if_neg (by omega), if_neg]
 intro hall
 have hOb_ := hall ap (List.mem_of_getElem? hap)
 obtain ⟨h1, h2, h3, h4, h5, h6⟩ := hOb_
 omega
 rw [decide_eq_false hg9_3]
 refine RL.onEv rfl rfl (by decide) rfl rfl (ev_fieldAddr Tryz.underlying100 rfl sz3 (by decide) rfl) (RL.onEv rfl rfl (by decide) rfl rfl (ev_loadB Tryz.underlying3 rfl rfl (hN.blk 0 rfl) rfl) (RL.onEv rfl rfl (by decide) rfl rfl (ev_fieldAddr Tryz.underlying24 rfl sz3 (by decide) rfl) (RL.onEv rfl rfl (by decide) rfl rfl (ev_loadB Tryz.underlying3 rfl rfl (hN.blk 1 rfl) rfl) (RL.onEv rfl rfl (by decide) rfl rfl (ev_geq rfl rfl) (RL.ev (v := .bool (decide (n ≤ ap.1))) rfl rfl (ev_pickF rfl) (RL.ev (v := .bool (decide (n ≤ ap.1))) rfl rfl ev_move ?_))))))
 by_cases hg9_10 : n ≤ ap.1
 rw [decide_eq_true hg9_10]
 iterate 3 refine RL.off rfl rfl (by decide) rfl rfl ?_
 refine RL.ev (v := .bool true) rfl rfl (ev_pickT rfl) (RL.ev (v := .bool true) rfl rfl ev_move ?_)
 iterate 5 refine RL.off rfl rfl (by decide) rfl rfl ?_
 refine RL.ev (v := .bool true) rfl rfl (ev_pickT rfl) (RL.ev (v := .bool true) rfl rfl ev_move ?_)
 iterate 3 refine RL.off rfl rfl (by decide) rfl rfl ?_
 refine RL.ev (v := .bool true) rfl rfl (ev_pickT rfl) (RL.ev (v := .bool true) rfl rfl ev_move ?_)
 iterate 3 refine RL.off rfl rfl (by decide) rfl rfl ?_
 refine RL.ev (v := .bool true) rfl rfl (ev_pickT rfl) (RL.nil (thenN (RW.condT rfl (RW.seq (RW.region (RL.ev (v := .int .i64 (2)) rfl rfl ev_assign (RL.nil (thenN (RW.ret ?_)))))))))
 refine blockR ?_
 iterate 2 refine thenR ?_
 refine blockR (thenR (retI (RV.tmp rfl) ?_))
 refine ⟨congrArg (Value.int .i64) ?_, hN.ext0⟩
 unfold mchk
 rw [if_neg (by omega), if_neg (by omega), if_neg]
 intro hall
 have hOb_ := hall ap (List.mem_of_getElem? hap)
 obtain ⟨h1, h2, h3, h4, h5, h6⟩ := hOb_
 omega
 rw [decide_eq_false hg9_10]
 refine RL.onEv rfl rfl (by decide) rfl rfl (ev_fieldAddr Tryz.underlying100 rfl sz3 (by decide) rfl) (RL.onEv rfl rfl (by decide) rfl rfl (ev_loadB Tryz.underlying3 rfl rfl (hN.blk 0 rfl) rfl) (RL.onEv rfl rfl (by decide) rfl rfl (ev_lss rfl rfl) (RL.ev (v := .bool (decide (ap.2.1 < 0))) rfl rfl (ev_pickF rfl) (RL.ev (v := .bool (decide (ap.2.1 < 0))) rfl rfl ev_move ?_))))
 by_cases hg9_15 : ap.2.1 < 0
 rw [decide_eq_true hg9_15]
 iterate 5 refine RL.off rfl rfl (by decide) rfl rfl ?_
 refine RL.ev (v := .bool true) rfl rfl (ev_pickT rfl) (RL.ev (v := .bool true) rfl rfl ev_move ?_)
 iterate 3 refine RL.off rfl rfl (by decide) rfl rfl ?_
 refine RL.ev (v := .bool true) rfl rfl (ev_pickT rfl) (RL.ev (v := .bool true) rfl rfl ev_move ?_)
 iterate 3 refine RL.off rfl rfl (by decide) rfl rfl ?_
 refine RL.ev (v := .bool true) rfl rfl (ev_pickT rfl) (RL.nil (thenN (RW.condT rfl (RW.seq (RW.region (RL.ev (v := .int .i64 (2)) rfl rfl ev_assign (RL.nil (thenN (RW.ret ?_)))))))))
 refine blockR ?_
 iterate 2 refine thenR ?_
 refine blockR (thenR (retI (RV.tmp rfl) ?_))
 refine ⟨congrArg (Value.int .i64) ?_, hN.ext0⟩
 unfold mchk
 rw [if_neg (by omega), if_neg (by omega), if_neg]
 intro hall
 have hOb_ := hall ap (List.mem_of_getElem? hap)
 obtain ⟨h1, h2, h3, h4, h5, h6⟩ := hOb_
 omega
 rw [decide_eq_false hg9_15]
 refine RL.onEv rfl rfl (by decide) rfl rfl (ev_fieldAddr Tryz.underlying100 rfl sz3 (by decide) rfl) (RL.onEv rfl rfl (by decide) rfl rfl (ev_loadB Tryz.underlying3 rfl rfl (hN.blk 0 rfl) rfl) (RL.onEv rfl rfl (by decide) rfl rfl (ev_fieldAddr Tryz.underlying24 rfl sz3 (by decide) rfl) (RL.onEv rfl rfl (by decide) rfl rfl (ev_loadB Tryz.underlying3 rfl rfl (hN.blk 1 rfl) rfl) (RL.onEv rfl rfl (by decide) rfl rfl (ev_geq rfl rfl) (RL.ev (v := .bool (decide (n ≤ ap.2.1))) rfl rfl (ev_pickF rfl) (RL.ev (v := .bool (decide (n ≤ ap.2.1))) rfl rfl ev_move ?_))))))
 by_cases hg9_22 : n ≤ ap.2.1
 rw [decide_eq_true hg9_22]
 iterate 3 refine RL.off rfl rfl (by decide) rfl rfl ?_
 refine RL.ev (v := .bool true) rfl rfl (ev_pickT rfl) (RL.ev (v := .bool true) rfl rfl ev_move ?_)
 iterate 3 refine RL.off rfl rfl (by decide) rfl rfl ?_
 refine RL.ev (v := .bool true) rfl rfl (ev_pickT rfl) (RL.nil (thenN (RW.condT rfl (RW.seq (RW.region (RL.ev (v := .int .i64 (2)) rfl rfl ev_assign (RL.nil (thenN (RW.ret ?_)))))))))
 refine blockR ?_
 iterate 2 refine thenR ?_
 refine blockR (thenR (retI (RV.tmp rfl) ?_))
 refine ⟨congrArg (Value.int .i64) ?_, hN.ext0⟩
 unfold mchk
 rw [if_neg (by omega), if_neg (by omega), if_neg]
 intro hall
 have hOb_ := hall ap (List.mem_of_getElem? hap)
 obtain ⟨h1, h2, h3, h4, h5, h6⟩ := hOb_
 omega
 rw [decide_eq_false hg9_22]
 refine RL.onEv rfl rfl (by decide) rfl rfl (ev_fieldAddr Tryz.underlying100 rfl sz3 (by decide) rfl) (RL.onEv rfl rfl (by decide) rfl rfl (ev_loadB Tryz.underlying3 rfl rfl (hN.blk 0 rfl) rfl) (RL.onEv rfl rfl (by decide) rfl rfl (ev_lss rfl rfl) (RL.ev (v := .bool (decide (ap.2.2 < 0))) rfl rfl (ev_pickF rfl) (RL.ev (v := .bool (decide (ap.2.2 < 0))) rfl rfl ev_move ?_))))
 by_cases hg9_27 : ap.2.2 < 0
 rw [decide_eq_true hg9_27]
 iterate 3 refine RL.off rfl rfl (by decide) rfl rfl ?_
 refine RL.ev (v := .bool true) rfl rfl (ev_pickT rfl) (RL.nil (thenN (RW.condT rfl (RW.seq (RW.region (RL.ev (v := .int .i64 (2)) rfl rfl ev_assign (RL.nil (thenN (RW.ret ?_)))))))))
 refine blockR ?_
 iterate 2 refine thenR ?_
 refine blockR (thenR (retI (RV.tmp rfl) ?_))
 refine ⟨congrArg (Value.int .i64) ?_, hN.ext0⟩
 unfold mchk
 rw [if_neg (by omega), if_neg (by omega), if_neg]
 intro hall
 have hOb_ := hall ap (List.mem_of_getElem? hap)
 obtain ⟨h1, h2, h3, h4, h5, h6⟩ := hOb_
 omega
 rw [decide_eq_false hg9_27]
 refine RL.onEv rfl rfl (by decide) rfl rfl (ev_fieldAddr Tryz.underlying100 rfl sz3 (by decide) rfl) (RL.onEv rfl rfl (by decide) rfl rfl (ev_loadB Tryz.underlying3 rfl rfl (hN.blk 0 rfl) rfl) (RL.onEv rfl rfl (by decide) rfl rfl (ev_gtr rfl rfl) (RL.ev (v := .bool (decide (2147483648 < ap.2.2))) rfl rfl (ev_pickF rfl) (RL.nil (thenN ?_)))))
 refine RW.condP _ rfl (fun hc60 => ?_) (fun hc60 => ?_)
 refine RW.seq (RW.region (RL.ev (v := .int .i64 (2)) rfl rfl ev_assign (RL.nil (thenN (RW.ret (blockR ?_))))))
 iterate 2 refine thenR ?_
 refine blockR (thenR (retI (RV.tmp rfl) ?_))
 refine ⟨congrArg (Value.int .i64) ?_, hN.ext0⟩
 unfold mchk
 rw [if_neg (by omega), if_neg (by omega), if_neg]
 intro hall
 have hOb_ := hall ap (List.mem_of_getElem? hap)
 obtain ⟨h1, h2, h3, h4, h5, h6⟩ := hOb_
 omega
 refine RW.skip (blockN (thenN (RW.region (RL.ev (v := .int .i64 ((i : Int))) rfl rfl ev_move (RL.ev rfl rfl (ev_arith rfl rfl rfl (add64 (by omega) (by omega))) (RL.ev (v := .int .i64 ((i : Int) + 1)) rfl rfl ev_assign (RL.nil (thenN ?_))))))))
 exact ⟨k - 1, by omega, i + 1, rfl, rfl, (hN.sub [1] (by decide) rfl), by omega, fun a ha => (mem_take_succ hap ha).elim (hok a) (fun e => e ▸ ⟨by omega, by omega, by omega, by omega, by omega, by omega⟩)⟩
 refine RW.exit ?_
 iterate 2 refine thenX ?_
 refine blockHit (thenN (RW.seq (RW.region (RL.ev (v := .int .i64 (0)) rfl rfl ev_assign (RL.nil (thenN (RW.ret (retI (RV.tmp rfl) ?_))))))))
 refine ⟨congrArg (Value.int .i64) ?_, hN.ext0⟩
 unfold mchk
 rw [if_neg (by omega), if_neg (by omega), if_pos]
 rw [List.take_of_length_le (by omega)] at hok
 exact hok
theorem mchk_zero (n : Int) (v : Value) (l : List I3) (w : World) (hv : Sm i3cells w v l) (h : mchk n l = 0) : Gives Tryz.prog 24 #[.agg #[.int .i64 n, v]] w fun r w' => r = .int .i64 0 ∧ Ext w w' := (mchk_calls n v l w hv).mono fun r w' hr => by rw [h] at hr; exact hr
end Go.Proofs.YtngkdkbpgoddlaaGreat
