/- The law ImageDecodes: texts that its row leans on (1). -/
import Derived.Test.YtngkdkbpgoddlaaGreatChecked
import GoSem.Claim
import GoSem.ClaimJoined
import GoSem.ClaimMapViews
import Derived.JoinedTies
import Derived.KernelRfl
import Derived.WalkKit
import Derived.Orders
import Derived.OrdersHeld
import Derived.Deep.LoopGhost
import Derived.Below
import Derived.Deep.Draws
import Derived.Maps.AppendAt
import Derived.Laws.Slices
import Derived.Laws.Rows
import Derived.Laws.BytesString
import Derived.Great.BuildSlice
import Derived.Laws.CopyRow
import Derived.SizedLaws
import Derived.ChangeSlices
import Derived.Carry
import Derived.Deep.OwnRows
import Derived.Lib.AppendStr
import Derived.Scope
import Derived.Deep.MidRow
import Derived.Laws.IdiomStrings
import Derived.Deep.Slices
import Derived.ChangeArms
import Derived.Deep.CondSized
import Derived.JoinedCond
import Derived.OpenShut
import Derived.MapKept
import Derived.Maps.RangeRun
import Derived.RangeFuncLeaves
import Derived.RangeFuncRecord
import Derived.TacticsIn
import Derived.OrdersIn
import Derived.Laws.Cover3
import Derived.Sort.Walk0
import Derived.DeepKeys
import Derived.Test.YtngkdkbpgoddlaaGreatProg
import Derived.Test.YtngkdkbpgoddlaaGreatRows
import Derived.ProofKit
import Derived.ShutString
import Derived.ChangeOld
set_option linter.unusedVariables false
set_option linter.unusedSimpArgs false
set_option linter.unusedSectionVars false
set_option maxHeartbeats 4000000
set_option maxRecDepth 100000
open Array renaming getElem?_eq_some_iff → VD, getElem?_eq_getElem → WU, replicate → WV, getElem?_eq_none → W0, getD_eq_getD_getElem? → Xt, toList_map → X9, getElem?_append_right → YD, getElem?_append_left → YI, size_append → YN, getElem?_replicate → YU, setIfInBounds_comm → YX, getElem?_modify → ZC, size_replicate → ZL, length_toList → Z1, range → aaD
open BitVec renaming ofInt → Wr, toNat_ushiftRight → WH, toNat_ofInt → aab
open Bool renaming false_eq_true → VS, and_eq_true → VZ, false_and → Wl, true_and → ZU
open ByteArray renaming size → ZB
open ByteArray.toList renaming loop → Yg
open Classical renaming propDecidable → VG, choose_spec → ZD
open Function renaming comp → ZX
open Go.Act renaming put_comm → Xp, put → aa4
open Go.Addr renaming add → YV
open Go.Builtin renaming append_ → Yj, zeroCells → YR, firstCells → Z6, lenOf → abh, len_ → abp, min_ → abq, min2 → abr
open Go.Calls renaming mono → ZK
open Go.CallsIn renaming mono → YY
open Go.DataW renaming weightsEach → YO
open Go.Deferred renaming ofValue → Wy
open Go.Exit renaming inBlock → abn
open Go.Instr renaming sureAddr → WK, fill → W9, checkKey → XT, sliceBounds → XY, sliceBound → X8, sameBits → Yy, sliceAt → YJ, loadAt → YW, findAsking → Y0, slice → Zm, indexAt → ZV, storeAt → ZW, findNow → ZZ, mapUpdate → aa2, makeFunc → aa7, fieldAt → abi, findKey → abj, endLoop → abl, lookup → abt, build → aco, yield → acp
open Go.IntKind renaming bits → V3, signed → V6, u64 → V8, wrap → Ws, i64 → Xb, u8 → XU
open Go.MapKept renaming run_getObj_map → X3, run_checkKey → ZQ, IsKey → abm
open Go.Op renaming equalIn → ZM, eqFields → aaF, unary → abo
open Go.Oper renaming uponIn → Xl, semAt_none → Zg, upon → Z5, wp → aaA, semAt_eq → abk
open Go.Region renaming ready → VL, wanted → VW, noSelect → WW, binds → Xo, free → XB, noSelect_spec → ZO, free_spec → aaW
open Go.Result renaming andThen_ok → VU
open Go.RoundIn renaming mono → aaa
open Go.RowsIn renaming mono → aaE
open Go.Sem renaming run_bind → VM, run_pure → WG, run → aa6
open Go.TypeDesc renaming isRow → aa8
open Go.Value renaming int → Vn, ownBlock → XQ, oneCell' → Yx, okWide → Z8, cells → acn
open Go.World renaming cell?_of_block → WJ, ownsRow → Xj, alloc_heap_new → ZN, freeze → Z7, ownsRow_nil → aaB, putObj → abu
open Go.World.ownsRow renaming cells → Yw, lt → aaU
open Int renaming toNat_natCast → WN, tdiv_eq_ediv_of_nonneg → WR, natCast_nonneg → W4, fdiv_eq_ediv_of_nonneg → W7, tmod_eq_emod_of_nonneg → Xy, natCast_emod → aaY
open List renaming getElem?_eq_getElem → UT, length_append → UX, mem_of_getElem? → UZ, getElem?_eq_some_iff → U5, length_cons → U6, mem_cons → U9, length_nil → Vc, length_map → Vl, replicate → Vm, take_of_length_le → Vo, length_take → Vs, length_replicate → Vw, flatten_cons → Vx, take_length → Vz, map_cons → VC, append_assoc → VF, getElem?_of_mem → VK, getElem?_append_right → VQ, getElem?_append_left → VR, mem_cons_of_mem → VX, mem_singleton → VY, range → V0, getD_eq_getElem?_getD → V1, mem_cons_self → V2, append_nil → V4, map_append → V5, mem_map → V9, length_set → Wb, map_nil → We, getElem?_map → Wf, eq_nil_of_length_eq_zero → Wg, nil_append → Wm, map_toArray → Wn, take_succ_eq_append_getElem → Wo, getElem?_take → Wt, getElem?_set → Wu, map_map → Wz, flatten_append → WC, range_succ → WD, length_eq_zero_iff → WM, flatMap_cons → WO, drop_eq_nil_of_le → WQ, getElem?_eq_none → WT, map_congr_left → WZ, mem_append → W6, drop_eq_getElem_cons → W8, length_erase_of_mem → Xd, ext_getElem → Xv, getElem?_drop → XH, getElem_range → XJ, drop_drop → XR, getElem?_replicate → XX, take_add_one → X0, length_range → X1, filter_cons → Ya, cons_append → Yc, getElem_map → Ye, mem_iff_getElem? → Yh, ext_getElem? → YP, size_toArray → YQ, pairwise_iff_getElem → YS, all_eq_true → YZ, take_left' → Zi, drop_left' → Zj, filter_eq_nil_iff → Zn, length_filter_le → ZE, take_take → ZF, erase_of_not_mem → ZG, mem_range → ZH, mem_append_left → ZP, flatMap_append → Z2, getElem?_range → Z3, take_sublist → aaC, mem_flatMap → aaX, getElem_mem → aaZ, getElem_set → aa0, foldl_cons → aa1, take_left → aa9, take_zero → aba, drop_take → abb, map_take → abg
open Nat renaming le_trans → Vf, le_refl → Vv, lt_or_ge → VH, lt_of_le_of_lt → VJ, zero_le → VP, lt_of_lt_of_le → Wh, shiftRight_eq_div_pow → WE, mul_le_mul_right → WL, zero_add → W3, le_of_eq → Xn, pow_le_pow_right → Xu, eq_zero_or_pos → XI, mod_eq_of_lt → Yd, not_lt → Yk, min_eq_left → Yl, mul_le_mul → Yz, pow_succ' → YK, le_mul_of_pos_right → Zc, not_lt_zero → Zh, div_div_eq_div_mul → Zo, mul_le_mul_left → Z0, add_zero → Z9, eq_or_lt_of_le → aac, add_assoc → abf
open Ne renaming symm → aa5
open Option renaming map_some → XD, getD_some → Yb, bind_some → aaV
open Option.some renaming inj → Vq, injEq → XZ
open Prod renaming snd → Wd
open Prod.mk renaming injEq → ZY
open UInt8 renaming ofNat → Wp, toNat_ofNat' → YE
namespace Go.Rl
def aZ (R:Nat→Value) (d:Nat) (v:Value):Nat→Value:=fun t=>bif Nat.beq t d then v else R t
def fW (R : Nat → Value) : Option Tmp → Value → Nat → Value
  |some d,v=>aZ R d v
  |none,_=>R
def ev (R : Nat → Value) : Operand → Value
  |.tmp t=>R t
  |.const v=>v
  |.global g=>.pointer (some ⟨g,0,none⟩)
  |.func f=>.func (.func f) #[] #[]
theorem nj (R:Nat→Value) (d:Nat) (v:Value) (t:Nat):aZ R d v t=if t=d then v else R t:=by
  unfold aZ;by_cases h:t=d
  · subst h;simp
  · have:Nat.beq t d=false:=by
      cases hb:Nat.beq t d
      · rfl
      · exact absurd (Nat.eq_of_beq_eq_true hb) h
    simp[this,h]
theorem ai {R:Nat→Value} {d:Nat} {v:Value} (h:R d=v):aZ R d v=R:=by
  funext t;rw[nj];split
  · subst t;exact h.symm
  · rfl
structure AtR (n:Nat) (R:Nat→Value) (a:Act):Prop where
  size:a.tmps.size=n
  kg:∀t,a.tmps.getD t undef=R t
  defs:a.defers=[]
theorem AtR.eval {n:Nat} {R:Nat→Value} {a:Act} (h:AtR n R a):a.eval=ev R:=by
  funext x;cases x<;>simp only[Act.eval,ev];exact h.kg _
def eS (n : Nat) : Option Tmp → Bool
  |some d=>decide (d<n)
  |none=>true
theorem AtR.put {n:Nat} {R:Nat→Value} {a:Act} (h:AtR n R a) {dst:Option Tmp} (hd:eS n dst=true) (v:Value):AtR n (fW R dst v) (a.put dst v):=by
  cases dst with
  |none=>exact h
  |some d=>
    have TP:d<n:=by simpa[eS]using hd
    refine⟨by simp[aa4,h.size],fun t=>?_,by simp[aa4,h.defs]⟩
    by_cases ht:t=d
    · subst ht
      simp[aa4,fW,nj,h.size,TP]
    · have := h.kg t
      simp only[aa4,fW,nj,if_neg ht]
      rw[←this]
      simp[Array.getElem?_setIfInBounds_ne (aa5 ht)]
abbrev eN:=Exit→(Nat→Value)→World→Prop
def eN.up (n:Nat) (Q:eN):Exit→Act→World→Prop:=fun e a w=>∃R,AtR n R a∧Q e R w
def RW (P:Program) (n:Nat) (c:Code) (Q:eN) (R:Nat→Value) (w:World):Prop:=∀a,AtR n R a→c.wp P (Q.up n) a w
def RL (P:Program) (n:Nat) (ops:Array Oper) (Q:eN) (l:List Oper) (R:Nat→Value) (w:World):Prop:=
  ∀a,AtR n R a→wpList P ops (Q.up n) l a w
def dQ (P:Program) (o:Oper) (R:Nat→Value) (w:World) (K:Value→World→Prop):Prop:=
  ∀n a,AtR n R a→o.wp P a w (fun a' w'=>∃v,a'=a.put o.dst v∧K v w') (fun _ _ _=>False)
section
variable {P:Program} {n:Nat} {Q:eN} {R:Nat→Value} {w:World}
def xy (K:(Nat→Value)→World→Prop) (Q:eN):eN:=fun e R w=>match e with
  |.normal=>K R w
  |e=>Q e R w
theorem RW.seq {x y:Code} (h:RW P n x (xy (RW P n y Q) Q) R w):RW P n (.seq x y) Q R w:=fun a ha=>by
  refine wp_seq (wp_mono (h a ha) ?_)
  rintro e a' w' ⟨R',hR,hQ⟩
  cases e with
  |normal=>exact hQ a' hR
  |_=>exact⟨R',hR,hQ⟩
theorem RW.skip (h:Q .normal R w):RW P n .skip Q R w:=fun _ ha=>wp_skip ⟨R,ha,h⟩
theorem RW.exit {id:Nat} (h:Q (.exit id) R w):RW P n (.exit id) Q R w:=fun _ ha=>wp_exit ⟨R,ha,h⟩
theorem RW.ret (h:Q .ret R w):RW P n .ret Q R w:=fun _ ha=>wp_ret ⟨R,ha,h⟩
theorem RW.cond {c:Operand} {x y:Code} (b:Bool) (hc:ev R c=.bool b) (ht:b=true→RW P n x Q R w) (hf:b=false→RW P n y Q R w):RW P n (.cond c x y) Q R w:=
  fun a ha=>wp_cond_split (t:=b) (by rw[ha.eval];exact hc) (fun e=>ht e a ha) (fun e=>hf e a ha)
theorem RW.bK {c:Operand} {x y:Code} (hc:ev R c=.bool true) (ht:RW P n x Q R w):RW P n (.cond c x y) Q R w:=RW.cond true hc (fun _=>ht) (fun e=>by cases e)
theorem RW.dD {c:Operand} {x y:Code} (hc:ev R c=.bool false) (ht:RW P n y Q R w):RW P n (.cond c x y) Q R w:=RW.cond false hc (fun e=>by cases e) (fun _=>ht)
def mr (id:Nat) (Q:eN):eN:=fun e R w=>match e with
  |.exit Ek=>if Ek=id then Q .normal R w else Q (.exit Ek) R w
  |e=>Q e R w
theorem RW.block {id:Nat} {c:Code} (h:RW P n c (mr id Q) R w):RW P n (.block id c) Q R w:=fun a ha=>by
  refine wp_block (wp_mono (h a ha) ?_)
  rintro e a' w' ⟨R',hR,hQ⟩
  cases e with
  |exit Ek=>
    simp only[abn]
    simp only[mr]at hQ
    split
    · rename_i e;rw[if_pos e]at hQ;exact⟨R',hR,hQ⟩
    · rename_i e;rw[if_neg e]at hQ;exact⟨R',hR,hQ⟩
  |_=>exact⟨R',hR,hQ⟩
theorem RW.loop {c : Code} (I : Nat → (Nat → Value) → World → Prop) (k0 : Nat) (h0 : I k0 R w)
    (round:∀k R w,I k R w→RW P n c (xy (fun R' w'=>∃k',k'<k∧I k' R' w') Q) R w):RW P n (.loop c) Q R w:=fun a ha=>by
  refine wp_loop_ghost (fun k a w=>∃R,AtR n R a∧I k R w) k0 ⟨R,ha,h0⟩ ?_
  rintro k a' w' ⟨R',Qp,hI⟩
  refine wp_mono (round k R' w' hI a' Qp) ?_
  rintro e QK xf ⟨LH,CD,hQ⟩
  cases e with
  |normal=>obtain⟨k',hk,LC⟩:=hQ;exact⟨k',hk,LH,CD,LC⟩
  |_=>exact⟨LH,CD,hQ⟩
theorem RW.region {id:Nat} {l:List Oper} (h:RL P n l.toArray Q l R w):RW P n (.region id l.toArray false) Q R w:=fun a ha=>wp_region_lit (h a ha)
theorem RL.nil {ops:Array Oper} (h:Q .normal R w):RL P n ops Q [] R w:=fun _ ha=>wpList_nil ⟨R,ha,h⟩
theorem dQ.wp {o : Oper} {K : Value → World → Prop} {next : Act → World → Prop} {Q' : Exit → Act → World → Prop} {a : Act} (ha : AtR n R a) (hd : eS n o.dst = true) (h : dQ P o R w K)
    (go:∀v w',K v w'→∀(_:AtR n (fW R o.dst v) (a.put o.dst v)),next (a.put o.dst v) w'):o.wp P a w next Q':=by
  have:=h n a ha
  unfold aaA at*
  generalize (execOp a.eval o).run P w=r at*
  have go':∀a' w',(∃v,a'=a.put o.dst v∧K v w')→next a' w':=by
    rintro a' w' ⟨v,rfl,hv⟩
    exact go v w' hv (ha.put hd v)
  cases r with
  |ok x w'=>
    cases x<;>simp only[Z5]at this ⊢<;>first
      |exact go' _ _ this
      |exact ZK this (fun e xf he=>by cases e<;>first|exact go' _ _ he|exact he.elim|exact(by obtain⟨_,_,hx⟩:=he;exact hx.elim))
      |exact Rows.mono this (fun _ _ he=>go' _ _ he)
  |halt x w'=>cases x<;>simp only[Z5]at this ⊢
theorem RL.op {ops:Array Oper} {o:Oper} {rest:List Oper} (hg:o.guard=none) (hd:eS n o.dst=true) (h:dQ P o R w (fun v w'=>RL P n ops Q rest (fW R o.dst v) w')):
    RL P n ops Q (o::rest) R w:=fun a ha=>wpList_plain hg fun K hK=>dQ.wp ha hd h fun v w' hv wC=>hK _ _ (hv _ wC)
theorem dQ.value {o:Oper} {v:Value} {w':World} {K:Value→World→Prop} (h:(execOp (ev R) o).run P w=.ok (.value v) w') (hK:K v w'):dQ P o R w K:=fun n a ha=>by
  unfold aaA;rw[ha.eval,h];exact⟨v,rfl,hK⟩
theorem dQ.unit {o:Oper} {w':World} {K:Value→World→Prop} (h:(execOp (ev R) o).run P w=.ok .skip w') (hK:K undef w'):dQ P o R w K:=fun n a ha=>by
  unfold aaA;rw[ha.eval,h];exact⟨undef,rfl,hK⟩
def al (P:Program) (f:FuncId) (args:Array Value) (w:World) (K:Value→World→Prop):Prop:=
  Calls P f args w fun e w'=>∃v,e=.returned v∧K v w'
theorem al.mono {f:FuncId} {args:Array Value} {K K':Value→World→Prop} (h:al P f args w K) (hk:∀v w',K v w'→K' v w'):al P f args w K':=
  ZK h fun _ _ ⟨v,he,hv⟩=>⟨v,he,hk _ _ hv⟩
theorem dQ.enter {o:Oper} {f:FuncId} {args:Array Value} {w':World} {K:Value→World→Prop} (h:(execOp (ev R) o).run P w=.ok (.enter f args) w') (hK:al P f args w' K):dQ P o R w K:=fun n a ha=>by
  unfold aaA;rw[ha.eval,h]
  exact ZK hK fun e xf ⟨v,he,hv⟩=>by subst he;exact⟨v,rfl,hv⟩
def Ev (P:Program) (o:Oper) (R:Nat→Value) (w:World) (v:Value):Prop:=(execOp (ev R) o).run P w=.ok (.value v) w
theorem dQ.ev {o:Oper} {v:Value} {K:Value→World→Prop} (h:Ev P o R w v) (hK:K v w):dQ P o R w K:=dQ.value h hK
theorem RL.ev {ops:Array Oper} {o:Oper} {rest:List Oper} {v:Value} (hg:o.guard=none) (hd:eS n o.dst=true) (h:Ev P o R w v) (hn:RL P n ops Q rest (fW R o.dst v) w):
    RL P n ops Q (o::rest) R w:=RL.op hg hd (dQ.ev h hn)
theorem ag {K:(Nat→Value)→World→Prop} (h:K R w):xy K Q .normal R w:=h
theorem bm {K:(Nat→Value)→World→Prop} {id:Nat} (h:Q (.exit id) R w):xy K Q (.exit id) R w:=h
theorem aD {K:(Nat→Value)→World→Prop} (h:Q .ret R w):xy K Q .ret R w:=h
theorem a7 {id:Nat} (h:Q .normal R w):mr id Q .normal R w:=h
theorem aJ {id:Nat} (h:Q .ret R w):mr id Q .ret R w:=h
theorem aO {id:Nat} (h:Q .normal R w):mr id Q (.exit id) R w:=by unfold mr;simp only[if_true];exact h
theorem dC {id Ek:Nat} (di:Ek≠id) (h:Q (.exit Ek) R w):mr id Q (.exit Ek) R w:=by unfold mr;simp only[if_neg di];exact h
theorem RW.aN {c:Operand} {x y:Code} (p:Prop) [Decidable p] (hc:Rl.ev R c=.bool (decide p)) (ht:p→RW P n x Q R w) (hf:¬p→RW P n y Q R w):RW P n (.cond c x y) Q R w:=
  RW.cond (decide p) hc (fun e=>ht (of_decide_eq_true e)) (fun e=>hf (of_decide_eq_false e))
theorem RW.nI {c:Operand} {x y:Code} (p:Prop) [Decidable p] (hc:Rl.ev R c=.bool (decide p)) (hp:p) (ht:RW P n x Q R w):RW P n (.cond c x y) Q R w:=
  RW.aN p hc (fun _=>ht) (fun e=>absurd hp e)
def Je (Q:eN):Prop:=∀c R w,¬Q (.panic c) R w
def RA (P:Program) (n:Nat) (ops:Array Oper) (Q:eN) (S:World→Prop) (fuel:Nat) (ba:Array Bool) (R:Nat→Value) (w:World):Prop:=
  ∀a,AtR n R a→wpAnyH P .any ops (Q.up n) S fuel ba a w
theorem RW.draw {id : Nat} {ops : Array Oper} (hm : P.follows .mixedOrders = true) (S : World → Prop)
    (h:RA P n ops Q S ops.size (WV ops.size false) R w.drew):RW P n (.region id ops true) Q R w:=fun a ha=>wp_region_held hm (h a ha)
theorem RA.done {ops:Array Oper} {S:World→Prop} {fuel:Nat} {ba:Array Bool} (hr:VL .any ops ba=[]) (h:Q .normal R w):RA P n ops Q S fuel ba R w:=
  fun a ha=>wpAnyH_done hr ⟨R,ha,h⟩ fuel
theorem nU {c:List PanicEntry} (hp:Je Q) (dst:Option Tmp) (v:Value) (a:Act) (w:World):Q.up n (.panic c) (a.put dst v) w→Q.up n (.panic c) a w:=fun⟨R,_,h⟩=>absurd h (hp c R w)
theorem RA.take {ops : Array Oper} {S : World → Prop} {fuel i : Nat} {o : Oper} {v : Value} {ba : Array Bool} (hi : ops[i]? = some o) (hg : o.guard = none) (hs : WW ops = true)
    (hf:XB .any ops ba i=true) (hr:(VL .any ops ba).contains i=true) (hp:Je Q) (hd:eS n o.dst=true) (hS:S w) (h:∀w,S w→Ev P o R w v)
    (hn:RA P n ops Q S fuel (ba.setIfInBounds i true) (fW R o.dst v) w):RA P n ops Q S (fuel+1) ba R w:=fun a ha=>
  wpAnyH_take hi hs hf hr (fun c a w=>nU hp _ _ a w) (.inl ⟨by simp[VW,hg],fun w hw=>by rw[ha.eval];exact h w hw⟩) hS (hn _ (ha.put hd v))
theorem eU {ops:Array Oper} {a:Act} (ha:AtR n R a) {j d:Nat} {b:Bool} (hj:(ops[j]?).bind (·.dst)=some d) (o8:d<n) (hb:R d=.bool b):yielded ops a.tmps j=some b:=by
  have h1:a.tmps[d]?=some (.bool b):=by
    have:=ha.kg d
    have hl:d<a.tmps.size:=by rw[ha.size];exact o8
    simp[hl]at this
    simp[hl,this,hb]
  simp[yielded,hj,h1]
theorem RA.fS {ops : Array Oper} {S : World → Prop} {fuel i j d : Nat} {want : Bool} {o : Oper} {v : Value} {ba : Array Bool} (hi : ops[i]? = some o) (hg : o.guard = some (j, want))
    (hj:(ops[j]?).bind (·.dst)=some d) (o8:d<n) (hb:R d=.bool want) (hs:WW ops=true)
    (hf:XB .any ops ba i=true) (hr:(VL .any ops ba).contains i=true) (hp:Je Q) (hd:eS n o.dst=true) (hS:S w) (h:∀w,S w→Ev P o R w v)
    (hn:RA P n ops Q S fuel (ba.setIfInBounds i true) (fW R o.dst v) w):RA P n ops Q S (fuel+1) ba R w:=fun a ha=>
  wpAnyH_take hi hs hf hr (fun c a w=>nU hp _ _ a w) (.inl ⟨by simp[VW,hg,eU ha hj o8 hb],fun w hw=>by rw[ha.eval];exact h w hw⟩) hS (hn _ (ha.put hd v))
theorem RA.dE {ops : Array Oper} {S : World → Prop} {fuel i j d : Nat} {want : Bool} {o : Oper} {ba : Array Bool} (hi : ops[i]? = some o) (hg : o.guard = some (j, want))
    (hj:(ops[j]?).bind (·.dst)=some d) (o8:d<n) (hb:R d=.bool (!want)) (hs:WW ops=true)
    (hf:XB .any ops ba i=true) (hr:(VL .any ops ba).contains i=true) (hp:Je Q) (hd:eS n o.dst=true) (hS:S w)
    (hn:RA P n ops Q S fuel (ba.setIfInBounds i true) (fW R o.dst undef) w):RA P n ops Q S (fuel+1) ba R w:=fun a ha=>
  wpAnyH_take hi hs hf hr (fun c a w=>nU hp _ _ a w) (.inr ⟨by cases want<;>simp[VW,hg,eU ha hj o8 hb],rfl⟩) hS (hn _ (ha.put hd undef))
theorem RA.rR {ops : Array Oper} {S : World → Prop} {fuel i j d : Nat} {want : Bool} {o : Oper} {ba : Array Bool} (hr : VL .any ops ba = [i]) (hi : ops[i]? = some o) (hg : o.guard = some (j, want))
    (hj:(ops[j]?).bind (·.dst)=some d) (o8:d<n) (hb:R d=.bool want) (hd:eS n o.dst=true)
    (h:dQ P o R w (fun v w'=>S w'∧RA P n ops Q S fuel (ba.setIfInBounds i true) (fW R o.dst v) w')):RA P n ops Q S (fuel+1) ba R w:=fun a ha=>by
  refine wpAnyH_all hr (by simp) fun k hk=>?_
  have:k=i:=by simpa using hk
  subst this
  unfold wpOp
  simp only[hi,VW,hg,eU ha hj o8 hb,beq_self_eq_true,if_true]
  refine .inl (dQ.wp ha hd h fun v w' hv wC=>⟨hv.1,hv.2 _ wC⟩)
end
end Go.Rl
namespace Go.Rl
open Go.RowKit
section
variable {P:Program} {n:Nat} {Q:eN} {R:Nat→Value} {w:World}
def RV (P:Program) (fn:Func) (n:Nat) (R:Nat→Value) (w:World) (v:Value):Prop:=∀a,AtR n R a→(results fn a.tmps).run P w=.ok v w
def JB (P:Program) (fn:Func) (n:Nat) (K:Value→World→Prop):eN:=fun e R w=>match e with
  |.normal|.ret=>∃v,RV P fn n R w v∧K v w
  |_=>False
theorem al.start {f : FuncId} {fn : Func} {c : Code} {args : Array Value} {K : Value → World → Prop} (hf : P.funcs[f]? = some fn) (hb : fn.body = some c)
    (hs:args.size≤fn.ntmps) (h:RW P fn.ntmps c (JB P fn fn.ntmps K) (fun t=>args.getD t undef) w):al P f args w K:=by
  refine calls_of_wp hf hb ?_
  refine wp_mono (h _ ⟨by rw[YN,ZL];omega,fun t=>?_,rfl⟩) ?_
  · by_cases ht : t < args.size
    · simp[YI ht]
    · have h0 : args[t]? = .none := W0 (by omega)
      simp only[Xt,h0]
      rw[YD (by omega),YU]
      split<;>rfl
  · rintro e a w' ⟨R', hR, hQ⟩
    cases e with
    |normal=>obtain⟨v,hv,hk⟩:=hQ;exact⟨hR.defs,v,hv a hR,v,rfl,hk⟩
    |ret=>obtain⟨v,hv,hk⟩:=hQ;exact⟨hR.defs,v,hv a hR,v,rfl,hk⟩
    |exit=>exact hQ.elim
    |goto=>exact hQ.elim
    |panic=>exact hQ.elim
    |outgrown=>exact hQ.elim
def r0:Nat→Value:=fun _=>undef
theorem Jb:(fun t=>(#[]:Array Value).getD t undef)=r0:=by funext t;rfl
theorem bL (a:Value):(fun t=>#[a].getD t undef)=aZ r0 0 a:=by
  funext t;rw[nj];match t with
  |0=>rfl
  |t+1=>rfl
theorem cc (a b:Value):(fun t=>#[a,b].getD t undef)=aZ (aZ r0 0 a) 1 b:=by
  funext t;simp only[nj];match t with
  |0=>rfl
  |1=>rfl
  |t+2=>rfl
theorem jB (a b c:Value):(fun t=>#[a,b,c].getD t undef)=aZ (aZ (aZ r0 0 a) 1 b) 2 c:=by
  funext t;simp only[nj];match t with
  |0=>rfl
  |1=>rfl
  |2=>rfl
  |t+3=>rfl
theorem p7 (a b c d:Value):(fun t=>#[a,b,c,d].getD t undef)=aZ (aZ (aZ (aZ r0 0 a) 1 b) 2 c) 3 d:=by
  funext t;simp only[nj];match t with
  |0=>rfl
  |1=>rfl
  |2=>rfl
  |3=>rfl
  |t+4=>rfl
theorem RV.zero {fn:Func} (h:fn.results=#[]):RV P fn n R w (.tuple #[]):=fun a _=>results_none h _ _ _
theorem RV.tmp {fn:Func} {t:Tmp} (h:fn.results=#[.tmp t]):RV P fn n R w (R t):=fun a ha=>by rw[results_tmp h,ha.kg]
theorem RV.fR {fn:Func} {t u:Tmp} (h:fn.results=#[.tmp t,.tmp u]):RV P fn n R w (.tuple #[R t,R u]):=fun a ha=>by rw[results_tmp2 h,ha.kg,ha.kg]
theorem RV.G5 {fn:Func} {t u v:Tmp} (h:fn.results=#[.tmp t,.tmp u,.tmp v]):RV P fn n R w (.tuple #[R t,R u,R v]):=fun a ha=>by
  have:=ha.kg t;have:=ha.kg u;have:=ha.kg v
  simp_all [results]
theorem RV.cell {fn : Func} {p : Tmp} {ty : TypeId} (h : fn.results = #[.cell p ty]) {g : Nat} {t : TypeId} {cs : Array Value} {fr : Nat × Nat} {d : TypeDesc}
    (hp:R p=.pointer (some ⟨g,0,none⟩)) (hg:w.heap[g]?=some (.cells cs t fr)) (hu:P.underlying ty=some d)
    (hd:(match d with|.struct _|.array _ _=>true|_=>false)=true) (hi:(P.info? ty).map (·.size)=some cs.size):RV P fn n R w (.agg cs):=
  fun a ha=>results_cell_row h a.tmps w g t cs fr d (by rw[ha.kg];exact hp) hg hu hd hi
theorem aL {fn:Func} {K:Value→World→Prop} {v:Value} (h:RV P fn n R w v) (hk:K v w):JB P fn n K .ret R w:=⟨v,h,hk⟩
theorem LU {fn:Func} {K:Value→World→Prop} {v:Value} (h:RV P fn n R w v) (hk:K v w):JB P fn n K .normal R w:=⟨v,h,hk⟩
theorem RL.on {ops : Array Oper} {o : Oper} {rest : List Oper} {j : Nat} {want : Bool} {d : Nat} (hg : o.guard = some (j, want)) (hj : (ops[j]?).bind (·.dst) = some d) (o8 : d < n)
    (hb:R d=.bool want) (hd:eS n o.dst=true) (h:dQ P o R w (fun v w'=>RL P n ops Q rest (fW R o.dst v) w')):
    RL P n ops Q (o::rest) R w:=fun a ha=>by
  refine wpList_step fun K hK=>?_
  rw[if_pos (by simp[VW,hg,eU ha hj o8 hb])]
  exact dQ.wp ha hd h fun v w' hv wC=>hK _ _ (hv _ wC)
theorem RL.aI {ops : Array Oper} {o : Oper} {rest : List Oper} {j : Nat} {want : Bool} {d : Nat} {v : Value} (hg : o.guard = some (j, want)) (hj : (ops[j]?).bind (·.dst) = some d) (o8 : d < n)
    (hb:R d=.bool want) (hd:eS n o.dst=true) (h:Ev P o R w v) (hn:RL P n ops Q rest (fW R o.dst v) w):RL P n ops Q (o::rest) R w:=
  RL.on hg hj o8 hb hd (dQ.ev h hn)
theorem RL.off {ops : Array Oper} {o : Oper} {rest : List Oper} {j : Nat} {want : Bool} {d : Nat} (hg : o.guard = some (j, want)) (hj : (ops[j]?).bind (·.dst) = some d) (o8 : d < n)
    (hb:R d=.bool (!want)) (hd:eS n o.dst=true) (h:RL P n ops Q rest (fW R o.dst undef) w):
    RL P n ops Q (o::rest) R w:=fun a ha=>by
  refine wpList_step fun K hK=>?_
  rw[if_neg (by cases want<;>simp[VW,hg,eU ha hj o8 hb])]
  exact hK _ _ (h _ (ha.put hd undef))
section
variable {K:Value→World→Prop} {dst:Option Tmp} {ty:TypeId} {pos:String} {af:Array Edge} {gd:Option (Nat×Bool)}
theorem U {x:Operand}:Ev P ⟨dst,.move x,ty,pos,af,gd⟩ R w (ev R x):=by simp[Ev,execOp]
theorem aa {x:Operand}:Ev P ⟨dst,.assign x,ty,pos,af,gd⟩ R w (ev R x):=by simp[Ev,execOp]
theorem ao {c a b:Operand} (hc:ev R c=.bool true):Ev P ⟨dst,.pick c a b,ty,pos,af,gd⟩ R w (ev R a):=by simp[Ev,execOp,hc,asBool]
theorem aH {c a b:Operand} (hc:ev R c=.bool false):Ev P ⟨dst,.pick c a b,ty,pos,af,gd⟩ R w (ev R b):=by simp[Ev,execOp,hc,asBool]
theorem bg {t:Operand} {vs:Array Value} {i:Nat} {v:Value} (ht:ev R t=.tuple vs) (hi:vs[i]?=some v):Ev P ⟨dst,.extract t i,ty,pos,af,gd⟩ R w v:=by
  simp[Ev,execOp,ht,Instr.extract,hi]
theorem cS {o:Oper} {p:Prop} [Decidable p] (h:Ev P o R w (.bool (decide p))) (hp:p):Ev P o R w (.bool true):=by rw[decide_eq_true hp]at h;exact h
theorem cm {o:Oper} {p:Prop} [Decidable p] (h:Ev P o R w (.bool (decide p))) (hp:¬p):Ev P o R w (.bool false):=by rw[decide_eq_false hp]at h;exact h
def arith:BinOp→IntKind→Int→Int→Int
  |.add,k,a,b=>k.wrap (a+b)
  |.sub,k,a,b=>k.wrap (a-b)
  |.mul,k,a,b=>k.wrap (a*b)
  |.and,k,a,b=>k.wrap ((Wr k.bits a &&& Wr k.bits b).toNat:Int)
  |.or,k,a,b=>k.wrap ((Wr k.bits a |||Wr k.bits b).toNat:Int)
  |.xor,k,a,b=>k.wrap ((Wr k.bits a^^^Wr k.bits b).toNat:Int)
  |_,_,_,_=>0
def BG:BinOp→Bool
  |.add|.sub|.mul|.and|.or|.xor=>true
  |_=>false
def compare:BinOp→Int→Int→Bool
  |.eql,a,b=>decide (a=b)
  |.neq,a,b=> !decide (a=b)
  |.lss,a,b=>decide (a<b)
  |.leq,a,b=>decide (a≤b)
  |.gtr,a,b=>decide (b<a)
  |.geq,a,b=>decide (b≤a)
  |_,_,_=>false
def vd:BinOp→Bool
  |.eql|.neq|.lss|.leq|.gtr|.geq=>true
  |_=>false
theorem B2 {op:BinOp} (Kc:BG op=true) (xt:TypeId) (k:IntKind) (a b:Int) (x y:Operand):
    (do eqGuard op xt x y (.int k a) (.int k b);binOp op xt (.int k a) (.int k b)).run P w=.ok (.int k (arith op k a b)) w:=by
  cases op<;>first|(exact absurd Kc (by decide))|simp[eqGuard,binOp,Op.intArith,Op.intBits,arith]
theorem xF {op:BinOp} (Kc:vd op=true) (xt:TypeId) (k:IntKind) (a b:Int) (x y:Operand):
    (do eqGuard op xt x y (.int k a) (.int k b);binOp op xt (.int k a) (.int k b)).run P w=.ok (.bool (compare op a b)) w:=by
  cases op<;>first
    |(exact absurd Kc (by decide))
    |(simp[eqGuard,binOp,Op.intCmp,compare];done)
    | (simp only [eqGuard, binOp, Op.intCmp, compare]
       simp
       by_cases h:a=b<;>simp[h])
theorem an {op:BinOp} {xt yt:TypeId} {x y:Operand} {k:IntKind} {a b r:Int} (Kc:BG op=true) (hx:ev R x=.int k a) (hy:ev R y=.int k b) (hr:arith op k a b=r):
    Ev P ⟨dst,.binOp op xt x y yt,ty,pos,af,gd⟩ R w (.int k r):=by
  unfold Ev
  simp only[execOp,hx,hy]
  rw[VM,B2 Kc,hr];rfl
theorem pj {op:BinOp} {xt yt:TypeId} {x y:Operand} {k:IntKind} {a b:Int} {r:Bool} (Kc:vd op=true) (hx:ev R x=.int k a) (hy:ev R y=.int k b) (hr:compare op a b=r):
    Ev P ⟨dst,.binOp op xt x y yt,ty,pos,af,gd⟩ R w (.bool r):=by
  unfold Ev
  simp only[execOp,hx,hy]
  rw[VM,xF Kc,hr];rfl
theorem cI {xt yt:TypeId} {x y:Operand} {k:IntKind} {a b:Int} (hx:ev R x=.int k a) (hy:ev R y=.int k b):Ev P ⟨dst,.binOp .eql xt x y yt,ty,pos,af,gd⟩ R w (.bool (decide (a=b))):=pj rfl hx hy rfl
theorem bp {xt yt:TypeId} {x y:Operand} {k:IntKind} {a b:Int} (hx:ev R x=.int k a) (hy:ev R y=.int k b):Ev P ⟨dst,.binOp .neq xt x y yt,ty,pos,af,gd⟩ R w (.bool (decide (¬a=b))):=
  pj rfl hx hy (by simp[compare])
theorem aV {xt yt:TypeId} {x y:Operand} {k:IntKind} {a b:Int} (hx:ev R x=.int k a) (hy:ev R y=.int k b):Ev P ⟨dst,.binOp .lss xt x y yt,ty,pos,af,gd⟩ R w (.bool (decide (a<b))):=pj rfl hx hy rfl
theorem nF {xt yt:TypeId} {x y:Operand} {k:IntKind} {a b:Int} (hx:ev R x=.int k a) (hy:ev R y=.int k b):Ev P ⟨dst,.binOp .leq xt x y yt,ty,pos,af,gd⟩ R w (.bool (decide (a≤b))):=pj rfl hx hy rfl
theorem cN {xt yt:TypeId} {x y:Operand} {k:IntKind} {a b:Int} (hx:ev R x=.int k a) (hy:ev R y=.int k b):Ev P ⟨dst,.binOp .gtr xt x y yt,ty,pos,af,gd⟩ R w (.bool (decide (b<a))):=pj rfl hx hy rfl
theorem da {xt yt:TypeId} {x y:Operand} {k:IntKind} {a b:Int} (hx:ev R x=.int k a) (hy:ev R y=.int k b):Ev P ⟨dst,.binOp .geq xt x y yt,ty,pos,af,gd⟩ R w (.bool (decide (b≤a))):=pj rfl hx hy rfl
theorem AH {xt yt:TypeId} {x y:Operand} {k:IntKind} {a b r:Int} (hx:ev R x=.int k a) (hy:ev R y=.int k b) (h0:b≠0) (hr:a.tmod b=r):
    Ev P ⟨dst,.binOp .rem xt x y yt,ty,pos,af,gd⟩ R w (.int k r):=by simp[Ev,execOp,hx,hy,eqGuard,binOp,Op.intDiv,h0,hr]
theorem ph {xt yt:TypeId} {x y:Operand} {k:IntKind} {a b r:Int} (hx:ev R x=.int k a) (hy:ev R y=.int k b) (h0:b≠0) (hr:k.wrap (a.tdiv b)=r):
    Ev P ⟨dst,.binOp .quo xt x y yt,ty,pos,af,gd⟩ R w (.int k r):=by simp[Ev,execOp,hx,hy,eqGuard,binOp,Op.intDiv,h0,hr]
theorem mn {xt yt:TypeId} {x y:Operand} {k k':IntKind} {a b r:Int} (hx:ev R x=.int k a) (hy:ev R y=.int k' b) (h0:0≤b) (hr:a.fdiv (2^(min b.toNat k.bits))=r):
    Ev P ⟨dst,.binOp .shr xt x y yt,ty,pos,af,gd⟩ R w (.int k r):=by simp[Ev,execOp,hx,hy,eqGuard,binOp,Op.shift,Int.not_lt.2 h0,hr]
theorem K4 {xt yt:TypeId} {x y:Operand} {k k':IntKind} {a b r:Int} (hx:ev R x=.int k a) (hy:ev R y=.int k' b) (h0:0≤b) (hr:k.wrap (a*2^(min b.toNat k.bits))=r):
    Ev P ⟨dst,.binOp .shl xt x y yt,ty,pos,af,gd⟩ R w (.int k r):=by simp[Ev,execOp,hx,hy,eqGuard,binOp,Op.shift,Int.not_lt.2 h0,hr]
theorem K5 {xt:TypeId} {x:Operand} {k:IntKind} {a r:Int} (hx:ev R x=.int k a) (hr:arith .sub k 0 a=r):
    Ev P ⟨dst,.unOp .neg xt x,ty,pos,af,gd⟩ R w (.int k r):=by subst hr;simp[Ev,execOp,hx,abo,Op.intArith,arith]
theorem y7 {xt:TypeId} {x:Operand} {k:IntKind} {a r:Int} (hx:ev R x=.int k a) (hr:arith .xor k (if k.signed then-1 else k.max) a=r):
    Ev P ⟨dst,.unOp .xor xt x,ty,pos,af,gd⟩ R w (.int k r):=by subst hr;simp[Ev,execOp,hx,abo,Op.intBits,arith]
theorem fi {xt:TypeId} {x:Operand} {b:Bool} (hx:ev R x=.bool b):Ev P ⟨dst,.unOp .not xt x,ty,pos,af,gd⟩ R w (.bool (!b)):=by simp[Ev,execOp,hx,abo]
theorem cw {src dt : TypeId} {x : Operand} {k k' : IntKind} {a r : Int} {u : TypeDesc} (hs : P.underlying src = some u) (hd : P.underlying dt = some (.int k')) (hx : ev R x = .int k a)
    (hr:k'.wrap a=r):Ev P ⟨dst,.convert src dt x,ty,pos,af,gd⟩ R w (.int k' r):=by
  simp[Ev,execOp,hx,convert,run_underlying hs,run_underlying hd,Conv.intToInt,hr]
theorem F2 {t:TypeId} {x:Operand} {A:Option Addr} {m c:Nat} {e:TypeId} (ht:P.underlying t=some (.slice e)) (hx:ev R x=.slice A m c):
    Ev P ⟨dst,.call ⟨.builtin .len,#[x],#[t]⟩,ty,pos,af,gd⟩ R w (.int .i64 m):=by simp[Ev,execOp,resolve,invoke,builtin,abp,hx,run_underlying ht,goInt]
theorem CL {t:TypeId} {x:Operand} {s:ByteArray} (ht:P.underlying t=some .string) (hx:ev R x=.string s):
    Ev P ⟨dst,.call ⟨.builtin .len,#[x],#[t]⟩,ty,pos,af,gd⟩ R w (.int .i64 s.size):=by simp[Ev,execOp,resolve,invoke,builtin,abp,hx,run_underlying ht,goInt]
theorem wrap_i64 {a:Int} (h0: -9223372036854775808≤a) (h1:a≤9223372036854775807):Xb.wrap a=a:=by
  simp only[Ws,V3,V6,ZU]
  split<;>simp_all<;>omega
theorem bc {a b:Int} (h0: -9223372036854775808≤a+b) (h1:a+b≤9223372036854775807):arith .add .i64 a b=a+b:=wrap_i64 h0 h1
theorem kc {a b:Int} (h0: -9223372036854775808≤a-b) (h1:a-b≤9223372036854775807):arith .sub .i64 a b=a-b:=wrap_i64 h0 h1
theorem rX {a b:Int} (h0: -9223372036854775808≤a*b) (h1:a*b≤9223372036854775807):arith .mul .i64 a b=a*b:=wrap_i64 h0 h1
theorem dF {f:FuncId} {fn:Func} (args:Array Value) (hf:P.funcs[f]?=some fn) (hn:(fn.name == "runtime.NumGoroutine")=false) (hb:fn.body.isSome=true):
    (callFunc f args).run P w=.ok (.enter f args) w:=by
  simp only[beq_eq_false_iff_ne,ne_eq]at hn
  have Bq:fn.body≠.none:=fun e=>by rw[e]at hb;cases hb
  simp[callFunc,hf,hn,Bq]
theorem oa {f : FuncId} {fn : Func} {px : Array TypeId} (hf : P.funcs[f]? = some fn) (hn : (fn.name == "runtime.NumGoroutine") = false) (hb : fn.body.isSome = true)
     (h:al P f #[] w K):dQ P ⟨dst,.call ⟨.value (.func f),#[],px⟩,ty,pos,af,gd⟩ R w K:=
  dQ.enter (f:=f) (args:=#[]) (w':=w) (by
    have:=dF (P:=P) (w:=w) #[] hf hn hb
    simp only[execOp,resolve,Wy,Wn,VC,We,VM,WG,VU,invoke]
    simpa[ev]using this) h
theorem aM {f : FuncId} {fn : Func} {px : Array TypeId} {x : Operand} {v1 : Value} (hf : P.funcs[f]? = some fn) (hn : (fn.name == "runtime.NumGoroutine") = false) (hb : fn.body.isSome = true)
    (hx:ev R x=v1) (h:al P f #[v1] w K):dQ P ⟨dst,.call ⟨.value (.func f),#[x],px⟩,ty,pos,af,gd⟩ R w K:=
  dQ.enter (f:=f) (args:=#[v1]) (w':=w) (by
    subst hx
    have:=dF (P:=P) (w:=w) #[ev R x] hf hn hb
    simp only[execOp,resolve,Wy,Wn,VC,We,VM,WG,VU,invoke]
    simpa[ev]using this) h
theorem aR {f : FuncId} {fn : Func} {px : Array TypeId} {x y : Operand} {v1 v2 : Value} (hf : P.funcs[f]? = some fn) (hn : (fn.name == "runtime.NumGoroutine") = false) (hb : fn.body.isSome = true)
    (hx:ev R x=v1) (hy:ev R y=v2) (h:al P f #[v1,v2] w K):dQ P ⟨dst,.call ⟨.value (.func f),#[x,y],px⟩,ty,pos,af,gd⟩ R w K:=
  dQ.enter (f:=f) (args:=#[v1,v2]) (w':=w) (by
    subst hx hy
    have:=dF (P:=P) (w:=w) #[ev R x,ev R y] hf hn hb
    simp only[execOp,resolve,Wy,Wn,VC,We,VM,WG,VU,invoke]
    simpa[ev]using this) h
theorem cF {f : FuncId} {fn : Func} {px : Array TypeId} {x y z : Operand} {v1 v2 v3 : Value} (hf : P.funcs[f]? = some fn) (hn : (fn.name == "runtime.NumGoroutine") = false) (hb : fn.body.isSome = true)
    (hx:ev R x=v1) (hy:ev R y=v2) (hz:ev R z=v3) (h:al P f #[v1,v2,v3] w K):dQ P ⟨dst,.call ⟨.value (.func f),#[x,y,z],px⟩,ty,pos,af,gd⟩ R w K:=
  dQ.enter (f:=f) (args:=#[v1,v2,v3]) (w':=w) (by
    subst hx hy hz
    have:=dF (P:=P) (w:=w) #[ev R x,ev R y,ev R z] hf hn hb
    simp only[execOp,resolve,Wy,Wn,VC,We,VM,WG,VU,invoke]
    simpa[ev]using this) h
theorem eZ {f : FuncId} {fn : Func} {px : Array TypeId} {x y z s : Operand} {v1 v2 v3 v4 : Value} (hf : P.funcs[f]? = some fn) (hn : (fn.name == "runtime.NumGoroutine") = false) (hb : fn.body.isSome = true)
    (hx:ev R x=v1) (hy:ev R y=v2) (hz:ev R z=v3) (hs:ev R s=v4) (h:al P f #[v1,v2,v3,v4] w K):dQ P ⟨dst,.call ⟨.value (.func f),#[x,y,z,s],px⟩,ty,pos,af,gd⟩ R w K:=
  dQ.enter (f:=f) (args:=#[v1,v2,v3,v4]) (w':=w) (by
    subst hx hy hz hs
    have:=dF (P:=P) (w:=w) #[ev R x,ev R y,ev R z,ev R s] hf hn hb
    simp only[execOp,resolve,Wy,Wn,VC,We,VM,WG,VU,invoke]
    simpa[ev]using this) h
end
end
end Go.Rl
namespace Go.Rl
open Go.RowKit
structure Mod (M:Nat→Prop) (w w':World):Prop where
  os:w'.os=w.os
  tape:w'.tape=w.tape
  output:w'.output=w.output
  size:w.heap.size≤w'.heap.size
  block:∀k,k<w.heap.size→¬M k→w'.heap[k]?=w.heap[k]?
abbrev Ext:World→World→Prop:=Mod (fun _=>False)
theorem Mod.refl (M:Nat→Prop) (w:World):Mod M w w:=⟨rfl,rfl,rfl,Vv _,fun _ _ _=>rfl⟩
theorem Mod.trans {M M1 M2:Nat→Prop} {a b c:World} (h:Mod M1 a b) (k:Mod M2 b c) (h1:∀i,i<a.heap.size→M1 i→M i) (h2:∀i,i<a.heap.size→M2 i→M i):Mod M a c:=
  ⟨k.os.trans h.os,k.tape.trans h.tape,k.output.trans h.output,Vf h.size k.size,fun i hi hM=>
    (k.block i (Wh hi h.size) fun e=>hM (h2 i hi e)).trans (h.block i hi fun e=>hM (h1 i hi e))⟩
theorem Mod.mono {M M':Nat→Prop} {w w':World} (h:Mod M w w') (hm:∀i,i<w.heap.size→M i→M' i):Mod M' w w':=
  ⟨h.os,h.tape,h.output,h.size,fun i hi hM=>h.block i hi fun e=>hM (hm i hi e)⟩
theorem Ext.trans {a b c:World} (h:Ext a b) (k:Ext b c):Ext a c:=Mod.trans h k (fun _ _=>id) (fun _ _=>id)
theorem Ext.then {a b c:World} {M:Nat→Prop} (h:Ext a b) (k:Mod M b c) (hm:∀i,i<a.heap.size→¬M i):Ext a c:=Mod.trans h k (fun _ _=>id) (fun i hi e=>hm i hi e)
theorem Ext.alloc (w:World) (o:Obj):Ext w (w.alloc o):=⟨rfl,rfl,rfl,by simp,fun k hk _=>heap_alloc_old w o hk⟩
theorem Ext.drew (w:World):Ext w w.drew:=⟨rfl,rfl,rfl,Vv _,fun _ _ _=>rfl⟩
theorem Ext.below {w w':World} (h:Ext w w'):Below w.heap.size w w':=⟨h.os,h.tape,h.output,h.size,fun k hk=>h.block k hk (fun e=>e)⟩
theorem Mod.rU {w w':World} {row:Option Nat} (h:w.grownBy w' row):Mod (fun k=>row=some k) w w':=⟨h.os,h.tape,h.output,h.size,fun k hk hM=>h.block k hk fun e=>hM e.symm⟩
theorem Mod.heap {M:Nat→Prop} {w w':World} (h:Mod M w w') {g:Nat} {o:Obj} (hg:w.heap[g]?=some o) (hM:¬M g):w'.heap[g]?=some o:=
  (h.block g (VD.1 hg).1 hM).trans hg
theorem Mod.cell {M:Nat→Prop} {w w':World} (h:Mod M w w') {a:Addr} {v:Value} (hc:w.cell? a=some v) (hM:¬M a.block):w'.cell? a=some v:=by
  rw[WJ (h.block _ (block_lt_of_cell hc) hM),hc]
theorem Mod.setCell {w:World} {p:Addr} (v:Value):Mod (fun k=>k=p.block) w (w.setCell p v):=
  ⟨rfl,rfl,rfl,by simp,fun k _ hM=>heap_setCell_other w p k v hM⟩
def Cells (w:World) (A:Option Addr) (vs:List Value):Prop:=∀(j:Nat) (v:Value),vs[j]?=some v→∃ad,A=some ad∧w.cell? (ad.add j)=some v
theorem Cells.nil (w:World) (A:Option Addr):Cells w A []:=fun j v h=>by simp at h
theorem block_add (a:Addr) (n:Nat):(a.add n).block=a.block:=by unfold YV;split<;>rfl
theorem add_add (a:Addr) (m k:Nat):(a.add m).add k=a.add (m+k):=by
  unfold YV
  by_cases hm:m=0<;>by_cases hk:k=0<;>simp[hm,hk,abf]
theorem Cells.mod {M:Nat→Prop} {w w':World} {A:Option Addr} {vs:List Value} (h:Cells w A vs) (hm:Mod M w w') (hb:∀ad,A=some ad→¬M ad.block):Cells w' A vs:=fun j v hv=>by
  obtain⟨ad,rfl,hc⟩:=h j v hv
  exact⟨ad,rfl,hm.cell hc (by rw[block_add];exact hb ad rfl)⟩
theorem Cells.take {w:World} {A:Option Addr} {vs:List Value} (h:Cells w A vs) (k:Nat):Cells w A (vs.take k):=fun j v hv=>by
  rw[Wt]at hv
  split at hv
  · exact h j v hv
  · cases hv
theorem Cells.drop {w:World} {A:Option Addr} {vs:List Value} (h:Cells w A vs) (k:Nat):Cells w (A.map (·.add k)) (vs.drop k):=fun j v hv=>by
  rw[XH]at hv
  obtain⟨ad,rfl,hc⟩:=h _ v hv
  exact⟨ad.add k,rfl,by rw[add_add];exact hc⟩
section
variable {α:Type} {enc:α→Value}
def Sl (enc:α→Value) (w:World) (v:Value) (l:List α):Prop:=∃A c,v=.slice A l.length c∧l.length≤c∧c≤maxLen∧Cells w A (l.map enc)
theorem Sl.nil (enc:α→Value) (w:World):Sl enc w (.slice none 0 0) []:=⟨none,0,rfl,Vv _,by unfold maxLen;omega,Cells.nil _ _⟩
theorem Sl.mod {M:Nat→Prop} {w w':World} {v:Value} {l:List α} (h:Sl enc w v l) (hm:Mod M w w') (hb:∀k,v.ownBlock=some k→¬M k):Sl enc w' v l:=by
  obtain⟨A,c,rfl,h1,h2,hc⟩:=h
  refine⟨A,c,rfl,h1,h2,hc.mod hm ?_⟩
  rintro ad rfl
  exact hb _ rfl
theorem Sl.ext {w w':World} {v:Value} {l:List α} (h:Sl enc w v l) (hm:Ext w w'):Sl enc w' v l:=h.mod hm (fun _ _ e=>e)
theorem Sl.aY {w:World} {v:Value} {l:List α} (h:Sl enc w v l):l.length≤9223372036854775807:=by
  obtain⟨A,c,rfl,h1,h2,_⟩:=h;unfold maxLen at h2;omega
theorem Sl.lt {w:World} {v:Value} {l:List α} (h:Sl enc w v l) (hl:l≠[]):∀k,v.ownBlock=some k→k<w.heap.size:=by
  obtain⟨A,c,rfl,h1,h2,hc⟩:=h
  intro k hk
  cases l with
  |nil=>exact absurd rfl hl
  |cons x xs=>
    obtain⟨ad,rfl,hx⟩:=hc 0 (enc x) rfl
    have:=block_lt_of_cell hx
    rw[block_add]at this
    simp[XQ]at hk
    omega
def dy (enc:α→Value) (E:TypeId) (w:World) (base:Nat) (v:Value) (l:List α):Prop:=w.ownsRow base E 1 v l.length (l.map enc)
theorem dy.nil (enc:α→Value) (E:TypeId) (w:World) (base:Nat):dy enc E w base (.slice none 0 0) []:=aaB _ _ _ _
theorem dy.sl {E:TypeId} {w:World} {base:Nat} {v:Value} {l:List α} (h:dy enc E w base v l):Sl enc w v l:=by
  rcases h.2 with⟨rfl,h0⟩|⟨g,cap,cur,rfl,hb,hh,h1,h2,h3,h4⟩
  · have : l = [] := Wg h0
    subst this
    exact Sl.nil _ _
  · refine ⟨_, cap, rfl, h1, h2, fun j v hv => ⟨_, rfl, ?_⟩⟩
    exact Yw h (g:=g) rfl j v hv
theorem dy.mod {E:TypeId} {M:Nat→Prop} {w w':World} {base:Nat} {v:Value} {l:List α} (h:dy enc E w base v l) (hm:Mod M w w') (hb:∀k,v.ownBlock=some k→¬M k):dy enc E w' base v l:=by
  unfold dy Xj at*
  refine⟨h.1,h.2.imp id ?_⟩
  rintro⟨g,cap,cur,rfl,Bq,hh,hr⟩
  exact⟨g,cap,cur,rfl,Bq,hm.heap hh (hb g rfl),hr⟩
theorem dy.ext {E:TypeId} {w w':World} {base:Nat} {v:Value} {l:List α} (h:dy enc E w base v l) (hm:Ext w w'):dy enc E w' base v l:=h.mod hm (fun _ _ e=>e)
theorem dy.lt {E:TypeId} {w:World} {base:Nat} {v:Value} {l:List α} (h:dy enc E w base v l):∀k,v.ownBlock=some k→base≤k∧k<w.heap.size:=aaU h
theorem dy.lower {E:TypeId} {w:World} {base p6:Nat} {v:Value} {l:List α} (h:dy enc E w base v l) (hb:p6≤base):dy enc E w p6 v l:=by
  unfold dy Xj at*
  refine⟨h.1,h.2.imp id ?_⟩
  rintro⟨g,cap,cur,rfl,Bq,hr⟩
  exact⟨g,cap,cur,rfl,Vf hb Bq,hr⟩
end
section
variable {P:Program} {n:Nat} {Q:eN} {R:Nat→Value} {w:World} {K:Value→World→Prop} {dst:Option Tmp} {ty:TypeId} {pos:String} {af:Array Edge} {gd:Option (Nat×Bool)}
variable {α:Type} {enc:α→Value}
theorem aQ {t:TypeId} {x:Operand} {v:Value} {l:List α} {e:TypeId} (ht:P.underlying t=some (.slice e)) (hs:Sl enc w v l) (hx:ev R x=v):
    Ev P ⟨dst,.call ⟨.builtin .len,#[x],#[t]⟩,ty,pos,af,gd⟩ R w (.int .i64 l.length):=by
  obtain⟨A,c,rfl,_⟩:=hs
  exact F2 ht hx
theorem ey {e:TypeId} {s:Nat} (ew:(P.info? e).map (·.size)=some s):(sizeOf e).run P w=.ok s w:=by
  cases hq:P.info? e with
  |none=>simp[hq]at ew
  |some i=>
    have:i.size=s:=by simpa[hq]using ew
    simp[sizeOf,typeInfo,hq,this]
def en (v:Value) (m:Nat):Value:=match v with
  |.slice (some ad) _ _=>.pointer (some (ad.add m))
  |_=>.pointer none
theorem aB {t e : TypeId} {x i : Operand} {v : Value} {l : List α} {k : IntKind} {m : Int} (ht : P.underlying t = some (.slice e)) (ew : (P.info? e).map (·.size) = some 1)
    (hs:Sl enc w v l) (hx:ev R x=v) (hi:ev R i=.int k m) (h0:0≤m) (h1:m<l.length):Ev P ⟨dst,.indexAddr t x i,ty,pos,af,gd⟩ R w (en v m.toNat):=by
  obtain⟨A,c,rfl,GI,hm,hc⟩:=hs
  have bW:m.toNat<l.length:=by omega
  obtain⟨ad,rfl,dv⟩:=hc m.toNat (enc l[m.toNat]) (by simp[UT bW])
  have hr:(0≤m∧m<(l.length:Int)):=⟨h0,h1⟩
  simp[Ev,en,execOp,hx,hi,ZV,asIntOf,run_underlying ht,hr,ey (w:=w) ew]
theorem qa {t:TypeId} {p:Addr} {v:Value} {d:TypeDesc} (ht:P.underlying t=some d) (hd:(match d with|.struct _|.array _ _=>false|_=>true)=true) (hc:w.cell? p=some v):
    (loadVar t p).run P w=.ok v w:=by
  have wE:(isAgg t).run P w=.ok false w:=by
    unfold isAgg
    rw[VM,run_underlying ht w]
    cases d<;>simp_all
  simp[loadVar,VM,wE,load,aa6,hc]
theorem wO {t : TypeId} {x : Operand} {p : Addr} {v : Value} {d : TypeDesc} (ht : P.underlying t = some d) (hd : (match d with | .struct _ | .array _ _ => false | _ => true) = true)
    (hx:ev R x=.pointer (some p)) (hc:w.cell? p=some v):Ev P ⟨dst,.load t x,ty,pos,af,gd⟩ R w v:=by
  simp[Ev,execOp,hx,YW,WK,VM,qa ht hd hc]
theorem iH {t : TypeId} {x : Operand} {v : Value} {l : List α} {m : Nat} {d : TypeDesc} (ht : P.underlying t = some d) (hd : (match d with | .struct _ | .array _ _ => false | _ => true) = true)
    (hs:Sl enc w v l) (hx:ev R x=en v m) (hm:m<l.length):Ev P ⟨dst,.load t x,ty,pos,af,gd⟩ R w (enc l[m]):=by
  obtain⟨A,c,rfl,GI,Kj,hc⟩:=hs
  obtain⟨ad,rfl,dv⟩:=hc m (enc l[m]) (by simp[UT hm])
  exact wO ht hd hx dv
theorem aF {t : TypeId} {x : Operand} {v : Value} {l : List α} {m : Nat} {a : α} {d : TypeDesc} (ht : P.underlying t = some d) (hd : (match d with | .struct _ | .array _ _ => false | _ => true) = true)
    (hs:Sl enc w v l) (hx:ev R x=en v m) (hm:l[m]?=some a):Ev P ⟨dst,.load t x,ty,pos,af,gd⟩ R w (enc a):=by
  obtain⟨bW,rfl⟩:=U5.1 hm
  exact iH ht hd hs hx bW
theorem xW {t : TypeId} {x y : Operand} {p : Addr} {v u : Value} (ew : (P.info? t).map (·.size) = some 1)
    (hx:ev R x=.pointer (some p)) (hy:ev R y=v) (hv:v.cells=#[v]) (h1:v.oneCell'=true) (hc:w.cell? p=some u) (hf:w.frozen? p=false) (h:K undef (w.setCell p v)):dQ P ⟨dst,.store t x y,ty,pos,af,gd⟩ R w K:=by
  refine dQ.unit (w':=w.setCell p v) ?_ h
  have h0:p.add 0=p:=rfl
  have eB:(store p v).run P w=.ok () (w.setCell p v):=by
    unfold store
    cases v<;>simp_all [aa6,Yx]
  simp[execOp,hx,hy,ZW,WK,storeVar,hv,ey (w:=w) ew,storeCells,h0,eB]
def jy (v:Value) (lo hi:Nat):Value:=match v with
  |.slice A n c=>.slice (if c=lo then A else A.map (·.add (lo*1))) (hi-lo) (c-lo)
  |v=>v
theorem ik {v:Value} {l:List α} (h:Sl enc w v l) (lo hi:Nat):(jy v lo hi).ownBlock=v.ownBlock:=by
  obtain⟨A,c,rfl,_⟩:=h
  simp only[jy]
  split
  · cases A<;>rfl
  · cases A with
    |none=>rfl
    |some ad=>simp[XQ,block_add]
theorem Sl.cut {v:Value} {lo hi:Nat} {l:List α} (h:Sl enc w v l) (nO:lo≤hi) (mj:hi≤l.length):Sl enc w (jy v lo hi) ((l.take hi).drop lo):=by
  obtain⟨A,c,rfl,h1,h2,hc⟩:=h
  have hlen:((l.take hi).drop lo).length=hi-lo:=by simp;omega
  refine⟨_,c-lo,by rw[hlen];rfl,by omega,by omega,?_⟩
  split
  · have : (l.take hi).drop lo = [] := Wg (by omega)
    rw[this];exact Cells.nil _ _
  · have := (hc.take hi).drop lo
    rw[Nat.mul_one]
    simpa[abg,List.map_drop]using this
theorem Sl.nc {v:Value} {hi:Nat} {l:List α} (h:Sl enc w v l) (mj:hi≤l.length):Sl enc w (jy v 0 hi) (l.take hi):=by simpa using h.cut (VP hi) mj
theorem Sl.fM {v:Value} {lo:Nat} {l:List α} (h:Sl enc w v l) (nO:lo≤l.length):Sl enc w (jy v lo l.length) (l.drop lo):=by simpa using h.cut nO (Vv _)
theorem K6 {t e : TypeId} {x lo hi : Operand} {v : Value} {l : List α} {k k' : IntKind} {a b : Int} (ht : P.underlying t = some (.slice e)) (ew : (P.info? e).map (·.size) = some 1)
    (hs:Sl enc w v l) (hx:ev R x=v) (nO:ev R lo=.int k a) (mj:ev R hi=.int k' b) (h0:0≤a) (h1:a≤b) (h2:b≤l.length):
    Ev P ⟨dst,.slice t x (some lo) (some hi) none,ty,pos,af,gd⟩ R w (jy v a.toNat b.toNat):=by
  obtain⟨A,c,rfl,GI,hm,hc⟩:=hs
  have iN:0≤b∧b≤(c:Int):=⟨by omega,by omega⟩
  have Nr:0≤a∧a≤max b 0:=⟨h0,by omega⟩
  simp[Ev,jy,execOp,hx,nO,mj,YJ,Zm,run_underlying ht,XY,X8,asIntOf,iN,Nr,ey (w:=w) ew]
theorem gX {t e : TypeId} {x hi : Operand} {v : Value} {l : List α} {k' : IntKind} {b : Int} (ht : P.underlying t = some (.slice e)) (ew : (P.info? e).map (·.size) = some 1)
    (hs:Sl enc w v l) (hx:ev R x=v) (mj:ev R hi=.int k' b) (h1:0≤b) (h2:b≤l.length):
    Ev P ⟨dst,.slice t x none (some hi) none,ty,pos,af,gd⟩ R w (jy v 0 b.toNat):=by
  obtain⟨A,c,rfl,GI,hm,hc⟩:=hs
  have iN:0≤b∧b≤(c:Int):=⟨by omega,by omega⟩
  simp[Ev,jy,execOp,hx,mj,YJ,Zm,run_underlying ht,XY,X8,asIntOf,iN,ey (w:=w) ew]
theorem eW {t e : TypeId} {x lo : Operand} {v : Value} {l : List α} {k : IntKind} {a : Int} (ht : P.underlying t = some (.slice e)) (ew : (P.info? e).map (·.size) = some 1)
    (hs:Sl enc w v l) (hx:ev R x=v) (nO:ev R lo=.int k a) (h0:0≤a) (h1:a≤l.length):
    Ev P ⟨dst,.slice t x (some lo) none none,ty,pos,af,gd⟩ R w (jy v a.toNat l.length):=by
  obtain⟨A,c,rfl,GI,hm,hc⟩:=hs
  have Nr:0≤a∧a≤(l.length:Int):=⟨h0,by omega⟩
  simp[Ev,jy,execOp,hx,nO,YJ,Zm,run_underlying ht,XY,X8,asIntOf,Nr,ey (w:=w) ew]
theorem dy.set {E:TypeId} {base g c:Nat} {l:List α} (h:dy enc E w base (.slice (some ⟨g,0,none⟩) l.length c) l) (j:Nat) (a:α):
    dy enc E (w.setCell ⟨g,j,none⟩ (enc a)) base (.slice (some ⟨g,0,none⟩) l.length c) (l.set j a):=by
  unfold dy Xj at*
  refine⟨by simp,?_⟩
  rcases h.2 with⟨h0,_⟩|⟨g',cap,cur,he,hb,hh,h1,h2,h3,h4⟩
  · cases h0
  · cases he
    refine .inr ⟨g,c,cur.setIfInBounds j (enc a),by simp,hb,heap_setCell_same w g j cur E (enc a) hh,by simpa using h1,h2,by simpa using h3,?_⟩
    rw[Array.toList_setIfInBounds,List.take_set,Wb,h4,List.map_set]
theorem dy.form {E:TypeId} {base:Nat} {v:Value} {l:List α} (h:dy enc E w base v l) (hl:l≠[]):∃g c,v=.slice (some ⟨g,0,none⟩) l.length c∧base≤g:=by
  rcases h.2 with⟨rfl,h0⟩|⟨g,cap,cur,rfl,hb,_⟩
  · exact absurd (Wg h0) hl
  · exact⟨g,cap,rfl,hb⟩
theorem pE {t : TypeId} {x y : Operand} {E base : Nat} {v u : Value} {l : List α} {a : α} {m : Nat} (ew : (P.info? t).map (·.size) = some 1)
    (hs:dy enc E w base v l) (hx:ev R x=en v m) (hm:m<l.length) (hy:ev R y=u) (hu:u=enc a) (hc:(enc a).cells=#[enc a]) (h1:(enc a).oneCell'=true)
    (h:∀w',dy enc E w' base v (l.set m a)→Mod (fun k=>v.ownBlock=some k) w w'→w'.heap.size=w.heap.size→K undef w'):dQ P ⟨dst,.store t x y,ty,pos,af,gd⟩ R w K:=by
  obtain⟨g,c,rfl,hb⟩:=hs.form (by intro e;subst e;simp at hm)
  subst hu
  have dv:w.cell? ⟨g,m,none⟩=some (enc l[m]):=by
    have:=Yw hs (g:=g) rfl m (enc l[m]) (by simp[UT hm])
    have h0:(⟨g,0,none⟩:Addr).add m=⟨g,m,none⟩:=by unfold YV;split<;>simp_all
    rwa [h0]at this
  have sC:w.frozen? ⟨g,m,none⟩=false:=by
    rcases hs.2 with⟨h0,_⟩|⟨g',cap,cur,he,_,hh,_⟩
    · cases h0
    · cases he
      simp[World.frozen?,hh]
  refine xW (p:=⟨g,m,none⟩) ew ?_ hy hc h1 dv sC (h _ (hs.set m a) ((Mod.setCell (p:=⟨g,m,none⟩) _).mono fun i _ e=>by simp[XQ,e]) (by simp))
  rw[hx]
  simp only[en]
  congr 2
  unfold YV;split<;>simp_all
theorem eg {t e : TypeId} {s x : Operand} {v u : Value} {l m : List α} {z : Value} {bytes base : Nat} (ht : P.underlying t = some (.slice e))
    (fa:(P.info? e).map (fun i=>(i.zero,i.size,i.bytes))=some (some z,1,bytes)) (hz:z.cells.size=1) (h1:∀a,(enc a).oneCell'=true)
    (hs:dy enc e w base v l) (hx:ev R s=v) (hu:Sl enc w u m) (hy:ev R x=u) (hlen:(l.length+m.length)*bytes≤140737488355328) (ju:0<bytes) (FD:base≤w.heap.size)
    (h:∀v' w',dy enc e w' base v' (l++m)→Mod (fun k=>v.ownBlock=some k) w w'→(v'.ownBlock=v.ownBlock∨v'.ownBlock=some w.heap.size)→K v' w'):
    dQ P ⟨dst,.call ⟨.builtin .append,#[s,x],#[t,t]⟩,ty,pos,af,gd⟩ R w K:=by
  obtain⟨A,c,rfl,GI,hm,hc⟩:=hu
  have As:∃i,P.info? e=some i∧i.zero=some z∧i.size=1∧i.bytes=bytes:=by
    cases hq:P.info? e with
    |none=>simp[hq]at fa
    |some i=>simp[hq]at fa;exact⟨i,rfl,fa⟩
  obtain⟨i,hi,Bl,xk,Ku⟩:=As
  have AB:l.length+m.length≤maxLen:=by
    unfold maxLen
    have:(l.length+m.length)*1≤(l.length+m.length)*bytes:=Z0 _ ju
    omega
  by_cases hA:∃ad,A=some ad
  · obtain ⟨ad, rfl⟩ := hA
    obtain ⟨v', w', eB, Ak, yC, _, KM⟩ := run_append_own_at (P := P) (w := w) base t ty e i z 1 bytes ht hi Bl xk Ku hz (by omega) v l.length (l.map enc) hs ad m.length c (m.map enc) (by simp)
      (fun j u hj=>by obtain⟨LG,h',dv⟩:=hc j u hj;cases h';exact dv) (by simp;exact fun a _=>h1 a) AB hlen FD
    refine dQ.value (v:=v') (w':=w') ?_ (h v' w' ?_ (Mod.rU yC) KM)
    · simp[execOp,resolve,invoke,builtin,hx,hy,eB]
    · unfold dy;simpa using Ak
  · have Od:A=none:=by cases A with
      |none=>rfl
      |some ad=>exact absurd ⟨ad,rfl⟩ hA
    subst Od
    have iM:m=[]:=by
      cases m with
      |nil=>rfl
      |cons a r=>obtain⟨ad,h',_⟩:=hc 0 (enc a) rfl;cases h'
    subst iM
    have Ru:=hs
    have eB:(Yj #[t,t] ty #[v,.slice none 0 c]).run P w=.ok v w:=by
      obtain⟨A',c',rfl,N5,Tx,_⟩:=hs.sl
      have hn:¬(∃q,TypeDesc.slice e=.int q):=fun⟨q,hq⟩=>by cases hq
      have hle:l.length≤c':=N5
      cases A'<;>simp[Yj,run_underlying ht,sizeOf,typeInfo,hi,xk,abh,Z6,hle,storeCells]
    refine dQ.value (v:=v) (w':=w) ?_ (h v w (by simpa using hs) (Mod.refl _ _) (.inl rfl))
    simp only[Vc]at hy
    simp[execOp,resolve,invoke,builtin,hx,hy,eB]
end
end Go.Rl
namespace Go.Rl
open Go.RowKit
def vb (b:UInt8):Value:=.int .u8 (b.toNat:Int)
def str (l:List UInt8):Value:=.string ⟨l.toArray⟩
theorem re (b:UInt8):(vb b).cells=#[vb b]:=rfl
theorem hZ (b:UInt8):(vb b).oneCell'=true:=rfl
section
variable {P:Program} {n:Nat} {Q:eN} {R:Nat→Value} {w:World} {K:Value→World→Prop} {dst:Option Tmp} {ty:TypeId} {pos:String} {af:Array Edge} {gd:Option (Nat×Bool)}
variable {α:Type} {enc:α→Value}
theorem Cells.load {A:Addr} {vs:List Value} (h:Cells w (some A) vs):(loadCells A vs.length).run P w=.ok vs.toArray w:=
  run_loadCells_list (P:=P) w A vs fun j v hv=>by obtain⟨ad,e,hc⟩:=h j v hv;cases e;exact hc
theorem foldl_push (l:List UInt8):∀s:ByteArray,(l.map fun b=>(b.toNat:Int)).foldl (fun r n=>r.push (Wp n.toNat)) s=⟨s.data++l.toArray⟩:=by
  induction l with
  |nil=>intro s;simp
  |cons b r ih=>intro s;simp only[VC,aa1,ih];simp[ByteArray.push]
theorem B0 {src dt e:TypeId} {v:Value} {l:List UInt8} (hs:P.underlying src=some (.slice e)) (he:P.underlying e=some (.int .u8)) (hd:P.underlying dt=some .string) (h:Sl vb w v l):
    (convert src dt v).run P w=.ok (str l) w:=by
  obtain⟨A,c,rfl,GI,hm,hc⟩:=h
  rw[run_convert_bytes_string w src dt e A l.length c hs he hd]
  cases A with
  |none=>
    cases l with
    |nil=>rfl
    |cons b r=>obtain⟨ad,h,_⟩:=hc 0 (vb b) rfl;cases h
  |some a=>
    have h1:(loadCells a l.length).run P w=.ok ((l.map fun b=>(b.toNat:Int)).map (Vn .u8)).toArray w:=by
      have:=Cells.load (P:=P) hc
      rw[Vl]at this
      rw[this,Wz]
      rfl
    rw[run_bytesToString w a l.length c _ h1,foldl_push]
    simp[str]
theorem eD {src dt e : TypeId} {x : Operand} {v : Value} {l : List UInt8} (hs : P.underlying src = some (.slice e)) (he : P.underlying e = some (.int .u8)) (hd : P.underlying dt = some .string)
    (h:Sl vb w v l) (hx:ev R x=v):Ev P ⟨dst,.convert src dt x,ty,pos,af,gd⟩ R w (str l):=by
  simp[Ev,execOp,hx,B0 hs he hd h]
theorem z6 (bs:ByteArray):∀(k i:Nat) (r:List UInt8),bs.size-i=k→Yg bs i r=r.reverse++bs.data.toList.drop i:=by
  intro k
  induction k with
  |zero=>
    intro i r hk
    rw[Yg,if_neg (by omega)]
    rw[WQ (by simp only[Z1];exact Nat.le_of_sub_eq_zero hk)]
    simp
  |succ k ih=>
    intro i r hk
    have bW:i<bs.size:=by omega
    rw[Yg,if_pos bW,ih (i+1) _ (by omega)]
    have hl:i<bs.data.toList.length:=by simp only[Z1];exact bW
    rw[W8 hl]
    have:bs.get! i=bs.data.toList[i]:=by
      cases bs with
      |mk d=>
        have hd:i<d.size:=bW
        simp[ByteArray.get!,getElem!_pos d i hd]
    simp[this]
theorem vC (l:List UInt8):(⟨l.toArray⟩:ByteArray).toList=l:=by
  unfold ByteArray.toList
  rw[z6 _ _ 0 [] rfl]
  simp
theorem kz {xt yt:TypeId} {x y:Operand} {a b:List UInt8} (hx:ev R x=str a) (hy:ev R y=str b):Ev P ⟨dst,.binOp .neq xt x y yt,ty,pos,af,gd⟩ R w (.bool (decide (¬a=b))):=by
  simp only[Ev,execOp,hx,hy,str]
  simp[eqGuard,binOp,Op.stringOp,vC]
  by_cases h:a=b<;>simp[h]
theorem y6 {t:TypeId} {x:Operand} {l:List UInt8} (ht:P.underlying t=some .string) (hx:ev R x=str l):
    Ev P ⟨dst,.call ⟨.builtin .len,#[x],#[t]⟩,ty,pos,af,gd⟩ R w (.int .i64 l.length):=by
  have:=CL (P:=P) (dst:=dst) (ty:=ty) (pos:=pos) (af:=af) (gd:=gd) (w:=w) ht hx
  simpa[ZB]using this
def fV (w:World) (g:Nat) (cs:List Value) (T:TypeId):Prop:=w.heap[g]?=some (.cells cs.toArray T (0,0))
theorem fV.mod {M:Nat→Prop} {w':World} {g:Nat} {cs:List Value} {T:TypeId} (h:fV w g cs T) (hm:Mod M w w') (hM:¬M g):fV w' g cs T:=hm.heap h hM
theorem fV.ext {w':World} {g:Nat} {cs:List Value} {T:TypeId} (h:fV w g cs T) (hm:Ext w w'):fV w' g cs T:=hm.heap h (fun e=>e)
theorem fV.lt {g:Nat} {cs:List Value} {T:TypeId} (h:fV w g cs T):g<w.heap.size:=(VD.1 h).1
theorem fV.cell {g:Nat} {cs:List Value} {T:TypeId} (h:fV w g cs T) (j:Nat):w.cell? ⟨g,j,none⟩=cs[j]?:=by rw[cell_of_row w g j _ T (0,0) h];simp
theorem fV.free {g:Nat} {cs:List Value} {T:TypeId} (h:fV w g cs T) (j:Nat):w.frozen? ⟨g,j,none⟩=false:=frozen_of_row w g j _ T h
theorem fV.new (w:World) (cs:Array Value) (T:TypeId):fV (w.alloc (.cells cs T)) w.heap.size cs.toList T:=by unfold fV;rw[heap_alloc_new]
theorem GR (g j:Nat):(⟨g,0,none⟩:Addr).add j=⟨g,j,none⟩:=by unfold YV;split<;>simp_all
theorem NM (g i j:Nat):(⟨g,i,none⟩:Addr).add j=⟨g,i+j,none⟩:=by unfold YV;split<;>simp_all
theorem fB {t : TypeId} {z : Value} {cs : List Value} (hz : (P.info? t).map (·.zero) = some (some z)) (hc : z.cells = cs.toArray)
    (h:∀w',fV w' w.heap.size cs t→Ext w w'→w'.heap.size=w.heap.size+1→K (.pointer (some ⟨w.heap.size,0,none⟩)) w'):dQ P ⟨dst,.alloc t,ty,pos,af,gd⟩ R w K:=by
  have JY:(zeroValue t).run P w=.ok z w:=by
    cases hq:P.info? t with
    |none=>simp[hq]at hz
    |some i=>
      have:i.zero=some z:=by simpa[hq]using hz
      simp[zeroValue,typeInfo,hq,this]
  refine dQ.value (v:=.pointer (some ⟨w.heap.size,0,none⟩)) (w':=w.alloc (.cells z.cells t)) ?_ (h _ ?_ (Ext.alloc _ _) (by simp))
  · simp[execOp,Instr.alloc,JY,newVar,newRow]
  · have := fV.new w z.cells t
    rwa [hc]at this ⊢
theorem oZ {t : TypeId} {x : Operand} {v : Value} {cs : List Value} (hx : ev R x = v) (hc : v.cells = cs.toArray)
    (h:∀w',fV w' w.heap.size cs t→Ext w w'→w'.heap.size=w.heap.size+1→K (.pointer (some ⟨w.heap.size,0,none⟩)) w'):dQ P ⟨dst,.box t x,ty,pos,af,gd⟩ R w K:=by
  refine dQ.value (v:=.pointer (some ⟨w.heap.size,0,none⟩)) (w':=w.alloc (.cells v.cells t)) ?_ (h _ ?_ (Ext.alloc _ _) (by simp))
  · simp[execOp,hx,Instr.box,newVar,newRow]
  · have := fV.new w v.cells t
    rwa [hc]at this ⊢
theorem fV.set {g:Nat} {cs:List Value} {T:TypeId} (h:fV w g cs T) (j:Nat) (v:Value):fV (w.setCell ⟨g,j,none⟩ v) g (cs.set j v) T:=by
  unfold fV at*
  rw[heap_setCell_same w g j _ T v h]
  simp
theorem kn {t : TypeId} {x y : Operand} {g j : Nat} {v : Value} {cs : List Value} {T : TypeId} (ew : (P.info? t).map (·.size) = some 1)
    (hx:ev R x=.pointer (some ⟨g,j,none⟩)) (hy:ev R y=v) (hv:v.cells=#[v]) (h1:v.oneCell'=true) (hb:fV w g cs T) (hj:j<cs.length)
    (h:∀w',fV w' g (cs.set j v) T→Mod (fun k=>k=g) w w'→w'.heap.size=w.heap.size→K undef w'):dQ P ⟨dst,.store t x y,ty,pos,af,gd⟩ R w K:=
  xW ew hx hy hv h1 (u:=cs[j]) (by rw[hb.cell,UT hj]) (hb.free j) (h _ (hb.set j v) (Mod.setCell (p:=⟨g,j,none⟩) v) (by simp))
theorem cK {t : TypeId} {x y : Operand} {g : Nat} {v : Value} {cs vs : List Value} {T : TypeId} (ew : (P.info? t).map (·.size) = some vs.length)
    (hx:ev R x=.pointer (some ⟨g,0,none⟩)) (hy:ev R y=v) (hv:v.cells=vs.toArray) (h1:∀u∈vs,u.oneCell'=true) (hb:fV w g cs T) (hl:vs.length=cs.length)
    (h:∀w',fV w' g vs T→Mod (fun k=>k=g) w w'→w'.heap.size=w.heap.size→K undef w'):dQ P ⟨dst,.store t x y,ty,pos,af,gd⟩ R w K:=by
  have fF:(storeCells ⟨g,0,none⟩ vs).run P w=.ok () (w.setRow g vs.toArray):=by
    have:=run_storeCells_from (P:=P) g T vs 0 cs.toArray w hb (by simp[hl]) h1
    simpa using this
  refine dQ.unit (w':=w.setRow g vs.toArray) ?_ (h _ (setRow_heap w g _ _ T _ hb) ⟨rfl,rfl,rfl,by simp,fun k hk hM=>setRow_other w g k _ hM⟩ (by simp))
  simp[execOp,hx,hy,ZW,WK,storeVar,hv,ey (w:=w) ew,fF]
theorem aG {t : TypeId} {x : Operand} {g : Nat} {cs : List Value} {T : TypeId} {d : TypeDesc} (hu : P.underlying t = some d) (hd : (match d with | .struct _ | .array _ _ => true | _ => false) = true)
    (ew:(P.info? t).map (·.size)=some cs.length) (hx:ev R x=.pointer (some ⟨g,0,none⟩)) (hb:fV w g cs T):Ev P ⟨dst,.load t x,ty,pos,af,gd⟩ R w (.agg cs.toArray):=by
  have:=run_loadVar_row (P:=P) w g T t cs.toArray (0,0) d hb hu hd (by simpa using ew)
  simp[Ev,execOp,hx,YW,WK,this]
theorem aj {t : TypeId} {x : Operand} {g j : Nat} {v : Value} {cs : List Value} {T : TypeId} {d : TypeDesc} (ht : P.underlying t = some d) (hd : (match d with | .struct _ | .array _ _ => false | _ => true) = true)
    (hx:ev R x=.pointer (some ⟨g,j,none⟩)) (hb:fV w g cs T) (hj:cs[j]?=some v):Ev P ⟨dst,.load t x,ty,pos,af,gd⟩ R w v:=wO ht hd hx (by rw[hb.cell,hj])
theorem p5 {t e : TypeId} {x i : Operand} {g len : Nat} {k : IntKind} {m : Int} (ht : P.underlying t = some (.array len e)) (ew : (P.info? e).map (·.size) = some 1)
    (hx:ev R x=.pointer (some ⟨g,0,none⟩)) (hi:ev R i=.int k m) (h0:0≤m) (h1:m<len):Ev P ⟨dst,.indexAddr t x i,ty,pos,af,gd⟩ R w (.pointer (some ⟨g,m.toNat,none⟩)):=by
  have hr:(0≤m∧m<(len:Int)):=⟨h0,h1⟩
  simp[Ev,execOp,hx,hi,ZV,WK,asIntOf,run_underlying ht,hr,ey (w:=w) ew,GR]
theorem ah {t : TypeId} {x : Operand} {g j f : Nat} {fs : Array Field} {fd : Field} (ht : P.underlying t = some (.struct fs)) (hf : fs[f]? = some fd) {s : Nat} (ew : (P.info? fd.type).map (·.size) = some s) (hs : s ≠ 0)
    (hx:ev R x=.pointer (some ⟨g,j,none⟩)):Ev P ⟨dst,.fieldAddr t x f,ty,pos,af,gd⟩ R w (.pointer (some ⟨g,j+fd.offset,none⟩)):=by
  simp[Ev,execOp,hx,abi,WK,run_underlying ht,hf,fieldPlace,ey (w:=w) ew,hs,NM]
theorem nu {t e : TypeId} {len : Nat} {parts : Array (Nat × Operand)} {xs : List Operand} {l : List α} (ht : P.underlying t = some (.slice e)) (ew : (P.info? e).map (·.size) = some 1)
    (hz:((P.info? e).bind (·.zero)).isSome=true) (sr:parts.toList=(xs.zipIdx 0).map fun x=>(x.2,x.1)) (hv:xs.map (ev R)=l.map enc) (hc:∀a,(enc a).cells=#[enc a])
    (hlen:len=l.length) (gg:0<len) (Ah:len≤2^24)
    (h:∀w',dy enc e w' w.heap.size (.slice (some ⟨w.heap.size,0,none⟩) len len) l→fV w' w.heap.size (l.map enc) e→Ext w w'→w'.heap.size=w.heap.size+1→K (.slice (some ⟨w.heap.size,0,none⟩) len len) w'):
    dQ P ⟨dst,.buildSlice t len parts,ty,pos,af,gd⟩ R w K:=by
  cases su:P.info? e with
  |none=>simp[su]at ew
  |some ie=>
    simp only[su,XD,XZ,aaV]at ew hz
    obtain⟨z,OH⟩:=Option.isSome_iff_exists.1 hz
    have Pk:(parts.map fun(i,x)=>(i,ev R x)).toList=((l.map enc).zipIdx 0).map fun x=>(x.2,x.1):=by
      rw[X9,sr,←hv,List.zipIdx_map,Wz,Wz]
      rfl
    have hf:W9 (fun i=>some (i*ie.size,ie.size)) ((aaD (len*ie.size)).map (z.cells[·%z.cells.size]!)) (parts.map fun(i,x)=>(i,ev R x)).toList=some (l.map enc).toArray:=by
      rw[Pk,ew]
      exact Great.fill_flat _ _ (fun v hv=>by obtain⟨a,_,rfl⟩:=V9.1 hv;exact hc a) (by simp[hlen])
    have eB:=run_buildSlice (P:=P) w t e len (parts.map fun(i,x)=>(i,ev R x)) _ ie z ht su OH (by rw[ew];omega) (by rw[ew];omega) hf
    refine dQ.value (v:=.slice (some ⟨w.heap.size,0,none⟩) len len) (w':=w.alloc (.cells (l.map enc).toArray e)) ?_ (h _ ?_ ?_ (Ext.alloc _ _) (by simp))
    · simp[execOp,eB]
    · unfold dy
      subst hlen
      refine⟨by simp,.inr ⟨w.heap.size,l.length,(l.map enc).toArray,rfl,Vv _,?_,Vv _,by unfold maxLen;omega,by simp,?_⟩⟩
      · rw[heap_alloc_new]
      · rw[Vo (by simp)]
    · have := fV.new w (l.map enc).toArray e
      simpa using this
theorem yX (w:World) (b:Addr) (m:Nat) (a:Addr):(w.freeze b m).cell? a=w.cell? a:=by
  unfold Z7
  by_cases hm:m=0
  · rw[if_pos hm]
  · rw [if_neg hm]
    simp only[World.cell?,ZC]
    by_cases h2:b.block=a.block
    · rw [if_pos h2]
      cases hq:w.heap[a.block]? with
      |none=>simp
      |some o=>cases o<;>simp
    · rw[if_neg h2]
theorem AG (w:World) (b:Addr) (m:Nat):Mod (fun k=>k=b.block) w (w.freeze b m):=by
  unfold Z7
  by_cases hm:m=0
  · rw[if_pos hm];exact Mod.refl _ _
  · rw [if_neg hm]
    refine⟨rfl,rfl,rfl,by simp,fun k hk hM=>?_⟩
    simp only[ZC];rw[if_neg (fun e=>hM e.symm)]
theorem yW (w:World) (b:Addr) (m:Nat):(w.freeze b m).heap.size=w.heap.size:=by unfold Z7;split<;>simp
theorem xX {t e : TypeId} {x : Operand} {v : Value} {l : List α} (ht : P.underlying t = some (.slice e)) (he : P.underlying e = some (.int .u8)) (hs : Sl enc w v l) (hx : ev R x = v) {ad : Addr} {m c : Nat} (hv : v = .slice (some ad) m c)
    (h:∀w',Sl enc w' v l→Mod (fun k=>v.ownBlock=some k) w w'→w'.heap.size=w.heap.size→K v w'):dQ P ⟨dst,.convert t t x,ty,pos,af,gd⟩ R w K:=by
  have key:∃w',(markStringish ad).run P w=.ok () w'∧(∀a,w'.cell? a=w.cell? a)∧Mod (fun k=>k=ad.block) w w'∧w'.heap.size=w.heap.size:=by
    unfold markStringish
    cases hq:w.shape? ad.block with
    |none=>exact⟨w,by simp[shape,aa6,hq],fun _=>rfl,Mod.refl _ _,rfl⟩
    |some p=>
      obtain⟨e',k⟩:=p
      exact⟨w.freeze ⟨ad.block,k,none⟩ 1,by simp[shape,freeze,aa6,hq],yX _ _ _,AG w ⟨ad.block,k,none⟩ 1,yW _ _ _⟩
  obtain⟨w',eB,dv,Pz,ew⟩:=key
  subst hv
  refine dQ.value (v:=.slice (some ad) m c) (w':=w') ?_ (h w' ?_ (Pz.mono fun i _ e=>by simp[XQ,e]) ew)
  · simp[execOp,hx,convert,run_underlying ht,run_underlying he,eB]
  · obtain ⟨A, c', TN, h1, h2, hc⟩ := hs
    cases TN
    exact⟨_,_,rfl,h1,h2,fun j v hv=>by obtain⟨LG,ha,tW⟩:=hc j v hv;exact⟨LG,ha,by rw[dv];exact tW⟩⟩
end
end Go.Rl
namespace Go.Rl
open Go.ChangeShapes Go.WideShapes
section
variable {H:Type} {enc:TypeId×Value→H} {P:Program} {W:World} {base:Nat} {held:Bool} {t e:TypeId} {d:DataW H} {ps:List MemPlace} {ts:List TypeId} {ds:List (DataW H)} {j:Nat} {v:Value}
theorem Ej {k : IntKind} {B : Nat} (ew : (YO P ts ds).all (· ≤ reachBytes) = true) (ht : ts[j]? = some t) (hd : ds[j]? = some d) (hu : P.underlying t = some (.slice e)) (he : P.underlying e = some (.int k))
    (hc:P.cellsOf e=1) (hB:P.bytesOf e=B) (hv:Z8 P W .any base t v) (h:DataW.Trod enc P W 0 (fun _=>true) held t v d ps):
    ∃l:List Int,Sl (Vn k) W v l∧(∀n∈l,(Lit.int k n).wf=true)∧l.length*B≤140737488351232:=by
  obtain⟨a,len,cap,rfl⟩:=okWide_slice hu hv
  obtain⟨fuel,hf⟩:=h
  rcases open_ints hu he hc hf with⟨pW,_⟩|⟨x,l,c,zs,pW,_,hl,hm,hz,hx,dv,S7⟩
  · simp [acn] at pW
    obtain⟨rfl,rfl,rfl⟩:=pW
    exact⟨[],Sl.nil _ _,by simp,by simp⟩
  · simp [acn] at pW
    obtain⟨rfl,rfl,rfl⟩:=pW
    obtain⟨hx,_⟩:=Prod.mk.inj hx
    subst hx
    have z:=sized_slice ew ht hd hu
    rw[hB]at z
    have Ut:zs.length=cap:=by simpa using hz
    have h1:(lits (H:=H) k (zs.take len)).length+(lits (H:=H) k (zs.drop len)).length=zs.length:=by
      simp[lits]
      omega
    rw[h1]at z
    have hlen:(zs.take len).length=len:=by simp;omega
    refine⟨zs.take len,⟨some x,cap,by rw[hlen],by omega,hm,fun i v hi=>⟨x,rfl,?_⟩⟩,fun n hn=>S7 n (List.mem_of_mem_take hn),?_⟩
    · rw [Wf] at hi
      cases hq:(zs.take len)[i]? with
      |none=>rw[hq]at hi;cases hi
      |some n=>
        rw[hq]at hi
        simp only[XD,XZ]at hi
        subst hi
        rw[Wt]at hq
        split at hq
        · rename_i bW
          have:=dv i (by omega)
          rw[V1,hq]at this
          exact this
        · cases hq
    · rw [hlen]
      exact Vf (WL _ (by omega)) z
theorem CX (ew : (YO P ts ds).all (· ≤ reachBytes) = true) (ht : ts[j]? = some t) (hd : ds[j]? = some d) (hu : P.underlying t = some (.slice e)) (he : P.underlying e = some (.int .u8))
    (hc:P.cellsOf e=1) (hB:P.bytesOf e=1) (hv:Z8 P W .any base t v) (h:DataW.Trod enc P W 0 (fun _=>true) held t v d ps):
    ∃l:List UInt8,Sl vb W v l∧l.length≤140737488351232:=by
  obtain⟨l,⟨A,c,rfl,h1,h2,dv⟩,hw,hl⟩:=Ej ew ht hd hu he hc hB hv h
  have PA:(l.map fun n=>Wp n.toNat).map vb=l.map (Vn .u8):=by
    rw[Wz]
    apply WZ
    intro n hn
    have:=hw n hn
    simp[Lit.wf,IntKind.min,IntKind.max,V3,V6]at this
    simp only[ZX,vb]
    congr 1
    have h:=YE (n:=n.toNat)
    rw[h]
    omega
  refine⟨l.map fun n=>Wp n.toNat,⟨A,c,by simp,by simpa using h1,h2,by rw[PA];exact dv⟩,by simpa using hl⟩
end
end Go.Rl
namespace Go.Rl
open Go.RowKit
section
variable {P:Program} {n:Nat} {Q:eN} {R:Nat→Value} {w:World} {K:Value→World→Prop} {dst:Option Tmp} {ty:TypeId} {pos:String} {af:Array Edge} {gd:Option (Nat×Bool)}
variable {α:Type} {enc:α→Value}
theorem F1 {x y:Operand} {k:IntKind} {a b:Int} {px:Array TypeId} (hx:ev R x=.int k a) (hy:ev R y=.int k b):Ev P ⟨dst,.call ⟨.builtin .min,#[x,y],px⟩,ty,pos,af,gd⟩ R w (.int k (min a b)):=by
  have h:(if b<a then b else a)=min a b:=by omega
  simp[Ev,execOp,resolve,invoke,builtin,abq,abr,hx,hy,h]
theorem AJ {x y:Operand} {k:IntKind} {a b:Int} {px:Array TypeId} (hx:ev R x=.int k a) (hy:ev R y=.int k b):Ev P ⟨dst,.call ⟨.builtin .max,#[x,y],px⟩,ty,pos,af,gd⟩ R w (.int k (max a b)):=by
  have h:(if a<b then b else a)=max a b:=by omega
  simp[Ev,execOp,resolve,invoke,builtin,Builtin.max_,Builtin.max2,hx,hy,h]
theorem r9 (z:Value) (m:Nat):(madeCells #[z] m)=(Vm m z).toArray:=by
  have:=toList_madeCells_one z m
  rw[←this]
theorem A7 {t e : TypeId} {x : Operand} {z : α} {bytes : Nat} {k : IntKind} {m : Int} (ht : P.underlying t = some (.slice e)) (fa : (P.info? e).map (fun i => (i.zero, i.size, i.bytes)) = some (some (enc z), 1, bytes)) (hz : (enc z).cells = #[enc z])
    (hx:ev R x=.int k m) (h0:0≤m) (ju:bytes*m.toNat≤281474976710656) (Sg:m≤9223372036854775807)
    (h:∀w',dy enc e w' w.heap.size (.slice (some ⟨w.heap.size,0,none⟩) m.toNat m.toNat) (Vm m.toNat z)→fV w' w.heap.size (Vm m.toNat (enc z)) e→Ext w w'→w'.heap.size=w.heap.size+1→K (.slice (some ⟨w.heap.size,0,none⟩) m.toNat m.toNat) w'):
    dQ P ⟨dst,.makeSlice t x x,ty,pos,af,gd⟩ R w K:=by
  obtain⟨j,rfl⟩:∃j:Nat,m=j:=⟨m.toNat,by omega⟩
  rw[WN]at*
  have eB:=run_make_row' (P:=P) t e (enc z) bytes ht fa hz k k j ju (by omega) w
  rw[r9]at eB
  refine dQ.value (v:=.slice (some ⟨w.heap.size,0,none⟩) j j) (w':=w.alloc (.cells (Vm j (enc z)).toArray e)) ?_ (h _ ?_ ?_ (Ext.alloc _ _) (by simp))
  · simp[execOp,hx,eB]
  · unfold dy
    refine⟨by simp,.inr ⟨w.heap.size,j,(Vm j (enc z)).toArray,by simp,Vv _,?_,by simp,by unfold maxLen;omega,by simp,?_⟩⟩
    · rw[heap_alloc_new]
    · rw[Vo (by simp)];simp
  · have := fV.new w (Vm j (enc z)).toArray e
    simpa using this
theorem ob {t tu e : TypeId} {s x : Operand} {v : Value} {l m : List UInt8} {base : Nat} (ht : P.underlying t = some (.slice e)) (Tb : P.underlying tu = some .string)
    (fa:(P.info? e).map (fun i=>(i.zero,i.size,i.bytes))=some (some (.int .u8 0),1,1)) (hs:dy vb e w base v l) (hx:ev R s=v) (hy:ev R x=str m)
    (hlen:l.length+m.length≤140737488355328) (FD:base≤w.heap.size)
    (h:∀v' w',dy vb e w' base v' (l++m)→Mod (fun k=>v.ownBlock=some k) w w'→K v' w'):
    dQ P ⟨dst,.call ⟨.builtin .append,#[s,x],#[t,tu]⟩,ty,pos,af,gd⟩ R w K:=by
  have As:∃i,P.info? e=some i∧i.zero=some (.int .u8 0)∧i.size=1∧i.bytes=1:=by
    cases hq:P.info? e with
    |none=>simp[hq]at fa
    |some i=>simp[hq]at fa;exact⟨i,rfl,fa⟩
  obtain⟨i,hi,Bl,xk,Ku⟩:=As
  have ew:(⟨m.toArray⟩:ByteArray).size=m.length:=by simp[ZB]
  obtain⟨v',w',eB,Ak,yC,_⟩:=Lib.run_append_own_string (P:=P) (w:=w) base t tu ty e i ht Tb hi Bl xk Ku v l.length (l.map vb) hs ⟨m.toArray⟩ (by unfold maxLen;omega) (by omega) FD
  have KH:Lib.strCells ⟨m.toArray⟩=m.map vb:=by simp[Lib.strCells,vb]
  refine dQ.value (v:=v') (w':=w') ?_ (h v' w' ?_ (Mod.rU yC))
  · simp only [execOp, resolve, invoke, builtin, Wn, VC, We, hx, hy, str]
    simp[eB]
  · unfold dy
    rw[ew,KH]at Ak
    simpa using Ak
theorem bt {x:Operand} {a:Addr} (hx:ev R x=.pointer (some a)):Ev P ⟨dst,.nilCheck x,ty,pos,af,gd⟩ R w (.pointer (some a)):=by simp[Ev,execOp,hx]
theorem B1 {t e:TypeId} {p:Option Addr} (ht:P.underlying t=some (.pointer e)):(Op.equal t (.pointer p) (.pointer none)).run P w=.ok (decide (p=none)) w:=by
  show(ZM (9999+1) t (.pointer p) (.pointer none)).run P w=_
  generalize 9999=d
  cases p<;>simp[ZM,run_underlying ht]
theorem iI {xt yt e:TypeId} {x y:Operand} {p:Option Addr} (ht:P.underlying xt=some (.pointer e)) (hx:ev R x=.pointer p) (hy:ev R y=.pointer none):
    Ev P ⟨dst,.binOp .eql xt x y yt,ty,pos,af,gd⟩ R w (.bool (decide (p=none))):=by
  have h:=B1 (w:=w) (p:=p) ht
  simp only[Ev,execOp,hx,hy,eqGuard,binOp]
  simp[h]
theorem Ce {f : FuncId} {fn : Func} {px : Array TypeId} {x fv : Operand} {v1 : Value} {first captured : Array Value} (hf : P.funcs[f]? = some fn) (hn : (fn.name == "runtime.NumGoroutine") = false) (hb : fn.body.isSome = true)
    (Fq:ev R fv=.func (.func f) first captured) (hx:ev R x=v1) (h:al P f (first++#[v1]++captured) w K):dQ P ⟨dst,.call ⟨.value fv,#[x],px⟩,ty,pos,af,gd⟩ R w K:=
  dQ.enter (f:=f) (args:=first++#[v1]++captured) (w':=w) (by
    subst hx
    have:=dF (P:=P) (w:=w) (first++#[ev R x]++captured) hf hn hb
    simp only[execOp,resolve,Fq,Wy,Wn,VC,We,VM,WG,VU,invoke]
    exact this) h
theorem uP {f : FuncId} {fn : Func} {px : Array TypeId} {x fv : Operand} {v1 : Value} (hf : P.funcs[f]? = some fn) (hn : (fn.name == "runtime.NumGoroutine") = false) (hb : fn.body.isSome = true)
    (Fq:ev R fv=.func (.func f) #[] #[]) (hx:ev R x=v1) (h:al P f #[v1] w K):dQ P ⟨dst,.call ⟨.value fv,#[x],px⟩,ty,pos,af,gd⟩ R w K:=Ce hf hn hb Fq hx h
theorem oB {t : TypeId} {parts : Array (Nat × Operand)} {ps : List (Nat × Value)} {z : Value} {fs : Array Field} {places : Array (Nat × Nat)} {cs : List Value} (ht : P.underlying t = some (.struct fs)) (hz : (P.info? t).map (·.zero) = some (some z))
    (GH:∀w,(fs.mapM fun(f:Field)=>do pure (f.offset,←sizeOf f.type)).run P w=.ok places w) {pl:List (Nat×Operand)} (hp:parts.toList=pl) (Cq:(pl.map fun(i,x)=>(i,ev R x))=ps) (hf:W9 (places[·]?) z.cells ps=some cs.toArray):
    Ev P ⟨dst,.build t parts,ty,pos,af,gd⟩ R w (.agg cs.toArray):=by
  have JY:(zeroValue t).run P w=.ok z w:=by
    cases hq:P.info? t with
    |none=>simp[hq]at hz
    |some i=>
      have:i.zero=some z:=by simpa[hq]using hz
      simp[zeroValue,typeInfo,hq,this]
  have J9:(parts.map fun(i,x)=>(i,ev R x)).toList=ps:=by rw[X9,hp,Cq]
  simp only[Ev,execOp,aco,VM,JY,VU,run_underlying ht,GH,J9,hf,WG]
theorem CM {t e : TypeId} {x hi : Operand} {v : Value} {l : List α} {k : IntKind} {b : Int} (ht : P.underlying t = some (.slice e)) (ew : (P.info? e).map (·.size) = some 1)
    (hs:Sl enc w v l) (hx:ev R x=v) (mj:ev R hi=.int k b) {mx:Operand} (Kj:ev R mx=.int k b) (h1:0≤b) (h2:b≤l.length):
    Ev P ⟨dst,.slice t x none (some hi) (some mx),ty,pos,af,gd⟩ R w (match v with|.slice A _ _=>.slice (if b.toNat=0 then A else A.map (·.add (0*1))) b.toNat b.toNat|v=>v):=by
  obtain⟨A,c,rfl,GI,hm,hc⟩:=hs
  have iN:0≤b∧b≤(c:Int):=⟨by omega,by omega⟩
  have jR:0≤b∧b≤max b 0:=⟨by omega,by omega⟩
  simp[Ev,execOp,hx,mj,Kj,YJ,Zm,run_underlying ht,XY,X8,asIntOf,iN,jR,ey (w:=w) ew]
def CW (v:Value) (hi:Nat):Value:=match v with
  |.slice A _ _=>.slice A hi hi
  |v=>v
theorem K7 {t e : TypeId} {x hi : Operand} {v : Value} {l : List α} {k : IntKind} {b : Int} (ht : P.underlying t = some (.slice e)) (ew : (P.info? e).map (·.size) = some 1)
    (hs:Sl enc w v l) (hx:ev R x=v) (mj:ev R hi=.int k b) {mx:Operand} (Kj:ev R mx=.int k b) (h1:0≤b) (h2:b≤l.length):
    Ev P ⟨dst,.slice t x none (some hi) (some mx),ty,pos,af,gd⟩ R w (CW v b.toNat):=by
  have h:=CM (dst:=dst) (ty:=ty) (pos:=pos) (af:=af) (gd:=gd) ht ew hs hx mj Kj h1 h2
  obtain⟨A,c,rfl,GI,hm,hc⟩:=hs
  have e0:(if b.toNat=0 then A else A.map (·.add (0*1)))=A:=by
    split
    · rfl
    · cases A<;>rfl
  simp only[e0]at h
  exact h
theorem Sl.CW {v:Value} {hi:Nat} {l:List α} (h:Sl enc w v l) (mj:hi≤l.length):Sl enc w (CW v hi) (l.take hi):=by
  obtain⟨A,c,rfl,h1,h2,hc⟩:=h
  have hlen:(l.take hi).length=hi:=by simp;omega
  refine⟨A,hi,by rw[hlen];rfl,by omega,by omega,?_⟩
  have:=hc.take hi
  simpa[abg]using this
theorem AM {v:Value} {l:List α} (h:Sl enc w v l) (hi:Nat):(Rl.CW v hi).ownBlock=v.ownBlock:=by
  obtain⟨A,c,rfl,_⟩:=h
  cases A<;>rfl
end
theorem mS {n:Nat} {R:Nat→Value} {ops:Array Oper} {a:Act} (ha:AtR n R a) {j d:Nat} (hj:(ops[j]?).bind (·.dst)=some d) (o8:d<n) (hb:R d=undef):yielded ops a.tmps j=none:=by
  have h1:a.tmps[d]?=some undef:=by
    have:=ha.kg d
    have hl:d<a.tmps.size:=by rw[ha.size];exact o8
    simp[hl]at this
    simp[hl,this,hb]
  simp[yielded,hj,h1,undef]
theorem RL.kK {P : Program} {n : Nat} {Q : eN} {R : Nat → Value} {w : World} {ops : Array Oper} {o : Oper} {rest : List Oper} {j : Nat} {want : Bool} {d : Nat} (hg : o.guard = some (j, want)) (hj : (ops[j]?).bind (·.dst) = some d) (o8 : d < n)
    (hb:R d=undef) (hd:eS n o.dst=true) (h:RL P n ops Q rest (fW R o.dst undef) w):
    RL P n ops Q (o::rest) R w:=fun a ha=>by
  refine wpList_step fun K hK=>?_
  rw[if_neg (by simp[VW,hg,mS ha hj o8 hb])]
  exact hK _ _ (h _ (ha.put hd undef))
end Go.Rl
namespace Go.Rl
open Go.RowKit
section
variable {P:Program} {n:Nat} {Q:eN} {R:Nat→Value} {w:World} {K:Value→World→Prop} {dst:Option Tmp} {ty:TypeId} {pos:String} {af:Array Edge} {gd:Option (Nat×Bool)}
variable {α:Type} {enc:α→Value}
theorem bI {ty : TypeId} {g : Nat} {t : TypeId} {cs : List Value} {d : TypeDesc} (hb : fV w g cs t) (hu : P.underlying ty = some d)
    (hd:(match d with|.struct _|.array _ _=>true|_=>false)=true) (hi:(P.info? ty).map (·.size)=some cs.length):(loadVar ty ⟨g,0,none⟩).run P w=.ok (.agg cs.toArray) w:=
  run_loadVar_row (P:=P) w g t ty cs.toArray (0,0) d hb hu hd (by simpa using hi)
theorem RV.bV {fn : Func} {p u : Tmp} {ty : TypeId} (h : fn.results = #[.cell p ty, .tmp u]) {g : Nat} {v : Value}
    (hp:R p=.pointer (some ⟨g,0,none⟩)) (hc:(loadVar ty ⟨g,0,none⟩).run P w=.ok v w):RV P fn n R w (.tuple #[v,R u]):=fun a ha=>by
  have h1:=ha.kg p;have h2:=ha.kg u
  rw[hp]at h1
  rw[Xt]at h1 h2
  simp[results,h,h1,h2,hc,asAddr]
theorem y4 {f:FuncId} {captured:Array Operand} {vs:Array Value} (h:captured.map (ev R)=vs):Ev P ⟨dst,.makeFunc (.func f) #[] captured,ty,pos,af,gd⟩ R w (.func (.func f) #[] vs):=by
  subst h
  simp[Ev,execOp,aa7]
abbrev Hd:=Option Addr×Nat×Nat
abbrev vh (h:Hd):Value:=.slice h.1 h.2.1 h.2.2
theorem jT (h:Hd):(vh h).oneCell'=true:=rfl
theorem Sl.hd {v:Value} {l:List α} (h:Sl enc w v l):∃a:Hd,v=vh a:=by obtain⟨A,c,rfl,_⟩:=h;exact⟨(A,l.length,c),rfl⟩
theorem Sl.cO {v:Value} {l:List α} (h:Sl enc w v l):v.cells=#[v]:=by obtain⟨A,c,rfl,_⟩:=h;rfl
theorem Sl.bJ {v:Value} {l:List α} (h:Sl enc w v l):v.oneCell'=true:=by obtain⟨A,c,rfl,_⟩:=h;rfl
def jD (enc:α→Value) (b:Nat) (w:World) (v:Value) (l:List α):Prop:=Sl enc w v l∧(l≠[]→∀k,v.ownBlock=some k→k<b)
theorem jD.sl {b:Nat} {v:Value} {l:List α} (h:jD enc b w v l):Sl enc w v l:=h.1
theorem Sl.below {v:Value} {l:List α} (h:Sl enc w v l):jD enc w.heap.size w v l:=⟨h,fun hl=>h.lt hl⟩
theorem jD.nil (enc:α→Value) (b:Nat) (w:World):jD enc b w (.slice none 0 0) []:=⟨Sl.nil _ _,fun h=>absurd rfl h⟩
theorem Sl.LY {M:Nat→Prop} {w w':World} {v:Value} {l:List α} (h:Sl enc w v l) (hm:Mod M w w') (hb:l≠[]→∀k,v.ownBlock=some k→¬M k):Sl enc w' v l:=by
  by_cases hl:l=[]
  · subst hl
    obtain⟨A,c,h1,h2,h3,h4⟩:=h
    exact⟨A,c,h1,h2,h3,Cells.nil _ _⟩
  · exact h.mod hm (hb hl)
theorem jD.mod {M:Nat→Prop} {w w':World} {b:Nat} {v:Value} {l:List α} (h:jD enc b w v l) (hm:Mod M w w') (hb:∀k,k<b→¬M k):jD enc b w' v l:=
  ⟨h.1.LY hm fun hl k hk=>hb k (h.2 hl k hk),h.2⟩
theorem jD.ext {w w':World} {b:Nat} {v:Value} {l:List α} (h:jD enc b w v l) (hm:Ext w w'):jD enc b w' v l:=h.mod hm (fun _ _ e=>e)
theorem jD.fM {b:Nat} {v:Value} {lo:Nat} {l:List α} (h:jD enc b w v l) (nO:lo≤l.length):jD enc b w (jy v lo l.length) (l.drop lo):=
  ⟨h.1.fM nO,fun hl k hk=>h.2 (fun e=>hl (by rw[e];simp)) k (by rw[ik h.1]at hk;exact hk)⟩
end
end Go.Rl
namespace Go.Rl
open Go.RowKit
structure Atom where
  dg:Nat→Prop
  says:World→Prop
  jo:∀{w w':World},(∀k,dg k→k<w.heap.size→w'.heap[k]?=w.heap[k]?)→says w→says w'
structure ak (w0:World) (F:Nat→Prop) (w:World) (L:List Atom):Prop where
  mod:Mod F w0 w
  says:∀(i:Nat) a,L[i]?=some a→a.says w
  low:∀(i:Nat) a,L[i]?=some a→∀k,a.dg k→(F k∨w0.heap.size≤k)∧k<w.heap.size
  sep:∀(i j:Nat) a b,i≠j→L[i]?=some a→L[j]?=some b→∀k,a.dg k→¬b.dg k
abbrev none_:Nat→Prop:=fun _=>False
section
variable {w0 w w':World} {F:Nat→Prop} {L M:List Atom} {a a' b:Atom}
theorem ak.nil (w:World) (F:Nat→Prop):ak w F w []:=⟨Mod.refl _ _,by simp,by simp,by simp⟩
theorem ak.aE (h:ak w0 none_ w L):Ext w0 w:=h.mod
theorem ak.size (h:ak w0 F w L):w0.heap.size≤w.heap.size:=h.mod.size
theorem ak.step {G:Nat→Prop} (h:ak w0 F w L) (hm:Mod G w w') (hF:∀k,k<w.heap.size→G k→F k∨w0.heap.size≤k) (hG:∀(i:Nat) a,L[i]?=some a→∀k,a.dg k→¬G k):ak w0 F w' L:=
  ⟨⟨hm.os.trans h.mod.os,hm.tape.trans h.mod.tape,hm.output.trans h.mod.output,Vf h.mod.size hm.size,fun k hk hM=>
      (hm.block k (Wh hk h.mod.size) fun e=>(hF k (Wh hk h.mod.size) e).elim hM (fun h=>absurd hk (Yk.2 h))).trans (h.mod.block k hk hM)⟩,
    fun i a ha=>a.jo (fun k hk bW=>hm.block k bW (hG i a ha k hk)) (h.says i a ha),
    fun i a ha k hk=>⟨(h.low i a ha k hk).1,Wh (h.low i a ha k hk).2 hm.size⟩,h.sep⟩
theorem ak.ext (h:ak w0 F w L) (he:Ext w w'):ak w0 F w' L:=h.step he (fun _ _ e=>e.elim) (fun _ _ _ _ _ e=>e)
theorem ak.add (h:ak w0 F w L) (hs:a.says w) (hf:∀k,a.dg k→w0.heap.size≤k∧k<w.heap.size) (hd:∀(i:Nat) b,L[i]?=some b→∀k,b.dg k→¬a.dg k):ak w0 F w (a::L):=by
  refine⟨h.mod,?_,?_,?_⟩
  · intro i b hb
    cases i with
    |zero=>cases hb;exact hs
    |succ i=>exact h.says i b (by simpa using hb)
  · intro i b hb
    cases i with
    |zero=>cases hb;exact fun k hk=>⟨.inr (hf k hk).1,(hf k hk).2⟩
    |succ i=>exact h.low i b (by simpa using hb)
  · intro i j b c nz hb hc
    cases i with
    |zero=>
      cases hb
      cases j with
      |zero=>exact absurd rfl nz
      |succ j=>exact fun k hk hC=>hd j c (by simpa using hc) k hC hk
    |succ i=>
      cases j with
      |zero=>cases hc;exact hd i b (by simpa using hb)
      |succ j=>exact h.sep i j b c (by omega) (by simpa using hb) (by simpa using hc)
theorem ak.push (h:ak w0 F w L) (he:Ext w w') (hs:a.says w') (hf:∀k,a.dg k→w.heap.size≤k∧k<w'.heap.size):ak w0 F w' (a::L):=
  (h.ext he).add hs (fun k hk=>⟨Vf h.size (hf k hk).1,(hf k hk).2⟩) (fun i b hb k hk hC=>by
    have:=(h.low i b hb k hk).2
    have:=(hf k hC).1
    omega)
theorem ak.aZ (h:ak w0 F w L) (i:Nat) (hi:L[i]?=some a) (hm:Mod a.dg w w') (hs:a'.says w') (hf:∀k,a'.dg k→(a.dg k∨w.heap.size≤k)∧k<w'.heap.size):ak w0 F w' (L.set i a'):=by
  have bW:i<L.length:=(U5.1 hi).1
  have Cf:∀j c,j≠i→L[j]?=some c→∀k,c.dg k→¬a.dg k:=fun j c hj hc k hk hC=>h.sep j i c a hj hc hi k hk hC
  have get:∀j c,(L.set i a')[j]?=some c→(j=i∧c=a')∨(j≠i∧L[j]?=some c):=by
    intro j c hc
    rw[Wu]at hc
    by_cases hj:i=j
    · subst hj
      rw[if_pos rfl,if_pos bW]at hc
      exact .inl ⟨rfl,(Vq hc).symm⟩
    · rw [if_neg hj] at hc
      exact .inr ⟨fun e=>hj e.symm,hc⟩
  have up:∀k,a.dg k→F k∨w0.heap.size≤k:=fun k hk=>(h.low i a hi k hk).1
  refine⟨⟨hm.os.trans h.mod.os,hm.tape.trans h.mod.tape,hm.output.trans h.mod.output,Vf h.mod.size hm.size,fun k hk hM=>
      (hm.block k (Wh hk h.mod.size) fun e=>(up k e).elim hM (fun h=>absurd hk (Yk.2 h))).trans (h.mod.block k hk hM)⟩,?_,?_,?_⟩
  · intro j c hc
    rcases get j c hc with⟨_,rfl⟩|⟨hj,hc⟩
    · exact hs
    · exact c.jo (fun k hk bW=>hm.block k bW (Cf j c hj hc k hk)) (h.says j c hc)
  · intro j c hc k hk
    rcases get j c hc with⟨_,rfl⟩|⟨hj,hc⟩
    · exact⟨(hf k hk).1.elim (up k) (fun e=>.inr (Vf h.size e)),(hf k hk).2⟩
    · exact⟨(h.low j c hc k hk).1,Wh (h.low j c hc k hk).2 hm.size⟩
  · intro j j' c c' N6 hc tW k hk hC
    rcases get j c hc with⟨rfl,rfl⟩|⟨hj,hc⟩<;>rcases get j' c' tW with⟨rfl,rfl⟩|⟨Kq,tW⟩
    · exact N6 rfl
    · rcases (hf k hk).1 with e | e
      · exact Cf j' c' Kq tW k hC e
      · exact absurd (h.low j' c' tW k hC).2 (Yk.2 e)
    · rename_i Oa
      rcases(hf k hC).1 with e|e
      · exact Cf j c hj Oa k hk e
      · exact absurd (h.low j c Oa k hk).2 (Yk.2 e)
    · exact h.sep j j' c c' N6 (by assumption) tW k hk hC
theorem ak.sub (h:ak w0 F w L) (p:List Nat) (hp:p.Nodup) (hM:M.map some=p.map (fun i=>L[i]?)):ak w0 F w M:=by
  have get:∀(j:Nat) c,M[j]?=some c→∃i,p[j]?=some i∧L[i]?=some c:=by
    intro j c hc
    have h1:(M.map some)[j]?=some (some c):=by rw[Wf,hc];rfl
    rw[hM,Wf]at h1
    cases hq:p[j]? with
    |none=>rw[hq]at h1;cases h1
    |some i=>rw[hq]at h1;exact⟨i,rfl,Vq h1⟩
  refine⟨h.mod,?_,?_,?_⟩
  · intro j c hc
    obtain⟨i,_,hi⟩:=get j c hc
    exact h.says i c hi
  · intro j c hc
    obtain⟨i,_,hi⟩:=get j c hc
    exact h.low i c hi
  · intro j j' c c' N6 hc tW
    obtain⟨i,hj,hi⟩:=get j c hc
    obtain⟨i',Kq,Kv⟩:=get j' c' tW
    refine h.sep i i' c c' ?_ hi Kv
    rintro rfl
    obtain⟨hl,e⟩:=U5.1 hj
    obtain⟨N5,e'⟩:=U5.1 Kq
    exact N6 ((List.getElem_inj hp).1 (e.trans e'.symm))
theorem ak.dU (h:ak w0 F w L) (hc:ak w none_ w' M):ak w0 F w' (M++L):=by
  have he:=h.ext hc.mod
  have get:∀(j:Nat) c,(M++L)[j]?=some c→(j<M.length∧M[j]?=some c)∨(M.length≤j∧L[j-M.length]?=some c):=by
    intro j c hj
    rcases VH j M.length with h|h
    · rw[VR h]at hj;exact .inl ⟨h,hj⟩
    · rw[VQ h]at hj;exact .inr ⟨h,hj⟩
  have new:∀(j:Nat) c,M[j]?=some c→∀k,c.dg k→w.heap.size≤k∧k<w'.heap.size:=fun j c hj k hk=>⟨(hc.low j c hj k hk).1.elim (fun e=>e.elim) id,(hc.low j c hj k hk).2⟩
  refine⟨he.mod,?_,?_,?_⟩
  · intro j c hj
    rcases get j c hj with⟨_,e⟩|⟨_,e⟩
    · exact hc.says _ c e
    · exact he.says _ c e
  · intro j c hj k hk
    rcases get j c hj with⟨_,e⟩|⟨_,e⟩
    · exact⟨.inr (Vf h.size (new _ c e k hk).1),(new _ c e k hk).2⟩
    · exact he.low _ c e k hk
  · intro i j c d nz hi hj k hk hC
    rcases get i c hi with⟨l1,e1⟩|⟨l1,e1⟩<;>rcases get j d hj with⟨l2,e2⟩|⟨l2,e2⟩
    · exact hc.sep i j c d nz e1 e2 k hk hC
    · have:=(new _ c e1 k hk).1;have:=(h.low _ d e2 k hC).2;omega
    · have:=(new _ d e2 k hC).1;have:=(h.low _ c e1 k hk).2;omega
    · exact he.sep (i-M.length) (j-M.length) c d (by omega) e1 e2 k hk hC
end
section
variable {α:Type} {enc:α→Value} {w0 w w':World} {F:Nat→Prop} {L M:List Atom}
def Atom.own (enc:α→Value) (E:TypeId) (v:Value) (l:List α):Atom where
  dg k:=v.ownBlock=some k
  says w:=dy enc E w 0 v l
  jo:=by
    intro w w' h hs
    unfold dy Xj at*
    refine⟨hs.1,hs.2.imp id ?_⟩
    rintro⟨g,cap,cur,rfl,Bq,hh,hr⟩
    exact⟨g,cap,cur,rfl,Bq,(h g rfl (VD.1 hh).1).trans hh,hr⟩
def Atom.aA (g:Nat) (cs:List Value) (T:TypeId):Atom where
  dg k:=k=g
  says w:=fV w g cs T
  jo:=by
    intro w w' h hs
    unfold fV at*
    exact(h g rfl (VD.1 hs).1).trans hs
def Atom.dT (enc:α→Value) (hs:List Hd) (ls:List (List α)):Atom where
  dg k:=∃h∈hs,(vh h).ownBlock=some k
  says w:=hs.length=ls.length∧∀(i:Nat) h l,hs[i]?=some h→ls[i]?=some l→Sl enc w (vh h) l∧∀k,(vh h).ownBlock=some k→k<w.heap.size
  jo:=by
    intro w w' hb ⟨h1,h2⟩
    refine⟨h1,fun i h l hi hl=>?_⟩
    have h3:=h2 i h l hi hl
    obtain⟨⟨A,c,he,g1,g2,hc⟩,bW⟩:=h3
    have key:∀k,(vh h).ownBlock=some k→w'.heap[k]?=w.heap[k]?:=fun k hk=>hb k ⟨h,UZ hi,hk⟩ (bW k hk)
    refine⟨⟨A,c,he,g1,g2,fun j v hv=>?_⟩,fun k hk=>?_⟩
    · obtain ⟨ad, e, dv⟩ := hc j v hv
      refine⟨ad,e,?_⟩
      rw[WJ (key _ (by rw[he,e,block_add];rfl)),dv]
    · have e := key k hk
      have hl:=bW k hk
      rw[WU hl]at e
      exact(VD.1 e).1
theorem ak.own (h:ak w0 F w L) (i:Nat) {E:TypeId} {v:Value} {l:List α} (hi:L[i]?=some (.own enc E v l)):dy enc E w 0 v l:=h.says i _ hi
theorem ak.sl (h:ak w0 F w L) (i:Nat) {E:TypeId} {v:Value} {l:List α} (hi:L[i]?=some (.own enc E v l)):Sl enc w v l:=(h.own i hi).sl
theorem ak.aA (h:ak w0 F w L) (i:Nat) {g:Nat} {cs:List Value} {T:TypeId} (hi:L[i]?=some (.aA g cs T)):fV w g cs T:=h.says i _ hi
theorem dy.lift {E:TypeId} {v:Value} {l:List α} {base p6:Nat} (h:dy enc E w base v l) (hb:∀k,v.ownBlock=some k→p6≤k):dy enc E w p6 v l:=by
  unfold dy Xj at*
  refine⟨h.1,h.2.imp id ?_⟩
  rintro⟨g,cap,cur,rfl,_,hr⟩
  exact⟨g,cap,cur,rfl,hb g rfl,hr⟩
theorem ak.dA (h:ak w0 none_ w L) (i:Nat) {E:TypeId} {v:Value} {l:List α} (hi:L[i]?=some (.own enc E v l)):dy enc E w w0.heap.size v l:=
  (h.own i hi).lift fun k hk=>(h.low i _ hi k hk).1.elim (fun e=>e.elim) id
theorem ak.cj (h:ak w0 F w L) (enc:α→Value) (E:TypeId):ak w0 F w (.own enc E (.slice none 0 0) []::L):=
  h.add (dy.nil _ _ _ _) (fun k hk=>by cases hk) (fun _ _ _ _ _ hk=>by cases hk)
theorem ak.bx (h:ak w0 F w L) {E:TypeId} {v:Value} {l:List α} (ho:dy enc E w' w.heap.size v l) (he:Ext w w'):ak w0 F w' (.own enc E v l::L):=
  h.push he (ho.lower (VP _)) (fun k hk=>ho.lt k hk)
theorem ak.A2 (h:ak w0 F w L) {g:Nat} {cs:List Value} {T:TypeId} (hb:fV w' g cs T) (he:Ext w w') (hg:w.heap.size≤g):ak w0 F w' (.aA g cs T::L):=
  h.push he hb (fun k hk=>by cases hk;exact⟨hg,hb.lt⟩)
end
section
variable {P:Program} {n:Nat} {Q:eN} {R:Nat→Value} {w0 w:World} {F:Nat→Prop} {L:List Atom} {K:Value→World→Prop} {dst:Option Tmp} {ty:TypeId} {pos:String} {af:Array Edge} {gd:Option (Nat×Bool)}
variable {α:Type} {enc:α→Value}
theorem bD {t e : TypeId} {s x : Operand} {v u : Value} {l m : List α} {z : Value} {bytes : Nat} (ht : P.underlying t = some (.slice e))
    (fa:(P.info? e).map (fun i=>(i.zero,i.size,i.bytes))=some (some z,1,bytes)) (hz:z.cells.size=1) (h1:∀a,(enc a).oneCell'=true)
    (hN:ak w0 F w L) (i:Nat) (hi:L[i]?=some (.own enc e v l)) (hx:ev R s=v) (hu:Sl enc w u m) (hy:ev R x=u) (hlen:(l.length+m.length)*bytes≤140737488355328) (ju:0<bytes)
    (h:∀v' w',ak w0 F w' (L.set i (.own enc e v' (l++m)))→K v' w'):
    dQ P ⟨dst,.call ⟨.builtin .append,#[s,x],#[t,t]⟩,ty,pos,af,gd⟩ R w K:=
  eg ht fa hz h1 (hN.own i hi) hx hu hy hlen ju (VP _) fun v' w' ho hm hk=>h v' w' <| hN.aZ i hi hm ho fun k hC=>by
    have bW:=(ho.lt k hC).2
    refine⟨?_,bW⟩
    rcases hk with e|e
    · exact .inl (e.symm.trans hC)
    · exact .inr (Xn (Vq (e.symm.trans hC)))
theorem iy {t e : TypeId} {x : Operand} {z : α} {bytes : Nat} {k : IntKind} {m : Int} (ht : P.underlying t = some (.slice e)) (fa : (P.info? e).map (fun i => (i.zero, i.size, i.bytes)) = some (some (enc z), 1, bytes)) (hz : (enc z).cells = #[enc z])
    (hN:ak w0 F w L) (hx:ev R x=.int k m) (h0:0≤m) (ju:bytes*m.toNat≤281474976710656) (Sg:m≤9223372036854775807)
    (h:∀v w',ak w0 F w' (.own enc e v (Vm m.toNat z)::L)→K v w'):
    dQ P ⟨dst,.makeSlice t x x,ty,pos,af,gd⟩ R w K:=
  A7 ht fa hz hx h0 ju Sg fun w' ho _ he _=>h _ w' (hN.bx ho he)
theorem bS {t e : TypeId} {len : Nat} {parts : Array (Nat × Operand)} {xs : List Operand} {l : List α} (ht : P.underlying t = some (.slice e)) (ew : (P.info? e).map (·.size) = some 1)
    (hz:((P.info? e).bind (·.zero)).isSome=true) (sr:parts.toList=(xs.zipIdx 0).map fun x=>(x.2,x.1)) (hv:xs.map (ev R)=l.map enc) (hc:∀a,(enc a).cells=#[enc a])
    (hlen:len=l.length) (gg:0<len) (Ah:len≤2^24) (hN:ak w0 F w L)
    (h:∀g w',ak w0 F w' (.own enc e (.slice (some ⟨g,0,none⟩) len len) l::L)→K (.slice (some ⟨g,0,none⟩) len len) w'):
    dQ P ⟨dst,.buildSlice t len parts,ty,pos,af,gd⟩ R w K:=
  nu ht ew hz sr hv hc hlen gg Ah fun w' ho _ he _=>h _ w' (hN.bx ho he)
theorem aX {t : TypeId} {z : Value} {cs : List Value} (hz : (P.info? t).map (·.zero) = some (some z)) (hc : z.cells = cs.toArray) (hN : ak w0 F w L)
    (h:∀g w',ak w0 F w' (.aA g cs t::L)→K (.pointer (some ⟨g,0,none⟩)) w'):dQ P ⟨dst,.alloc t,ty,pos,af,gd⟩ R w K:=
  fB hz hc fun w' hb he _=>h _ w' (hN.A2 hb he (Vv _))
theorem bq {t : TypeId} {x : Operand} {v : Value} {cs : List Value} (hx : ev R x = v) (hc : v.cells = cs.toArray) (hN : ak w0 F w L)
    (h:∀g w',ak w0 F w' (.aA g cs t::L)→K (.pointer (some ⟨g,0,none⟩)) w'):dQ P ⟨dst,.box t x,ty,pos,af,gd⟩ R w K:=
  oZ hx hc fun w' hb he _=>h _ w' (hN.A2 hb he (Vv _))
theorem b9 {t : TypeId} {x y : Operand} {g j : Nat} {v : Value} {cs : List Value} {T : TypeId} (ew : (P.info? t).map (·.size) = some 1)
    (hx:ev R x=.pointer (some ⟨g,j,none⟩)) (hy:ev R y=v) (hv:v.cells=#[v]) (h1:v.oneCell'=true) (hN:ak w0 F w L) (i:Nat) (hi:L[i]?=some (.aA g cs T)) (hj:j<cs.length)
    (h:∀w',ak w0 F w' (L.set i (.aA g (cs.set j v) T))→K undef w'):dQ P ⟨dst,.store t x y,ty,pos,af,gd⟩ R w K:=
  kn ew hx hy hv h1 (hN.aA i hi) hj fun w' hb hm hs=>h w' (hN.aZ i hi hm hb fun k hk=>⟨.inl hk,by cases hk;exact hb.lt⟩)
theorem aC {t : TypeId} {x y : Operand} {g : Nat} {v : Value} {cs vs : List Value} {T : TypeId} (ew : (P.info? t).map (·.size) = some vs.length)
    (hx:ev R x=.pointer (some ⟨g,0,none⟩)) (hy:ev R y=v) (hv:v.cells=vs.toArray) (h1:∀u∈vs,u.oneCell'=true) (hN:ak w0 F w L) (i:Nat) (hi:L[i]?=some (.aA g cs T)) (hl:vs.length=cs.length)
    (h:∀w',ak w0 F w' (L.set i (.aA g vs T))→K undef w'):dQ P ⟨dst,.store t x y,ty,pos,af,gd⟩ R w K:=
  cK ew hx hy hv h1 (hN.aA i hi) hl fun w' hb hm hs=>h w' (hN.aZ i hi hm hb fun k hk=>⟨.inl hk,by cases hk;exact hb.lt⟩)
theorem ck {t : TypeId} {x y : Operand} {E : TypeId} {v u : Value} {l : List α} {a : α} {m : Nat} (ew : (P.info? t).map (·.size) = some 1)
    (hN:ak w0 F w L) (i:Nat) (hi:L[i]?=some (.own enc E v l)) (hx:ev R x=en v m) (hm:m<l.length) (hy:ev R y=u) (hu:u=enc a) (hc:(enc a).cells=#[enc a]) (h1:(enc a).oneCell'=true)
    (h:∀w',ak w0 F w' (L.set i (.own enc E v (l.set m a)))→K undef w'):dQ P ⟨dst,.store t x y,ty,pos,af,gd⟩ R w K:=
  pE ew (hN.own i hi) hx hm hy hu hc h1 fun w' ho MN hs=>h w' (hN.aZ i hi MN ho fun k hk=>⟨.inl hk,(ho.lt k hk).2⟩)
end
def py (F:Nat→Prop) {α:Type} (v:Value) (l:List α):Prop:=l≠[]→∀k,v.ownBlock=some k→¬F k
theorem py.none {α:Type} (v:Value) (l:List α):py none_ v l:=fun _ _ _ h=>h
theorem Sl.off {α:Type} {enc:α→Value} {M:Nat→Prop} {w w':World} {v:Value} {l:List α} (h:Sl enc w v l) (ho:py M v l) (hm:Mod M w w'):Sl enc w' v l:=h.LY hm ho
end Go.Rl
namespace Go.Rl
open Go.RowKit
theorem Jr {a:Int} (h0: -9223372036854775808≤a) (h1:a≤9223372036854775807):Xb.wrap a=a:=wrap_i64 h0 h1
theorem vw {a:Int} (h0:0≤a) (h1:a≤18446744073709551615):V8.wrap a=a:=by
  simp only[Ws,V3,V6,Wl]
  simp;omega
section
variable {P:Program} {n:Nat} {Q:eN} {R:Nat→Value} {w0 w:World} {F:Nat→Prop} {L:List Atom} {K:Value→World→Prop} {dst:Option Tmp} {ty:TypeId} {pos:String} {af:Array Edge} {gd:Option (Nat×Bool)}
variable {α:Type} {enc:α→Value}
theorem cM {xt:TypeId} {x:Operand} {p:Prop} [Decidable p] (hx:ev R x=.bool (decide p)):Ev P ⟨dst,.unOp .not xt x,ty,pos,af,gd⟩ R w (.bool (decide (¬p))):=by
  have h:=fi (P:=P) (w:=w) (dst:=dst) (ty:=ty) (pos:=pos) (af:=af) (gd:=gd) (xt:=xt) hx
  rwa [←decide_not]at h
theorem ak.lP (h:ak w0 F w L) (i:Nat) {E:TypeId} {v:Value} {l l':List α} (hi:L[i]?=some (.own enc E v l)) (e:l=l'):ak w0 F w (L.set i (.own enc E v l')):=by
  subst e
  have:L.set i (.own enc E v l)=L:=by
    apply YP
    intro j
    rw[Wu]
    split
    · subst j; split
      · exact hi.symm
      · rename_i h1;rw[WT (by omega)]
    · rfl
  rw[this];exact h
theorem cr {t : TypeId} {x : Operand} {g j m : Nat} {cs : List Value} {T : TypeId} {d : TypeDesc} (hu : P.underlying t = some d) (hd : d.isRow = true)
    (ew:(P.info? t).map (·.size)=some m) (hx:ev R x=.pointer (some ⟨g,j,none⟩)) (hb:fV w g cs T) (hj:j+m≤cs.length):Ev P ⟨dst,.load t x,ty,pos,af,gd⟩ R w (.agg ((cs.drop j).take m).toArray):=by
  have hl:((cs.drop j).take m).length=m:=by simp;omega
  have:=run_loadVar_mid (P:=P) w g j t ((cs.drop j).take m) d (fun i v hi=>by
    rw[hb.cell]
    rw[Wt]at hi
    split at hi
    · rwa [XH]at hi
    · cases hi) hu hd (by rw[hl];exact ew)
  simp[Ev,execOp,hx,YW,WK,this]
theorem oc {t : TypeId} {x y : Operand} {g j : Nat} {v : Value} {cs vs : List Value} {T : TypeId} (ew : (P.info? t).map (·.size) = some vs.length)
    (hx:ev R x=.pointer (some ⟨g,j,none⟩)) (hy:ev R y=v) (hv:v.cells=vs.toArray) (h1:∀u∈vs,u.oneCell'=true) (hN:ak w0 F w L) (i:Nat) (hi:L[i]?=some (.aA g cs T)) (hl:j+vs.length≤cs.length)
    (h:∀w',ak w0 F w' (L.set i (.aA g (cs.take j++vs++cs.drop (j+vs.length)) T))→K undef w'):dQ P ⟨dst,.store t x y,ty,pos,af,gd⟩ R w K:=by
  have hb:=hN.aA i hi
  have fF:(storeCells ⟨g,j,none⟩ vs).run P w=.ok () (w.setRow g (cs.take j++vs++cs.drop (j+vs.length)).toArray):=by
    have:=run_storeCells_at (P:=P) g j T vs 0 cs.toArray w hb (by simpa using hl) h1
    simpa using this
  have Bq:fV (w.setRow g (cs.take j++vs++cs.drop (j+vs.length)).toArray) g (cs.take j++vs++cs.drop (j+vs.length)) T:=setRow_heap w g _ _ T _ hb
  refine dQ.unit (w':=w.setRow g (cs.take j++vs++cs.drop (j+vs.length)).toArray) ?_ (h _ (hN.aZ i hi ⟨rfl,rfl,rfl,by simp,fun k hk hM=>setRow_other w g k _ hM⟩ Bq fun k hk=>⟨.inl hk,by cases hk;exact Bq.lt⟩))
  simp[execOp,hx,hy,ZW,WK,storeVar,hv,ey (w:=w) ew,fF]
theorem c8 {f:FuncId} {captured:Array Operand} {xs:List Operand} {vs:List Value} (hx:captured=xs.toArray) (h:xs.map (ev R)=vs):Ev P ⟨dst,.makeFunc (.func f) #[] captured,ty,pos,af,gd⟩ R w (.func (.func f) #[] vs.toArray):=by
  subst hx h
  exact y4 (by simp)
theorem dy.lP {E:TypeId} {base:Nat} {v:Value} {l l':List α} (h:dy enc E w base v l) (e:l=l'):dy enc E w base v l':=e▸h
theorem uO {f : FuncId} {fn : Func} {px : Array TypeId} {fv : Operand} {_u : Operand} {_w : Value} {first captured args : Array Value} (hf : P.funcs[f]? = some fn) (hn : (fn.name == "runtime.NumGoroutine") = false) (hb : fn.body.isSome = true)
    (u2:first++#[]++captured=args) (Fq:ev R fv=.func (.func f) first captured) (h:al P f args w K):dQ P ⟨dst,.call ⟨.value fv,#[],px⟩,ty,pos,af,gd⟩ R w K:=
  dQ.enter (f:=f) (args:=args) (w':=w) (by
    subst u2
    have:=dF (P:=P) (w:=w) (first++#[]++captured) hf hn hb
    simp only[execOp,resolve,Fq,Wy,Wn,VC,We,VM,WG,VU,invoke]
    exact this) h
theorem bB {f : FuncId} {fn : Func} {px : Array TypeId} {fv : Operand} {x0 : Operand} {v0 : Value} {first captured args : Array Value} (hf : P.funcs[f]? = some fn) (hn : (fn.name == "runtime.NumGoroutine") = false) (hb : fn.body.isSome = true)
    (u2:first++#[v0]++captured=args) (Fq:ev R fv=.func (.func f) first captured) (qR:ev R x0=v0) (h:al P f args w K):dQ P ⟨dst,.call ⟨.value fv,#[x0],px⟩,ty,pos,af,gd⟩ R w K:=
  dQ.enter (f:=f) (args:=args) (w':=w) (by
    subst qR u2
    have:=dF (P:=P) (w:=w) (first++#[ev R x0]++captured) hf hn hb
    simp only[execOp,resolve,Fq,Wy,Wn,VC,We,VM,WG,VU,invoke]
    exact this) h
theorem uN {f : FuncId} {fn : Func} {px : Array TypeId} {fv : Operand} {x0 x1 : Operand} {v0 v1 : Value} {first captured args : Array Value} (hf : P.funcs[f]? = some fn) (hn : (fn.name == "runtime.NumGoroutine") = false) (hb : fn.body.isSome = true)
    (u2:first++#[v0,v1]++captured=args) (Fq:ev R fv=.func (.func f) first captured) (qR:ev R x0=v0) (qQ:ev R x1=v1) (h:al P f args w K):dQ P ⟨dst,.call ⟨.value fv,#[x0,x1],px⟩,ty,pos,af,gd⟩ R w K:=
  dQ.enter (f:=f) (args:=args) (w':=w) (by
    subst qR qQ u2
    have:=dF (P:=P) (w:=w) (first++#[ev R x0,ev R x1]++captured) hf hn hb
    simp only[execOp,resolve,Fq,Wy,Wn,VC,We,VM,WG,VU,invoke]
    exact this) h
theorem FU (off:Nat):∀(vs:List Value) (k:Nat) (cells:List Value),off+k+vs.length≤cells.length→
    (vs.zipIdx k).foldl (fun(cs:Array Value) (x:Value×Nat)=>cs.setIfInBounds (off+x.2) x.1) cells.toArray=(cells.take (off+k)++vs++cells.drop (off+k+vs.length)).toArray:=by
  intro vs
  induction vs with
  |nil=>intro k cells h;simp
  |cons v vs ih=>
    intro k cells h
    simp only[U6]at h
    simp only[List.zipIdx_cons,aa1,List.setIfInBounds_toArray]
    rw[ih (k+1) (cells.set (off+k) v) (by simp;omega)]
    have hk:off+k<cells.length:=by omega
    congr 1
    rw[List.set_eq_take_append_cons_drop,if_pos hk]
    have h1:(cells.take (off+k)).length=off+k:=by simp;omega
    have e1:(cells.take (off+k)++v::cells.drop (off+k+1)).take (off+(k+1))=cells.take (off+k)++[v]:=by
      rw[List.take_append,Vo (by omega),h1]
      congr 1
      rw[show off+(k+1)-(off+k)=1 by omega];simp
    have e2:(cells.take (off+k)++v::cells.drop (off+k+1)).drop (off+(k+1)+vs.length)=cells.drop (off+k+(vs.length+1)):=by
      rw[List.drop_append,WQ (by omega),h1]
      rw[show off+(k+1)+vs.length-(off+k)=vs.length+1 by omega]
      simp only[Wm,List.drop_succ_cons,XR]
      congr 1;omega
    rw[e1,e2]
    simp
theorem aP {place : Nat → Option (Nat × Nat)} {cells : List Value} {i off : Nat} {v : Value} {vs : List Value} {rest : List (Nat × Value)} {r : Option (Array Value)} (hc : v.cells = vs.toArray) (hp : place i = some (off, vs.length)) (hl : off + vs.length ≤ cells.length)
    (h:W9 place (cells.take off++vs++cells.drop (off+vs.length)).toArray rest=r):W9 place cells.toArray ((i,v)::rest)=r:=by
  rw[W9]
  simp only[hp,hc]
  have hf:=FU off vs 0 cells hl
  simp only[Z9]at hf
  have h2:¬(cells.length<off+vs.length):=by omega
  simp only[YQ,ne_eq,not_true_eq_false,decide_false,Bool.false_or,gt_iff_lt,decide_eq_true_eq,if_neg h2]
  have hz:vs.toArray.zipIdx=(vs.zipIdx 0).toArray:=by apply Array.ext';simp
  rw[hz,List.foldl_toArray,hf];exact h
theorem bh {t : TypeId} {parts : Array (Nat × Operand)} {ps : List (Nat × Value)} {z : Value} {fs : Array Field} {places : Array (Nat × Nat)} {zc cs : List Value} (ht : P.underlying t = some (.struct fs)) (hz : (P.info? t).map (·.zero) = some (some z))
    (GH:∀w,(fs.mapM fun(f:Field)=>do pure (f.offset,←sizeOf f.type)).run P w=.ok places w) {pl:List (Nat×Operand)} (hp:parts.toList=pl) (Cq:(pl.map fun(i,x)=>(i,ev R x))=ps) (L4:z.cells=zc.toArray) (hf:W9 (places[·]?) zc.toArray ps=some cs.toArray):
    Ev P ⟨dst,.build t parts,ty,pos,af,gd⟩ R w (.agg cs.toArray):=oB ht hz GH hp Cq (by rw[L4];exact hf)
def DQ (Q:eN):eN:=fun e R w=>match e with
  |.goto _=>False
  |e=>Q e R w
theorem RW.scope {c:Code} (h:RW P n c (DQ Q) R w):RW P n (.scope c) Q R w:=fun a ha=>by
  refine wp_scope_straight (wp_mono (h a ha) ?_)
  rintro e a' w' ⟨R',hR,hQ⟩
  cases e with
  |goto l=>exact hQ.elim
  |_=>exact⟨R',hR,hQ⟩
theorem ry (h:Q .ret R w):DQ Q .ret R w:=h
theorem RW.label {l:Nat} (h:Q .normal R w):RW P n (.label l) Q R w:=fun _ ha=>wp_label ⟨R,ha,h⟩
end
def aT (M:List Atom):Nat→Prop:=fun k=>∃a∈M,a.dg k
section
variable {w0 w w':World} {F:Nat→Prop} {L M N:List Atom} {a:Atom} {α:Type} {enc:α→Value}
theorem ak.bZ (h:ak w0 F w L) (p:List Nat) (hp:p.Nodup) (hM:M.map some=p.map (fun i=>L[i]?)):ak w (aT M) w M:=by
  have hs:=h.sub p hp hM
  exact⟨Mod.refl _ _,hs.says,fun i a ha k hk=>⟨.inl ⟨a,UZ ha,hk⟩,(hs.low i a ha k hk).2⟩,hs.sep⟩
theorem ak.bX {M':List Atom} (h:ak w0 F w (M++N)) (hc:ak w (aT M) w' M'):ak w0 F w' (M'++N):=by
  have CH:∀(j:Nat) c,N[j]?=some c→(M++N)[M.length+j]?=some c:=fun j c hj=>by rw[VQ (by omega)];simpa using hj
  have split:∀(j:Nat) c,(M'++N)[j]?=some c→(j<M'.length∧M'[j]?=some c)∨(M'.length≤j∧N[j-M'.length]?=some c):=by
    intro j c hj
    rcases VH j M'.length with h|h
    · rw[VR h]at hj;exact .inl ⟨h,hj⟩
    · rw[VQ h]at hj;exact .inr ⟨h,hj⟩
  have I6:∀k,aT M k→∃(i:Nat) (b:Atom),i<M.length∧(M++N)[i]?=some b∧b.dg k:=by
    rintro k ⟨b,hb,hk⟩
    obtain⟨i,hi⟩:=Yh.1 hb
    have hl:=(U5.1 hi).1
    exact⟨i,b,hl,by rw[VR hl];exact hi,hk⟩
  have L1:∀k,aT M k→(F k∨w0.heap.size≤k):=fun k hk=>by
    obtain⟨i,b,_,hi,hb⟩:=I6 k hk
    exact(h.low i b hi k hb).1
  have off:∀(j:Nat) c,N[j]?=some c→∀k,c.dg k→¬aT M k:=fun j c hj k hk hm=>by
    obtain⟨i,b,hl,hi,hb⟩:=I6 k hm
    exact h.sep i (M.length+j) b c (by omega) hi (CH j c hj) k hb hk
  have part:∀(i:Nat) c,M'[i]?=some c→∀(j:Nat) d,N[j]?=some d→∀k,c.dg k→¬d.dg k:=fun i c hi j d hj k hk hC=>by
    rcases(hc.low i c hi k hk).1 with e|e
    · exact off j d hj k hC e
    · have:=(h.low _ d (CH j d hj) k hC).2;omega
  refine⟨⟨hc.mod.os.trans h.mod.os,hc.mod.tape.trans h.mod.tape,hc.mod.output.trans h.mod.output,Vf h.mod.size hc.mod.size,fun k hk hM=>
      (hc.mod.block k (Wh hk h.mod.size) fun e=>(L1 k e).elim hM (fun h=>absurd hk (Yk.2 h))).trans (h.mod.block k hk hM)⟩,?_,?_,?_⟩
  · intro j c hj
    rcases split j c hj with⟨_,e⟩|⟨_,e⟩
    · exact hc.says _ c e
    · exact c.jo (fun k hk bW=>hc.mod.block k bW (off _ c e k hk)) (h.says _ c (CH _ c e))
  · intro j c hj k hk
    rcases split j c hj with⟨_,e⟩|⟨_,e⟩
    · have hl := hc.low _ c e k hk
      exact⟨hl.1.elim (L1 k) (fun e=>.inr (Vf h.size e)),hl.2⟩
    · have hl := h.low _ c (CH _ c e) k hk
      exact⟨hl.1,Wh hl.2 hc.mod.size⟩
  · intro i j c d nz hi hj k hk hC
    rcases split i c hi with⟨l1,e1⟩|⟨l1,e1⟩<;>rcases split j d hj with⟨l2,e2⟩|⟨l2,e2⟩
    · exact hc.sep i j c d nz e1 e2 k hk hC
    · exact part _ c e1 _ d e2 k hk hC
    · exact part _ d e2 _ c e1 k hC hk
    · exact h.sep (M.length+(i-M'.length)) (M.length+(j-M'.length)) c d (by omega) (CH _ c e1) (CH _ d e2) k hk hC
def ep (F:Nat→Prop) (enc:α→Value) (w:World) (hs:List Hd) (ls:List (List α)):Prop:=
  hs.length=ls.length∧∀(i:Nat) h l,hs[i]?=some h→ls[i]?=some l→Sl enc w (vh h) l∧py F (vh h) l
theorem ep.nil (F:Nat→Prop) (enc:α→Value) (w:World):ep F enc w [] []:=⟨rfl,fun i h l hi=>by simp at hi⟩
theorem ep.cons {h:Hd} {l:List α} {hs:List Hd} {ls:List (List α)} (h1:Sl enc w (vh h) l) (h2:py F (vh h) l) (ht:ep F enc w hs ls):ep F enc w (h::hs) (l::ls):=by
  refine⟨by simp[ht.1],fun i h' l' hi hl=>?_⟩
  cases i with
  |zero=>cases hi;cases hl;exact⟨h1,h2⟩
  |succ i=>exact ht.2 i h' l' (by simpa using hi) (by simpa using hl)
theorem ep.mod {hs:List Hd} {ls:List (List α)} (h:ep F enc w hs ls) (hm:Mod F w w'):ep F enc w' hs ls:=
  ⟨h.1,fun i h' l hi hl=>⟨(h.2 i h' l hi hl).1.off (h.2 i h' l hi hl).2 hm,(h.2 i h' l hi hl).2⟩⟩
theorem Sl.back {v:Value} {l:List α} (h:Sl enc w' v l) (he:Ext w w') (hb:l≠[]→∀k,v.ownBlock=some k→k<w.heap.size):Sl enc w v l:=by
  obtain⟨A,c,rfl,h1,h2,hc⟩:=h
  refine⟨A,c,rfl,h1,h2,fun j u hj=>?_⟩
  obtain⟨ad,rfl,dv⟩:=hc j u hj
  refine⟨ad,rfl,?_⟩
  have hl:l≠[]:=by rintro rfl;simp at hj
  rw[←dv]
  exact(WJ (he.block _ (by rw[block_add];exact hb hl _ rfl) (fun e=>e))).symm
theorem jD.back {b:Nat} {v:Value} {l:List α} (h:jD enc b w' v l) (he:Ext w w') (hb:b≤w.heap.size):jD enc b w v l:=⟨h.1.back he fun hl k hk=>Wh (h.2 hl k hk) hb,h.2⟩
end
section
variable {w0 w w':World} {F:Nat→Prop} {L M N:List Atom} {α:Type} {enc:α→Value}
theorem ak.fg (h:ak w0 F w L) (enc:α→Value):ak w0 F w (.dT enc [] []::L):=
  h.add ⟨rfl,fun i h l hi=>by simp at hi⟩ (fun k hk=>by obtain⟨h,hh,_⟩:=hk;cases hh) (fun _ _ _ _ _ hk=>by obtain⟨h,hh,_⟩:=hk;cases hh)
theorem ak.dx (h:ak w0 F w L) (i:Nat) {hs:List Hd} {ls:List (List α)} (hi:L[i]?=some (.dT enc hs ls)):ep none_ enc w hs ls:=by
  have hf:(Atom.dT enc hs ls).says w:=h.says i _ hi
  exact⟨hf.1,fun q h' l hq hl=>⟨(hf.2 q h' l hq hl).1,py.none _ _⟩⟩
theorem ep.ext {hs:List Hd} {ls:List (List α)} (h:ep none_ enc w hs ls) (he:Ext w w'):ep none_ enc w' hs ls:=h.mod he
end
section
variable {P:Program} {n:Nat} {Q:eN} {R:Nat→Value} {w0 w w':World} {F:Nat→Prop} {L:List Atom} {K:Value→World→Prop} {dst:Option Tmp} {ty:TypeId} {pos:String} {af:Array Edge} {gd:Option (Nat×Bool)}
variable {α:Type} {enc:α→Value}
def Atom.sl (enc:α→Value) (v:Value) (l:List α):Atom where
  dg k:=v.ownBlock=some k
  says w:=Sl enc w v l∧∀k,v.ownBlock=some k→k<w.heap.size
  jo:=by
    intro w w' hb ⟨⟨A,c,he,g1,g2,hc⟩,bW⟩
    have key:∀k,v.ownBlock=some k→w'.heap[k]?=w.heap[k]?:=fun k hk=>hb k hk (bW k hk)
    refine⟨⟨A,c,he,g1,g2,fun j v hv=>?_⟩,fun k hk=>?_⟩
    · obtain ⟨ad, e, dv⟩ := hc j v hv
      refine⟨ad,e,?_⟩
      rw[WJ (key _ (by rw[he,e,block_add];rfl)),dv]
    · have e := key k hk
      have hl:=bW k hk
      rw[WU hl]at e
      exact(VD.1 e).1
theorem ak.C5 (h:ak w0 F w L) (i:Nat) {v:Value} {l:List α} (hi:L[i]?=some (.sl enc v l)):Sl enc w v l:=(h.says i _ hi).1
theorem pF {src dt e : TypeId} {x : Operand} {l : List UInt8} (hs : P.underlying src = some .string) (hd : P.underlying dt = some (.slice e)) (he : P.underlying e = some (.int .u8)) (hx : ev R x = str l) (hlen : l.length ≤ 140737488355328) (hN : ak w0 F w L)
    (h:∀v w',ak w0 F w' (.sl vb v l::L)→K v w'):dQ P ⟨dst,.convert src dt x,ty,pos,af,gd⟩ R w K:=by
  have eB:=run_bytes_of_string (P:=P) w src dt e ⟨l.toArray⟩ hs hd he
  have ew:(⟨l.toArray⟩:ByteArray).size=l.length:=by simp[ZB]
  rw[ew]at eB
  have GK:=grownCap_ge w l.length 0 e
  have N9:grownCap w l.length 0 e≤maxLen:=grownCap_le_maxLen w l.length 0 e (by unfold maxLen;omega)
  generalize grownCap w l.length 0 e=cap at eB GK N9
  have Pw:(w.drew.alloc (.cells (bytesRow ⟨l.toArray⟩ cap) e ((bytesRow ⟨l.toArray⟩ cap).size,(bytesRow ⟨l.toArray⟩ cap).size+1))).heap[w.heap.size]?=some (.cells (bytesRow ⟨l.toArray⟩ cap) e ((bytesRow ⟨l.toArray⟩ cap).size,(bytesRow ⟨l.toArray⟩ cap).size+1)):=by
    have:=heap_alloc_new w.drew (.cells (bytesRow ⟨l.toArray⟩ cap) e ((bytesRow ⟨l.toArray⟩ cap).size,(bytesRow ⟨l.toArray⟩ cap).size+1))
    exact this
  have dZ:Ext w (w.drew.alloc (.cells (bytesRow ⟨l.toArray⟩ cap) e ((bytesRow ⟨l.toArray⟩ cap).size,(bytesRow ⟨l.toArray⟩ cap).size+1))):=(Ext.drew w).trans (Ext.alloc _ _)
  have j5:Sl vb (w.drew.alloc (.cells (bytesRow ⟨l.toArray⟩ cap) e ((bytesRow ⟨l.toArray⟩ cap).size,(bytesRow ⟨l.toArray⟩ cap).size+1))) (.slice (some ⟨w.heap.size,0,none⟩) l.length cap) l:=by
    refine⟨_,cap,rfl,GK,N9,fun j v hj=>⟨_,rfl,?_⟩⟩
    rw[GR,cell_of_row _ _ _ _ _ _ Pw]
    rw[Wf]at hj
    cases hq:l[j]? with
    |none=>rw[hq]at hj;cases hj
    |some b=>
      rw[hq]at hj
      simp only[XD,XZ]at hj
      subst hj
      have Kp:=(U5.1 hq).1
      have hb:=(U5.1 hq).2
      simp[bytesRow,vb,Array.getElem?_append,Kp,hb]
  refine dQ.value (v:=.slice (some ⟨w.heap.size,0,none⟩) l.length cap) ?_ (h _ _ (hN.push dZ ⟨j5,fun k hk=>?_⟩ fun k hk=>?_))
  · simp only [execOp, hx, str]
    simp[eB]
  · cases (Vq hk);simp
  · cases (Vq hk);exact⟨Vv _,by simp⟩
end
section
variable {w0 w w':World} {F:Nat→Prop} {L M N:List Atom} {α:Type} {enc:α→Value}
theorem ak.turn {a a':Atom} (h:ak w0 F w L) (i:Nat) (hi:L[i]?=some a) (hs:a'.says w) (hf:∀k,a'.dg k→a.dg k):ak w0 F w (L.set i a'):=
  h.aZ i hi (Mod.refl _ _) hs fun k hk=>⟨.inl (hf k hk),(h.low i a hi k (hf k hk)).2⟩
theorem ak.LX (h:ak w0 F w L) (i:Nat) {E:TypeId} {v:Value} {l:List α} (hi:L[i]?=some (.own enc E v l)):ak w0 F w (L.set i (.sl enc v l)):=
  h.turn i hi ⟨(h.own i hi).sl,fun k hk=>((h.own i hi).lt k hk).2⟩ (fun _ hk=>hk)
theorem ak.LN (h:ak w0 F w L) (i:Nat) {v:Value} {l:List α} (hi:L[i]?=some (.sl enc v l)) (m:Nat) (hm:m≤l.length):ak w0 F w (L.set i (.sl enc (jy v 0 m) (l.take m))):=
  h.turn i hi ⟨(h.C5 i hi).nc hm,fun k hk=>(h.says i _ hi).2 k (by rwa [ik (h.C5 i hi)]at hk)⟩ (fun k hk=>by
    change (jy v 0 m).ownBlock=some k at hk
    rwa [ik (h.C5 i hi)]at hk)
theorem ak.y0 {h:Hd} {l:List α} {hs:List Hd} {ls:List (List α)} (hN:ak w0 F w (.sl enc (vh h) l::L)) (j:Nat) (hj:L[j]?=some (.dT enc hs ls)):ak w0 F w (L.set j (.dT enc (hs++[h]) (ls++[l]))):=by
  have ho:Sl enc w (vh h) l∧∀k,(vh h).ownBlock=some k→k<w.heap.size:=hN.says 0 _ rfl
  have hf:(Atom.dT enc hs ls).says w:=hN.says (j+1) _ (by simpa using hj)
  have bW:j<L.length:=(U5.1 hj).1
  have dg:∀k,(Atom.dT enc (hs++[h]) (ls++[l])).dg k→(Atom.dT enc hs ls).dg k∨(vh h).ownBlock=some k:=by
    rintro k ⟨h',hm,hk⟩
    rcases W6.1 hm with e|e
    · exact .inl ⟨h',e,hk⟩
    · rw[VY]at e;subst e;exact .inr hk
  have get:∀(i:Nat) c,(L.set j (.dT enc (hs++[h]) (ls++[l])))[i]?=some c→(i=j∧c=.dT enc (hs++[h]) (ls++[l]))∨(i≠j∧L[i]?=some c):=by
    intro i c hc
    rw[Wu]at hc
    by_cases e:j=i
    · subst e;rw[if_pos rfl,if_pos bW]at hc;exact .inl ⟨rfl,(Vq hc).symm⟩
    · rw[if_neg e]at hc;exact .inr ⟨fun x=>e x.symm,hc⟩
  have Cf:∀(i:Nat) c,L[i]?=some c→(∀k,c.dg k→¬(vh h).ownBlock=some k)∧(i≠j→∀k,c.dg k→¬(Atom.dT enc hs ls).dg k):=fun i c hc=>
    ⟨fun k hk e=>hN.sep (i+1) 0 c _ (by omega) (by simpa using hc) rfl k hk e,fun hi k hk e=>hN.sep (i+1) (j+1) c _ (by omega) (by simpa using hc) (by simpa using hj) k hk e⟩
  refine⟨hN.mod,?_,?_,?_⟩
  · intro i c hc
    rcases get i c hc with⟨_,rfl⟩|⟨_,hc⟩
    · refine ⟨by simp [hf.1], fun q h' l' hq hl => ?_⟩
      rcases VH q hs.length with zq|zq
      · rw [VR zq] at hq
        rw[VR (by rw[←hf.1];exact zq)]at hl
        exact hf.2 q h' l' hq hl
      · rw [VQ zq] at hq
        rw[VQ (by rw[←hf.1];exact zq),←hf.1]at hl
        have hz:q-hs.length=0:=by
          rcases XI (q-hs.length)with e|e
          · exact e
          · rw[WT (by simp;omega)]at hq;cases hq
        rw[hz]at hq hl
        cases hq;cases hl
        exact⟨ho.1,fun k hk=>ho.2 k hk⟩
    · exact hN.says (i+1) c (by simpa using hc)
  · intro i c hc k hk
    rcases get i c hc with⟨_,rfl⟩|⟨_,hc⟩
    · rcases dg k hk with e | e
      · exact hN.low (j+1) _ (by simpa using hj) k e
      · exact hN.low 0 _ rfl k e
    · exact hN.low (i+1) c (by simpa using hc) k hk
  · intro i i' c c' di hc tW k hk hC
    rcases get i c hc with⟨rfl,rfl⟩|⟨hi,hc⟩<;>rcases get i' c' tW with⟨rfl,rfl⟩|⟨Kv,tW⟩
    · exact di rfl
    · rcases dg k hk with e | e
      · exact(Cf i' c' tW).2 Kv k hC e
      · exact(Cf i' c' tW).1 k hC e
    · rcases dg k hC with e | e
      · exact(Cf i c ‹_›).2 hi k hk e
      · exact(Cf i c ‹_›).1 k hk e
    · exact hN.sep (i+1) (i'+1) c c' (by omega) (by simpa using ‹L[i]?=some c›) (by simpa using tW) k hk hC
theorem ak.kV {E:TypeId} {h:Hd} {l:List α} {hs:List Hd} {ls:List (List α)} (hN:ak w0 F w (.own enc E (vh h) l::L)) (j:Nat) (hj:L[j]?=some (.dT enc hs ls)):ak w0 F w (L.set j (.dT enc (hs++[h]) (ls++[l]))):=
  ak.y0 (h:=h) (l:=l) (hN.LX 0 rfl) j hj
end
section
variable {P:Program} {R:Nat→Value} {w0 w w':World} {F:Nat→Prop} {L:List Atom} {K:Value→World→Prop} {dst:Option Tmp} {ty:TypeId} {pos:String} {af:Array Edge} {gd:Option (Nat×Bool)} {α:Type} {enc:α→Value}
theorem D6 {t e : TypeId} {parts : Array (Nat × Operand)} (enc : α → Value) (ht : P.underlying t = some (.slice e)) (ew : (P.info? e).map (·.size) = some 1) (sr : parts = #[]) (hN : ak w0 F w L)
    (h:∀v w',ak w0 F w' (.sl enc v []::L)→K v w'):dQ P ⟨dst,.buildSlice t 0 parts,ty,pos,af,gd⟩ R w K:=by
  subst sr
  refine dQ.value (v:=.slice (some ⟨w.heap.size,0,none⟩) 0 0) (w':=w.alloc (.cells #[] e)) ?_ (h _ _ (hN.push (Ext.alloc _ _) ⟨⟨_,0,rfl,Vv _,by unfold maxLen;omega,Cells.nil _ _⟩,fun k hk=>?_⟩ fun k hk=>?_))
  · simp [execOp, Instr.buildSlice, run_underlying ht, ey (w := w) ew, W9, newRow]
    congr 2
    apply Array.ext'
    simp
  · cases (Vq hk);simp
  · cases (Vq hk);exact⟨Vv _,by simp⟩
end
end Go.Rl
namespace Go.Rl
open Go.ChangeShapes Go.WideShapes
section
variable {H:Type} {enc:TypeId×Value→H} {P:Program} {w:World} {base:Nat} {spare:Nat→Bool} {held:Bool}
end
section
variable {H:Type} {enc:TypeId×Value→H} {P:Program} {W:World} {base:Nat} {held:Bool} {t:TypeId} {d:DataW H} {ps:List MemPlace} {v:Value} {fs:Array Field}
end
end Go.Rl
namespace Go.Rl
open Go.RowKit
section
variable {κ:Type} [DecidableEq κ]
abbrev GU (κ:Type):=κ×Value×Nat
def jw (ke:κ→Value) (l:List (GU κ)):Array MapEntry:=(l.map fun e=>(⟨ke e.1,e.2.1,e.2.2⟩:MapEntry)).toArray
def jO (a : κ) : List (GU κ) → Nat → Option (Nat × Value)
  |[],_=>none
  |e::r,i=>if a=e.1 then some (i,e.2.1)else jO a r (i+1)
structure KE (P:Program) (kt:TypeId) (ke:κ→Value):Prop where
  check:∀(a:κ) (e:Bool) (w:World),(XT e 10000 kt (ke a)).run P w=.ok () w
  find:∀(a:κ) (l:List (GU κ)) (w:World),(abj kt (ke a) (jw ke l).toList).run P w=.ok (jO a l 0) w
  bits:∀a,Yy 10000 (ke a) (ke a)=true
def Atom.mp (ke:κ→Value) (b:Nat) (l:List (GU κ)) (clock:Nat):Atom where
  dg k:=k=b
  says w:=w.heap[b]?=some (.map (jw ke l) clock)
  jo:=by
    intro w w' h hs
    exact(h b rfl (VD.1 hs).1).trans hs
end
section
variable {P:Program} {n:Nat} {Q:eN} {R:Nat→Value} {w0 w:World} {F:Nat→Prop} {L:List Atom} {K:Value→World→Prop} {dst:Option Tmp} {ty:TypeId} {pos:String} {af:Array Edge} {gd:Option (Nat×Bool)}
variable {κ:Type} [DecidableEq κ] {ke:κ→Value} {l:List (GU κ)} {clock b:Nat}
theorem ak.mp (h:ak w0 F w L) (i:Nat) (hi:L[i]?=some (.mp ke b l clock)):w.heap[b]?=some (.map (jw ke l) clock):=h.says i _ hi
theorem xY {t kt et:TypeId} (ke:κ→Value) (hN:ak w0 F w L) (h:∀b w',ak w0 F w' (.mp ke b [] 0::L)→K (.map (some b)) w'):dQ P ⟨dst,.makeMap t none,ty,pos,af,gd⟩ R w K:=by
  refine dQ.value (v:=.map (some w.heap.size)) (w':=w.alloc (.map #[] 0)) (by simp[execOp,Instr.makeMap]) (h _ _ (hN.push (Ext.alloc _ _) ?_ fun k hk=>?_))
  · show (w.alloc (.map #[] 0)).heap[w.heap.size]? = _
    rw[heap_alloc_new];rfl
  · cases hk;simp
theorem G9 {l':List (GU κ)} {c':Nat} (hN:ak w0 F w L) (i:Nat) (hi:L[i]?=some (.mp ke b l clock)):ak w0 F {w with heap:=w.heap.setIfInBounds b (.map (jw ke l') c')} (L.set i (.mp ke b l' c')):=by
  have hb:=hN.mp i hi
  have hs:=MapKept.heap_set (o':=.map (jw ke l') c') hb
  have bW:b<w.heap.size:=(VD.1 hb).1
  exact hN.aZ i hi ⟨rfl,rfl,rfl,by simp,fun k _ hM=>hs.2 k hM⟩ hs.1 fun k hk=>⟨.inl hk,by cases hk;simpa using bW⟩
theorem rC {t kt et:TypeId} {a:κ} {v:Value} (ht:P.underlying t=some (.map kt et)) (hk:KE P kt ke) (hb:w.heap[b]?=some (.map (jw ke l) clock)) (hf:jO a l 0=none):
    (aa2 t (.map (some b)) (ke a) v).run P w=.ok () {w with heap:=w.heap.setIfInBounds b (.map (jw ke (l++[(a,v,clock)])) (clock+1))}:=by
  have IM:=hk.find a l w
  rw[hf]at IM
  have he:(jw ke l).push {key:=ke a,val:=v,born:=clock}=jw ke (l++[(a,v,clock)]):=by simp[jw]
  simp[aa2,run_underlying ht,X3 hb,hk.check a,IM,MapKept.run_setObj_map _ hb,he]
theorem zZ {t kt et : TypeId} {m x y : Operand} {a : κ} {v : Value} (ht : P.underlying t = some (.map kt et)) (hk : KE P kt ke) (hN : ak w0 F w L) (i : Nat) (hi : L[i]? = some (.mp ke b l clock))
    (hm:ev R m=.map (some b)) (hx:ev R x=ke a) (hy:ev R y=v) (hf:jO a l 0=none) (h:∀w',ak w0 F w' (L.set i (.mp ke b (l++[(a,v,clock)]) (clock+1)))→K undef w'):dQ P ⟨dst,.mapUpdate t m x y,ty,pos,af,gd⟩ R w K:=
  dQ.unit (by simp[execOp,hm,hx,hy,rC ht hk (hN.mp i hi) hf]) (h _ (G9 hN i hi))
theorem oz {t kt et:TypeId} {m x:Operand} {a:κ} {v:Value} {j:Nat} (ht:P.underlying t=some (.map kt et)) (hk:KE P kt ke) (hb:w.heap[b]?=some (.map (jw ke l) clock)) (hm:ev R m=.map (some b)) (hx:ev R x=ke a) (hf:jO a l 0=some (j,v)):
    Ev P ⟨dst,.lookup t m x true,ty,pos,af,gd⟩ R w (.tuple #[v,.bool true]):=by
  have IM:=hk.find a l w
  rw[hf]at IM
  simp[Ev,execOp,hm,hx,abt,run_underlying ht,X3 hb,hk.check a,IM]
theorem oA {t kt et:TypeId} {m x:Operand} {a:κ} {z:Value} (ht:P.underlying t=some (.map kt et)) (hk:KE P kt ke) (hz:(P.info? et).map (·.zero)=some (some z)) (hb:w.heap[b]?=some (.map (jw ke l) clock)) (hm:ev R m=.map (some b)) (hx:ev R x=ke a) (hf:jO a l 0=none):
    Ev P ⟨dst,.lookup t m x true,ty,pos,af,gd⟩ R w (.tuple #[z,.bool false]):=by
  have IM:=hk.find a l w
  rw[hf]at IM
  have JY:(zeroValue et).run P w=.ok z w:=by
    cases hq:P.info? et with
    |none=>simp[hq]at hz
    |some i=>
      have:i.zero=some z:=by simpa[hq]using hz
      simp[zeroValue,typeInfo,hq,this]
  simp[Ev,execOp,hm,hx,abt,run_underlying ht,X3 hb,hk.check a,IM,JY]
end
end Go.Rl
namespace Go.Rl
section
variable {P:Program} {ops:Array Oper} {Qa:Exit→Act→World→Prop} {S:World→Prop} {e:Nat}
def rb (P : Program) (ops : Array Oper) (Q : Exit → Act → World → Prop) (S : World → Prop) (e : Nat) : Nat → Array Bool → Act → World → Prop
  |0,ba,a,w=>VL .any ops ba=[]∧Q .normal a w
  |fuel+1,ba,a,w=>(VL .any ops ba=[]→Q .normal a w)∧
      ∀i∈VL .any ops ba,wpOp P ops Q i (fun a' w'=>(i≠e→S w')∧rb P ops Q S e fuel (ba.setIfInBounds i true) a' w') a w
theorem nh : ∀ (fuel : Nat) (ba : Array Bool) (a : Act) (w : World), rb P ops Qa S e fuel ba a w → wpAny P .any ops Qa fuel ba a w
  |0,_,_,_,h=>h
  |fuel+1,_,_,_,h=>⟨h.1,fun i hi=>wpOp_mono (fun a' w' h'=>nh fuel _ a' w' h'.2) (h.2 i hi)⟩
def waits (ops:Array Oper) (e i:Nat):Bool:=match ops[e]? with
  |some o=>o.after.any fun x=>Xo .any x && x.on == i
  |none=>true
theorem xu {i:Nat} {ba:Array Bool} (hw:waits ops e i=true) (hi:i∈VL .any ops ba):e∉VL .any ops ba:=fun he=>by
  obtain⟨_,o,ho,fU⟩:=mem_ready.1 he
  unfold waits at hw
  rw[ho]at hw
  simp only[Array.any_eq_true,VZ,beq_iff_eq]at hw
  obtain⟨q,hq,hb,Tq⟩:=hw
  have h1:=fU _ (Array.getElem_mem hq) hb
  have h0:=(mem_ready.1 hi).1
  rw[Tq]at h1
  rcases VH i ba.size with h'|h'
  · simp[h']at h0 h1;rw[h0]at h1;cases h1
  · simp[W0 h']at h1
theorem vy {i : Nat} {oi : Oper} {v : Value} (hi : ops[i]? = some oi) (su : i ≠ e) (OO : waits ops e i = true) (Ez : ∀ (j : Nat) (o : Oper) cs b, ops[j]? = some o → o.op ≠ .select cs b)
    (hQ:∀c a w,Qa (.panic c) (a.put oi.dst v) w→Qa (.panic c) a w):
    ∀(fuel:Nat) (ba:Array Bool) (a:Act) (w:World),
      (∀j oj,ops[j]?=some oj→j≠i→ba.getD j true=false→(∀x∈oj.after,Xo .any x=true→x.on≠i)→oi.apart ops oj=true)→
      i∈VL .any ops ba→YieldsIf P ops S oi v a→S w→
      rb P ops Qa S e fuel (ba.setIfInBounds i true) (a.put oi.dst v) w→rb P ops Qa S e (fuel+1) ba a w:=by
  intro fuel
  induction fuel with
  |zero=>
    intro ba a w _ hr hy hS H
    refine⟨fun h=>(by rw[h]at hr;cases hr),fun j hj=>?_⟩
    by_cases wz:j=i
    · subst wz;exact hy.wpOp hi hS ⟨fun _=>hS,H⟩
    · have := ready_mono hj wz
      rw[H.1]at this
      cases this
  |succ fuel ih=>
    intro ba a w sC hr hy hS H
    refine⟨fun h=>(by rw[h]at hr;cases hr),fun j hj=>?_⟩
    by_cases wz:j=i
    · subst wz;exact hy.wpOp hi hS ⟨fun _=>hS,H⟩
    · have RI : j ≠ e := fun h => xu OO hr (h ▸ hj)
      have h1:=H.2 j (ready_mono hj wz)
      obtain⟨EV,oj,Kd,fU⟩:=mem_ready.1 hj
      have Kh:∀x∈oj.after,Xo .any x=true→x.on≠i:=fun x hx hb heq=>by
        have h1:=fU x hx hb
        have h0:=(mem_ready.1 hr).1
        rw[heq]at h1
        rcases VH i ba.size with h'|h'
        · simp[h']at h0 h1;rw[h0]at h1;cases h1
        · simp[W0 h']at h1
      have h2:=wpOp_putIf Kd (sC j oj Kd wz EV Kh) (fun cs b=>Ez i oi cs b hi) (fun cs b=>Ez j oj cs b Kd) hQ hy h1
      have Av:∀k ok,ops[k]?=some ok→k≠i→(ba.setIfInBounds j true).getD k true=false→
          (∀x∈ok.after,Xo .any x=true→x.on≠i)→oi.apart ops ok=true:=fun k ok hk PG Mb eQ=>by
        refine sC k ok hk PG ?_ eQ
        by_cases wy:j=k
        · subst wy;exact EV
        · rw[getD_set_ne true wy]at Mb;exact Mb
      refine wpOp_mono (fun a' w' h3=>⟨fun _=>h3.2.1 RI,ih (ba.setIfInBounds j true) a' w' Av (ready_mono hr (aa5 wz)) h3.1 (h3.2.1 RI) ?_⟩) h2
      rw[YX _ _ wz]
      exact h3.2.2
end
def RE (P:Program) (n:Nat) (ops:Array Oper) (Q:eN) (S:World→Prop) (e:Nat) (fuel:Nat) (ba:Array Bool) (R:Nat→Value) (w:World):Prop:=
  ∀a,AtR n R a→rb P ops (Q.up n) S e fuel ba a w
section
variable {P:Program} {n:Nat} {Q:eN} {R:Nat→Value} {w:World} {ops:Array Oper} {S:World→Prop} {e fuel:Nat} {ba:Array Bool}
theorem RW.F5 {id : Nat} (hm : P.follows .mixedOrders = true) (S : World → Prop) (e : Nat)
    (h:RE P n ops Q S e ops.size (WV ops.size false) R w.drew):RW P n (.region id ops true) Q R w:=fun a ha=>wp_region_any hm (nh _ _ _ _ (h a ha))
theorem RE.done (hr:VL .any ops ba=[]) (h:Q .normal R w):RE P n ops Q S e fuel ba R w:=fun a ha=>by
  cases fuel with
  |zero=>exact⟨hr,R,ha,h⟩
  |succ f=>exact⟨fun _=>⟨R,ha,h⟩,by rw[hr];simp⟩
end
end Go.Rl
namespace Go.Rl
open Go.RowKit
abbrev XF (ro:Option Nat):Fence:={Fence.wide with round:=ro}
structure q9 (ds:List Deferred) (n:Nat) (R:Nat→Value) (a:Act):Prop where
  size:a.tmps.size=n
  kg:∀t,a.tmps.getD t undef=R t
  defs:a.defers=ds
def over (ds:List Deferred) (a:Act):Act:={a with defers:=a.defers++ds}
theorem q9.GR {ds:List Deferred} {n:Nat} {R:Nat→Value} {a:Act} (h:q9 ds n R a):AtR n R {a with defers:=[]}:=⟨h.size,h.kg,rfl⟩
theorem q9.eval {ds:List Deferred} {n:Nat} {R:Nat→Value} {a:Act} (h:q9 ds n R a):a.eval=ev R:=by
  funext x;cases x<;>simp only[Act.eval,ev];exact h.kg _
theorem AtR.Su {ds:List Deferred} {n:Nat} {R:Nat→Value} {a:Act} (h:AtR n R a):q9 ds n R (over ds a):=⟨h.size,h.kg,by simp[over,h.defs]⟩
theorem q9.xU {ds:List Deferred} {n:Nat} {R:Nat→Value} {a:Act} (h:q9 ds n R a):over ds {a with defers:=[]}=a:=by
  have:=h.defs;subst this;cases a;rfl
theorem gP (ds:List Deferred) (a:Act) (d:Option Tmp) (v:Value):over ds (a.put d v)=(over ds a).put d v:=by cases d<;>rfl
theorem q9.put {ds:List Deferred} {n:Nat} {R:Nat→Value} {a:Act} (h:q9 ds n R a) {dst:Option Tmp} (hd:eS n dst=true) (v:Value):q9 ds n (fW R dst v) (a.put dst v):=by
  have:=(h.GR.put hd v).Su (ds:=ds)
  rwa [gP,h.xU]at this
abbrev dV:=Exit→List Deferred→(Nat→Value)→World→Prop
def dV.up (n:Nat) (Q:dV):Exit→Act→World→Prop:=fun e a w=>∃R ds,q9 ds n R a∧Q e ds R w
def XW (P:Program) (ro:Option Nat) (n:Nat) (c:Code) (Q:dV) (ds:List Deferred) (R:Nat→Value) (w:World):Prop:=∀a,q9 ds n R a→c.wpIn (XF ro) 0 P (dV.up n Q) a w
def XL (P:Program) (ro:Option Nat) (n:Nat) (ops:Array Oper) (Q:dV) (l:List Oper) (ds:List Deferred) (R:Nat→Value) (w:World):Prop:=∀a,q9 ds n R a→wpListIn (XF ro) 0 P ops (dV.up n Q) l a w
def k7 (P:Program) (ro:Option Nat) (o:Oper) (R:Nat→Value) (w:World) (K:Value→World→Prop):Prop:=
  ∀n ds a,q9 ds n R a→o.wpIn (XF ro) 0 P a w (fun a' w'=>∃v,a'=a.put o.dst v∧K v w') (fun _ _ _=>False)
def dS (o:Oper):Bool:=match o.op with
  |.defer _=>false
  |_=>true
theorem dS.ne {o:Oper} (h:dS o=true):∀c,o.op≠.defer c:=fun c e=>by simp[dS,e]at h
section
variable {P:Program} {ro:Option Nat} {n:Nat} {Q:dV} {R:Nat→Value} {w:World} {ds:List Deferred}
theorem BE {f:FuncId} {args:Array Value} {K:Ending→World→Prop} {m:Nat} (h:Calls P f args w K):CallsIn (XF ro) m P f args w K:=(callsIn_wide (n:=m)).2 h
theorem JA {row:String} {args:Array Value} {K:Value→World→Prop} {m:Nat} (h:Rows P row args w K):RowsIn (XF ro) m P row args w K:=fun c cs _=>by
  obtain⟨v,w',hk,hs⟩:=h c cs
  exact⟨v,w',hk,(stepsIn_wide (P:=P)).2 hs⟩
theorem D5 {o : Oper} (pR : dS o = true) {a : Act} {K K' : Act → World → Prop} {Qa Qb : Exit → Act → World → Prop} (h : o.wp P a w K Qa) (hp : ∀ c a w, ¬ Qa (.panic c) a w) (ho : ∀ a w, ¬ Qa .outgrown a w)
    (go:∀a1 w',K a1 w'→K' (over ds a1) w'):o.wpIn (XF ro) 0 P (over ds a) w K' Qb:=by
  refine⟨fun _ _=>trivial,?_⟩
  have yJ:(over ds a).eval=a.eval:=by funext x;cases x<;>rfl
  rw[abk _ _ _ (dS.ne pR),yJ]
  unfold aaA at h
  generalize (execOp a.eval o).run P w=r at*
  have no:¬LetsOut Qa:=fun⟨a,w,hx⟩=>ho a w hx
  cases r with
  |ok x w'=>
    cases x<;>simp only[Z5,Xl]at h ⊢
    case value v=>rw[←gP];exact go _ _ h
    case skip=>rw[←gP];exact go _ _ h
    case defer d=>
      have:=go _ _ h
      rw[gP]at this
      exact this
    case enter f args=>
      refine⟨fun e=>(by cases e),YY (BE h) fun e xf he=>?_⟩
      cases e with
      |returned v=>simp only at he ⊢;rw[←gP];exact go _ _ he
      |panicked c=>exact(hp _ _ _ he).elim
      |outgrown=>exact(no he).elim
    case row row args=>
      refine⟨fun e=>(by cases e),aaE (JA h) fun v xf he=>?_⟩
      rw[←gP];exact go _ _ he
  |halt x w'=>
    cases x<;>simp only[Z5,Xl]at h ⊢
    case panic u=>exact(hp _ _ _ h).elim
theorem Ht {ops:Array Oper} {Qa Qb:Exit→Act→World→Prop} (hp:∀c a w,¬Qa (.panic c) a w) (ho:∀a w,¬Qa .outgrown a w) (hq:∀a w,Qa .normal a w→Qb .normal (over ds a) w):
    ∀(l:List Oper) (pR:l.all dS=true) (a:Act) (w:World),wpList P ops Qa l a w→wpListIn (XF ro) 0 P ops Qb l (over ds a) w:=by
  intro l
  induction l with
  |nil=>exact fun _ a w h=>hq a w h
  |cons o l ih=>
    intro pR a w h
    simp only[List.all_cons,VZ]at pR
    simp only[wpList]at h
    simp only[wpListIn]
    have ht:(over ds a).tmps=a.tmps:=rfl
    rw[ht]
    split
    · rename_i hw
      rw[if_pos hw]at h
      refine h.elim (fun h=>D5 pR.1 h hp ho fun a1 w' hk=>ih pR.2 a1 w' hk) (fun h=>?_)
      obtain⟨_,a,w,hx⟩:=h
      exact(ho a w hx).elim
    · rename_i hw
      rw[if_neg hw]at h
      refine⟨fun _ _=>trivial,?_⟩
      rw[←gP]
      exact ih pR.2 _ w h
theorem Ld {ops:Array Oper} (pR:ops.toList.all dS=true) {Qa Qb:Exit→Act→World→Prop} (hp:∀c a w,¬Qa (.panic c) a w) (ho:∀a w,¬Qa .outgrown a w) (hq:∀a w,Qa .normal a w→Qb .normal (over ds a) w):
    ∀(fuel:Nat) (ba:Array Bool) (a:Act) (w:World),wpAny P .any ops Qa fuel ba a w→wpAnyIn (XF ro) 0 P .any ops Qb fuel ba (over ds a) w:=by
  intro fuel
  induction fuel with
  |zero=>exact fun ba a w h=>⟨h.1,hq _ _ h.2⟩
  |succ fuel ih=>
    intro ba a w h
    refine⟨fun e=>hq _ _ (h.1 e),fun i hi=>?_⟩
    have h1:=h.2 i hi
    unfold wpOp at h1
    unfold wpOpIn
    cases PL:ops[i]? with
    |none=>rw[PL]at h1;exact ih _ _ _ h1
    |some o=>
      have hn:dS o=true:=YZ.1 pR o (by
        have:ops.toList[i]?=some o:=by simpa using PL
        exact UZ this)
      rw[PL]at h1
      simp only at h1 ⊢
      have ht:(over ds a).tmps=a.tmps:=rfl
      rw[ht]
      split
      · rename_i hw
        rw[if_pos hw]at h1
        refine h1.elim (fun h=>D5 hn h hp ho fun a1 w' hk=>ih _ a1 w' hk) (fun h=>?_)
        obtain⟨_,a,w,hx⟩:=h
        exact(ho a w hx).elim
      · rename_i hw
        rw[if_neg hw]at h1
        refine⟨fun _ _=>trivial,?_⟩
        rw[←gP]
        exact ih _ _ w h1
def pG (K:(Nat→Value)→World→Prop):eN:=fun e R w=>match e with
  |.normal=>K R w
  |_=>False
theorem A9 {K:(Nat→Value)→World→Prop} (c:List PanicEntry) (a:Act) (w:World):¬(eN.up n (pG K)) (.panic c) a w:=fun⟨_,_,h⟩=>h
theorem Ba {K:(Nat→Value)→World→Prop} (a:Act) (w:World):¬(eN.up n (pG K)) .outgrown a w:=fun⟨_,_,h⟩=>h
theorem A8 {a:Act} (h:(eN.up n (pG fun R w=>Q .normal ds R w)) .normal a w):dV.up n Q .normal (over ds a) w:=by
  obtain⟨R,ha,hq⟩:=h
  exact⟨R,ds,ha.Su,hq⟩
theorem bA {K:(Nat→Value)→World→Prop} (h:K R w):pG K .normal R w:=h
theorem JK {K:(Nat→Value)→World→Prop}:Je (pG K):=fun _ _ _ h=>h
def uv (K:List Deferred→(Nat→Value)→World→Prop) (Q:dV):dV:=fun e ds R w=>match e with
  |.normal=>K ds R w
  |e=>Q e ds R w
theorem XW.seq {x y:Code} (h:XW P ro n x (uv (fun ds R w=>XW P ro n y Q ds R w) Q) ds R w):XW P ro n (.seq x y) Q ds R w:=fun a ha=>by
  refine wpIn_seq (wpIn_mono (h a ha) ?_)
  rintro e a' w' ⟨R',GQ,hR,hQ⟩
  cases e with
  |normal=>exact hQ a' hR
  |_=>exact⟨R',GQ,hR,hQ⟩
theorem XW.skip (h:Q .normal ds R w):XW P ro n .skip Q ds R w:=fun _ ha=>wpIn_skip ⟨R,ds,ha,h⟩
theorem XW.exit {id:Nat} (h:Q (.exit id) ds R w):XW P ro n (.exit id) Q ds R w:=fun _ ha=>wpIn_exit ⟨R,ds,ha,h⟩
theorem XW.ret (h:Q .ret ds R w):XW P ro n .ret Q ds R w:=fun _ ha=>wpIn_ret ⟨R,ds,ha,h⟩
theorem XW.cond {c:Operand} {x y:Code} (b:Bool) (hc:ev R c=.bool b) (ht:b=true→XW P ro n x Q ds R w) (hf:b=false→XW P ro n y Q ds R w):XW P ro n (.cond c x y) Q ds R w:=
  fun a ha=>wpIn_cond_split (t:=b) (by rw[ha.eval];exact hc) (fun e=>ht e a ha) (fun e=>hf e a ha)
theorem XW.bK {c:Operand} {x y:Code} (hc:ev R c=.bool true) (ht:XW P ro n x Q ds R w):XW P ro n (.cond c x y) Q ds R w:=XW.cond true hc (fun _=>ht) (fun e=>by cases e)
theorem XW.dD {c:Operand} {x y:Code} (hc:ev R c=.bool false) (ht:XW P ro n y Q ds R w):XW P ro n (.cond c x y) Q ds R w:=XW.cond false hc (fun e=>by cases e) (fun _=>ht)
theorem XW.aN {c:Operand} {x y:Code} (p:Prop) [Decidable p] (hc:Rl.ev R c=.bool (decide p)) (ht:p→XW P ro n x Q ds R w) (hf:¬p→XW P ro n y Q ds R w):XW P ro n (.cond c x y) Q ds R w:=
  XW.cond (decide p) hc (fun e=>ht (of_decide_eq_true e)) (fun e=>hf (of_decide_eq_false e))
def pw (id:Nat) (Q:dV):dV:=fun e ds R w=>match e with
  |.exit Ek=>if Ek=id then Q .normal ds R w else Q (.exit Ek) ds R w
  |e=>Q e ds R w
theorem XW.block {id:Nat} {c:Code} (h:XW P ro n c (pw id Q) ds R w):XW P ro n (.block id c) Q ds R w:=fun a ha=>by
  refine wpIn_block (wpIn_mono (h a ha) ?_)
  rintro e a' w' ⟨R',GQ,hR,hQ⟩
  cases e with
  |exit Ek=>
    simp only[abn]
    simp only[pw]at hQ
    split
    · rename_i e;rw[if_pos e]at hQ;exact⟨R',GQ,hR,hQ⟩
    · rename_i e;rw[if_neg e]at hQ;exact⟨R',GQ,hR,hQ⟩
  |_=>exact⟨R',GQ,hR,hQ⟩
theorem least {J:Nat→Prop}:∀k,J k→∃m,J m∧∀j,J j→m≤j:=by
  intro k
  induction k using Nat.strongRecOn with
  |_ k ih=>
    intro h
    by_cases hx:∃j,j<k∧J j
    · obtain⟨j,hj,h⟩:=hx;exact ih j hj h
    · exact⟨k,h,fun j hj=>Nat.le_of_not_lt fun hl=>hx ⟨j,hl,hj⟩⟩
theorem XW.loop {c : Code} (I : Nat → (Nat → Value) → World → Prop) (k0 : Nat) (h0 : I k0 R w)
    (round:∀k R w,I k R w→XW P ro n c (uv (fun GQ R' w'=>GQ=ds∧∃k',k'<k∧I k' R' w') Q) ds R w):XW P ro n (.loop c) Q ds R w:=fun a ha=>by
  let J:Act→World→Nat→Prop:=fun a w k=>∃R,q9 ds n R a∧I k R w
  have hm:∀a w,∃m,(∃k,J a w k)→J a w m∧∀j,J a w j→m≤j:=fun a w=>by
    by_cases h:∃k,J a w k
    · obtain ⟨k, hk⟩ := h
      obtain⟨m,hm⟩:=least (J:=J a w) k hk
      exact⟨m,fun _=>hm⟩
    · exact⟨0,fun h'=>absurd h' h⟩
  refine wpIn_loop (fun a w=>∃k,J a w k) (fun a w=>Classical.choose (hm a w)) ⟨k0,R,ha,h0⟩ ?_
  intro a' w' hI
  obtain⟨⟨R',Qp,LC⟩,PD⟩:=ZD (hm a' w') hI
  refine wpIn_mono (round _ R' w' LC a' Qp) ?_
  rintro e QK xf ⟨LH,Qz,CD,hQ⟩
  cases e with
  |normal=>
    obtain⟨rfl,k',hk,LC⟩:=hQ
    have hx:∃k,J QK xf k:=⟨k',LH,CD,LC⟩
    exact⟨hx,VJ ((ZD (hm QK xf) hx).2 k' ⟨LH,CD,LC⟩) hk⟩
  |_=>exact⟨LH,Qz,CD,hQ⟩
theorem bj {K:List Deferred→(Nat→Value)→World→Prop} (h:K ds R w):uv K Q .normal ds R w:=h
theorem lJ {K:List Deferred→(Nat→Value)→World→Prop} {id:Nat} (h:Q (.exit id) ds R w):uv K Q (.exit id) ds R w:=h
theorem Jo {K:List Deferred→(Nat→Value)→World→Prop} (h:Q .ret ds R w):uv K Q .ret ds R w:=h
theorem dX {id:Nat} (h:Q .normal ds R w):pw id Q .normal ds R w:=h
theorem gu {id:Nat} (h:Q .normal ds R w):pw id Q (.exit id) ds R w:=by unfold pw;simp only[if_true];exact h
theorem XW.region {id:Nat} {l:List Oper} (pR:l.all dS=true) (h:RL P n l.toArray (pG fun R w=>Q .normal ds R w) l R w):XW P ro n (.region id l.toArray false) Q ds R w:=fun a ha=>by
  have:=Ht (ro:=ro) (ds:=ds) (Qb:=dV.up n Q) A9 Ba (fun a w h=>A8 h) l pR _ w (h _ ha.GR)
  rw[ha.xU]at this
  exact wpIn_region_lit this
theorem XW.qM {id:Nat} {l:List Oper} (h:XL P ro n l.toArray Q l ds R w):XW P ro n (.region id l.toArray false) Q ds R w:=fun a ha=>wpIn_region_lit (h a ha)
theorem XW.F5 {id : Nat} {ops : Array Oper} (hm : P.follows .mixedOrders = true) (pR : ops.toList.all dS = true) (S : World → Prop) (e : Nat)
    (h:RE P n ops (pG fun R w=>Q .normal ds R w) S e ops.size (WV ops.size false) R w.drew):XW P ro n (.region id ops true) Q ds R w:=fun a ha=>by
  have:=Ld (ro:=ro) (ds:=ds) (Qb:=dV.up n Q) pR A9 Ba (fun a w h=>A8 h) _ _ _ _ (nh _ _ _ _ (h _ ha.GR))
  rw[ha.xU]at this
  exact wpIn_region_any hm this
theorem k7.of {o:Oper} {K:Value→World→Prop} (pR:dS o=true) (h:dQ P o R w K):k7 P ro o R w K:=fun m ds a ha=>by
  have:=D5 (ro:=ro) (ds:=ds) (Qb:=fun _ _ _=>False) (K':=fun a' w'=>∃v,a'=a.put o.dst v∧K v w') pR (h m _ ha.GR) (fun _ _ _ h=>h) (fun _ _ h=>h) (by
    rintro a1 w' ⟨v,rfl,hk⟩
    exact⟨v,by rw[gP,ha.xU],hk⟩)
  rwa [ha.xU]at this
theorem k7.wp {o : Oper} {K : Value → World → Prop} {next : Act → World → Prop} {Q' : Exit → Act → World → Prop} {a : Act} (ha : q9 ds n R a) (hd : eS n o.dst = true) (h : k7 P ro o R w K)
    (go:∀v w',K v w'→∀(_:q9 ds n (fW R o.dst v) (a.put o.dst v)),next (a.put o.dst v) w'):o.wpIn (XF ro) 0 P a w next Q':=by
  have h:=h n ds a ha
  refine⟨h.1,?_⟩
  have h:=h.2
  have go':∀a' w',(∃v,a'=a.put o.dst v∧K v w')→next a' w':=by
    rintro a' w' ⟨v,rfl,hv⟩
    exact go v w' hv (ha.put hd v)
  generalize (o.semAt (XF ro).round a.eval).run P w=r at*
  cases r with
  |ok x w'=>
    cases x<;>simp only[Xl]at h ⊢<;>first
      |exact go' _ _ h
      |exact⟨h.1,YY h.2 (fun e xf he=>by cases e<;>first|exact go' _ _ he|exact he.elim|exact(by obtain⟨_,_,hx⟩:=he;exact hx.elim))⟩
      |exact⟨h.1,aaE h.2 (fun _ _ he=>go' _ _ he)⟩
      |exact⟨h.1,aaa h.2 (fun e xf he=>by cases e<;>first|exact go' _ _ he|exact he.elim|exact(by obtain⟨_,_,hx⟩:=he;exact hx.elim))⟩
  |halt x w'=>cases x<;>simp only[Xl]at h ⊢
theorem XL.nil {ops:Array Oper} (h:Q .normal ds R w):XL P ro n ops Q [] ds R w:=fun _ ha=>wpListIn_nil ⟨R,ds,ha,h⟩
theorem XL.op {ops:Array Oper} {o:Oper} {rest:List Oper} (hg:o.guard=none) (hd:eS n o.dst=true) (h:k7 P ro o R w (fun v w'=>XL P ro n ops Q rest ds (fW R o.dst v) w')):
    XL P ro n ops Q (o::rest) ds R w:=fun a ha=>wpListIn_plain hg fun K hK=>k7.wp ha hd h fun v w' hv wC=>hK _ _ (hv _ wC)
theorem XL.ev {ops:Array Oper} {o:Oper} {rest:List Oper} {v:Value} (hg:o.guard=none) (hd:eS n o.dst=true) (pR:dS o=true) (h:Ev P o R w v) (hn:XL P ro n ops Q rest ds (fW R o.dst v) w):
    XL P ro n ops Q (o::rest) ds R w:=XL.op hg hd (k7.of pR (dQ.ev h hn))
theorem xo {ops:Array Oper} {a:Act} (ha:q9 ds n R a) {j d:Nat} {b:Bool} (hj:(ops[j]?).bind (·.dst)=some d) (o8:d<n) (hb:R d=.bool b):yielded ops a.tmps j=some b:=eU ha.GR hj o8 hb
theorem XL.on {ops : Array Oper} {o : Oper} {rest : List Oper} {j : Nat} {want : Bool} {d : Nat} (hg : o.guard = some (j, want)) (hj : (ops[j]?).bind (·.dst) = some d) (o8 : d < n)
    (hb:R d=.bool want) (hd:eS n o.dst=true) (h:k7 P ro o R w (fun v w'=>XL P ro n ops Q rest ds (fW R o.dst v) w')):XL P ro n ops Q (o::rest) ds R w:=fun a ha=>by
  refine wpListIn_step fun K hK=>?_
  simp only[VW,hg,xo ha hj o8 hb,beq_self_eq_true,if_true]
  exact k7.wp ha hd h fun v w' hv wC=>hK _ _ (hv _ wC)
theorem XL.aI {ops : Array Oper} {o : Oper} {rest : List Oper} {j : Nat} {want : Bool} {d : Nat} {v : Value} (hg : o.guard = some (j, want)) (hj : (ops[j]?).bind (·.dst) = some d) (o8 : d < n)
    (hb:R d=.bool want) (hd:eS n o.dst=true) (pR:dS o=true) (h:Ev P o R w v) (hn:XL P ro n ops Q rest ds (fW R o.dst v) w):XL P ro n ops Q (o::rest) ds R w:=XL.on hg hj o8 hb hd (k7.of pR (dQ.ev h hn))
theorem XL.off {ops : Array Oper} {o : Oper} {rest : List Oper} {j : Nat} {want : Bool} {d : Nat} (hg : o.guard = some (j, want)) (hj : (ops[j]?).bind (·.dst) = some d) (o8 : d < n)
    (hb:R d=.bool (!want)) (hd:eS n o.dst=true) (hn:XL P ro n ops Q rest ds (fW R o.dst undef) w):XL P ro n ops Q (o::rest) ds R w:=fun a ha=>by
  refine wpListIn_step fun K hK=>?_
  have:VW o (yielded ops a.tmps)=false:=by cases want<;>simp[VW,hg,xo ha hj o8 hb]
  rw[if_neg (by rw[this];simp)]
  exact⟨fun _ _=>trivial,hK _ _ (hn _ (ha.put hd undef))⟩
end
section
variable {P:Program} {ro:Option Nat} {n:Nat} {Q:dV} {R:Nat→Value} {w:World} {ds:List Deferred} {dst:Option Tmp} {ty:TypeId} {pos:String} {af:Array Edge} {gd:Option (Nat×Bool)}
def nM (P:Program) (l:Nat) (args:Array Value) (w:World) (K:Value→World→Prop):Prop:=
  ∃f tmps C0 body,(acp l args).run P w=.ok (.round l f tmps C0 body) w∧RoundIn Fence.wide 0 P l f tmps C0 body w fun e w'=>∃v,e=.returned v∧K v w'
theorem nM.mono {l:Nat} {args:Array Value} {K K':Value→World→Prop} (h:nM P l args w K) (hk:∀v w',K v w'→K' v w'):nM P l args w K':=by
  obtain⟨f,tmps,C0,body,h1,h2⟩:=h
  exact⟨f,tmps,C0,body,h1,h2.mono fun e w' ⟨v,he,hv⟩=>⟨v,he,hk _ _ hv⟩⟩
theorem vT {o:Oper} {l:Nat} {args:Array Value} {K:Value→World→Prop} (pR:dS o=true) (eB:∀r,(acp l args).run P w=.ok r w→(execOp (ev R) o).run P w=.ok r w) (h:nM P l args w K):k7 P ro o R w K:=fun m ds a ha=>by
  obtain⟨f,tmps,C0,body,h1,h2⟩:=h
  refine⟨fun _ _=>trivial,?_⟩
  rw[abk _ _ _ (dS.ne pR),ha.eval,eB _ h1]
  simp only[Xl]
  refine⟨fun e=>(by cases e),aaa (F:=XF ro) h2 ?_⟩
  rintro e w' ⟨v,rfl,hv⟩
  exact⟨v,rfl,hv⟩
theorem cy {K:Value→World→Prop} {px:Array TypeId} {fv x0:Operand} {v0:Value} {l:Nat} (Fq:ev R fv=.func (.yield l) #[] #[]) (qR:ev R x0=v0) (h:nM P l #[v0] w K):
    k7 P ro ⟨dst,.call ⟨.value fv,#[x0],px⟩,ty,pos,af,gd⟩ R w K:=vT rfl (fun r hr=>by
  subst qR
  simp only[execOp,resolve,Fq,Wy,Wn,VC,We,VM,WG,VU,invoke]
  simpa using hr) h
def mark (D:Nat):List Deferred:=[{target:=.collected D,args:=#[]}]
def F3 (P:Program) (fn:Func) (n:Nat) (K:Value→World→Prop):dV:=fun e ds R w=>(e=.ret∨e=.normal)∧
  ((ds=[]∧∃v,RV P fn n R w v∧K v w)∨∃D,ds=mark D∧w.heap[D]?=some (.deferred (some []))∧∃v,RV P fn n R (w.putObj D (.deferred none)) v∧K v (w.putObj D (.deferred none)))
theorem al.jV {f : FuncId} {fn : Func} {c : Code} {args : Array Value} {K : Value → World → Prop} (hf : P.funcs[f]? = some fn) (hb : fn.body = some c)
    (hs:args.size≤fn.ntmps) (h:XW P none fn.ntmps c (F3 P fn fn.ntmps K) [] (fun t=>args.getD t undef) w):al P f args w K:=by
  refine(callsIn_wide (n:=0)).1 (callsIn_of_wp_marks (F:=XF none) hf hb trivial ?_)
  refine wpIn_mono (h _ ⟨by rw[YN,ZL];omega,fun t=>?_,rfl⟩) ?_
  · by_cases ht : t < args.size
    · simp[YI ht]
    · have h0 : args[t]? = .none := W0 (by omega)
      simp only[Xt,h0]
      rw[YD (by omega),YU]
      split<;>rfl
  · rintro e a w' ⟨R', GQ, hR, he, hQ⟩
    have key:LeavesInM (XF none) 0 P fn a.tmps (fun e w'=>∃v,e=.returned v∧K v w') a.defers .returning w':=by
      rcases hQ with⟨rfl,v,hv,hk⟩|⟨D,rfl,hD,v,hv,hk⟩
      · rw [hR.defs]
        exact⟨v,hv {a with defers:=[]} hR.GR,v,rfl,hk⟩
      · rw [hR.defs]
        exact⟨by simp,.inl ⟨D,_,rfl,run_takeDeferred hD,v,hv {a with defers:=[]} hR.GR,v,rfl,hk⟩⟩
    rcases he with rfl|rfl<;>exact key
theorem LJ {fn:Func} {K:Value→World→Prop} {v:Value} (h:RV P fn n R w v) (hk:K v w):F3 P fn n K .ret [] R w:=⟨.inl rfl,.inl ⟨rfl,v,h,hk⟩⟩
theorem uq {fn:Func} {K:Value→World→Prop} {v:Value} (h:RV P fn n R w v) (hk:K v w):F3 P fn n K .normal [] R w:=⟨.inr rfl,.inl ⟨rfl,v,h,hk⟩⟩
end
section
variable {P:Program} {w0 w w':World} {F:Nat→Prop} {L M N:List Atom}
def Atom.obj (l:Nat) (o:Obj):Atom where
  dg k:=k=l
  says w:=w.heap[l]?=some o
  jo:=by
    intro w w' h hs
    exact(h l rfl (VD.1 hs).1).trans hs
theorem z3 (w:World) (l:Nat) (o:Obj):Mod (fun k=>k=l) w (w.putObj l o):=
  ⟨rfl,rfl,rfl,by simp[abu],fun k _ hk=>World.putObj_heap_other hk⟩
theorem ak.putObj (h:ak w0 F w L) (i:Nat) {l:Nat} {o:Obj} (o':Obj) (hi:L[i]?=some (.obj l o)):ak w0 F (w.putObj l o') (L.set i (.obj l o')):=by
  have hs:w.heap[l]?=some o:=h.says i _ hi
  have hl:=(VD.1 hs).1
  exact h.aZ i hi (z3 w l o') (World.putObj_heap_same hl) fun k hk=>⟨.inl hk,by cases hk;simpa[abu]using hl⟩
def Atom.all (L:List Atom):Atom where
  dg:=aT L
  says w:=(∀(i:Nat) a,L[i]?=some a→a.says w)∧(∀(i:Nat) a,L[i]?=some a→∀k,a.dg k→k<w.heap.size)∧∀(i j:Nat) a b,i≠j→L[i]?=some a→L[j]?=some b→∀k,a.dg k→¬b.dg k
  jo:=by
    rintro w w' hb ⟨h1,h2,h3⟩
    refine⟨fun i a hi=>a.jo (fun k hk bW=>hb k ⟨a,UZ hi,hk⟩ bW) (h1 i a hi),fun i a hi k hk=>?_,h3⟩
    have hl:=h2 i a hi k hk
    have e:=hb k ⟨a,UZ hi,hk⟩ hl
    rw[WU hl]at e
    exact(VD.1 e).1
theorem CI:aT [Atom.all L]=aT L:=by
  funext k
  exact propext ⟨fun⟨a,ha,hk⟩=>by rw[VY]at ha;subst ha;exact hk,fun h=>⟨_,VY.2 rfl,h⟩⟩
theorem ak.pack (h:ak w0 F w (L++M)):ak w0 F w (.all L::M):=by
  have hL:∀(i:Nat) a,L[i]?=some a→(L++M)[i]?=some a:=fun i a hi=>by rw[VR (U5.1 hi).1];exact hi
  have hM:∀(i:Nat) a,M[i]?=some a→(L++M)[L.length+i]?=some a:=fun i a hi=>by rw[VQ (by omega)];simpa using hi
  have Ey:∀(j:Nat) b,M[j]?=some b→∀k,aT L k→¬b.dg k:=by
    rintro j b hj k ⟨a,ha,hk⟩ hC
    obtain⟨i,hi⟩:=Yh.1 ha
    have:=(U5.1 hi).1
    exact h.sep i (L.length+j) a b (by omega) (hL i a hi) (hM j b hj) k hk hC
  refine⟨h.mod,?_,?_,?_⟩
  · intro i a hi
    cases i with
    |zero=>
      cases hi
      exact⟨fun i a hi=>h.says i a (hL i a hi),fun i a hi k hk=>(h.low i a (hL i a hi) k hk).2,fun i j a b nz hi hj=>h.sep i j a b nz (hL i a hi) (hL j b hj)⟩
    |succ i=>exact h.says _ a (hM i a (by simpa using hi))
  · intro i a hi k hk
    cases i with
    |zero=>
      cases hi
      obtain⟨b,hb,hk⟩:=hk
      obtain⟨i,hi⟩:=Yh.1 hb
      exact h.low i b (hL i b hi) k hk
    |succ i=>exact h.low _ a (hM i a (by simpa using hi)) k hk
  · intro i j a b nz hi hj k hk hC
    cases i with
    |zero=>
      cases hi
      cases j with
      |zero=>exact nz rfl
      |succ j=>exact Ey j b (by simpa using hj) k hk hC
    |succ i=>
      cases j with
      |zero=>cases hj;exact Ey i a (by simpa using hi) k hC hk
      |succ j=>exact h.sep (L.length+i) (L.length+j) a b (by omega) (hM i a (by simpa using hi)) (hM j b (by simpa using hj)) k hk hC
theorem ak.unpack (h:ak w0 F w (.all L::M)):ak w0 F w (L++M):=by
  have hA:(Atom.all L).says w:=h.says 0 _ rfl
  obtain⟨h1,h2,h3⟩:=hA
  have get:∀(i:Nat) a,(L++M)[i]?=some a→L[i]?=some a∨(L.length≤i∧M[i-L.length]?=some a):=by
    intro i a hi
    rcases VH i L.length with hl|hl
    · rw[VR hl]at hi;exact .inl hi
    · rw[VQ hl]at hi;exact .inr ⟨hl,hi⟩
  have Ey:∀(i:Nat) a (j:Nat) b,L[i]?=some a→M[j]?=some b→∀k,a.dg k→¬b.dg k:=fun i a j b hi hj k hk hC=>
    h.sep 0 (j+1) _ b (by omega) rfl (by simpa using hj) k ⟨a,UZ hi,hk⟩ hC
  refine⟨h.mod,?_,?_,?_⟩
  · intro i a hi
    rcases get i a hi with hi|⟨_,hi⟩
    · exact h1 i a hi
    · exact h.says (i-L.length+1) a (by simpa using hi)
  · intro i a hi k hk
    rcases get i a hi with hi|⟨_,hi⟩
    · exact h.low 0 _ rfl k ⟨a,UZ hi,hk⟩
    · exact h.low (i-L.length+1) a (by simpa using hi) k hk
  · intro i j a b nz hi hj k hk hC
    rcases get i a hi with hi|⟨_,hi⟩<;>rcases get j b hj with hj|⟨_,hj⟩
    · exact h3 i j a b nz hi hj k hk hC
    · exact Ey i a _ b hi hj k hk hC
    · exact Ey j b _ a hj hi k hC hk
    · exact h.sep (i-L.length+1) (j-L.length+1) a b (by omega) (by simpa using hi) (by simpa using hj) k hk hC
theorem ak.NN (h:ak w0 F w L):ak w0 F w [.all L]:=ak.pack (M:=[]) (by rwa [V4])
theorem ak.Oq (h:ak w0 F w [.all L]):ak w0 F w L:=by have:=h.unpack;rwa [V4]at this
theorem ak.j1 {M:List Atom} {a:Atom} {α:Type} {v:Value} {l:List α} (h:ak w0 F w L) (p:List Nat) (hM:M.map some=p.map (fun i=>L[i]?)) (j:Nat) (hj:L[j]?=some a) (nz:(p.all fun i=>i != j)=true) (hv:∀k,v.ownBlock=some k→a.dg k):py (aT M) v l:=by
  rintro hl k hk ⟨b,hb,hf⟩
  have h2:some b∈M.map some:=V9.2 ⟨b,hb,rfl⟩
  rw[hM]at h2
  obtain⟨i,TF,hi⟩:=V9.1 h2
  have di:i≠j:=by simpa using YZ.1 nz i TF
  exact h.sep j i _ b (fun e=>di e.symm) hj hi k (hv k hk) hf
theorem Dw {n : Nat} {R : Nat → Value} {fn : Func} {K : Value → World → Prop} {D : Nat} {e : Exit} (h : ak w0 F w L) (he : e = .ret ∨ e = .normal) (i : Nat) (hi : L[i]? = some (.obj D (.deferred (some []))))
    (hk:∀w',ak w0 F w' (L.set i (.obj D (.deferred none)))→∃v,RV P fn n R w' v∧K v w'):F3 P fn n K e (mark D) R w:=
  ⟨he,.inr ⟨D,rfl,h.says i _ hi,hk _ (h.putObj i _ hi)⟩⟩
end
inductive tc {σ ε π : Type} (T : σ → ε → Bool → σ → Prop) (p : ε → π) (s0 : σ) : List π → σ → Prop
  |nil:tc T p s0 [] s0
  |snoc {pre:List π} {s s':σ} {x:ε}:tc T p s0 pre s→T s x true s'→tc T p s0 (pre++[p x]) s'
def Stop {σ ε π:Type} (T:σ→ε→Bool→σ→Prop) (p:ε→π) (s0:σ) (xs:List π) (s':σ):Prop:=∃pre x post s,tc T p s0 pre s∧xs=pre++p x::post∧T s x false s'
def nf {σ ε π:Type} (P:Program) (l:Nat) (C:Bool→σ→Atom) (T:σ→ε→Bool→σ→Prop) (p:ε→π) (s0:σ) (xs:List π) (Rd:(Nat→Prop)→ε→World→Prop) (enc:ε→Array Value):Prop:=
  ∀s x pre post w,tc T p s0 pre s→xs=pre++p x::post→ak w (aT [C true s]) w [C true s]→Rd (aT [C true s]) x w→
    nM P l (enc x) w fun v w'=>∃b s',v=.bool b∧T s x b s'∧ak w (aT [C true s]) w' [C b s']
def zK (R : Nat → Value) : List (Tmp × Value) → Nat → Value
  |[]=>R
  |(t,v)::l=>zK (aZ R t v) l
theorem q9.zK {ds:List Deferred} {n:Nat}:∀(l:List (Tmp×Value)) {R:Nat→Value} {tmps:Array Value},(∀x∈l,x.1<n)→q9 ds n R ⟨tmps,ds⟩→
    q9 ds n (Rl.zK R l) ⟨l.foldl (fun ts x=>ts.setIfInBounds x.1 x.2) tmps,ds⟩:=by
  intro l
  induction l with
  |nil=>exact fun _ h=>h
  |cons x l ih=>
    intro R tmps hl h
    have:=h.put (dst:=some x.1) (by simpa[eS]using hl x (by simp)) x.2
    exact ih (fun y hy=>hl y (VX _ hy)) this
section
variable {P:Program} {ro:Option Nat} {n:Nat} {Q:dV} {R:Nat→Value} {w0 w:World} {F:Nat→Prop} {L M:List Atom}
def zO {σ:Type} (T:Bool→σ→Prop) (FF:Nat→Prop) (l D:Nat) (rc:LoopState→Option Code→Loop) (S:σ→List Atom) (w:World):dV:=fun e ds R w'=>
  (e=.normal∧∃s',T true s'∧ak w FF w' (.obj l (.loop (rc .busy none))::.obj D (.deferred (some []))::S s'))∨
  (e=.ret∧∃s',T false s'∧ak w FF w' (.obj l (.loop (rc .busy none))::.obj D (.deferred (some []))::S s'))
def wY (P:Program) (l n:Nat) (body:Code) (Qb:dV) (FF:Nat→Prop) (L0:List Atom) (w:World):dV:=fun e ds R w'=>e=.normal∧ds=[]∧w'=w∧∀w2,ak w FF w2 L0→XW P (some l) n body Qb [] R w2
theorem sV {l:Nat} {body:Code} {Qb:dV} {FF:Nat→Prop} {L0:List Atom} (h:∀w2,ak w FF w2 L0→XW P (some l) n body Qb [] R w2):wY P l n body Qb FF L0 w .normal [] R w:=⟨rfl,rfl,rfl,h⟩
theorem vH {σ:Type} {T:Bool→σ→Prop} {FF:Nat→Prop} {l D:Nat} {rc:LoopState→Option Code→Loop} {S:σ→List Atom} {w w':World} {ds:List Deferred} (s':σ) (hT:T true s') (h:ak w FF w' (.obj l (.loop (rc .busy none))::.obj D (.deferred (some []))::S s')):zO T FF l D rc S w .normal ds R w':=.inl ⟨rfl,s',hT,h⟩
theorem XW.JE {σ ε π : Type} {g : Operand} {ps : Array Tmp} {C0 body : Code} {gf : FuncId} {fn : Func} {lb : Array Value} {p : ε → π} {enc : ε → Array Value} {Rd : (Nat → Prop) → ε → World → Prop} {xs : List π}
    (S:σ→List Atom) (T:σ→ε→Bool→σ→Prop) (s0:σ)
    (hN:ak w0 F w (S s0++M)) (hg:ev R g=.func (.func gf) #[] lb) (hf:P.funcs[gf]?=some fn) (hn:(fn.name == "runtime.NumGoroutine")=false) (hb:fn.body.isSome=true)
    (M7:∀(l:Nat) (C:Bool→σ→Atom) (w:World),nf P l C T p s0 xs Rd enc→ak w0 F w (C true s0::M)→al P gf (#[.func (.yield l) #[] #[]]++lb) w fun _ w'=>∃s',(tc T p s0 xs s'∧ak w0 F w' [C true s'])∨(Stop T p s0 xs s'∧ak w0 F w' [C false s']))
    (Cq:∀x,(enc x).size=ps.size) (bW:∀t∈ps.toList,t<n)
    (FB:∀(l D:Nat) (rc:LoopState→Option Code→Loop) (FF:Nat→Prop) (s:σ) (x:ε) (pre post:List π) (w:World),tc T p s0 pre s→xs=pre++p x::post→Rd FF x w→ak w FF w (.obj l (.loop (rc .ready none))::.obj D (.deferred (some []))::S s)→
      XW P (some l) n C0 (wY P l n body (zO (T s x) FF l D rc S w) FF (.obj l (.loop (rc .busy none))::.obj D (.deferred (some []))::S s) w) [] (zK R (ps.toList.zip (enc x).toList)) w)
    (Fv:∀(l D:Nat) (o:Obj) (s:σ) (w:World),tc T p s0 xs s→ak w0 F w (.obj l o::.obj D (.deferred (some []))::S s)→Q .normal (mark D) R w)
    (O9:∀(l D:Nat) (o:Obj) (s:σ) (w:World),Stop T p s0 xs s→ak w0 F w (.obj l o::.obj D (.deferred (some []))::S s)→Q .ret (mark D) R w):
    XW P none n (.rangeFunc g ps C0 body) Q [] R w:=fun a ha=>by
  refine wpIn_rangeFunc ?_
  intro Sr _
  obtain⟨rc,GG⟩:∃rc:LoopState→Option Code→Loop,rc=fun st pe=>{state:=st,pending:=pe,fn:=Sr,tmps:=a.tmps,params:=ps,assign:=C0,body,defers:=w.heap.size}:=⟨_,rfl⟩
  obtain⟨W1,RR⟩:∃W1,(w.alloc (.deferred (some []))).alloc (.loop (rc .ready none))=W1:=⟨_,rfl⟩
  let O:Bool→Atom:=fun b=>.obj (w.heap.size+1) (.loop (bif b then rc .ready none else rc .done (some .ret)))
  let D:Atom:=.obj w.heap.size (.deferred (some []))
  let C:Bool→σ→Atom:=fun b s=>.all (O b::D::S s)
  have R7:ak w0 F W1 (C true s0::M):=by
    have h1:ak w0 F (w.alloc (.deferred (some []))) (D::(S s0++M)):=hN.push (Ext.alloc _ _) (ZN w _) fun k hk=>by cases hk;exact⟨Vv _,by simp⟩
    have h2:ak w0 F W1 (O true::D::(S s0++M)):=by
      rw[←RR]
      refine h1.push (Ext.alloc _ _) ?_ fun k hk=>?_
      · have := ZN (w.alloc (.deferred (some []))) (.loop (rc .ready none))
        rwa [World.size_alloc]at this
      · cases hk;simp
    exact ak.pack (L:=O true::D::S s0) h2
  have pR:(fn.name == "runtime.NumGoroutine")=false:=hn
  have Md:nf P (w.heap.size+1) C T p s0 xs Rd enc:=by
    intro s x pre post w1 eB HB h1 Lu
    have hF:aT [C true s]=aT (O true::D::S s):=CI
    have h1:ak w1 (aT [C true s]) w1 (O true::D::S s):=h1.Oq
    have hl:w1.heap[w.heap.size+1]?=some (.loop (rc .ready none)):=h1.says 0 _ rfl
    have hy:=run_yield (P:=P) (args:=enc x) hl (by rw[GG];exact Cq x)
    rw[GG]at hy
    refine⟨Sr,_,C0,body,hy,roundIn_of_wpIn trivial ?_⟩
    have iN:=FB (w.heap.size+1) w.heap.size rc _ s x pre post w1 eB HB Lu h1
    have wC:q9 [] n (zK R (ps.toList.zip (enc x).toList)) ⟨(ps.zip (enc x)).foldl (fun tmps (t,a)=>tmps.setIfInBounds t a) a.tmps,[]⟩:=by
      have:=q9.zK (ds:=[]) (n:=n) (ps.toList.zip (enc x).toList) (R:=R) (tmps:=a.tmps) (fun y hy=>bW _ (List.of_mem_zip hy).1) ⟨ha.size,ha.kg,rfl⟩
      rw[←Array.foldl_toList,Array.toList_zip]
      exact this
    refine wpIn_mono (iN _ wC) ?_
    rintro e a1 w2 ⟨R1,UQ,T3,rfl,rfl,rfl,yD⟩
    refine⟨_,run_beginRound hl (by rw[GG]),?_⟩
    have h2:ak w2 (aT [C true s]) (w2.putObj (w.heap.size+1) (.loop {rc .ready none with state:=.busy})) (.obj (w.heap.size+1) (.loop {rc .ready none with state:=.busy})::D::S s):=h1.putObj 0 _ rfl
    have eb:({rc .ready none with state:=.busy}:Loop)=rc .busy none:=by rw[GG]
    rw[eb]at h2 ⊢
    refine wpIn_mono (yD _ h2 a1 T3) ?_
    have fin:∀(b:Bool) (s':σ) (w3:World),T s x b s'→ak w2 (aT [C true s]) w3 (.obj (w.heap.size+1) (.loop (rc .busy none))::.obj w.heap.size (.deferred (some []))::S s')→
        ∃v w',(Instr.endRound (w.heap.size+1) (bif b then none else some .ret)).run P w3=.ok v w'∧∃u,Ending.returned v=.returned u∧∃b s',u=.bool b∧T s x b s'∧ak w2 (aT [C true s]) w' [C b s']:=by
      intro b s' w3 hT h3
      have MW:w3.heap[w.heap.size+1]?=some (.loop (rc .busy none)):=h3.says 0 _ rfl
      refine⟨_,_,run_endRound _ MW,_,rfl,b,s',by cases b<;>rfl,hT,?_⟩
      have h4:=h3.putObj 0 (.loop {rc .busy none with state:=if(bif b then none else some Code.ret:Option Code).isNone then .ready else .done,pending:=bif b then none else some .ret}) rfl
      have e4:({rc .busy none with state:=if(bif b then none else some Code.ret:Option Code).isNone then .ready else .done,pending:=bif b then none else some .ret}:Loop)=bif b then rc .ready none else rc .done (some .ret):=by
        rw[GG];cases b<;>rfl
      rw[e4]at h4 ⊢
      exact ak.NN (L:=O b::D::S s') h4
    rintro e a2 w3 ⟨R3,UP,_,⟨rfl,s',hT,h3⟩|⟨rfl,s',hT,h3⟩⟩
    · exact fin true s' w3 hT h3
    · exact fin false s' w3 hT h3
  refine⟨w.heap.size+1,mark w.heap.size,W1,{target:=.fn (.func gf) lb,args:=#[.func (.yield (w.heap.size+1)) #[] #[]]},W1,gf,#[.func (.yield (w.heap.size+1)) #[] #[]]++lb,W1,?_,?_,fun _ _=>trivial,?_,fun e=>(by cases e),?_⟩
  · rw[←RR,GG];exact run_enterLoop_outer _ _ _ _ _
  · have TJ : a.eval g = .func (.func gf) #[] lb := by rw [ha.eval]; exact hg
    simp only[resolve,TJ]
    simp[go_sem]
  · have := dF (P := P) (w := W1) (#[.func (.yield (w.heap.size + 1)) #[] #[]] ++ lb) hf pR hb
    simpa[invoke]using this
  · refine YY (BE (M7 (w.heap.size + 1) C W1 Md R7)) ?_
    rintro e w2 ⟨v,rfl,s',⟨eB,h2⟩|⟨eB,h2⟩⟩
    · have h3 : ak w0 F w2 (O true :: D :: S s') := h2.Oq
      have hl:w2.heap[w.heap.size+1]?=some (.loop (rc .ready none)):=h3.says 0 _ rfl
      have KD:(abl (w.heap.size+1)).run P w2=.ok (none) (w2.putObj (w.heap.size+1) (.loop {rc .ready none with state:=.exhausted})):=by
        have:=run_endLoop (P:=P) hl (by rw[GG];simp)
        rw[GG]at this ⊢;exact this
      refine⟨none,_,KD,?_⟩
      refine⟨R,mark w.heap.size,⟨ha.size,ha.kg,by simp[ha.defs]⟩,?_⟩
      exact Fv _ _ _ s' _ eB (h3.putObj 0 _ rfl)
    · have h3 : ak w0 F w2 (O false :: D :: S s') := h2.Oq
      have hl:w2.heap[w.heap.size+1]?=some (.loop (rc .done (some .ret))):=h3.says 0 _ rfl
      have KD:(abl (w.heap.size+1)).run P w2=.ok (some .ret) (w2.putObj (w.heap.size+1) (.loop {rc .done (some .ret)with state:=.exhausted})):=by
        have:=run_endLoop (P:=P) hl (by rw[GG];simp)
        rw[GG]at this ⊢;exact this
      refine⟨some .ret,_,KD,?_⟩
      refine wpIn_ret ⟨R,mark w.heap.size,⟨ha.size,ha.kg,by simp[ha.defs]⟩,?_⟩
      exact O9 _ _ _ s' _ eB (h3.putObj 0 _ rfl)
end
end Go.Rl
namespace Go.Rl
def Jw (n:Nat) (ops:Array Oper) (i:Nat):Bool:=match ops[i]? with
  |some o=>eS n o.dst && (match o.guard with
    |none=>true
    |some (j,_)=>match (ops[j]?).bind (·.dst)with
      |some d=>decide (d<n)
      |none=>false)
  |none=>false
def Bb (n : Nat) (ops : Array Oper) (e : Nat) : List (Nat × Nat) → Array Bool → Bool
  |[],_=>true
  |(i,k)::r,ba=>Jw n ops i && (match k with
    |0=>XB .any ops ba i && (VL .any ops ba).contains i && !(i == e) && waits ops e i
    |1=>VL .any ops ba == [i]
    |_=>VL .any ops ba == [i] && i == e) && Bb n ops e r (ba.setIfInBounds i true)
def RQ (P:Program) (n:Nat) (ops:Array Oper) (Q:eN) (S:World→Prop) (e fuel:Nat) (st:List (Nat×Nat)) (ba:Array Bool) (R:Nat→Value) (w:World):Prop:=
  Bb n ops e st ba=true→WW ops=true→Je Q→S w→RE P n ops Q S e fuel ba R w
section
variable {P:Program} {n:Nat} {Q:eN} {R:Nat→Value} {w:World} {ops:Array Oper} {S:World→Prop} {e fuel i k:Nat} {st:List (Nat×Nat)} {ba:Array Bool} {o:Oper} {v:Value}
theorem mC (h:Bb n ops e ((i,k)::st) ba=true):Jw n ops i=true∧Bb n ops e st (ba.setIfInBounds i true)=true:=by
  simp only[Bb,VZ]at h
  exact⟨h.1.1,h.2⟩
theorem vW (h:Bb n ops e ((i,0)::st) ba=true):XB .any ops ba i=true∧(VL .any ops ba).contains i=true∧i≠e∧waits ops e i=true:=by
  simp only[Bb,VZ,Bool.not_eq_true',beq_eq_false_iff_ne]at h
  exact⟨h.1.2.1.1.1,h.1.2.1.1.2,h.1.2.1.2,h.1.2.2⟩
theorem vX (h:Bb n ops e ((i,1)::st) ba=true):VL .any ops ba=[i]:=by
  simp only[Bb,VZ,beq_iff_eq]at h
  exact h.1.2
theorem Hm (h:Bb n ops e ((i,2)::st) ba=true):VL .any ops ba=[i]∧i=e:=by
  simp only[Bb,VZ,beq_iff_eq]at h
  exact h.1.2
theorem nq (h:Jw n ops i=true) (hi:ops[i]?=some o):eS n o.dst=true:=by
  unfold Jw at h
  rw[hi]at h
  simp only[VZ]at h
  exact h.1
theorem nV {j d:Nat} {b:Bool} (h:Jw n ops i=true) (hi:ops[i]?=some o) (hg:o.guard=some (j,b)) (hj:(ops[j]?).bind (·.dst)=some d):d<n:=by
  unfold Jw at h
  rw[hi]at h
  simp only[hg,hj,VZ,decide_eq_true_eq]at h
  exact h.2
theorem RE.DA {i : Nat} {o : Oper} {v : Value} (hi : ops[i]? = some o) (su : i ≠ e) (OO : waits ops e i = true) (hs : WW ops = true)
    (hf:XB .any ops ba i=true) (hr:(VL .any ops ba).contains i=true) (hp:Je Q) (hd:eS n o.dst=true) (hS:S w) (hy:∀a,AtR n R a→YieldsIf P ops S o v a)
    (hn:RE P n ops Q S e fuel (ba.setIfInBounds i true) (fW R o.dst v) w):RE P n ops Q S e (fuel+1) ba R w:=fun a ha=>
  vy hi su OO (ZO hs) (fun c a w=>nU hp _ _ a w) fuel ba a w (aaW hi hf) (by simpa using hr) (hy a ha) hS (hn _ (ha.put hd v))
theorem RQ.ev (hi:ops[i]?=some o) (hg:o.guard=none) (h:∀w,S w→Ev P o R w v) (hn:RQ P n ops Q S e fuel st (ba.setIfInBounds i true) (fW R o.dst v) w):RQ P n ops Q S e (fuel+1) ((i,0)::st) ba R w:=fun eP hs hp hS=>by
  obtain⟨h1,h2⟩:=mC eP
  obtain⟨g1,g2,g3,g4⟩:=vW eP
  exact RE.DA hi g3 g4 hs g1 g2 hp (nq h1 hi) hS (fun a ha=>.inl ⟨by simp[VW,hg],fun w hw=>by rw[ha.eval];exact h w hw⟩) (hn h2 hs hp hS)
theorem RQ.on {j d:Nat} {want:Bool} (hi:ops[i]?=some o) (hg:o.guard=some (j,want)) (hj:(ops[j]?).bind (·.dst)=some d) (hb:R d=.bool want) (h:∀w,S w→Ev P o R w v) (hn:RQ P n ops Q S e fuel st (ba.setIfInBounds i true) (fW R o.dst v) w):
    RQ P n ops Q S e (fuel+1) ((i,0)::st) ba R w:=fun eP hs hp hS=>by
  obtain⟨h1,h2⟩:=mC eP
  obtain⟨g1,g2,g3,g4⟩:=vW eP
  exact RE.DA hi g3 g4 hs g1 g2 hp (nq h1 hi) hS (fun a ha=>.inl ⟨by simp[VW,hg,eU ha hj (nV h1 hi hg hj) hb],fun w hw=>by rw[ha.eval];exact h w hw⟩) (hn h2 hs hp hS)
theorem RQ.DI (hi:ops[i]?=some o) (hy:∀a,AtR n R a→Jw n ops i=true→VW o (yielded ops a.tmps)=false) (hn:RQ P n ops Q S e fuel st (ba.setIfInBounds i true) (fW R o.dst undef) w):
    RQ P n ops Q S e (fuel+1) ((i,k)::st) ba R w:=fun eP hs hp hS=>by
  obtain⟨h1,h2⟩:=mC eP
  have hn:=hn h2 hs hp hS
  have go:VL .any ops ba=[i]→RE P n ops Q S e (fuel+1) ba R w:=fun hr a ha=>by
    refine⟨fun h0=>(by rw[hr]at h0;cases h0),fun j hj=>?_⟩
    have:j=i:=by rw[hr]at hj;simpa using hj
    subst this
    unfold wpOp
    simp only[hi,hy a ha h1,VS,if_false]
    exact⟨fun _=>hS,hn _ (ha.put (nq h1 hi) undef)⟩
  match k,eP with
  |0,eP=>
    obtain⟨g1,g2,g3,g4⟩:=vW eP
    exact RE.DA hi g3 g4 hs g1 g2 hp (nq h1 hi) hS (fun a ha=>.inr ⟨hy a ha h1,rfl⟩) hn
  |1,eP=>exact go (vX eP)
  |k+2,eP=>
    refine go ?_
    simp only[Bb,VZ,beq_iff_eq]at eP
    exact eP.1.2.1
theorem RQ.off {j d:Nat} {want:Bool} (hi:ops[i]?=some o) (hg:o.guard=some (j,want)) (hj:(ops[j]?).bind (·.dst)=some d) (hb:R d=.bool (!want)) (hn:RQ P n ops Q S e fuel st (ba.setIfInBounds i true) (fW R o.dst undef) w):
    RQ P n ops Q S e (fuel+1) ((i,k)::st) ba R w:=RQ.DI hi (fun a ha h1=>by cases want<;>simp[VW,hg,eU ha hj (nV h1 hi hg hj) hb]) hn
theorem RQ.kK {j d:Nat} {want:Bool} (hi:ops[i]?=some o) (hg:o.guard=some (j,want)) (hj:(ops[j]?).bind (·.dst)=some d) (hb:R d=undef) (hn:RQ P n ops Q S e fuel st (ba.setIfInBounds i true) (fW R o.dst undef) w):
    RQ P n ops Q S e (fuel+1) ((i,k)::st) ba R w:=RQ.DI hi (fun a ha h1=>by simp[VW,hg,mS ha hj (nV h1 hi hg hj) hb]) hn
theorem RQ.do (hi:ops[i]?=some o) (hg:o.guard=none) (h:dQ P o R w (fun v w'=>S w'∧RQ P n ops Q S e fuel st (ba.setIfInBounds i true) (fW R o.dst v) w')):RQ P n ops Q S e (fuel+1) ((i,1)::st) ba R w:=fun eP hs hp hS a ha=>by
  obtain⟨h1,h2⟩:=mC eP
  have hr:=vX eP
  refine⟨fun h0=>(by rw[hr]at h0;cases h0),fun j hj=>?_⟩
  have:j=i:=by rw[hr]at hj;simpa using hj
  subst this
  unfold wpOp
  simp only[hi,VW,hg,if_true]
  exact .inl (dQ.wp ha (nq h1 hi) h fun v w' hv wC=>⟨fun _=>hv.1,hv.2 h2 hs hp hv.1 _ wC⟩)
theorem RQ.qz {j d : Nat} {want : Bool} (hi : ops[i]? = some o) (hg : o.guard = some (j, want)) (hj : (ops[j]?).bind (·.dst) = some d) (hb : R d = .bool want)
    (h:dQ P o R w (fun v w'=>S w'∧RQ P n ops Q S e fuel st (ba.setIfInBounds i true) (fW R o.dst v) w')):RQ P n ops Q S e (fuel+1) ((i,1)::st) ba R w:=fun eP hs hp hS a ha=>by
  obtain⟨h1,h2⟩:=mC eP
  have hr:=vX eP
  refine⟨fun h0=>(by rw[hr]at h0;cases h0),fun q hq=>?_⟩
  have:q=i:=by rw[hr]at hq;simpa using hq
  subst this
  unfold wpOp
  simp only[hi,VW,hg,eU ha hj (nV h1 hi hg hj) hb,beq_self_eq_true,if_true]
  exact .inl (dQ.wp ha (nq h1 hi) h fun v w' hv wC=>⟨fun _=>hv.1,hv.2 h2 hs hp hv.1 _ wC⟩)
def RZ (P:Program) (n:Nat) (ops:Array Oper) (Q:eN) (S:World→Prop) (e fuel:Nat) (ba:Array Bool) (R:Nat→Value) (w:World):Prop:=RE P n ops Q S e fuel ba R w
theorem RQ.last (hi:ops[i]?=some o) (hg:o.guard=none) (h:dQ P o R w (fun v w'=>RZ P n ops Q S e fuel (ba.setIfInBounds i true) (fW R o.dst v) w')):RQ P n ops Q S e (fuel+1) ((i,2)::st) ba R w:=fun eP hs hp hS a ha=>by
  obtain⟨h1,h2⟩:=mC eP
  obtain⟨hr,rfl⟩:=Hm eP
  refine⟨fun h0=>(by rw[hr]at h0;cases h0),fun j hj=>?_⟩
  have:j=i:=by rw[hr]at hj;simpa using hj
  subst this
  unfold wpOp
  simp only[hi,VW,hg,if_true]
  exact .inl (dQ.wp ha (nq h1 hi) h fun v w' hv wC=>⟨fun h=>absurd rfl h,hv _ wC⟩)
theorem RZ.done (hr:VL .any ops ba=[]) (h:Q .normal R w):RZ P n ops Q S e fuel ba R w:=RE.done hr h
theorem RQ.done (hr:VL .any ops ba=[]) (h:Q .normal R w):RQ P n ops Q S e fuel [] ba R w:=fun _ _ _ _=>RE.done hr h
end
section
variable {P:Program} {ro:Option Nat} {n:Nat} {Q:eN} {X:dV} {R:Nat→Value} {w:World} {ops:Array Oper} {ds:List Deferred} {id:Nat}
theorem RW.cb (hm : P.follows .mixedOrders = true) (S : World → Prop) (e : Nat) (st : List (Nat × Nat)) (hp : Je Q) (eP : (Bb n ops e st (WV ops.size false) && WW ops) = true) (hS : S w.drew)
    (h:RQ P n ops Q S e ops.size st (WV ops.size false) R w.drew):RW P n (.region id ops true) Q R w:=by
  simp only[VZ]at eP
  exact RW.F5 hm S e (h eP.1 eP.2 hp hS)
theorem XW.cb (hm : P.follows .mixedOrders = true) (pR : ops.toList.all dS = true) (S : World → Prop) (e : Nat) (st : List (Nat × Nat)) (eP : (Bb n ops e st (WV ops.size false) && WW ops) = true) (hS : S w.drew)
    (h:RQ P n ops (pG fun R w=>X .normal ds R w) S e ops.size st (WV ops.size false) R w.drew):XW P ro n (.region id ops true) X ds R w:=by
  simp only[VZ]at eP
  exact XW.F5 hm pR S e (h eP.1 eP.2 JK hS)
end
end Go.Rl
namespace Go.Rl
section
variable {w0 w w':World} {F:Nat→Prop} {L M R:List Atom} {a a':Atom}
def zn (a b:Atom):Prop:=∀k,a.dg k→¬b.dg k
theorem zn.symm {a b:Atom} (h:zn a b):zn b a:=fun k hb ha=>h k ha hb
theorem ak.iff:ak w0 F w L↔Mod F w0 w∧(∀a∈L,a.says w)∧(∀a∈L,∀k,a.dg k→(F k∨w0.heap.size≤k)∧k<w.heap.size)∧L.Pairwise zn:=by
  constructor
  · intro h
    refine⟨h.mod,fun a ha=>?_,fun a ha=>?_,?_⟩
    · obtain⟨i,hi⟩:=VK ha;exact h.says i a hi
    · obtain⟨i,hi⟩:=VK ha;exact h.low i a hi
    · rw [YS]
      intro i j hi hj nz
      exact h.sep i j _ _ (by omega) (UT hi) (UT hj)
  · rintro ⟨h1, h2, h3, h4⟩
    rw[YS]at h4
    refine⟨h1,fun i a ha=>h2 a (UZ ha),fun i a ha=>h3 a (UZ ha),fun i j a b nz ha hb=>?_⟩
    obtain⟨hi,rfl⟩:=U5.1 ha
    obtain⟨hj,rfl⟩:=U5.1 hb
    rcases Nat.lt_or_gt_of_ne nz with h|h
    · exact h4 i j hi hj h
    · exact(h4 j i hj hi h).symm
theorem ak.take (h:ak w0 F w (L++R)):ak w (aT L) w L:=by
  rw[ak.iff]at h ⊢
  exact⟨Mod.refl _ _,fun a ha=>h.2.1 a (ZP _ ha),fun a ha k hk=>⟨.inl ⟨a,ha,hk⟩,(h.2.2.1 a (ZP _ ha) k hk).2⟩,(List.pairwise_append.1 h.2.2.2).1⟩
variable {α:Type} {P:α→Atom→Prop} {B:Nat→Prop} {l l':List α} {x:α}
end
end Go.Rl
namespace Go.Rl
open Go.RowKit
theorem pZ {α β:Type} {cf:α→List β} {s:Nat} (hs:∀a,(cf a).length=s):∀{l:List α} {m:Nat} {a:α} {j:Nat},l[m]?=some a→j<s→(l.flatMap cf)[m*s+j]?=(cf a)[j]?:=by
  intro l
  induction l with
  |nil=>intro m a j h;simp at h
  |cons x r ih=>
    intro m a j h hj
    cases m with
    |zero=>simp at h;subst h;rw[WO,Nat.zero_mul,W3,VR (by rw[hs];exact hj)]
    |succ m=>
      simp at h
      have e:(m+1)*s+j=s+(m*s+j):=by rw[Nat.succ_mul];omega
      rw[WO,e,VQ (by rw[hs];omega),hs,Nat.add_sub_cancel_left,ih h hj]
theorem pY {α β:Type} {cf:α→List β} {s:Nat} (hs:∀a,(cf a).length=s) (l:List α):(l.flatMap cf).length=l.length*s:=by
  induction l with
  |nil=>simp
  |cons x r ih=>rw[WO,UX,hs,ih,U6,Nat.succ_mul];omega
section
variable {α:Type} {cf:α→List Value} {s:Nat}
def Sm (cf:α→List Value) (w:World) (v:Value) (l:List α):Prop:=∃A c,v=.slice A l.length c∧l.length≤c∧c≤maxLen∧Cells w A (l.flatMap cf)
theorem Sm.nil (cf:α→List Value) (w:World):Sm cf w (.slice none 0 0) []:=⟨none,0,rfl,Vv _,by unfold maxLen;omega,Cells.nil _ _⟩
theorem Sm.mod {M:Nat→Prop} {w w':World} {v:Value} {l:List α} (h:Sm cf w v l) (hm:Mod M w w') (hb:∀k,v.ownBlock=some k→¬M k):Sm cf w' v l:=by
  obtain⟨A,c,rfl,h1,h2,hc⟩:=h
  refine⟨A,c,rfl,h1,h2,hc.mod hm ?_⟩
  rintro ad rfl
  exact hb _ rfl
theorem Sm.ext {w w':World} {v:Value} {l:List α} (h:Sm cf w v l) (hm:Ext w w'):Sm cf w' v l:=h.mod hm (fun _ _ e=>e)
theorem Sm.off {M:Nat→Prop} {w w':World} {v:Value} {l:List α} (h:Sm cf w v l) (ho:py M v l) (hm:Mod M w w'):Sm cf w' v l:=by
  by_cases hl:l=[]
  · subst hl
    obtain⟨A,c,h1,h2,h3,h4⟩:=h
    exact⟨A,c,h1,h2,h3,Cells.nil _ _⟩
  · exact h.mod hm (ho hl)
theorem Sm.aY {w:World} {v:Value} {l:List α} (h:Sm cf w v l):l.length≤9223372036854775807:=by
  obtain⟨A,c,rfl,h1,h2,_⟩:=h;unfold maxLen at h2;omega
theorem Sm.lt {w:World} {v:Value} {l:List α} (h:Sm cf w v l) (hs:∀a,cf a≠[]) (hl:l≠[]):∀k,v.ownBlock=some k→k<w.heap.size:=by
  obtain⟨A,c,rfl,h1,h2,hc⟩:=h
  intro k hk
  cases l with
  |nil=>exact absurd rfl hl
  |cons x xs=>
    cases hx:cf x with
    |nil=>exact absurd hx (hs x)
    |cons u us=>
      obtain⟨ad,rfl,hu⟩:=hc 0 u (by simp[hx])
      have:=block_lt_of_cell hu
      rw[block_add]at this
      simp[XQ]at hk
      omega
theorem Sm.cO {w:World} {v:Value} {l:List α} (h:Sm cf w v l):v.cells=#[v]:=by obtain⟨A,c,rfl,_⟩:=h;rfl
theorem Sm.bJ {w:World} {v:Value} {l:List α} (h:Sm cf w v l):v.oneCell'=true:=by obtain⟨A,c,rfl,_⟩:=h;rfl
theorem Sm.hd {w:World} {v:Value} {l:List α} (h:Sm cf w v l):∃a:Hd,v=vh a:=by obtain⟨A,c,rfl,_⟩:=h;exact⟨(A,l.length,c),rfl⟩
def k6 (cf:α→List Value) (s:Nat) (E:TypeId) (w:World) (base:Nat) (v:Value) (l:List α):Prop:=w.ownsRow base E s v l.length (l.flatMap cf)
theorem k6.nil (cf:α→List Value) (s:Nat) (E:TypeId) (w:World) (base:Nat):k6 cf s E w base (.slice none 0 0) []:=aaB _ _ _ _
theorem k6.sm {E:TypeId} {w:World} {base:Nat} {v:Value} {l:List α} (h:k6 cf s E w base v l):Sm cf w v l:=by
  rcases h.2 with⟨rfl,h0⟩|⟨g,cap,cur,rfl,hb,hh,h1,h2,h3,h4⟩
  · have : l = [] := Wg h0
    subst this
    exact Sm.nil _ _
  · refine ⟨_, cap, rfl, h1, h2, fun j v hv => ⟨_, rfl, ?_⟩⟩
    exact Yw h (g:=g) rfl j v hv
theorem k6.lt {E:TypeId} {w:World} {base:Nat} {v:Value} {l:List α} (h:k6 cf s E w base v l):∀k,v.ownBlock=some k→base≤k∧k<w.heap.size:=aaU h
theorem k6.lower {E:TypeId} {w:World} {base p6:Nat} {v:Value} {l:List α} (h:k6 cf s E w base v l) (hb:p6≤base):k6 cf s E w p6 v l:=by
  unfold k6 Xj at*
  refine⟨h.1,h.2.imp id ?_⟩
  rintro⟨g,cap,cur,rfl,Bq,hr⟩
  exact⟨g,cap,cur,rfl,Vf hb Bq,hr⟩
def Atom.cV (cf:α→List Value) (s:Nat) (E:TypeId) (v:Value) (l:List α):Atom where
  dg k:=v.ownBlock=some k
  says w:=k6 cf s E w 0 v l
  jo:=by
    intro w w' h hs
    unfold k6 Xj at*
    refine⟨hs.1,hs.2.imp id ?_⟩
    rintro⟨g,cap,cur,rfl,Bq,hh,hr⟩
    exact⟨g,cap,cur,rfl,Bq,(h g rfl (VD.1 hh).1).trans hh,hr⟩
end
section
variable {P:Program} {n:Nat} {Q:eN} {R:Nat→Value} {w0 w:World} {F:Nat→Prop} {L:List Atom} {K:Value→World→Prop} {dst:Option Tmp} {ty:TypeId} {pos:String} {af:Array Edge} {gd:Option (Nat×Bool)}
universe u
variable {α:Type} {cf:α→List Value} {s:Nat}
theorem xE {α:Type u} {l:List α} {i:Nat} {a:α} (h:l[i]?=some a):l.set i a=l:=by
  obtain⟨hi,rfl⟩:=U5.1 h
  exact List.set_getElem_self hi
theorem ak.cV (h:ak w0 F w L) (i:Nat) {E:TypeId} {v:Value} {l:List α} (hi:L[i]?=some (.cV cf s E v l)):k6 cf s E w 0 v l:=h.says i _ hi
theorem ak.sm (h:ak w0 F w L) (i:Nat) {E:TypeId} {v:Value} {l:List α} (hi:L[i]?=some (.cV cf s E v l)):Sm cf w v l:=(h.cV i hi).sm
theorem ak.eK (h:ak w0 F w L) (cf:α→List Value) (s:Nat) (E:TypeId):ak w0 F w (.cV cf s E (.slice none 0 0) []::L):=
  h.add (k6.nil _ _ _ _ _) (fun k hk=>by cases hk) (fun _ _ _ _ _ hk=>by cases hk)
theorem ak.D0 (h:ak w0 F w L) {w':World} {E:TypeId} {v:Value} {l:List α} (ho:k6 cf s E w' w.heap.size v l) (he:Ext w w'):ak w0 F w' (.cV cf s E v l::L):=
  h.push he (ho.lower (VP _)) (fun k hk=>ho.lt k hk)
theorem ak.Hc {E:TypeId} {v:Value} {l m:List α} (h:ak w0 F w L) (i:Nat) (hi:L[i]?=some (.cV cf s E v l)) (e:l=m):ak w0 F w (L.set i (.cV cf s E v m)):=by
  subst e
  rw[xE hi];exact h
theorem bQ {t:TypeId} {x:Operand} {v:Value} {l:List α} {e:TypeId} (ht:P.underlying t=some (.slice e)) (hs:Sm cf w v l) (hx:ev R x=v):
    Ev P ⟨dst,.call ⟨.builtin .len,#[x],#[t]⟩,ty,pos,af,gd⟩ R w (.int .i64 l.length):=by
  obtain⟨A,c,rfl,_⟩:=hs
  exact F2 ht hx
theorem Sm.at (nQ:∀a,(cf a).length=s) {v:Value} {l:List α} {m j:Nat} {a:α} {u:Value} (h:Sm cf w v l) (hm:l[m]?=some a) (hj:(cf a)[j]?=some u):
    ∃ad c,v=.slice (some ad) l.length c∧en v (m*s+j)=.pointer (some (ad.add (m*s+j)))∧w.cell? (ad.add (m*s+j))=some u:=by
  obtain⟨A,c,rfl,h1,h2,hc⟩:=h
  have M6:j<s:=by rw[←nQ a];exact(U5.1 hj).1
  obtain⟨ad,rfl,dv⟩:=hc (m*s+j) u (by rw[pZ nQ hm M6,hj])
  exact⟨ad,c,rfl,rfl,dv⟩
theorem bn {t e : TypeId} {x i : Operand} {v : Value} {l : List α} {k : IntKind} {m : Int} (ht : P.underlying t = some (.slice e)) (ew : (P.info? e).map (·.size) = some s) (nQ : ∀ a, (cf a).length = s) (gg : 0 < s)
    (hs:Sm cf w v l) (hx:ev R x=v) (hi:ev R i=.int k m) (h0:0≤m) (h1:m<l.length):Ev P ⟨dst,.indexAddr t x i,ty,pos,af,gd⟩ R w (en v (m.toNat*s)):=by
  have bW:m.toNat<l.length:=by omega
  have di:∃u,(cf l[m.toNat])[0]?=some u:=⟨_,UT (by rw[nQ];exact gg)⟩
  obtain⟨u,hu⟩:=di
  obtain⟨ad,c,rfl,_,_⟩:=hs.at nQ (UT bW) hu
  have hr:(0≤m∧m<(l.length:Int)):=⟨h0,h1⟩
  have N0:s≠0:=by omega
  simp[Ev,en,execOp,hx,hi,ZV,asIntOf,run_underlying ht,hr,ey (w:=w) ew,N0]
theorem bU {t : TypeId} {x : Operand} {v : Value} {l : List α} {m : Nat} {a : α} {d : TypeDesc} (hu : P.underlying t = some d) (hd : d.isRow = true) (ew : (P.info? t).map (·.size) = some s) (nQ : ∀ a, (cf a).length = s) (gg : 0 < s)
    (hs:Sm cf w v l) (hx:ev R x=en v (m*s)) (hm:l[m]?=some a) {cs:List Value} (pW:cf a=cs):Ev P ⟨dst,.load t x,ty,pos,af,gd⟩ R w (.agg cs.toArray):=by
  subst pW
  have di:∃u,(cf a)[0]?=some u:=⟨_,UT (by rw[nQ];exact gg)⟩
  obtain⟨u,OT⟩:=di
  obtain⟨ad,c,rfl,he,_⟩:=hs.at nQ hm OT
  rw[Z9]at he
  have key:∀j u,(cf a)[j]?=some u→w.cell? ((ad.add (m*s)).add j)=some u:=by
    intro j u hj
    obtain⟨LG,c',h1,_,h3⟩:=hs.at nQ hm hj
    cases h1
    rw[add_add];exact h3
  have l9:=run_loadCells_list (P:=P) (w:=w) (ad.add (m*s)) (cf a) key
  have wE:(isAgg t).run P w=.ok true w:=by
    unfold isAgg
    rw[VM,run_underlying hu w]
    cases d<;>simp_all [aa8]
  rw[nQ a]at l9
  simp[Ev,execOp,hx,he,YW,WK,loadVar,wE,ey (w:=w) ew,l9]
theorem cH {t : TypeId} {x : Operand} {v : Value} {l : List α} {m f : Nat} {a : α} {u : Value} {fs : Array Field} {fd : Field} (ht : P.underlying t = some (.struct fs)) (hf : fs[f]? = some fd) {z : Nat} (ew : (P.info? fd.type).map (·.size) = some z) (hz : z ≠ 0)
    (nQ:∀a,(cf a).length=s) (hs:Sm cf w v l) (hm:l[m]?=some a) (hj:(cf a)[0]?=some u) {b:Nat} (hx:ev R x=en v (m*s+b)):Ev P ⟨dst,.fieldAddr t x f,ty,pos,af,gd⟩ R w (en v (m*s+(b+fd.offset))):=by
  obtain⟨ad,c,rfl,he,_⟩:=hs.at nQ hm hj
  simp[Ev,en,execOp,hx,abi,WK,run_underlying ht,hf,fieldPlace,ey (w:=w) ew,hz,add_add,abf]
theorem c9 {t : TypeId} {x : Operand} {v : Value} {l : List α} {m j : Nat} {a : α} {u : Value} {d : TypeDesc} (ht : P.underlying t = some d) (hd : (match d with | .struct _ | .array _ _ => false | _ => true) = true)
    (nQ:∀a,(cf a).length=s) (hs:Sm cf w v l) (hx:ev R x=en v (m*s+j)) (hm:l[m]?=some a) (hj:(cf a)[j]?=some u):Ev P ⟨dst,.load t x,ty,pos,af,gd⟩ R w u:=by
  obtain⟨ad,c,rfl,he,dv⟩:=hs.at nQ hm hj
  rw[he]at hx
  exact wO ht hd hx dv
theorem ez {t e : TypeId} {x y : Operand} {v u : Value} {l m : List α} {z : Value} {bytes : Nat} (ht : P.underlying t = some (.slice e))
    (fa:(P.info? e).map (fun i=>(i.zero,i.size,i.bytes))=some (some z,s,bytes)) (hz:z.cells.size=s) (gg:0<s) (h1:∀a,∀u∈cf a,u.oneCell'=true) (nQ:∀a,(cf a).length=s)
    (hN:ak w0 F w L) (i:Nat) (hi:L[i]?=some (.cV cf s e v l)) (hx:ev R x=v) (hu:Sm cf w u m) (hy:ev R y=u) (hlen:(l.length+m.length)*bytes≤140737488355328) (ju:0<bytes)
    (h:∀v' w',ak w0 F w' (L.set i (.cV cf s e v' (l++m)))→K v' w'):
    dQ P ⟨dst,.call ⟨.builtin .append,#[x,y],#[t,t]⟩,ty,pos,af,gd⟩ R w K:=by
  obtain⟨A,c,rfl,GI,hm,hc⟩:=hu
  have As:∃i,P.info? e=some i∧i.zero=some z∧i.size=s∧i.bytes=bytes:=by
    cases hq:P.info? e with
    |none=>simp[hq]at fa
    |some i=>simp[hq]at fa;exact⟨i,rfl,fa⟩
  obtain⟨j,hj,Bl,xk,Ku⟩:=As
  have Ak:=hN.cV i hi
  have AB:l.length+m.length≤maxLen:=by
    unfold maxLen
    have:(l.length+m.length)*1≤(l.length+m.length)*bytes:=Z0 _ ju
    omega
  have fU:∀u∈m.flatMap cf,u.oneCell'=true:=fun u hu=>by
    obtain⟨a,_,hu⟩:=aaX.1 hu
    exact h1 a u hu
  cases A with
  |some ad=>
    obtain ⟨v', w', eB, MI, yC, _, KM⟩ := run_append_own_at (P := P) (w := w) 0 t ty e j z s bytes ht hj Bl xk Ku hz gg v l.length (l.flatMap cf) Ak ad m.length c (m.flatMap cf) (pY nQ m)
      (fun j u hj=>by obtain⟨LG,h',dv⟩:=hc j u hj;cases h';exact dv) fU AB hlen (VP _)
    have ho:k6 cf s e w' 0 v' (l++m):=by unfold k6;rw[Z2,UX];exact MI
    refine dQ.value (v:=v') (w':=w') ?_ (h v' w' (hN.aZ i hi (Mod.rU yC) ho fun k hC=>?_))
    · simp[execOp,resolve,invoke,builtin,hx,hy,eB]
    · have bW := (ho.lt k hC).2
      refine⟨?_,bW⟩
      rcases KM with e|e
      · exact .inl (e.symm.trans hC)
      · exact .inr (Xn (Vq (e.symm.trans hC)))
  |none=>
    have iM:m=[]:=by
      cases m with
      |nil=>rfl
      |cons a r=>
        have di:∃u,(cf a)[0]?=some u:=⟨_,UT (by rw[nQ];exact gg)⟩
        obtain⟨u,OT⟩:=di
        obtain⟨ad,h',_⟩:=hc 0 u (by
          have:=pZ nQ (l:=a::r) (m:=0) (a:=a) (j:=0) rfl gg
          simp only[Nat.zero_mul,W3]at this
          rw[this,OT])
        cases h'
    subst iM
    have eB:(Yj #[t,t] ty #[v,.slice none 0 c]).run P w=.ok v w:=by
      obtain⟨A',c',rfl,N5,Tx,_⟩:=Ak.sm
      have hle:l.length≤c':=N5
      cases A'<;>simp[Yj,run_underlying ht,sizeOf,typeInfo,hj,xk,abh,Z6,hle,storeCells]
    have O2:L.set i (.cV cf s e v (l++[]))=L:=by rw[V4];exact xE hi
    refine dQ.value (v:=v) (w':=w) ?_ (h v w (by rw[O2];exact hN))
    simp only[Vc]at hy
    simp[execOp,resolve,invoke,builtin,hx,hy,eB]
theorem iz {t e : TypeId} {len : Nat} {parts : Array (Nat × Operand)} {pl : List (Nat × Operand)} {ps : List (Nat × Value)} {z : Value} {zc : List Value} {l : List α} (ht : P.underlying t = some (.slice e))
    {bytes:Nat} (fa:(P.info? e).map (fun i=>(i.zero,i.size,i.bytes))=some (some z,s,bytes)) (L4:(aaD (len*s)).map (z.cells[·%z.cells.size]!)=zc.toArray) (hp:parts.toList=pl) (Cq:(pl.map fun(i,x)=>(i,ev R x))=ps)
    (hf:W9 (fun i=>some (i*s,s)) zc.toArray ps=some (l.flatMap cf).toArray) (nQ:∀a,(cf a).length=s) (hlen:len=l.length) (gg:0<len) (N0:0<s) (Ah:len*s≤2^24) (hN:ak w0 F w L)
    (h:∀g w',ak w0 F w' (.cV cf s e (.slice (some ⟨g,0,none⟩) len len) l::L)→K (.slice (some ⟨g,0,none⟩) len len) w'):
    dQ P ⟨dst,.buildSlice t len parts,ty,pos,af,gd⟩ R w K:=by
  cases su:P.info? e with
  |none=>simp[su]at fa
  |some ie=>
    simp only[su,XD,XZ,ZY]at fa
    obtain⟨OH,ew,_⟩:=fa
    have Pk:(parts.map fun(i,x)=>(i,ev R x)).toList=ps:=by rw[X9,hp,←Cq]
    have TK:W9 (fun i=>some (i*ie.size,ie.size)) ((aaD (len*ie.size)).map (z.cells[·%z.cells.size]!)) (parts.map fun(i,x)=>(i,ev R x)).toList=some (l.flatMap cf).toArray:=by
      rw[Pk,ew,L4];exact hf
    have Rs:0<len*s:=Nat.mul_pos gg N0
    have eB:=run_buildSlice (P:=P) w t e len (parts.map fun(i,x)=>(i,ev R x)) _ ie z ht su OH (by rw[ew];omega) (by rw[ew];omega) TK
    have hle:len≤len*s:=Zc _ N0
    have ho:k6 cf s e (w.alloc (.cells (l.flatMap cf).toArray e)) w.heap.size (.slice (some ⟨w.heap.size,0,none⟩) len len) l:=by
      unfold k6
      subst hlen
      have sD:=pY nQ l
      refine⟨by rw[sD],.inr ⟨w.heap.size,l.length,(l.flatMap cf).toArray,rfl,Vv _,?_,Vv _,by unfold maxLen;omega,by simp[sD],?_⟩⟩
      · rw[heap_alloc_new]
      · rw[Vo (by simp[sD])]
    refine dQ.value (v:=.slice (some ⟨w.heap.size,0,none⟩) len len) (w':=w.alloc (.cells (l.flatMap cf).toArray e)) ?_ (h _ _ (hN.D0 ho (Ext.alloc _ _)))
    simp[execOp,eB]
end
end Go.Rl
namespace Go.Rl
open Go.RowKit Go.ChangeMaps
section
variable {P:Program} {n:Nat} {Q:eN} {R:Nat→Value} {w0 w:World} {F:Nat→Prop} {L:List Atom} {K:Value→World→Prop} {dst:Option Tmp} {ty:TypeId} {pos:String} {af:Array Edge} {gd:Option (Nat×Bool)}
variable {κ:Type} [DecidableEq κ] {ke:κ→Value} {l done left:List (GU κ)} {clock b:Nat}
end
end Go.Rl
namespace Go.Rl
open Go.RowKit
section
variable {P:Program} {n:Nat} {Q:eN} {R:Nat→Value} {w0 w:World} {F:Nat→Prop} {L:List Atom} {K:Value→World→Prop} {dst:Option Tmp} {ty:TypeId} {pos:String} {af:Array Edge} {gd:Option (Nat×Bool)}
variable {α:Type} {enc:α→Value}
end
section
variable {P:Program} {w0 w w':World} {F G:Nat→Prop} {L:List Atom} {α:Type} {enc:α→Value} {cf:α→List Value} {v:Value} {l:List α}
def nR (F:Nat→Prop) (enc:α→Value) (w:World) (v:Value) (l:List α):Prop:=Sl enc w v l∧py F v l
def qZ (F:Nat→Prop) (cf:α→List Value) (w:World) (v:Value) (l:List α):Prop:=Sm cf w v l∧py F v l
theorem Sl.o (h:Sl enc w v l):nR none_ enc w v l:=⟨h,py.none v l⟩
theorem Sm.o (h:Sm cf w v l):qZ none_ cf w v l:=⟨h,py.none v l⟩
theorem nR.now (h:nR F enc w0 v l) (hN:ak w0 F w L):Sl enc w v l:=h.1.off h.2 hN.mod
theorem qZ.now (h:qZ F cf w0 v l) (hN:ak w0 F w L):Sm cf w v l:=h.1.off h.2 hN.mod
theorem ak.Qw (hN:ak w0 F w L) {k:Nat} (hk:aT L k):F k∨w0.heap.size≤k:=by
  obtain⟨a,ha,hk⟩:=hk
  obtain⟨i,hi⟩:=VK ha
  exact(hN.low i a hi k hk).1
theorem py.step (bW:l≠[]→∀k,v.ownBlock=some k→k<w0.heap.size) (ho:py F v l) (hN:ak w0 F w L):py (aT L) v l:=fun hl k hk hf=>by
  rcases hN.Qw hf with h|h
  · exact ho hl k hk h
  · exact absurd (bW hl k hk) (Yk.2 h)
theorem nR.step (h:nR F enc w0 v l) (hN:ak w0 F w L):nR (aT L) enc w v l:=⟨h.now hN,h.2.step (fun hl=>h.1.lt hl) hN⟩
theorem qZ.step (nQ:∀a,cf a≠[]) (h:qZ F cf w0 v l) (hN:ak w0 F w L):qZ (aT L) cf w v l:=⟨h.now hN,h.2.step (fun hl=>h.1.lt nQ hl) hN⟩
theorem ep.step {hs:List Hd} {ls:List (List α)} (h:ep F enc w0 hs ls) (hN:ak w0 F w L):ep (aT L) enc w hs ls:=⟨h.1,fun i hd l hi hl=>nR.step (h.2 i hd l hi hl) hN⟩
theorem ak.here (hN:ak w0 F w L):ak w (aT L) w L:=by
  have h:ak w0 F w (L++[]):=by rw[V4];exact hN
  exact h.take
theorem ak.back (hN:ak w0 F w L) {M:List Atom} (h:ak w (aT L) w' M):ak w0 F w' M:=by
  have h1:ak w0 F w (L++[]):=by rw[V4];exact hN
  have:=ak.bX (N:=[]) h1 h
  rwa [V4]at this
theorem nR.less (h:nR F enc w v l) (hg:∀k,k<w.heap.size→G k→F k):nR G enc w v l:=⟨h.1,fun hl k hk hG=>h.2 hl k hk (hg k (h.1.lt hl k hk) hG)⟩
theorem nR.ext (h:nR F enc w v l) (he:Ext w w'):nR F enc w' v l:=⟨h.1.ext he,h.2⟩
theorem qZ.ext (h:qZ F cf w v l) (he:Ext w w'):qZ F cf w' v l:=⟨h.1.ext he,h.2⟩
theorem ep.less {hs:List Hd} {ls:List (List α)} (h:ep F enc w hs ls) (hg:∀k,k<w.heap.size→G k→F k):ep G enc w hs ls:=⟨h.1,fun i hd l hi hl=>nR.less (h.2 i hd l hi hl) hg⟩
theorem ep.fX {hs:List Hd} {ls:List (List α)} (h:ep F enc w hs ls) {i:Nat} {hd:Hd} {l:List α} (hi:hs[i]?=some hd) (hl:ls[i]?=some l):nR F enc w (vh hd) l:=h.2 i hd l hi hl
theorem ep.gR {hs:List Hd} {ls:List (List α)} (h:ep F enc w0 hs ls) (hN:ak w0 F w L):ep none_ enc w hs ls:=(h.step hN).less fun _ _ e=>e.elim
end
end Go.Rl
namespace Go.Rl
open Go.ChangeShapes Go.WideShapes
section
variable {H:Type} {enc:TypeId×Value→H} {P:Program} {w:World} {base:Nat} {spare:Nat→Bool} {held:Bool}
end
end Go.Rl
namespace Go.Rl
open Go.RowKit
section
variable {P:Program} {R:Nat→Value} {w:World} {dst:Option Tmp} {ty:TypeId} {pos:String} {af:Array Edge} {gd:Option (Nat×Bool)}
def lE (P:Program) (d:Nat) (t:TypeId) (x y:Value) (b:Bool):Prop:=∀w,(ZM d t x y).run P w=.ok b w
def oP (P:Program) (d:Nat) (xs ys:Array Value) (fs:List Field) (b:Bool):Prop:=∀w,(aaF d xs ys fs).run P w=.ok b w
def cR (P:Program) (t:TypeId) (cs:Array Value) (off:Nat) (v:Value):Prop:=∀w,(part t cs off).run P w=.ok v w
theorem lE.int {d:Nat} {t:TypeId} {k:IntKind} {a b:Int} (hu:P.underlying t=some (.int k)):lE P (d+1) t (.int k a) (.int k b) (decide (a=b)):=by
  intro w
  simp only[ZM,VM,run_underlying hu w,VU,if_true]
  by_cases h:a=b<;>simp[h]
theorem cR.leaf {t:TypeId} {cs:Array Value} {off:Nat} {v:Value} {k:IntKind} (hu:P.underlying t=some (.int k)) (h:cs[off]?=some v):cR P t cs off v:=by
  intro w
  have wE:(isAgg t).run P w=.ok false w:=by
    unfold isAgg
    rw[VM,run_underlying hu w]
    simp
  simp[part,VM,wE,h]
theorem cR.agg {t:TypeId} {cs:Array Value} {off z:Nat} {vs:Array Value} {fs:Array Field} (hu:P.underlying t=some (.struct fs)) (hz:(P.info? t).map (·.size)=some z) (h:cs.extract off (off+z)=vs):cR P t cs off (.agg vs):=by
  intro w
  have wE:(isAgg t).run P w=.ok true w:=by
    unfold isAgg
    rw[VM,run_underlying hu w]
    simp
  simp[part,VM,wE,ey (w:=w) hz,h]
theorem oP.nil {d:Nat} {xs ys:Array Value}:oP P d xs ys [] true:=fun w=>by simp[aaF]
theorem oP.cons {d:Nat} {xs ys:Array Value} {f:Field} {fs:List Field} {x y:Value} {b c:Bool} (hn:f.name≠"_") (hx:cR P f.type xs f.offset x) (hy:cR P f.type ys f.offset y) (h:lE P d f.type x y b) (hr:oP P d xs ys fs c):oP P d xs ys (f::fs) (b && c):=by
  intro w
  simp only[aaF,hn,ne_eq,not_false_eq_true,if_true,VM,hx w,hy w,h w,VU]
  cases b
  · simp
  · simpa using hr w
theorem lE.struct {d:Nat} {t:TypeId} {xs ys:Array Value} {fs:Array Field} {fl:List Field} {b:Bool} (hu:P.underlying t=some (.struct fs)) (hs:P.stoodInHeld t=false) (hl:fs.toList=fl) (h:oP P d xs ys fl b):lE P (d+1) t (.agg xs) (.agg ys) b:=by
  intro w
  subst hl
  have hf:P.fieldsOf t=fs:=by simp[Program.fieldsOf,hu]
  rw[run_equalIn_struct w d t xs ys (by rw[hf];exact hu) hs,hf]
  exact h w
theorem lE.iff {d:Nat} {t:TypeId} {x y:Value} {b:Bool} {p:Prop} [Decidable p] (h:lE P d t x y b) (hp:b=true↔p):lE P d t x y (decide p):=by
  have:b=decide p:=by cases b<;>simp_all
  rw[←this];exact h
theorem oC {xt yt:TypeId} {x y:Operand} {xs ys:Array Value} {p:Prop} [Decidable p] (hx:ev R x=.agg xs) (hy:ev R y=.agg ys) (hg:P.eqGuardType P.depth xt=false) (h:lE P 10000 xt (.agg xs) (.agg ys) (decide p)):Ev P ⟨dst,.binOp .neq xt x y yt,ty,pos,af,gd⟩ R w (.bool (decide (¬p))):=by
  have h0:=run_eqGuard_agg (P:=P) w .neq xt x y xs ys hg
  have h1:=run_neq_struct (P:=P) w xt xs ys
  rw[h w]at h1
  simp[Ev,execOp,hx,hy,h0,h1]
end
abbrev I2:=Int×Int
abbrev I3:=Int×Int×Int
abbrev I5:=Int×Int×Int×Int×Int
def bk (a:I2):List Value:=[.int .i64 a.1,.int .i64 a.2]
def bf (a:I3):List Value:=[.int .i64 a.1,.int .i64 a.2.1,.int .i64 a.2.2]
def bC (a:I5):List Value:=[.int .i64 a.1,.int .i64 a.2.1,.int .i64 a.2.2.1,.int .i64 a.2.2.2.1,.int .i64 a.2.2.2.2]
theorem bP (a:I2):(bk a).length=2:=rfl
theorem aU (a:I3):(bf a).length=3:=rfl
theorem bb (a:I5):(bC a).length=5:=rfl
theorem kQ (a:I2):bk a≠[]:=by unfold bk;simp
theorem ny (a:I3):bf a≠[]:=by unfold bf;simp
theorem sf (a:I5):bC a≠[]:=by unfold bC;simp
theorem pK (a:I2):∀u∈bk a,u.oneCell'=true:=by unfold bk;simp[Yx]
theorem iB (a:I3):∀u∈bf a,u.oneCell'=true:=by unfold bf;simp[Yx]
theorem pJ (a:I5):∀u∈bC a,u.oneCell'=true:=by unfold bC;simp[Yx]
end Go.Rl
namespace Go.Rl
open Go.RowKit
section
variable {α:Type} {cf:α→List Value} {s:Nat} {w0 w w':World} {F G:Nat→Prop} {L M N:List Atom}
def dM (F:Nat→Prop) (cf:α→List Value) (w:World) (hs:List Hd) (ls:List (List α)):Prop:=hs.length=ls.length∧∀(i:Nat) h l,hs[i]?=some h→ls[i]?=some l→qZ F cf w (vh h) l
theorem dM.nil (F:Nat→Prop) (cf:α→List Value) (w:World):dM F cf w [] []:=⟨rfl,fun i h l hi=>by simp at hi⟩
theorem dM.ext {hs:List Hd} {ls:List (List α)} (h:dM F cf w hs ls) (he:Ext w w'):dM F cf w' hs ls:=⟨h.1,fun i hd l hi hl=>(h.2 i hd l hi hl).ext he⟩
theorem dM.step {hs:List Hd} {ls:List (List α)} (h:dM F cf w0 hs ls) (nQ:∀a,cf a≠[]) (hN:ak w0 F w L):dM (aT L) cf w hs ls:=⟨h.1,fun i hd l hi hl=>qZ.step nQ (h.2 i hd l hi hl) hN⟩
theorem dM.fX {hs:List Hd} {ls:List (List α)} (h:dM F cf w hs ls) {i:Nat} {hd:Hd} {l:List α} (hi:hs[i]?=some hd) (hl:ls[i]?=some l):qZ F cf w (vh hd) l:=h.2 i hd l hi hl
def Atom.QU (cf:α→List Value) (v:Value) (l:List α):Atom where
  dg k:=v.ownBlock=some k
  says w:=Sm cf w v l∧∀k,v.ownBlock=some k→k<w.heap.size
  jo:=by
    intro w w' hb ⟨⟨A,c,he,g1,g2,hc⟩,bW⟩
    have key:∀k,v.ownBlock=some k→w'.heap[k]?=w.heap[k]?:=fun k hk=>hb k hk (bW k hk)
    refine⟨⟨A,c,he,g1,g2,fun j v hv=>?_⟩,fun k hk=>?_⟩
    · obtain ⟨ad, e, dv⟩ := hc j v hv
      refine⟨ad,e,?_⟩
      rw[WJ (key _ (by rw[he,e,block_add];rfl)),dv]
    · have e := key k hk
      have hl:=bW k hk
      rw[WU hl]at e
      exact(VD.1 e).1
def Atom.ek (cf:α→List Value) (hs:List Hd) (ls:List (List α)):Atom where
  dg k:=∃h∈hs,(vh h).ownBlock=some k
  says w:=hs.length=ls.length∧∀(i:Nat) h l,hs[i]?=some h→ls[i]?=some l→Sm cf w (vh h) l∧∀k,(vh h).ownBlock=some k→k<w.heap.size
  jo:=by
    intro w w' hb ⟨h1,h2⟩
    refine⟨h1,fun i h l hi hl=>?_⟩
    have h3:=h2 i h l hi hl
    obtain⟨⟨A,c,he,g1,g2,hc⟩,bW⟩:=h3
    have key:∀k,(vh h).ownBlock=some k→w'.heap[k]?=w.heap[k]?:=fun k hk=>hb k ⟨h,UZ hi,hk⟩ (bW k hk)
    refine⟨⟨A,c,he,g1,g2,fun j v hv=>?_⟩,fun k hk=>?_⟩
    · obtain ⟨ad, e, dv⟩ := hc j v hv
      refine⟨ad,e,?_⟩
      rw[WJ (key _ (by rw[he,e,block_add];rfl)),dv]
    · have e := key k hk
      have hl:=bW k hk
      rw[WU hl]at e
      exact(VD.1 e).1
theorem ak.JH (h:ak w0 F w L) (i:Nat) {E:TypeId} {v:Value} {l:List α} (hi:L[i]?=some (.cV cf s E v l)):ak w0 F w (L.set i (.QU cf v l)):=
  h.turn i hi ⟨(h.cV i hi).sm,fun k hk=>((h.cV i hi).lt k hk).2⟩ (fun _ hk=>hk)
theorem ak.Bw (h:ak w0 F w L) (cf:α→List Value):ak w0 F w (.ek cf [] []::L):=
  h.add ⟨rfl,fun i h l hi=>by simp at hi⟩ (fun k hk=>by obtain⟨h,hh,_⟩:=hk;cases hh) (fun _ _ _ _ _ hk=>by obtain⟨h,hh,_⟩:=hk;cases hh)
theorem ak.qy (h:ak w0 F w L) (i:Nat) {hs:List Hd} {ls:List (List α)} (hi:L[i]?=some (.ek cf hs ls)):dM none_ cf w hs ls:=by
  have hf:(Atom.ek cf hs ls).says w:=h.says i _ hi
  exact⟨hf.1,fun q h' l hq hl=>⟨(hf.2 q h' l hq hl).1,py.none _ _⟩⟩
theorem ak.CK {h:Hd} {l:List α} {hs:List Hd} {ls:List (List α)} (hN:ak w0 F w (.QU cf (vh h) l::L)) (j:Nat) (hj:L[j]?=some (.ek cf hs ls)):ak w0 F w (L.set j (.ek cf (hs++[h]) (ls++[l]))):=by
  have ho:Sm cf w (vh h) l∧∀k,(vh h).ownBlock=some k→k<w.heap.size:=hN.says 0 _ rfl
  have hf:(Atom.ek cf hs ls).says w:=hN.says (j+1) _ (by simpa using hj)
  have bW:j<L.length:=(U5.1 hj).1
  have dg:∀k,(Atom.ek cf (hs++[h]) (ls++[l])).dg k→(Atom.ek cf hs ls).dg k∨(vh h).ownBlock=some k:=by
    rintro k ⟨h',hm,hk⟩
    rcases W6.1 hm with e|e
    · exact .inl ⟨h',e,hk⟩
    · rw[VY]at e;subst e;exact .inr hk
  have get:∀(i:Nat) c,(L.set j (.ek cf (hs++[h]) (ls++[l])))[i]?=some c→(i=j∧c=.ek cf (hs++[h]) (ls++[l]))∨(i≠j∧L[i]?=some c):=by
    intro i c hc
    rw[Wu]at hc
    by_cases e:j=i
    · subst e;rw[if_pos rfl,if_pos bW]at hc;exact .inl ⟨rfl,(Vq hc).symm⟩
    · rw[if_neg e]at hc;exact .inr ⟨fun x=>e x.symm,hc⟩
  have Cf:∀(i:Nat) c,L[i]?=some c→(∀k,c.dg k→¬(vh h).ownBlock=some k)∧(i≠j→∀k,c.dg k→¬(Atom.ek cf hs ls).dg k):=fun i c hc=>
    ⟨fun k hk e=>hN.sep (i+1) 0 c _ (by omega) (by simpa using hc) rfl k hk e,fun hi k hk e=>hN.sep (i+1) (j+1) c _ (by omega) (by simpa using hc) (by simpa using hj) k hk e⟩
  refine⟨hN.mod,?_,?_,?_⟩
  · intro i c hc
    rcases get i c hc with⟨_,rfl⟩|⟨_,hc⟩
    · refine ⟨by simp [hf.1], fun q h' l' hq hl => ?_⟩
      rcases VH q hs.length with zq|zq
      · rw [VR zq] at hq
        rw[VR (by rw[←hf.1];exact zq)]at hl
        exact hf.2 q h' l' hq hl
      · rw [VQ zq] at hq
        rw[VQ (by rw[←hf.1];exact zq),←hf.1]at hl
        have hz:q-hs.length=0:=by
          rcases XI (q-hs.length)with e|e
          · exact e
          · rw[WT (by simp;omega)]at hq;cases hq
        rw[hz]at hq hl
        cases hq;cases hl
        exact⟨ho.1,fun k hk=>ho.2 k hk⟩
    · exact hN.says (i+1) c (by simpa using hc)
  · intro i c hc k hk
    rcases get i c hc with⟨_,rfl⟩|⟨_,hc⟩
    · rcases dg k hk with e | e
      · exact hN.low (j+1) _ (by simpa using hj) k e
      · exact hN.low 0 _ rfl k e
    · exact hN.low (i+1) c (by simpa using hc) k hk
  · intro i i' c c' di hc tW k hk hC
    rcases get i c hc with⟨rfl,rfl⟩|⟨hi,hc⟩<;>rcases get i' c' tW with⟨rfl,rfl⟩|⟨Kv,tW⟩
    · exact di rfl
    · rcases dg k hk with e | e
      · exact(Cf i' c' tW).2 Kv k hC e
      · exact(Cf i' c' tW).1 k hC e
    · rcases dg k hC with e | e
      · exact(Cf i c ‹_›).2 hi k hk e
      · exact(Cf i c ‹_›).1 k hk e
    · exact hN.sep (i+1) (i'+1) c c' (by omega) (by simpa using ‹L[i]?=some c›) (by simpa using tW) k hk hC
theorem ak.sO {E:TypeId} {h:Hd} {l:List α} {hs:List Hd} {ls:List (List α)} (hN:ak w0 F w (.cV cf s E (vh h) l::L)) (j:Nat) (hj:L[j]?=some (.ek cf hs ls)):ak w0 F w (L.set j (.ek cf (hs++[h]) (ls++[l]))):=
  ak.CK (h:=h) (l:=l) (hN.JH 0 rfl) j hj
end
section
variable {P:Program} {R:Nat→Value} {w:World} {dst:Option Tmp} {ty:TypeId} {pos:String} {af:Array Edge} {gd:Option (Nat×Bool)} {α:Type} {cf:α→List Value} {s:Nat}
end
section
variable {P:Program} {R:Nat→Value} {w:World} {dst:Option Tmp} {ty:TypeId} {pos:String} {af:Array Edge} {gd:Option (Nat×Bool)} {α:Type} {cf:α→List Value} {s:Nat}
end
theorem dH {α:Type} {l:List α} {i:Nat} {a:α} (h:l[i]?=some a):l.take (i+1)=l.take i++[a]:=by rw[X0,h];rfl
section
variable {P:Program} {n:Nat} {Q:eN} {R:Nat→Value} {w:World}
end
section
variable {P:Program} {R:Nat→Value} {w:World} {dst:Option Tmp} {ty:TypeId} {pos:String} {af:Array Edge} {gd:Option (Nat×Bool)}
theorem Bz {x y z:Operand} {k:IntKind} {a b c:Int} {px:Array TypeId} (hx:ev R x=.int k a) (hy:ev R y=.int k b) (hz:ev R z=.int k c):Ev P ⟨dst,.call ⟨.builtin .min,#[x,y,z],px⟩,ty,pos,af,gd⟩ R w (.int k (min (min a b) c)):=by
  have h:(if b<a then b else a)=min a b:=by omega
  have h2:(if c<min a b then c else min a b)=min (min a b) c:=by omega
  simp[Ev,execOp,resolve,invoke,builtin,abq,abr,hx,hy,hz,h,h2]
end
end Go.Rl
namespace Go.Rl
open Go.RowKit
section
variable {F:Fence} {n:Nat} {P:Program} {a:Act} {w:World} {Q:Exit→Act→World→Prop}
theorem gx {b:Frame} {k:List Item} {cs:List Frame} {c:Code}:step P (lone (b.atR a (.code (.scope c)::k)) cs w)=.next (lone (b.atR a (.code c::.inScope c::k)) cs w):=
  step_lone_go (by simp[stepG,stepG.exec,Frame.atR])
theorem te {b:Frame} {k:List Item} {cs:List Frame} {c:Code}:step P (lone (b.atR a (.inScope c::k)) cs w)=.next (lone (b.atR a k) cs w):=
  step_lone_go (by simp[stepG,stepG.exec,Frame.atR])
theorem zw {c:Code} (h:c.wpIn F n P (Exit.noGoto Q) a w):(Code.scope c).wpIn F n P Q a w:=by
  intro b k cs Tl hb hr
  have h0:(lone (b.atR a (.code (.scope c)::k)) cs w).fenced P F:=fenced_calm hb hr rfl
  obtain⟨e,a₁,w₁,hq,CC⟩:=h b (.inScope c::k) cs Tl hb hr
  cases e with
  |normal=>exact⟨.normal,a₁,w₁,hq,.head h0 gx (StepsIn.trans CC (.one (fenced_calm hb hr rfl) te))⟩
  |exit id=>
    have hx:exitTo id (.inScope c::k)=exitTo id k:=by simp[exitTo]
    exact⟨.exit id,a₁,w₁,hq,fun k' hk=>.head h0 gx (CC.1 k' (by rw[hx];exact hk)),fun To hk=>let ⟨k₁,h1,h2⟩:=CC.2 To (by rw[hx];exact hk);⟨k₁,h1,.head h0 gx h2⟩⟩
  |goto l=>exact hq.elim
  |ret=>exact⟨_,a₁,w₁,hq,.of_steps (.one h0 gx) CC⟩
  |panic ch=>exact⟨_,a₁,w₁,hq,.of_steps (.one h0 gx) CC⟩
  |outgrown=>exact⟨_,a₁,w₁,hq,.of_steps (.one h0 gx) CC⟩
end
section
variable {P:Program} {ro:Option Nat} {n:Nat} {Q:dV} {R:Nat→Value} {w:World} {ds:List Deferred}
def zL (Q:dV):dV:=fun e ds R w=>match e with
  |.goto _=>False
  |e=>Q e ds R w
theorem XW.scope {c:Code} (h:XW P ro n c (zL Q) ds R w):XW P ro n (.scope c) Q ds R w:=fun a ha=>by
  refine zw (wpIn_mono (h a ha) ?_)
  rintro e a' w' ⟨R',GQ,hR,hQ⟩
  cases e with
  |goto l=>exact hQ.elim
  |_=>exact⟨R',GQ,hR,hQ⟩
theorem AU (h:Q .ret ds R w):zL Q .ret ds R w:=h
theorem XW.label {l:Nat} (h:Q .normal ds R w):XW P ro n (.label l) Q ds R w:=fun _ ha=>wpIn_label ⟨R,ds,ha,h⟩
end
section
variable {P:Program} {ops:Array Oper} {Qa:Exit→Act→World→Prop} {S:World→Prop}
theorem AS {i : Nat} {o : Oper} {v : Value} {a : Act} (hi : ops[i]? = some o) (hy : YieldsIf P ops S o v a)
    {K:Act→World→Prop} {w:World} (hS:S w) (h:K (a.put o.dst v) w):wpOpIn (XF none) 0 P ops Qa i K a w:=by
  unfold Go.wpOpIn
  simp only[hi]
  rcases hy with⟨hw,hv⟩|⟨hw,rfl⟩
  · simp only[hw,if_true,Oper.wpIn,Zg,hv w hS,Xl];exact⟨fun _ _=>trivial,h⟩
  · simp only[hw,VS,if_false];exact⟨fun _ _=>trivial,h⟩
theorem xq {j : Nat} {oi oj : Oper} {v : Value} (hj : ops[j]? = some oj) (bG : oi.apart ops oj = true)
    (gF:∀cs b,oi.op≠.select cs b) (Td:∀cs b,oj.op≠.select cs b)
    (hQ:∀c a w,Qa (.panic c) (a.put oi.dst v) w→Qa (.panic c) a w) {K:Act→World→Prop} {a:Act} {w:World}
    (hy:YieldsIf P ops S oi v a) (h:wpOpIn (XF none) 0 P ops Qa j K (a.put oi.dst v) w):
    wpOpIn (XF none) 0 P ops Qa j (fun a' w'=>YieldsIf P ops S oi v a'∧K (a'.put oi.dst v) w') a w:=by
  obtain⟨h1,h2,h3⟩:=Oper.apart_spec bG
  have jo:∀(a:Act),YieldsIf P ops S oi v a→∀u,YieldsIf P ops S oi v (a.put oj.dst u):=fun a hy u=>
    hy.of_same (execOp_put oi gF a oj.dst u h3) (wanted_put oi a oj.dst u h3)
  have L3:∀d,YieldsIf P ops S oi v {a with defers:=d::a.defers}:=fun d=>hy.of_same rfl rfl
  unfold wpOpIn at*
  simp only[hj]at*
  rw[wanted_put oj a oi.dst v h1]at h
  split
  · rename_i hw
    simp only[hw,if_true]at h
    unfold Oper.wpIn at*
    refine⟨fun _ _=>trivial,?_⟩
    have h:=h.2
    rw[Zg,execOp_put oj Td a oi.dst v h1]at h
    rw[Zg]
    generalize (execOp a.eval oj).run P w=r at*
    cases r with
    |ok x w'=>
      cases x<;>simp only[Xl]at h ⊢
      case value u=>exact⟨jo a hy u,by rw[←Xp a v u h2];exact h⟩
      case skip=>exact⟨jo a hy _,by rw[←Xp a v undef h2];exact h⟩
      case defer d=>
        refine⟨jo _ (L3 d) _,?_⟩
        rw[←Xp _ v undef h2,←Act.put_defers]
        exact h
      case enter f args=>
        refine⟨h.1,YY h.2 fun e xf he=>?_⟩
        cases e with
        |returned u=>exact⟨jo a hy u,by rw[←Xp a v u h2];exact he⟩
        |panicked c=>exact hQ _ _ _ he
        |outgrown=>exact he
      case row row args=>exact⟨h.1,aaE h.2 fun u xf he=>⟨jo a hy u,by rw[←Xp a v u h2];exact he⟩⟩
      case round l f tmps assign body=>
        refine⟨h.1,aaa h.2 fun e xf he=>?_⟩
        cases e with
        |returned u=>exact⟨jo a hy u,by rw[←Xp a v u h2];exact he⟩
        |panicked c=>exact hQ _ _ _ he
        |outgrown=>exact he
    |halt x w'=>
      cases x<;>simp only[Xl]at h ⊢
      case panic u=>exact hQ _ _ _ h
  · rename_i hw
    simp only[hw]at h
    exact⟨fun _ _=>trivial,jo a hy _,by rw[←Xp a v undef h2];exact h.2⟩
def ra (P : Program) (ops : Array Oper) (Q : Exit → Act → World → Prop) (S : World → Prop) : Nat → Array Bool → Act → World → Prop
  |0,ba,a,w=>VL .any ops ba=[]∧Q .normal a w
  |fuel+1,ba,a,w=>(VL .any ops ba=[]→Q .normal a w)∧
      ∀i∈VL .any ops ba,wpOpIn (XF none) 0 P ops Q i (fun a' w'=>S w'∧ra P ops Q S fuel (ba.setIfInBounds i true) a' w') a w
theorem nT : ∀ (fuel : Nat) (ba : Array Bool) (a : Act) (w : World), ra P ops Qa S fuel ba a w → wpAnyIn (XF none) 0 P .any ops Qa fuel ba a w
  |0,_,_,_,h=>h
  |fuel+1,_,_,_,h=>⟨h.1,fun i hi=>wpOpIn_mono (fun a' w' h'=>nT fuel _ a' w' h'.2) (h.2 i hi)⟩
theorem vx {i : Nat} {oi : Oper} {v : Value} (hi : ops[i]? = some oi) (Ez : ∀ (j : Nat) (o : Oper) cs b, ops[j]? = some o → o.op ≠ .select cs b)
    (hQ:∀c a w,Qa (.panic c) (a.put oi.dst v) w→Qa (.panic c) a w):
    ∀(fuel:Nat) (ba:Array Bool) (a:Act) (w:World),
      (∀j oj,ops[j]?=some oj→j≠i→ba.getD j true=false→(∀e∈oj.after,Xo .any e=true→e.on≠i)→oi.apart ops oj=true)→
      i∈VL .any ops ba→YieldsIf P ops S oi v a→S w→
      ra P ops Qa S fuel (ba.setIfInBounds i true) (a.put oi.dst v) w→ra P ops Qa S (fuel+1) ba a w:=by
  intro fuel
  induction fuel with
  |zero=>
    intro ba a w _ hr hy hS H
    refine⟨fun h=>(by rw[h]at hr;cases hr),fun j hj=>?_⟩
    by_cases wz:j=i
    · subst wz;exact AS hi hy hS ⟨hS,H⟩
    · have := ready_mono hj wz
      rw[H.1]at this
      cases this
  |succ fuel ih=>
    intro ba a w sC hr hy hS H
    refine⟨fun h=>(by rw[h]at hr;cases hr),fun j hj=>?_⟩
    by_cases wz:j=i
    · subst wz;exact AS hi hy hS ⟨hS,H⟩
    · have h1 := H.2 j (ready_mono hj wz)
      obtain⟨EV,oj,Kd,fU⟩:=mem_ready.1 hj
      have Kh:∀e∈oj.after,Xo .any e=true→e.on≠i:=fun e he hb heq=>by
        have h1:=fU e he hb
        have h0:=(mem_ready.1 hr).1
        rw[heq]at h1
        rcases VH i ba.size with h'|h'
        · simp[h']at h0 h1;rw[h0]at h1;cases h1
        · simp[W0 h']at h1
      have h2:=xq Kd (sC j oj Kd wz EV Kh) (fun cs b=>Ez i oi cs b hi) (fun cs b=>Ez j oj cs b Kd) hQ hy h1
      have Av:∀k ok,ops[k]?=some ok→k≠i→(ba.setIfInBounds j true).getD k true=false→
          (∀e∈ok.after,Xo .any e=true→e.on≠i)→oi.apart ops ok=true:=fun k ok hk PG Mb eQ=>by
        refine sC k ok hk PG ?_ eQ
        by_cases wy:j=k
        · subst wy;exact EV
        · rw[getD_set_ne true wy]at Mb;exact Mb
      refine wpOpIn_mono (fun a' w' h3=>⟨h3.2.1,ih (ba.setIfInBounds j true) a' w' Av (ready_mono hr (aa5 wz)) h3.1 h3.2.1 ?_⟩) h2
      rw[YX _ _ wz]
      exact h3.2.2
end
def XA (P:Program) (n:Nat) (ops:Array Oper) (Q:dV) (S:World→Prop) (fuel:Nat) (ba:Array Bool) (ds:List Deferred) (R:Nat→Value) (w:World):Prop:=
  ∀a,q9 ds n R a→ra P ops (dV.up n Q) S fuel ba a w
def xc (Q:dV):Prop:=∀c ds R w,¬Q (.panic c) ds R w
section
variable {P:Program} {n:Nat} {Q:dV} {R:Nat→Value} {w:World} {ds:List Deferred} {ops:Array Oper} {S:World→Prop} {fuel:Nat} {ba:Array Bool}
theorem BK {c:List PanicEntry} (hp:xc Q) (dst:Option Tmp) (v:Value) (a:Act) (w:World):dV.up n Q (.panic c) (a.put dst v) w→dV.up n Q (.panic c) a w:=fun⟨R,ds,_,h⟩=>absurd h (hp c ds R w)
theorem XW.oD {id : Nat} (hm : P.follows .mixedOrders = true) (S : World → Prop)
    (h:XA P n ops Q S ops.size (WV ops.size false) ds R w.drew):XW P none n (.region id ops true) Q ds R w:=fun a ha=>wpIn_region_any hm (nT _ _ _ _ (h a ha))
theorem XA.done (hr:VL .any ops ba=[]) (h:Q .normal ds R w):XA P n ops Q S fuel ba ds R w:=fun a ha=>by
  cases fuel with
  |zero=>exact⟨hr,R,ds,ha,h⟩
  |succ f=>exact⟨fun _=>⟨R,ds,ha,h⟩,by rw[hr];simp⟩
theorem XA.take {i : Nat} {o : Oper} {v : Value} (hi : ops[i]? = some o) (hg : o.guard = none) (hs : WW ops = true)
    (hf:XB .any ops ba i=true) (hr:(VL .any ops ba).contains i=true) (hp:xc Q) (hd:eS n o.dst=true) (hS:S w) (h:∀w,S w→Ev P o R w v)
    (hn:XA P n ops Q S fuel (ba.setIfInBounds i true) ds (fW R o.dst v) w):XA P n ops Q S (fuel+1) ba ds R w:=fun a ha=>
  vx hi (ZO hs) (fun c a w=>BK hp _ _ a w) fuel ba a w (aaW hi hf) (by simpa using hr) (.inl ⟨by simp[VW,hg],fun w hw=>by rw[ha.eval];exact h w hw⟩) hS (hn _ (ha.put hd v))
theorem XA.only {i : Nat} {o : Oper} (hr : VL .any ops ba = [i]) (hi : ops[i]? = some o) (hg : o.guard = none) (hd : eS n o.dst = true)
    (h:k7 P none o R w (fun v w'=>S w'∧XA P n ops Q S fuel (ba.setIfInBounds i true) ds (fW R o.dst v) w')):XA P n ops Q S (fuel+1) ba ds R w:=fun a ha=>by
  refine⟨fun h0=>(by rw[hr]at h0;cases h0),fun j hj=>?_⟩
  have:j=i:=by rw[hr]at hj;simpa using hj
  subst this
  unfold wpOpIn
  simp only[hi,VW,hg,if_true]
  exact k7.wp ha hd h fun v w' hv wC=>⟨hv.1,hv.2 _ wC⟩
end
def sZ {ε π:Type} (P:Program) (gf:FuncId) (lb:Array Value) (M:List Atom) (Fx:(Nat→Prop)→World→Prop) (p:ε→π) (enc:ε→Array Value) (Rd:(Nat→Prop)→ε→World→Prop) (xs:List π):Prop:=
  ∀(σ:Type) (l:Nat) (C:Bool→σ→Atom) (T:σ→ε→Bool→σ→Prop) (s0:σ) (w0 w:World) (F:Nat→Prop),(∀s x b s',T s x b s'→b=true)→nf P l C T p s0 xs Rd enc→Fx F w0→ak w0 F w (C true s0::M)→
    al P gf (#[.func (.yield l) #[] #[]]++lb) w fun _ w'=>∃s',tc T p s0 xs s'∧ak w0 F w' [C true s']
section
variable {P:Program} {n:Nat} {Q:dV} {R:Nat→Value} {w0 w:World} {F:Nat→Prop} {M:List Atom}
theorem XW.zU {σ ε π : Type} {g : Operand} {ps : Array Tmp} {C0 body : Code} {gf : FuncId} {fn : Func} {lb : Array Value} {p : ε → π} {enc : ε → Array Value} {Rd : (Nat → Prop) → ε → World → Prop} {xs : List π} {Fx : (Nat → Prop) → World → Prop}
    (S:σ→List Atom) (T:σ→ε→Bool→σ→Prop) (s0:σ)
    (hN:ak w0 F w (S s0++M)) (hg:ev R g=.func (.func gf) #[] lb) (hf:P.funcs[gf]?=some fn) (hn:(fn.name == "runtime.NumGoroutine")=false) (hb:fn.body.isSome=true)
    (M7:sZ P gf lb M Fx p enc Rd xs) (hT:∀s x b s',T s x b s'→b=true) (T5:Fx F w0) (Cq:∀x,(enc x).size=ps.size) (bW:∀t∈ps.toList,t<n)
    (FB:∀(l D:Nat) (rc:LoopState→Option Code→Loop) (FF:Nat→Prop) (s:σ) (x:ε) (pre post:List π) (w:World),tc T p s0 pre s→xs=pre++p x::post→Rd FF x w→ak w FF w (.obj l (.loop (rc .ready none))::.obj D (.deferred (some []))::S s)→
      XW P (some l) n C0 (wY P l n body (zO (T s x) FF l D rc S w) FF (.obj l (.loop (rc .busy none))::.obj D (.deferred (some []))::S s) w) [] (zK R (ps.toList.zip (enc x).toList)) w)
    (Fv:∀(l D:Nat) (o:Obj) (s:σ) (w:World),tc T p s0 xs s→ak w0 F w (.obj l o::.obj D (.deferred (some []))::S s)→Q .normal (mark D) R w):
    XW P none n (.rangeFunc g ps C0 body) Q [] R w:=
  XW.JE S T s0 hN hg hf hn hb (fun l C w1 hy h1 => (M7 σ l C T s0 w0 w1 F hT hy T5 h1).mono fun _ _ ⟨s', hr, h2⟩ => ⟨s', .inl ⟨hr, h2⟩⟩) Cq bW FB Fv
    (fun l D o s w hs _=>by obtain⟨_,_,_,_,_,_,hx⟩:=hs;exact absurd (hT _ _ _ _ hx) (by simp))
end
end Go.Rl
namespace Go.Rl
def dW {σ ε π:Type} (T:σ→ε→Bool→σ→Prop) (p:ε→π) (s0:σ) (xs:List π) (s:σ) (todo:List π):Prop:=∃pre,tc T p s0 pre s∧xs=pre++todo
section
variable {σ ε π:Type} {P:Program} {l:Nat} {C:Bool→σ→Atom} {T:σ→ε→Bool→σ→Prop} {p:ε→π} {s0 s:σ} {xs todo:List π} {Rd:(Nat→Prop)→ε→World→Prop} {enc:ε→Array Value} {w:World}
theorem dW.start:dW T p s0 xs s0 xs:=⟨[],.nil,rfl⟩
theorem dW.done (h:dW T p s0 xs s []):tc T p s0 xs s:=by obtain⟨pre,h1,h2⟩:=h;rw[V4]at h2;rw[h2];exact h1
theorem dW.as {t:List π} (h:dW T p s0 xs s todo) (e:todo=t):dW T p s0 xs s t:=e▸h
theorem dW.yield (hT:∀s x b s',T s x b s'→b=true) (hY:nf P l C T p s0 xs Rd enc) (x:ε) (h:dW T p s0 xs s (p x::todo)) (hN:ak w (aT [C true s]) w [C true s]) (hR:Rd (aT [C true s]) x w):
    nM P l (enc x) w fun v w'=>∃s',v=.bool true∧dW T p s0 xs s' todo∧ak w (aT [C true s]) w' [C true s']:=by
  obtain⟨pre,h1,h2⟩:=h
  refine(hY s x pre todo w h1 h2 hN hR).mono ?_
  rintro v w' ⟨b,s',rfl,ht,hn⟩
  have hb:=hT _ _ _ _ ht
  subst hb
  exact⟨s',rfl,⟨pre++[p x],.snoc h1 ht,by rw[h2,VF];rfl⟩,hn⟩
end
end Go.Rl
namespace Go.Rl
section
variable {P:Program} {w0 w w':World} {F:Nat→Prop} {L M:List Atom} {α:Type} {enc:α→Value} {cf:α→List Value} {s:Nat}
def Li (F:Nat→Prop) (w:World) (g:Nat) (cs:List Value) (T:TypeId):Prop:=fV w g cs T∧¬F g
theorem Li.now {g:Nat} {cs:List Value} {T:TypeId} (h:Li F w0 g cs T) (hN:ak w0 F w L):fV w g cs T:=h.1.mod hN.mod h.2
theorem ak.Jx (h:ak w0 F w L) (i:Nat) {E:TypeId} {v:Value} {l:List α} (hi:L[i]?=some (.cV cf s E v l)) (p:List Nat) (hM:M.map some=p.map (fun i=>L[i]?)) (hp:(p.all fun j=>j != i)=true):qZ (aT M) cf w v l:=
  ⟨h.sm i hi,h.j1 p hM i hi hp fun _ hk=>hk⟩
theorem ak.kF (h:ak w0 F w L) (i:Nat) {E:TypeId} {v:Value} {l:List α} (hi:L[i]?=some (.own enc E v l)) (p:List Nat) (hM:M.map some=p.map (fun i=>L[i]?)) (hp:(p.all fun j=>j != i)=true):nR (aT M) enc w v l:=
  ⟨h.sl i hi,h.j1 p hM i hi hp fun _ hk=>hk⟩
theorem ak.K9 (h:ak w0 F w L) (i:Nat) {g:Nat} {cs:List Value} {T:TypeId} (hi:L[i]?=some (.aA g cs T)) (p:List Nat) (hM:M.map some=p.map (fun i=>L[i]?)) (hp:(p.all fun j=>j != i)=true):Li (aT M) w g cs T:=by
  refine⟨h.aA i hi,?_⟩
  rintro⟨b,hb,hf⟩
  have h2:some b∈M.map some:=V9.2 ⟨b,hb,rfl⟩
  rw[hM]at h2
  obtain⟨j,HI,hj⟩:=V9.1 h2
  have di:j≠i:=by simpa using YZ.1 hp j HI
  exact h.sep j i _ _ di hj hi g hf rfl
end
end Go.Rl
namespace Go.Rl
section
variable {P:Program} {n:Nat} {Q:eN} {R:Nat→Value} {w0 w:World} {F:Nat→Prop} {L:List Atom} {K:Value→World→Prop} {dst:Option Tmp} {ty:TypeId} {pos:String} {af:Array Edge} {gd:Option (Nat×Bool)}
variable {α:Type} {enc:α→Value}
theorem iX {t e : TypeId} {x : Operand} {v : Value} {E : TypeId} {l : List α} (ht : P.underlying t = some (.slice e)) (he : P.underlying e = some (.int .u8)) (hN : ak w0 F w L) (i : Nat) (hi : L[i]? = some (.own enc E v l)) (hx : ev R x = v) {ad : Addr} {m c : Nat} (hv : v = .slice (some ad) m c)
    (h:∀w',ak w0 F w' (L.set i (.sl enc v l))→K v w'):dQ P ⟨dst,.convert t t x,ty,pos,af,gd⟩ R w K:=
  xX ht he (hN.sl i hi) hx hv fun w' hs hm ew=>h w' <| hN.aZ i hi hm ⟨hs,fun k hk=>by rw[ew];exact(hN.low i _ hi k hk).2⟩ fun k hk=>⟨.inl hk,by rw[ew];exact(hN.low i _ hi k hk).2⟩
theorem gQ {t e : TypeId} {s x : Operand} {v u : Value} {l m : List α} {z : Value} {bytes : Nat} {ad : Addr} (ht : P.underlying t = some (.slice e)) (fa : (P.info? e).map (fun i => (i.zero, i.size, i.bytes)) = some (some z, 1, bytes)) (hz : z.cells.size = 1)
    (hN:ak w0 F w L) (hs:Sl enc w v l) (hv:v=.slice (some ad) l.length l.length) (hx:ev R s=v) (hu:Sl enc w u m) (hm:0<m.length) (hy:ev R x=u) (hlen:(l.length+m.length)*bytes≤140737488355328) (ju:0<bytes)
    (h:∀v' w',ak w0 F w' (.own enc e v' (l++m)::L)→K v' w'):dQ P ⟨dst,.call ⟨.builtin .append,#[s,x],#[t,t]⟩,ty,pos,af,gd⟩ R w K:=by
  obtain⟨A,c,rfl,GI,Kj,hc⟩:=hu
  obtain⟨A0,c0,e0,Tz,Tu,Oa⟩:=hs
  rw[hv]at e0
  cases e0
  have As:∃i,P.info? e=some i∧i.zero=some z∧i.size=1∧i.bytes=bytes:=by
    cases hq:P.info? e with
    |none=>simp[hq]at fa
    |some i=>simp[hq]at fa;exact⟨i,rfl,fa⟩
  obtain⟨i,hi,Bl,xk,Ku⟩:=As
  have hle:l.length+m.length≤(l.length+m.length)*bytes:=Zc _ ju
  have hA:∃a,A=some a:=by
    cases A with
    |some a=>exact⟨a,rfl⟩
    |none=>obtain⟨a,h',_⟩:=hc 0 (enc m[0]) (by simp[UT hm]);cases h'
  obtain⟨a,rfl⟩:=hA
  have hr := run_append_grow (P := P) w t ty e i z ht hi Bl ad l.length l.length (l.map enc) (by simp [xk]) (fun j u hj => by obtain ⟨LG, h', dv⟩ := Oa j u hj; cases h'; exact dv)
    a m.length c (m.map enc) (by simp[xk]) (fun j u hj=>by obtain⟨LG,h',dv⟩:=hc j u hj;cases h';exact dv) (by omega) (by omega) (by rw[Ku];exact growslice_fits (by omega) hlen)
  have GK:=grownCap_ge w (l.length+m.length) l.length e
  have N9:grownCap w (l.length+m.length) l.length e≤maxLen:=grownCap_le_maxLen w (l.length+m.length) l.length e (by unfold maxLen;omega)
  refine dQ.value (v:=.slice (some ⟨w.heap.size,0,none⟩) (l.length+m.length) (grownCap w (l.length+m.length) l.length e)) (w':=w.drew.alloc (.cells ((l.map enc).toArray++(m.map enc).toArray++YR z.cells (grownCap w (l.length+m.length) l.length e-(l.length+m.length))) e)) ?_ (h _ _ (hN.bx (l:=l++m) ?_ ((Ext.drew w).trans (Ext.alloc _ _))))
  · simp only [execOp, resolve, invoke, builtin, Wn, VC, We, hx, hv, hy]
    simp[hr]
  · unfold dy
    have RF:(l++m).length=l.length+m.length:=UX
    refine⟨by simp,.inr ⟨w.heap.size,grownCap w (l.length+m.length) l.length e,_,by rw[RF],Vv _,heap_alloc_new w.drew _,by rw[RF];exact GK,N9,?_,?_⟩⟩
    · simp only [YN, YQ, size_zeroCells, hz, Vl]
      omega
    · have e1 : ((l.map enc).toArray ++ (m.map enc).toArray ++ YR z.cells (grownCap w (l.length + m.length) l.length e - (l.length + m.length))).toList = (l ++ m).map enc ++ (YR z.cells (grownCap w (l.length + m.length) l.length e - (l.length + m.length))).toList := by simp
      rw[e1,show(l++m).length*1=((l++m).map enc).length by simp]
      exact aa9
end
end Go.Rl
namespace Go.Rl
section
variable {P:Program} {R:Nat→Value} {w:World} {dst:Option Tmp} {ty:TypeId} {pos:String} {af:Array Edge} {gd:Option (Nat×Bool)}
theorem pk {t e : TypeId} {len s : Nat} {parts : Array (Nat × Operand)} {ps : List (Nat × Value)} {z : Value} {zc cs : List Value} (ht : P.underlying t = some (.array len e)) (ew : (P.info? e).map (·.size) = some s) (hz : (P.info? t).map (·.zero) = some (some z))
    {pl:List (Nat×Operand)} (hp:parts.toList=pl) (Cq:(pl.map fun(i,x)=>(i,ev R x))=ps) (L4:z.cells=zc.toArray) (hf:W9 (fun i=>some (i*s,s)) zc.toArray ps=some cs.toArray):Ev P ⟨dst,.build t parts,ty,pos,af,gd⟩ R w (.agg cs.toArray):=by
  have JY:(zeroValue t).run P w=.ok z w:=by
    cases hq:P.info? t with
    |none=>simp[hq]at hz
    |some i=>
      have:i.zero=some z:=by simpa[hq]using hz
      simp[zeroValue,typeInfo,hq,this]
  have J9:(parts.map fun(i,x)=>(i,ev R x)).toList=ps:=by rw[X9,hp,Cq]
  simp only[Ev,execOp,aco,VM,JY,VU,run_underlying ht,ey (w:=w) ew,J9,L4,hf,WG]
theorem gJ {t e : TypeId} {len : Nat} {x i : Operand} {cs : List Value} {k : IntKind} {m : Int} {v : Value} {d : TypeDesc} (ht : P.underlying t = some (.array len e)) (he : P.underlying e = some d) (hd : d.isRow = false) (ew : (P.info? e).map (·.size) = some 1)
    (hx:ev R x=.agg cs.toArray) (hi:ev R i=.int k m) (h0:0≤m) (h1:m<len) (hv:cs[m.toNat]?=some v):Ev P ⟨dst,.index t x i,ty,pos,af,gd⟩ R w v:=by
  have wE:(isAgg e).run P w=.ok false w:=by
    unfold isAgg
    rw[VM,run_underlying he w]
    cases d<;>simp_all [aa8]
  have hr:(0≤m∧m<(len:Int)):=⟨h0,h1⟩
  simp[Ev,execOp,hx,hi,Instr.index,asIntOf,run_underlying ht,hr,ey (w:=w) ew,part,wE,hv]
end
section
variable {w0 w:World} {F:Nat→Prop} {L M:List Atom}
theorem ak.comm (h:ak w0 F w (L++M)):ak w0 F w (M++L):=by
  have get:∀(i:Nat) a,(M++L)[i]?=some a→∃j,(L++M)[j]?=some a∧((i<M.length∧j=L.length+i)∨(M.length≤i∧j=i-M.length∧j<L.length)):=by
    intro i a hi
    rcases VH i M.length with h1|h1
    · rw [VR h1] at hi
      exact⟨L.length+i,by rw[VQ (by omega)];simpa using hi,.inl ⟨h1,rfl⟩⟩
    · rw [VQ h1] at hi
      have hl:=(U5.1 hi).1
      exact⟨i-M.length,by rw[VR hl];exact hi,.inr ⟨h1,rfl,hl⟩⟩
  refine⟨h.mod,fun i a hi=>?_,fun i a hi k hk=>?_,fun i i' a b di hi Kv k hk hC=>?_⟩
  · obtain⟨j,hj,_⟩:=get i a hi;exact h.says j a hj
  · obtain⟨j,hj,_⟩:=get i a hi;exact h.low j a hj k hk
  · obtain ⟨j, hj, e⟩ := get i a hi
    obtain⟨j',Kq,e'⟩:=get i' b Kv
    exact h.sep j j' a b (by omega) hj Kq k hk hC
end
def y9 {α:Type} (x:Value×List α):Array Value:=#[x.1]
def Jd {α:Type} (enc:α→Value) (F:Nat→Prop) (x:Value×List α) (w:World):Prop:=Sl enc w x.1 x.2∧py F x.1 x.2
def C2 (α:Type) (s x:Value×List α) (b:Bool) (s':Value×List α):Prop:=b=true∧s'.2=s.2++x.2
theorem C2.on {α:Type}:∀s x b s',C2 α s x b s'→b=true:=fun _ _ _ _ h=>h.1
theorem BD {α:Type} {s0 s:Value×List α} {pre:List (List α)} (h:tc (C2 α) Wd s0 pre s):s.2=s0.2++pre.flatten:=by
  induction h with
  |nil=>simp
  |snoc _ ht ih=>rw[ht.2,ih,VF,WC];simp
theorem H6 {α:Type} {s0 s x:Value×List α} {pre xs post:List (List α)} (h:tc (C2 α) Wd s0 pre s) (h0:s0.2=[]) (hx:xs=pre++Wd x::post):s.2.length+x.2.length≤xs.flatten.length:=by
  have h1:=BD h
  rw[h0,Wm]at h1
  rw[h1,hx];simp only[WC,Vx,UX];omega
theorem nG {α:Type} {l:List α} {i:Nat} {a:α} (h:l[i]?=some a):l.drop i=a::l.drop (i+1):=by
  obtain⟨hi,rfl⟩:=U5.1 h
  exact W8 hi
end Go.Rl
namespace Go.Rl
section
variable {P:Program} {fn:Func} {n id:Nat} {K:Value→World→Prop} {J:List Deferred→(Nat→Value)→World→Prop} {Q:dV}
theorem fP:xc (F3 P fn n K):=fun _ _ _ _ h=>h.1.elim (fun e=>by cases e) (fun e=>by cases e)
theorem fN (h:xc Q):xc (uv J Q):=h
theorem fQ (h:xc Q):xc (pw id Q):=h
theorem fO (h:xc Q):xc (zL Q):=h
end
end Go.Rl
namespace Go.Rl
open Go.RowKit
section
variable {P:Program}
def qh (a:I2):Value:=.agg #[.int .i64 a.1,.int .i64 a.2]
theorem H9 {kt:TypeId} (h:∀(a b:I2),lE P 10000 kt (qh a) (qh b) (decide (a=b))) (a:I2) (w:World):∀(l:List (GU I2)) (i:Nat),(Y0 kt (qh a) (jw qh l).toList i).run P w=.ok (jO a l i) w:=by
  intro l
  induction l with
  |nil=>intro i;simp[Y0,jw,jO]
  |cons e r ih=>
    intro i
    have QW:=ih (i+1)
    have he:(Op.equal kt (qh a) (qh e.1)).run P w=.ok (decide (a=e.1)) w:=h a e.1 w
    simp only[jw,VC,jO]at QW ⊢
    simp only[Y0,VM,he,VU]
    by_cases hq:a=e.1
    · simp[hq]
    · simp only[hq,decide_false,if_false];exact QW
theorem kO {kt t1 t2:TypeId} {f1 f2:Field} (hu:P.underlying kt=some (.struct #[f1,f2])) (hs:P.stoodInHeld kt=false) (h1:f1.name≠"_"∧f1.offset=0) (h2:f2.name≠"_"∧f2.offset=1) (Ar:P.underlying f1.type=some (.int .i64)) (PJ:P.underlying f2.type=some (.int .i64)):KE P kt qh:=by
  have pa:∀a:I2,cR P f1.type #[.int .i64 a.1,.int .i64 a.2] f1.offset (.int .i64 a.1):=fun a=>cR.leaf Ar (by rw[h1.2];rfl)
  have pb:∀a:I2,cR P f2.type #[.int .i64 a.1,.int .i64 a.2] f2.offset (.int .i64 a.2):=fun a=>cR.leaf PJ (by rw[h2.2];rfl)
  have hE:∀(a b:I2),lE P 10000 kt (qh a) (qh b) (decide (a=b)):=fun a b=>
    lE.iff (lE.struct hu hs rfl (oP.cons h1.1 (pa a) (pa b) (lE.int Ar) (oP.cons h2.1 (pb a) (pb b) (lE.int PJ) oP.nil))) (by simp[Prod.ext_iff])
  refine⟨fun a e w=>?_,fun a l w=>?_,fun a=>?_⟩
  · show (XT e (9998 + 1 + 1) kt (qh a)).run P w = .ok () w
    unfold XT
    have c1:∀w,(XT e (9998+1) f1.type (.int .i64 a.1)).run P w=.ok () w:=fun w=>ZQ Ar (by simp[abm]) e 9998
    have c2:∀w,(XT e (9998+1) f2.type (.int .i64 a.2)).run P w=.ok () w:=fun w=>ZQ PJ (by simp[abm]) e 9998
    have p1:=pa a w
    have p2:=pb a w
    simp[VM,run_underlying hu,qh,h1.1,h2.1,p1,p2,c1,c2]
  · have hf := H9 hE a w l 0
    unfold abj
    cases l with
    |nil=>simp[VM,run_underlying hu,jw,ZZ,jO]
    |cons e r=>
      have hn:ZZ (.struct #[f1,f2]) (qh a) (jw qh (e::r)).toList 0=none:=by simp[jw,ZZ,Instr.sameNow,qh]
      simp only[VM,run_underlying hu,VU,hn]
      exact hf
  · unfold Yy qh
    simp
    exact⟨by unfold Yy;simp,by unfold Yy;simp⟩
end
end Go.Rl
namespace Go.Gr
open Go.Rl
abbrev vI (x:Int):Value:=.int .i64 x
def Gx (n:Int) (a:I3):Prop:=0≤a.1∧a.1<n∧0≤a.2.1∧a.2.1<n∧0≤a.2.2∧a.2.2≤2147483648
instance (n:Int) (a:I3):Decidable (Gx n a):=inferInstanceAs (Decidable (_∧_))
def dw (n:Int) (ar:List I3):Int:=if 16777216<n∨67108864<ar.length then 3 else if n<0 then 2 else if ∀a∈ar,Gx n a then 0 else 2
theorem qO {n:Int} {ar:List I3} (h:dw n ar=0):0≤n∧n≤16777216∧ar.length≤67108864∧∀a∈ar,Gx n a:=by
  unfold dw at h
  split at h
  · cases h
  · split at h
    · cases h
    · split at h
      · exact⟨by omega,by omega,by omega,by assumption⟩
      · cases h
theorem cT {α:Type} {l:List α} {i:Nat} {a x:α} (h:l[i]?=some a) (hx:x∈l.take (i+1)):x∈l.take i∨x=a:=by
  rw[X0,h]at hx;simpa using hx
def nN (ar:List I3) (k:Nat):Prop:=∃a,ar[k]?=some a∧a.1≠a.2.1∧∀(i:Nat) b,ar[i]?=some b→¬(b.1=a.1∧b.2.1=a.2.1∧(b.2.2<a.2.2∨b.2.2=a.2.2∧i<k))
noncomputable instance (ar:List I3) (k:Nat):Decidable (nN ar k):=VG _
noncomputable def kept (ar:List I3):List Int:=(V0 ar.length).map fun k=>if nN ar k then 1 else 0
theorem uT (ar:List I3) (k:Nat):(V0 (k+1)).map (fun k=>if nN ar k then(1:Int)else 0)=(V0 k).map (fun k=>if nN ar k then(1:Int)else 0)++[if nN ar k then 1 else 0]:=by rw[WD,V5];rfl
end Go.Gr
namespace Go.Gr
open Go.Rl
theorem Ib {n:Nat} {d:List Int} {c:Int} (hl:d.length=n) (h:∀j,j<n→d[j]?=some c):d=Vm n c:=by
  refine YP fun i=>?_
  rw[XX]
  split
  · exact h i ‹_›
  · exact WT (by omega)
theorem Ia {d:List Int} {c:Int} {i:Nat} (hi:i<d.length) (h:∀j,j<i→d[j]?=some c):∀j,j<i+1→(d.set i c)[j]?=some c:=by
  intro j hj
  by_cases e:i=j
  · subst e;rw[Wu,if_pos rfl,if_pos hi]
  · rw[Wu,if_neg e];exact h j (by omega)
def Ig (ls:List I5) (u v:Int):Option I3:=(ls.find? fun x=>decide (x.1=u∧x.2.1=v)).map (·.2.2)
def Gn (ls:List I5) (u v:Int):Prop:=(Ig ls u v).isSome=true
noncomputable instance (ls:List I5) (u v:Int):Decidable (Gn ls u v):=VG _
def Lf (n:Nat) (ins:List Int) (v:Int):Prop:=0≤v∧v<n∧ins[v.toNat]?=some 1
noncomputable instance (n:Nat) (ins:List Int) (v:Int):Decidable (Lf n ins v):=VG _
def NP (n:Nat) (ins:List Int) (ls:List I5) (u v w mid:Int):Prop:=¬Lf n ins u∨¬Lf n ins v∨u=v∨w<0∨mid<0∨Gn ls u v∧((Ig ls u v).getD (0,0,0)).1≤w
noncomputable instance (n:Nat) (ins:List Int) (ls:List I5) (u v w mid:Int):Decidable (NP n ins ls u v w mid):=VG _
theorem cZ {α β:Type} {l:List α} {q:Nat} {a:α} (f:α→β) (h:l[q]?=some a):(l.take (q+1)).map f=(l.take q).map f++[f a]:=by rw[dH h,V5];rfl
end Go.Gr
namespace Go.Gr
open Go.Rl
abbrev xe:=BitVec 64
theorem ofInt_u64 (a:xe):Wr 64 (a.toNat:Int)=a:=by
  rw[BitVec.ofInt_natCast];simp
theorem ur (a:xe):V8.wrap (a.toNat:Int)=(a.toNat:Int):=by
  have:=a.isLt
  simp only[Ws,V3,V6,Wl,VS,if_false]
  omega
theorem DR (x:Int):V8.wrap x=((Wr 64 x).toNat:Int):=by
  simp only[Ws,V3,V6,Wl,VS,if_false,aab]
  omega
theorem AY (a b:xe):arith .xor .u64 (a.toNat:Int) (b.toNat:Int)=((a^^^b).toNat:Int):=by
  simp only[arith]
  rw[show V8.bits=64 from rfl,ofInt_u64,ofInt_u64,ur]
theorem Jy (a c:xe):arith .mul .u64 (a.toNat:Int) (c.toNat:Int)=((a*c).toNat:Int):=by
  simp only[arith,Ws,V3,V6,Wl,VS,if_false,BitVec.toNat_mul]
  rw[aaY,Int.natCast_mul]
  rfl
theorem Ih (a:xe):arith .mul .u64 (a.toNat:Int) 1099511628211=((a*1099511628211#64).toNat:Int):=Jy a 1099511628211#64
theorem LO (a:xe):((a.toNat:Int)).fdiv (2^(min (32:Int).toNat V8.bits))=((a>>>32).toNat:Int):=by
  rw[show min (32:Int).toNat V8.bits=32 from rfl]
  rw[WH,WE,W7 _ (by decide)]
  have h2:(2:Nat)^32=4294967296:=by decide
  have h3:(2:Int)^32=4294967296:=by decide
  rw[h2,h3]
  omega
theorem LP (a:xe):V8.wrap (((a.toNat:Int)).tdiv 4294967296)=((a>>>32).toNat:Int):=by
  have h:((a.toNat:Int)).tdiv 4294967296=((a>>>32).toNat:Int):=by
    rw[WR (W4 _),WH,WE]
    have h2:(2:Nat)^32=4294967296:=by decide
    rw[h2]
    omega
  rw[h,ur]
def mixed (h:xe) (x:Int):xe:=(h^^^Wr 64 x)*1099511628211#64
def jU (h:xe) (x:Int):xe:=mixed h x^^^(mixed h x>>>32)
def pz (h:xe) (a:I3):xe:=jU (jU (jU h a.1) a.2.1) a.2.2
def ig (n:Int) (l:List I3):xe:=l.foldl pz (jU 14695981039346656037#64 n)
theorem pB {h:xe} {l:List I3} {i:Nat} {a:I3} (ha:l[i]?=some a):(l.take (i+1)).foldl pz h=pz ((l.take i).foldl pz h) a:=by rw[dH ha,List.foldl_append];rfl
end Go.Gr
namespace Go.Gr
open Go.Rl
def jc (l:List Int) (j:Int):Nat:=(l.filter fun x=>decide (x=j)).length
def nK (l:List Int) (j:Int):Nat:=(l.filter fun x=>decide (x<j)).length
theorem mK (l:List Int) (j:Int):nK l (j+1)=nK l j+jc l j:=by
  induction l with
  |nil=>rfl
  |cons a r ih=>
    unfold nK jc at*
    simp only[Ya]
    by_cases h1:a<j
    · rw[if_pos (by simp;omega),if_pos (by simpa using h1),if_neg (by simp;omega)];simp only[U6];omega
    · by_cases h2 : a = j
      · rw[if_pos (by simp;omega),if_neg (by simpa using h1),if_pos (by simpa using h2)];simp only[U6];omega
      · rw[if_neg (by simp;omega),if_neg (by simpa using h1),if_neg (by simpa using h2)];exact ih
theorem BC (l:List Int) (j:Int):jc l j≤l.length:=ZE _ _
theorem BB (l:List Int) (j:Int):nK l j≤l.length:=ZE _ _
theorem ji {l:List Int} {i:Nat} {a:Int} (h:l[i]?=some a) (j:Int):jc (l.take (i+1)) j=jc (l.take i) j+if a=j then 1 else 0:=by
  unfold jc
  rw[dH h,List.filter_append,UX]
  congr 1
  by_cases e:a=j
  · rw[if_pos e,Ya,if_pos (by simpa using e)];rfl
  · rw[if_neg e,Ya,if_neg (by simpa using e)];rfl
theorem wU {l:List Int} {i:Nat} {a:Int} (h:l[i]?=some a):jc (l.take i) a<jc l a:=by
  have h1:=ji h a
  rw[if_pos rfl]at h1
  have h2:jc (l.take (i+1)) a≤jc l a:=by
    unfold jc
    exact((aaC (i+1) l).filter _).length_le
  omega
theorem wT {l:List Int} {i:Nat} {a:Int} (h:l[i]?=some a):nK l a+jc (l.take i) a<l.length:=by
  have h1:=wU h
  have h2:=mK l a
  have h3:=BB l (a+1)
  omega
theorem CV {l:List Int} {j:Int} (h:∀x∈l,x≠j):jc l j=0:=by
  unfold jc
  rw[WM,Zn]
  intro x hx;simpa using h x hx
theorem CU {l:List Int} {j:Int} (h:∀x∈l,j≤x):nK l j=0:=by
  unfold nK
  rw[WM,Zn]
  intro x hx;have:=h x hx;simp;omega
structure Cs (n:Nat) (cs:List Int) (f:Nat→Int):Prop where
  len:cs.length=n+1
  val:∀j,j≤n→cs[j]?=some (f j)
theorem Cs.at {n j:Nat} {cs:List Int} {f:Nat→Int} {x:Int} (h:Cs n cs f) (hx:cs[j]?=some x):x=f j:=by
  have hl:=(U5.1 hx).1
  have h1:=h.val j (by have:=h.len;omega)
  rw[hx]at h1
  exact Vq h1
theorem Cs.as {n:Nat} {cs:List Int} {f g:Nat→Int} (h:Cs n cs f) (e:∀j,j≤n→f j=g j):Cs n cs g:=⟨h.len,fun j hj=>by rw[h.val j hj,e j hj]⟩
theorem Cs.set {n i:Nat} {cs:List Int} {f g:Nat→Int} {x:Int} (h:Cs n cs f) (hi:i≤n) (hx:x=g i) (e:∀j,j≤n→j≠i→f j=g j):Cs n (cs.set i x) g:=by
  refine⟨by rw[Wb];exact h.len,fun j hj=>?_⟩
  rw[Wu]
  by_cases nz:i=j
  · subst nz;rw[if_pos rfl,if_pos (by have:=h.len;omega),hx]
  · rw[if_neg nz,h.val j hj,e j hj (aa5 nz)]
theorem Cs.LI (n:Nat):Cs n (Vm (n+1) 0) fun _=>0:=⟨Vw,fun j hj=>by rw[XX,if_pos (by omega)]⟩
def f0 (ks:List Int) (i:Nat):Nat→Int:=fun j=>(jc (ks.take i) ((j:Int)-1):Int)
def f1 (ks:List Int) (v:Nat):Nat→Int:=fun j=>if j≤v then(nK ks (j:Int):Int)else(jc ks ((j:Int)-1):Int)
def f2 (ks:List Int) (i:Nat):Nat→Int:=fun j=>(nK ks (j:Int):Int)+(jc (ks.take i) (j:Int):Int)
theorem oy {n:Nat} {ks:List Int}:Cs n (Vm (n+1) 0) (f0 ks 0):=(Cs.LI n).as fun j _=>rfl
theorem qW {n i:Nat} {ks cs:List Int} {e x:Int} (h:Cs n cs (f0 ks i)) (hk:ks[i]?=some e) (h0:0≤e) (h1:e<n) (hx:cs[(e+1).toNat]?=some x):0≤x∧x≤ks.length∧Cs n (cs.set (e+1).toNat (x+1)) (f0 ks (i+1)):=by
  have hv:=h.at hx
  have he:(((e+1).toNat:Nat):Int)-1=e:=by omega
  have hle:=BC (ks.take i) e
  rw[Vs]at hle
  refine⟨by rw[hv];exact W4 _,by rw[hv];unfold f0;rw[he];omega,h.set (by omega) ?_ fun j hj di=>?_⟩
  · rw[hv];unfold f0;rw[he,ji hk,if_pos rfl];simp
  · unfold f0;rw[ji hk,if_neg (by omega)];simp
theorem ox {n:Nat} {ks cs:List Int} (h:Cs n cs (f0 ks ks.length)) (hk:∀x∈ks,0≤x):Cs n cs (f1 ks 0):=h.as fun j _=>by
  unfold f0 f1
  rw[Vz]
  split
  · rename_i h0
    have:j=0:=by omega
    subst this
    rw[CV (fun x hx=>by have:=hk x hx;omega),CU (fun x hx=>by simpa using hk x hx)]
  · rfl
theorem qV {n v:Nat} {ks cs:List Int} {x y:Int} (h:Cs n cs (f1 ks v)) (hv:v<n) (hx:cs[v+1]?=some x) (hy:cs[v]?=some y):0≤x∧x≤ks.length∧0≤y∧y≤ks.length∧Cs n (cs.set (v+1) (x+y)) (f1 ks (v+1)):=by
  have e1:=h.at hx
  have e2:=h.at hy
  unfold f1 at e1 e2
  rw[if_neg (by omega),show((v+1:Nat):Int)-1=(v:Int) by omega]at e1
  rw[if_pos (Vv _)]at e2
  have l1:=BC ks (v:Int)
  have l2:=BB ks (v:Int)
  refine⟨by omega,by omega,by omega,by omega,h.set (by omega) ?_ fun j hj di=>?_⟩
  · unfold f1;rw[if_pos (Vv _),e1,e2,show((v+1:Nat):Int)=(v:Int)+1 by omega,mK];omega
  · unfold f1
    by_cases RJ:j≤v
    · rw[if_pos RJ,if_pos (by omega)]
    · rw[if_neg RJ,if_neg (by omega)]
theorem y1 {n:Nat} {ks cs:List Int} (h:Cs n cs (f1 ks n)):Cs n cs (f2 ks 0):=h.as fun j hj=>by
  unfold f1 f2
  rw[if_pos hj,aba]
  simp[jc]
theorem Bx {n i:Nat} {ks cs:List Int} {e x:Int} (h:Cs n cs (f2 ks i)) (hk:ks[i]?=some e) (h0:0≤e) (h1:e<n) (hx:cs[e.toNat]?=some x):0≤x∧x<ks.length∧x=(nK ks e:Int)+(jc (ks.take i) e:Int)∧Cs n (cs.set e.toNat (x+1)) (f2 ks (i+1)):=by
  have hv:=h.at hx
  have he:((e.toNat:Nat):Int)=e:=by omega
  have hp:=wT hk
  unfold f2 at hv
  rw[he]at hv
  refine⟨by omega,by omega,hv,h.set (by omega) ?_ fun j hj di=>?_⟩
  · unfold f2;rw[he,ji hk,if_pos rfl];omega
  · unfold f2;rw[ji hk,if_neg (by omega)];simp
def posOf (ks:List Int) (i:Nat):Nat:=nK ks (ks.getD i 0)+jc (ks.take i) (ks.getD i 0)
theorem vf (l:List Int) {a b:Int} (h:a≤b):nK l a≤nK l b:=by
  induction l with
  |nil=>exact Vv _
  |cons x r ih=>
    unfold nK at*
    simp only[Ya]
    by_cases h1:x<a
    · rw[if_pos (by simpa using h1),if_pos (by simp;omega)];simp only[U6];omega
    · rw [if_neg (by simpa using h1)]
      split
      · simp only[U6];omega
      · exact ih
theorem sT (l:List Int) (j:Int) {a b:Nat} (h:a≤b):jc (l.take a) j≤jc (l.take b) j:=by
  have e:l.take a=(l.take b).take a:=by rw[ZF,Yl h]
  unfold jc
  rw[e]
  exact((aaC a (l.take b)).filter _).length_le
theorem uM {ks:List Int} {i j:Nat} (nz:i<j) (hj:j<ks.length):posOf ks i≠posOf ks j:=by
  have hi:ks[i]?=some (ks.getD i 0):=by rw[V1,UT (by omega)];rfl
  have Kq:ks[j]?=some (ks.getD j 0):=by rw[V1,UT hj];rfl
  unfold posOf
  generalize ks.getD i 0=a at*
  generalize ks.getD j 0=b at*
  have ha:=wU hi
  have hb:=wU Kq
  rcases Int.lt_trichotomy a b with h|h|h
  · have h1 := vf ks (show a + 1 ≤ b by omega)
    have h2:=mK ks a
    omega
  · subst h
    have h1:=ji hi a
    rw[if_pos rfl]at h1
    have h2:=sT ks a (show i+1≤j by omega)
    omega
  · have h1 := vf ks (show b + 1 ≤ a by omega)
    have h2:=mK ks b
    omega
structure Laid (l ks os:List Int) (i:Nat):Prop where
  len:os.length=l.length
  fits:∀j x,j<i→l[j]?=some x→os[posOf ks j]?=some x
theorem Laid.start {l ks:List Int}:Laid l ks (Vm l.length 0) 0:=⟨Vw,fun j x hj=>absurd hj (Zh _)⟩
theorem Laid.step {l ks os:List Int} {i:Nat} {x e p:Int} (h:Laid l ks os i) (ql:ks.length=l.length) (hx:l[i]?=some x) (hk:ks[i]?=some e) (hp:p=(nK ks e:Int)+(jc (ks.take i) e:Int)):Laid l ks (os.set p.toNat x) (i+1):=by
  have hi:=(U5.1 hx).1
  have gg:p.toNat=posOf ks i:=by
    unfold posOf
    rw[V1,hk,hp]
    simp only[Yb];omega
  have bW:=wT hk
  refine⟨by rw[Wb];exact h.len,fun j y hj hy=>?_⟩
  rw[Wu,gg]
  by_cases nz:j=i
  · subst nz
    rw[hx]at hy
    cases hy
    rw [if_pos rfl, if_pos (by rw [h.len]; have : p.toNat < ks.length := by omega
                               omega)]
  · rw [if_neg (fun e => uM (ks := ks) (show j < i by omega) (by omega) e.symm)]
    exact h.fits j y (by omega) hy
theorem sP {m:Nat} {ps:List Nat} (hn:ps.Nodup) (hp:∀p∈ps,p<m+1):∀p∈ps.erase m,p<m:=fun p h=>by
  have h1:=(hn.mem_erase_iff).1 h
  have:=hp p h1.2
  omega
theorem Ch:∀{m:Nat} {ps:List Nat},ps.Nodup→(∀p∈ps,p<m)→ps.length≤m:=by
  intro m
  induction m with
  |zero=>
    intro ps _ hp
    cases ps with
    |nil=>exact Vv _
    |cons a r=>exact absurd (hp a (V2 ..)) (Zh _)
  |succ m ih=>
    intro ps hn hp
    have h1:=ih (hn.erase m) (sP hn hp)
    by_cases hm:m∈ps
    · rw[Xd hm]at h1;omega
    · rw[ZG hm]at h1;omega
theorem o0:∀{m:Nat} {ps:List Nat},ps.length=m→ps.Nodup→(∀p∈ps,p<m)→ps.Perm (V0 m):=by
  intro m
  induction m with
  |zero=>intro ps hl _ _;rw[Wg hl];exact .refl _
  |succ m ih=>
    intro ps hl hn hp
    have hm:m∈ps:=by
      apply Classical.byContradiction
      intro hm
      have h1:=Ch (hn.erase m) (sP hn hp)
      rw[ZG hm]at h1
      omega
    have h2:=ih (ps:=ps.erase m) (by rw[Xd hm];omega) (hn.erase m) (sP hn hp)
    rw[WD]
    exact((List.perm_cons_erase hm).trans (h2.cons m)).trans (List.perm_append_comm (l₁:=[m]))
theorem lW (l:List Int):(V0 l.length).map (fun i=>l.getD i 0)=l:=by
  apply YP
  intro i
  rw[Wf]
  by_cases h:i<l.length
  · rw[Z3 h];simp[V1,UT h]
  · rw[WT (by rw[X1];omega),WT (by omega)];rfl
theorem D3 {ks:List Int} {i:Nat} (hi:i<ks.length):posOf ks i<ks.length:=by
  have hk:ks[i]?=some (ks.getD i 0):=by rw[V1,UT hi];rfl
  exact wT hk
theorem Laid.perm {l ks os:List Int} (h:Laid l ks os l.length) (ql:ks.length=l.length):os.Perm l:=by
  have Cq:((V0 l.length).map (posOf ks)).Perm (V0 l.length):=by
    refine o0 (by simp) ?_ ?_
    · rw [List.nodup_iff_pairwise_ne, List.pairwise_map]
      refine(List.pairwise_lt_range).imp_of_mem fun{a b} ha hb HT=>uM HT (by have:=ZH.1 hb;omega)
    · intro p hp
      obtain⟨i,hi,rfl⟩:=V9.1 hp
      have:=D3 (ks:=ks) (i:=i) (by have:=ZH.1 hi;omega)
      omega
  have h1:=(Cq.map fun i=>os.getD i 0)
  have e1:(V0 l.length).map (fun i=>os.getD i 0)=os:=by rw[←h.len];exact lW os
  have e2:((V0 l.length).map (posOf ks)).map (fun i=>os.getD i 0)=l:=by
    rw[Wz]
    conv=>rhs;rw[←lW l]
    refine WZ fun i hi=>?_
    have hi:=ZH.1 hi
    have h2:=h.fits i l[i] hi (UT hi)
    show os.getD (posOf ks i) 0=_
    rw[V1,h2,V1,UT hi]
  rw[e1,e2]at h1
  exact h1.symm
def keyOf (ar:List I3) (q:I3→Int) (k:Int):Int:=q (ar.getD k.toNat (0,0,0))
theorem om {ar:List I3} {q:I3→Int} {k:Int} {a:I3} (h:ar[k.toNat]?=some a):keyOf ar q k=q a:=by unfold keyOf;rw[V1,h];rfl
def c7 (ar:List I3) (q:I3→Int) (l:List Int):List Int:=l.map (keyOf ar q)
theorem eF (ar:List I3) (q:I3→Int) (l:List Int):(c7 ar q l).length=l.length:=Vl _
theorem gE {ar:List I3} {q:I3→Int} {l:List Int} {i:Nat} {k:Int} {a:I3} (hk:l[i]?=some k) (ha:ar[k.toNat]?=some a):(c7 ar q l)[i]?=some (q a):=by unfold c7;rw[Wf,hk];simp[om ha]
theorem mG {ar:List I3} {q:I3→Int} {l:List Int} (hv:∀k∈l,0≤k∧k<(ar.length:Int)) (hq:∀a∈ar,0≤q a):∀x∈c7 ar q l,0≤x:=by
  intro x hx
  obtain⟨k,hk,rfl⟩:=V9.1 hx
  have h:=hv k hk
  have bW:k.toNat<ar.length:=by omega
  rw[om (UT bW)]
  exact hq _ (aaZ bW)
end Go.Gr
namespace Go.Gr
open Go.Rl
def vB (b:Bool):Value:=.bool (decide (b=true))
def H2 (x:Int):Array Value:=#[.int .i64 x]
def Oi (_:Nat→Prop) (_:Int) (_:World):Prop:=True
def ec (p : Nat → Bool) : Nat → Nat → List Int
  |_,0=>[]
  |i,k+1=>if p i then(i:Int)::ec p (i+1) k else ec p (i+1) k
theorem uH {p:Nat→Bool} {i k:Nat} (hk:0<k) (h:p i=true):ec p i k=(i:Int)::ec p (i+1) (k-1):=by
  obtain⟨k,rfl⟩:∃q,k=q+1:=⟨k-1,by omega⟩
  rw[ec,if_pos h];rfl
theorem uI {p:Nat→Bool} {i k:Nat} (hk:0<k) (h:p i=false):ec p i k=ec p (i+1) (k-1):=by
  obtain⟨k,rfl⟩:∃q,k=q+1:=⟨k-1,by omega⟩
  rw[ec,if_neg (by rw[h];simp)];rfl
theorem uR {p:Nat→Bool} {x:Int}:∀{k i:Nat},x∈ec p i k↔∃j:Nat,i≤j∧j<i+k∧p j=true∧x=(j:Int):=by
  intro k
  induction k with
  |zero=>intro i;simp[ec];intro j h1 h2;omega
  |succ k ih=>
    intro i
    rw[ec]
    by_cases h:p i=true
    · rw [if_pos h, U9, ih]
      constructor
      · rintro (rfl | ⟨j, h1, h2, h3, h4⟩)
        · exact⟨i,Vv _,by omega,h,rfl⟩
        · exact⟨j,by omega,by omega,h3,h4⟩
      · rintro ⟨j, h1, h2, h3, h4⟩
        rcases aac h1 with e|e
        · subst e;exact .inl h4
        · exact .inr ⟨j,e,by omega,h3,h4⟩
    · rw [if_neg h, ih]
      constructor
      · rintro⟨j,h1,h2,h3,h4⟩;exact⟨j,by omega,by omega,h3,h4⟩
      · rintro ⟨j, h1, h2, h3, h4⟩
        rcases aac h1 with e|e
        · subst e;exact absurd h3 h
        · exact⟨j,e,by omega,h3,h4⟩
theorem mB (p:Nat→Bool):∀(k i:Nat),(ec p i k).length≤k:=by
  intro k
  induction k with
  |zero=>intro i;exact Vv _
  |succ k ih=>
    intro i
    rw[ec]
    have:=ih (i+1)
    split
    · rw[U6];omega
    · omega
def lZ (ar:List I3) (i:Nat):Bool:=decide (∃a,ar[i]?=some a∧¬a.1=a.2.1)
theorem Hz {ar:List I3} {i:Nat} {a:I3} (h:ar[i]?=some a) (di:¬a.1=a.2.1):lZ ar i=true:=decide_eq_true ⟨a,h,di⟩
theorem HA {ar:List I3} {i:Nat} {a:I3} (h:ar[i]?=some a) (di:¬¬a.1=a.2.1):lZ ar i=false:=decide_eq_false fun⟨b,hb,h2⟩=>by rw[h]at hb;cases hb;exact di h2
def mO (bs:List Bool) (i:Nat):Bool:=decide (bs[i]?=some true)
theorem JU {bs:List Bool} {i:Nat} {b:Bool} (h:bs[i]?=some b) (hb:b=true):mO bs i=true:=decide_eq_true (by rw[h,hb])
theorem JV {bs:List Bool} {i:Nat} {b:Bool} (h:bs[i]?=some b) (hb:¬b=true):mO bs i=false:=decide_eq_false (by rw[h];intro e;cases e;exact hb rfl)
def zm (α:Type) (s:Value×List α) (x:α) (b:Bool) (s':Value×List α):Prop:=b=true∧s'.2=s.2++[x]
theorem zm.on {α:Type}:∀s x b s',zm α s x b s'→b=true:=fun _ _ _ _ h=>h.1
theorem xa {α:Type} {s0 s:Value×List α} {pre:List α} (h:tc (zm α) id s0 pre s):s.2=s0.2++pre:=by
  induction h with
  |nil=>simp
  |snoc _ ht ih=>rw[ht.2,ih,VF];rfl
theorem BH {α:Type} {s0 s:Value×List α} {pre xs post:List α} {x:α} (h:tc (zm α) id s0 pre s) (h0:s0.2=[]) (hx:xs=pre++id x::post):s.2.length<xs.length:=by
  have h1:=xa h
  rw[h0,Wm]at h1
  rw[h1,hx];simp
def po (ar:List I3) (q:I3→Int) (k:Int):I3:=(keyOf ar q k,keyOf ar (·.2.2) k,k)
theorem vc {ar:List I3} {q:I3→Int} {k:Int} {a:I3} (h:ar[k.toNat]?=some a):po ar q k=(q a,a.2.2,k):=by unfold po;rw[om h,om h]
end Go.Gr
namespace Go.cP
def le:List UInt8→Nat
  |[]=>0
  |c::r=>c.toNat+256*le r
def put (n k:Nat):List UInt8:=(V0 k).map fun i=>Wp (n/256^i)
def clip (wide:Int):Nat:=(max 0 (min wide 8)).toNat
theorem qX (wide:Int):clip wide≤8:=by unfold clip;omega
theorem nL:clip 4=4:=rfl
theorem wV:clip 8=8:=rfl
theorem bR (n k:Nat):(put n k).length=k:=by simp[put]
theorem DY (n k:Nat):put n (k+1)=put n k++[Wp (n/256^k)]:=by simp[put,WD]
theorem DZ (n k:Nat):put n (k+1)=Wp n::put (n/256) k:=by
  unfold put
  rw[List.range_succ_eq_map,VC,Wz]
  congr 1
  · simp
  · apply WZ
    intro i _
    simp only[ZX]
    rw[YK,Zo]
theorem Eg (k:Nat):∀n,le (put n k)=n%256^k:=by
  induction k with
  |zero=>intro n;simp[put,le,Nat.mod_one]
  |succ k ih=>
    intro n
    rw[DZ,le,ih]
    have h:(Wp n).toNat=n%256:=by simp
    rw[h,YK,Nat.mod_mul]
theorem Cp (a b:List UInt8):le (a++b)=le a+256^a.length*le b:=by
  induction a with
  |nil=>simp[le]
  |cons c r ih=>
    simp only[Yc,le,ih,U6,YK]
    rw[Nat.mul_add,Nat.mul_assoc];omega
theorem Eh (l:List UInt8):le l<256^l.length:=by
  induction l with
  |nil=>simp[le]
  |cons c r ih=>
    have:=c.toNat_lt
    simp only[le,U6,YK]
    omega
theorem qP (l:List UInt8) (h:l.length≤8):le l<18446744073709551616:=by
  have h1:=Eh l
  have h2:256^l.length≤256^8:=Xu (by decide) h
  have h3:(256:Nat)^8=18446744073709551616:=by decide
  omega
theorem Hv (l:List UInt8) (h:l.length≤4):le l<4294967296:=by
  have h1:=Eh l
  have h2:256^l.length≤256^4:=Xu (by decide) h
  have h3:(256:Nat)^4=4294967296:=by decide
  omega
theorem Hu (l:List UInt8) (i:Nat) (h:i<l.length):le (l.take (i+1))=le (l.take i)+l[i].toNat*256^i:=by
  rw[Wo h,Cp]
  have:(l.take i).length=i:=by simp;omega
  rw[this,le,le,Nat.mul_zero,Z9,Nat.mul_comm]
def nk (x:Int):Nat:=(x%18446744073709551616).toNat
def Dz (n:Nat):Int:=if n<9223372036854775808 then n else(n:Int)-18446744073709551616
theorem zz (x:Int):nk x<18446744073709551616:=by unfold nk;omega
theorem G4 (x:Int) (h0: -9223372036854775808≤x) (h1:x≤9223372036854775807):Dz (nk x)=x:=by unfold Dz nk;split<;>omega
theorem G3 (n:Nat) (h:n<18446744073709551616):nk (n:Int)=n:=by unfold nk;omega
def aK (l:List Int):List UInt8:=put l.length 4++l.flatMap fun x=>put (nk x) 8
def fL (s:List UInt8):List UInt8:=put s.length 4++s
theorem iG (l:List Int):(l.flatMap fun x=>put (nk x) 8).length=8*l.length:=by
  induction l with
  |nil=>rfl
  |cons x r ih=>simp only[WO,UX,ih,bR,U6];omega
theorem aS (l:List Int):(aK l).length=4+8*l.length:=by unfold aK;rw[UX,iG,bR]
theorem cv (l:List UInt8):(fL l).length=4+l.length:=by unfold fL;rw[UX,bR]
theorem u4 (l:List Int) (i:Nat) (h:i<l.length):((l.take (i+1)).flatMap fun x=>put (nk x) 8)=((l.take i).flatMap fun x=>put (nk x) 8)++put (nk l[i]) 8:=by
  rw[Wo h,Z2];simp
abbrev St:=List UInt8×Int
def ej (s:St) (k:Nat):St×List UInt8:=if s.2≠0 then(s,[])else if s.1.length<k then(([],10),[])else((s.1.drop k,0),s.1.take k)
theorem eta {α β:Type} (p:α×β):p=(p.1,p.2):=rfl
def eh (s:St) (k:Nat):St×Nat:=((ej s k).1,le (ej s k).2)
theorem uy {s:St} (k:Nat) (h:s.2≠0):ej s k=(s,[]):=by unfold ej;rw[if_pos h]
theorem lK {s:St} {k:Nat} (h:s.2=0) (h2:s.1.length<k):ej s k=(([],10),[]):=by unfold ej;rw[if_neg (by simp[h]),if_pos h2]
theorem iw {s:St} {k:Nat} (h:s.2=0) (h2:k≤s.1.length):ej s k=((s.1.drop k,0),s.1.take k):=by unfold ej;rw[if_neg (by simp[h]),if_neg (by omega)]
theorem uw (s:St) (k:Nat):(ej s k).2.length≤k:=by
  unfold ej
  split
  · simp
  · split
    · simp
    · simp;omega
def fj:Nat→List UInt8→List Int
  |0,_=>[]
  |n+1,l=>Dz (le (l.take 8))::fj n (l.drop 8)
def jE (s:St) (most:Int) (size:Nat):St×List UInt8:=
  if(eh s 4).1.2≠0 then((eh s 4).1,[])else if most<0∨most<((eh s 4).2:Int)then(([],3),[])else ej (eh s 4).1 ((eh s 4).2*size)
def bO (s:St) (most:Int):St×List Int:=((jE s most 8).1,fj ((jE s most 8).2.length/8) (jE s most 8).2)
def cp (s:St) (most:Int):St×List UInt8:=jE s most 1
theorem fb (s:St) (k:Nat):(ej s k).1.1.length≤s.1.length∧(ej s k).2.length≤s.1.length:=by
  unfold ej
  split
  · exact⟨Vv _,VP _⟩
  · split
    · exact⟨VP _,VP _⟩
    · exact⟨by simp,by simp;omega⟩
theorem ux (s:St) (n size:Nat):size ∣ (ej s (n*size)).2.length:=by
  unfold ej
  split
  · exact Nat.dvd_zero _
  · split
    · exact Nat.dvd_zero _
    · have : (s.1.take (n * size)).length = n * size := by simp; omega
      rw[this];exact Nat.dvd_mul_left _ _
def jx (s:St):Int:=if s.2≠0 then s.2 else if 0<s.1.length then 5 else 0
theorem mE (s:St):(eh s 4).2<4294967296:=Hv _ (uw s 4)
theorem Ab (n:Nat):∀(l:List UInt8) (i:Nat),fj n l=fj n (l.take (n*8)):=by
  induction n with
  |zero=>intro l i;rfl
  |succ n ih=>
    intro l i
    simp only[fj]
    rw[ZF,Yl (by omega),ih (l.drop 8) i,ih ((l.take ((n+1)*8)).drop 8) i]
    congr 2
    rw[abb,ZF]
    congr 1
    omega
theorem sd (i:Nat):∀l:List UInt8,fj (i+1) l=fj i l++[Dz (le ((l.drop (i*8)).take 8))]:=by
  induction i with
  |zero=>intro l;simp[fj]
  |succ i ih=>
    intro l
    rw[fj,ih (l.drop 8),fj,XR,Yc,show 8+i*8=(i+1)*8 from by omega]
theorem oq (n:Nat):∀l,(fj n l).length=n:=by
  induction n with
  |zero=>intro l;rfl
  |succ n ih=>intro l;simp[fj,ih]
theorem Ac (l:List Int) (h:∀x∈l,-9223372036854775808≤x∧x≤9223372036854775807):fj l.length (l.flatMap fun x=>put (nk x) 8)=l:=by
  induction l with
  |nil=>rfl
  |cons x r ih=>
    simp only[U6,fj,WO]
    have hl:(put (nk x) 8).length=8:=bR _ _
    rw[Zi hl,Zj hl,ih (fun y hy=>h y (VX _ hy)),Eg]
    have hx:=h x (V2 ..)
    rw[show(256:Nat)^8=18446744073709551616 from by decide,Yd (zz x),G4 x hx.1 hx.2]
theorem JG:(256:Nat)^4=4294967296:=by decide
theorem D7 (n k:Nat) (y:List UInt8):eh (put n k++y,0) k=((y,0),n%256^k):=by
  unfold eh
  rw[iw rfl (by simp[bR])]
  simp only[Zj (bR n k),Zi (bR n k),Eg]
theorem D8 {s:St} (k:Nat) (h:s.2≠0):eh s k=(s,0):=by unfold eh;rw[uy k h];rfl
theorem z1 {s:St} {k:Nat} (h:s.2=0) (h2:s.1.length<k):eh s k=(([],10),0):=by unfold eh;rw[lK h h2];rfl
theorem xL (K8 size:Nat) (body y:List UInt8) (most:Int) (h1:body.length=K8*size) (h2:(K8:Int)≤most) (h3:K8<4294967296):jE (put K8 4++(body++y),0) most size=((y,0),body):=by
  unfold jE
  rw[D7,if_neg (by simp),if_neg (by rw[JG,Yd h3];omega),iw rfl (by rw[JG,Yd h3];simp[h1])]
  rw[JG,Yd h3]
  simp only[Zj h1,Zi h1]
def Lh (l:List Int):Prop:=∀x∈l,-9223372036854775808≤x∧x≤9223372036854775807
theorem uV (l:List Int) (y:List UInt8) (most:Int) (hl:Lh l) (h2:(l.length:Int)≤most) (h3:l.length<4294967296):bO (aK l++y,0) most=((y,0),l):=by
  unfold bO aK
  rw[VF,xL l.length 8 _ y most (by rw[iG];omega) h2 h3,iG]
  have:8*l.length/8=l.length:=by omega
  simp only[this,Ac l hl]
theorem BP (s y:List UInt8) (most:Int) (h2:(s.length:Int)≤most) (h3:s.length<4294967296):cp (fL s++y,0) most=((y,0),s):=by
  unfold cp fL
  rw[VF,xL s.length 1 s y most (by omega) h2 h3]
theorem Hn (s:St) (k:Nat):(eh s k).1.1.length≤s.1.length:=(fb s k).1
end Go.cP
namespace Go.cP
open Go.Rl
abbrev vi (x:Int):Value:=.int .i64 x
theorem D2 (i:Nat):(2:Int)^(8*i)=((256^i:Nat):Int):=by
  rw[Int.pow_mul];norm_cast
theorem wrap_u64 (x:Int):V8.wrap x=(nk x:Int):=by
  simp only[Ws,V3,V6,Wl,VS,if_false,nk]
  omega
theorem eu (n:Nat) (h:n<18446744073709551616):V8.wrap (n:Int)=(n:Int):=by rw[wrap_u64,G3 n h]
theorem oR (n:Nat) (h:n<18446744073709551616):Xb.wrap (n:Int)=Dz n:=by
  simp only[Ws,V3,V6,ZU,Dz]
  split<;>split<;>simp_all<;>omega
theorem xp (n:Nat):XU.wrap (n:Int)=((Wp n).toNat:Int):=by
  have h:=YE (n:=n)
  rw[h]
  simp only[Ws,V3,V6,Wl,VS,if_false]
  omega
theorem DM (n i:Nat) (hi:i≤8):((n:Int)).fdiv (2^(min (8*(i:Int)).toNat V8.bits))=((n/256^i:Nat):Int):=by
  have h:min (8*(i:Int)).toNat V8.bits=8*i:=by simp[V3];omega
  rw[h,D2,W7 _ (W4 _)]
  norm_cast
theorem DN (c:UInt8) (i:Nat) (hi:i<8):V8.wrap (((c.toNat:Int))*2^(min (8*(i:Int)).toNat V8.bits))=((c.toNat*256^i:Nat):Int):=by
  have h:min (8*(i:Int)).toNat V8.bits=8*i:=by simp[V3];omega
  rw[h,D2]
  have hc:=c.toNat_lt
  have:c.toNat*256^i<18446744073709551616:=by
    have h1:256^i≤256^7:=Xu (by decide) (by omega)
    have h2:c.toNat*256^i≤255*256^7:=Yz (by omega) h1
    have h3:255*(256:Nat)^7<18446744073709551616:=by decide
    omega
  rw[show((c.toNat:Int))*((256^i:Nat):Int)=((c.toNat*256^i:Nat):Int)from by norm_cast,eu _ this]
theorem Hj (a c i:Nat) (ha:a<256^i) (hc:c<256) (hi:i<8):arith .or .u64 (a:Int) ((c*256^i:Nat):Int)=((a+c*256^i:Nat):Int):=by
  simp only[arith]
  rw[show V8.bits=64 from rfl]
  have h7:256^i≤256^7:=Xu (by decide) (by omega)
  have h8:(256:Nat)^7=72057594037927936:=by decide
  have hb:c*256^i≤255*256^7:=Yz (by omega) h7
  have h1:(Wr 64 (a:Int) |||Wr 64 ((c*256^i:Nat):Int)).toNat=a+c*256^i:=by
    rw[BitVec.toNat_or]
    have e:∀x:Nat,x<18446744073709551616→(Wr 64 (x:Int)).toNat=x:=fun x hx=>by simp;omega
    rw[e a (by omega),e _ (by omega)]
    have hp:(256:Nat)^i=2^(8*i):=by rw[Nat.pow_mul]
    rw[hp]at ha ⊢
    rw[Nat.or_comm,Nat.mul_comm c,←Nat.two_pow_add_eq_or_of_lt ha,Nat.add_comm]
  rw[h1,eu _ (by omega)]
def gO (n K i:Nat):List UInt8:=(V0 K).map fun j=>if j<i then Wp (n/256^j)else 0
theorem jl (n K i:Nat):(gO n K i).length=K:=by simp[gO]
theorem vO (n K:Nat):gO n K 0=Vm K 0:=by
  unfold gO
  simp only[Zh,if_false]
  rw[List.map_const',X1]
theorem vQ (n K:Nat):gO n K K=put n K:=by
  unfold gO put
  apply WZ
  intro j hj
  rw[if_pos (by simpa using hj)]
theorem vP (n K i:Nat):gO n K (i+1)=(gO n K i).set i (Wp (n/256^i)):=by
  apply Xv
  · simp[gO]
  · intro j h1 h2
    rw[aa0]
    simp only[gO,Ye,XJ]
    by_cases nz:i=j
    · subst nz;simp
    · rw [if_neg nz]
      by_cases bW:j<i
      · rw[if_pos bW,if_pos (by omega)]
      · rw[if_neg bW,if_neg (by omega)]
def Rd (T:TypeId) (w:World) (lo hi g:Nat) (s:St):Prop:=lo≤g∧g<hi∧∃v,fV w g [v,.int .i64 s.2] T∧Sl vb w v s.1∧∀k,v.ownBlock=some k→lo≤k∧k<hi∧k≠g
theorem Rd.mod {T:TypeId} {M:Nat→Prop} {w w':World} {lo hi g:Nat} {s:St} (h:Rd T w lo hi g s) (hm:Mod M w w') (hM:∀k,lo≤k→k<hi→¬M k):Rd T w' lo hi g s:=by
  obtain⟨hb,hc,v,h1,h2,h3⟩:=h
  exact⟨hb,hc,v,h1.mod hm (hM g hb hc),h2.mod hm (fun k hk=>hM k (h3 k hk).1 (h3 k hk).2.1),h3⟩
theorem Rd.ext {T:TypeId} {w w':World} {lo hi g:Nat} {s:St} (h:Rd T w lo hi g s) (hm:Ext w w'):Rd T w' lo hi g s:=h.mod hm (fun _ _ _ e=>e)
theorem Rd.lt {T:TypeId} {w:World} {lo hi g:Nat} {s:St} (h:Rd T w lo hi g s):lo≤g∧g<hi∧g<w.heap.size:=by
  obtain⟨hb,hc,v,h1,_⟩:=h
  exact⟨hb,hc,h1.lt⟩
theorem Jt (n:Nat):Wp (n%256)=Wp n:=by
  apply UInt8.toNat.inj
  simp
theorem JC (n:Nat):((n:Int)).tmod 256=((n%256:Nat):Int):=by
  rw[Xy (W4 _)];omega
theorem JF (n i:Nat) (h:n/256^i<18446744073709551616):V8.wrap (((n/256^i:Nat):Int).tdiv 256)=((n/256^(i+1):Nat):Int):=by
  rw[WR (W4 _),Nat.pow_succ,←Zo]
  generalize n/256^i=m at*
  rw[show((m:Int))/256=((m/256:Nat):Int)from by omega,eu _ (by omega)]
theorem vS (E:TypeId) (w:World) (base:Nat):dy vi E w base (.slice none 0 0) (fj (([]:List UInt8).length/8) []):=dy.nil _ _ _ _
end Go.cP
