/- The law ImageOdd: texts that its row leans on (1). -/
import Derived.Test.YtngkdkbpgoddlaaGreatChecked
import GoSem.Claim
import GoSem.ClaimJoined
import GoSem.ClaimMapViews
import Derived.JoinedTies
import Derived.KernelRfl
import Derived.WalkKit
import Derived.Orders
import Derived.OrdersHeld
import Derived.Deep.LoopGhost
import Derived.Below
import Derived.Deep.Draws
import Derived.Maps.AppendAt
import Derived.Laws.Slices
import Derived.Laws.Rows
import Derived.Laws.BytesString
import Derived.Great.BuildSlice
import Derived.Laws.CopyRow
import Derived.SizedLaws
import Derived.ChangeSlices
import Derived.Carry
import Derived.Deep.OwnRows
import Derived.Lib.AppendStr
import Derived.Scope
import Derived.Deep.MidRow
import Derived.Laws.IdiomStrings
import Derived.Deep.Slices
import Derived.ChangeArms
import Derived.Deep.CondSized
import Derived.JoinedCond
import Derived.OpenShut
import Derived.MapKept
import Derived.Maps.RangeRun
import Derived.RangeFuncLeaves
import Derived.RangeFuncRecord
import Derived.TacticsIn
import Derived.OrdersIn
import Derived.Test.YtngkdkbpgoddlaaGreatRows
import Derived.Laws.Cover3
import Derived.Sort.Walk0
import Derived.DeepKeys
import Derived.Test.YtngkdkbpgoddlaaGreatProg
import Derived.ProofKit
import Derived.ShutString
import Derived.ChangeOld
set_option linter.unusedVariables false
set_option linter.unusedSimpArgs false
set_option linter.unusedSectionVars false
set_option maxHeartbeats 4000000
set_option maxRecDepth 100000
open Array renaming getElem?_eq_some_iff → ado, replicate → aes, getElem?_eq_getElem → aeM, getElem?_eq_none → aeU, getD_eq_getD_getElem? → afA, toList_map → af6, getElem?_append_right → agE, getElem?_append_left → agJ, size_append → agO, getElem?_replicate → agT, setIfInBounds_comm → agW, getElem?_modify → ahF, size_replicate → ahN, length_toList → ah4, range → aiJ
open BitVec renaming ofInt → ad5
open Bool renaming and_eq_true → adm, false_eq_true → adP, false_and → aeh, true_and → agK
open ByteArray renaming size → ahE
open ByteArray.toList renaming loop → agb
open Classical renaming choose_spec → agd, choose → aiZ
open Go.Act renaming put → ajb
open Go.Addr renaming add → agU
open Go.Builtin renaming append_ → agf, firstCells → ah6, lenOf → ajk, len_ → aju, min_ → ajv, min2 → ajw
open Go.Calls renaming mono → ahM
open Go.CallsIn renaming mono → agX
open Go.DataW renaming trod → aey, weightsEach → aeB, trod_struct → afV, Trod → ahP, weights → ah1, weightsAll → ai1, trod_int → ajg
open Go.Deep renaming open_slice → ai4, add_add → ajx
open Go.Deferred renaming ofValue → aea
open Go.Exit renaming inBlock → ajs
open Go.Instr renaming sureAddr → aen, fill → ae3, sliceBounds → afr, sliceBound → afB, checkKey → afR, sliceAt → af5, loadAt → age, sameBits → agz, slice → agA, indexAt → ahY, storeAt → ahZ, mapUpdate → ai5, makeFunc → ajf, fieldAt → ajl, findKey → ajm, endLoop → ajo, lookup → ajy, build → akr, yield → aks
open Go.IntKind renaming i64 → adC, bits → adR, signed → adS, u64 → aeb, wrap → aeg, min → akp, max → akq
open Go.Lit renaming int → aje
open Go.MapKept renaming run_getObj_map → afZ
open Go.Op renaming equalIn → ahO, unary → ajt
open Go.Oper renaming uponIn → afo, upon → ah5, wp → aiB, semAt_eq → ajn
open Go.Proofs.YtngkdkbpgoddlaaGreat.Rows renaming uptoBulk → afk, uptoBulkAll → afC
open Go.Region renaming ready → adu, wanted → adJ, noSelect → aeD, binds → aft, free → afG, noSelect_spec → ahR, free_spec → ai0
open Go.Result renaming andThen_ok → adI
open Go.RoundIn renaming mono → ah8
open Go.RowsIn renaming mono → aiK
open Go.Sem renaming run_bind → ady, run_pure → ael, run → ajd
open Go.TypeDesc renaming isRow → ahG
open Go.Value renaming int → acZ, ownBlock → afQ, oneCell' → agx
open Go.World renaming cell?_of_block → aeP, ownsRow → aeY, alloc_heap_new → ahQ, freeze → ah7, ownsRow_nil → aiC, cells?_some → aiD, putObj → ajz
open Go.World.ownsRow renaming cells → agu, lt → aiX
open Int renaming toNat_natCast → aee
open List renaming length_append → acw, mem_of_getElem? → acy, getElem?_eq_some_iff → acA, getElem?_eq_getElem → acE, length_cons → acF, length_nil → acN, not_mem_nil → acV, take_of_length_le → acX, replicate → acY, mem_cons → ac1, length_map → ac4, length_take → ac5, getElem?_of_mem → ac9, map_cons → adb, mem_singleton → ade, mem_map → adf, length → adg, getElem?_set → adi, append_nil → adj, mem_append → adl, getElem?_append_right → adp, length_drop → adq, getElem?_append_left → ads, mem_cons_of_mem → adv, range → adz, getElem?_map → adE, eq_nil_of_length_eq_zero → adF, length_set → adG, mem_cons_self → adH, mem_range → adQ, map_toArray → adW, getElem?_eq_none → ad2, sum_cons → ad4, map_nil → ad6, getElem?_take → ad8, mem_append_left → ad9, map_map → aem, pairwise_append → aez, nil_append → aeE, mem_append_right → aeI, drop_eq_getElem_cons → aeL, drop_eq_nil_of_le → aeW, flatMap_cons → ae0, pairwise_iff_getElem → ae4, flatMap_append → afg, drop_drop → afs, getElem?_drop → afI, ext_getElem? → afU, length_range → afW, set_eq_take_append_cons_drop → afY, all_eq_true → af7, mem_flatMap → af8, mem_iff_getElem? → agc, map → agy, size_toArray → agP, getElem?_cons_zero → ahe, foldl_cons → ai3, map_take → ajj
open Nat renaming le_of_ble_eq_true → acv, le_trans → acR, le_refl → ac3, lt_of_le_of_lt → ac8, lt_or_ge → adh, zero_le → adO, lt_of_lt_of_le → ad7, eq_zero_or_pos → aeH, zero_add → aeQ, add_zero → afJ, mul_le_mul → afS, not_lt → agh, le_mul_of_pos_right → ahf, mul_one → ahn, add_assoc → ahX, mul_le_mul_left → ah3, lt_or_gt_of_ne → ah9
open Ne renaming symm → ajc
open Option renaming map_some → aet, isSome_iff_exists → agV, bind_some → aiY
open Option.some renaming inj → ac2, injEq → aeo
open Prod.mk renaming injEq → ah0
open UInt8 renaming ofNat → aeV
namespace Go
theorem Q4 {a b:Nat} (h:Nat.ble a b=true:=by exact rfl):a≤b:=acv h
end Go
namespace Go.Rl
def dw (R:Nat→Value) (d:Nat) (v:Value):Nat→Value:=fun t=>bif Nat.beq t d then v else R t
def fu (R : Nat → Value) : Option Tmp → Value → Nat → Value
  |some d,v=>dw R d v
  |none,_=>R
def ev (R : Nat → Value) : Operand → Value
  |.tmp t=>R t
  |.const v=>v
  |.global g=>.pointer (some ⟨g,0,none⟩)
  |.func f=>.func (.func f) #[] #[]
theorem ni (R:Nat→Value) (d:Nat) (v:Value) (t:Nat):dw R d v t=if t=d then v else R t:=by
  unfold dw;by_cases h:t=d
  · subst h;simp
  · have:Nat.beq t d=false:=by
      cases hb:Nat.beq t d
      · rfl
      · exact absurd (Nat.eq_of_beq_eq_true hb) h
    simp[this,h]
theorem bm {R:Nat→Value} {d:Nat} {v:Value} (h:R d=v):dw R d v=R:=by
  funext t;rw[ni];split
  · subst t;exact h.symm
  · rfl
structure AtR (n:Nat) (R:Nat→Value) (a:Act):Prop where
  size:a.tmps.size=n
  lC:∀t,a.tmps.getD t undef=R t
  defs:a.defers=[]
theorem AtR.eval {n:Nat} {R:Nat→Value} {a:Act} (h:AtR n R a):a.eval=ev R:=by
  funext x;cases x<;>simp only[Act.eval,ev];exact h.lC _
def eR (n : Nat) : Option Tmp → Bool
  |some d=>decide (d<n)
  |none=>true
theorem AtR.put {n:Nat} {R:Nat→Value} {a:Act} (h:AtR n R a) {dst:Option Tmp} (hd:eR n dst=true) (v:Value):AtR n (fu R dst v) (a.put dst v):=by
  cases dst with
  |none=>exact h
  |some d=>
    have hd':d<n:=by simpa[eR]using hd
    refine⟨by simp[ajb,h.size],fun t=>?_,by simp[ajb,h.defs]⟩
    by_cases ht:t=d
    · subst ht
      simp[ajb,fu,ni,h.size,hd']
    · have := h.lC t
      simp only[ajb,fu,ni,if_neg ht]
      rw[←this]
      simp[Array.getElem?_setIfInBounds_ne (ajc ht)]
abbrev fQ:=Exit→(Nat→Value)→World→Prop
def fQ.up (n:Nat) (Q:fQ):Exit→Act→World→Prop:=fun e a w=>∃R,AtR n R a∧Q e R w
def RW (P:Program) (n:Nat) (c:Code) (Q:fQ) (R:Nat→Value) (w:World):Prop:=∀a,AtR n R a→c.wp P (Q.up n) a w
def RL (P:Program) (n:Nat) (ops:Array Oper) (Q:fQ) (l:List Oper) (R:Nat→Value) (w:World):Prop:=
  ∀a,AtR n R a→wpList P ops (Q.up n) l a w
def eL (P:Program) (o:Oper) (R:Nat→Value) (w:World) (K:Value→World→Prop):Prop:=
  ∀n a,AtR n R a→o.wp P a w (fun a' w'=>∃v,a'=a.put o.dst v∧K v w') (fun _ _ _=>False)
section
variable {P:Program} {n:Nat} {Q:fQ} {R:Nat→Value} {w:World}
def pd (K:(Nat→Value)→World→Prop) (Q:fQ):fQ:=fun e R w=>match e with
  |.normal=>K R w
  |e=>Q e R w
theorem RW.seq {x y:Code} (h:RW P n x (pd (RW P n y Q) Q) R w):RW P n (.seq x y) Q R w:=fun a ha=>by
  refine wp_seq (wp_mono (h a ha) ?_)
  rintro e a' w' ⟨R',hR,hQ⟩
  cases e with
  |normal=>exact hQ a' hR
  |_=>exact⟨R',hR,hQ⟩
theorem RW.skip (h:Q .normal R w):RW P n .skip Q R w:=fun _ ha=>wp_skip ⟨R,ha,h⟩
theorem RW.exit {id:Nat} (h:Q (.exit id) R w):RW P n (.exit id) Q R w:=fun _ ha=>wp_exit ⟨R,ha,h⟩
theorem RW.ret (h:Q .ret R w):RW P n .ret Q R w:=fun _ ha=>wp_ret ⟨R,ha,h⟩
theorem RW.cond {c:Operand} {x y:Code} (b:Bool) (hc:ev R c=.bool b) (ht:b=true→RW P n x Q R w) (hf:b=false→RW P n y Q R w):RW P n (.cond c x y) Q R w:=
  fun a ha=>wp_cond_split (t:=b) (by rw[ha.eval];exact hc) (fun e=>ht e a ha) (fun e=>hf e a ha)
theorem RW.Jx {c:Operand} {x y:Code} (hc:ev R c=.bool true) (ht:RW P n x Q R w):RW P n (.cond c x y) Q R w:=RW.cond true hc (fun _=>ht) (fun e=>by cases e)
theorem RW.bF {c:Operand} {x y:Code} (ht:RW P n x Q R w) (hc:ev R c=.bool true:=by exact rfl):RW P n (.cond c x y) Q R w:=RW.Jx hc ht
theorem RW.oq {c:Operand} {x y:Code} (hc:ev R c=.bool false) (ht:RW P n y Q R w):RW P n (.cond c x y) Q R w:=RW.cond false hc (fun e=>by cases e) (fun _=>ht)
theorem RW.cg {c:Operand} {x y:Code} (ht:RW P n y Q R w) (hc:ev R c=.bool false:=by exact rfl):RW P n (.cond c x y) Q R w:=RW.oq hc ht
def nM (id:Nat) (Q:fQ):fQ:=fun e R w=>match e with
  |.exit Hx=>if Hx=id then Q .normal R w else Q (.exit Hx) R w
  |e=>Q e R w
theorem RW.block {id:Nat} {c:Code} (h:RW P n c (nM id Q) R w):RW P n (.block id c) Q R w:=fun a ha=>by
  refine wp_block (wp_mono (h a ha) ?_)
  rintro e a' w' ⟨R',hR,hQ⟩
  cases e with
  |exit Hx=>
    simp only[ajs]
    simp only[nM]at hQ
    split
    · rename_i e;rw[if_pos e]at hQ;exact⟨R',hR,hQ⟩
    · rename_i e;rw[if_neg e]at hQ;exact⟨R',hR,hQ⟩
  |_=>exact⟨R',hR,hQ⟩
theorem RW.loop {c : Code} (I : Nat → (Nat → Value) → World → Prop) (k0 : Nat) (h0 : I k0 R w)
    (round:∀k R w,I k R w→RW P n c (pd (fun R' w'=>∃k',k'<k∧I k' R' w') Q) R w):RW P n (.loop c) Q R w:=fun a ha=>by
  refine wp_loop_ghost (fun k a w=>∃R,AtR n R a∧I k R w) k0 ⟨R,ha,h0⟩ ?_
  rintro k a' w' ⟨R',Wa,hI⟩
  refine wp_mono (round k R' w' hI a' Wa) ?_
  rintro e WG Bt ⟨QC,E9,hQ⟩
  cases e with
  |normal=>obtain⟨k',hk,Qu⟩:=hQ;exact⟨k',hk,QC,E9,Qu⟩
  |_=>exact⟨QC,E9,hQ⟩
theorem RW.region {id:Nat} {l:List Oper} (h:RL P n l.toArray Q l R w):RW P n (.region id l.toArray false) Q R w:=fun a ha=>wp_region_lit (h a ha)
theorem RL.nil {ops:Array Oper} (h:Q .normal R w):RL P n ops Q [] R w:=fun _ ha=>wpList_nil ⟨R,ha,h⟩
theorem eL.wp {o : Oper} {K : Value → World → Prop} {next : Act → World → Prop} {Q' : Exit → Act → World → Prop} {a : Act} (ha : AtR n R a) (hd : eR n o.dst = true) (h : eL P o R w K)
    (go:∀v w',K v w'→∀(_:AtR n (fu R o.dst v) (a.put o.dst v)),next (a.put o.dst v) w'):o.wp P a w next Q':=by
  have:=h n a ha
  unfold aiB at*
  generalize (execOp a.eval o).run P w=r at*
  have go':∀a' w',(∃v,a'=a.put o.dst v∧K v w')→next a' w':=by
    rintro a' w' ⟨v,rfl,hv⟩
    exact go v w' hv (ha.put hd v)
  cases r with
  |ok x w'=>
    cases x<;>simp only[ah5]at this ⊢<;>first
      |exact go' _ _ this
      |exact ahM this (fun e Bt he=>by cases e<;>first|exact go' _ _ he|exact he.elim|exact(by obtain⟨_,_,hx⟩:=he;exact hx.elim))
      |exact Rows.mono this (fun _ _ he=>go' _ _ he)
  |halt x w'=>cases x<;>simp only[ah5]at this ⊢
theorem RL.op {ops:Array Oper} {o:Oper} {rest:List Oper} (hg:o.guard=none) (hd:eR n o.dst=true) (h:eL P o R w (fun v w'=>RL P n ops Q rest (fu R o.dst v) w')):
    RL P n ops Q (o::rest) R w:=fun a ha=>wpList_plain hg fun K hK=>eL.wp ha hd h fun v w' hv uD=>hK _ _ (hv _ uD)
theorem RL.aK {ops:Array Oper} {o:Oper} {rest:List Oper} (h:eL P o R w (fun v w'=>RL P n ops Q rest (fu R o.dst v) w')) (hg:o.guard=none:=by exact rfl) (hd:eR n o.dst=true:=by exact rfl):RL P n ops Q (o::rest) R w:=RL.op hg hd h
theorem eL.value {o:Oper} {v:Value} {w':World} {K:Value→World→Prop} (h:(execOp (ev R) o).run P w=.ok (.value v) w') (hK:K v w'):eL P o R w K:=fun n a ha=>by
  unfold aiB;rw[ha.eval,h];exact⟨v,rfl,hK⟩
theorem eL.unit {o:Oper} {w':World} {K:Value→World→Prop} (h:(execOp (ev R) o).run P w=.ok .skip w') (hK:K undef w'):eL P o R w K:=fun n a ha=>by
  unfold aiB;rw[ha.eval,h];exact⟨undef,rfl,hK⟩
def aM (P:Program) (f:FuncId) (args:Array Value) (w:World) (K:Value→World→Prop):Prop:=
  Calls P f args w fun e w'=>∃v,e=.returned v∧K v w'
theorem aM.mono {f:FuncId} {args:Array Value} {K K':Value→World→Prop} (h:aM P f args w K) (hk:∀v w',K v w'→K' v w'):aM P f args w K':=
  ahM h fun _ _ ⟨v,he,hv⟩=>⟨v,he,hk _ _ hv⟩
theorem eL.enter {o:Oper} {f:FuncId} {args:Array Value} {w':World} {K:Value→World→Prop} (h:(execOp (ev R) o).run P w=.ok (.enter f args) w') (hK:aM P f args w' K):eL P o R w K:=fun n a ha=>by
  unfold aiB;rw[ha.eval,h]
  exact ahM hK fun e Bt ⟨v,he,hv⟩=>by subst he;exact⟨v,rfl,hv⟩
def Ev (P:Program) (o:Oper) (R:Nat→Value) (w:World) (v:Value):Prop:=(execOp (ev R) o).run P w=.ok (.value v) w
theorem eL.ev {o:Oper} {v:Value} {K:Value→World→Prop} (h:Ev P o R w v) (hK:K v w):eL P o R w K:=eL.value h hK
theorem RL.ev {ops:Array Oper} {o:Oper} {rest:List Oper} {v:Value} (hg:o.guard=none) (hd:eR n o.dst=true) (h:Ev P o R w v) (hn:RL P n ops Q rest (fu R o.dst v) w):
    RL P n ops Q (o::rest) R w:=RL.op hg hd (eL.ev h hn)
theorem RL.ag {ops:Array Oper} {o:Oper} {rest:List Oper} {v:Value} (h:Ev P o R w v) (hn:RL P n ops Q rest (fu R o.dst v) w) (hg:o.guard=none:=by exact rfl) (hd:eR n o.dst=true:=by exact rfl):RL P n ops Q (o::rest) R w:=RL.ev hg hd h hn
theorem aw {K:(Nat→Value)→World→Prop} (h:K R w):pd K Q .normal R w:=h
theorem bS {K:(Nat→Value)→World→Prop} {id:Nat} (h:Q (.exit id) R w):pd K Q (.exit id) R w:=h
theorem aT {K:(Nat→Value)→World→Prop} (h:Q .ret R w):pd K Q .ret R w:=h
theorem aY {id:Nat} (h:Q .normal R w):nM id Q .normal R w:=h
theorem aX {id:Nat} (h:Q .ret R w):nM id Q .ret R w:=h
theorem ba {id:Nat} (h:Q .normal R w):nM id Q (.exit id) R w:=by unfold nM;simp only[if_true];exact h
theorem eF {id Hx:Nat} (dY:Hx≠id) (h:Q (.exit Hx) R w):nM id Q (.exit Hx) R w:=by unfold nM;simp only[if_neg dY];exact h
theorem RW.lQ {c:Operand} {x y:Code} (p:Prop) [Decidable p] (hc:Rl.ev R c=.bool (decide p)) (ht:p→RW P n x Q R w) (hf:¬p→RW P n y Q R w):RW P n (.cond c x y) Q R w:=
  RW.cond (decide p) hc (fun e=>ht (of_decide_eq_true e)) (fun e=>hf (of_decide_eq_false e))
theorem RW.aG {c:Operand} {x y:Code} (p:Prop) [Decidable p] (ht:p→RW P n x Q R w) (hf:¬p→RW P n y Q R w) (hc:Rl.ev R c=.bool (decide p):=by exact rfl):RW P n (.cond c x y) Q R w:=RW.lQ p hc ht hf
theorem RW.mD {c:Operand} {x y:Code} (p:Prop) [Decidable p] (hc:Rl.ev R c=.bool (decide p)) (hp:p) (ht:RW P n x Q R w):RW P n (.cond c x y) Q R w:=
  RW.lQ p hc (fun _=>ht) (fun e=>absurd hp e)
theorem RW.yL {c:Operand} {x y:Code} (p:Prop) [Decidable p] (hc:Rl.ev R c=.bool (decide p)) (hp:¬p) (hf:RW P n y Q R w):RW P n (.cond c x y) Q R w:=
  RW.lQ p hc (fun e=>absurd e hp) (fun _=>hf)
def LM (Q:fQ):Prop:=∀c R w,¬Q (.panic c) R w
def RA (P:Program) (n:Nat) (ops:Array Oper) (Q:fQ) (S:World→Prop) (fuel:Nat) (bx:Array Bool) (R:Nat→Value) (w:World):Prop:=
  ∀a,AtR n R a→wpAnyH P .any ops (Q.up n) S fuel bx a w
theorem RW.draw {id : Nat} {ops : Array Oper} (hm : P.follows .mixedOrders = true) (S : World → Prop)
    (h:RA P n ops Q S ops.size (aes ops.size false) R w.drew):RW P n (.region id ops true) Q R w:=fun a ha=>wp_region_held hm (h a ha)
theorem RA.done {ops:Array Oper} {S:World→Prop} {fuel:Nat} {bx:Array Bool} (hr:adu .any ops bx=[]) (h:Q .normal R w):RA P n ops Q S fuel bx R w:=
  fun a ha=>wpAnyH_done hr ⟨R,ha,h⟩ fuel
theorem o8 {c:List PanicEntry} (hp:LM Q) (dst:Option Tmp) (v:Value) (a:Act) (w:World):Q.up n (.panic c) (a.put dst v) w→Q.up n (.panic c) a w:=fun⟨R,_,h⟩=>absurd h (hp c R w)
theorem RA.take {ops : Array Oper} {S : World → Prop} {fuel i : Nat} {o : Oper} {v : Value} {bx : Array Bool} (hi : ops[i]? = some o) (hg : o.guard = none) (hs : aeD ops = true)
    (hf:afG .any ops bx i=true) (hr:(adu .any ops bx).contains i=true) (hp:LM Q) (hd:eR n o.dst=true) (hS:S w) (h:∀w,S w→Ev P o R w v)
    (hn:RA P n ops Q S fuel (bx.setIfInBounds i true) (fu R o.dst v) w):RA P n ops Q S (fuel+1) bx R w:=fun a ha=>
  wpAnyH_take hi hs hf hr (fun c a w=>o8 hp _ _ a w) (.inl ⟨by simp[adJ,hg],fun w hw=>by rw[ha.eval];exact h w hw⟩) hS (hn _ (ha.put hd v))
theorem gw {ops:Array Oper} {a:Act} (ha:AtR n R a) {j d:Nat} {b:Bool} (hj:(ops[j]?).bind (·.dst)=some d) (mZ:d<n) (hb:R d=.bool b):yielded ops a.tmps j=some b:=by
  have h1:a.tmps[d]?=some (.bool b):=by
    have:=ha.lC d
    have hl:d<a.tmps.size:=by rw[ha.size];exact mZ
    simp[hl]at this
    simp[hl,this,hb]
  simp[yielded,hj,h1]
theorem RA.nj {ops : Array Oper} {S : World → Prop} {fuel i j d : Nat} {want : Bool} {o : Oper} {v : Value} {bx : Array Bool} (hi : ops[i]? = some o) (hg : o.guard = some (j, want))
    (hj:(ops[j]?).bind (·.dst)=some d) (mZ:d<n) (hb:R d=.bool want) (hs:aeD ops=true)
    (hf:afG .any ops bx i=true) (hr:(adu .any ops bx).contains i=true) (hp:LM Q) (hd:eR n o.dst=true) (hS:S w) (h:∀w,S w→Ev P o R w v)
    (hn:RA P n ops Q S fuel (bx.setIfInBounds i true) (fu R o.dst v) w):RA P n ops Q S (fuel+1) bx R w:=fun a ha=>
  wpAnyH_take hi hs hf hr (fun c a w=>o8 hp _ _ a w) (.inl ⟨by simp[adJ,hg,gw ha hj mZ hb],fun w hw=>by rw[ha.eval];exact h w hw⟩) hS (hn _ (ha.put hd v))
theorem RA.je {ops : Array Oper} {S : World → Prop} {fuel i j d : Nat} {want : Bool} {o : Oper} {bx : Array Bool} (hi : ops[i]? = some o) (hg : o.guard = some (j, want))
    (hj:(ops[j]?).bind (·.dst)=some d) (mZ:d<n) (hb:R d=.bool (!want)) (hs:aeD ops=true)
    (hf:afG .any ops bx i=true) (hr:(adu .any ops bx).contains i=true) (hp:LM Q) (hd:eR n o.dst=true) (hS:S w)
    (hn:RA P n ops Q S fuel (bx.setIfInBounds i true) (fu R o.dst undef) w):RA P n ops Q S (fuel+1) bx R w:=fun a ha=>
  wpAnyH_take hi hs hf hr (fun c a w=>o8 hp _ _ a w) (.inr ⟨by cases want<;>simp[adJ,hg,gw ha hj mZ hb],rfl⟩) hS (hn _ (ha.put hd undef))
theorem RA.B0 {ops : Array Oper} {S : World → Prop} {fuel i j d : Nat} {want : Bool} {o : Oper} {bx : Array Bool} (hr : adu .any ops bx = [i]) (hi : ops[i]? = some o) (hg : o.guard = some (j, want))
    (hj:(ops[j]?).bind (·.dst)=some d) (mZ:d<n) (hb:R d=.bool want) (hd:eR n o.dst=true)
    (h:eL P o R w (fun v w'=>S w'∧RA P n ops Q S fuel (bx.setIfInBounds i true) (fu R o.dst v) w')):RA P n ops Q S (fuel+1) bx R w:=fun a ha=>by
  refine wpAnyH_all hr (by simp) fun k hk=>?_
  have:k=i:=by simpa using hk
  subst this
  unfold wpOp
  simp only[hi,adJ,hg,gw ha hj mZ hb,beq_self_eq_true,if_true]
  refine .inl (eL.wp ha hd h fun v w' hv uD=>⟨hv.1,hv.2 _ uD⟩)
end
end Go.Rl
namespace Go.Rl
open Go.RowKit
section
variable {P:Program} {n:Nat} {Q:fQ} {R:Nat→Value} {w:World}
def RV (P:Program) (fn:Func) (n:Nat) (R:Nat→Value) (w:World) (v:Value):Prop:=∀a,AtR n R a→(results fn a.tmps).run P w=.ok v w
def Kv (P:Program) (fn:Func) (n:Nat) (K:Value→World→Prop):fQ:=fun e R w=>match e with
  |.normal|.ret=>∃v,RV P fn n R w v∧K v w
  |_=>False
theorem aM.start {f : FuncId} {fn : Func} {c : Code} {args : Array Value} {K : Value → World → Prop} (hf : P.funcs[f]? = some fn) (hb : fn.body = some c)
    (hs:args.size≤fn.ntmps) (h:RW P fn.ntmps c (Kv P fn fn.ntmps K) (fun t=>args.getD t undef) w):aM P f args w K:=by
  refine calls_of_wp hf hb ?_
  refine wp_mono (h _ ⟨by rw[agO,ahN];omega,fun t=>?_,rfl⟩) ?_
  · by_cases ht : t < args.size
    · simp[agJ ht]
    · have h0 : args[t]? = .none := aeU (by omega)
      simp only[afA,h0]
      rw[agE (by omega),agT]
      split<;>rfl
  · rintro e a w' ⟨R', hR, hQ⟩
    cases e with
    |normal=>obtain⟨v,hv,hk⟩:=hQ;exact⟨hR.defs,v,hv a hR,v,rfl,hk⟩
    |ret=>obtain⟨v,hv,hk⟩:=hQ;exact⟨hR.defs,v,hv a hR,v,rfl,hk⟩
    |exit=>exact hQ.elim
    |goto=>exact hQ.elim
    |panic=>exact hQ.elim
    |outgrown=>exact hQ.elim
theorem aM.aZ {f:FuncId} {fn:Func} {c:Code} {args:Array Value} {K:Value→World→Prop} (hf:P.funcs[f]?=some fn) (h:RW P fn.ntmps c (Kv P fn fn.ntmps K) (fun t=>args.getD t undef) w) (hb:fn.body=some c:=by exact rfl) (hs:args.size≤fn.ntmps:=by exact Q4):aM P f args w K:=aM.start hf hb hs h
def r0:Nat→Value:=fun _=>undef
theorem Na:(fun t=>(#[]:Array Value).getD t undef)=r0:=by funext t;rfl
theorem cM (a:Value):(fun t=>#[a].getD t undef)=dw r0 0 a:=by
  funext t;rw[ni];match t with
  |0=>rfl
  |t+1=>rfl
theorem cT (a b:Value):(fun t=>#[a,b].getD t undef)=dw (dw r0 0 a) 1 b:=by
  funext t;simp only[ni];match t with
  |0=>rfl
  |1=>rfl
  |t+2=>rfl
theorem iX (a b c:Value):(fun t=>#[a,b,c].getD t undef)=dw (dw (dw r0 0 a) 1 b) 2 c:=by
  funext t;simp only[ni];match t with
  |0=>rfl
  |1=>rfl
  |2=>rfl
  |t+3=>rfl
theorem kX (a b c d:Value):(fun t=>#[a,b,c,d].getD t undef)=dw (dw (dw (dw r0 0 a) 1 b) 2 c) 3 d:=by
  funext t;simp only[ni];match t with
  |0=>rfl
  |1=>rfl
  |2=>rfl
  |3=>rfl
  |t+4=>rfl
theorem M9 (a b c d e:Value):(fun t=>#[a,b,c,d,e].getD t undef)=dw (dw (dw (dw (dw r0 0 a) 1 b) 2 c) 3 d) 4 e:=by
  funext t;simp only[ni];match t with
  |0=>rfl
  |1=>rfl
  |2=>rfl
  |3=>rfl
  |4=>rfl
  |t+5=>rfl
theorem RV.zero {fn:Func} (h:fn.results=#[]):RV P fn n R w (.tuple #[]):=fun a _=>results_none h _ _ _
theorem RV.tmp {fn:Func} {t:Tmp} (h:fn.results=#[.tmp t]):RV P fn n R w (R t):=fun a ha=>by rw[results_tmp h,ha.lC]
theorem RV.ju {fn:Func} {t u:Tmp} (h:fn.results=#[.tmp t,.tmp u]):RV P fn n R w (.tuple #[R t,R u]):=fun a ha=>by rw[results_tmp2 h,ha.lC,ha.lC]
theorem RV.Kh {fn:Func} {t u v:Tmp} (h:fn.results=#[.tmp t,.tmp u,.tmp v]):RV P fn n R w (.tuple #[R t,R u,R v]):=fun a ha=>by
  have:=ha.lC t;have:=ha.lC u;have:=ha.lC v
  simp_all [results]
theorem RV.cell {fn : Func} {p : Tmp} {ty : TypeId} (h : fn.results = #[.cell p ty]) {g : Nat} {t : TypeId} {cs : Array Value} {fr : Nat × Nat} {d : TypeDesc}
    (hp:R p=.pointer (some ⟨g,0,none⟩)) (hg:w.heap[g]?=some (.cells cs t fr)) (hu:P.underlying ty=some d)
    (hd:(match d with|.struct _|.array _ _=>true|_=>false)=true) (hi:(P.info? ty).map (·.size)=some cs.size):RV P fn n R w (.agg cs):=
  fun a ha=>results_cell_row h a.tmps w g t cs fr d (by rw[ha.lC];exact hp) hg hu hd hi
theorem bb {fn:Func} {K:Value→World→Prop} {v:Value} (h:RV P fn n R w v) (hk:K v w):Kv P fn n K .ret R w:=⟨v,h,hk⟩
theorem QV {fn:Func} {K:Value→World→Prop} {v:Value} (h:RV P fn n R w v) (hk:K v w):Kv P fn n K .normal R w:=⟨v,h,hk⟩
theorem RL.on {ops : Array Oper} {o : Oper} {rest : List Oper} {j : Nat} {want : Bool} {d : Nat} (hg : o.guard = some (j, want)) (hj : (ops[j]?).bind (·.dst) = some d) (mZ : d < n)
    (hb:R d=.bool want) (hd:eR n o.dst=true) (h:eL P o R w (fun v w'=>RL P n ops Q rest (fu R o.dst v) w')):
    RL P n ops Q (o::rest) R w:=fun a ha=>by
  refine wpList_step fun K hK=>?_
  rw[if_pos (by simp[adJ,hg,gw ha hj mZ hb])]
  exact eL.wp ha hd h fun v w' hv uD=>hK _ _ (hv _ uD)
theorem RL.ed {ops:Array Oper} {o:Oper} {rest:List Oper} {j:Nat} {want:Bool} {d:Nat} (h:eL P o R w (fun v w'=>RL P n ops Q rest (fu R o.dst v) w')) (hg:o.guard=some (j,want):=by exact rfl) (hj:(ops[j]?).bind (·.dst)=some d:=by exact rfl) (mZ:d<n:=by decide) (hb:R d=.bool want:=by exact rfl) (hd:eR n o.dst=true:=by exact rfl):RL P n ops Q (o::rest) R w:=RL.on hg hj mZ hb hd h
theorem RL.NW {ops : Array Oper} {o : Oper} {rest : List Oper} {j : Nat} {want : Bool} {d : Nat} {v : Value} (hg : o.guard = some (j, want)) (hj : (ops[j]?).bind (·.dst) = some d) (mZ : d < n)
    (hb:R d=.bool want) (hd:eR n o.dst=true) (h:Ev P o R w v) (hn:RL P n ops Q rest (fu R o.dst v) w):RL P n ops Q (o::rest) R w:=
  RL.on hg hj mZ hb hd (eL.ev h hn)
theorem RL.an {ops:Array Oper} {o:Oper} {rest:List Oper} {j:Nat} {want:Bool} {d:Nat} {v:Value} (h:Ev P o R w v) (hn:RL P n ops Q rest (fu R o.dst v) w) (hg:o.guard=some (j,want):=by exact rfl) (hj:(ops[j]?).bind (·.dst)=some d:=by exact rfl) (mZ:d<n:=by decide) (hb:R d=.bool want:=by exact rfl) (hd:eR n o.dst=true:=by exact rfl):RL P n ops Q (o::rest) R w:=RL.NW hg hj mZ hb hd h hn
theorem RL.off {ops : Array Oper} {o : Oper} {rest : List Oper} {j : Nat} {want : Bool} {d : Nat} (hg : o.guard = some (j, want)) (hj : (ops[j]?).bind (·.dst) = some d) (mZ : d < n)
    (hb:R d=.bool (!want)) (hd:eR n o.dst=true) (h:RL P n ops Q rest (fu R o.dst undef) w):
    RL P n ops Q (o::rest) R w:=fun a ha=>by
  refine wpList_step fun K hK=>?_
  rw[if_neg (by cases want<;>simp[adJ,hg,gw ha hj mZ hb])]
  exact hK _ _ (h _ (ha.put hd undef))
theorem RL.bH {ops:Array Oper} {o:Oper} {rest:List Oper} {j:Nat} {want:Bool} {d:Nat} (h:RL P n ops Q rest (fu R o.dst undef) w) (hg:o.guard=some (j,want):=by exact rfl) (hj:(ops[j]?).bind (·.dst)=some d:=by exact rfl) (mZ:d<n:=by decide) (hb:R d=.bool (!want):=by exact rfl) (hd:eR n o.dst=true:=by exact rfl):RL P n ops Q (o::rest) R w:=RL.off hg hj mZ hb hd h
section
variable {K:Value→World→Prop} {dst:Option Tmp} {ty:TypeId} {pos:String} {af:Array Edge} {gd:Option (Nat×Bool)}
theorem U {x:Operand}:Ev P ⟨dst,.move x,ty,pos,af,gd⟩ R w (ev R x):=by simp[Ev,execOp]
theorem ai {x:Operand}:Ev P ⟨dst,.assign x,ty,pos,af,gd⟩ R w (ev R x):=by simp[Ev,execOp]
theorem AV {c a b:Operand} (hc:ev R c=.bool true):Ev P ⟨dst,.pick c a b,ty,pos,af,gd⟩ R w (ev R a):=by simp[Ev,execOp,hc,asBool]
theorem al {c a b:Operand} (hc:ev R c=.bool true:=by exact rfl):Ev P ⟨dst,.pick c a b,ty,pos,af,gd⟩ R w (ev R a):=AV hc
theorem AW {c a b:Operand} (hc:ev R c=.bool false):Ev P ⟨dst,.pick c a b,ty,pos,af,gd⟩ R w (ev R b):=by simp[Ev,execOp,hc,asBool]
theorem aB {c a b:Operand} (hc:ev R c=.bool false:=by exact rfl):Ev P ⟨dst,.pick c a b,ty,pos,af,gd⟩ R w (ev R b):=AW hc
theorem CO {t:Operand} {vs:Array Value} {i:Nat} {v:Value} (ht:ev R t=.tuple vs) (hi:vs[i]?=some v):Ev P ⟨dst,.extract t i,ty,pos,af,gd⟩ R w v:=by
  simp[Ev,execOp,ht,Instr.extract,hi]
theorem bA {t:Operand} {vs:Array Value} {i:Nat} {v:Value} (ht:ev R t=.tuple vs:=by exact rfl) (hi:vs[i]?=some v:=by exact rfl):Ev P ⟨dst,.extract t i,ty,pos,af,gd⟩ R w v:=CO ht hi
theorem dm {o:Oper} {p:Prop} [Decidable p] (h:Ev P o R w (.bool (decide p))) (hp:p):Ev P o R w (.bool true):=by rw[decide_eq_true hp]at h;exact h
theorem cI {o:Oper} {p:Prop} [Decidable p] (h:Ev P o R w (.bool (decide p))) (hp:¬p):Ev P o R w (.bool false):=by rw[decide_eq_false hp]at h;exact h
def arith:BinOp→IntKind→Int→Int→Int
  |.add,k,a,b=>k.wrap (a+b)
  |.sub,k,a,b=>k.wrap (a-b)
  |.mul,k,a,b=>k.wrap (a*b)
  |.and,k,a,b=>k.wrap ((ad5 k.bits a &&& ad5 k.bits b).toNat:Int)
  |.or,k,a,b=>k.wrap ((ad5 k.bits a |||ad5 k.bits b).toNat:Int)
  |.xor,k,a,b=>k.wrap ((ad5 k.bits a^^^ad5 k.bits b).toNat:Int)
  |_,_,_,_=>0
def DN:BinOp→Bool
  |.add|.sub|.mul|.and|.or|.xor=>true
  |_=>false
def compare:BinOp→Int→Int→Bool
  |.eql,a,b=>decide (a=b)
  |.neq,a,b=> !decide (a=b)
  |.lss,a,b=>decide (a<b)
  |.leq,a,b=>decide (a≤b)
  |.gtr,a,b=>decide (b<a)
  |.geq,a,b=>decide (b≤a)
  |_,_,_=>false
def xy:BinOp→Bool
  |.eql|.neq|.lss|.leq|.gtr|.geq=>true
  |_=>false
theorem Eg {op:BinOp} (Oi:DN op=true) (xt:TypeId) (k:IntKind) (a b:Int) (x y:Operand):
    (do eqGuard op xt x y (.int k a) (.int k b);binOp op xt (.int k a) (.int k b)).run P w=.ok (.int k (arith op k a b)) w:=by
  cases op<;>first|(exact absurd Oi (by decide))|simp[eqGuard,binOp,Op.intArith,Op.intBits,arith]
theorem zv {op:BinOp} (Oi:xy op=true) (xt:TypeId) (k:IntKind) (a b:Int) (x y:Operand):
    (do eqGuard op xt x y (.int k a) (.int k b);binOp op xt (.int k a) (.int k b)).run P w=.ok (.bool (compare op a b)) w:=by
  cases op<;>first
    |(exact absurd Oi (by decide))
    |(simp[eqGuard,binOp,Op.intCmp,compare];done)
    | (simp only [eqGuard, binOp, Op.intCmp, compare]
       simp
       by_cases h:a=b<;>simp[h])
theorem aD {op:BinOp} {xt yt:TypeId} {x y:Operand} {k:IntKind} {a b r:Int} (Oi:DN op=true) (hx:ev R x=.int k a) (hy:ev R y=.int k b) (hr:arith op k a b=r):
    Ev P ⟨dst,.binOp op xt x y yt,ty,pos,af,gd⟩ R w (.int k r):=by
  unfold Ev
  simp only[execOp,hx,hy]
  rw[ady,Eg Oi,hr];rfl
theorem qK {op:BinOp} {xt yt:TypeId} {x y:Operand} {k:IntKind} {a b:Int} {r:Bool} (Oi:xy op=true) (hx:ev R x=.int k a) (hy:ev R y=.int k b) (hr:compare op a b=r):
    Ev P ⟨dst,.binOp op xt x y yt,ty,pos,af,gd⟩ R w (.bool r):=by
  unfold Ev
  simp only[execOp,hx,hy]
  rw[ady,zv Oi,hr];rfl
theorem PF {xt yt:TypeId} {x y:Operand} {k:IntKind} {a b:Int} (hx:ev R x=.int k a) (hy:ev R y=.int k b):Ev P ⟨dst,.binOp .eql xt x y yt,ty,pos,af,gd⟩ R w (.bool (decide (a=b))):=qK rfl hx hy rfl
theorem bZ {xt yt:TypeId} {x y:Operand} {k:IntKind} {a b:Int} (hx:ev R x=.int k a:=by exact rfl) (hy:ev R y=.int k b:=by exact rfl):Ev P ⟨dst,.binOp .eql xt x y yt,ty,pos,af,gd⟩ R w (.bool (decide (a=b))):=PF hx hy
theorem PA {xt yt:TypeId} {x y:Operand} {k:IntKind} {a b:Int} (hx:ev R x=.int k a) (hy:ev R y=.int k b):Ev P ⟨dst,.binOp .neq xt x y yt,ty,pos,af,gd⟩ R w (.bool (decide (¬a=b))):=
  qK rfl hx hy (by simp[compare])
theorem bj {xt yt:TypeId} {x y:Operand} {k:IntKind} {a b:Int} (hx:ev R x=.int k a:=by exact rfl) (hy:ev R y=.int k b:=by exact rfl):Ev P ⟨dst,.binOp .neq xt x y yt,ty,pos,af,gd⟩ R w (.bool (decide (¬a=b))):=PA hx hy
theorem PC {xt yt:TypeId} {x y:Operand} {k:IntKind} {a b:Int} (hx:ev R x=.int k a) (hy:ev R y=.int k b):Ev P ⟨dst,.binOp .lss xt x y yt,ty,pos,af,gd⟩ R w (.bool (decide (a<b))):=qK rfl hx hy rfl
theorem aL {xt yt:TypeId} {x y:Operand} {k:IntKind} {a b:Int} (hx:ev R x=.int k a:=by exact rfl) (hy:ev R y=.int k b:=by exact rfl):Ev P ⟨dst,.binOp .lss xt x y yt,ty,pos,af,gd⟩ R w (.bool (decide (a<b))):=PC hx hy
theorem mw {xt yt:TypeId} {x y:Operand} {k:IntKind} {a b:Int} (hx:ev R x=.int k a) (hy:ev R y=.int k b):Ev P ⟨dst,.binOp .leq xt x y yt,ty,pos,af,gd⟩ R w (.bool (decide (a≤b))):=qK rfl hx hy rfl
theorem PD {xt yt:TypeId} {x y:Operand} {k:IntKind} {a b:Int} (hx:ev R x=.int k a) (hy:ev R y=.int k b):Ev P ⟨dst,.binOp .gtr xt x y yt,ty,pos,af,gd⟩ R w (.bool (decide (b<a))):=qK rfl hx hy rfl
theorem cr {xt yt:TypeId} {x y:Operand} {k:IntKind} {a b:Int} (hx:ev R x=.int k a:=by exact rfl) (hy:ev R y=.int k b:=by exact rfl):Ev P ⟨dst,.binOp .gtr xt x y yt,ty,pos,af,gd⟩ R w (.bool (decide (b<a))):=PD hx hy
theorem PE {xt yt:TypeId} {x y:Operand} {k:IntKind} {a b:Int} (hx:ev R x=.int k a) (hy:ev R y=.int k b):Ev P ⟨dst,.binOp .geq xt x y yt,ty,pos,af,gd⟩ R w (.bool (decide (b≤a))):=qK rfl hx hy rfl
theorem cm {xt yt:TypeId} {x y:Operand} {k:IntKind} {a b:Int} (hx:ev R x=.int k a:=by exact rfl) (hy:ev R y=.int k b:=by exact rfl):Ev P ⟨dst,.binOp .geq xt x y yt,ty,pos,af,gd⟩ R w (.bool (decide (b≤a))):=PE hx hy
theorem CM {xt yt:TypeId} {x y:Operand} {k:IntKind} {a b r:Int} (hx:ev R x=.int k a) (hy:ev R y=.int k b) (h0:b≠0) (hr:a.tmod b=r):
    Ev P ⟨dst,.binOp .rem xt x y yt,ty,pos,af,gd⟩ R w (.int k r):=by simp[Ev,execOp,hx,hy,eqGuard,binOp,Op.intDiv,h0,hr]
theorem nI {xt yt:TypeId} {x y:Operand} {k k':IntKind} {a b r:Int} (hx:ev R x=.int k a) (hy:ev R y=.int k' b) (h0:0≤b) (hr:a.fdiv (2^(min b.toNat k.bits))=r):
    Ev P ⟨dst,.binOp .shr xt x y yt,ty,pos,af,gd⟩ R w (.int k r):=by simp[Ev,execOp,hx,hy,eqGuard,binOp,Op.shift,Int.not_lt.2 h0,hr]
theorem Pz {xt yt:TypeId} {x y:Operand} {k k':IntKind} {a b r:Int} (hx:ev R x=.int k a) (hy:ev R y=.int k' b) (h0:0≤b) (hr:k.wrap (a*2^(min b.toNat k.bits))=r):
    Ev P ⟨dst,.binOp .shl xt x y yt,ty,pos,af,gd⟩ R w (.int k r):=by simp[Ev,execOp,hx,hy,eqGuard,binOp,Op.shift,Int.not_lt.2 h0,hr]
theorem PB {xt:TypeId} {x:Operand} {k:IntKind} {a r:Int} (hx:ev R x=.int k a) (hr:arith .sub k 0 a=r):
    Ev P ⟨dst,.unOp .neg xt x,ty,pos,af,gd⟩ R w (.int k r):=by subst hr;simp[Ev,execOp,hx,ajt,Op.intArith,arith]
theorem A2 {xt:TypeId} {x:Operand} {k:IntKind} {a r:Int} (hx:ev R x=.int k a) (hr:arith .xor k (if k.signed then-1 else k.max) a=r):
    Ev P ⟨dst,.unOp .xor xt x,ty,pos,af,gd⟩ R w (.int k r):=by subst hr;simp[Ev,execOp,hx,ajt,Op.intBits,arith]
theorem jY {xt:TypeId} {x:Operand} {b:Bool} (hx:ev R x=.bool b):Ev P ⟨dst,.unOp .not xt x,ty,pos,af,gd⟩ R w (.bool (!b)):=by simp[Ev,execOp,hx,ajt]
theorem eA {src dt : TypeId} {x : Operand} {k k' : IntKind} {a r : Int} {u : TypeDesc} (hs : P.underlying src = some u) (hd : P.underlying dt = some (.int k')) (hx : ev R x = .int k a)
    (hr:k'.wrap a=r):Ev P ⟨dst,.convert src dt x,ty,pos,af,gd⟩ R w (.int k' r):=by
  simp[Ev,execOp,hx,convert,run_underlying hs,run_underlying hd,Conv.intToInt,hr]
theorem Jp {t:TypeId} {x:Operand} {A:Option Addr} {m c:Nat} {e:TypeId} (ht:P.underlying t=some (.slice e)) (hx:ev R x=.slice A m c):
    Ev P ⟨dst,.call ⟨.builtin .len,#[x],#[t]⟩,ty,pos,af,gd⟩ R w (.int .i64 m):=by simp[Ev,execOp,resolve,invoke,builtin,aju,hx,run_underlying ht,goInt]
theorem Fk {t:TypeId} {x:Operand} {s:ByteArray} (ht:P.underlying t=some .string) (hx:ev R x=.string s):
    Ev P ⟨dst,.call ⟨.builtin .len,#[x],#[t]⟩,ty,pos,af,gd⟩ R w (.int .i64 s.size):=by simp[Ev,execOp,resolve,invoke,builtin,aju,hx,run_underlying ht,goInt]
theorem wrap_i64 {a:Int} (h0: -9223372036854775808≤a) (h1:a≤9223372036854775807):adC.wrap a=a:=by
  simp only[aeg,adR,adS,agK]
  split<;>simp_all<;>omega
theorem bh {a b:Int} (h0: -9223372036854775808≤a+b) (h1:a+b≤9223372036854775807):arith .add .i64 a b=a+b:=wrap_i64 h0 h1
theorem pg {a b:Int} (h0: -9223372036854775808≤a-b) (h1:a-b≤9223372036854775807):arith .sub .i64 a b=a-b:=wrap_i64 h0 h1
theorem Dk {a b:Int} (h0: -9223372036854775808≤a*b) (h1:a*b≤9223372036854775807):arith .mul .i64 a b=a*b:=wrap_i64 h0 h1
theorem eu {f:FuncId} {fn:Func} (args:Array Value) (hf:P.funcs[f]?=some fn) (hn:(fn.name == "runtime.NumGoroutine")=false) (hb:fn.body.isSome=true):
    (callFunc f args).run P w=.ok (.enter f args) w:=by
  simp only[beq_eq_false_iff_ne,ne_eq]at hn
  have AB:fn.body≠.none:=fun e=>by rw[e]at hb;cases hb
  simp[callFunc,hf,hn,AB]
theorem ji {f : FuncId} {fn : Func} {pW : Array TypeId} (hf : P.funcs[f]? = some fn) (hn : (fn.name == "runtime.NumGoroutine") = false) (hb : fn.body.isSome = true)
     (h:aM P f #[] w K):eL P ⟨dst,.call ⟨.value (.func f),#[],pW⟩,ty,pos,af,gd⟩ R w K:=
  eL.enter (f:=f) (args:=#[]) (w':=w) (by
    have:=eu (P:=P) (w:=w) #[] hf hn hb
    simp only[execOp,resolve,aea,adW,adb,ad6,ady,ael,adI,invoke]
    simpa[ev]using this) h
theorem bo {f : FuncId} {fn : Func} {pW : Array TypeId} {x : Operand} {v1 : Value} (hf : P.funcs[f]? = some fn) (hn : (fn.name == "runtime.NumGoroutine") = false) (hb : fn.body.isSome = true)
    (hx:ev R x=v1) (h:aM P f #[v1] w K):eL P ⟨dst,.call ⟨.value (.func f),#[x],pW⟩,ty,pos,af,gd⟩ R w K:=
  eL.enter (f:=f) (args:=#[v1]) (w':=w) (by
    subst hx
    have:=eu (P:=P) (w:=w) #[ev R x] hf hn hb
    simp only[execOp,resolve,aea,adW,adb,ad6,ady,ael,adI,invoke]
    simpa[ev]using this) h
theorem bu {f : FuncId} {fn : Func} {pW : Array TypeId} {x y : Operand} {v1 v2 : Value} (hf : P.funcs[f]? = some fn) (hn : (fn.name == "runtime.NumGoroutine") = false) (hb : fn.body.isSome = true)
    (hx:ev R x=v1) (hy:ev R y=v2) (h:aM P f #[v1,v2] w K):eL P ⟨dst,.call ⟨.value (.func f),#[x,y],pW⟩,ty,pos,af,gd⟩ R w K:=
  eL.enter (f:=f) (args:=#[v1,v2]) (w':=w) (by
    subst hx hy
    have:=eu (P:=P) (w:=w) #[ev R x,ev R y] hf hn hb
    simp only[execOp,resolve,aea,adW,adb,ad6,ady,ael,adI,invoke]
    simpa[ev]using this) h
theorem cq {f : FuncId} {fn : Func} {pW : Array TypeId} {x y z : Operand} {v1 v2 v3 : Value} (hf : P.funcs[f]? = some fn) (hn : (fn.name == "runtime.NumGoroutine") = false) (hb : fn.body.isSome = true)
    (hx:ev R x=v1) (hy:ev R y=v2) (hz:ev R z=v3) (h:aM P f #[v1,v2,v3] w K):eL P ⟨dst,.call ⟨.value (.func f),#[x,y,z],pW⟩,ty,pos,af,gd⟩ R w K:=
  eL.enter (f:=f) (args:=#[v1,v2,v3]) (w':=w) (by
    subst hx hy hz
    have:=eu (P:=P) (w:=w) #[ev R x,ev R y,ev R z] hf hn hb
    simp only[execOp,resolve,aea,adW,adb,ad6,ady,ael,adI,invoke]
    simpa[ev]using this) h
theorem dK {f : FuncId} {fn : Func} {pW : Array TypeId} {x y z s : Operand} {v1 v2 v3 v4 : Value} (hf : P.funcs[f]? = some fn) (hn : (fn.name == "runtime.NumGoroutine") = false) (hb : fn.body.isSome = true)
    (hx:ev R x=v1) (hy:ev R y=v2) (hz:ev R z=v3) (hs:ev R s=v4) (h:aM P f #[v1,v2,v3,v4] w K):eL P ⟨dst,.call ⟨.value (.func f),#[x,y,z,s],pW⟩,ty,pos,af,gd⟩ R w K:=
  eL.enter (f:=f) (args:=#[v1,v2,v3,v4]) (w':=w) (by
    subst hx hy hz hs
    have:=eu (P:=P) (w:=w) #[ev R x,ev R y,ev R z,ev R s] hf hn hb
    simp only[execOp,resolve,aea,adW,adb,ad6,ady,ael,adI,invoke]
    simpa[ev]using this) h
theorem lF {f : FuncId} {fn : Func} {pW : Array TypeId} {x y z s t : Operand} {v1 v2 v3 v4 v5 : Value} (hf : P.funcs[f]? = some fn) (hn : (fn.name == "runtime.NumGoroutine") = false) (hb : fn.body.isSome = true)
    (hx:ev R x=v1) (hy:ev R y=v2) (hz:ev R z=v3) (hs:ev R s=v4) (ht:ev R t=v5) (h:aM P f #[v1,v2,v3,v4,v5] w K):eL P ⟨dst,.call ⟨.value (.func f),#[x,y,z,s,t],pW⟩,ty,pos,af,gd⟩ R w K:=
  eL.enter (f:=f) (args:=#[v1,v2,v3,v4,v5]) (w':=w) (by
    subst hx hy hz hs ht
    have:=eu (P:=P) (w:=w) #[ev R x,ev R y,ev R z,ev R s,ev R t] hf hn hb
    simp only[execOp,resolve,aea,adW,adb,ad6,ady,ael,adI,invoke]
    simpa[ev]using this) h
end
end
end Go.Rl
namespace Go.Rl
open Go.RowKit
structure Mod (M:Nat→Prop) (w w':World):Prop where
  os:w'.os=w.os
  tape:w'.tape=w.tape
  output:w'.output=w.output
  size:w.heap.size≤w'.heap.size
  block:∀k,k<w.heap.size→¬M k→w'.heap[k]?=w.heap[k]?
abbrev Ext:World→World→Prop:=Mod (fun _=>False)
theorem Mod.refl (M:Nat→Prop) (w:World):Mod M w w:=⟨rfl,rfl,rfl,ac3 _,fun _ _ _=>rfl⟩
theorem Mod.trans {M M1 M2:Nat→Prop} {a b c:World} (h:Mod M1 a b) (k:Mod M2 b c) (h1:∀i,i<a.heap.size→M1 i→M i) (h2:∀i,i<a.heap.size→M2 i→M i):Mod M a c:=
  ⟨k.os.trans h.os,k.tape.trans h.tape,k.output.trans h.output,acR h.size k.size,fun i hi hM=>
    (k.block i (ad7 hi h.size) fun e=>hM (h2 i hi e)).trans (h.block i hi fun e=>hM (h1 i hi e))⟩
theorem Mod.mono {M M':Nat→Prop} {w w':World} (h:Mod M w w') (hm:∀i,i<w.heap.size→M i→M' i):Mod M' w w':=
  ⟨h.os,h.tape,h.output,h.size,fun i hi hM=>h.block i hi fun e=>hM (hm i hi e)⟩
theorem Ext.trans {a b c:World} (h:Ext a b) (k:Ext b c):Ext a c:=Mod.trans h k (fun _ _=>id) (fun _ _=>id)
theorem Ext.then {a b c:World} {M:Nat→Prop} (h:Ext a b) (k:Mod M b c) (hm:∀i,i<a.heap.size→¬M i):Ext a c:=Mod.trans h k (fun _ _=>id) (fun i hi e=>hm i hi e)
theorem Ext.alloc (w:World) (o:Obj):Ext w (w.alloc o):=⟨rfl,rfl,rfl,by simp,fun k hk _=>heap_alloc_old w o hk⟩
theorem Ext.drew (w:World):Ext w w.drew:=⟨rfl,rfl,rfl,ac3 _,fun _ _ _=>rfl⟩
theorem Ext.below {w w':World} (h:Ext w w'):Below w.heap.size w w':=⟨h.os,h.tape,h.output,h.size,fun k hk=>h.block k hk (fun e=>e)⟩
theorem Mod.tI {w w':World} {row:Option Nat} (h:w.grownBy w' row):Mod (fun k=>row=some k) w w':=⟨h.os,h.tape,h.output,h.size,fun k hk hM=>h.block k hk fun e=>hM e.symm⟩
theorem Mod.heap {M:Nat→Prop} {w w':World} (h:Mod M w w') {g:Nat} {o:Obj} (hg:w.heap[g]?=some o) (hM:¬M g):w'.heap[g]?=some o:=
  (h.block g (ado.1 hg).1 hM).trans hg
theorem Mod.cell {M:Nat→Prop} {w w':World} (h:Mod M w w') {a:Addr} {v:Value} (hc:w.cell? a=some v) (hM:¬M a.block):w'.cell? a=some v:=by
  rw[aeP (h.block _ (block_lt_of_cell hc) hM),hc]
theorem Mod.setCell {w:World} {p:Addr} (v:Value):Mod (fun k=>k=p.block) w (w.setCell p v):=
  ⟨rfl,rfl,rfl,by simp,fun k _ hM=>heap_setCell_other w p k v hM⟩
def Cells (w:World) (A:Option Addr) (vs:List Value):Prop:=∀(j:Nat) (v:Value),vs[j]?=some v→∃ad,A=some ad∧w.cell? (ad.add j)=some v
theorem Cells.nil (w:World) (A:Option Addr):Cells w A []:=fun j v h=>by simp at h
theorem block_add (a:Addr) (n:Nat):(a.add n).block=a.block:=by unfold agU;split<;>rfl
theorem add_add (a:Addr) (m k:Nat):(a.add m).add k=a.add (m+k):=by
  unfold agU
  by_cases hm:m=0<;>by_cases hk:k=0<;>simp[hm,hk,ahX]
theorem Cells.mod {M:Nat→Prop} {w w':World} {A:Option Addr} {vs:List Value} (h:Cells w A vs) (hm:Mod M w w') (hb:∀ad,A=some ad→¬M ad.block):Cells w' A vs:=fun j v hv=>by
  obtain⟨ad,rfl,hc⟩:=h j v hv
  exact⟨ad,rfl,hm.cell hc (by rw[block_add];exact hb ad rfl)⟩
theorem Cells.take {w:World} {A:Option Addr} {vs:List Value} (h:Cells w A vs) (k:Nat):Cells w A (vs.take k):=fun j v hv=>by
  rw[ad8]at hv
  split at hv
  · exact h j v hv
  · cases hv
theorem Cells.drop {w:World} {A:Option Addr} {vs:List Value} (h:Cells w A vs) (k:Nat):Cells w (A.map (·.add k)) (vs.drop k):=fun j v hv=>by
  rw[afI]at hv
  obtain⟨ad,rfl,hc⟩:=h _ v hv
  exact⟨ad.add k,rfl,by rw[add_add];exact hc⟩
section
variable {α:Type} {enc:α→Value}
def Sl (enc:α→Value) (w:World) (v:Value) (l:List α):Prop:=∃A c,v=.slice A l.length c∧l.length≤c∧c≤maxLen∧Cells w A (l.map enc)
theorem Sl.nil (enc:α→Value) (w:World):Sl enc w (.slice none 0 0) []:=⟨none,0,rfl,ac3 _,by unfold maxLen;omega,Cells.nil _ _⟩
theorem Sl.mod {M:Nat→Prop} {w w':World} {v:Value} {l:List α} (h:Sl enc w v l) (hm:Mod M w w') (hb:∀k,v.ownBlock=some k→¬M k):Sl enc w' v l:=by
  obtain⟨A,c,rfl,h1,h2,hc⟩:=h
  refine⟨A,c,rfl,h1,h2,hc.mod hm ?_⟩
  rintro ad rfl
  exact hb _ rfl
theorem Sl.ext {w w':World} {v:Value} {l:List α} (h:Sl enc w v l) (hm:Ext w w'):Sl enc w' v l:=h.mod hm (fun _ _ e=>e)
theorem Sl.bw {w:World} {v:Value} {l:List α} (h:Sl enc w v l):l.length≤9223372036854775807:=by
  obtain⟨A,c,rfl,h1,h2,_⟩:=h;unfold maxLen at h2;omega
theorem Sl.lt {w:World} {v:Value} {l:List α} (h:Sl enc w v l) (hl:l≠[]):∀k,v.ownBlock=some k→k<w.heap.size:=by
  obtain⟨A,c,rfl,h1,h2,hc⟩:=h
  intro k hk
  cases l with
  |nil=>exact absurd rfl hl
  |cons x xs=>
    obtain⟨ad,rfl,hx⟩:=hc 0 (enc x) rfl
    have:=block_lt_of_cell hx
    rw[block_add]at this
    simp[afQ]at hk
    omega
def eG (enc:α→Value) (E:TypeId) (w:World) (base:Nat) (v:Value) (l:List α):Prop:=w.ownsRow base E 1 v l.length (l.map enc)
theorem eG.nil (enc:α→Value) (E:TypeId) (w:World) (base:Nat):eG enc E w base (.slice none 0 0) []:=aiC _ _ _ _
theorem eG.sl {E:TypeId} {w:World} {base:Nat} {v:Value} {l:List α} (h:eG enc E w base v l):Sl enc w v l:=by
  rcases h.2 with⟨rfl,h0⟩|⟨g,cap,cur,rfl,hb,hh,h1,h2,h3,h4⟩
  · have : l = [] := adF h0
    subst this
    exact Sl.nil _ _
  · refine ⟨_, cap, rfl, h1, h2, fun j v hv => ⟨_, rfl, ?_⟩⟩
    exact agu h (g:=g) rfl j v hv
theorem eG.mod {E:TypeId} {M:Nat→Prop} {w w':World} {base:Nat} {v:Value} {l:List α} (h:eG enc E w base v l) (hm:Mod M w w') (hb:∀k,v.ownBlock=some k→¬M k):eG enc E w' base v l:=by
  unfold eG aeY at*
  refine⟨h.1,h.2.imp id ?_⟩
  rintro⟨g,cap,cur,rfl,AB,hh,hr⟩
  exact⟨g,cap,cur,rfl,AB,hm.heap hh (hb g rfl),hr⟩
theorem eG.ext {E:TypeId} {w w':World} {base:Nat} {v:Value} {l:List α} (h:eG enc E w base v l) (hm:Ext w w'):eG enc E w' base v l:=h.mod hm (fun _ _ e=>e)
theorem eG.lt {E:TypeId} {w:World} {base:Nat} {v:Value} {l:List α} (h:eG enc E w base v l):∀k,v.ownBlock=some k→base≤k∧k<w.heap.size:=aiX h
theorem eG.lower {E:TypeId} {w:World} {base nN:Nat} {v:Value} {l:List α} (h:eG enc E w base v l) (hb:nN≤base):eG enc E w nN v l:=by
  unfold eG aeY at*
  refine⟨h.1,h.2.imp id ?_⟩
  rintro⟨g,cap,cur,rfl,AB,hr⟩
  exact⟨g,cap,cur,rfl,acR hb AB,hr⟩
end
section
variable {P:Program} {n:Nat} {Q:fQ} {R:Nat→Value} {w:World} {K:Value→World→Prop} {dst:Option Tmp} {ty:TypeId} {pos:String} {af:Array Edge} {gd:Option (Nat×Bool)}
variable {α:Type} {enc:α→Value}
theorem jH {t:TypeId} {x:Operand} {v:Value} {l:List α} {e:TypeId} (ht:P.underlying t=some (.slice e)) (hs:Sl enc w v l) (hx:ev R x=v):
    Ev P ⟨dst,.call ⟨.builtin .len,#[x],#[t]⟩,ty,pos,af,gd⟩ R w (.int .i64 l.length):=by
  obtain⟨A,c,rfl,_⟩:=hs
  exact Jp ht hx
theorem aQ {t:TypeId} {x:Operand} {v:Value} {l:List α} {e:TypeId} (ht:P.underlying t=some (.slice e)) (hs:Sl enc w v l) (hx:ev R x=v:=by exact rfl):Ev P ⟨dst,.call ⟨.builtin .len,#[x],#[t]⟩,ty,pos,af,gd⟩ R w (.int .i64 l.length):=jH ht hs hx
theorem fk {e:TypeId} {s:Nat} (fb:(P.info? e).map (·.size)=some s):(sizeOf e).run P w=.ok s w:=by
  cases hq:P.info? e with
  |none=>simp[hq]at fb
  |some i=>
    have:i.size=s:=by simpa[hq]using fb
    simp[sizeOf,typeInfo,hq,this]
def dL (v:Value) (m:Nat):Value:=match v with
  |.slice (some ad) _ _=>.pointer (some (ad.add m))
  |_=>.pointer none
theorem jR {t e : TypeId} {x i : Operand} {v : Value} {l : List α} {k : IntKind} {m : Int} (ht : P.underlying t = some (.slice e)) (fb : (P.info? e).map (·.size) = some 1)
    (hs:Sl enc w v l) (hx:ev R x=v) (hi:ev R i=.int k m) (h0:0≤m) (h1:m<l.length):Ev P ⟨dst,.indexAddr t x i,ty,pos,af,gd⟩ R w (dL v m.toNat):=by
  obtain⟨A,c,rfl,HT,hm,hc⟩:=hs
  have cD:m.toNat<l.length:=by omega
  obtain⟨ad,rfl,fE⟩:=hc m.toNat (enc l[m.toNat]) (by simp[acE cD])
  have hr:(0≤m∧m<(l.length:Int)):=⟨h0,h1⟩
  simp[Ev,dL,execOp,hx,hi,ahY,asIntOf,run_underlying ht,hr,fk (w:=w) fb]
theorem aC {t e:TypeId} {x i:Operand} {v:Value} {l:List α} {k:IntKind} {m:Int} (ht:P.underlying t=some (.slice e)) (fb:(P.info? e).map (·.size)=some 1) (hs:Sl enc w v l) (hx:ev R x=v:=by exact rfl) (hi:ev R i=.int k m:=by exact rfl) (h0:0≤m:=by omega) (h1:m<l.length:=by omega):Ev P ⟨dst,.indexAddr t x i,ty,pos,af,gd⟩ R w (dL v m.toNat):=jR ht fb hs hx hi h0 h1
theorem rF {t:TypeId} {p:Addr} {v:Value} {d:TypeDesc} (ht:P.underlying t=some d) (hd:(match d with|.struct _|.array _ _=>false|_=>true)=true) (hc:w.cell? p=some v):
    (loadVar t p).run P w=.ok v w:=by
  have uI:(isAgg t).run P w=.ok false w:=by
    unfold isAgg
    rw[ady,run_underlying ht w]
    cases d<;>simp_all
  simp[loadVar,ady,uI,load,ajd,hc]
theorem yH {t : TypeId} {x : Operand} {p : Addr} {v : Value} {d : TypeDesc} (ht : P.underlying t = some d) (hd : (match d with | .struct _ | .array _ _ => false | _ => true) = true)
    (hx:ev R x=.pointer (some p)) (hc:w.cell? p=some v):Ev P ⟨dst,.load t x,ty,pos,af,gd⟩ R w v:=by
  simp[Ev,execOp,hx,age,aen,ady,rF ht hd hc]
theorem lO {t : TypeId} {x : Operand} {v : Value} {l : List α} {m : Nat} {d : TypeDesc} (ht : P.underlying t = some d) (hd : (match d with | .struct _ | .array _ _ => false | _ => true) = true)
    (hs:Sl enc w v l) (hx:ev R x=dL v m) (hm:m<l.length):Ev P ⟨dst,.load t x,ty,pos,af,gd⟩ R w (enc l[m]):=by
  obtain⟨A,c,rfl,HT,Qm,hc⟩:=hs
  obtain⟨ad,rfl,fE⟩:=hc m (enc l[m]) (by simp[acE hm])
  exact yH ht hd hx fE
theorem kz {t : TypeId} {x : Operand} {v : Value} {l : List α} {m : Nat} {a : α} {d : TypeDesc} (ht : P.underlying t = some d) (hd : (match d with | .struct _ | .array _ _ => false | _ => true) = true)
    (hs:Sl enc w v l) (hx:ev R x=dL v m) (hm:l[m]?=some a):Ev P ⟨dst,.load t x,ty,pos,af,gd⟩ R w (enc a):=by
  obtain⟨cD,rfl⟩:=acA.1 hm
  exact lO ht hd hs hx cD
theorem aF {t:TypeId} {x:Operand} {v:Value} {l:List α} {m:Nat} {a:α} {d:TypeDesc} (ht:P.underlying t=some d) (hs:Sl enc w v l) (hm:l[m]?=some a) (hd:(match d with|.struct _|.array _ _=>false|_=>true)=true:=by exact rfl) (hx:ev R x=dL v m:=by exact rfl):Ev P ⟨dst,.load t x,ty,pos,af,gd⟩ R w (enc a):=kz ht hd hs hx hm
theorem zP {t : TypeId} {x y : Operand} {p : Addr} {v u : Value} (fb : (P.info? t).map (·.size) = some 1)
    (hx:ev R x=.pointer (some p)) (hy:ev R y=v) (hv:v.cells=#[v]) (h1:v.oneCell'=true) (hc:w.cell? p=some u) (hf:w.frozen? p=false) (h:K undef (w.setCell p v)):eL P ⟨dst,.store t x y,ty,pos,af,gd⟩ R w K:=by
  refine eL.unit (w':=w.setCell p v) ?_ h
  have h0:p.add 0=p:=rfl
  have fG:(store p v).run P w=.ok () (w.setCell p v):=by
    unfold store
    cases v<;>simp_all [ajd,agx]
  simp[execOp,hx,hy,ahZ,aen,storeVar,hv,fk (w:=w) fb,storeCells,h0,fG]
def wc (v:Value) (lo hi:Nat):Value:=match v with
  |.slice A n c=>.slice (if c=lo then A else A.map (·.add (lo*1))) (hi-lo) (c-lo)
  |v=>v
theorem oR {v:Value} {l:List α} (h:Sl enc w v l) (lo hi:Nat):(wc v lo hi).ownBlock=v.ownBlock:=by
  obtain⟨A,c,rfl,_⟩:=h
  simp only[wc]
  split
  · cases A<;>rfl
  · cases A with
    |none=>rfl
    |some ad=>simp[afQ,block_add]
theorem Sl.cut {v:Value} {lo hi:Nat} {l:List α} (h:Sl enc w v l) (mR:lo≤hi) (nd:hi≤l.length):Sl enc w (wc v lo hi) ((l.take hi).drop lo):=by
  obtain⟨A,c,rfl,h1,h2,hc⟩:=h
  have hlen:((l.take hi).drop lo).length=hi-lo:=by simp;omega
  refine⟨_,c-lo,by rw[hlen];rfl,by omega,by omega,?_⟩
  split
  · have : (l.take hi).drop lo = [] := adF (by omega)
    rw[this];exact Cells.nil _ _
  · have := (hc.take hi).drop lo
    rw[ahn]
    simpa[ajj,List.map_drop]using this
theorem Sl.uQ {v:Value} {hi:Nat} {l:List α} (h:Sl enc w v l) (nd:hi≤l.length):Sl enc w (wc v 0 hi) (l.take hi):=by simpa using h.cut (adO hi) nd
theorem Sl.mC {v:Value} {lo:Nat} {l:List α} (h:Sl enc w v l) (mR:lo≤l.length):Sl enc w (wc v lo l.length) (l.drop lo):=by simpa using h.cut mR (ac3 _)
theorem pS {t e : TypeId} {x hi : Operand} {v : Value} {l : List α} {k' : IntKind} {b : Int} (ht : P.underlying t = some (.slice e)) (fb : (P.info? e).map (·.size) = some 1)
    (hs:Sl enc w v l) (hx:ev R x=v) (nd:ev R hi=.int k' b) (h1:0≤b) (h2:b≤l.length):
    Ev P ⟨dst,.slice t x none (some hi) none,ty,pos,af,gd⟩ R w (wc v 0 b.toNat):=by
  obtain⟨A,c,rfl,HT,hm,hc⟩:=hs
  have qC:0≤b∧b≤(c:Int):=⟨by omega,by omega⟩
  simp[Ev,wc,execOp,hx,nd,af5,agA,run_underlying ht,afr,afB,asIntOf,qC,fk (w:=w) fb]
theorem mz {t e : TypeId} {x lo : Operand} {v : Value} {l : List α} {k : IntKind} {a : Int} (ht : P.underlying t = some (.slice e)) (fb : (P.info? e).map (·.size) = some 1)
    (hs:Sl enc w v l) (hx:ev R x=v) (mR:ev R lo=.int k a) (h0:0≤a) (h1:a≤l.length):
    Ev P ⟨dst,.slice t x (some lo) none none,ty,pos,af,gd⟩ R w (wc v a.toNat l.length):=by
  obtain⟨A,c,rfl,HT,hm,hc⟩:=hs
  have Lo:0≤a∧a≤(l.length:Int):=⟨h0,by omega⟩
  simp[Ev,wc,execOp,hx,mR,af5,agA,run_underlying ht,afr,afB,asIntOf,Lo,fk (w:=w) fb]
theorem eG.set {E:TypeId} {base g c:Nat} {l:List α} (h:eG enc E w base (.slice (some ⟨g,0,none⟩) l.length c) l) (j:Nat) (a:α):
    eG enc E (w.setCell ⟨g,j,none⟩ (enc a)) base (.slice (some ⟨g,0,none⟩) l.length c) (l.set j a):=by
  unfold eG aeY at*
  refine⟨by simp,?_⟩
  rcases h.2 with⟨h0,_⟩|⟨g',cap,cur,he,hb,hh,h1,h2,h3,h4⟩
  · cases h0
  · cases he
    refine .inr ⟨g,c,cur.setIfInBounds j (enc a),by simp,hb,heap_setCell_same w g j cur E (enc a) hh,by simpa using h1,h2,by simpa using h3,?_⟩
    rw[Array.toList_setIfInBounds,List.take_set,adG,h4,List.map_set]
theorem eG.form {E:TypeId} {base:Nat} {v:Value} {l:List α} (h:eG enc E w base v l) (hl:l≠[]):∃g c,v=.slice (some ⟨g,0,none⟩) l.length c∧base≤g:=by
  rcases h.2 with⟨rfl,h0⟩|⟨g,cap,cur,rfl,hb,_⟩
  · exact absurd (adF h0) hl
  · exact⟨g,cap,rfl,hb⟩
theorem qV {t : TypeId} {x y : Operand} {E base : Nat} {v u : Value} {l : List α} {a : α} {m : Nat} (fb : (P.info? t).map (·.size) = some 1)
    (hs:eG enc E w base v l) (hx:ev R x=dL v m) (hm:m<l.length) (hy:ev R y=u) (hu:u=enc a) (hc:(enc a).cells=#[enc a]) (h1:(enc a).oneCell'=true)
    (h:∀w',eG enc E w' base v (l.set m a)→Mod (fun k=>v.ownBlock=some k) w w'→w'.heap.size=w.heap.size→K undef w'):eL P ⟨dst,.store t x y,ty,pos,af,gd⟩ R w K:=by
  obtain⟨g,c,rfl,hb⟩:=hs.form (by intro e;subst e;simp at hm)
  subst hu
  have fE:w.cell? ⟨g,m,none⟩=some (enc l[m]):=by
    have:=agu hs (g:=g) rfl m (enc l[m]) (by simp[acE hm])
    have h0:(⟨g,0,none⟩:Addr).add m=⟨g,m,none⟩:=by unfold agU;split<;>simp_all
    rwa [h0]at this
  have uA:w.frozen? ⟨g,m,none⟩=false:=by
    rcases hs.2 with⟨h0,_⟩|⟨g',cap,cur,he,_,hh,_⟩
    · cases h0
    · cases he
      simp[World.frozen?,hh]
  refine zP (p:=⟨g,m,none⟩) fb ?_ hy hc h1 fE uA (h _ (hs.set m a) ((Mod.setCell (p:=⟨g,m,none⟩) _).mono fun i _ e=>by simp[afQ,e]) (by simp))
  rw[hx]
  simp only[dL]
  congr 2
  unfold agU;split<;>simp_all
theorem iS {t e : TypeId} {s x : Operand} {v u : Value} {l m : List α} {z : Value} {bytes base : Nat} (ht : P.underlying t = some (.slice e))
    (gE:(P.info? e).map (fun i=>(i.zero,i.size,i.bytes))=some (some z,1,bytes)) (hz:z.cells.size=1) (h1:∀a,(enc a).oneCell'=true)
    (hs:eG enc e w base v l) (hx:ev R s=v) (hu:Sl enc w u m) (hy:ev R x=u) (hlen:(l.length+m.length)*bytes≤140737488355328) (kx:0<bytes) (IU:base≤w.heap.size)
    (h:∀v' w',eG enc e w' base v' (l++m)→Mod (fun k=>v.ownBlock=some k) w w'→(v'.ownBlock=v.ownBlock∨v'.ownBlock=some w.heap.size)→K v' w'):
    eL P ⟨dst,.call ⟨.builtin .append,#[s,x],#[t,t]⟩,ty,pos,af,gd⟩ R w K:=by
  obtain⟨A,c,rfl,HT,hm,hc⟩:=hu
  have Cu:∃i,P.info? e=some i∧i.zero=some z∧i.size=1∧i.bytes=bytes:=by
    cases hq:P.info? e with
    |none=>simp[hq]at gE
    |some i=>simp[hq]at gE;exact⟨i,rfl,gE⟩
  obtain⟨i,hi,Dt,xi,ON⟩:=Cu
  have IM:l.length+m.length≤maxLen:=by
    unfold maxLen
    have:(l.length+m.length)*1≤(l.length+m.length)*bytes:=ah3 _ kx
    omega
  by_cases hA:∃ad,A=some ad
  · obtain ⟨ad, rfl⟩ := hA
    obtain ⟨v', w', fG, Cp, Av, _, O3⟩ := run_append_own_at (P := P) (w := w) base t ty e i z 1 bytes ht hi Dt xi ON hz (by omega) v l.length (l.map enc) hs ad m.length c (m.map enc) (by simp)
      (fun j u hj=>by obtain⟨PQ,h',fE⟩:=hc j u hj;cases h';exact fE) (by simp;exact fun a _=>h1 a) IM hlen IU
    refine eL.value (v:=v') (w':=w') ?_ (h v' w' ?_ (Mod.tI Av) O3)
    · simp[execOp,resolve,invoke,builtin,hx,hy,fG]
    · unfold eG;simpa using Cp
  · have TT:A=none:=by cases A with
      |none=>rfl
      |some ad=>exact absurd ⟨ad,rfl⟩ hA
    subst TT
    have kD:m=[]:=by
      cases m with
      |nil=>rfl
      |cons a r=>obtain⟨ad,h',_⟩:=hc 0 (enc a) rfl;cases h'
    subst kD
    have Xv:=hs
    have fG:(agf #[t,t] ty #[v,.slice none 0 c]).run P w=.ok v w:=by
      obtain⟨A',c',rfl,OC,Z4,_⟩:=hs.sl
      have hn:¬(∃q,TypeDesc.slice e=.int q):=fun⟨q,hq⟩=>by cases hq
      have hle:l.length≤c':=OC
      cases A'<;>simp[agf,run_underlying ht,sizeOf,typeInfo,hi,xi,ajk,ah6,hle,storeCells]
    refine eL.value (v:=v) (w':=w) ?_ (h v w (by simpa using hs) (Mod.refl _ _) (.inl rfl))
    simp only[acN]at hy
    simp[execOp,resolve,invoke,builtin,hx,hy,fG]
end
end Go.Rl
namespace Go.Rl
open Go.RowKit
def vb (b:UInt8):Value:=.int .u8 (b.toNat:Int)
def str (l:List UInt8):Value:=.string ⟨l.toArray⟩
theorem Gc (b:UInt8):(vb b).cells=#[vb b]:=rfl
theorem oC (b:UInt8):(vb b).oneCell'=true:=rfl
theorem Gu (s:ByteArray):Value.string s=str s.data.toList:=by unfold str;simp
section
variable {P:Program} {n:Nat} {Q:fQ} {R:Nat→Value} {w:World} {K:Value→World→Prop} {dst:Option Tmp} {ty:TypeId} {pos:String} {af:Array Edge} {gd:Option (Nat×Bool)}
variable {α:Type} {enc:α→Value}
theorem Cells.load {A:Addr} {vs:List Value} (h:Cells w (some A) vs):(loadCells A vs.length).run P w=.ok vs.toArray w:=
  run_loadCells_list (P:=P) w A vs fun j v hv=>by obtain⟨ad,e,hc⟩:=h j v hv;cases e;exact hc
theorem foldl_push (l:List UInt8):∀s:ByteArray,(l.map fun b=>(b.toNat:Int)).foldl (fun r n=>r.push (aeV n.toNat)) s=⟨s.data++l.toArray⟩:=by
  induction l with
  |nil=>intro s;simp
  |cons b r ih=>intro s;simp only[adb,ai3,ih];simp[ByteArray.push]
theorem Ee {src dt e:TypeId} {v:Value} {l:List UInt8} (hs:P.underlying src=some (.slice e)) (he:P.underlying e=some (.int .u8)) (hd:P.underlying dt=some .string) (h:Sl vb w v l):
    (convert src dt v).run P w=.ok (str l) w:=by
  obtain⟨A,c,rfl,HT,hm,hc⟩:=h
  rw[run_convert_bytes_string w src dt e A l.length c hs he hd]
  cases A with
  |none=>
    cases l with
    |nil=>rfl
    |cons b r=>obtain⟨ad,h,_⟩:=hc 0 (vb b) rfl;cases h
  |some a=>
    have h1:(loadCells a l.length).run P w=.ok ((l.map fun b=>(b.toNat:Int)).map (acZ .u8)).toArray w:=by
      have:=Cells.load (P:=P) hc
      rw[ac4]at this
      rw[this,aem]
      rfl
    rw[run_bytesToString w a l.length c _ h1,foldl_push]
    simp[str]
theorem jP {src dt e : TypeId} {x : Operand} {v : Value} {l : List UInt8} (hs : P.underlying src = some (.slice e)) (he : P.underlying e = some (.int .u8)) (hd : P.underlying dt = some .string)
    (h:Sl vb w v l) (hx:ev R x=v):Ev P ⟨dst,.convert src dt x,ty,pos,af,gd⟩ R w (str l):=by
  simp[Ev,execOp,hx,Ee hs he hd h]
theorem Cc (bs:ByteArray):∀(k i:Nat) (r:List UInt8),bs.size-i=k→agb bs i r=r.reverse++bs.data.toList.drop i:=by
  intro k
  induction k with
  |zero=>
    intro i r hk
    rw[agb,if_neg (by omega)]
    rw[aeW (by simp only[ah4];exact Nat.le_of_sub_eq_zero hk)]
    simp
  |succ k ih=>
    intro i r hk
    have cD:i<bs.size:=by omega
    rw[agb,if_pos cD,ih (i+1) _ (by omega)]
    have hl:i<bs.data.toList.length:=by simp only[ah4];exact cD
    rw[aeL hl]
    have:bs.get! i=bs.data.toList[i]:=by
      cases bs with
      |mk d=>
        have hd:i<d.size:=cD
        simp[ByteArray.get!,getElem!_pos d i hd]
    simp[this]
theorem pc (l:List UInt8):(⟨l.toArray⟩:ByteArray).toList=l:=by
  unfold ByteArray.toList
  rw[Cc _ _ 0 [] rfl]
  simp
theorem Jm {xt yt:TypeId} {x y:Operand} {a b:List UInt8} (hx:ev R x=str a) (hy:ev R y=str b):Ev P ⟨dst,.binOp .eql xt x y yt,ty,pos,af,gd⟩ R w (.bool (decide (a=b))):=by
  simp only[Ev,execOp,hx,hy,str]
  simp[eqGuard,binOp,Op.stringOp,pc]
  by_cases h:a=b<;>simp[h]
theorem AU {xt yt:TypeId} {x y:Operand} {a b:List UInt8} (hx:ev R x=str a) (hy:ev R y=str b):Ev P ⟨dst,.binOp .neq xt x y yt,ty,pos,af,gd⟩ R w (.bool (decide (¬a=b))):=by
  simp only[Ev,execOp,hx,hy,str]
  simp[eqGuard,binOp,Op.stringOp,pc]
  by_cases h:a=b<;>simp[h]
theorem Jo {t:TypeId} {x:Operand} {l:List UInt8} (ht:P.underlying t=some .string) (hx:ev R x=str l):
    Ev P ⟨dst,.call ⟨.builtin .len,#[x],#[t]⟩,ty,pos,af,gd⟩ R w (.int .i64 l.length):=by
  have:=Fk (P:=P) (dst:=dst) (ty:=ty) (pos:=pos) (af:=af) (gd:=gd) (w:=w) ht hx
  simpa[ahE]using this
def iu (w:World) (g:Nat) (cs:List Value) (T:TypeId):Prop:=w.heap[g]?=some (.cells cs.toArray T (0,0))
theorem iu.mod {M:Nat→Prop} {w':World} {g:Nat} {cs:List Value} {T:TypeId} (h:iu w g cs T) (hm:Mod M w w') (hM:¬M g):iu w' g cs T:=hm.heap h hM
theorem iu.ext {w':World} {g:Nat} {cs:List Value} {T:TypeId} (h:iu w g cs T) (hm:Ext w w'):iu w' g cs T:=hm.heap h (fun e=>e)
theorem iu.lt {g:Nat} {cs:List Value} {T:TypeId} (h:iu w g cs T):g<w.heap.size:=(ado.1 h).1
theorem iu.cell {g:Nat} {cs:List Value} {T:TypeId} (h:iu w g cs T) (j:Nat):w.cell? ⟨g,j,none⟩=cs[j]?:=by rw[cell_of_row w g j _ T (0,0) h];simp
theorem iu.free {g:Nat} {cs:List Value} {T:TypeId} (h:iu w g cs T) (j:Nat):w.frozen? ⟨g,j,none⟩=false:=frozen_of_row w g j _ T h
theorem iu.new (w:World) (cs:Array Value) (T:TypeId):iu (w.alloc (.cells cs T)) w.heap.size cs.toList T:=by unfold iu;rw[heap_alloc_new]
theorem J3 (g j:Nat):(⟨g,0,none⟩:Addr).add j=⟨g,j,none⟩:=by unfold agU;split<;>simp_all
theorem Tn (g i j:Nat):(⟨g,i,none⟩:Addr).add j=⟨g,i+j,none⟩:=by unfold agU;split<;>simp_all
theorem pw {t : TypeId} {z : Value} {cs : List Value} (hz : (P.info? t).map (·.zero) = some (some z)) (hc : z.cells = cs.toArray)
    (h:∀w',iu w' w.heap.size cs t→Ext w w'→w'.heap.size=w.heap.size+1→K (.pointer (some ⟨w.heap.size,0,none⟩)) w'):eL P ⟨dst,.alloc t,ty,pos,af,gd⟩ R w K:=by
  have Cj:(zeroValue t).run P w=.ok z w:=by
    cases hq:P.info? t with
    |none=>simp[hq]at hz
    |some i=>
      have:i.zero=some z:=by simpa[hq]using hz
      simp[zeroValue,typeInfo,hq,this]
  refine eL.value (v:=.pointer (some ⟨w.heap.size,0,none⟩)) (w':=w.alloc (.cells z.cells t)) ?_ (h _ ?_ (Ext.alloc _ _) (by simp))
  · simp[execOp,Instr.alloc,Cj,newVar,newRow]
  · have := iu.new w z.cells t
    rwa [hc]at this ⊢
theorem G3 {t : TypeId} {x : Operand} {v : Value} {cs : List Value} (hx : ev R x = v) (hc : v.cells = cs.toArray)
    (h:∀w',iu w' w.heap.size cs t→Ext w w'→w'.heap.size=w.heap.size+1→K (.pointer (some ⟨w.heap.size,0,none⟩)) w'):eL P ⟨dst,.box t x,ty,pos,af,gd⟩ R w K:=by
  refine eL.value (v:=.pointer (some ⟨w.heap.size,0,none⟩)) (w':=w.alloc (.cells v.cells t)) ?_ (h _ ?_ (Ext.alloc _ _) (by simp))
  · simp[execOp,hx,Instr.box,newVar,newRow]
  · have := iu.new w v.cells t
    rwa [hc]at this ⊢
theorem iu.set {g:Nat} {cs:List Value} {T:TypeId} (h:iu w g cs T) (j:Nat) (v:Value):iu (w.setCell ⟨g,j,none⟩ v) g (cs.set j v) T:=by
  unfold iu at*
  rw[heap_setCell_same w g j _ T v h]
  simp
theorem lE {t : TypeId} {x y : Operand} {g j : Nat} {v : Value} {cs : List Value} {T : TypeId} (fb : (P.info? t).map (·.size) = some 1)
    (hx:ev R x=.pointer (some ⟨g,j,none⟩)) (hy:ev R y=v) (hv:v.cells=#[v]) (h1:v.oneCell'=true) (hb:iu w g cs T) (hj:j<cs.length)
    (h:∀w',iu w' g (cs.set j v) T→Mod (fun k=>k=g) w w'→w'.heap.size=w.heap.size→K undef w'):eL P ⟨dst,.store t x y,ty,pos,af,gd⟩ R w K:=
  zP fb hx hy hv h1 (u:=cs[j]) (by rw[hb.cell,acE hj]) (hb.free j) (h _ (hb.set j v) (Mod.setCell (p:=⟨g,j,none⟩) v) (by simp))
theorem ns {t : TypeId} {x y : Operand} {g : Nat} {v : Value} {cs vs : List Value} {T : TypeId} (fb : (P.info? t).map (·.size) = some vs.length)
    (hx:ev R x=.pointer (some ⟨g,0,none⟩)) (hy:ev R y=v) (hv:v.cells=vs.toArray) (h1:∀u∈vs,u.oneCell'=true) (hb:iu w g cs T) (hl:vs.length=cs.length)
    (h:∀w',iu w' g vs T→Mod (fun k=>k=g) w w'→w'.heap.size=w.heap.size→K undef w'):eL P ⟨dst,.store t x y,ty,pos,af,gd⟩ R w K:=by
  have ic:(storeCells ⟨g,0,none⟩ vs).run P w=.ok () (w.setRow g vs.toArray):=by
    have:=run_storeCells_from (P:=P) g T vs 0 cs.toArray w hb (by simp[hl]) h1
    simpa using this
  refine eL.unit (w':=w.setRow g vs.toArray) ?_ (h _ (setRow_heap w g _ _ T _ hb) ⟨rfl,rfl,rfl,by simp,fun k hk hM=>setRow_other w g k _ hM⟩ (by simp))
  simp[execOp,hx,hy,ahZ,aen,storeVar,hv,fk (w:=w) fb,ic]
theorem CN {t : TypeId} {x : Operand} {g : Nat} {cs : List Value} {T : TypeId} {d : TypeDesc} (hu : P.underlying t = some d) (hd : (match d with | .struct _ | .array _ _ => true | _ => false) = true)
    (fb:(P.info? t).map (·.size)=some cs.length) (hx:ev R x=.pointer (some ⟨g,0,none⟩)) (hb:iu w g cs T):Ev P ⟨dst,.load t x,ty,pos,af,gd⟩ R w (.agg cs.toArray):=by
  have:=run_loadVar_row (P:=P) w g T t cs.toArray (0,0) d hb hu hd (by simpa using fb)
  simp[Ev,execOp,hx,age,aen,this]
theorem aE {t:TypeId} {x:Operand} {g:Nat} {cs:List Value} {T:TypeId} {d:TypeDesc} (hu:P.underlying t=some d) (fb:(P.info? t).map (·.size)=some cs.length) (hb:iu w g cs T) (hd:(match d with|.struct _|.array _ _=>true|_=>false)=true:=by exact rfl) (hx:ev R x=.pointer (some ⟨g,0,none⟩):=by exact rfl):Ev P ⟨dst,.load t x,ty,pos,af,gd⟩ R w (.agg cs.toArray):=CN hu hd fb hx hb
theorem AZ {t : TypeId} {x : Operand} {g j : Nat} {v : Value} {cs : List Value} {T : TypeId} {d : TypeDesc} (ht : P.underlying t = some d) (hd : (match d with | .struct _ | .array _ _ => false | _ => true) = true)
    (hx:ev R x=.pointer (some ⟨g,j,none⟩)) (hb:iu w g cs T) (hj:cs[j]?=some v):Ev P ⟨dst,.load t x,ty,pos,af,gd⟩ R w v:=yH ht hd hx (by rw[hb.cell,hj])
theorem aj {t:TypeId} {x:Operand} {g j:Nat} {v:Value} {cs:List Value} {T:TypeId} {d:TypeDesc} (ht:P.underlying t=some d) (hb:iu w g cs T) (hd:(match d with|.struct _|.array _ _=>false|_=>true)=true:=by exact rfl) (hx:ev R x=.pointer (some ⟨g,j,none⟩):=by exact rfl) (hj:cs[j]?=some v:=by exact rfl):Ev P ⟨dst,.load t x,ty,pos,af,gd⟩ R w v:=AZ ht hd hx hb hj
theorem rz {t e : TypeId} {x i : Operand} {g len : Nat} {k : IntKind} {m : Int} (ht : P.underlying t = some (.array len e)) (fb : (P.info? e).map (·.size) = some 1)
    (hx:ev R x=.pointer (some ⟨g,0,none⟩)) (hi:ev R i=.int k m) (h0:0≤m) (h1:m<len):Ev P ⟨dst,.indexAddr t x i,ty,pos,af,gd⟩ R w (.pointer (some ⟨g,m.toNat,none⟩)):=by
  have hr:(0≤m∧m<(len:Int)):=⟨h0,h1⟩
  simp[Ev,execOp,hx,hi,ahY,aen,asIntOf,run_underlying ht,hr,fk (w:=w) fb,J3]
theorem yI {t : TypeId} {x : Operand} {g j f : Nat} {fs : Array Field} {fd : Field} (ht : P.underlying t = some (.struct fs)) (hf : fs[f]? = some fd) {s : Nat} (fb : (P.info? fd.type).map (·.size) = some s) (hs : s ≠ 0)
    (hx:ev R x=.pointer (some ⟨g,j,none⟩)):Ev P ⟨dst,.fieldAddr t x f,ty,pos,af,gd⟩ R w (.pointer (some ⟨g,j+fd.offset,none⟩)):=by
  simp[Ev,execOp,hx,ajl,aen,run_underlying ht,hf,fieldPlace,fk (w:=w) fb,hs,Tn]
theorem ah {t:TypeId} {x:Operand} {g j f:Nat} {fs:Array Field} {fd:Field} (ht:P.underlying t=some (.struct fs)) (hf:fs[f]?=some fd) {s:Nat} (fb:(P.info? fd.type).map (·.size)=some s) (hs:s≠0:=by decide) (hx:ev R x=.pointer (some ⟨g,j,none⟩):=by exact rfl):Ev P ⟨dst,.fieldAddr t x f,ty,pos,af,gd⟩ R w (.pointer (some ⟨g,j+fd.offset,none⟩)):=yI ht hf fb hs hx
theorem xW {t e : TypeId} {len : Nat} {parts : Array (Nat × Operand)} {xs : List Operand} {l : List α} (ht : P.underlying t = some (.slice e)) (fb : (P.info? e).map (·.size) = some 1)
    (hz:((P.info? e).bind (·.zero)).isSome=true) (ud:parts.toList=(xs.zipIdx 0).map fun x=>(x.2,x.1)) (hv:xs.map (ev R)=l.map enc) (hc:∀a,(enc a).cells=#[enc a])
    (hlen:len=l.length) (iI:0<len) (Co:len≤2^24)
    (h:∀w',eG enc e w' w.heap.size (.slice (some ⟨w.heap.size,0,none⟩) len len) l→iu w' w.heap.size (l.map enc) e→Ext w w'→w'.heap.size=w.heap.size+1→K (.slice (some ⟨w.heap.size,0,none⟩) len len) w'):
    eL P ⟨dst,.buildSlice t len parts,ty,pos,af,gd⟩ R w K:=by
  cases ui:P.info? e with
  |none=>simp[ui]at fb
  |some ie=>
    simp only[ui,aet,aeo,aiY]at fb hz
    obtain⟨z,Ur⟩:=agV.1 hz
    have UP:(parts.map fun(i,x)=>(i,ev R x)).toList=((l.map enc).zipIdx 0).map fun x=>(x.2,x.1):=by
      rw[af6,ud,←hv,List.zipIdx_map,aem,aem]
      rfl
    have hf:ae3 (fun i=>some (i*ie.size,ie.size)) ((aiJ (len*ie.size)).map (z.cells[·%z.cells.size]!)) (parts.map fun(i,x)=>(i,ev R x)).toList=some (l.map enc).toArray:=by
      rw[UP,fb]
      exact Great.fill_flat _ _ (fun v hv=>by obtain⟨a,_,rfl⟩:=adf.1 hv;exact hc a) (by simp[hlen])
    have fG:=run_buildSlice (P:=P) w t e len (parts.map fun(i,x)=>(i,ev R x)) _ ie z ht ui Ur (by rw[fb];omega) (by rw[fb];omega) hf
    refine eL.value (v:=.slice (some ⟨w.heap.size,0,none⟩) len len) (w':=w.alloc (.cells (l.map enc).toArray e)) ?_ (h _ ?_ ?_ (Ext.alloc _ _) (by simp))
    · simp[execOp,fG]
    · unfold eG
      subst hlen
      refine⟨by simp,.inr ⟨w.heap.size,l.length,(l.map enc).toArray,rfl,ac3 _,?_,ac3 _,by unfold maxLen;omega,by simp,?_⟩⟩
      · rw[heap_alloc_new]
      · rw[acX (by simp)]
    · have := iu.new w (l.map enc).toArray e
      simpa using this
theorem AN (w:World) (b:Addr) (m:Nat) (a:Addr):(w.freeze b m).cell? a=w.cell? a:=by
  unfold ah7
  by_cases hm:m=0
  · rw[if_pos hm]
  · rw [if_neg hm]
    simp only[World.cell?,ahF]
    by_cases h2:b.block=a.block
    · rw [if_pos h2]
      cases hq:w.heap[a.block]? with
      |none=>simp
      |some o=>cases o<;>simp
    · rw[if_neg h2]
theorem CJ (w:World) (b:Addr) (m:Nat):Mod (fun k=>k=b.block) w (w.freeze b m):=by
  unfold ah7
  by_cases hm:m=0
  · rw[if_pos hm];exact Mod.refl _ _
  · rw [if_neg hm]
    refine⟨rfl,rfl,rfl,by simp,fun k hk hM=>?_⟩
    simp only[ahF];rw[if_neg (fun e=>hM e.symm)]
theorem AM (w:World) (b:Addr) (m:Nat):(w.freeze b m).heap.size=w.heap.size:=by unfold ah7;split<;>simp
theorem zQ {t e : TypeId} {x : Operand} {v : Value} {l : List α} (ht : P.underlying t = some (.slice e)) (he : P.underlying e = some (.int .u8)) (hs : Sl enc w v l) (hx : ev R x = v) {ad : Addr} {m c : Nat} (hv : v = .slice (some ad) m c)
    (h:∀w',Sl enc w' v l→Mod (fun k=>v.ownBlock=some k) w w'→w'.heap.size=w.heap.size→K v w'):eL P ⟨dst,.convert t t x,ty,pos,af,gd⟩ R w K:=by
  have key:∃w',(markStringish ad).run P w=.ok () w'∧(∀a,w'.cell? a=w.cell? a)∧Mod (fun k=>k=ad.block) w w'∧w'.heap.size=w.heap.size:=by
    unfold markStringish
    cases hq:w.shape? ad.block with
    |none=>exact⟨w,by simp[shape,ajd,hq],fun _=>rfl,Mod.refl _ _,rfl⟩
    |some p=>
      obtain⟨e',k⟩:=p
      exact⟨w.freeze ⟨ad.block,k,none⟩ 1,by simp[shape,freeze,ajd,hq],AN _ _ _,CJ w ⟨ad.block,k,none⟩ 1,AM _ _ _⟩
  obtain⟨w',fG,fE,U0,fb⟩:=key
  subst hv
  refine eL.value (v:=.slice (some ad) m c) (w':=w') ?_ (h w' ?_ (U0.mono fun i _ e=>by simp[afQ,e]) fb)
  · simp[execOp,hx,convert,run_underlying ht,run_underlying he,fG]
  · obtain ⟨A, c', he', h1, h2, hc⟩ := hs
    cases he'
    exact⟨_,_,rfl,h1,h2,fun j v hv=>by obtain⟨PQ,ha,vW⟩:=hc j v hv;exact⟨PQ,ha,by rw[fE];exact vW⟩⟩
end
end Go.Rl
namespace Go.Rl
open Go.ChangeShapes Go.WideShapes
section
variable {H:Type} {enc:TypeId×Value→H} {P:Program} {W:World} {base:Nat} {held:Bool} {t e:TypeId} {d:DataW H} {ps:List MemPlace} {ts:List TypeId} {ds:List (DataW H)} {j:Nat} {v:Value}
theorem wf_u8 {a:Int} (h:(aje .u8 a).wf=true):0≤a∧a<256:=by simp[Lit.wf,akp,akq,adR,adS]at h;omega
theorem wf_i64 {a:Int} (h:(aje .i64 a).wf=true): -9223372036854775808≤a∧a≤9223372036854775807:=by simp[Lit.wf,akp,akq,adR,adS]at h;omega
end
end Go.Rl
namespace Go.Rl
open Go.RowKit
section
variable {P:Program} {n:Nat} {Q:fQ} {R:Nat→Value} {w:World} {K:Value→World→Prop} {dst:Option Tmp} {ty:TypeId} {pos:String} {af:Array Edge} {gd:Option (Nat×Bool)}
variable {α:Type} {enc:α→Value}
theorem yG {x y:Operand} {k:IntKind} {a b:Int} {pW:Array TypeId} (hx:ev R x=.int k a) (hy:ev R y=.int k b):Ev P ⟨dst,.call ⟨.builtin .min,#[x,y],pW⟩,ty,pos,af,gd⟩ R w (.int k (min a b)):=by
  have h:(if b<a then b else a)=min a b:=by omega
  simp[Ev,execOp,resolve,invoke,builtin,ajv,ajw,hx,hy,h]
theorem uO {x y:Operand} {k:IntKind} {a b:Int} {pW:Array TypeId} (hx:ev R x=.int k a) (hy:ev R y=.int k b):Ev P ⟨dst,.call ⟨.builtin .max,#[x,y],pW⟩,ty,pos,af,gd⟩ R w (.int k (max a b)):=by
  have h:(if a<b then b else a)=max a b:=by omega
  simp[Ev,execOp,resolve,invoke,builtin,Builtin.max_,Builtin.max2,hx,hy,h]
theorem tQ (z:Value) (m:Nat):(madeCells #[z] m)=(acY m z).toArray:=by
  have:=toList_madeCells_one z m
  rw[←this]
theorem Df {t e : TypeId} {x : Operand} {z : α} {bytes : Nat} {k : IntKind} {m : Int} (ht : P.underlying t = some (.slice e)) (gE : (P.info? e).map (fun i => (i.zero, i.size, i.bytes)) = some (some (enc z), 1, bytes)) (hz : (enc z).cells = #[enc z])
    (hx:ev R x=.int k m) (h0:0≤m) (kx:bytes*m.toNat≤281474976710656) (Yp:m≤9223372036854775807)
    (h:∀w',eG enc e w' w.heap.size (.slice (some ⟨w.heap.size,0,none⟩) m.toNat m.toNat) (acY m.toNat z)→iu w' w.heap.size (acY m.toNat (enc z)) e→Ext w w'→w'.heap.size=w.heap.size+1→K (.slice (some ⟨w.heap.size,0,none⟩) m.toNat m.toNat) w'):
    eL P ⟨dst,.makeSlice t x x,ty,pos,af,gd⟩ R w K:=by
  obtain⟨j,rfl⟩:∃j:Nat,m=j:=⟨m.toNat,by omega⟩
  rw[aee]at*
  have fG:=run_make_row' (P:=P) t e (enc z) bytes ht gE hz k k j kx (by omega) w
  rw[tQ]at fG
  refine eL.value (v:=.slice (some ⟨w.heap.size,0,none⟩) j j) (w':=w.alloc (.cells (acY j (enc z)).toArray e)) ?_ (h _ ?_ ?_ (Ext.alloc _ _) (by simp))
  · simp[execOp,hx,fG]
  · unfold eG
    refine⟨by simp,.inr ⟨w.heap.size,j,(acY j (enc z)).toArray,by simp,ac3 _,?_,by simp,by unfold maxLen;omega,by simp,?_⟩⟩
    · rw[heap_alloc_new]
    · rw[acX (by simp)];simp
  · have := iu.new w (acY j (enc z)).toArray e
    simpa using this
theorem xX {t tu e : TypeId} {s x : Operand} {v : Value} {l m : List UInt8} {base : Nat} (ht : P.underlying t = some (.slice e)) (Zz : P.underlying tu = some .string)
    (gE:(P.info? e).map (fun i=>(i.zero,i.size,i.bytes))=some (some (.int .u8 0),1,1)) (hs:eG vb e w base v l) (hx:ev R s=v) (hy:ev R x=str m)
    (hlen:l.length+m.length≤140737488355328) (IU:base≤w.heap.size)
    (h:∀v' w',eG vb e w' base v' (l++m)→Mod (fun k=>v.ownBlock=some k) w w'→K v' w'):
    eL P ⟨dst,.call ⟨.builtin .append,#[s,x],#[t,tu]⟩,ty,pos,af,gd⟩ R w K:=by
  have Cu:∃i,P.info? e=some i∧i.zero=some (.int .u8 0)∧i.size=1∧i.bytes=1:=by
    cases hq:P.info? e with
    |none=>simp[hq]at gE
    |some i=>simp[hq]at gE;exact⟨i,rfl,gE⟩
  obtain⟨i,hi,Dt,xi,ON⟩:=Cu
  have fb:(⟨m.toArray⟩:ByteArray).size=m.length:=by simp[ahE]
  obtain⟨v',w',fG,Cp,Av,_⟩:=Lib.run_append_own_string (P:=P) (w:=w) base t tu ty e i ht Zz hi Dt xi ON v l.length (l.map vb) hs ⟨m.toArray⟩ (by unfold maxLen;omega) (by omega) IU
  have OX:Lib.strCells ⟨m.toArray⟩=m.map vb:=by simp[Lib.strCells,vb]
  refine eL.value (v:=v') (w':=w') ?_ (h v' w' ?_ (Mod.tI Av))
  · simp only [execOp, resolve, invoke, builtin, adW, adb, ad6, hx, hy, str]
    simp[fG]
  · unfold eG
    rw[fb,OX]at Cp
    simpa using Cp
theorem AX {x:Operand} {a:Addr} (hx:ev R x=.pointer (some a)):Ev P ⟨dst,.nilCheck x,ty,pos,af,gd⟩ R w (.pointer (some a)):=by simp[Ev,execOp,hx]
theorem bM {x:Operand} {a:Addr} (hx:ev R x=.pointer (some a):=by exact rfl):Ev P ⟨dst,.nilCheck x,ty,pos,af,gd⟩ R w (.pointer (some a)):=AX hx
theorem Ef {t e:TypeId} {p:Option Addr} (ht:P.underlying t=some (.pointer e)):(Op.equal t (.pointer p) (.pointer none)).run P w=.ok (decide (p=none)) w:=by
  show(ahO (9999+1) t (.pointer p) (.pointer none)).run P w=_
  generalize 9999=d
  cases p<;>simp[ahO,run_underlying ht]
theorem jQ {xt yt e:TypeId} {x y:Operand} {p:Option Addr} (ht:P.underlying xt=some (.pointer e)) (hx:ev R x=.pointer p) (hy:ev R y=.pointer none):
    Ev P ⟨dst,.binOp .eql xt x y yt,ty,pos,af,gd⟩ R w (.bool (decide (p=none))):=by
  have h:=Ef (w:=w) (p:=p) ht
  simp only[Ev,execOp,hx,hy,eqGuard,binOp]
  simp[h]
theorem Ex {f : FuncId} {fn : Func} {pW : Array TypeId} {x fv : Operand} {v1 : Value} {first captured : Array Value} (hf : P.funcs[f]? = some fn) (hn : (fn.name == "runtime.NumGoroutine") = false) (hb : fn.body.isSome = true)
    (IA:ev R fv=.func (.func f) first captured) (hx:ev R x=v1) (h:aM P f (first++#[v1]++captured) w K):eL P ⟨dst,.call ⟨.value fv,#[x],pW⟩,ty,pos,af,gd⟩ R w K:=
  eL.enter (f:=f) (args:=first++#[v1]++captured) (w':=w) (by
    subst hx
    have:=eu (P:=P) (w:=w) (first++#[ev R x]++captured) hf hn hb
    simp only[execOp,resolve,IA,aea,adW,adb,ad6,ady,ael,adI,invoke]
    exact this) h
theorem wT {f : FuncId} {fn : Func} {pW : Array TypeId} {x fv : Operand} {v1 : Value} (hf : P.funcs[f]? = some fn) (hn : (fn.name == "runtime.NumGoroutine") = false) (hb : fn.body.isSome = true)
    (IA:ev R fv=.func (.func f) #[] #[]) (hx:ev R x=v1) (h:aM P f #[v1] w K):eL P ⟨dst,.call ⟨.value fv,#[x],pW⟩,ty,pos,af,gd⟩ R w K:=Ex hf hn hb IA hx h
theorem A3 {t : TypeId} {parts : Array (Nat × Operand)} {ps : List (Nat × Value)} {z : Value} {fs : Array Field} {places : Array (Nat × Nat)} {cs : List Value} (ht : P.underlying t = some (.struct fs)) (hz : (P.info? t).map (·.zero) = some (some z))
    (Ql:∀w,(fs.mapM fun(f:Field)=>do pure (f.offset,←sizeOf f.type)).run P w=.ok places w) {pl:List (Nat×Operand)} (hp:parts.toList=pl) (EW:(pl.map fun(i,x)=>(i,ev R x))=ps) (hf:ae3 (places[·]?) z.cells ps=some cs.toArray):
    Ev P ⟨dst,.build t parts,ty,pos,af,gd⟩ R w (.agg cs.toArray):=by
  have Cj:(zeroValue t).run P w=.ok z w:=by
    cases hq:P.info? t with
    |none=>simp[hq]at hz
    |some i=>
      have:i.zero=some z:=by simpa[hq]using hz
      simp[zeroValue,typeInfo,hq,this]
  have Oh:(parts.map fun(i,x)=>(i,ev R x)).toList=ps:=by rw[af6,hp,EW]
  simp only[Ev,execOp,akr,ady,Cj,adI,run_underlying ht,Ql,Oh,hf,ael]
theorem Fo {t e : TypeId} {x hi : Operand} {v : Value} {l : List α} {k : IntKind} {b : Int} (ht : P.underlying t = some (.slice e)) (fb : (P.info? e).map (·.size) = some 1)
    (hs:Sl enc w v l) (hx:ev R x=v) (nd:ev R hi=.int k b) {mx:Operand} (Qm:ev R mx=.int k b) (h1:0≤b) (h2:b≤l.length):
    Ev P ⟨dst,.slice t x none (some hi) (some mx),ty,pos,af,gd⟩ R w (match v with|.slice A _ _=>.slice (if b.toNat=0 then A else A.map (·.add (0*1))) b.toNat b.toNat|v=>v):=by
  obtain⟨A,c,rfl,HT,hm,hc⟩:=hs
  have qC:0≤b∧b≤(c:Int):=⟨by omega,by omega⟩
  have MT:0≤b∧b≤max b 0:=⟨by omega,by omega⟩
  simp[Ev,execOp,hx,nd,Qm,af5,agA,run_underlying ht,afr,afB,asIntOf,qC,MT,fk (w:=w) fb]
def Fv (v:Value) (hi:Nat):Value:=match v with
  |.slice A _ _=>.slice A hi hi
  |v=>v
theorem PG {t e : TypeId} {x hi : Operand} {v : Value} {l : List α} {k : IntKind} {b : Int} (ht : P.underlying t = some (.slice e)) (fb : (P.info? e).map (·.size) = some 1)
    (hs:Sl enc w v l) (hx:ev R x=v) (nd:ev R hi=.int k b) {mx:Operand} (Qm:ev R mx=.int k b) (h1:0≤b) (h2:b≤l.length):
    Ev P ⟨dst,.slice t x none (some hi) (some mx),ty,pos,af,gd⟩ R w (Fv v b.toNat):=by
  have h:=Fo (dst:=dst) (ty:=ty) (pos:=pos) (af:=af) (gd:=gd) ht fb hs hx nd Qm h1 h2
  obtain⟨A,c,rfl,HT,hm,hc⟩:=hs
  have e0:(if b.toNat=0 then A else A.map (·.add (0*1)))=A:=by
    split
    · rfl
    · cases A<;>rfl
  simp only[e0]at h
  exact h
theorem Sl.Fv {v:Value} {hi:Nat} {l:List α} (h:Sl enc w v l) (nd:hi≤l.length):Sl enc w (Fv v hi) (l.take hi):=by
  obtain⟨A,c,rfl,h1,h2,hc⟩:=h
  have hlen:(l.take hi).length=hi:=by simp;omega
  refine⟨A,hi,by rw[hlen];rfl,by omega,by omega,?_⟩
  have:=hc.take hi
  simpa[ajj]using this
theorem CT {v:Value} {l:List α} (h:Sl enc w v l) (hi:Nat):(Rl.Fv v hi).ownBlock=v.ownBlock:=by
  obtain⟨A,c,rfl,_⟩:=h
  cases A<;>rfl
end
theorem oc {n:Nat} {R:Nat→Value} {ops:Array Oper} {a:Act} (ha:AtR n R a) {j d:Nat} (hj:(ops[j]?).bind (·.dst)=some d) (mZ:d<n) (hb:R d=undef):yielded ops a.tmps j=none:=by
  have h1:a.tmps[d]?=some undef:=by
    have:=ha.lC d
    have hl:d<a.tmps.size:=by rw[ha.size];exact mZ
    simp[hl]at this
    simp[hl,this,hb]
  simp[yielded,hj,h1,undef]
theorem RL.NZ {P : Program} {n : Nat} {Q : fQ} {R : Nat → Value} {w : World} {ops : Array Oper} {o : Oper} {rest : List Oper} {j : Nat} {want : Bool} {d : Nat} (hg : o.guard = some (j, want)) (hj : (ops[j]?).bind (·.dst) = some d) (mZ : d < n)
    (hb:R d=undef) (hd:eR n o.dst=true) (h:RL P n ops Q rest (fu R o.dst undef) w):
    RL P n ops Q (o::rest) R w:=fun a ha=>by
  refine wpList_step fun K hK=>?_
  rw[if_neg (by simp[adJ,hg,oc ha hj mZ hb])]
  exact hK _ _ (h _ (ha.put hd undef))
theorem RL.iA {P:Program} {n:Nat} {Q:fQ} {R:Nat→Value} {w:World} {ops:Array Oper} {o:Oper} {rest:List Oper} {j:Nat} {want:Bool} {d:Nat} (h:RL P n ops Q rest (fu R o.dst undef) w) (hg:o.guard=some (j,want):=by exact rfl) (hj:(ops[j]?).bind (·.dst)=some d:=by exact rfl) (mZ:d<n:=by decide) (hb:R d=undef:=by exact rfl) (hd:eR n o.dst=true:=by exact rfl):RL P n ops Q (o::rest) R w:=RL.NZ hg hj mZ hb hd h
end Go.Rl
namespace Go.Rl
open Go.RowKit
section
variable {P:Program} {n:Nat} {Q:fQ} {R:Nat→Value} {w:World} {K:Value→World→Prop} {dst:Option Tmp} {ty:TypeId} {pos:String} {af:Array Edge} {gd:Option (Nat×Bool)}
variable {α:Type} {enc:α→Value}
theorem dJ {ty : TypeId} {g : Nat} {t : TypeId} {cs : List Value} {d : TypeDesc} (hb : iu w g cs t) (hu : P.underlying ty = some d)
    (hd:(match d with|.struct _|.array _ _=>true|_=>false)=true) (hi:(P.info? ty).map (·.size)=some cs.length):(loadVar ty ⟨g,0,none⟩).run P w=.ok (.agg cs.toArray) w:=
  run_loadVar_row (P:=P) w g t ty cs.toArray (0,0) d hb hu hd (by simpa using hi)
theorem RV.eB {fn : Func} {p u : Tmp} {ty : TypeId} (h : fn.results = #[.cell p ty, .tmp u]) {g : Nat} {v : Value}
    (hp:R p=.pointer (some ⟨g,0,none⟩)) (hc:(loadVar ty ⟨g,0,none⟩).run P w=.ok v w):RV P fn n R w (.tuple #[v,R u]):=fun a ha=>by
  have h1:=ha.lC p;have h2:=ha.lC u
  rw[hp]at h1
  rw[afA]at h1 h2
  simp[results,h,h1,h2,hc,asAddr]
theorem AY {f:FuncId} {captured:Array Operand} {vs:Array Value} (h:captured.map (ev R)=vs):Ev P ⟨dst,.makeFunc (.func f) #[] captured,ty,pos,af,gd⟩ R w (.func (.func f) #[] vs):=by
  subst h
  simp[Ev,execOp,ajf]
abbrev Hd:=Option Addr×Nat×Nat
abbrev vh (h:Hd):Value:=.slice h.1 h.2.1 h.2.2
theorem kg (h:Hd):(vh h).oneCell'=true:=rfl
theorem Sl.hd {v:Value} {l:List α} (h:Sl enc w v l):∃a:Hd,v=vh a:=by obtain⟨A,c,rfl,_⟩:=h;exact⟨(A,l.length,c),rfl⟩
theorem Sl.cN {v:Value} {l:List α} (h:Sl enc w v l):v.cells=#[v]:=by obtain⟨A,c,rfl,_⟩:=h;rfl
theorem Sl.bW {v:Value} {l:List α} (h:Sl enc w v l):v.oneCell'=true:=by obtain⟨A,c,rfl,_⟩:=h;rfl
theorem Sl.Ug {M:Nat→Prop} {w w':World} {v:Value} {l:List α} (h:Sl enc w v l) (hm:Mod M w w') (hb:l≠[]→∀k,v.ownBlock=some k→¬M k):Sl enc w' v l:=by
  by_cases hl:l=[]
  · subst hl
    obtain⟨A,c,h1,h2,h3,h4⟩:=h
    exact⟨A,c,h1,h2,h3,Cells.nil _ _⟩
  · exact h.mod hm (hb hl)
end
end Go.Rl
namespace Go.Rl
open Go.RowKit
structure Atom where
  dT:Nat→Prop
  says:World→Prop
  kp:∀{w w':World},(∀k,dT k→k<w.heap.size→w'.heap[k]?=w.heap[k]?)→says w→says w'
structure aI (w0:World) (F:Nat→Prop) (w:World) (L:List Atom):Prop where
  mod:Mod F w0 w
  says:∀(i:Nat) a,L[i]?=some a→a.says w
  low:∀(i:Nat) a,L[i]?=some a→∀k,a.dT k→(F k∨w0.heap.size≤k)∧k<w.heap.size
  sep:∀(i j:Nat) a b,i≠j→L[i]?=some a→L[j]?=some b→∀k,a.dT k→¬b.dT k
abbrev none_:Nat→Prop:=fun _=>False
section
variable {w0 w w':World} {F:Nat→Prop} {L M:List Atom} {a a' b:Atom}
theorem aI.nil (w:World) (F:Nat→Prop):aI w F w []:=⟨Mod.refl _ _,by simp,by simp,by simp⟩
theorem aI.bc (h:aI w0 none_ w L):Ext w0 w:=h.mod
theorem aI.size (h:aI w0 F w L):w0.heap.size≤w.heap.size:=h.mod.size
theorem aI.step {G:Nat→Prop} (h:aI w0 F w L) (hm:Mod G w w') (hF:∀k,k<w.heap.size→G k→F k∨w0.heap.size≤k) (hG:∀(i:Nat) a,L[i]?=some a→∀k,a.dT k→¬G k):aI w0 F w' L:=
  ⟨⟨hm.os.trans h.mod.os,hm.tape.trans h.mod.tape,hm.output.trans h.mod.output,acR h.mod.size hm.size,fun k hk hM=>
      (hm.block k (ad7 hk h.mod.size) fun e=>(hF k (ad7 hk h.mod.size) e).elim hM (fun h=>absurd hk (agh.2 h))).trans (h.mod.block k hk hM)⟩,
    fun i a ha=>a.kp (fun k hk cD=>hm.block k cD (hG i a ha k hk)) (h.says i a ha),
    fun i a ha k hk=>⟨(h.low i a ha k hk).1,ad7 (h.low i a ha k hk).2 hm.size⟩,h.sep⟩
theorem aI.ext (h:aI w0 F w L) (he:Ext w w'):aI w0 F w' L:=h.step he (fun _ _ e=>e.elim) (fun _ _ _ _ _ e=>e)
theorem aI.add (h:aI w0 F w L) (hs:a.says w) (hf:∀k,a.dT k→w0.heap.size≤k∧k<w.heap.size) (hd:∀(i:Nat) b,L[i]?=some b→∀k,b.dT k→¬a.dT k):aI w0 F w (a::L):=by
  refine⟨h.mod,?_,?_,?_⟩
  · intro i b hb
    cases i with
    |zero=>cases hb;exact hs
    |succ i=>exact h.says i b (by simpa using hb)
  · intro i b hb
    cases i with
    |zero=>cases hb;exact fun k hk=>⟨.inr (hf k hk).1,(hf k hk).2⟩
    |succ i=>exact h.low i b (by simpa using hb)
  · intro i j b c oN hb hc
    cases i with
    |zero=>
      cases hb
      cases j with
      |zero=>exact absurd rfl oN
      |succ j=>exact fun k hk jb=>hd j c (by simpa using hc) k jb hk
    |succ i=>
      cases j with
      |zero=>cases hc;exact hd i b (by simpa using hb)
      |succ j=>exact h.sep i j b c (by omega) (by simpa using hb) (by simpa using hc)
theorem aI.push (h:aI w0 F w L) (he:Ext w w') (hs:a.says w') (hf:∀k,a.dT k→w.heap.size≤k∧k<w'.heap.size):aI w0 F w' (a::L):=
  (h.ext he).add hs (fun k hk=>⟨acR h.size (hf k hk).1,(hf k hk).2⟩) (fun i b hb k hk jb=>by
    have:=(h.low i b hb k hk).2
    have:=(hf k jb).1
    omega)
theorem aI.dw (h:aI w0 F w L) (i:Nat) (hi:L[i]?=some a) (hm:Mod a.dT w w') (hs:a'.says w') (hf:∀k,a'.dT k→(a.dT k∨w.heap.size≤k)∧k<w'.heap.size):aI w0 F w' (L.set i a'):=by
  have cD:i<L.length:=(acA.1 hi).1
  have zT:∀j c,j≠i→L[j]?=some c→∀k,c.dT k→¬a.dT k:=fun j c hj hc k hk jb=>h.sep j i c a hj hc hi k hk jb
  have get:∀j c,(L.set i a')[j]?=some c→(j=i∧c=a')∨(j≠i∧L[j]?=some c):=by
    intro j c hc
    rw[adi]at hc
    by_cases hj:i=j
    · subst hj
      rw[if_pos rfl,if_pos cD]at hc
      exact .inl ⟨rfl,(ac2 hc).symm⟩
    · rw [if_neg hj] at hc
      exact .inr ⟨fun e=>hj e.symm,hc⟩
  have up:∀k,a.dT k→F k∨w0.heap.size≤k:=fun k hk=>(h.low i a hi k hk).1
  refine⟨⟨hm.os.trans h.mod.os,hm.tape.trans h.mod.tape,hm.output.trans h.mod.output,acR h.mod.size hm.size,fun k hk hM=>
      (hm.block k (ad7 hk h.mod.size) fun e=>(up k e).elim hM (fun h=>absurd hk (agh.2 h))).trans (h.mod.block k hk hM)⟩,?_,?_,?_⟩
  · intro j c hc
    rcases get j c hc with⟨_,rfl⟩|⟨hj,hc⟩
    · exact hs
    · exact c.kp (fun k hk cD=>hm.block k cD (zT j c hj hc k hk)) (h.says j c hc)
  · intro j c hc k hk
    rcases get j c hc with⟨_,rfl⟩|⟨hj,hc⟩
    · exact⟨(hf k hk).1.elim (up k) (fun e=>.inr (acR h.size e)),(hf k hk).2⟩
    · exact⟨(h.low j c hc k hk).1,ad7 (h.low j c hc k hk).2 hm.size⟩
  · intro j j' c c' TJ hc vW k hk jb
    rcases get j c hc with⟨rfl,rfl⟩|⟨hj,hc⟩<;>rcases get j' c' vW with⟨rfl,rfl⟩|⟨OI,vW⟩
    · exact TJ rfl
    · rcases (hf k hk).1 with e | e
      · exact zT j' c' OI vW k jb e
      · exact absurd (h.low j' c' vW k jb).2 (agh.2 e)
    · rename_i TN
      rcases(hf k jb).1 with e|e
      · exact zT j c hj TN k hk e
      · exact absurd (h.low j c TN k hk).2 (agh.2 e)
    · exact h.sep j j' c c' TJ (by assumption) vW k hk jb
theorem aI.sub (h:aI w0 F w L) (p:List Nat) (hp:p.Nodup) (hM:M.map some=p.map (fun i=>L[i]?)):aI w0 F w M:=by
  have get:∀(j:Nat) c,M[j]?=some c→∃i,p[j]?=some i∧L[i]?=some c:=by
    intro j c hc
    have h1:(M.map some)[j]?=some (some c):=by rw[adE,hc];rfl
    rw[hM,adE]at h1
    cases hq:p[j]? with
    |none=>rw[hq]at h1;cases h1
    |some i=>rw[hq]at h1;exact⟨i,rfl,ac2 h1⟩
  refine⟨h.mod,?_,?_,?_⟩
  · intro j c hc
    obtain⟨i,_,hi⟩:=get j c hc
    exact h.says i c hi
  · intro j c hc
    obtain⟨i,_,hi⟩:=get j c hc
    exact h.low i c hi
  · intro j j' c c' TJ hc vW
    obtain⟨i,hj,hi⟩:=get j c hc
    obtain⟨i',OI,JV⟩:=get j' c' vW
    refine h.sep i i' c c' ?_ hi JV
    rintro rfl
    obtain⟨hl,e⟩:=acA.1 hj
    obtain⟨OC,e'⟩:=acA.1 OI
    exact TJ ((List.getElem_inj hp).1 (e.trans e'.symm))
theorem aI.fV (h:aI w0 F w L) (hc:aI w none_ w' M):aI w0 F w' (M++L):=by
  have he:=h.ext hc.mod
  have get:∀(j:Nat) c,(M++L)[j]?=some c→(j<M.length∧M[j]?=some c)∨(M.length≤j∧L[j-M.length]?=some c):=by
    intro j c hj
    rcases adh j M.length with h|h
    · rw[ads h]at hj;exact .inl ⟨h,hj⟩
    · rw[adp h]at hj;exact .inr ⟨h,hj⟩
  have new:∀(j:Nat) c,M[j]?=some c→∀k,c.dT k→w.heap.size≤k∧k<w'.heap.size:=fun j c hj k hk=>⟨(hc.low j c hj k hk).1.elim (fun e=>e.elim) id,(hc.low j c hj k hk).2⟩
  refine⟨he.mod,?_,?_,?_⟩
  · intro j c hj
    rcases get j c hj with⟨_,e⟩|⟨_,e⟩
    · exact hc.says _ c e
    · exact he.says _ c e
  · intro j c hj k hk
    rcases get j c hj with⟨_,e⟩|⟨_,e⟩
    · exact⟨.inr (acR h.size (new _ c e k hk).1),(new _ c e k hk).2⟩
    · exact he.low _ c e k hk
  · intro i j c d oN hi hj k hk jb
    rcases get i c hi with⟨l1,e1⟩|⟨l1,e1⟩<;>rcases get j d hj with⟨l2,e2⟩|⟨l2,e2⟩
    · exact hc.sep i j c d oN e1 e2 k hk jb
    · have:=(new _ c e1 k hk).1;have:=(h.low _ d e2 k jb).2;omega
    · have:=(new _ d e2 k jb).1;have:=(h.low _ c e1 k hk).2;omega
    · exact he.sep (i-M.length) (j-M.length) c d (by omega) e1 e2 k hk jb
end
section
variable {α:Type} {enc:α→Value} {w0 w w':World} {F:Nat→Prop} {L M:List Atom}
def Atom.own (enc:α→Value) (E:TypeId) (v:Value) (l:List α):Atom where
  dT k:=v.ownBlock=some k
  says w:=eG enc E w 0 v l
  kp:=by
    intro w w' h hs
    unfold eG aeY at*
    refine⟨hs.1,hs.2.imp id ?_⟩
    rintro⟨g,cap,cur,rfl,AB,hh,hr⟩
    exact⟨g,cap,cur,rfl,AB,(h g rfl (ado.1 hh).1).trans hh,hr⟩
def Atom.aJ (g:Nat) (cs:List Value) (T:TypeId):Atom where
  dT k:=k=g
  says w:=iu w g cs T
  kp:=by
    intro w w' h hs
    unfold iu at*
    exact(h g rfl (ado.1 hs).1).trans hs
def Atom.eE (enc:α→Value) (hs:List Hd) (ls:List (List α)):Atom where
  dT k:=∃h∈hs,(vh h).ownBlock=some k
  says w:=hs.length=ls.length∧∀(i:Nat) h l,hs[i]?=some h→ls[i]?=some l→Sl enc w (vh h) l∧∀k,(vh h).ownBlock=some k→k<w.heap.size
  kp:=by
    intro w w' hb ⟨h1,h2⟩
    refine⟨h1,fun i h l hi hl=>?_⟩
    have h3:=h2 i h l hi hl
    obtain⟨⟨A,c,he,g1,g2,hc⟩,cD⟩:=h3
    have key:∀k,(vh h).ownBlock=some k→w'.heap[k]?=w.heap[k]?:=fun k hk=>hb k ⟨h,acy hi,hk⟩ (cD k hk)
    refine⟨⟨A,c,he,g1,g2,fun j v hv=>?_⟩,fun k hk=>?_⟩
    · obtain ⟨ad, e, fE⟩ := hc j v hv
      refine⟨ad,e,?_⟩
      rw[aeP (key _ (by rw[he,e,block_add];rfl)),fE]
    · have e := key k hk
      have hl:=cD k hk
      rw[aeM hl]at e
      exact(ado.1 e).1
theorem aI.own (h:aI w0 F w L) (i:Nat) {E:TypeId} {v:Value} {l:List α} (hi:L[i]?=some (.own enc E v l)):eG enc E w 0 v l:=h.says i _ hi
theorem aI.sl (h:aI w0 F w L) (i:Nat) {E:TypeId} {v:Value} {l:List α} (hi:L[i]?=some (.own enc E v l)):Sl enc w v l:=(h.own i hi).sl
theorem aI.aJ (h:aI w0 F w L) (i:Nat) {g:Nat} {cs:List Value} {T:TypeId} (hi:L[i]?=some (.aJ g cs T)):iu w g cs T:=h.says i _ hi
theorem eG.lift {E:TypeId} {v:Value} {l:List α} {base nN:Nat} (h:eG enc E w base v l) (hb:∀k,v.ownBlock=some k→nN≤k):eG enc E w nN v l:=by
  unfold eG aeY at*
  refine⟨h.1,h.2.imp id ?_⟩
  rintro⟨g,cap,cur,rfl,_,hr⟩
  exact⟨g,cap,cur,rfl,hb g rfl,hr⟩
theorem aI.fL (h:aI w0 none_ w L) (i:Nat) {E:TypeId} {v:Value} {l:List α} (hi:L[i]?=some (.own enc E v l)):eG enc E w w0.heap.size v l:=
  (h.own i hi).lift fun k hk=>(h.low i _ hi k hk).1.elim (fun e=>e.elim) id
theorem aI.dD (h:aI w0 F w L) (enc:α→Value) (E:TypeId):aI w0 F w (.own enc E (.slice none 0 0) []::L):=
  h.add (eG.nil _ _ _ _) (fun k hk=>by cases hk) (fun _ _ _ _ _ hk=>by cases hk)
theorem aI.cc (h:aI w0 F w L) {E:TypeId} {v:Value} {l:List α} (ho:eG enc E w' w.heap.size v l) (he:Ext w w'):aI w0 F w' (.own enc E v l::L):=
  h.push he (ho.lower (adO _)) (fun k hk=>ho.lt k hk)
theorem aI.Dd (h:aI w0 F w L) {g:Nat} {cs:List Value} {T:TypeId} (hb:iu w' g cs T) (he:Ext w w') (hg:w.heap.size≤g):aI w0 F w' (.aJ g cs T::L):=
  h.push he hb (fun k hk=>by cases hk;exact⟨hg,hb.lt⟩)
end
section
variable {P:Program} {n:Nat} {Q:fQ} {R:Nat→Value} {w0 w:World} {F:Nat→Prop} {L:List Atom} {K:Value→World→Prop} {dst:Option Tmp} {ty:TypeId} {pos:String} {af:Array Edge} {gd:Option (Nat×Bool)}
variable {α:Type} {enc:α→Value}
theorem b9 {t e : TypeId} {s x : Operand} {v u : Value} {l m : List α} {z : Value} {bytes : Nat} (ht : P.underlying t = some (.slice e))
    (gE:(P.info? e).map (fun i=>(i.zero,i.size,i.bytes))=some (some z,1,bytes)) (hz:z.cells.size=1) (h1:∀a,(enc a).oneCell'=true)
    (hN:aI w0 F w L) (i:Nat) (hi:L[i]?=some (.own enc e v l)) (hx:ev R s=v) (hu:Sl enc w u m) (hy:ev R x=u) (hlen:(l.length+m.length)*bytes≤140737488355328) (kx:0<bytes)
    (h:∀v' w',aI w0 F w' (L.set i (.own enc e v' (l++m)))→K v' w'):
    eL P ⟨dst,.call ⟨.builtin .append,#[s,x],#[t,t]⟩,ty,pos,af,gd⟩ R w K:=
  iS ht gE hz h1 (hN.own i hi) hx hu hy hlen kx (adO _) fun v' w' ho hm hk=>h v' w' <| hN.dw i hi hm ho fun k jb=>by
    have cD:=(ho.lt k jb).2
    refine⟨?_,cD⟩
    rcases hk with e|e
    · exact .inl (e.symm.trans jb)
    · exact .inr (Nat.le_of_eq (ac2 (e.symm.trans jb)))
theorem ki {t e : TypeId} {x : Operand} {z : α} {bytes : Nat} {k : IntKind} {m : Int} (ht : P.underlying t = some (.slice e)) (gE : (P.info? e).map (fun i => (i.zero, i.size, i.bytes)) = some (some (enc z), 1, bytes)) (hz : (enc z).cells = #[enc z])
    (hN:aI w0 F w L) (hx:ev R x=.int k m) (h0:0≤m) (kx:bytes*m.toNat≤281474976710656) (Yp:m≤9223372036854775807)
    (h:∀v w',aI w0 F w' (.own enc e v (acY m.toNat z)::L)→K v w'):
    eL P ⟨dst,.makeSlice t x x,ty,pos,af,gd⟩ R w K:=
  Df ht gE hz hx h0 kx Yp fun w' ho _ he _=>h _ w' (hN.cc ho he)
theorem cw {t e : TypeId} {len : Nat} {parts : Array (Nat × Operand)} {xs : List Operand} {l : List α} (ht : P.underlying t = some (.slice e)) (fb : (P.info? e).map (·.size) = some 1)
    (hz:((P.info? e).bind (·.zero)).isSome=true) (ud:parts.toList=(xs.zipIdx 0).map fun x=>(x.2,x.1)) (hv:xs.map (ev R)=l.map enc) (hc:∀a,(enc a).cells=#[enc a])
    (hlen:len=l.length) (iI:0<len) (Co:len≤2^24) (hN:aI w0 F w L)
    (h:∀g w',aI w0 F w' (.own enc e (.slice (some ⟨g,0,none⟩) len len) l::L)→K (.slice (some ⟨g,0,none⟩) len len) w'):
    eL P ⟨dst,.buildSlice t len parts,ty,pos,af,gd⟩ R w K:=
  xW ht fb hz ud hv hc hlen iI Co fun w' ho _ he _=>h _ w' (hN.cc ho he)
theorem bz {t : TypeId} {z : Value} {cs : List Value} (hz : (P.info? t).map (·.zero) = some (some z)) (hc : z.cells = cs.toArray) (hN : aI w0 F w L)
    (h:∀g w',aI w0 F w' (.aJ g cs t::L)→K (.pointer (some ⟨g,0,none⟩)) w'):eL P ⟨dst,.alloc t,ty,pos,af,gd⟩ R w K:=
  pw hz hc fun w' hb he _=>h _ w' (hN.Dd hb he (ac3 _))
theorem bL {t : TypeId} {x : Operand} {v : Value} {cs : List Value} (hx : ev R x = v) (hc : v.cells = cs.toArray) (hN : aI w0 F w L)
    (h:∀g w',aI w0 F w' (.aJ g cs t::L)→K (.pointer (some ⟨g,0,none⟩)) w'):eL P ⟨dst,.box t x,ty,pos,af,gd⟩ R w K:=
  G3 hx hc fun w' hb he _=>h _ w' (hN.Dd hb he (ac3 _))
theorem ca {t : TypeId} {x y : Operand} {g j : Nat} {v : Value} {cs : List Value} {T : TypeId} (fb : (P.info? t).map (·.size) = some 1)
    (hx:ev R x=.pointer (some ⟨g,j,none⟩)) (hy:ev R y=v) (hv:v.cells=#[v]) (h1:v.oneCell'=true) (hN:aI w0 F w L) (i:Nat) (hi:L[i]?=some (.aJ g cs T)) (hj:j<cs.length)
    (h:∀w',aI w0 F w' (L.set i (.aJ g (cs.set j v) T))→K undef w'):eL P ⟨dst,.store t x y,ty,pos,af,gd⟩ R w K:=
  lE fb hx hy hv h1 (hN.aJ i hi) hj fun w' hb hm hs=>h w' (hN.dw i hi hm hb fun k hk=>⟨.inl hk,by cases hk;exact hb.lt⟩)
theorem aR {t : TypeId} {x y : Operand} {g : Nat} {v : Value} {cs vs : List Value} {T : TypeId} (fb : (P.info? t).map (·.size) = some vs.length)
    (hx:ev R x=.pointer (some ⟨g,0,none⟩)) (hy:ev R y=v) (hv:v.cells=vs.toArray) (h1:∀u∈vs,u.oneCell'=true) (hN:aI w0 F w L) (i:Nat) (hi:L[i]?=some (.aJ g cs T)) (hl:vs.length=cs.length)
    (h:∀w',aI w0 F w' (L.set i (.aJ g vs T))→K undef w'):eL P ⟨dst,.store t x y,ty,pos,af,gd⟩ R w K:=
  ns fb hx hy hv h1 (hN.aJ i hi) hl fun w' hb hm hs=>h w' (hN.dw i hi hm hb fun k hk=>⟨.inl hk,by cases hk;exact hb.lt⟩)
theorem cu {t : TypeId} {x y : Operand} {E : TypeId} {v u : Value} {l : List α} {a : α} {m : Nat} (fb : (P.info? t).map (·.size) = some 1)
    (hN:aI w0 F w L) (i:Nat) (hi:L[i]?=some (.own enc E v l)) (hx:ev R x=dL v m) (hm:m<l.length) (hy:ev R y=u) (hu:u=enc a) (hc:(enc a).cells=#[enc a]) (h1:(enc a).oneCell'=true)
    (h:∀w',aI w0 F w' (L.set i (.own enc E v (l.set m a)))→K undef w'):eL P ⟨dst,.store t x y,ty,pos,af,gd⟩ R w K:=
  qV fb (hN.own i hi) hx hm hy hu hc h1 fun w' ho La hs=>h w' (hN.dw i hi La ho fun k hk=>⟨.inl hk,(ho.lt k hk).2⟩)
end
def oW (F:Nat→Prop) {α:Type} (v:Value) (l:List α):Prop:=l≠[]→∀k,v.ownBlock=some k→¬F k
theorem oW.none {α:Type} (v:Value) (l:List α):oW none_ v l:=fun _ _ _ h=>h
theorem Sl.off {α:Type} {enc:α→Value} {M:Nat→Prop} {w w':World} {v:Value} {l:List α} (h:Sl enc w v l) (ho:oW M v l) (hm:Mod M w w'):Sl enc w' v l:=h.Ug hm ho
end Go.Rl
namespace Go.Rl
open Go.RowKit
theorem sJ {a:Int} (h0: -9223372036854775808≤a) (h1:a≤9223372036854775807):adC.wrap a=a:=wrap_i64 h0 h1
theorem Nr {a:Int} (h0:0≤a) (h1:a≤18446744073709551615):aeb.wrap a=a:=by
  simp only[aeg,adR,adS,aeh]
  simp;omega
section
variable {P:Program} {n:Nat} {Q:fQ} {R:Nat→Value} {w0 w:World} {F:Nat→Prop} {L:List Atom} {K:Value→World→Prop} {dst:Option Tmp} {ty:TypeId} {pos:String} {af:Array Edge} {gd:Option (Nat×Bool)}
variable {α:Type} {enc:α→Value}
theorem cV {xt:TypeId} {x:Operand} {p:Prop} [Decidable p] (hx:ev R x=.bool (decide p)):Ev P ⟨dst,.unOp .not xt x,ty,pos,af,gd⟩ R w (.bool (decide (¬p))):=by
  have h:=jY (P:=P) (w:=w) (dst:=dst) (ty:=ty) (pos:=pos) (af:=af) (gd:=gd) (xt:=xt) hx
  rwa [←decide_not]at h
theorem aI.l0 (h:aI w0 F w L) (i:Nat) {E:TypeId} {v:Value} {l l':List α} (hi:L[i]?=some (.own enc E v l)) (e:l=l'):aI w0 F w (L.set i (.own enc E v l')):=by
  subst e
  have:L.set i (.own enc E v l)=L:=by
    apply afU
    intro j
    rw[adi]
    split
    · subst j; split
      · exact hi.symm
      · rename_i h1;rw[ad2 (by omega)]
    · rfl
  rw[this];exact h
theorem dG {t : TypeId} {x : Operand} {g j m : Nat} {cs : List Value} {T : TypeId} {d : TypeDesc} (hu : P.underlying t = some d) (hd : d.isRow = true)
    (fb:(P.info? t).map (·.size)=some m) (hx:ev R x=.pointer (some ⟨g,j,none⟩)) (hb:iu w g cs T) (hj:j+m≤cs.length):Ev P ⟨dst,.load t x,ty,pos,af,gd⟩ R w (.agg ((cs.drop j).take m).toArray):=by
  have hl:((cs.drop j).take m).length=m:=by simp;omega
  have:=run_loadVar_mid (P:=P) w g j t ((cs.drop j).take m) d (fun i v hi=>by
    rw[hb.cell]
    rw[ad8]at hi
    split at hi
    · rwa [afI]at hi
    · cases hi) hu hd (by rw[hl];exact fb)
  simp[Ev,execOp,hx,age,aen,this]
theorem px {t : TypeId} {x y : Operand} {g j : Nat} {v : Value} {cs vs : List Value} {T : TypeId} (fb : (P.info? t).map (·.size) = some vs.length)
    (hx:ev R x=.pointer (some ⟨g,j,none⟩)) (hy:ev R y=v) (hv:v.cells=vs.toArray) (h1:∀u∈vs,u.oneCell'=true) (hN:aI w0 F w L) (i:Nat) (hi:L[i]?=some (.aJ g cs T)) (hl:j+vs.length≤cs.length)
    (h:∀w',aI w0 F w' (L.set i (.aJ g (cs.take j++vs++cs.drop (j+vs.length)) T))→K undef w'):eL P ⟨dst,.store t x y,ty,pos,af,gd⟩ R w K:=by
  have hb:=hN.aJ i hi
  have ic:(storeCells ⟨g,j,none⟩ vs).run P w=.ok () (w.setRow g (cs.take j++vs++cs.drop (j+vs.length)).toArray):=by
    have:=run_storeCells_at (P:=P) g j T vs 0 cs.toArray w hb (by simpa using hl) h1
    simpa using this
  have AB:iu (w.setRow g (cs.take j++vs++cs.drop (j+vs.length)).toArray) g (cs.take j++vs++cs.drop (j+vs.length)) T:=setRow_heap w g _ _ T _ hb
  refine eL.unit (w':=w.setRow g (cs.take j++vs++cs.drop (j+vs.length)).toArray) ?_ (h _ (hN.dw i hi ⟨rfl,rfl,rfl,by simp,fun k hk hM=>setRow_other w g k _ hM⟩ AB fun k hk=>⟨.inl hk,by cases hk;exact AB.lt⟩))
  simp[execOp,hx,hy,ahZ,aen,storeVar,hv,fk (w:=w) fb,ic]
theorem dP {f:FuncId} {captured:Array Operand} {xs:List Operand} {vs:List Value} (hx:captured=xs.toArray) (h:xs.map (ev R)=vs):Ev P ⟨dst,.makeFunc (.func f) #[] captured,ty,pos,af,gd⟩ R w (.func (.func f) #[] vs.toArray):=by
  subst hx h
  exact AY (by simp)
theorem eG.l0 {E:TypeId} {base:Nat} {v:Value} {l l':List α} (h:eG enc E w base v l) (e:l=l'):eG enc E w base v l':=e▸h
theorem wS {f : FuncId} {fn : Func} {pW : Array TypeId} {fv : Operand} {_u : Operand} {_w : Value} {first captured args : Array Value} (hf : P.funcs[f]? = some fn) (hn : (fn.name == "runtime.NumGoroutine") = false) (hb : fn.body.isSome = true)
    (xn:first++#[]++captured=args) (IA:ev R fv=.func (.func f) first captured) (h:aM P f args w K):eL P ⟨dst,.call ⟨.value fv,#[],pW⟩,ty,pos,af,gd⟩ R w K:=
  eL.enter (f:=f) (args:=args) (w':=w) (by
    subst xn
    have:=eu (P:=P) (w:=w) (first++#[]++captured) hf hn hb
    simp only[execOp,resolve,IA,aea,adW,adb,ad6,ady,ael,adI,invoke]
    exact this) h
theorem cG {f : FuncId} {fn : Func} {pW : Array TypeId} {fv : Operand} {x0 : Operand} {v0 : Value} {first captured args : Array Value} (hf : P.funcs[f]? = some fn) (hn : (fn.name == "runtime.NumGoroutine") = false) (hb : fn.body.isSome = true)
    (xn:first++#[v0]++captured=args) (IA:ev R fv=.func (.func f) first captured) (ub:ev R x0=v0) (h:aM P f args w K):eL P ⟨dst,.call ⟨.value fv,#[x0],pW⟩,ty,pos,af,gd⟩ R w K:=
  eL.enter (f:=f) (args:=args) (w':=w) (by
    subst ub xn
    have:=eu (P:=P) (w:=w) (first++#[ev R x0]++captured) hf hn hb
    simp only[execOp,resolve,IA,aea,adW,adb,ad6,ady,ael,adI,invoke]
    exact this) h
theorem wR {f : FuncId} {fn : Func} {pW : Array TypeId} {fv : Operand} {x0 x1 : Operand} {v0 v1 : Value} {first captured args : Array Value} (hf : P.funcs[f]? = some fn) (hn : (fn.name == "runtime.NumGoroutine") = false) (hb : fn.body.isSome = true)
    (xn:first++#[v0,v1]++captured=args) (IA:ev R fv=.func (.func f) first captured) (ub:ev R x0=v0) (sC:ev R x1=v1) (h:aM P f args w K):eL P ⟨dst,.call ⟨.value fv,#[x0,x1],pW⟩,ty,pos,af,gd⟩ R w K:=
  eL.enter (f:=f) (args:=args) (w':=w) (by
    subst ub sC xn
    have:=eu (P:=P) (w:=w) (first++#[ev R x0,ev R x1]++captured) hf hn hb
    simp only[execOp,resolve,IA,aea,adW,adb,ad6,ady,ael,adI,invoke]
    exact this) h
theorem Jh (off:Nat):∀(vs:List Value) (k:Nat) (cells:List Value),off+k+vs.length≤cells.length→
    (vs.zipIdx k).foldl (fun(cs:Array Value) (x:Value×Nat)=>cs.setIfInBounds (off+x.2) x.1) cells.toArray=(cells.take (off+k)++vs++cells.drop (off+k+vs.length)).toArray:=by
  intro vs
  induction vs with
  |nil=>intro k cells h;simp
  |cons v vs ih=>
    intro k cells h
    simp only[acF]at h
    simp only[List.zipIdx_cons,ai3,List.setIfInBounds_toArray]
    rw[ih (k+1) (cells.set (off+k) v) (by simp;omega)]
    have hk:off+k<cells.length:=by omega
    congr 1
    rw[afY,if_pos hk]
    have h1:(cells.take (off+k)).length=off+k:=by simp;omega
    have e1:(cells.take (off+k)++v::cells.drop (off+k+1)).take (off+(k+1))=cells.take (off+k)++[v]:=by
      rw[List.take_append,acX (by omega),h1]
      congr 1
      rw[show off+(k+1)-(off+k)=1 by omega];simp
    have e2:(cells.take (off+k)++v::cells.drop (off+k+1)).drop (off+(k+1)+vs.length)=cells.drop (off+k+(vs.length+1)):=by
      rw[List.drop_append,aeW (by omega),h1]
      rw[show off+(k+1)+vs.length-(off+k)=vs.length+1 by omega]
      simp only[aeE,List.drop_succ_cons,afs]
      congr 1;omega
    rw[e1,e2]
    simp
theorem aP {place : Nat → Option (Nat × Nat)} {cells : List Value} {i off : Nat} {v : Value} {vs : List Value} {rest : List (Nat × Value)} {r : Option (Array Value)} (hc : v.cells = vs.toArray) (hp : place i = some (off, vs.length)) (hl : off + vs.length ≤ cells.length)
    (h:ae3 place (cells.take off++vs++cells.drop (off+vs.length)).toArray rest=r):ae3 place cells.toArray ((i,v)::rest)=r:=by
  rw[ae3]
  simp only[hp,hc]
  have hf:=Jh off vs 0 cells hl
  simp only[afJ]at hf
  have h2:¬(cells.length<off+vs.length):=by omega
  simp only[agP,ne_eq,not_true_eq_false,decide_false,Bool.false_or,gt_iff_lt,decide_eq_true_eq,if_neg h2]
  have hz:vs.toArray.zipIdx=(vs.zipIdx 0).toArray:=by apply Array.ext';simp
  rw[hz,List.foldl_toArray,hf];exact h
theorem bT {t : TypeId} {parts : Array (Nat × Operand)} {ps : List (Nat × Value)} {z : Value} {fs : Array Field} {places : Array (Nat × Nat)} {zc cs : List Value} (ht : P.underlying t = some (.struct fs)) (hz : (P.info? t).map (·.zero) = some (some z))
    (Ql:∀w,(fs.mapM fun(f:Field)=>do pure (f.offset,←sizeOf f.type)).run P w=.ok places w) {pl:List (Nat×Operand)} (hp:parts.toList=pl) (EW:(pl.map fun(i,x)=>(i,ev R x))=ps) (Rf:z.cells=zc.toArray) (hf:ae3 (places[·]?) zc.toArray ps=some cs.toArray):
    Ev P ⟨dst,.build t parts,ty,pos,af,gd⟩ R w (.agg cs.toArray):=A3 ht hz Ql hp EW (by rw[Rf];exact hf)
def GL (Q:fQ):fQ:=fun e R w=>match e with
  |.goto _=>False
  |e=>Q e R w
theorem RW.scope {c:Code} (h:RW P n c (GL Q) R w):RW P n (.scope c) Q R w:=fun a ha=>by
  refine wp_scope_straight (wp_mono (h a ha) ?_)
  rintro e a' w' ⟨R',hR,hQ⟩
  cases e with
  |goto l=>exact hQ.elim
  |_=>exact⟨R',hR,hQ⟩
theorem ta (h:Q .ret R w):GL Q .ret R w:=h
theorem RW.label {l:Nat} (h:Q .normal R w):RW P n (.label l) Q R w:=fun _ ha=>wp_label ⟨R,ha,h⟩
end
def b7 (M:List Atom):Nat→Prop:=fun k=>∃a∈M,a.dT k
section
variable {w0 w w':World} {F:Nat→Prop} {L M N:List Atom} {a:Atom} {α:Type} {enc:α→Value}
theorem aI.di (h:aI w0 F w L) (p:List Nat) (hp:p.Nodup) (hM:M.map some=p.map (fun i=>L[i]?)):aI w (b7 M) w M:=by
  have hs:=h.sub p hp hM
  exact⟨Mod.refl _ _,hs.says,fun i a ha k hk=>⟨.inl ⟨a,acy ha,hk⟩,(hs.low i a ha k hk).2⟩,hs.sep⟩
theorem aI.dh {M':List Atom} (h:aI w0 F w (M++N)) (hc:aI w (b7 M) w' M'):aI w0 F w' (M'++N):=by
  have Fc:∀(j:Nat) c,N[j]?=some c→(M++N)[M.length+j]?=some c:=fun j c hj=>by rw[adp (by omega)];simpa using hj
  have split:∀(j:Nat) c,(M'++N)[j]?=some c→(j<M'.length∧M'[j]?=some c)∨(M'.length≤j∧N[j-M'.length]?=some c):=by
    intro j c hj
    rcases adh j M'.length with h|h
    · rw[ads h]at hj;exact .inl ⟨h,hj⟩
    · rw[adp h]at hj;exact .inr ⟨h,hj⟩
  have M5:∀k,b7 M k→∃(i:Nat) (b:Atom),i<M.length∧(M++N)[i]?=some b∧b.dT k:=by
    rintro k ⟨b,hb,hk⟩
    obtain⟨i,hi⟩:=agc.1 hb
    have hl:=(acA.1 hi).1
    exact⟨i,b,hl,by rw[ads hl];exact hi,hk⟩
  have Q8:∀k,b7 M k→(F k∨w0.heap.size≤k):=fun k hk=>by
    obtain⟨i,b,_,hi,hb⟩:=M5 k hk
    exact(h.low i b hi k hb).1
  have off:∀(j:Nat) c,N[j]?=some c→∀k,c.dT k→¬b7 M k:=fun j c hj k hk hm=>by
    obtain⟨i,b,hl,hi,hb⟩:=M5 k hm
    exact h.sep i (M.length+j) b c (by omega) hi (Fc j c hj) k hb hk
  have part:∀(i:Nat) c,M'[i]?=some c→∀(j:Nat) d,N[j]?=some d→∀k,c.dT k→¬d.dT k:=fun i c hi j d hj k hk jb=>by
    rcases(hc.low i c hi k hk).1 with e|e
    · exact off j d hj k jb e
    · have:=(h.low _ d (Fc j d hj) k jb).2;omega
  refine⟨⟨hc.mod.os.trans h.mod.os,hc.mod.tape.trans h.mod.tape,hc.mod.output.trans h.mod.output,acR h.mod.size hc.mod.size,fun k hk hM=>
      (hc.mod.block k (ad7 hk h.mod.size) fun e=>(Q8 k e).elim hM (fun h=>absurd hk (agh.2 h))).trans (h.mod.block k hk hM)⟩,?_,?_,?_⟩
  · intro j c hj
    rcases split j c hj with⟨_,e⟩|⟨_,e⟩
    · exact hc.says _ c e
    · exact c.kp (fun k hk cD=>hc.mod.block k cD (off _ c e k hk)) (h.says _ c (Fc _ c e))
  · intro j c hj k hk
    rcases split j c hj with⟨_,e⟩|⟨_,e⟩
    · have hl := hc.low _ c e k hk
      exact⟨hl.1.elim (Q8 k) (fun e=>.inr (acR h.size e)),hl.2⟩
    · have hl := h.low _ c (Fc _ c e) k hk
      exact⟨hl.1,ad7 hl.2 hc.mod.size⟩
  · intro i j c d oN hi hj k hk jb
    rcases split i c hi with⟨l1,e1⟩|⟨l1,e1⟩<;>rcases split j d hj with⟨l2,e2⟩|⟨l2,e2⟩
    · exact hc.sep i j c d oN e1 e2 k hk jb
    · exact part _ c e1 _ d e2 k hk jb
    · exact part _ d e2 _ c e1 k jb hk
    · exact h.sep (M.length+(i-M'.length)) (M.length+(j-M'.length)) c d (by omega) (Fc _ c e1) (Fc _ d e2) k hk jb
def fW (F:Nat→Prop) (enc:α→Value) (w:World) (hs:List Hd) (ls:List (List α)):Prop:=
  hs.length=ls.length∧∀(i:Nat) h l,hs[i]?=some h→ls[i]?=some l→Sl enc w (vh h) l∧oW F (vh h) l
theorem fW.nil (F:Nat→Prop) (enc:α→Value) (w:World):fW F enc w [] []:=⟨rfl,fun i h l hi=>by simp at hi⟩
theorem fW.cons {h:Hd} {l:List α} {hs:List Hd} {ls:List (List α)} (h1:Sl enc w (vh h) l) (h2:oW F (vh h) l) (ht:fW F enc w hs ls):fW F enc w (h::hs) (l::ls):=by
  refine⟨by simp[ht.1],fun i h' l' hi hl=>?_⟩
  cases i with
  |zero=>cases hi;cases hl;exact⟨h1,h2⟩
  |succ i=>exact ht.2 i h' l' (by simpa using hi) (by simpa using hl)
theorem fW.mod {hs:List Hd} {ls:List (List α)} (h:fW F enc w hs ls) (hm:Mod F w w'):fW F enc w' hs ls:=
  ⟨h.1,fun i h' l hi hl=>⟨(h.2 i h' l hi hl).1.off (h.2 i h' l hi hl).2 hm,(h.2 i h' l hi hl).2⟩⟩
end
section
variable {w0 w w':World} {F:Nat→Prop} {L M N:List Atom} {α:Type} {enc:α→Value}
theorem aI.jX (h:aI w0 F w L) (enc:α→Value):aI w0 F w (.eE enc [] []::L):=
  h.add ⟨rfl,fun i h l hi=>by simp at hi⟩ (fun k hk=>by obtain⟨h,hh,_⟩:=hk;cases hh) (fun _ _ _ _ _ hk=>by obtain⟨h,hh,_⟩:=hk;cases hh)
theorem aI.fm (h:aI w0 F w L) (i:Nat) {hs:List Hd} {ls:List (List α)} (hi:L[i]?=some (.eE enc hs ls)):fW none_ enc w hs ls:=by
  have hf:(Atom.eE enc hs ls).says w:=h.says i _ hi
  exact⟨hf.1,fun q h' l hq hl=>⟨(hf.2 q h' l hq hl).1,oW.none _ _⟩⟩
theorem fW.ext {hs:List Hd} {ls:List (List α)} (h:fW none_ enc w hs ls) (he:Ext w w'):fW none_ enc w' hs ls:=h.mod he
end
section
variable {P:Program} {n:Nat} {Q:fQ} {R:Nat→Value} {w0 w w':World} {F:Nat→Prop} {L:List Atom} {K:Value→World→Prop} {dst:Option Tmp} {ty:TypeId} {pos:String} {af:Array Edge} {gd:Option (Nat×Bool)}
variable {α:Type} {enc:α→Value}
def Atom.sl (enc:α→Value) (v:Value) (l:List α):Atom where
  dT k:=v.ownBlock=some k
  says w:=Sl enc w v l∧∀k,v.ownBlock=some k→k<w.heap.size
  kp:=by
    intro w w' hb ⟨⟨A,c,he,g1,g2,hc⟩,cD⟩
    have key:∀k,v.ownBlock=some k→w'.heap[k]?=w.heap[k]?:=fun k hk=>hb k hk (cD k hk)
    refine⟨⟨A,c,he,g1,g2,fun j v hv=>?_⟩,fun k hk=>?_⟩
    · obtain ⟨ad, e, fE⟩ := hc j v hv
      refine⟨ad,e,?_⟩
      rw[aeP (key _ (by rw[he,e,block_add];rfl)),fE]
    · have e := key k hk
      have hl:=cD k hk
      rw[aeM hl]at e
      exact(ado.1 e).1
theorem aI.QQ (h:aI w0 F w L) (i:Nat) {v:Value} {l:List α} (hi:L[i]?=some (.sl enc v l)):Sl enc w v l:=(h.says i _ hi).1
theorem zR {src dt e : TypeId} {x : Operand} {l : List UInt8} (hs : P.underlying src = some .string) (hd : P.underlying dt = some (.slice e)) (he : P.underlying e = some (.int .u8)) (hx : ev R x = str l) (hlen : l.length ≤ 140737488355328) (hN : aI w0 F w L)
    (h:∀v w',aI w0 F w' (.sl vb v l::L)→K v w'):eL P ⟨dst,.convert src dt x,ty,pos,af,gd⟩ R w K:=by
  have fG:=run_bytes_of_string (P:=P) w src dt e ⟨l.toArray⟩ hs hd he
  have fb:(⟨l.toArray⟩:ByteArray).size=l.length:=by simp[ahE]
  rw[fb]at fG
  have MD:=grownCap_ge w l.length 0 e
  have TL:grownCap w l.length 0 e≤maxLen:=grownCap_le_maxLen w l.length 0 e (by unfold maxLen;omega)
  generalize grownCap w l.length 0 e=cap at fG MD TL
  have K9:(w.drew.alloc (.cells (bytesRow ⟨l.toArray⟩ cap) e ((bytesRow ⟨l.toArray⟩ cap).size,(bytesRow ⟨l.toArray⟩ cap).size+1))).heap[w.heap.size]?=some (.cells (bytesRow ⟨l.toArray⟩ cap) e ((bytesRow ⟨l.toArray⟩ cap).size,(bytesRow ⟨l.toArray⟩ cap).size+1)):=by
    have:=heap_alloc_new w.drew (.cells (bytesRow ⟨l.toArray⟩ cap) e ((bytesRow ⟨l.toArray⟩ cap).size,(bytesRow ⟨l.toArray⟩ cap).size+1))
    exact this
  have iZ:Ext w (w.drew.alloc (.cells (bytesRow ⟨l.toArray⟩ cap) e ((bytesRow ⟨l.toArray⟩ cap).size,(bytesRow ⟨l.toArray⟩ cap).size+1))):=(Ext.drew w).trans (Ext.alloc _ _)
  have kN:Sl vb (w.drew.alloc (.cells (bytesRow ⟨l.toArray⟩ cap) e ((bytesRow ⟨l.toArray⟩ cap).size,(bytesRow ⟨l.toArray⟩ cap).size+1))) (.slice (some ⟨w.heap.size,0,none⟩) l.length cap) l:=by
    refine⟨_,cap,rfl,MD,TL,fun j v hj=>⟨_,rfl,?_⟩⟩
    rw[J3,cell_of_row _ _ _ _ _ _ K9]
    rw[adE]at hj
    cases hq:l[j]? with
    |none=>rw[hq]at hj;cases hj
    |some b=>
      rw[hq]at hj
      simp only[aet,aeo]at hj
      subst hj
      have Sz:=(acA.1 hq).1
      have hb:=(acA.1 hq).2
      simp[bytesRow,vb,Array.getElem?_append,Sz,hb]
  refine eL.value (v:=.slice (some ⟨w.heap.size,0,none⟩) l.length cap) ?_ (h _ _ (hN.push iZ ⟨kN,fun k hk=>?_⟩ fun k hk=>?_))
  · simp only [execOp, hx, str]
    simp[fG]
  · cases (ac2 hk);simp
  · cases (ac2 hk);exact⟨ac3 _,by simp⟩
end
section
variable {w0 w w':World} {F:Nat→Prop} {L M N:List Atom} {α:Type} {enc:α→Value}
theorem aI.turn {a a':Atom} (h:aI w0 F w L) (i:Nat) (hi:L[i]?=some a) (hs:a'.says w) (hf:∀k,a'.dT k→a.dT k):aI w0 F w (L.set i a'):=
  h.dw i hi (Mod.refl _ _) hs fun k hk=>⟨.inl (hf k hk),(h.low i a hi k (hf k hk)).2⟩
theorem aI.Q1 (h:aI w0 F w L) (i:Nat) {E:TypeId} {v:Value} {l:List α} (hi:L[i]?=some (.own enc E v l)):aI w0 F w (L.set i (.sl enc v l)):=
  h.turn i hi ⟨(h.own i hi).sl,fun k hk=>((h.own i hi).lt k hk).2⟩ (fun _ hk=>hk)
theorem aI.Jk {h:Hd} {l:List α} {hs:List Hd} {ls:List (List α)} (hN:aI w0 F w (.sl enc (vh h) l::L)) (j:Nat) (hj:L[j]?=some (.eE enc hs ls)):aI w0 F w (L.set j (.eE enc (hs++[h]) (ls++[l]))):=by
  have ho:Sl enc w (vh h) l∧∀k,(vh h).ownBlock=some k→k<w.heap.size:=hN.says 0 _ rfl
  have hf:(Atom.eE enc hs ls).says w:=hN.says (j+1) _ (by simpa using hj)
  have cD:j<L.length:=(acA.1 hj).1
  have dT:∀k,(Atom.eE enc (hs++[h]) (ls++[l])).dT k→(Atom.eE enc hs ls).dT k∨(vh h).ownBlock=some k:=by
    rintro k ⟨h',hm,hk⟩
    rcases adl.1 hm with e|e
    · exact .inl ⟨h',e,hk⟩
    · rw[ade]at e;subst e;exact .inr hk
  have get:∀(i:Nat) c,(L.set j (.eE enc (hs++[h]) (ls++[l])))[i]?=some c→(i=j∧c=.eE enc (hs++[h]) (ls++[l]))∨(i≠j∧L[i]?=some c):=by
    intro i c hc
    rw[adi]at hc
    by_cases e:j=i
    · subst e;rw[if_pos rfl,if_pos cD]at hc;exact .inl ⟨rfl,(ac2 hc).symm⟩
    · rw[if_neg e]at hc;exact .inr ⟨fun x=>e x.symm,hc⟩
  have zT:∀(i:Nat) c,L[i]?=some c→(∀k,c.dT k→¬(vh h).ownBlock=some k)∧(i≠j→∀k,c.dT k→¬(Atom.eE enc hs ls).dT k):=fun i c hc=>
    ⟨fun k hk e=>hN.sep (i+1) 0 c _ (by omega) (by simpa using hc) rfl k hk e,fun hi k hk e=>hN.sep (i+1) (j+1) c _ (by omega) (by simpa using hc) (by simpa using hj) k hk e⟩
  refine⟨hN.mod,?_,?_,?_⟩
  · intro i c hc
    rcases get i c hc with⟨_,rfl⟩|⟨_,hc⟩
    · refine ⟨by simp [hf.1], fun q h' l' hq hl => ?_⟩
      rcases adh q hs.length with vR|vR
      · rw [ads vR] at hq
        rw[ads (by rw[←hf.1];exact vR)]at hl
        exact hf.2 q h' l' hq hl
      · rw [adp vR] at hq
        rw[adp (by rw[←hf.1];exact vR),←hf.1]at hl
        have hz:q-hs.length=0:=by
          rcases aeH (q-hs.length)with e|e
          · exact e
          · rw[ad2 (by simp;omega)]at hq;cases hq
        rw[hz]at hq hl
        cases hq;cases hl
        exact⟨ho.1,fun k hk=>ho.2 k hk⟩
    · exact hN.says (i+1) c (by simpa using hc)
  · intro i c hc k hk
    rcases get i c hc with⟨_,rfl⟩|⟨_,hc⟩
    · rcases dT k hk with e | e
      · exact hN.low (j+1) _ (by simpa using hj) k e
      · exact hN.low 0 _ rfl k e
    · exact hN.low (i+1) c (by simpa using hc) k hk
  · intro i i' c c' dY hc vW k hk jb
    rcases get i c hc with⟨rfl,rfl⟩|⟨hi,hc⟩<;>rcases get i' c' vW with⟨rfl,rfl⟩|⟨JV,vW⟩
    · exact dY rfl
    · rcases dT k hk with e | e
      · exact(zT i' c' vW).2 JV k jb e
      · exact(zT i' c' vW).1 k jb e
    · rcases dT k jb with e | e
      · exact(zT i c ‹_›).2 hi k hk e
      · exact(zT i c ‹_›).1 k hk e
    · exact hN.sep (i+1) (i'+1) c c' (by omega) (by simpa using ‹L[i]?=some c›) (by simpa using vW) k hk jb
theorem aI.kW {E:TypeId} {h:Hd} {l:List α} {hs:List Hd} {ls:List (List α)} (hN:aI w0 F w (.own enc E (vh h) l::L)) (j:Nat) (hj:L[j]?=some (.eE enc hs ls)):aI w0 F w (L.set j (.eE enc (hs++[h]) (ls++[l]))):=
  aI.Jk (h:=h) (l:=l) (hN.Q1 0 rfl) j hj
end
section
variable {P:Program} {R:Nat→Value} {w0 w w':World} {F:Nat→Prop} {L:List Atom} {K:Value→World→Prop} {dst:Option Tmp} {ty:TypeId} {pos:String} {af:Array Edge} {gd:Option (Nat×Bool)} {α:Type} {enc:α→Value}
theorem G4 {t e : TypeId} {parts : Array (Nat × Operand)} (enc : α → Value) (ht : P.underlying t = some (.slice e)) (fb : (P.info? e).map (·.size) = some 1) (ud : parts = #[]) (hN : aI w0 F w L)
    (h:∀v w',aI w0 F w' (.sl enc v []::L)→K v w'):eL P ⟨dst,.buildSlice t 0 parts,ty,pos,af,gd⟩ R w K:=by
  subst ud
  refine eL.value (v:=.slice (some ⟨w.heap.size,0,none⟩) 0 0) (w':=w.alloc (.cells #[] e)) ?_ (h _ _ (hN.push (Ext.alloc _ _) ⟨⟨_,0,rfl,ac3 _,by unfold maxLen;omega,Cells.nil _ _⟩,fun k hk=>?_⟩ fun k hk=>?_))
  · simp [execOp, Instr.buildSlice, run_underlying ht, fk (w := w) fb, ae3, newRow]
    congr 2
    apply Array.ext'
    simp
  · cases (ac2 hk);simp
  · cases (ac2 hk);exact⟨ac3 _,by simp⟩
end
end Go.Rl
namespace Go.Rl
open Go.ChangeShapes Go.WideShapes
inductive Sh where
  |int (k:IntKind)
  |bool
  |str
  |sl (e:Sh)
  |nil
  |cons (f:Sh) (r:Sh)
def Sh.cells:Sh→Nat
  |.int _|.bool|.str|.sl _=>1
  |.nil=>0
  |.cons f r=>f.cells+r.cells
def Sh.ty:Sh→Type
  |.int _=>Int
  |.bool=>Bool
  |.str=>List UInt8
  |.sl e=>List e.ty
  |.nil=>Unit
  |.cons f r=>f.ty×r.ty
def Sh.fX : (s : Sh) → s.ty → Nat
  |.int _,_=>1
  |.bool,_=>1
  |.str,l=>adg (α:=UInt8) l+1
  |.sl e,l=>(agy (α:=e.ty) e.fX l).sum+1
  |.nil,_=>0
  |.cons f r,a=>f.fX a.1+r.fX a.2
def Sh.rd (w : World) : (s : Sh) → List Value → s.ty → Prop
  |.int k,cs,n=>cs=[.int k n]∧(aje k n).wf=true
  |.bool,cs,b=>cs=[.bool b]
  |.str,cs,l=>cs=[Rl.str l]∧adg (α:=UInt8) l≤maxLen
  |.sl e,cs,l=>∃A c,cs=[.slice A (adg (α:=e.ty) l) c]∧adg (α:=e.ty) l≤c∧c≤maxLen∧∀(i:Nat) (a:e.ty),(show List e.ty from l)[i]?=some a→
      ∃lh,lh.length=e.cells∧e.rd w lh a∧∀(j:Nat) v,lh[j]?=some v→∃ad,A=some ad∧w.cell? (ad.add (i*e.cells+j))=some v
  |.nil,cs,_=>cs=[]
  |.cons f r,cs,a=>f.rd w (cs.take f.cells) a.1∧r.rd w (cs.drop f.cells) a.2
theorem Sh.nq {w : World} : ∀ (s : Sh) {cs : List Value} {a : s.ty}, s.rd w cs a → cs.length = s.cells
  |.int k,cs,a,h=>by rw[h.1];rfl
  |.bool,cs,a,h=>by rw[show cs=_ from h];rfl
  |.str,cs,a,h=>by rw[h.1];rfl
  |.sl e,cs,a,h=>by obtain⟨A,c,rfl,_⟩:=h;rfl
  |.nil,cs,a,h=>by rw[show cs=[]from h];rfl
  |.cons f r,cs,a,h=>by
    have h1:=f.nq h.1
    have h2:=r.nq h.2
    simp only[ac5,adq]at h1 h2
    simp only[Sh.cells]
    rcases adh cs.length f.cells with hl|hl
    · rw [Nat.min_eq_right (by omega)] at h1
      omega
    · omega
def Sh.fit (P : Program) : Sh → TypeId ⊕ (List Field × Nat) → Bool
  |.int k,.inl t=>match P.underlying t with
    |some (.int k')=>decide (k'=k)
    |_=>false
  |.bool,.inl t=>match P.underlying t with
    |some .bool=>true
    |_=>false
  |.str,.inl t=>match P.underlying t with
    |some .string=>true
    |_=>false
  |.sl e,.inl t=>match P.underlying t with
    |some (.slice te)=>P.cellsOf te == e.cells && e.fit P (.inl te)
    |_=>false
  |.nil,.inl t=>match P.underlying t with
    |some (.struct fs)=>fs.toList.isEmpty && P.cellsOf t == 0
    |_=>false
  |.cons f r,.inl t=>match P.underlying t with
    |some (.struct fs)=>match fs.toList with
      |fd::fds=>P.cellsOf t == f.cells+r.cells && fd.offset == 0 && P.cellsOf fd.type == f.cells && f.fit P (.inl fd.type) && r.fit P (.inr (fds,f.cells))
      |_=>false
    |_=>false
  |.nil,.inr (fds,_)=>fds.isEmpty
  |.cons f r,.inr (fds,off)=>match fds with
    |fd::fds=>fd.offset == off && P.cellsOf fd.type == f.cells && f.fit P (.inl fd.type) && r.fit P (.inr (fds,off+f.cells))
    |_=>false
  |_,.inr _=>false
structure FB (H:Type) where
  one:DataW H→Nat
  all:List (DataW H)→Nat
  nil:all []=0
  cons:∀d r,all (d::r)=one d+all r
  pos:∀d,1≤one d
  string:∀l,l.length+1≤one (.lit (.string l))
  slice:∀l r,all l+1≤one (.slice l r)
  agg:∀l,all l≤one (.agg l)
section
variable {H:Type} {enc:TypeId×Value→H} {P:Program} {w:World} {base:Nat} {spare:Nat→Bool} {held:Bool}
theorem FB.range (B:FB H) {α:Type} (D:Nat→DataW H) (m:α→Nat):∀(l:List α) (k:Nat),(∀(i:Nat) a,l[i]?=some a→m a≤B.one (D (k+i)))→(l.map m).sum≤B.all ((List.range' k l.length).map D):=by
  intro l
  induction l with
  |nil=>intro k _;simp
  |cons a l ih=>
    intro k h
    have h0:=h 0 a rfl
    have hr:=ih (k+1) (fun i b hb=>by have:=h (i+1) b (by simpa using hb);rwa [show k+1+i=k+(i+1) by omega])
    simp only[adb,ad4,acF,List.range'_succ,B.cons]
    simp only[afJ]at h0
    omega
theorem Sh.open (B:FB H):∀(s:Sh),
    (∀(t:TypeId) (fuel:Nat) (cs:List Value) (x:DataW H×List MemPlace),s.fit P (.inl t)=true→aey enc P w base spare held fuel t cs=some x→∃a,s.rd w cs a∧s.fX a≤B.one x.1)∧
    (∀(fds:List Field) (off:Nat) (n:Nat) (cs:List Value) (xs:List (DataW H×List MemPlace)),s.fit P (.inr (fds,off))=true→cs.length=off+s.cells→xs.length=fds.length→
      (∀(i:Nat) (f:Field),fds[i]?=some f→aey enc P w base spare held n f.type ((cs.drop f.offset).take (P.cellsOf f.type))=xs[i]?)→∃a,s.rd w (cs.drop off) a∧s.fX a≤B.all (xs.map (·.1))):=by
  intro s
  induction s with
  |int k=>
    refine⟨fun t fuel cs x hf h=>?_,fun _ _ _ _ _ hf=>by simp[Sh.fit]at hf⟩
    have ht:P.underlying t=some (.int k):=by
      simp only[Sh.fit]at hf
      split at hf
      · rename_i e;rw[e,of_decide_eq_true hf]
      · cases hf
    obtain⟨m,rfl,rfl,hw⟩:=ajg ht h
    exact⟨m,⟨rfl,hw⟩,B.pos _⟩
  |bool=>
    refine⟨fun t fuel cs x hf h=>?_,fun _ _ _ _ _ hf=>by simp[Sh.fit]at hf⟩
    have ht:P.underlying t=some .bool:=by
      simp only[Sh.fit]at hf
      split at hf
      · assumption
      · cases hf
    cases fuel with
    |zero=>simp[aey]at h
    |succ n=>
      unfold aey at h
      rw[ht]at h
      split at h<;>simp_all
      obtain rfl:=h
      exact⟨_,rfl,B.pos _⟩
  |str=>
    refine⟨fun t fuel cs x hf h=>?_,fun _ _ _ _ _ hf=>by simp[Sh.fit]at hf⟩
    have ht:P.underlying t=some .string:=by
      simp only[Sh.fit]at hf
      split at hf
      · assumption
      · cases hf
    cases fuel with
    |zero=>simp[aey]at h
    |succ n=>
      unfold aey at h
      rw[ht]at h
      split at h<;>simp_all
      rename_i s
      obtain⟨hl,rfl⟩:=h
      refine⟨s.data.toList,⟨by rw[←Gu],?_⟩,?_⟩
      · simpa using hl
      · simp only[Sh.fX];exact B.string _
  |sl e ih=>
    refine⟨fun t fuel cs x hf h=>?_,fun _ _ _ _ _ hf=>by simp[Sh.fit]at hf⟩
    simp only[Sh.fit]at hf
    split at hf
    · rename_i te ht
      simp only[adm,beq_iff_eq]at hf
      rcases ai4 ht h with⟨rfl,rfl⟩|⟨a,len,cap,m,n,D,Pl,rfl,hb,hl,hm,La,rfl,hx⟩
      · exact⟨[],⟨none,0,rfl,ac3 _,by unfold maxLen;omega,fun i a h=>by simp at h⟩,B.pos _⟩
      · have HR : len ≤ m := by rw [La]; split <;> omega
        have each:∀i,i<len→∃(a':e.ty) (lh:List Value),lh.length=e.cells∧e.rd w lh a'∧(∀(j:Nat) v,lh[j]?=some v→w.cell? (a.add (i*e.cells+j))=some v)∧e.fX a'≤B.one (D i):=by
          intro i hi
          obtain⟨lh,h1,h2⟩:=hx i (by omega)
          obtain⟨a',h3,h4⟩:=ih.1 te n lh _ hf.2 h2
          obtain⟨_,hlen,hc⟩:=aiD h1
          refine⟨a',lh,e.nq h3,h3,fun j v hj=>?_,h4⟩
          have Sz:=(acA.1 hj).1
          have:=hc j (by omega)
          rw[ajx,hf.1]at this
          rw[this,hj]
        have:∃l:List e.ty,l.length=len∧∀(i:Nat) a',l[i]?=some a'→∃(lh:List Value),lh.length=e.cells∧e.rd w lh a'∧(∀(j:Nat) v,lh[j]?=some v→w.cell? (a.add (i*e.cells+j))=some v)∧e.fX a'≤B.one (D i):=by
          clear h hx La HR hl
          induction len with
          |zero=>exact⟨[],rfl,fun i a' h=>by simp at h⟩
          |succ len Up=>
            obtain⟨l,MC,Ct⟩:=Up (fun i hi=>each i (by omega))
            obtain⟨a',lh,g1,g2,g3,g4⟩:=each len (by omega)
            refine⟨l++[a'],by simp[MC],fun i b hb=>?_⟩
            rcases adh i l.length with cD|MD
            · rw[ads cD]at hb;exact Ct i b hb
            · rw [adp MD] at hb
              have hz:i-l.length=0:=by
                rcases aeH (i-l.length)with e'|e'
                · exact e'
                · rw[ad2 (by simp;omega)]at hb;cases hb
              rw[hz]at hb
              have E2:i=len:=by omega
              subst E2
              cases hb
              exact⟨lh,g1,g2,g3,g4⟩
        obtain⟨l,MC,Ct⟩:=this
        subst MC
        refine⟨l,⟨some a,cap,rfl,hl,hm,fun i a' E8=>?_⟩,?_⟩
        · obtain ⟨lh, g1, g2, g3, _⟩ := Ct i a' E8
          exact⟨lh,g1,g2,fun j v hj=>⟨a,rfl,g3 j v hj⟩⟩
        · have hr := B.range D e.fX l 0 (fun i a' E8 => by rw [aeQ]; exact (Ct i a' E8).choose_spec.2.2.2)
          have hs:=B.slice ((adz l.length).map D) ((adz (m-l.length)).map fun j=>D (l.length+j))
          rw[←List.range_eq_range']at hr
          simp only[Sh.fX]
          exact acR (Nat.succ_le_succ hr) hs
    · cases hf
  |nil=>
    refine⟨fun t fuel cs x hf h=>?_,fun fds off n cs xs hf hl _ _=>?_⟩
    · simp only [Sh.fit] at hf
      split at hf
      · rename_i fs ht
        simp only[adm,beq_iff_eq]at hf
        obtain⟨xs,n,_,rfl,hl,_⟩:=afV ht h
        exact⟨(),adF (by omega),adO _⟩
      · cases hf
    · exact⟨(),adF (by simp only[Sh.cells]at hl;simp;omega),adO _⟩
  |cons f r Uq Uo=>
    have body:∀(fd:Field) (fds:List Field) (off n:Nat) (cs:List Value) (xs:List (DataW H×List MemPlace)),fd.offset=off→P.cellsOf fd.type=f.cells→f.fit P (.inl fd.type)=true→r.fit P (.inr (fds,off+f.cells))=true→
        cs.length=off+(f.cells+r.cells)→xs.length=(fd::fds).length→
        (∀(i:Nat) (g:Field),(fd::fds)[i]?=some g→aey enc P w base spare held n g.type ((cs.drop g.offset).take (P.cellsOf g.type))=xs[i]?)→∃a,(Sh.cons f r).rd w (cs.drop off) a∧(Sh.cons f r).fX a≤B.all (xs.map (·.1)):=by
      intro fd fds off n cs xs h1 h2 h3 h4 h5 h6 h7
      cases xs with
      |nil=>simp at h6
      |cons x xs=>
        have hx:=h7 0 fd rfl
        simp only[ahe]at hx
        rw[h1,h2]at hx
        obtain⟨a,ha,XB⟩:=Uq.1 fd.type n _ x h3 hx
        obtain⟨b,hb,Xz⟩:=Uo.2 fds (off+f.cells) n cs xs h4 (by omega) (by simpa using h6) (fun i g hg=>by have:=h7 (i+1) g (by simpa using hg);simpa using this)
        refine⟨(a,b),⟨ha,?_⟩,?_⟩
        · rw[afs];exact hb
        · simp only[Sh.fX,adb,B.cons];omega
    refine⟨fun t fuel cs x hf h=>?_,fun fds off n cs xs hf hl TC hx=>?_⟩
    · simp only [Sh.fit] at hf
      split at hf
      · rename_i fs ht
        split at hf
        · rename_i fd fds OR
          simp only[adm,beq_iff_eq]at hf
          obtain⟨⟨⟨⟨h0,h1⟩,h2⟩,h3⟩,h4⟩:=hf
          obtain⟨xs,n,_,rfl,hl,K6,hx⟩:=afV ht h
          have xj:fs.size=(fd::fds).length:=by rw[←OR];simp
          obtain⟨a,ha,hm⟩:=body fd fds 0 n cs xs h1 h2 h3 (by simpa using h4) (by omega) (by omega) (fun i g hg=>hx i g (by rw[←OR]at hg;simpa using hg))
          exact⟨a,by simpa using ha,acR hm (B.agg _)⟩
        · cases hf
      · cases hf
    · simp only [Sh.fit] at hf
      split at hf
      · rename_i fd fds
        simp only[adm,beq_iff_eq]at hf
        obtain⟨⟨⟨h1,h2⟩,h3⟩,h4⟩:=hf
        exact body fd fds off n cs xs h1 h2 h3 h4 (by simpa[Sh.cells]using hl) TC hx
      · cases hf
theorem Sh.QX {α:Type} {e:Sh} {c:Value} {l:List e.ty} {enc:α→Value} {f:e.ty→α} (hc:e.cells=1) (h:(Sh.sl e).rd w [c] l) (he:∀(i:Nat) a c',l[i]?=some a→e.rd w [c'] a→c'=enc (f a)):Sl enc w c (l.map f):=by
  obtain⟨A,cap,sE,h1,h2,h3⟩:=h
  cases sE
  refine⟨A,cap,by simp,by simpa using h1,h2,fun j v hj=>?_⟩
  rw[adE,adE]at hj
  cases hq:l[j]? with
  |none=>rw[hq]at hj;cases hj
  |some a=>
    rw[hq]at hj
    simp only[aet,aeo]at hj
    subst hj
    obtain⟨lh,g1,g2,g3⟩:=h3 j a hq
    rw[hc]at g1 g3
    obtain⟨c',rfl⟩:∃c',lh=[c']:=by
      cases lh with
      |nil=>cases g1
      |cons c' r=>cases r with
        |nil=>exact⟨c',rfl⟩
        |cons _ _=>simp at g1
    obtain⟨ad,e1,e2⟩:=g3 0 c' rfl
    refine⟨ad,e1,?_⟩
    rw[ahn,afJ]at e2
    rw[e2,he j a c' hq g2]
theorem Sh.Kx {k:IntKind} {c:Value} {l:List Int} (h:(Sh.sl (.int k)).rd w [c] l):Sl (acZ k) w c l∧∀n∈l,(aje k n).wf=true:=by
  have h1:=Sh.QX (e:=.int k) (enc:=acZ k) (f:=fun x:Int=>x) rfl h (fun i a c' _ hr=>by cases hr.1;rfl)
  have S9:Sl (acZ k) w c (agy (fun x:Int=>x) l):=h1
  rw[List.map_id']at S9
  refine⟨S9,fun n hn=>?_⟩
  obtain⟨i,hi⟩:=ac9 hn
  obtain⟨A,cap,_,_,_,h3⟩:=h
  obtain⟨lh,_,g2,_⟩:=h3 i n hi
  exact g2.2
end
section
variable {H:Type} {enc:TypeId×Value→H} {P:Program} {W:World} {base:Nat} {held:Bool} {t:TypeId} {d:DataW H} {ps:List MemPlace} {v:Value} {fs:Array Field}
theorem KG {s:Sh} (B:FB H) (hf:s.fit P (.inl t)=true) (h:ahP enc P W 0 (fun _=>true) held t v d ps):∃a:s.ty,s.rd W v.cells.toList a∧s.fX a≤B.one d:=by
  obtain⟨fuel,hx⟩:=h
  exact(s.open B).1 t fuel _ _ hf hx
end
end Go.Rl
namespace Go.Rl
open Go.RowKit
section
variable {κ:Type} [DecidableEq κ]
abbrev J4 (κ:Type):=κ×Value×Nat
def kA (ke:κ→Value) (l:List (J4 κ)):Array MapEntry:=(l.map fun e=>(⟨ke e.1,e.2.1,e.2.2⟩:MapEntry)).toArray
def kM (a : κ) : List (J4 κ) → Nat → Option (Nat × Value)
  |[],_=>none
  |e::r,i=>if a=e.1 then some (i,e.2.1)else kM a r (i+1)
structure KE (P:Program) (kt:TypeId) (ke:κ→Value):Prop where
  check:∀(a:κ) (e:Bool) (w:World),(afR e 10000 kt (ke a)).run P w=.ok () w
  find:∀(a:κ) (l:List (J4 κ)) (w:World),(ajm kt (ke a) (kA ke l).toList).run P w=.ok (kM a l 0) w
  bits:∀a,agz 10000 (ke a) (ke a)=true
def Atom.mp (ke:κ→Value) (b:Nat) (l:List (J4 κ)) (clock:Nat):Atom where
  dT k:=k=b
  says w:=w.heap[b]?=some (.map (kA ke l) clock)
  kp:=by
    intro w w' h hs
    exact(h b rfl (ado.1 hs).1).trans hs
end
section
variable {P:Program} {n:Nat} {Q:fQ} {R:Nat→Value} {w0 w:World} {F:Nat→Prop} {L:List Atom} {K:Value→World→Prop} {dst:Option Tmp} {ty:TypeId} {pos:String} {af:Array Edge} {gd:Option (Nat×Bool)}
variable {κ:Type} [DecidableEq κ] {ke:κ→Value} {l:List (J4 κ)} {clock b:Nat}
theorem aI.mp (h:aI w0 F w L) (i:Nat) (hi:L[i]?=some (.mp ke b l clock)):w.heap[b]?=some (.map (kA ke l) clock):=h.says i _ hi
theorem zS {t kt et:TypeId} (ke:κ→Value) (hN:aI w0 F w L) (h:∀b w',aI w0 F w' (.mp ke b [] 0::L)→K (.map (some b)) w'):eL P ⟨dst,.makeMap t none,ty,pos,af,gd⟩ R w K:=by
  refine eL.value (v:=.map (some w.heap.size)) (w':=w.alloc (.map #[] 0)) (by simp[execOp,Instr.makeMap]) (h _ _ (hN.push (Ext.alloc _ _) ?_ fun k hk=>?_))
  · show (w.alloc (.map #[] 0)).heap[w.heap.size]? = _
    rw[heap_alloc_new];rfl
  · cases hk;simp
theorem Kq {l':List (J4 κ)} {c':Nat} (hN:aI w0 F w L) (i:Nat) (hi:L[i]?=some (.mp ke b l clock)):aI w0 F {w with heap:=w.heap.setIfInBounds b (.map (kA ke l') c')} (L.set i (.mp ke b l' c')):=by
  have hb:=hN.mp i hi
  have hs:=MapKept.heap_set (o':=.map (kA ke l') c') hb
  have cD:b<w.heap.size:=(ado.1 hb).1
  exact hN.dw i hi ⟨rfl,rfl,rfl,by simp,fun k _ hM=>hs.2 k hM⟩ hs.1 fun k hk=>⟨.inl hk,by cases hk;simpa using cD⟩
theorem tj {t kt et:TypeId} {a:κ} {v:Value} (ht:P.underlying t=some (.map kt et)) (hk:KE P kt ke) (hb:w.heap[b]?=some (.map (kA ke l) clock)) (hf:kM a l 0=none):
    (ai5 t (.map (some b)) (ke a) v).run P w=.ok () {w with heap:=w.heap.setIfInBounds b (.map (kA ke (l++[(a,v,clock)])) (clock+1))}:=by
  have DB:=hk.find a l w
  rw[hf]at DB
  have he:(kA ke l).push {key:=ke a,val:=v,born:=clock}=kA ke (l++[(a,v,clock)]):=by simp[kA]
  simp[ai5,run_underlying ht,afZ hb,hk.check a,DB,MapKept.run_setObj_map _ hb,he]
theorem BZ {t kt et : TypeId} {m x y : Operand} {a : κ} {v : Value} (ht : P.underlying t = some (.map kt et)) (hk : KE P kt ke) (hN : aI w0 F w L) (i : Nat) (hi : L[i]? = some (.mp ke b l clock))
    (hm:ev R m=.map (some b)) (hx:ev R x=ke a) (hy:ev R y=v) (hf:kM a l 0=none) (h:∀w',aI w0 F w' (L.set i (.mp ke b (l++[(a,v,clock)]) (clock+1)))→K undef w'):eL P ⟨dst,.mapUpdate t m x y,ty,pos,af,gd⟩ R w K:=
  eL.unit (by simp[execOp,hm,hx,hy,tj ht hk (hN.mp i hi) hf]) (h _ (Kq hN i hi))
theorem pQ {t kt et:TypeId} {m x:Operand} {a:κ} {v:Value} {j:Nat} (ht:P.underlying t=some (.map kt et)) (hk:KE P kt ke) (hb:w.heap[b]?=some (.map (kA ke l) clock)) (hm:ev R m=.map (some b)) (hx:ev R x=ke a) (hf:kM a l 0=some (j,v)):
    Ev P ⟨dst,.lookup t m x true,ty,pos,af,gd⟩ R w (.tuple #[v,.bool true]):=by
  have DB:=hk.find a l w
  rw[hf]at DB
  simp[Ev,execOp,hm,hx,ajy,run_underlying ht,afZ hb,hk.check a,DB]
theorem pR {t kt et:TypeId} {m x:Operand} {a:κ} {z:Value} (ht:P.underlying t=some (.map kt et)) (hk:KE P kt ke) (hz:(P.info? et).map (·.zero)=some (some z)) (hb:w.heap[b]?=some (.map (kA ke l) clock)) (hm:ev R m=.map (some b)) (hx:ev R x=ke a) (hf:kM a l 0=none):
    Ev P ⟨dst,.lookup t m x true,ty,pos,af,gd⟩ R w (.tuple #[z,.bool false]):=by
  have DB:=hk.find a l w
  rw[hf]at DB
  have Cj:(zeroValue et).run P w=.ok z w:=by
    cases hq:P.info? et with
    |none=>simp[hq]at hz
    |some i=>
      have:i.zero=some z:=by simpa[hq]using hz
      simp[zeroValue,typeInfo,hq,this]
  simp[Ev,execOp,hm,hx,ajy,run_underlying ht,afZ hb,hk.check a,DB,Cj]
end
end Go.Rl
namespace Go.Rl
section
variable {P:Program} {ops:Array Oper} {Qa:Exit→Act→World→Prop} {S:World→Prop} {e:Nat}
def sL (P : Program) (ops : Array Oper) (Q : Exit → Act → World → Prop) (S : World → Prop) (e : Nat) : Nat → Array Bool → Act → World → Prop
  |0,bx,a,w=>adu .any ops bx=[]∧Q .normal a w
  |fuel+1,bx,a,w=>(adu .any ops bx=[]→Q .normal a w)∧
      ∀i∈adu .any ops bx,wpOp P ops Q i (fun a' w'=>(i≠e→S w')∧sL P ops Q S e fuel (bx.setIfInBounds i true) a' w') a w
theorem oB : ∀ (fuel : Nat) (bx : Array Bool) (a : Act) (w : World), sL P ops Qa S e fuel bx a w → wpAny P .any ops Qa fuel bx a w
  |0,_,_,_,h=>h
  |fuel+1,_,_,_,h=>⟨h.1,fun i hi=>wpOp_mono (fun a' w' h'=>oB fuel _ a' w' h'.2) (h.2 i hi)⟩
def waits (ops:Array Oper) (e i:Nat):Bool:=match ops[e]? with
  |some o=>o.after.any fun x=>aft .any x && x.on == i
  |none=>true
theorem zj {i:Nat} {bx:Array Bool} (hw:waits ops e i=true) (hi:i∈adu .any ops bx):e∉adu .any ops bx:=fun he=>by
  obtain⟨_,o,ho,fY⟩:=mem_ready.1 he
  unfold waits at hw
  rw[ho]at hw
  simp only[Array.any_eq_true,adm,beq_iff_eq]at hw
  obtain⟨q,hq,hb,ZS⟩:=hw
  have h1:=fY _ (Array.getElem_mem hq) hb
  have h0:=(mem_ready.1 hi).1
  rw[ZS]at h1
  rcases adh i bx.size with h'|h'
  · simp[h']at h0 h1;rw[h0]at h1;cases h1
  · simp[aeU h']at h1
theorem xF {i : Nat} {oi : Oper} {v : Value} (hi : ops[i]? = some oi) (ui : i ≠ e) (Uw : waits ops e i = true) (HJ : ∀ (j : Nat) (o : Oper) cs b, ops[j]? = some o → o.op ≠ .select cs b)
    (hQ:∀c a w,Qa (.panic c) (a.put oi.dst v) w→Qa (.panic c) a w):
    ∀(fuel:Nat) (bx:Array Bool) (a:Act) (w:World),
      (∀j oj,ops[j]?=some oj→j≠i→bx.getD j true=false→(∀x∈oj.after,aft .any x=true→x.on≠i)→oi.apart ops oj=true)→
      i∈adu .any ops bx→YieldsIf P ops S oi v a→S w→
      sL P ops Qa S e fuel (bx.setIfInBounds i true) (a.put oi.dst v) w→sL P ops Qa S e (fuel+1) bx a w:=by
  intro fuel
  induction fuel with
  |zero=>
    intro bx a w _ hr hy hS H
    refine⟨fun h=>(by rw[h]at hr;cases hr),fun j hj=>?_⟩
    by_cases yv:j=i
    · subst yv;exact hy.wpOp hi hS ⟨fun _=>hS,H⟩
    · have := ready_mono hj yv
      rw[H.1]at this
      cases this
  |succ fuel ih=>
    intro bx a w uA hr hy hS H
    refine⟨fun h=>(by rw[h]at hr;cases hr),fun j hj=>?_⟩
    by_cases yv:j=i
    · subst yv;exact hy.wpOp hi hS ⟨fun _=>hS,H⟩
    · have XH : j ≠ e := fun h => zj Uw hr (h ▸ hj)
      have h1:=H.2 j (ready_mono hj yv)
      obtain⟨HV,oj,Ok,fY⟩:=mem_ready.1 hj
      have Oo:∀x∈oj.after,aft .any x=true→x.on≠i:=fun x hx hb heq=>by
        have h1:=fY x hx hb
        have h0:=(mem_ready.1 hr).1
        rw[heq]at h1
        rcases adh i bx.size with h'|h'
        · simp[h']at h0 h1;rw[h0]at h1;cases h1
        · simp[aeU h']at h1
      have h2:=wpOp_putIf Ok (uA j oj Ok yv HV Oo) (fun cs b=>HJ i oi cs b hi) (fun cs b=>HJ j oj cs b Ok) hQ hy h1
      have Cx:∀k ok,ops[k]?=some ok→k≠i→(bx.setIfInBounds j true).getD k true=false→
          (∀x∈ok.after,aft .any x=true→x.on≠i)→oi.apart ops ok=true:=fun k ok hk Vd Rq fJ=>by
        refine uA k ok hk Vd ?_ fJ
        by_cases E1:j=k
        · subst E1;exact HV
        · rw[getD_set_ne true E1]at Rq;exact Rq
      refine wpOp_mono (fun a' w' h3=>⟨fun _=>h3.2.1 XH,ih (bx.setIfInBounds j true) a' w' Cx (ready_mono hr (ajc yv)) h3.1 (h3.2.1 XH) ?_⟩) h2
      rw[agW _ _ yv]
      exact h3.2.2
end
def RE (P:Program) (n:Nat) (ops:Array Oper) (Q:fQ) (S:World→Prop) (e:Nat) (fuel:Nat) (bx:Array Bool) (R:Nat→Value) (w:World):Prop:=
  ∀a,AtR n R a→sL P ops (Q.up n) S e fuel bx a w
section
variable {P:Program} {n:Nat} {Q:fQ} {R:Nat→Value} {w:World} {ops:Array Oper} {S:World→Prop} {e fuel:Nat} {bx:Array Bool}
theorem RW.Jt {id : Nat} (hm : P.follows .mixedOrders = true) (S : World → Prop) (e : Nat)
    (h:RE P n ops Q S e ops.size (aes ops.size false) R w.drew):RW P n (.region id ops true) Q R w:=fun a ha=>wp_region_any hm (oB _ _ _ _ (h a ha))
theorem RE.done (hr:adu .any ops bx=[]) (h:Q .normal R w):RE P n ops Q S e fuel bx R w:=fun a ha=>by
  cases fuel with
  |zero=>exact⟨hr,R,ha,h⟩
  |succ f=>exact⟨fun _=>⟨R,ha,h⟩,by rw[hr];simp⟩
end
end Go.Rl
namespace Go.Rl
open Go.RowKit
abbrev XF (ro:Option Nat):Fence:={Fence.wide with round:=ro}
structure sI (ds:List Deferred) (n:Nat) (R:Nat→Value) (a:Act):Prop where
  size:a.tmps.size=n
  lC:∀t,a.tmps.getD t undef=R t
  defs:a.defers=ds
def over (ds:List Deferred) (a:Act):Act:={a with defers:=a.defers++ds}
theorem sI.J3 {ds:List Deferred} {n:Nat} {R:Nat→Value} {a:Act} (h:sI ds n R a):AtR n R {a with defers:=[]}:=⟨h.size,h.lC,rfl⟩
theorem sI.eval {ds:List Deferred} {n:Nat} {R:Nat→Value} {a:Act} (h:sI ds n R a):a.eval=ev R:=by
  funext x;cases x<;>simp only[Act.eval,ev];exact h.lC _
theorem AtR.YD {ds:List Deferred} {n:Nat} {R:Nat→Value} {a:Act} (h:AtR n R a):sI ds n R (over ds a):=⟨h.size,h.lC,by simp[over,h.defs]⟩
theorem sI.zN {ds:List Deferred} {n:Nat} {R:Nat→Value} {a:Act} (h:sI ds n R a):over ds {a with defers:=[]}=a:=by
  have:=h.defs;subst this;cases a;rfl
theorem jh (ds:List Deferred) (a:Act) (d:Option Tmp) (v:Value):over ds (a.put d v)=(over ds a).put d v:=by cases d<;>rfl
theorem sI.put {ds:List Deferred} {n:Nat} {R:Nat→Value} {a:Act} (h:sI ds n R a) {dst:Option Tmp} (hd:eR n dst=true) (v:Value):sI ds n (fu R dst v) (a.put dst v):=by
  have:=(h.J3.put hd v).YD (ds:=ds)
  rwa [jh,h.zN]at this
abbrev fc:=Exit→List Deferred→(Nat→Value)→World→Prop
def fc.up (n:Nat) (Q:fc):Exit→Act→World→Prop:=fun e a w=>∃R ds,sI ds n R a∧Q e ds R w
def XW (P:Program) (ro:Option Nat) (n:Nat) (c:Code) (Q:fc) (ds:List Deferred) (R:Nat→Value) (w:World):Prop:=∀a,sI ds n R a→c.wpIn (XF ro) 0 P (fc.up n Q) a w
def XL (P:Program) (ro:Option Nat) (n:Nat) (ops:Array Oper) (Q:fc) (l:List Oper) (ds:List Deferred) (R:Nat→Value) (w:World):Prop:=∀a,sI ds n R a→wpListIn (XF ro) 0 P ops (fc.up n Q) l a w
def lU (P:Program) (ro:Option Nat) (o:Oper) (R:Nat→Value) (w:World) (K:Value→World→Prop):Prop:=
  ∀n ds a,sI ds n R a→o.wpIn (XF ro) 0 P a w (fun a' w'=>∃v,a'=a.put o.dst v∧K v w') (fun _ _ _=>False)
def ew (o:Oper):Bool:=match o.op with
  |.defer _=>false
  |_=>true
theorem ew.ne {o:Oper} (h:ew o=true):∀c,o.op≠.defer c:=fun c e=>by simp[ew,e]at h
section
variable {P:Program} {ro:Option Nat} {n:Nat} {Q:fc} {R:Nat→Value} {w:World} {ds:List Deferred}
theorem DM {f:FuncId} {args:Array Value} {K:Ending→World→Prop} {m:Nat} (h:Calls P f args w K):CallsIn (XF ro) m P f args w K:=(callsIn_wide (n:=m)).2 h
theorem NM {row:String} {args:Array Value} {K:Value→World→Prop} {m:Nat} (h:Rows P row args w K):RowsIn (XF ro) m P row args w K:=fun c cs _=>by
  obtain⟨v,w',hk,hs⟩:=h c cs
  exact⟨v,w',hk,(stepsIn_wide (P:=P)).2 hs⟩
theorem G2 {o : Oper} (om : ew o = true) {a : Act} {K K' : Act → World → Prop} {Qa Qb : Exit → Act → World → Prop} (h : o.wp P a w K Qa) (hp : ∀ c a w, ¬ Qa (.panic c) a w) (ho : ∀ a w, ¬ Qa .outgrown a w)
    (go:∀a1 w',K a1 w'→K' (over ds a1) w'):o.wpIn (XF ro) 0 P (over ds a) w K' Qb:=by
  refine⟨fun _ _=>trivial,?_⟩
  have E4:(over ds a).eval=a.eval:=by funext x;cases x<;>rfl
  rw[ajn _ _ _ (ew.ne om),E4]
  unfold aiB at h
  generalize (execOp a.eval o).run P w=r at*
  have no:¬LetsOut Qa:=fun⟨a,w,hx⟩=>ho a w hx
  cases r with
  |ok x w'=>
    cases x<;>simp only[ah5,afo]at h ⊢
    case value v=>rw[←jh];exact go _ _ h
    case skip=>rw[←jh];exact go _ _ h
    case defer d=>
      have:=go _ _ h
      rw[jh]at this
      exact this
    case enter f args=>
      refine⟨fun e=>(by cases e),agX (DM h) fun e Bt he=>?_⟩
      cases e with
      |returned v=>simp only at he ⊢;rw[←jh];exact go _ _ he
      |panicked c=>exact(hp _ _ _ he).elim
      |outgrown=>exact(no he).elim
    case row row args=>
      refine⟨fun e=>(by cases e),aiK (NM h) fun v Bt he=>?_⟩
      rw[←jh];exact go _ _ he
  |halt x w'=>
    cases x<;>simp only[ah5,afo]at h ⊢
    case panic u=>exact(hp _ _ _ h).elim
theorem KU {ops:Array Oper} {Qa Qb:Exit→Act→World→Prop} (hp:∀c a w,¬Qa (.panic c) a w) (ho:∀a w,¬Qa .outgrown a w) (hq:∀a w,Qa .normal a w→Qb .normal (over ds a) w):
    ∀(l:List Oper) (om:l.all ew=true) (a:Act) (w:World),wpList P ops Qa l a w→wpListIn (XF ro) 0 P ops Qb l (over ds a) w:=by
  intro l
  induction l with
  |nil=>exact fun _ a w h=>hq a w h
  |cons o l ih=>
    intro om a w h
    simp only[List.all_cons,adm]at om
    simp only[wpList]at h
    simp only[wpListIn]
    have ht:(over ds a).tmps=a.tmps:=rfl
    rw[ht]
    split
    · rename_i hw
      rw[if_pos hw]at h
      refine h.elim (fun h=>G2 om.1 h hp ho fun a1 w' hk=>ih om.2 a1 w' hk) (fun h=>?_)
      obtain⟨_,a,w,hx⟩:=h
      exact(ho a w hx).elim
    · rename_i hw
      rw[if_neg hw]at h
      refine⟨fun _ _=>trivial,?_⟩
      rw[←jh]
      exact ih om.2 _ w h
theorem PN {ops:Array Oper} (om:ops.toList.all ew=true) {Qa Qb:Exit→Act→World→Prop} (hp:∀c a w,¬Qa (.panic c) a w) (ho:∀a w,¬Qa .outgrown a w) (hq:∀a w,Qa .normal a w→Qb .normal (over ds a) w):
    ∀(fuel:Nat) (bx:Array Bool) (a:Act) (w:World),wpAny P .any ops Qa fuel bx a w→wpAnyIn (XF ro) 0 P .any ops Qb fuel bx (over ds a) w:=by
  intro fuel
  induction fuel with
  |zero=>exact fun bx a w h=>⟨h.1,hq _ _ h.2⟩
  |succ fuel ih=>
    intro bx a w h
    refine⟨fun e=>hq _ _ (h.1 e),fun i hi=>?_⟩
    have h1:=h.2 i hi
    unfold wpOp at h1
    unfold wpOpIn
    cases Vi:ops[i]? with
    |none=>rw[Vi]at h1;exact ih _ _ _ h1
    |some o=>
      have hn:ew o=true:=af7.1 om o (by
        have:ops.toList[i]?=some o:=by simpa using Vi
        exact acy this)
      rw[Vi]at h1
      simp only at h1 ⊢
      have ht:(over ds a).tmps=a.tmps:=rfl
      rw[ht]
      split
      · rename_i hw
        rw[if_pos hw]at h1
        refine h1.elim (fun h=>G2 hn h hp ho fun a1 w' hk=>ih _ a1 w' hk) (fun h=>?_)
        obtain⟨_,a,w,hx⟩:=h
        exact(ho a w hx).elim
      · rename_i hw
        rw[if_neg hw]at h1
        refine⟨fun _ _=>trivial,?_⟩
        rw[←jh]
        exact ih _ _ w h1
def pz (K:(Nat→Value)→World→Prop):fQ:=fun e R w=>match e with
  |.normal=>K R w
  |_=>False
theorem Dh {K:(Nat→Value)→World→Prop} (c:List PanicEntry) (a:Act) (w:World):¬(fQ.up n (pz K)) (.panic c) a w:=fun⟨_,_,h⟩=>h
theorem Di {K:(Nat→Value)→World→Prop} (a:Act) (w:World):¬(fQ.up n (pz K)) .outgrown a w:=fun⟨_,_,h⟩=>h
theorem Dg {a:Act} (h:(fQ.up n (pz fun R w=>Q .normal ds R w)) .normal a w):fc.up n Q .normal (over ds a) w:=by
  obtain⟨R,ha,hq⟩:=h
  exact⟨R,ds,ha.YD,hq⟩
theorem cl {K:(Nat→Value)→World→Prop} (h:K R w):pz K .normal R w:=h
theorem NU {K:(Nat→Value)→World→Prop}:LM (pz K):=fun _ _ _ h=>h
def wy (K:List Deferred→(Nat→Value)→World→Prop) (Q:fc):fc:=fun e ds R w=>match e with
  |.normal=>K ds R w
  |e=>Q e ds R w
theorem XW.seq {x y:Code} (h:XW P ro n x (wy (fun ds R w=>XW P ro n y Q ds R w) Q) ds R w):XW P ro n (.seq x y) Q ds R w:=fun a ha=>by
  refine wpIn_seq (wpIn_mono (h a ha) ?_)
  rintro e a' w' ⟨R',J1,hR,hQ⟩
  cases e with
  |normal=>exact hQ a' hR
  |_=>exact⟨R',J1,hR,hQ⟩
theorem XW.skip (h:Q .normal ds R w):XW P ro n .skip Q ds R w:=fun _ ha=>wpIn_skip ⟨R,ds,ha,h⟩
theorem XW.exit {id:Nat} (h:Q (.exit id) ds R w):XW P ro n (.exit id) Q ds R w:=fun _ ha=>wpIn_exit ⟨R,ds,ha,h⟩
theorem XW.ret (h:Q .ret ds R w):XW P ro n .ret Q ds R w:=fun _ ha=>wpIn_ret ⟨R,ds,ha,h⟩
theorem XW.cond {c:Operand} {x y:Code} (b:Bool) (hc:ev R c=.bool b) (ht:b=true→XW P ro n x Q ds R w) (hf:b=false→XW P ro n y Q ds R w):XW P ro n (.cond c x y) Q ds R w:=
  fun a ha=>wpIn_cond_split (t:=b) (by rw[ha.eval];exact hc) (fun e=>ht e a ha) (fun e=>hf e a ha)
theorem XW.Jx {c:Operand} {x y:Code} (hc:ev R c=.bool true) (ht:XW P ro n x Q ds R w):XW P ro n (.cond c x y) Q ds R w:=XW.cond true hc (fun _=>ht) (fun e=>by cases e)
theorem XW.oq {c:Operand} {x y:Code} (hc:ev R c=.bool false) (ht:XW P ro n y Q ds R w):XW P ro n (.cond c x y) Q ds R w:=XW.cond false hc (fun e=>by cases e) (fun _=>ht)
theorem XW.lQ {c:Operand} {x y:Code} (p:Prop) [Decidable p] (hc:Rl.ev R c=.bool (decide p)) (ht:p→XW P ro n x Q ds R w) (hf:¬p→XW P ro n y Q ds R w):XW P ro n (.cond c x y) Q ds R w:=
  XW.cond (decide p) hc (fun e=>ht (of_decide_eq_true e)) (fun e=>hf (of_decide_eq_false e))
def qP (id:Nat) (Q:fc):fc:=fun e ds R w=>match e with
  |.exit Hx=>if Hx=id then Q .normal ds R w else Q (.exit Hx) ds R w
  |e=>Q e ds R w
theorem XW.block {id:Nat} {c:Code} (h:XW P ro n c (qP id Q) ds R w):XW P ro n (.block id c) Q ds R w:=fun a ha=>by
  refine wpIn_block (wpIn_mono (h a ha) ?_)
  rintro e a' w' ⟨R',J1,hR,hQ⟩
  cases e with
  |exit Hx=>
    simp only[ajs]
    simp only[qP]at hQ
    split
    · rename_i e;rw[if_pos e]at hQ;exact⟨R',J1,hR,hQ⟩
    · rename_i e;rw[if_neg e]at hQ;exact⟨R',J1,hR,hQ⟩
  |_=>exact⟨R',J1,hR,hQ⟩
theorem least {J:Nat→Prop}:∀k,J k→∃m,J m∧∀j,J j→m≤j:=by
  intro k
  induction k using Nat.strongRecOn with
  |_ k ih=>
    intro h
    by_cases hx:∃j,j<k∧J j
    · obtain⟨j,hj,h⟩:=hx;exact ih j hj h
    · exact⟨k,h,fun j hj=>Nat.le_of_not_lt fun hl=>hx ⟨j,hl,hj⟩⟩
theorem XW.loop {c : Code} (I : Nat → (Nat → Value) → World → Prop) (k0 : Nat) (h0 : I k0 R w)
    (round:∀k R w,I k R w→XW P ro n c (wy (fun J1 R' w'=>J1=ds∧∃k',k'<k∧I k' R' w') Q) ds R w):XW P ro n (.loop c) Q ds R w:=fun a ha=>by
  let J:Act→World→Nat→Prop:=fun a w k=>∃R,sI ds n R a∧I k R w
  have hm:∀a w,∃m,(∃k,J a w k)→J a w m∧∀j,J a w j→m≤j:=fun a w=>by
    by_cases h:∃k,J a w k
    · obtain ⟨k, hk⟩ := h
      obtain⟨m,hm⟩:=least (J:=J a w) k hk
      exact⟨m,fun _=>hm⟩
    · exact⟨0,fun h'=>absurd h' h⟩
  refine wpIn_loop (fun a w=>∃k,J a w k) (fun a w=>aiZ (hm a w)) ⟨k0,R,ha,h0⟩ ?_
  intro a' w' hI
  obtain⟨⟨R',Wa,Qu⟩,U3⟩:=agd (hm a' w') hI
  refine wpIn_mono (round _ R' w' Qu a' Wa) ?_
  rintro e WG Bt ⟨QC,Wv,E9,hQ⟩
  cases e with
  |normal=>
    obtain⟨rfl,k',hk,Qu⟩:=hQ
    have hx:∃k,J WG Bt k:=⟨k',QC,E9,Qu⟩
    exact⟨hx,ac8 ((agd (hm WG Bt) hx).2 k' ⟨QC,E9,Qu⟩) hk⟩
  |_=>exact⟨QC,Wv,E9,hQ⟩
theorem bR {K:List Deferred→(Nat→Value)→World→Prop} (h:K ds R w):wy K Q .normal ds R w:=h
theorem ng {K:List Deferred→(Nat→Value)→World→Prop} {id:Nat} (h:Q (.exit id) ds R w):wy K Q (.exit id) ds R w:=h
theorem Nl {K:List Deferred→(Nat→Value)→World→Prop} (h:Q .ret ds R w):wy K Q .ret ds R w:=h
theorem ff {id:Nat} (h:Q .normal ds R w):qP id Q .normal ds R w:=h
theorem iK {id:Nat} (h:Q .normal ds R w):qP id Q (.exit id) ds R w:=by unfold qP;simp only[if_true];exact h
theorem XW.region {id:Nat} {l:List Oper} (om:l.all ew=true) (h:RL P n l.toArray (pz fun R w=>Q .normal ds R w) l R w):XW P ro n (.region id l.toArray false) Q ds R w:=fun a ha=>by
  have:=KU (ro:=ro) (ds:=ds) (Qb:=fc.up n Q) Dh Di (fun a w h=>Dg h) l om _ w (h _ ha.J3)
  rw[ha.zN]at this
  exact wpIn_region_lit this
theorem XW.bI {id:Nat} {l:List Oper} (h:RL P n l.toArray (pz fun R w=>Q .normal ds R w) l R w) (om:l.all ew=true:=by exact rfl):XW P ro n (.region id l.toArray false) Q ds R w:=XW.region om h
theorem XW.sz {id:Nat} {l:List Oper} (h:XL P ro n l.toArray Q l ds R w):XW P ro n (.region id l.toArray false) Q ds R w:=fun a ha=>wpIn_region_lit (h a ha)
theorem XW.Jt {id : Nat} {ops : Array Oper} (hm : P.follows .mixedOrders = true) (om : ops.toList.all ew = true) (S : World → Prop) (e : Nat)
    (h:RE P n ops (pz fun R w=>Q .normal ds R w) S e ops.size (aes ops.size false) R w.drew):XW P ro n (.region id ops true) Q ds R w:=fun a ha=>by
  have:=PN (ro:=ro) (ds:=ds) (Qb:=fc.up n Q) om Dh Di (fun a w h=>Dg h) _ _ _ _ (oB _ _ _ _ (h _ ha.J3))
  rw[ha.zN]at this
  exact wpIn_region_any hm this
theorem lU.of {o:Oper} {K:Value→World→Prop} (om:ew o=true) (h:eL P o R w K):lU P ro o R w K:=fun m ds a ha=>by
  have:=G2 (ro:=ro) (ds:=ds) (Qb:=fun _ _ _=>False) (K':=fun a' w'=>∃v,a'=a.put o.dst v∧K v w') om (h m _ ha.J3) (fun _ _ _ h=>h) (fun _ _ h=>h) (by
    rintro a1 w' ⟨v,rfl,hk⟩
    exact⟨v,by rw[jh,ha.zN],hk⟩)
  rwa [ha.zN]at this
theorem lU.wp {o : Oper} {K : Value → World → Prop} {next : Act → World → Prop} {Q' : Exit → Act → World → Prop} {a : Act} (ha : sI ds n R a) (hd : eR n o.dst = true) (h : lU P ro o R w K)
    (go:∀v w',K v w'→∀(_:sI ds n (fu R o.dst v) (a.put o.dst v)),next (a.put o.dst v) w'):o.wpIn (XF ro) 0 P a w next Q':=by
  have h:=h n ds a ha
  refine⟨h.1,?_⟩
  have h:=h.2
  have go':∀a' w',(∃v,a'=a.put o.dst v∧K v w')→next a' w':=by
    rintro a' w' ⟨v,rfl,hv⟩
    exact go v w' hv (ha.put hd v)
  generalize (o.semAt (XF ro).round a.eval).run P w=r at*
  cases r with
  |ok x w'=>
    cases x<;>simp only[afo]at h ⊢<;>first
      |exact go' _ _ h
      |exact⟨h.1,agX h.2 (fun e Bt he=>by cases e<;>first|exact go' _ _ he|exact he.elim|exact(by obtain⟨_,_,hx⟩:=he;exact hx.elim))⟩
      |exact⟨h.1,aiK h.2 (fun _ _ he=>go' _ _ he)⟩
      |exact⟨h.1,ah8 h.2 (fun e Bt he=>by cases e<;>first|exact go' _ _ he|exact he.elim|exact(by obtain⟨_,_,hx⟩:=he;exact hx.elim))⟩
  |halt x w'=>cases x<;>simp only[afo]at h ⊢
theorem XL.nil {ops:Array Oper} (h:Q .normal ds R w):XL P ro n ops Q [] ds R w:=fun _ ha=>wpListIn_nil ⟨R,ds,ha,h⟩
theorem XL.op {ops:Array Oper} {o:Oper} {rest:List Oper} (hg:o.guard=none) (hd:eR n o.dst=true) (h:lU P ro o R w (fun v w'=>XL P ro n ops Q rest ds (fu R o.dst v) w')):
    XL P ro n ops Q (o::rest) ds R w:=fun a ha=>wpListIn_plain hg fun K hK=>lU.wp ha hd h fun v w' hv uD=>hK _ _ (hv _ uD)
theorem XL.ev {ops:Array Oper} {o:Oper} {rest:List Oper} {v:Value} (hg:o.guard=none) (hd:eR n o.dst=true) (om:ew o=true) (h:Ev P o R w v) (hn:XL P ro n ops Q rest ds (fu R o.dst v) w):
    XL P ro n ops Q (o::rest) ds R w:=XL.op hg hd (lU.of om (eL.ev h hn))
theorem XL.eU {ops:Array Oper} {o:Oper} {rest:List Oper} {v:Value} (h:Ev P o R w v) (hn:XL P ro n ops Q rest ds (fu R o.dst v) w) (hg:o.guard=none:=by exact rfl) (hd:eR n o.dst=true:=by exact rfl) (om:ew o=true:=by exact rfl):XL P ro n ops Q (o::rest) ds R w:=XL.ev hg hd om h hn
theorem zg {ops:Array Oper} {a:Act} (ha:sI ds n R a) {j d:Nat} {b:Bool} (hj:(ops[j]?).bind (·.dst)=some d) (mZ:d<n) (hb:R d=.bool b):yielded ops a.tmps j=some b:=gw ha.J3 hj mZ hb
theorem XL.on {ops : Array Oper} {o : Oper} {rest : List Oper} {j : Nat} {want : Bool} {d : Nat} (hg : o.guard = some (j, want)) (hj : (ops[j]?).bind (·.dst) = some d) (mZ : d < n)
    (hb:R d=.bool want) (hd:eR n o.dst=true) (h:lU P ro o R w (fun v w'=>XL P ro n ops Q rest ds (fu R o.dst v) w')):XL P ro n ops Q (o::rest) ds R w:=fun a ha=>by
  refine wpListIn_step fun K hK=>?_
  simp only[adJ,hg,zg ha hj mZ hb,beq_self_eq_true,if_true]
  exact lU.wp ha hd h fun v w' hv uD=>hK _ _ (hv _ uD)
theorem XL.jw {ops:Array Oper} {o:Oper} {rest:List Oper} {j:Nat} {want:Bool} {d:Nat} (h:lU P ro o R w (fun v w'=>XL P ro n ops Q rest ds (fu R o.dst v) w')) (hg:o.guard=some (j,want):=by exact rfl) (hj:(ops[j]?).bind (·.dst)=some d:=by exact rfl) (mZ:d<n:=by decide) (hb:R d=.bool want:=by exact rfl) (hd:eR n o.dst=true:=by exact rfl):XL P ro n ops Q (o::rest) ds R w:=XL.on hg hj mZ hb hd h
theorem XL.NW {ops : Array Oper} {o : Oper} {rest : List Oper} {j : Nat} {want : Bool} {d : Nat} {v : Value} (hg : o.guard = some (j, want)) (hj : (ops[j]?).bind (·.dst) = some d) (mZ : d < n)
    (hb:R d=.bool want) (hd:eR n o.dst=true) (om:ew o=true) (h:Ev P o R w v) (hn:XL P ro n ops Q rest ds (fu R o.dst v) w):XL P ro n ops Q (o::rest) ds R w:=XL.on hg hj mZ hb hd (lU.of om (eL.ev h hn))
theorem XL.dF {ops:Array Oper} {o:Oper} {rest:List Oper} {j:Nat} {want:Bool} {d:Nat} {v:Value} (h:Ev P o R w v) (hn:XL P ro n ops Q rest ds (fu R o.dst v) w) (hg:o.guard=some (j,want):=by exact rfl) (hj:(ops[j]?).bind (·.dst)=some d:=by exact rfl) (mZ:d<n:=by decide) (hb:R d=.bool want:=by exact rfl) (hd:eR n o.dst=true:=by exact rfl) (om:ew o=true:=by exact rfl):XL P ro n ops Q (o::rest) ds R w:=XL.NW hg hj mZ hb hd om h hn
theorem XL.off {ops : Array Oper} {o : Oper} {rest : List Oper} {j : Nat} {want : Bool} {d : Nat} (hg : o.guard = some (j, want)) (hj : (ops[j]?).bind (·.dst) = some d) (mZ : d < n)
    (hb:R d=.bool (!want)) (hd:eR n o.dst=true) (hn:XL P ro n ops Q rest ds (fu R o.dst undef) w):XL P ro n ops Q (o::rest) ds R w:=fun a ha=>by
  refine wpListIn_step fun K hK=>?_
  have:adJ o (yielded ops a.tmps)=false:=by cases want<;>simp[adJ,hg,zg ha hj mZ hb]
  rw[if_neg (by rw[this];simp)]
  exact⟨fun _ _=>trivial,hK _ _ (hn _ (ha.put hd undef))⟩
end
section
variable {P:Program} {ro:Option Nat} {n:Nat} {Q:fc} {R:Nat→Value} {w:World} {ds:List Deferred} {dst:Option Tmp} {ty:TypeId} {pos:String} {af:Array Edge} {gd:Option (Nat×Bool)}
def oV (P:Program) (l:Nat) (args:Array Value) (w:World) (K:Value→World→Prop):Prop:=
  ∃f tmps Fy body,(aks l args).run P w=.ok (.round l f tmps Fy body) w∧RoundIn Fence.wide 0 P l f tmps Fy body w fun e w'=>∃v,e=.returned v∧K v w'
theorem oV.mono {l:Nat} {args:Array Value} {K K':Value→World→Prop} (h:oV P l args w K) (hk:∀v w',K v w'→K' v w'):oV P l args w K':=by
  obtain⟨f,tmps,Fy,body,h1,h2⟩:=h
  exact⟨f,tmps,Fy,body,h1,h2.mono fun e w' ⟨v,he,hv⟩=>⟨v,he,hk _ _ hv⟩⟩
theorem xY {o:Oper} {l:Nat} {args:Array Value} {K:Value→World→Prop} (om:ew o=true) (fG:∀r,(aks l args).run P w=.ok r w→(execOp (ev R) o).run P w=.ok r w) (h:oV P l args w K):lU P ro o R w K:=fun m ds a ha=>by
  obtain⟨f,tmps,Fy,body,h1,h2⟩:=h
  refine⟨fun _ _=>trivial,?_⟩
  rw[ajn _ _ _ (ew.ne om),ha.eval,fG _ h1]
  simp only[afo]
  refine⟨fun e=>(by cases e),ah8 (F:=XF ro) h2 ?_⟩
  rintro e w' ⟨v,rfl,hv⟩
  exact⟨v,rfl,hv⟩
theorem dk {K:Value→World→Prop} {pW:Array TypeId} {fv x0:Operand} {v0:Value} {l:Nat} (IA:ev R fv=.func (.yield l) #[] #[]) (ub:ev R x0=v0) (h:oV P l #[v0] w K):
    lU P ro ⟨dst,.call ⟨.value fv,#[x0],pW⟩,ty,pos,af,gd⟩ R w K:=xY rfl (fun r hr=>by
  subst ub
  simp only[execOp,resolve,IA,aea,adW,adb,ad6,ady,ael,adI,invoke]
  simpa using hr) h
def mark (D:Nat):List Deferred:=[{target:=.collected D,args:=#[]}]
def Jq (P:Program) (fn:Func) (n:Nat) (K:Value→World→Prop):fc:=fun e ds R w=>(e=.ret∨e=.normal)∧
  ((ds=[]∧∃v,RV P fn n R w v∧K v w)∨∃D,ds=mark D∧w.heap[D]?=some (.deferred (some []))∧∃v,RV P fn n R (w.putObj D (.deferred none)) v∧K v (w.putObj D (.deferred none)))
theorem aM.kY {f : FuncId} {fn : Func} {c : Code} {args : Array Value} {K : Value → World → Prop} (hf : P.funcs[f]? = some fn) (hb : fn.body = some c)
    (hs:args.size≤fn.ntmps) (h:XW P none fn.ntmps c (Jq P fn fn.ntmps K) [] (fun t=>args.getD t undef) w):aM P f args w K:=by
  refine(callsIn_wide (n:=0)).1 (callsIn_of_wp_marks (F:=XF none) hf hb trivial ?_)
  refine wpIn_mono (h _ ⟨by rw[agO,ahN];omega,fun t=>?_,rfl⟩) ?_
  · by_cases ht : t < args.size
    · simp[agJ ht]
    · have h0 : args[t]? = .none := aeU (by omega)
      simp only[afA,h0]
      rw[agE (by omega),agT]
      split<;>rfl
  · rintro e a w' ⟨R', J1, hR, he, hQ⟩
    have key:LeavesInM (XF none) 0 P fn a.tmps (fun e w'=>∃v,e=.returned v∧K v w') a.defers .returning w':=by
      rcases hQ with⟨rfl,v,hv,hk⟩|⟨D,rfl,hD,v,hv,hk⟩
      · rw [hR.defs]
        exact⟨v,hv {a with defers:=[]} hR.J3,v,rfl,hk⟩
      · rw [hR.defs]
        exact⟨by simp,.inl ⟨D,_,rfl,run_takeDeferred hD,v,hv {a with defers:=[]} hR.J3,v,rfl,hk⟩⟩
    rcases he with rfl|rfl<;>exact key
theorem QE {fn:Func} {K:Value→World→Prop} {v:Value} (h:RV P fn n R w v) (hk:K v w):Jq P fn n K .ret [] R w:=⟨.inl rfl,.inl ⟨rfl,v,h,hk⟩⟩
theorem wq {fn:Func} {K:Value→World→Prop} {v:Value} (h:RV P fn n R w v) (hk:K v w):Jq P fn n K .normal [] R w:=⟨.inr rfl,.inl ⟨rfl,v,h,hk⟩⟩
end
section
variable {P:Program} {w0 w w':World} {F:Nat→Prop} {L M N:List Atom}
def Atom.obj (l:Nat) (o:Obj):Atom where
  dT k:=k=l
  says w:=w.heap[l]?=some o
  kp:=by
    intro w w' h hs
    exact(h l rfl (ado.1 hs).1).trans hs
theorem B5 (w:World) (l:Nat) (o:Obj):Mod (fun k=>k=l) w (w.putObj l o):=
  ⟨rfl,rfl,rfl,by simp[ajz],fun k _ hk=>World.putObj_heap_other hk⟩
theorem aI.putObj (h:aI w0 F w L) (i:Nat) {l:Nat} {o:Obj} (o':Obj) (hi:L[i]?=some (.obj l o)):aI w0 F (w.putObj l o') (L.set i (.obj l o')):=by
  have hs:w.heap[l]?=some o:=h.says i _ hi
  have hl:=(ado.1 hs).1
  exact h.dw i hi (B5 w l o') (World.putObj_heap_same hl) fun k hk=>⟨.inl hk,by cases hk;simpa[ajz]using hl⟩
def Atom.all (L:List Atom):Atom where
  dT:=b7 L
  says w:=(∀(i:Nat) a,L[i]?=some a→a.says w)∧(∀(i:Nat) a,L[i]?=some a→∀k,a.dT k→k<w.heap.size)∧∀(i j:Nat) a b,i≠j→L[i]?=some a→L[j]?=some b→∀k,a.dT k→¬b.dT k
  kp:=by
    rintro w w' hb ⟨h1,h2,h3⟩
    refine⟨fun i a hi=>a.kp (fun k hk cD=>hb k ⟨a,acy hi,hk⟩ cD) (h1 i a hi),fun i a hi k hk=>?_,h3⟩
    have hl:=h2 i a hi k hk
    have e:=hb k ⟨a,acy hi,hk⟩ hl
    rw[aeM hl]at e
    exact(ado.1 e).1
theorem Fe:b7 [Atom.all L]=b7 L:=by
  funext k
  exact propext ⟨fun⟨a,ha,hk⟩=>by rw[ade]at ha;subst ha;exact hk,fun h=>⟨_,ade.2 rfl,h⟩⟩
theorem aI.pack (h:aI w0 F w (L++M)):aI w0 F w (.all L::M):=by
  have hL:∀(i:Nat) a,L[i]?=some a→(L++M)[i]?=some a:=fun i a hi=>by rw[ads (acA.1 hi).1];exact hi
  have hM:∀(i:Nat) a,M[i]?=some a→(L++M)[L.length+i]?=some a:=fun i a hi=>by rw[adp (by omega)];simpa using hi
  have HI:∀(j:Nat) b,M[j]?=some b→∀k,b7 L k→¬b.dT k:=by
    rintro j b hj k ⟨a,ha,hk⟩ jb
    obtain⟨i,hi⟩:=agc.1 ha
    have:=(acA.1 hi).1
    exact h.sep i (L.length+j) a b (by omega) (hL i a hi) (hM j b hj) k hk jb
  refine⟨h.mod,?_,?_,?_⟩
  · intro i a hi
    cases i with
    |zero=>
      cases hi
      exact⟨fun i a hi=>h.says i a (hL i a hi),fun i a hi k hk=>(h.low i a (hL i a hi) k hk).2,fun i j a b oN hi hj=>h.sep i j a b oN (hL i a hi) (hL j b hj)⟩
    |succ i=>exact h.says _ a (hM i a (by simpa using hi))
  · intro i a hi k hk
    cases i with
    |zero=>
      cases hi
      obtain⟨b,hb,hk⟩:=hk
      obtain⟨i,hi⟩:=agc.1 hb
      exact h.low i b (hL i b hi) k hk
    |succ i=>exact h.low _ a (hM i a (by simpa using hi)) k hk
  · intro i j a b oN hi hj k hk jb
    cases i with
    |zero=>
      cases hi
      cases j with
      |zero=>exact oN rfl
      |succ j=>exact HI j b (by simpa using hj) k hk jb
    |succ i=>
      cases j with
      |zero=>cases hj;exact HI i a (by simpa using hi) k jb hk
      |succ j=>exact h.sep (L.length+i) (L.length+j) a b (by omega) (hM i a (by simpa using hi)) (hM j b (by simpa using hj)) k hk jb
theorem aI.unpack (h:aI w0 F w (.all L::M)):aI w0 F w (L++M):=by
  have hA:(Atom.all L).says w:=h.says 0 _ rfl
  obtain⟨h1,h2,h3⟩:=hA
  have get:∀(i:Nat) a,(L++M)[i]?=some a→L[i]?=some a∨(L.length≤i∧M[i-L.length]?=some a):=by
    intro i a hi
    rcases adh i L.length with hl|hl
    · rw[ads hl]at hi;exact .inl hi
    · rw[adp hl]at hi;exact .inr ⟨hl,hi⟩
  have HI:∀(i:Nat) a (j:Nat) b,L[i]?=some a→M[j]?=some b→∀k,a.dT k→¬b.dT k:=fun i a j b hi hj k hk jb=>
    h.sep 0 (j+1) _ b (by omega) rfl (by simpa using hj) k ⟨a,acy hi,hk⟩ jb
  refine⟨h.mod,?_,?_,?_⟩
  · intro i a hi
    rcases get i a hi with hi|⟨_,hi⟩
    · exact h1 i a hi
    · exact h.says (i-L.length+1) a (by simpa using hi)
  · intro i a hi k hk
    rcases get i a hi with hi|⟨_,hi⟩
    · exact h.low 0 _ rfl k ⟨a,acy hi,hk⟩
    · exact h.low (i-L.length+1) a (by simpa using hi) k hk
  · intro i j a b oN hi hj k hk jb
    rcases get i a hi with hi|⟨_,hi⟩<;>rcases get j b hj with hj|⟨_,hj⟩
    · exact h3 i j a b oN hi hj k hk jb
    · exact HI i a _ b hi hj k hk jb
    · exact HI j b _ a hj hi k jb hk
    · exact h.sep (i-L.length+1) (j-L.length+1) a b (by omega) (by simpa using hi) (by simpa using hj) k hk jb
theorem aI.Tp (h:aI w0 F w L):aI w0 F w [.all L]:=aI.pack (M:=[]) (by rwa [adj])
theorem aI.Ue (h:aI w0 F w [.all L]):aI w0 F w L:=by have:=h.unpack;rwa [adj]at this
theorem aI.lG {M:List Atom} {a:Atom} {α:Type} {v:Value} {l:List α} (h:aI w0 F w L) (p:List Nat) (hM:M.map some=p.map (fun i=>L[i]?)) (j:Nat) (hj:L[j]?=some a) (oN:(p.all fun i=>i != j)=true) (hv:∀k,v.ownBlock=some k→a.dT k):oW (b7 M) v l:=by
  rintro hl k hk ⟨b,hb,hf⟩
  have h2:some b∈M.map some:=adf.2 ⟨b,hb,rfl⟩
  rw[hM]at h2
  obtain⟨i,hi0,hi⟩:=adf.1 h2
  have dY:i≠j:=by simpa using af7.1 oN i hi0
  exact h.sep j i _ b (fun e=>dY e.symm) hj hi k (hv k hk) hf
theorem F4 {n : Nat} {R : Nat → Value} {fn : Func} {K : Value → World → Prop} {D : Nat} {e : Exit} (h : aI w0 F w L) (he : e = .ret ∨ e = .normal) (i : Nat) (hi : L[i]? = some (.obj D (.deferred (some []))))
    (hk:∀w',aI w0 F w' (L.set i (.obj D (.deferred none)))→∃v,RV P fn n R w' v∧K v w'):Jq P fn n K e (mark D) R w:=
  ⟨he,.inr ⟨D,rfl,h.says i _ hi,hk _ (h.putObj i _ hi)⟩⟩
end
inductive u6 {σ ε π : Type} (T : σ → ε → Bool → σ → Prop) (p : ε → π) (s0 : σ) : List π → σ → Prop
  |nil:u6 T p s0 [] s0
  |snoc {pre:List π} {s s':σ} {x:ε}:u6 T p s0 pre s→T s x true s'→u6 T p s0 (pre++[p x]) s'
def Stop {σ ε π:Type} (T:σ→ε→Bool→σ→Prop) (p:ε→π) (s0:σ) (xs:List π) (s':σ):Prop:=∃pre x post s,u6 T p s0 pre s∧xs=pre++p x::post∧T s x false s'
def ow {σ ε π:Type} (P:Program) (l:Nat) (C:Bool→σ→Atom) (T:σ→ε→Bool→σ→Prop) (p:ε→π) (s0:σ) (xs:List π) (Rd:(Nat→Prop)→ε→World→Prop) (enc:ε→Array Value):Prop:=
  ∀s x pre post w,u6 T p s0 pre s→xs=pre++p x::post→aI w (b7 [C true s]) w [C true s]→Rd (b7 [C true s]) x w→
    oV P l (enc x) w fun v w'=>∃b s',v=.bool b∧T s x b s'∧aI w (b7 [C true s]) w' [C b s']
def BH (R : Nat → Value) : List (Tmp × Value) → Nat → Value
  |[]=>R
  |(t,v)::l=>BH (dw R t v) l
theorem sI.BH {ds:List Deferred} {n:Nat}:∀(l:List (Tmp×Value)) {R:Nat→Value} {tmps:Array Value},(∀x∈l,x.1<n)→sI ds n R ⟨tmps,ds⟩→
    sI ds n (Rl.BH R l) ⟨l.foldl (fun ts x=>ts.setIfInBounds x.1 x.2) tmps,ds⟩:=by
  intro l
  induction l with
  |nil=>exact fun _ h=>h
  |cons x l ih=>
    intro R tmps hl h
    have:=h.put (dst:=some x.1) (by simpa[eR]using hl x (by simp)) x.2
    exact ih (fun y hy=>hl y (adv _ hy)) this
section
variable {P:Program} {ro:Option Nat} {n:Nat} {Q:fc} {R:Nat→Value} {w0 w:World} {F:Nat→Prop} {L M:List Atom}
def BL {σ:Type} (T:Bool→σ→Prop) (FF:Nat→Prop) (l D:Nat) (rc:LoopState→Option Code→Loop) (S:σ→List Atom) (w:World):fc:=fun e ds R w'=>
  (e=.normal∧∃s',T true s'∧aI w FF w' (.obj l (.loop (rc .busy none))::.obj D (.deferred (some []))::S s'))∨
  (e=.ret∧∃s',T false s'∧aI w FF w' (.obj l (.loop (rc .busy none))::.obj D (.deferred (some []))::S s'))
def yT (P:Program) (l n:Nat) (body:Code) (Qb:fc) (FF:Nat→Prop) (L0:List Atom) (w:World):fc:=fun e ds R w'=>e=.normal∧ds=[]∧w'=w∧∀w2,aI w FF w2 L0→XW P (some l) n body Qb [] R w2
theorem uV {l:Nat} {body:Code} {Qb:fc} {FF:Nat→Prop} {L0:List Atom} (h:∀w2,aI w FF w2 L0→XW P (some l) n body Qb [] R w2):yT P l n body Qb FF L0 w .normal [] R w:=⟨rfl,rfl,rfl,h⟩
theorem xM {σ:Type} {T:Bool→σ→Prop} {FF:Nat→Prop} {l D:Nat} {rc:LoopState→Option Code→Loop} {S:σ→List Atom} {w w':World} {ds:List Deferred} (s':σ) (hT:T true s') (h:aI w FF w' (.obj l (.loop (rc .busy none))::.obj D (.deferred (some []))::S s')):BL T FF l D rc S w .normal ds R w':=.inl ⟨rfl,s',hT,h⟩
theorem XW.NO {σ ε π : Type} {g : Operand} {ps : Array Tmp} {Fy body : Code} {gf : FuncId} {fn : Func} {lb : Array Value} {p : ε → π} {enc : ε → Array Value} {Rd : (Nat → Prop) → ε → World → Prop} {xs : List π}
    (S:σ→List Atom) (T:σ→ε→Bool→σ→Prop) (s0:σ)
    (hN:aI w0 F w (S s0++M)) (hg:ev R g=.func (.func gf) #[] lb) (hf:P.funcs[gf]?=some fn) (hn:(fn.name == "runtime.NumGoroutine")=false) (hb:fn.body.isSome=true)
    (SA:∀(l:Nat) (C:Bool→σ→Atom) (w:World),ow P l C T p s0 xs Rd enc→aI w0 F w (C true s0::M)→aM P gf (#[.func (.yield l) #[] #[]]++lb) w fun _ w'=>∃s',(u6 T p s0 xs s'∧aI w0 F w' [C true s'])∨(Stop T p s0 xs s'∧aI w0 F w' [C false s']))
    (EW:∀x,(enc x).size=ps.size) (cD:∀t∈ps.toList,t<n)
    (IL:∀(l D:Nat) (rc:LoopState→Option Code→Loop) (FF:Nat→Prop) (s:σ) (x:ε) (pre post:List π) (w:World),u6 T p s0 pre s→xs=pre++p x::post→Rd FF x w→aI w FF w (.obj l (.loop (rc .ready none))::.obj D (.deferred (some []))::S s)→
      XW P (some l) n Fy (yT P l n body (BL (T s x) FF l D rc S w) FF (.obj l (.loop (rc .busy none))::.obj D (.deferred (some []))::S s) w) [] (BH R (ps.toList.zip (enc x).toList)) w)
    (IF:∀(l D:Nat) (o:Obj) (s:σ) (w:World),u6 T p s0 xs s→aI w0 F w (.obj l o::.obj D (.deferred (some []))::S s)→Q .normal (mark D) R w)
    (UL:∀(l D:Nat) (o:Obj) (s:σ) (w:World),Stop T p s0 xs s→aI w0 F w (.obj l o::.obj D (.deferred (some []))::S s)→Q .ret (mark D) R w):
    XW P none n (.rangeFunc g ps Fy body) Q [] R w:=fun a ha=>by
  refine wpIn_rangeFunc ?_
  intro YA _
  obtain⟨rc,JU⟩:∃rc:LoopState→Option Code→Loop,rc=fun st pe=>{state:=st,pending:=pe,fn:=YA,tmps:=a.tmps,params:=ps,assign:=Fy,body,defers:=w.heap.size}:=⟨_,rfl⟩
  obtain⟨W1,XZ⟩:∃W1,(w.alloc (.deferred (some []))).alloc (.loop (rc .ready none))=W1:=⟨_,rfl⟩
  let O:Bool→Atom:=fun b=>.obj (w.heap.size+1) (.loop (bif b then rc .ready none else rc .done (some .ret)))
  let D:Atom:=.obj w.heap.size (.deferred (some []))
  let C:Bool→σ→Atom:=fun b s=>.all (O b::D::S s)
  have hN1:aI w0 F W1 (C true s0::M):=by
    have h1:aI w0 F (w.alloc (.deferred (some []))) (D::(S s0++M)):=hN.push (Ext.alloc _ _) (ahQ w _) fun k hk=>by cases hk;exact⟨ac3 _,by simp⟩
    have h2:aI w0 F W1 (O true::D::(S s0++M)):=by
      rw[←XZ]
      refine h1.push (Ext.alloc _ _) ?_ fun k hk=>?_
      · have := ahQ (w.alloc (.deferred (some []))) (.loop (rc .ready none))
        rwa [World.size_alloc]at this
      · cases hk;simp
    exact aI.pack (L:=O true::D::S s0) h2
  have om:(fn.name == "runtime.NumGoroutine")=false:=hn
  have Ru:ow P (w.heap.size+1) C T p s0 xs Rd enc:=by
    intro s x pre post w1 fG K6 h1 Qk
    have hF:b7 [C true s]=b7 (O true::D::S s):=Fe
    have h1:aI w1 (b7 [C true s]) w1 (O true::D::S s):=h1.Ue
    have hl:w1.heap[w.heap.size+1]?=some (.loop (rc .ready none)):=h1.says 0 _ rfl
    have hy:=run_yield (P:=P) (args:=enc x) hl (by rw[JU];exact EW x)
    rw[JU]at hy
    refine⟨YA,_,Fy,body,hy,roundIn_of_wpIn trivial ?_⟩
    have qC:=IL (w.heap.size+1) w.heap.size rc _ s x pre post w1 fG K6 Qk h1
    have uD:sI [] n (BH R (ps.toList.zip (enc x).toList)) ⟨(ps.zip (enc x)).foldl (fun tmps (t,a)=>tmps.setIfInBounds t a) a.tmps,[]⟩:=by
      have:=sI.BH (ds:=[]) (n:=n) (ps.toList.zip (enc x).toList) (R:=R) (tmps:=a.tmps) (fun y hy=>cD _ (List.of_mem_zip hy).1) ⟨ha.size,ha.lC,rfl⟩
      rw[←Array.foldl_toList,Array.toList_zip]
      exact this
    refine wpIn_mono (qC _ uD) ?_
    rintro e a1 w2 ⟨R1,ds1,hR1,rfl,rfl,rfl,Ld⟩
    refine⟨_,run_beginRound hl (by rw[JU]),?_⟩
    have h2:aI w2 (b7 [C true s]) (w2.putObj (w.heap.size+1) (.loop {rc .ready none with state:=.busy})) (.obj (w.heap.size+1) (.loop {rc .ready none with state:=.busy})::D::S s):=h1.putObj 0 _ rfl
    have eb:({rc .ready none with state:=.busy}:Loop)=rc .busy none:=by rw[JU]
    rw[eb]at h2 ⊢
    refine wpIn_mono (Ld _ h2 a1 hR1) ?_
    have fin:∀(b:Bool) (s':σ) (w3:World),T s x b s'→aI w2 (b7 [C true s]) w3 (.obj (w.heap.size+1) (.loop (rc .busy none))::.obj w.heap.size (.deferred (some []))::S s')→
        ∃v w',(Instr.endRound (w.heap.size+1) (bif b then none else some .ret)).run P w3=.ok v w'∧∃u,Ending.returned v=.returned u∧∃b s',u=.bool b∧T s x b s'∧aI w2 (b7 [C true s]) w' [C b s']:=by
      intro b s' w3 hT h3
      have OB:w3.heap[w.heap.size+1]?=some (.loop (rc .busy none)):=h3.says 0 _ rfl
      refine⟨_,_,run_endRound _ OB,_,rfl,b,s',by cases b<;>rfl,hT,?_⟩
      have h4:=h3.putObj 0 (.loop {rc .busy none with state:=if(bif b then none else some Code.ret:Option Code).isNone then .ready else .done,pending:=bif b then none else some .ret}) rfl
      have e4:({rc .busy none with state:=if(bif b then none else some Code.ret:Option Code).isNone then .ready else .done,pending:=bif b then none else some .ret}:Loop)=bif b then rc .ready none else rc .done (some .ret):=by
        rw[JU];cases b<;>rfl
      rw[e4]at h4 ⊢
      exact aI.Tp (L:=O b::D::S s') h4
    rintro e a2 w3 ⟨R3,ds3,_,⟨rfl,s',hT,h3⟩|⟨rfl,s',hT,h3⟩⟩
    · exact fin true s' w3 hT h3
    · exact fin false s' w3 hT h3
  refine⟨w.heap.size+1,mark w.heap.size,W1,{target:=.fn (.func gf) lb,args:=#[.func (.yield (w.heap.size+1)) #[] #[]]},W1,gf,#[.func (.yield (w.heap.size+1)) #[] #[]]++lb,W1,?_,?_,fun _ _=>trivial,?_,fun e=>(by cases e),?_⟩
  · rw[←XZ,JU];exact run_enterLoop_outer _ _ _ _ _
  · have Vw : a.eval g = .func (.func gf) #[] lb := by rw [ha.eval]; exact hg
    simp only[resolve,Vw]
    simp[go_sem]
  · have := eu (P := P) (w := W1) (#[.func (.yield (w.heap.size + 1)) #[] #[]] ++ lb) hf om hb
    simpa[invoke]using this
  · refine agX (DM (SA (w.heap.size + 1) C W1 Ru hN1)) ?_
    rintro e w2 ⟨v,rfl,s',⟨fG,h2⟩|⟨fG,h2⟩⟩
    · have h3 : aI w0 F w2 (O true :: D :: S s') := h2.Ue
      have hl:w2.heap[w.heap.size+1]?=some (.loop (rc .ready none)):=h3.says 0 _ rfl
      have OU:(ajo (w.heap.size+1)).run P w2=.ok (none) (w2.putObj (w.heap.size+1) (.loop {rc .ready none with state:=.exhausted})):=by
        have:=run_endLoop (P:=P) hl (by rw[JU];simp)
        rw[JU]at this ⊢;exact this
      refine⟨none,_,OU,?_⟩
      refine⟨R,mark w.heap.size,⟨ha.size,ha.lC,by simp[ha.defs]⟩,?_⟩
      exact IF _ _ _ s' _ fG (h3.putObj 0 _ rfl)
    · have h3 : aI w0 F w2 (O false :: D :: S s') := h2.Ue
      have hl:w2.heap[w.heap.size+1]?=some (.loop (rc .done (some .ret))):=h3.says 0 _ rfl
      have OU:(ajo (w.heap.size+1)).run P w2=.ok (some .ret) (w2.putObj (w.heap.size+1) (.loop {rc .done (some .ret)with state:=.exhausted})):=by
        have:=run_endLoop (P:=P) hl (by rw[JU];simp)
        rw[JU]at this ⊢;exact this
      refine⟨some .ret,_,OU,?_⟩
      refine wpIn_ret ⟨R,mark w.heap.size,⟨ha.size,ha.lC,by simp[ha.defs]⟩,?_⟩
      exact UL _ _ _ s' _ fG (h3.putObj 0 _ rfl)
end
end Go.Rl
namespace Go.Rl
def Kl (n:Nat) (ops:Array Oper) (i:Nat):Bool:=match ops[i]? with
  |some o=>eR n o.dst && (match o.guard with
    |none=>true
    |some (j,_)=>match (ops[j]?).bind (·.dst)with
      |some d=>decide (d<n)
      |none=>false)
  |none=>false
def zU (n : Nat) (ops : Array Oper) (e : Nat) : List (Nat × Nat) → Array Bool → Bool
  |[],_=>true
  |(i,k)::r,bx=>Kl n ops i && (match k with
    |0=>afG .any ops bx i && (adu .any ops bx).contains i && !(i == e) && waits ops e i
    |1=>adu .any ops bx == [i]
    |_=>adu .any ops bx == [i] && i == e) && zU n ops e r (bx.setIfInBounds i true)
def RQ (P:Program) (n:Nat) (ops:Array Oper) (Q:fQ) (S:World→Prop) (e fuel:Nat) (st:List (Nat×Nat)) (bx:Array Bool) (R:Nat→Value) (w:World):Prop:=
  zU n ops e st bx=true→aeD ops=true→LM Q→S w→RE P n ops Q S e fuel bx R w
section
variable {P:Program} {n:Nat} {Q:fQ} {R:Nat→Value} {w:World} {ops:Array Oper} {S:World→Prop} {e fuel i k:Nat} {st:List (Nat×Nat)} {bx:Array Bool} {o:Oper} {v:Value}
theorem nU (h:zU n ops e ((i,k)::st) bx=true):Kl n ops i=true∧zU n ops e st (bx.setIfInBounds i true)=true:=by
  simp only[zU,adm]at h
  exact⟨h.1.1,h.2⟩
theorem x6 (h:zU n ops e ((i,0)::st) bx=true):afG .any ops bx i=true∧(adu .any ops bx).contains i=true∧i≠e∧waits ops e i=true:=by
  simp only[zU,adm,Bool.not_eq_true',beq_eq_false_iff_ne]at h
  exact⟨h.1.2.1.1.1,h.1.2.1.1.2,h.1.2.1.2,h.1.2.2⟩
theorem x7 (h:zU n ops e ((i,1)::st) bx=true):adu .any ops bx=[i]:=by
  simp only[zU,adm,beq_iff_eq]at h
  exact h.1.2
theorem KI (h:zU n ops e ((i,2)::st) bx=true):adu .any ops bx=[i]∧i=e:=by
  simp only[zU,adm,beq_iff_eq]at h
  exact h.1.2
theorem lX (h:Kl n ops i=true) (hi:ops[i]?=some o):eR n o.dst=true:=by
  unfold Kl at h
  rw[hi]at h
  simp only[adm]at h
  exact h.1
theorem ph {j d:Nat} {b:Bool} (h:Kl n ops i=true) (hi:ops[i]?=some o) (hg:o.guard=some (j,b)) (hj:(ops[j]?).bind (·.dst)=some d):d<n:=by
  unfold Kl at h
  rw[hi]at h
  simp only[hg,hj,adm,decide_eq_true_eq]at h
  exact h.2
theorem RE.Gk {i : Nat} {o : Oper} {v : Value} (hi : ops[i]? = some o) (ui : i ≠ e) (Uw : waits ops e i = true) (hs : aeD ops = true)
    (hf:afG .any ops bx i=true) (hr:(adu .any ops bx).contains i=true) (hp:LM Q) (hd:eR n o.dst=true) (hS:S w) (hy:∀a,AtR n R a→YieldsIf P ops S o v a)
    (hn:RE P n ops Q S e fuel (bx.setIfInBounds i true) (fu R o.dst v) w):RE P n ops Q S e (fuel+1) bx R w:=fun a ha=>
  xF hi ui Uw (ahR hs) (fun c a w=>o8 hp _ _ a w) fuel bx a w (ai0 hi hf) (by simpa using hr) (hy a ha) hS (hn _ (ha.put hd v))
theorem RQ.ev (hi:ops[i]?=some o) (hg:o.guard=none) (h:∀w,S w→Ev P o R w v) (hn:RQ P n ops Q S e fuel st (bx.setIfInBounds i true) (fu R o.dst v) w):RQ P n ops Q S e (fuel+1) ((i,0)::st) bx R w:=fun fU hs hp hS=>by
  obtain⟨h1,h2⟩:=nU fU
  obtain⟨g1,g2,g3,g4⟩:=x6 fU
  exact RE.Gk hi g3 g4 hs g1 g2 hp (lX h1 hi) hS (fun a ha=>.inl ⟨by simp[adJ,hg],fun w hw=>by rw[ha.eval];exact h w hw⟩) (hn h2 hs hp hS)
theorem RQ.aA (hi:ops[i]?=some o) (h:∀w,S w→Ev P o R w v) (hn:RQ P n ops Q S e fuel st (bx.setIfInBounds i true) (fu R o.dst v) w) (hg:o.guard=none:=by exact rfl):RQ P n ops Q S e (fuel+1) ((i,0)::st) bx R w:=RQ.ev hi hg h hn
theorem RQ.on {j d:Nat} {want:Bool} (hi:ops[i]?=some o) (hg:o.guard=some (j,want)) (hj:(ops[j]?).bind (·.dst)=some d) (hb:R d=.bool want) (h:∀w,S w→Ev P o R w v) (hn:RQ P n ops Q S e fuel st (bx.setIfInBounds i true) (fu R o.dst v) w):
    RQ P n ops Q S e (fuel+1) ((i,0)::st) bx R w:=fun fU hs hp hS=>by
  obtain⟨h1,h2⟩:=nU fU
  obtain⟨g1,g2,g3,g4⟩:=x6 fU
  exact RE.Gk hi g3 g4 hs g1 g2 hp (lX h1 hi) hS (fun a ha=>.inl ⟨by simp[adJ,hg,gw ha hj (ph h1 hi hg hj) hb],fun w hw=>by rw[ha.eval];exact h w hw⟩) (hn h2 hs hp hS)
theorem RQ.aS {j d:Nat} {want:Bool} (hi:ops[i]?=some o) (h:∀w,S w→Ev P o R w v) (hn:RQ P n ops Q S e fuel st (bx.setIfInBounds i true) (fu R o.dst v) w) (hg:o.guard=some (j,want):=by exact rfl) (hj:(ops[j]?).bind (·.dst)=some d:=by exact rfl) (hb:R d=.bool want:=by exact rfl):RQ P n ops Q S e (fuel+1) ((i,0)::st) bx R w:=RQ.on hi hg hj hb h hn
theorem RQ.GA (hi:ops[i]?=some o) (hy:∀a,AtR n R a→Kl n ops i=true→adJ o (yielded ops a.tmps)=false) (hn:RQ P n ops Q S e fuel st (bx.setIfInBounds i true) (fu R o.dst undef) w):
    RQ P n ops Q S e (fuel+1) ((i,k)::st) bx R w:=fun fU hs hp hS=>by
  obtain⟨h1,h2⟩:=nU fU
  have hn:=hn h2 hs hp hS
  have go:adu .any ops bx=[i]→RE P n ops Q S e (fuel+1) bx R w:=fun hr a ha=>by
    refine⟨fun h0=>(by rw[hr]at h0;cases h0),fun j hj=>?_⟩
    have:j=i:=by rw[hr]at hj;simpa using hj
    subst this
    unfold wpOp
    simp only[hi,hy a ha h1,adP,if_false]
    exact⟨fun _=>hS,hn _ (ha.put (lX h1 hi) undef)⟩
  match k,fU with
  |0,fU=>
    obtain⟨g1,g2,g3,g4⟩:=x6 fU
    exact RE.Gk hi g3 g4 hs g1 g2 hp (lX h1 hi) hS (fun a ha=>.inr ⟨hy a ha h1,rfl⟩) hn
  |1,fU=>exact go (x7 fU)
  |k+2,fU=>
    refine go ?_
    simp only[zU,adm,beq_iff_eq]at fU
    exact fU.1.2.1
theorem RQ.off {j d:Nat} {want:Bool} (hi:ops[i]?=some o) (hg:o.guard=some (j,want)) (hj:(ops[j]?).bind (·.dst)=some d) (hb:R d=.bool (!want)) (hn:RQ P n ops Q S e fuel st (bx.setIfInBounds i true) (fu R o.dst undef) w):
    RQ P n ops Q S e (fuel+1) ((i,k)::st) bx R w:=RQ.GA hi (fun a ha h1=>by cases want<;>simp[adJ,hg,gw ha hj (ph h1 hi hg hj) hb]) hn
theorem RQ.bU {j d:Nat} {want:Bool} (hi:ops[i]?=some o) (hn:RQ P n ops Q S e fuel st (bx.setIfInBounds i true) (fu R o.dst undef) w) (hg:o.guard=some (j,want):=by exact rfl) (hj:(ops[j]?).bind (·.dst)=some d:=by exact rfl) (hb:R d=.bool (!want):=by exact rfl):RQ P n ops Q S e (fuel+1) ((i,k)::st) bx R w:=RQ.off hi hg hj hb hn
theorem RQ.NZ {j d:Nat} {want:Bool} (hi:ops[i]?=some o) (hg:o.guard=some (j,want)) (hj:(ops[j]?).bind (·.dst)=some d) (hb:R d=undef) (hn:RQ P n ops Q S e fuel st (bx.setIfInBounds i true) (fu R o.dst undef) w):
    RQ P n ops Q S e (fuel+1) ((i,k)::st) bx R w:=RQ.GA hi (fun a ha h1=>by simp[adJ,hg,oc ha hj (ph h1 hi hg hj) hb]) hn
theorem RQ.dS {j d:Nat} {want:Bool} (hi:ops[i]?=some o) (hn:RQ P n ops Q S e fuel st (bx.setIfInBounds i true) (fu R o.dst undef) w) (hg:o.guard=some (j,want):=by exact rfl) (hj:(ops[j]?).bind (·.dst)=some d:=by exact rfl) (hb:R d=undef:=by exact rfl):RQ P n ops Q S e (fuel+1) ((i,k)::st) bx R w:=RQ.NZ hi hg hj hb hn
theorem RQ.do (hi:ops[i]?=some o) (hg:o.guard=none) (h:eL P o R w (fun v w'=>S w'∧RQ P n ops Q S e fuel st (bx.setIfInBounds i true) (fu R o.dst v) w')):RQ P n ops Q S e (fuel+1) ((i,1)::st) bx R w:=fun fU hs hp hS a ha=>by
  obtain⟨h1,h2⟩:=nU fU
  have hr:=x7 fU
  refine⟨fun h0=>(by rw[hr]at h0;cases h0),fun j hj=>?_⟩
  have:j=i:=by rw[hr]at hj;simpa using hj
  subst this
  unfold wpOp
  simp only[hi,adJ,hg,if_true]
  exact .inl (eL.wp ha (lX h1 hi) h fun v w' hv uD=>⟨fun _=>hv.1,hv.2 h2 hs hp hv.1 _ uD⟩)
theorem RQ.b0 (hi:ops[i]?=some o) (h:eL P o R w (fun v w'=>S w'∧RQ P n ops Q S e fuel st (bx.setIfInBounds i true) (fu R o.dst v) w')) (hg:o.guard=none:=by exact rfl):RQ P n ops Q S e (fuel+1) ((i,1)::st) bx R w:=RQ.do hi hg h
theorem RQ.ob {j d : Nat} {want : Bool} (hi : ops[i]? = some o) (hg : o.guard = some (j, want)) (hj : (ops[j]?).bind (·.dst) = some d) (hb : R d = .bool want)
    (h:eL P o R w (fun v w'=>S w'∧RQ P n ops Q S e fuel st (bx.setIfInBounds i true) (fu R o.dst v) w')):RQ P n ops Q S e (fuel+1) ((i,1)::st) bx R w:=fun fU hs hp hS a ha=>by
  obtain⟨h1,h2⟩:=nU fU
  have hr:=x7 fU
  refine⟨fun h0=>(by rw[hr]at h0;cases h0),fun q hq=>?_⟩
  have:q=i:=by rw[hr]at hq;simpa using hq
  subst this
  unfold wpOp
  simp only[hi,adJ,hg,gw ha hj (ph h1 hi hg hj) hb,beq_self_eq_true,if_true]
  exact .inl (eL.wp ha (lX h1 hi) h fun v w' hv uD=>⟨fun _=>hv.1,hv.2 h2 hs hp hv.1 _ uD⟩)
def RZ (P:Program) (n:Nat) (ops:Array Oper) (Q:fQ) (S:World→Prop) (e fuel:Nat) (bx:Array Bool) (R:Nat→Value) (w:World):Prop:=RE P n ops Q S e fuel bx R w
theorem RQ.last (hi:ops[i]?=some o) (hg:o.guard=none) (h:eL P o R w (fun v w'=>RZ P n ops Q S e fuel (bx.setIfInBounds i true) (fu R o.dst v) w')):RQ P n ops Q S e (fuel+1) ((i,2)::st) bx R w:=fun fU hs hp hS a ha=>by
  obtain⟨h1,h2⟩:=nU fU
  obtain⟨hr,rfl⟩:=KI fU
  refine⟨fun h0=>(by rw[hr]at h0;cases h0),fun j hj=>?_⟩
  have:j=i:=by rw[hr]at hj;simpa using hj
  subst this
  unfold wpOp
  simp only[hi,adJ,hg,if_true]
  exact .inl (eL.wp ha (lX h1 hi) h fun v w' hv uD=>⟨fun h=>absurd rfl h,hv _ uD⟩)
theorem RZ.done (hr:adu .any ops bx=[]) (h:Q .normal R w):RZ P n ops Q S e fuel bx R w:=RE.done hr h
theorem RZ.eJ (h:Q .normal R w) (hr:adu .any ops bx=[]:=by kernel_rfl):RZ P n ops Q S e fuel bx R w:=RZ.done hr h
theorem RQ.done (hr:adu .any ops bx=[]) (h:Q .normal R w):RQ P n ops Q S e fuel [] bx R w:=fun _ _ _ _=>RE.done hr h
theorem RQ.bq (h:Q .normal R w) (hr:adu .any ops bx=[]:=by kernel_rfl):RQ P n ops Q S e fuel [] bx R w:=RQ.done hr h
theorem RQ.two {i j : Nat} {o o' : Oper} (st WX : List (Nat × Nat)) (hr : adu .any ops bx = [i, j]) (hi : ops[i]? = some o) (hg : o.guard = none) (hj : ops[j]? = some o') (Vw : o'.guard = none)
    (fU:(zU n ops e st (bx.setIfInBounds i true) && zU n ops e WX (bx.setIfInBounds j true) && Kl n ops i && Kl n ops j)=true)
    (h:eL P o R w (fun v w'=>S w'∧RQ P n ops Q S e fuel st (bx.setIfInBounds i true) (fu R o.dst v) w'))
    (h':eL P o' R w (fun v w'=>S w'∧RQ P n ops Q S e fuel WX (bx.setIfInBounds j true) (fu R o'.dst v) w')):RQ P n ops Q S e (fuel+1) [] bx R w:=fun _ hs hp hS a ha=>by
  simp only[adm]at fU
  obtain⟨⟨⟨h1,h2⟩,h3⟩,h4⟩:=fU
  refine⟨fun h0=>(by rw[hr]at h0;cases h0),fun q hq=>?_⟩
  rw[hr]at hq
  simp only[ac1,acV,or_false]at hq
  rcases hq with rfl|rfl
  · unfold wpOp
    simp only[hi,adJ,hg,if_true]
    exact .inl (eL.wp ha (lX h3 hi) h fun v w' hv uD=>⟨fun _=>hv.1,hv.2 h1 hs hp hv.1 _ uD⟩)
  · unfold wpOp
    simp only[hj,adJ,Vw,if_true]
    exact .inl (eL.wp ha (lX h4 hj) h' fun v w' hv uD=>⟨fun _=>hv.1,hv.2 h2 hs hp hv.1 _ uD⟩)
end
section
variable {P:Program} {ro:Option Nat} {n:Nat} {Q:fQ} {X:fc} {R:Nat→Value} {w:World} {ops:Array Oper} {ds:List Deferred} {id:Nat}
theorem RW.A5 (hm : P.follows .mixedOrders = true) (S : World → Prop) (e : Nat) (st : List (Nat × Nat)) (hp : LM Q) (fU : (zU n ops e st (aes ops.size false) && aeD ops) = true) (hS : S w.drew)
    (h:RQ P n ops Q S e ops.size st (aes ops.size false) R w.drew):RW P n (.region id ops true) Q R w:=by
  simp only[adm]at fU
  exact RW.Jt hm S e (h fU.1 fU.2 hp hS)
theorem RW.bD (S:World→Prop) (e:Nat) (st:List (Nat×Nat)) (hp:LM Q) (hS:S w.drew) (h:RQ P n ops Q S e ops.size st (aes ops.size false) R w.drew) (hm:P.follows .mixedOrders=true:=by exact rfl) (fU:(zU n ops e st (aes ops.size false) && aeD ops)=true:=by kernel_rfl):RW P n (.region id ops true) Q R w:=RW.A5 hm S e st hp fU hS h
theorem XW.A5 (hm : P.follows .mixedOrders = true) (om : ops.toList.all ew = true) (S : World → Prop) (e : Nat) (st : List (Nat × Nat)) (fU : (zU n ops e st (aes ops.size false) && aeD ops) = true) (hS : S w.drew)
    (h:RQ P n ops (pz fun R w=>X .normal ds R w) S e ops.size st (aes ops.size false) R w.drew):XW P ro n (.region id ops true) X ds R w:=by
  simp only[adm]at fU
  exact XW.Jt hm om S e (h fU.1 fU.2 NU hS)
end
end Go.Rl
namespace Go.Rl
theorem YU {R:Nat→Value} {a1:Nat} {v1:Value} (h1:R a1=v1):∃Q,R=(dw Q a1 v1):=⟨R,by rw[bm h1]⟩
theorem Bu {R:Nat→Value} {a1 a2:Nat} {v1 v2:Value} (h1:R a1=v1) (h2:R a2=v2):∃Q,R=(dw (dw Q a1 v1) a2 v2):=⟨R,by rw[bm h1,bm h2]⟩
theorem ln {R:Nat→Value} {a1 a2 a3:Nat} {v1 v2 v3:Value} (h1:R a1=v1) (h2:R a2=v2) (h3:R a3=v3):∃Q,R=(dw (dw (dw Q a1 v1) a2 v2) a3 v3):=⟨R,by rw[bm h1,bm h2,bm h3]⟩
theorem jd {R:Nat→Value} {a1 a2 a3 a4:Nat} {v1 v2 v3 v4:Value} (h1:R a1=v1) (h2:R a2=v2) (h3:R a3=v3) (h4:R a4=v4):∃Q,R=(dw (dw (dw (dw Q a1 v1) a2 v2) a3 v3) a4 v4):=⟨R,by rw[bm h1,bm h2,bm h3,bm h4]⟩
theorem iw {R:Nat→Value} {a1 a2 a3 a4 a5:Nat} {v1 v2 v3 v4 v5:Value} (h1:R a1=v1) (h2:R a2=v2) (h3:R a3=v3) (h4:R a4=v4) (h5:R a5=v5):∃Q,R=(dw (dw (dw (dw (dw Q a1 v1) a2 v2) a3 v3) a4 v4) a5 v5):=⟨R,by rw[bm h1,bm h2,bm h3,bm h4,bm h5]⟩
theorem o9 {R:Nat→Value} {a1 a2 a3 a4 a5 a6:Nat} {v1 v2 v3 v4 v5 v6:Value} (h1:R a1=v1) (h2:R a2=v2) (h3:R a3=v3) (h4:R a4=v4) (h5:R a5=v5) (h6:R a6=v6):∃Q,R=(dw (dw (dw (dw (dw (dw Q a1 v1) a2 v2) a3 v3) a4 v4) a5 v5) a6 v6):=⟨R,by rw[bm h1,bm h2,bm h3,bm h4,bm h5,bm h6]⟩
theorem DZ {R:Nat→Value} {a1 a2 a3 a4 a5 a6 a7:Nat} {v1 v2 v3 v4 v5 v6 v7:Value} (h1:R a1=v1) (h2:R a2=v2) (h3:R a3=v3) (h4:R a4=v4) (h5:R a5=v5) (h6:R a6=v6) (h7:R a7=v7):∃Q,R=(dw (dw (dw (dw (dw (dw (dw Q a1 v1) a2 v2) a3 v3) a4 v4) a5 v5) a6 v6) a7 v7):=⟨R,by rw[bm h1,bm h2,bm h3,bm h4,bm h5,bm h6,bm h7]⟩
theorem sR {R:Nat→Value} {a1 a2 a3 a4 a5 a6 a7 a8:Nat} {v1 v2 v3 v4 v5 v6 v7 v8:Value} (h1:R a1=v1) (h2:R a2=v2) (h3:R a3=v3) (h4:R a4=v4) (h5:R a5=v5) (h6:R a6=v6) (h7:R a7=v7) (h8:R a8=v8):∃Q,R=(dw (dw (dw (dw (dw (dw (dw (dw Q a1 v1) a2 v2) a3 v3) a4 v4) a5 v5) a6 v6) a7 v7) a8 v8):=⟨R,by rw[bm h1,bm h2,bm h3,bm h4,bm h5,bm h6,bm h7,bm h8]⟩
theorem Nz {R:Nat→Value} {a1 a2 a3 a4 a5 a6 a7 a8 a9:Nat} {v1 v2 v3 v4 v5 v6 v7 v8 v9:Value} (h1:R a1=v1) (h2:R a2=v2) (h3:R a3=v3) (h4:R a4=v4) (h5:R a5=v5) (h6:R a6=v6) (h7:R a7=v7) (h8:R a8=v8) (h9:R a9=v9):∃Q,R=(dw (dw (dw (dw (dw (dw (dw (dw (dw Q a1 v1) a2 v2) a3 v3) a4 v4) a5 v5) a6 v6) a7 v7) a8 v8) a9 v9):=⟨R,by rw[bm h1,bm h2,bm h3,bm h4,bm h5,bm h6,bm h7,bm h8,bm h9]⟩
theorem WW {R:Nat→Value} {a1 a2 a3 a4 a5 a6 a7 a8 a9 xB:Nat} {v1 v2 v3 v4 v5 v6 v7 v8 v9 v10:Value} (h1:R a1=v1) (h2:R a2=v2) (h3:R a3=v3) (h4:R a4=v4) (h5:R a5=v5) (h6:R a6=v6) (h7:R a7=v7) (h8:R a8=v8) (h9:R a9=v9) (lT:R xB=v10):∃Q,R=(dw (dw (dw (dw (dw (dw (dw (dw (dw (dw Q a1 v1) a2 v2) a3 v3) a4 v4) a5 v5) a6 v6) a7 v7) a8 v8) a9 v9) xB v10):=⟨R,by rw[bm h1,bm h2,bm h3,bm h4,bm h5,bm h6,bm h7,bm h8,bm h9,bm lT]⟩
theorem Gd {R:Nat→Value} {a1 a2 a3 a4 a5 a6 a7 a8 a9 xB Be:Nat} {v1 v2 v3 v4 v5 v6 v7 v8 v9 v10 v11:Value} (h1:R a1=v1) (h2:R a2=v2) (h3:R a3=v3) (h4:R a4=v4) (h5:R a5=v5) (h6:R a6=v6) (h7:R a7=v7) (h8:R a8=v8) (h9:R a9=v9) (lT:R xB=v10) (CF:R Be=v11):∃Q,R=(dw (dw (dw (dw (dw (dw (dw (dw (dw (dw (dw Q a1 v1) a2 v2) a3 v3) a4 v4) a5 v5) a6 v6) a7 v7) a8 v8) a9 v9) xB v10) Be v11):=⟨R,by rw[bm h1,bm h2,bm h3,bm h4,bm h5,bm h6,bm h7,bm h8,bm h9,bm lT,bm CF]⟩
theorem WV {R:Nat→Value} {a1 a2 a3 a4 a5 a6 a7 a8 a9 xB Be JF:Nat} {v1 v2 v3 v4 v5 v6 v7 v8 v9 v10 v11 mV:Value} (h1:R a1=v1) (h2:R a2=v2) (h3:R a3=v3) (h4:R a4=v4) (h5:R a5=v5) (h6:R a6=v6) (h7:R a7=v7) (h8:R a8=v8) (h9:R a9=v9) (lT:R xB=v10) (CF:R Be=v11) (JW:R JF=mV):∃Q,R=(dw (dw (dw (dw (dw (dw (dw (dw (dw (dw (dw (dw Q a1 v1) a2 v2) a3 v3) a4 v4) a5 v5) a6 v6) a7 v7) a8 v8) a9 v9) xB v10) Be v11) JF mV):=⟨R,by rw[bm h1,bm h2,bm h3,bm h4,bm h5,bm h6,bm h7,bm h8,bm h9,bm lT,bm CF,bm JW]⟩
theorem WU {R:Nat→Value} {a1 a2 a3 a4 a5 a6 a7 a8 a9 xB Be JF Nc:Nat} {v1 v2 v3 v4 v5 v6 v7 v8 v9 v10 v11 mV wx:Value} (h1:R a1=v1) (h2:R a2=v2) (h3:R a3=v3) (h4:R a4=v4) (h5:R a5=v5) (h6:R a6=v6) (h7:R a7=v7) (h8:R a8=v8) (h9:R a9=v9) (lT:R xB=v10) (CF:R Be=v11) (JW:R JF=mV) (M0:R Nc=wx):∃Q,R=(dw (dw (dw (dw (dw (dw (dw (dw (dw (dw (dw (dw (dw Q a1 v1) a2 v2) a3 v3) a4 v4) a5 v5) a6 v6) a7 v7) a8 v8) a9 v9) xB v10) Be v11) JF mV) Nc wx):=⟨R,by rw[bm h1,bm h2,bm h3,bm h4,bm h5,bm h6,bm h7,bm h8,bm h9,bm lT,bm CF,bm JW,bm M0]⟩
theorem WT {R:Nat→Value} {a1 a2 a3 a4 a5 a6 a7 a8 a9 xB Be JF Nc Tq:Nat} {v1 v2 v3 v4 v5 v6 v7 v8 v9 v10 v11 mV wx FK:Value} (h1:R a1=v1) (h2:R a2=v2) (h3:R a3=v3) (h4:R a4=v4) (h5:R a5=v5) (h6:R a6=v6) (h7:R a7=v7) (h8:R a8=v8) (h9:R a9=v9) (lT:R xB=v10) (CF:R Be=v11) (JW:R JF=mV) (M0:R Nc=wx) (Wl:R Tq=FK):∃Q,R=(dw (dw (dw (dw (dw (dw (dw (dw (dw (dw (dw (dw (dw (dw Q a1 v1) a2 v2) a3 v3) a4 v4) a5 v5) a6 v6) a7 v7) a8 v8) a9 v9) xB v10) Be v11) JF mV) Nc wx) Tq FK):=⟨R,by rw[bm h1,bm h2,bm h3,bm h4,bm h5,bm h6,bm h7,bm h8,bm h9,bm lT,bm CF,bm JW,bm M0,bm Wl]⟩
theorem WS {R:Nat→Value} {a1 a2 a3 a4 a5 a6 a7 a8 a9 xB Be JF Nc Tq YE:Nat} {v1 v2 v3 v4 v5 v6 v7 v8 v9 v10 v11 mV wx FK kH:Value} (h1:R a1=v1) (h2:R a2=v2) (h3:R a3=v3) (h4:R a4=v4) (h5:R a5=v5) (h6:R a6=v6) (h7:R a7=v7) (h8:R a8=v8) (h9:R a9=v9) (lT:R xB=v10) (CF:R Be=v11) (JW:R JF=mV) (M0:R Nc=wx) (Wl:R Tq=FK) (yC:R YE=kH):∃Q,R=(dw (dw (dw (dw (dw (dw (dw (dw (dw (dw (dw (dw (dw (dw (dw Q a1 v1) a2 v2) a3 v3) a4 v4) a5 v5) a6 v6) a7 v7) a8 v8) a9 v9) xB v10) Be v11) JF mV) Nc wx) Tq FK) YE kH):=⟨R,by rw[bm h1,bm h2,bm h3,bm h4,bm h5,bm h6,bm h7,bm h8,bm h9,bm lT,bm CF,bm JW,bm M0,bm Wl,bm yC]⟩
theorem da {α:Type} (l:List α) (i:Nat) (h:i<l.length:=by omega):∃a,l[i]?=some a:=⟨_,acE h⟩
theorem cZ:∀u∈([]:List Value),u.oneCell'=true:=fun u h=>by cases h
theorem aW {v:Value} {l:List Value} (h:∀u∈l,u.oneCell'=true) (h0:v.oneCell'=true:=by exact rfl):∀u∈v::l,u.oneCell'=true:=fun u hu=>by rcases ac1.1 hu with rfl|hu<;>first|exact h0|exact h u hu
end Go.Rl

namespace Go.Rl
section
variable {P:Program} {n:Nat} {Q Q':fQ} {R:Nat→Value} {w w0:World} {F:Nat→Prop} {L M:List Atom}
theorem RL.ak {ops:Array Oper} {K:(Nat→Value)→World→Prop} (h:K R w):RL P n ops (pd K Q) [] R w:=RL.nil (aw h)
theorem RW.aN {id:Nat} {l:List Oper} {y:Code} (h:RL P n l.toArray (pd (RW P n y Q) Q) l R w):RW P n (.seq (.region id l.toArray false) y) Q R w:=RW.seq (RW.region h)
theorem RL.b6 {ops:Array Oper} {id:Nat} {l:List Oper} {y:Code} (h:RL P n l.toArray (pd (RW P n y Q) Q) l R w):RL P n ops (pd (RW P n (.seq (.region id l.toArray false) y) Q) Q') [] R w:=RL.nil (aw (RW.seq (RW.region h)))
theorem aI.sb (h:aI w0 F w L) (p:List Nat) (hp:p.Nodup:=by decide) (hM:M.map some=p.map (fun i=>L[i]?):=by exact rfl):aI w0 F w M:=h.sub p hp hM
end
end Go.Rl

namespace Go
abbrev vJ (n:Nat):Value:=.int .i64 (n:Int)
abbrev vP (g:Nat):Value:=.pointer (some ⟨g,0,none⟩)
abbrev vN:Value:=.slice none 0 0
end Go

namespace Go.Proofs.YtngkdkbpgoddlaaGreat
open Go.Rl
def bulk (H:Type):FB H where
  one d:=afk d
  all l:=afC l
  nil:=by simp[afC]
  cons d r:=by simp[afC]
  pos d:=by
    cases d with
    |lit l=>cases l<;>simp[afk]
    |_=>simp[afk]
  string l:=by simp[afk]
  slice l r:=by simp only[afk];omega
  agg l:=by simp only[afk];omega
end Go.Proofs.YtngkdkbpgoddlaaGreat
namespace Go.Rl
section
variable {w0 w w':World} {F:Nat→Prop} {L M R:List Atom} {a a':Atom}
def iz (a b:Atom):Prop:=∀k,a.dT k→¬b.dT k
theorem iz.symm {a b:Atom} (h:iz a b):iz b a:=fun k hb ha=>h k ha hb
theorem aI.iff:aI w0 F w L↔Mod F w0 w∧(∀a∈L,a.says w)∧(∀a∈L,∀k,a.dT k→(F k∨w0.heap.size≤k)∧k<w.heap.size)∧L.Pairwise iz:=by
  constructor
  · intro h
    refine⟨h.mod,fun a ha=>?_,fun a ha=>?_,?_⟩
    · obtain⟨i,hi⟩:=ac9 ha;exact h.says i a hi
    · obtain⟨i,hi⟩:=ac9 ha;exact h.low i a hi
    · rw [ae4]
      intro i j hi hj oN
      exact h.sep i j _ _ (by omega) (acE hi) (acE hj)
  · rintro ⟨h1, h2, h3, h4⟩
    rw[ae4]at h4
    refine⟨h1,fun i a ha=>h2 a (acy ha),fun i a ha=>h3 a (acy ha),fun i j a b oN ha hb=>?_⟩
    obtain⟨hi,rfl⟩:=acA.1 ha
    obtain⟨hj,rfl⟩:=acA.1 hb
    rcases ah9 oN with h|h
    · exact h4 i j hi hj h
    · exact(h4 j i hj hi h).symm
theorem aI.take (h:aI w0 F w (L++R)):aI w (b7 L) w L:=by
  rw[aI.iff]at h ⊢
  exact⟨Mod.refl _ _,fun a ha=>h.2.1 a (ad9 _ ha),fun a ha k hk=>⟨.inl ⟨a,ha,hk⟩,(h.2.2.1 a (ad9 _ ha) k hk).2⟩,(aez.1 h.2.2.2).1⟩
variable {α:Type} {P:α→Atom→Prop} {B:Nat→Prop} {l l':List α} {x:α}
end
end Go.Rl
namespace Go.Rl
open Go.RowKit
theorem jO {α β:Type} {cf:α→List β} {s:Nat} (hs:∀a,(cf a).length=s):∀{l:List α} {m:Nat} {a:α} {j:Nat},l[m]?=some a→j<s→(l.flatMap cf)[m*s+j]?=(cf a)[j]?:=by
  intro l
  induction l with
  |nil=>intro m a j h;simp at h
  |cons x r ih=>
    intro m a j h hj
    cases m with
    |zero=>simp at h;subst h;rw[ae0,Nat.zero_mul,aeQ,ads (by rw[hs];exact hj)]
    |succ m=>
      simp at h
      have e:(m+1)*s+j=s+(m*s+j):=by rw[Nat.succ_mul];omega
      rw[ae0,e,adp (by rw[hs];omega),hs,Nat.add_sub_cancel_left,ih h hj]
theorem kT {α β:Type} {cf:α→List β} {s:Nat} (hs:∀a,(cf a).length=s) (l:List α):(l.flatMap cf).length=l.length*s:=by
  induction l with
  |nil=>simp
  |cons x r ih=>rw[ae0,acw,hs,ih,acF,Nat.succ_mul];omega
section
variable {α:Type} {cf:α→List Value} {s:Nat}
def Sm (cf:α→List Value) (w:World) (v:Value) (l:List α):Prop:=∃A c,v=.slice A l.length c∧l.length≤c∧c≤maxLen∧Cells w A (l.flatMap cf)
theorem Sm.nil (cf:α→List Value) (w:World):Sm cf w (.slice none 0 0) []:=⟨none,0,rfl,ac3 _,by unfold maxLen;omega,Cells.nil _ _⟩
theorem Sm.mod {M:Nat→Prop} {w w':World} {v:Value} {l:List α} (h:Sm cf w v l) (hm:Mod M w w') (hb:∀k,v.ownBlock=some k→¬M k):Sm cf w' v l:=by
  obtain⟨A,c,rfl,h1,h2,hc⟩:=h
  refine⟨A,c,rfl,h1,h2,hc.mod hm ?_⟩
  rintro ad rfl
  exact hb _ rfl
theorem Sm.ext {w w':World} {v:Value} {l:List α} (h:Sm cf w v l) (hm:Ext w w'):Sm cf w' v l:=h.mod hm (fun _ _ e=>e)
theorem Sm.off {M:Nat→Prop} {w w':World} {v:Value} {l:List α} (h:Sm cf w v l) (ho:oW M v l) (hm:Mod M w w'):Sm cf w' v l:=by
  by_cases hl:l=[]
  · subst hl
    obtain⟨A,c,h1,h2,h3,h4⟩:=h
    exact⟨A,c,h1,h2,h3,Cells.nil _ _⟩
  · exact h.mod hm (ho hl)
theorem Sm.bw {w:World} {v:Value} {l:List α} (h:Sm cf w v l):l.length≤9223372036854775807:=by
  obtain⟨A,c,rfl,h1,h2,_⟩:=h;unfold maxLen at h2;omega
theorem Sm.lt {w:World} {v:Value} {l:List α} (h:Sm cf w v l) (hs:∀a,cf a≠[]) (hl:l≠[]):∀k,v.ownBlock=some k→k<w.heap.size:=by
  obtain⟨A,c,rfl,h1,h2,hc⟩:=h
  intro k hk
  cases l with
  |nil=>exact absurd rfl hl
  |cons x xs=>
    cases hx:cf x with
    |nil=>exact absurd hx (hs x)
    |cons u us=>
      obtain⟨ad,rfl,hu⟩:=hc 0 u (by simp[hx])
      have:=block_lt_of_cell hu
      rw[block_add]at this
      simp[afQ]at hk
      omega
theorem Sm.cN {w:World} {v:Value} {l:List α} (h:Sm cf w v l):v.cells=#[v]:=by obtain⟨A,c,rfl,_⟩:=h;rfl
theorem Sm.bW {w:World} {v:Value} {l:List α} (h:Sm cf w v l):v.oneCell'=true:=by obtain⟨A,c,rfl,_⟩:=h;rfl
theorem Sm.hd {w:World} {v:Value} {l:List α} (h:Sm cf w v l):∃a:Hd,v=vh a:=by obtain⟨A,c,rfl,_⟩:=h;exact⟨(A,l.length,c),rfl⟩
def fR (cf:α→List Value) (s:Nat) (E:TypeId) (w:World) (base:Nat) (v:Value) (l:List α):Prop:=w.ownsRow base E s v l.length (l.flatMap cf)
theorem fR.nil (cf:α→List Value) (s:Nat) (E:TypeId) (w:World) (base:Nat):fR cf s E w base (.slice none 0 0) []:=aiC _ _ _ _
theorem fR.sm {E:TypeId} {w:World} {base:Nat} {v:Value} {l:List α} (h:fR cf s E w base v l):Sm cf w v l:=by
  rcases h.2 with⟨rfl,h0⟩|⟨g,cap,cur,rfl,hb,hh,h1,h2,h3,h4⟩
  · have : l = [] := adF h0
    subst this
    exact Sm.nil _ _
  · refine ⟨_, cap, rfl, h1, h2, fun j v hv => ⟨_, rfl, ?_⟩⟩
    exact agu h (g:=g) rfl j v hv
theorem fR.lt {E:TypeId} {w:World} {base:Nat} {v:Value} {l:List α} (h:fR cf s E w base v l):∀k,v.ownBlock=some k→base≤k∧k<w.heap.size:=aiX h
theorem fR.lower {E:TypeId} {w:World} {base nN:Nat} {v:Value} {l:List α} (h:fR cf s E w base v l) (hb:nN≤base):fR cf s E w nN v l:=by
  unfold fR aeY at*
  refine⟨h.1,h.2.imp id ?_⟩
  rintro⟨g,cap,cur,rfl,AB,hr⟩
  exact⟨g,cap,cur,rfl,acR hb AB,hr⟩
theorem fR.lift {E:TypeId} {w:World} {v:Value} {l:List α} {base nN:Nat} (h:fR cf s E w base v l) (hb:∀k,v.ownBlock=some k→nN≤k):fR cf s E w nN v l:=by
  unfold fR aeY at*
  refine⟨h.1,h.2.imp id ?_⟩
  rintro⟨g,cap,cur,rfl,_,hr⟩
  exact⟨g,cap,cur,rfl,hb g rfl,hr⟩
def Atom.cp (cf:α→List Value) (s:Nat) (E:TypeId) (v:Value) (l:List α):Atom where
  dT k:=v.ownBlock=some k
  says w:=fR cf s E w 0 v l
  kp:=by
    intro w w' h hs
    unfold fR aeY at*
    refine⟨hs.1,hs.2.imp id ?_⟩
    rintro⟨g,cap,cur,rfl,AB,hh,hr⟩
    exact⟨g,cap,cur,rfl,AB,(h g rfl (ado.1 hh).1).trans hh,hr⟩
end
section
variable {P:Program} {n:Nat} {Q:fQ} {R:Nat→Value} {w0 w:World} {F:Nat→Prop} {L:List Atom} {K:Value→World→Prop} {dst:Option Tmp} {ty:TypeId} {pos:String} {af:Array Edge} {gd:Option (Nat×Bool)}
universe u
variable {α:Type} {cf:α→List Value} {s:Nat}
theorem zu {α:Type u} {l:List α} {i:Nat} {a:α} (h:l[i]?=some a):l.set i a=l:=by
  obtain⟨hi,rfl⟩:=acA.1 h
  exact List.set_getElem_self hi
theorem aI.cp (h:aI w0 F w L) (i:Nat) {E:TypeId} {v:Value} {l:List α} (hi:L[i]?=some (.cp cf s E v l)):fR cf s E w 0 v l:=h.says i _ hi
theorem aI.sm (h:aI w0 F w L) (i:Nat) {E:TypeId} {v:Value} {l:List α} (hi:L[i]?=some (.cp cf s E v l)):Sm cf w v l:=(h.cp i hi).sm
theorem aI.fT (h:aI w0 none_ w L) (i:Nat) {E:TypeId} {v:Value} {l:List α} (hi:L[i]?=some (.cp cf s E v l)):fR cf s E w w0.heap.size v l:=
  (h.cp i hi).lift fun k hk=>(h.low i _ hi k hk).1.elim (fun e=>e.elim) id
theorem aI.eK (h:aI w0 F w L) (cf:α→List Value) (s:Nat) (E:TypeId):aI w0 F w (.cp cf s E (.slice none 0 0) []::L):=
  h.add (fR.nil _ _ _ _ _) (fun k hk=>by cases hk) (fun _ _ _ _ _ hk=>by cases hk)
theorem aI.fF (h:aI w0 F w L) {w':World} {E:TypeId} {v:Value} {l:List α} (ho:fR cf s E w' w.heap.size v l) (he:Ext w w'):aI w0 F w' (.cp cf s E v l::L):=
  h.push he (ho.lower (adO _)) (fun k hk=>ho.lt k hk)
theorem aI.xO {E:TypeId} {v:Value} {l m:List α} (h:aI w0 F w L) (i:Nat) (hi:L[i]?=some (.cp cf s E v l)) (e:l=m):aI w0 F w (L.set i (.cp cf s E v m)):=by
  subst e
  rw[zu hi];exact h
theorem LB {t:TypeId} {x:Operand} {v:Value} {l:List α} {e:TypeId} (ht:P.underlying t=some (.slice e)) (hs:Sm cf w v l) (hx:ev R x=v):
    Ev P ⟨dst,.call ⟨.builtin .len,#[x],#[t]⟩,ty,pos,af,gd⟩ R w (.int .i64 l.length):=by
  obtain⟨A,c,rfl,_⟩:=hs
  exact Jp ht hx
theorem bO {t:TypeId} {x:Operand} {v:Value} {l:List α} {e:TypeId} (ht:P.underlying t=some (.slice e)) (hs:Sm cf w v l) (hx:ev R x=v:=by exact rfl):Ev P ⟨dst,.call ⟨.builtin .len,#[x],#[t]⟩,ty,pos,af,gd⟩ R w (.int .i64 l.length):=LB ht hs hx
theorem Sm.at (jF:∀a,(cf a).length=s) {v:Value} {l:List α} {m j:Nat} {a:α} {u:Value} (h:Sm cf w v l) (hm:l[m]?=some a) (hj:(cf a)[j]?=some u):
    ∃ad c,v=.slice (some ad) l.length c∧dL v (m*s+j)=.pointer (some (ad.add (m*s+j)))∧w.cell? (ad.add (m*s+j))=some u:=by
  obtain⟨A,c,rfl,h1,h2,hc⟩:=h
  have Vh:j<s:=by rw[←jF a];exact(acA.1 hj).1
  obtain⟨ad,rfl,fE⟩:=hc (m*s+j) u (by rw[jO jF hm Vh,hj])
  exact⟨ad,c,rfl,rfl,fE⟩
theorem Fl {t e : TypeId} {x i : Operand} {v : Value} {l : List α} {k : IntKind} {m : Int} (ht : P.underlying t = some (.slice e)) (fb : (P.info? e).map (·.size) = some s) (jF : ∀ a, (cf a).length = s) (iI : 0 < s)
    (hs:Sm cf w v l) (hx:ev R x=v) (hi:ev R i=.int k m) (h0:0≤m) (h1:m<l.length):Ev P ⟨dst,.indexAddr t x i,ty,pos,af,gd⟩ R w (dL v (m.toNat*s)):=by
  have cD:m.toNat<l.length:=by omega
  have dY:∃u,(cf l[m.toNat])[0]?=some u:=⟨_,acE (by rw[jF];exact iI)⟩
  obtain⟨u,hu⟩:=dY
  obtain⟨ad,c,rfl,_,_⟩:=hs.at jF (acE cD) hu
  have hr:(0≤m∧m<(l.length:Int)):=⟨h0,h1⟩
  have y7:s≠0:=by omega
  simp[Ev,dL,execOp,hx,hi,ahY,asIntOf,run_underlying ht,hr,fk (w:=w) fb,y7]
theorem aU {t e:TypeId} {x i:Operand} {v:Value} {l:List α} {k:IntKind} {m:Int} (ht:P.underlying t=some (.slice e)) (fb:(P.info? e).map (·.size)=some s) (jF:∀a,(cf a).length=s) (hs:Sm cf w v l) (iI:0<s:=by decide) (hx:ev R x=v:=by exact rfl) (hi:ev R i=.int k m:=by exact rfl) (h0:0≤m:=by omega) (h1:m<l.length:=by omega):Ev P ⟨dst,.indexAddr t x i,ty,pos,af,gd⟩ R w (dL v (m.toNat*s)):=Fl ht fb jF iI hs hx hi h0 h1
theorem Jn {t : TypeId} {x : Operand} {v : Value} {l : List α} {m : Nat} {a : α} {d : TypeDesc} (hu : P.underlying t = some d) (hd : d.isRow = true) (fb : (P.info? t).map (·.size) = some s) (jF : ∀ a, (cf a).length = s) (iI : 0 < s)
    (hs:Sm cf w v l) (hx:ev R x=dL v (m*s)) (hm:l[m]?=some a) {cs:List Value} (sE:cf a=cs):Ev P ⟨dst,.load t x,ty,pos,af,gd⟩ R w (.agg cs.toArray):=by
  subst sE
  have dY:∃u,(cf a)[0]?=some u:=⟨_,acE (by rw[jF];exact iI)⟩
  obtain⟨u,Qf⟩:=dY
  obtain⟨ad,c,rfl,he,_⟩:=hs.at jF hm Qf
  rw[afJ]at he
  have key:∀j u,(cf a)[j]?=some u→w.cell? ((ad.add (m*s)).add j)=some u:=by
    intro j u hj
    obtain⟨PQ,c',h1,_,h3⟩:=hs.at jF hm hj
    cases h1
    rw[add_add];exact h3
  have lM:=run_loadCells_list (P:=P) (w:=w) (ad.add (m*s)) (cf a) key
  have uI:(isAgg t).run P w=.ok true w:=by
    unfold isAgg
    rw[ady,run_underlying hu w]
    cases d<;>simp_all [ahG]
  rw[jF a]at lM
  simp[Ev,execOp,hx,he,age,aen,loadVar,uI,fk (w:=w) fb,lM]
theorem b8 {t:TypeId} {x:Operand} {v:Value} {l:List α} {m:Nat} {a:α} {d:TypeDesc} (hu:P.underlying t=some d) (fb:(P.info? t).map (·.size)=some s) (jF:∀a,(cf a).length=s) (hs:Sm cf w v l) (hm:l[m]?=some a) {cs:List Value} (hd:d.isRow=true:=by exact rfl) (iI:0<s:=by decide) (hx:ev R x=dL v (m*s):=by exact rfl) (sE:cf a=cs:=by exact rfl):Ev P ⟨dst,.load t x,ty,pos,af,gd⟩ R w (.agg cs.toArray):=Jn hu hd fb jF iI hs hx hm sE
theorem Fm {t : TypeId} {x : Operand} {v : Value} {l : List α} {m f : Nat} {a : α} {u : Value} {fs : Array Field} {fd : Field} (ht : P.underlying t = some (.struct fs)) (hf : fs[f]? = some fd) {z : Nat} (fb : (P.info? fd.type).map (·.size) = some z) (hz : z ≠ 0)
    (jF:∀a,(cf a).length=s) (hs:Sm cf w v l) (hm:l[m]?=some a) (hj:(cf a)[0]?=some u) {b:Nat} (hx:ev R x=dL v (m*s+b)):Ev P ⟨dst,.fieldAddr t x f,ty,pos,af,gd⟩ R w (dL v (m*s+(b+fd.offset))):=by
  obtain⟨ad,c,rfl,he,_⟩:=hs.at jF hm hj
  simp[Ev,dL,execOp,hx,ajl,aen,run_underlying ht,hf,fieldPlace,fk (w:=w) fb,hz,add_add,ahX]
theorem bl {t:TypeId} {x:Operand} {v:Value} {l:List α} {m f:Nat} {a:α} {u:Value} {fs:Array Field} {fd:Field} (ht:P.underlying t=some (.struct fs)) (hf:fs[f]?=some fd) {z:Nat} (fb:(P.info? fd.type).map (·.size)=some z) (jF:∀a,(cf a).length=s) (hs:Sm cf w v l) (hm:l[m]?=some a) {b:Nat} (hz:z≠0:=by decide) (hj:(cf a)[0]?=some u:=by exact rfl) (hx:ev R x=dL v (m*s+b):=by exact rfl):Ev P ⟨dst,.fieldAddr t x f,ty,pos,af,gd⟩ R w (dL v (m*s+(b+fd.offset))):=Fm ht hf fb hz jF hs hm hj hx
theorem Fj {t : TypeId} {x : Operand} {v : Value} {l : List α} {m j : Nat} {a : α} {u : Value} {d : TypeDesc} (ht : P.underlying t = some d) (hd : (match d with | .struct _ | .array _ _ => false | _ => true) = true)
    (jF:∀a,(cf a).length=s) (hs:Sm cf w v l) (hx:ev R x=dL v (m*s+j)) (hm:l[m]?=some a) (hj:(cf a)[j]?=some u):Ev P ⟨dst,.load t x,ty,pos,af,gd⟩ R w u:=by
  obtain⟨ad,c,rfl,he,fE⟩:=hs.at jF hm hj
  rw[he]at hx
  exact yH ht hd hx fE
theorem bB {t:TypeId} {x:Operand} {v:Value} {l:List α} {m j:Nat} {a:α} {u:Value} {d:TypeDesc} (ht:P.underlying t=some d) (jF:∀a,(cf a).length=s) (hs:Sm cf w v l) (hm:l[m]?=some a) (hd:(match d with|.struct _|.array _ _=>false|_=>true)=true:=by exact rfl) (hx:ev R x=dL v (m*s+j):=by exact rfl) (hj:(cf a)[j]?=some u:=by exact rfl):Ev P ⟨dst,.load t x,ty,pos,af,gd⟩ R w u:=Fj ht hd jF hs hx hm hj
theorem ct {t e : TypeId} {x y : Operand} {v u : Value} {l m : List α} {z : Value} {bytes : Nat} (ht : P.underlying t = some (.slice e))
    (gE:(P.info? e).map (fun i=>(i.zero,i.size,i.bytes))=some (some z,s,bytes)) (hz:z.cells.size=s) (iI:0<s) (h1:∀a,∀u∈cf a,u.oneCell'=true) (jF:∀a,(cf a).length=s)
    (hN:aI w0 F w L) (i:Nat) (hi:L[i]?=some (.cp cf s e v l)) (hx:ev R x=v) (hu:Sm cf w u m) (hy:ev R y=u) (hlen:(l.length+m.length)*bytes≤140737488355328) (kx:0<bytes)
    (h:∀v' w',aI w0 F w' (L.set i (.cp cf s e v' (l++m)))→K v' w'):
    eL P ⟨dst,.call ⟨.builtin .append,#[x,y],#[t,t]⟩,ty,pos,af,gd⟩ R w K:=by
  obtain⟨A,c,rfl,HT,hm,hc⟩:=hu
  have Cu:∃i,P.info? e=some i∧i.zero=some z∧i.size=s∧i.bytes=bytes:=by
    cases hq:P.info? e with
    |none=>simp[hq]at gE
    |some i=>simp[hq]at gE;exact⟨i,rfl,gE⟩
  obtain⟨j,hj,Dt,xi,ON⟩:=Cu
  have Cp:=hN.cp i hi
  have IM:l.length+m.length≤maxLen:=by
    unfold maxLen
    have:(l.length+m.length)*1≤(l.length+m.length)*bytes:=ah3 _ kx
    omega
  have fY:∀u∈m.flatMap cf,u.oneCell'=true:=fun u hu=>by
    obtain⟨a,_,hu⟩:=af8.1 hu
    exact h1 a u hu
  cases A with
  |some ad=>
    obtain ⟨v', w', fG, RO, Av, _, O3⟩ := run_append_own_at (P := P) (w := w) 0 t ty e j z s bytes ht hj Dt xi ON hz iI v l.length (l.flatMap cf) Cp ad m.length c (m.flatMap cf) (kT jF m)
      (fun j u hj=>by obtain⟨PQ,h',fE⟩:=hc j u hj;cases h';exact fE) fY IM hlen (adO _)
    have ho:fR cf s e w' 0 v' (l++m):=by unfold fR;rw[afg,acw];exact RO
    refine eL.value (v:=v') (w':=w') ?_ (h v' w' (hN.dw i hi (Mod.tI Av) ho fun k jb=>?_))
    · simp[execOp,resolve,invoke,builtin,hx,hy,fG]
    · have cD := (ho.lt k jb).2
      refine⟨?_,cD⟩
      rcases O3 with e|e
      · exact .inl (e.symm.trans jb)
      · exact .inr (Nat.le_of_eq (ac2 (e.symm.trans jb)))
  |none=>
    have kD:m=[]:=by
      cases m with
      |nil=>rfl
      |cons a r=>
        have dY:∃u,(cf a)[0]?=some u:=⟨_,acE (by rw[jF];exact iI)⟩
        obtain⟨u,Qf⟩:=dY
        obtain⟨ad,h',_⟩:=hc 0 u (by
          have:=jO jF (l:=a::r) (m:=0) (a:=a) (j:=0) rfl iI
          simp only[Nat.zero_mul,aeQ]at this
          rw[this,Qf])
        cases h'
    subst kD
    have fG:(agf #[t,t] ty #[v,.slice none 0 c]).run P w=.ok v w:=by
      obtain⟨A',c',rfl,OC,Z4,_⟩:=Cp.sm
      have hle:l.length≤c':=OC
      cases A'<;>simp[agf,run_underlying ht,sizeOf,typeInfo,hj,xi,ajk,ah6,hle,storeCells]
    have yp:L.set i (.cp cf s e v (l++[]))=L:=by rw[adj];exact zu hi
    refine eL.value (v:=v) (w':=w) ?_ (h v w (by rw[yp];exact hN))
    simp only[acN]at hy
    simp[execOp,resolve,invoke,builtin,hx,hy,fG]
theorem dB {t e : TypeId} {len : Nat} {parts : Array (Nat × Operand)} {pl : List (Nat × Operand)} {ps : List (Nat × Value)} {z : Value} {zc : List Value} {l : List α} (ht : P.underlying t = some (.slice e))
    {bytes:Nat} (gE:(P.info? e).map (fun i=>(i.zero,i.size,i.bytes))=some (some z,s,bytes)) (Rf:(aiJ (len*s)).map (z.cells[·%z.cells.size]!)=zc.toArray) (hp:parts.toList=pl) (EW:(pl.map fun(i,x)=>(i,ev R x))=ps)
    (hf:ae3 (fun i=>some (i*s,s)) zc.toArray ps=some (l.flatMap cf).toArray) (jF:∀a,(cf a).length=s) (hlen:len=l.length) (iI:0<len) (y7:0<s) (Co:len*s≤2^24) (hN:aI w0 F w L)
    (h:∀g w',aI w0 F w' (.cp cf s e (.slice (some ⟨g,0,none⟩) len len) l::L)→K (.slice (some ⟨g,0,none⟩) len len) w'):
    eL P ⟨dst,.buildSlice t len parts,ty,pos,af,gd⟩ R w K:=by
  cases ui:P.info? e with
  |none=>simp[ui]at gE
  |some ie=>
    simp only[ui,aet,aeo,ah0]at gE
    obtain⟨Ur,fb,_⟩:=gE
    have UP:(parts.map fun(i,x)=>(i,ev R x)).toList=ps:=by rw[af6,hp,←EW]
    have XP:ae3 (fun i=>some (i*ie.size,ie.size)) ((aiJ (len*ie.size)).map (z.cells[·%z.cells.size]!)) (parts.map fun(i,x)=>(i,ev R x)).toList=some (l.flatMap cf).toArray:=by
      rw[UP,fb,Rf];exact hf
    have Xq:0<len*s:=Nat.mul_pos iI y7
    have fG:=run_buildSlice (P:=P) w t e len (parts.map fun(i,x)=>(i,ev R x)) _ ie z ht ui Ur (by rw[fb];omega) (by rw[fb];omega) XP
    have hle:len≤len*s:=ahf _ y7
    have ho:fR cf s e (w.alloc (.cells (l.flatMap cf).toArray e)) w.heap.size (.slice (some ⟨w.heap.size,0,none⟩) len len) l:=by
      unfold fR
      subst hlen
      have xj:=kT jF l
      refine⟨by rw[xj],.inr ⟨w.heap.size,l.length,(l.flatMap cf).toArray,rfl,ac3 _,?_,ac3 _,by unfold maxLen;omega,by simp[xj],?_⟩⟩
      · rw[heap_alloc_new]
      · rw[acX (by simp[xj])]
    refine eL.value (v:=.slice (some ⟨w.heap.size,0,none⟩) len len) (w':=w.alloc (.cells (l.flatMap cf).toArray e)) ?_ (h _ _ (hN.fF ho (Ext.alloc _ _)))
    simp[execOp,fG]
end
end Go.Rl
namespace Go.Rl
open Go.RowKit Go.ChangeMaps
section
variable {P:Program} {n:Nat} {Q:fQ} {R:Nat→Value} {w0 w:World} {F:Nat→Prop} {L:List Atom} {K:Value→World→Prop} {dst:Option Tmp} {ty:TypeId} {pos:String} {af:Array Edge} {gd:Option (Nat×Bool)}
variable {κ:Type} [DecidableEq κ] {ke:κ→Value} {l done left:List (J4 κ)} {clock b:Nat}
end
end Go.Rl
namespace Go.Rl
open Go.RowKit
section
variable {P:Program} {n:Nat} {Q:fQ} {R:Nat→Value} {w0 w:World} {F:Nat→Prop} {L:List Atom} {K:Value→World→Prop} {dst:Option Tmp} {ty:TypeId} {pos:String} {af:Array Edge} {gd:Option (Nat×Bool)}
variable {α:Type} {enc:α→Value}
theorem xw {xt yt:TypeId} {x y:Operand} {a b:Bool} (hu:P.underlying xt=some .bool) (hx:ev R x=.bool a) (hy:ev R y=.bool b):Ev P ⟨dst,.binOp .neq xt x y yt,ty,pos,af,gd⟩ R w (.bool (a != b)):=by
  have h:=run_equal_bool (P:=P) w xt a b hu
  simp only[Ev,execOp,hx,hy,eqGuard,binOp]
  simp[h,bne]
end
section
variable {P:Program} {w0 w w':World} {F G:Nat→Prop} {L:List Atom} {α:Type} {enc:α→Value} {cf:α→List Value} {v:Value} {l:List α}
def nO (F:Nat→Prop) (enc:α→Value) (w:World) (v:Value) (l:List α):Prop:=Sl enc w v l∧oW F v l
def mG (F:Nat→Prop) (cf:α→List Value) (w:World) (v:Value) (l:List α):Prop:=Sm cf w v l∧oW F v l
theorem Sl.o (h:Sl enc w v l):nO none_ enc w v l:=⟨h,oW.none v l⟩
theorem Sm.o (h:Sm cf w v l):mG none_ cf w v l:=⟨h,oW.none v l⟩
theorem nO.now (h:nO F enc w0 v l) (hN:aI w0 F w L):Sl enc w v l:=h.1.off h.2 hN.mod
theorem mG.now (h:mG F cf w0 v l) (hN:aI w0 F w L):Sm cf w v l:=h.1.off h.2 hN.mod
theorem aI.Ws (hN:aI w0 F w L) {k:Nat} (hk:b7 L k):F k∨w0.heap.size≤k:=by
  obtain⟨a,ha,hk⟩:=hk
  obtain⟨i,hi⟩:=ac9 ha
  exact(hN.low i a hi k hk).1
theorem aI.qH (hN:aI w0 F w L) {k:Nat} (hk:b7 L k):k<w.heap.size:=by
  obtain⟨a,ha,hk⟩:=hk
  obtain⟨i,hi⟩:=ac9 ha
  exact(hN.low i a hi k hk).2
theorem oW.step (cD:l≠[]→∀k,v.ownBlock=some k→k<w0.heap.size) (ho:oW F v l) (hN:aI w0 F w L):oW (b7 L) v l:=fun hl k hk hf=>by
  rcases hN.Ws hf with h|h
  · exact ho hl k hk h
  · exact absurd (cD hl k hk) (agh.2 h)
theorem nO.step (h:nO F enc w0 v l) (hN:aI w0 F w L):nO (b7 L) enc w v l:=⟨h.now hN,h.2.step (fun hl=>h.1.lt hl) hN⟩
theorem mG.step (jF:∀a,cf a≠[]) (h:mG F cf w0 v l) (hN:aI w0 F w L):mG (b7 L) cf w v l:=⟨h.now hN,h.2.step (fun hl=>h.1.lt jF hl) hN⟩
theorem fW.step {hs:List Hd} {ls:List (List α)} (h:fW F enc w0 hs ls) (hN:aI w0 F w L):fW (b7 L) enc w hs ls:=⟨h.1,fun i hd l hi hl=>nO.step (h.2 i hd l hi hl) hN⟩
theorem aI.here (hN:aI w0 F w L):aI w (b7 L) w L:=by
  have h:aI w0 F w (L++[]):=by rw[adj];exact hN
  exact h.take
theorem aI.back (hN:aI w0 F w L) {M:List Atom} (h:aI w (b7 L) w' M):aI w0 F w' M:=by
  have h1:aI w0 F w (L++[]):=by rw[adj];exact hN
  have:=aI.dh (N:=[]) h1 h
  rwa [adj]at this
theorem nO.less (h:nO F enc w v l) (hg:∀k,k<w.heap.size→G k→F k):nO G enc w v l:=⟨h.1,fun hl k hk hG=>h.2 hl k hk (hg k (h.1.lt hl k hk) hG)⟩
theorem nO.ext (h:nO F enc w v l) (he:Ext w w'):nO F enc w' v l:=⟨h.1.ext he,h.2⟩
theorem mG.ext (h:mG F cf w v l) (he:Ext w w'):mG F cf w' v l:=⟨h.1.ext he,h.2⟩
theorem fW.less {hs:List Hd} {ls:List (List α)} (h:fW F enc w hs ls) (hg:∀k,k<w.heap.size→G k→F k):fW G enc w hs ls:=⟨h.1,fun i hd l hi hl=>nO.less (h.2 i hd l hi hl) hg⟩
theorem fW.iq {hs:List Hd} {ls:List (List α)} (h:fW F enc w hs ls) {i:Nat} {hd:Hd} {l:List α} (hi:hs[i]?=some hd) (hl:ls[i]?=some l):nO F enc w (vh hd) l:=h.2 i hd l hi hl
theorem fW.gD {hs:List Hd} {ls:List (List α)} (h:fW F enc w0 hs ls) (hN:aI w0 F w L):fW none_ enc w hs ls:=(h.step hN).less fun _ _ e=>e.elim
end
end Go.Rl
namespace Go.Rl
open Go.ChangeShapes Go.WideShapes
def Sh.le (M : Nat) : (s : Sh) → s.ty → Prop
  |.int _,_=>True
  |.bool,_=>True
  |.str,l=>adg (α:=UInt8) l≤M
  |.sl e,l=>adg (α:=e.ty) l≤M∧∀a∈(show List e.ty from l),e.le M a
  |.nil,_=>True
  |.cons f r,a=>f.le M a.1∧r.le M a.2
def Sh.kQ (P : Program) : Sh → TypeId ⊕ List Field → Bool
  |.int _,_=>true
  |.bool,_=>true
  |.str,_=>true
  |.sl e,.inl t=>match P.underlying t with
    |some (.slice te)=>decide (1≤P.bytesOf te) && e.kQ P (.inl te)
    |_=>false
  |.sl _,.inr _=>false
  |.nil,_=>true
  |.cons f r,.inl t=>match P.underlying t with
    |some (.struct fs)=>match fs.toList with
      |fd::fds=>f.kQ P (.inl fd.type) && r.kQ P (.inr fds)
      |_=>false
    |_=>false
  |.cons f r,.inr fds=>match fds with
    |fd::fds=>f.kQ P (.inl fd.type) && r.kQ P (.inr fds)
    |_=>false
theorem sO {H:Type} {P:Program} {e:TypeId} {d:DataW H} {z:Nat}:∀{l:List (DataW H)},d∈l→z∈d.weights P e→z∈ai1 P e l:=by
  intro l
  induction l with
  |nil=>intro h _;cases h
  |cons x r ih=>
    intro h hz
    unfold ai1
    rcases ac1.1 h with rfl|h
    · exact ad9 _ hz
    · exact aeI _ (ih h hz)
section
variable {H:Type} {enc:TypeId×Value→H} {P:Program} {w:World} {base:Nat} {spare:Nat→Bool} {held:Bool}
theorem Sh.Q2 (M:Nat):∀(s:Sh),
    (∀(t:TypeId) (fuel:Nat) (cs:List Value) (x:DataW H×List MemPlace),s.fit P (.inl t)=true→s.kQ P (.inl t)=true→(∀z∈x.1.weights P t,z≤M)→aey enc P w base spare held fuel t cs=some x→∃a,s.rd w cs a∧s.le M a)∧
    (∀(fds:List Field) (off:Nat) (n:Nat) (cs:List Value) (xs:List (DataW H×List MemPlace)),s.fit P (.inr (fds,off))=true→s.kQ P (.inr fds)=true→(∀z∈aeB P (fds.map (·.type)) (xs.map (·.1)),z≤M)→cs.length=off+s.cells→xs.length=fds.length→
      (∀(i:Nat) (f:Field),fds[i]?=some f→aey enc P w base spare held n f.type ((cs.drop f.offset).take (P.cellsOf f.type))=xs[i]?)→∃a,s.rd w (cs.drop off) a∧s.le M a):=by
  intro s
  induction s with
  |int k=>
    refine⟨fun t fuel cs x hf hv hw h=>?_,fun _ _ _ _ _ hf=>by simp[Sh.fit]at hf⟩
    have ht:P.underlying t=some (.int k):=by
      simp only[Sh.fit]at hf
      split at hf
      · rename_i e;rw[e,of_decide_eq_true hf]
      · cases hf
    obtain⟨m,rfl,rfl,Zv⟩:=ajg ht h
    exact⟨m,⟨rfl,Zv⟩,trivial⟩
  |bool=>
    refine⟨fun t fuel cs x hf hv hw h=>?_,fun _ _ _ _ _ hf=>by simp[Sh.fit]at hf⟩
    have ht:P.underlying t=some .bool:=by
      simp only[Sh.fit]at hf
      split at hf
      · assumption
      · cases hf
    cases fuel with
    |zero=>simp[aey]at h
    |succ n=>
      unfold aey at h
      rw[ht]at h
      split at h<;>simp_all
      obtain rfl:=h
      exact⟨_,rfl,trivial⟩
  |str=>
    refine⟨fun t fuel cs x hf hv hw h=>?_,fun _ _ _ _ _ hf=>by simp[Sh.fit]at hf⟩
    have ht:P.underlying t=some .string:=by
      simp only[Sh.fit]at hf
      split at hf
      · assumption
      · cases hf
    cases fuel with
    |zero=>simp[aey]at h
    |succ n=>
      unfold aey at h
      rw[ht]at h
      revert hw
      split at h<;>simp_all
      rename_i s
      obtain⟨hl,rfl⟩:=h
      intro hw
      refine⟨s.data.toList,⟨by rw[←Gu],?_⟩,?_⟩
      · simpa using hl
      · exact hw _ (by simp[ah1])
  |sl e ih=>
    refine⟨fun t fuel cs x hf hv hw h=>?_,fun _ _ _ _ _ hf=>by simp[Sh.fit]at hf⟩
    simp only[Sh.fit]at hf
    split at hf
    · rename_i te ht
      simp only[adm,beq_iff_eq]at hf
      simp only[Sh.kQ,ht,adm,decide_eq_true_eq]at hv
      rcases ai4 ht h with⟨rfl,rfl⟩|⟨a,len,cap,m,n,D,Pl,rfl,hb,hl,hm,La,rfl,hx⟩
      · exact⟨[],⟨none,0,rfl,ac3 _,by unfold maxLen;omega,fun i a h=>by simp at h⟩,adO _,fun a ha=>by cases ha⟩
      · simp only [ah1, ht] at hw
        have HR:len≤m:=by rw[La];split<;>omega
        have each:∀i,i<len→∃(a':e.ty) (lh:List Value),lh.length=e.cells∧e.rd w lh a'∧(∀(j:Nat) v,lh[j]?=some v→w.cell? (a.add (i*e.cells+j))=some v)∧e.le M a':=by
          intro i hi
          obtain⟨lh,h1,h2⟩:=hx i (by omega)
          obtain⟨a',h3,h4⟩:=ih.1 te n lh _ hf.2 hv.2 (fun z hz=>hw z (adv _ (ad9 _ (sO (adf.2 ⟨i,adQ.2 hi,rfl⟩) hz)))) h2
          obtain⟨_,hlen,hc⟩:=aiD h1
          refine⟨a',lh,e.nq h3,h3,fun j v hj=>?_,h4⟩
          have Sz:=(acA.1 hj).1
          have:=hc j (by omega)
          rw[ajx,hf.1]at this
          rw[this,hj]
        have:∃l:List e.ty,l.length=len∧∀(i:Nat) a',l[i]?=some a'→∃(lh:List Value),lh.length=e.cells∧e.rd w lh a'∧(∀(j:Nat) v,lh[j]?=some v→w.cell? (a.add (i*e.cells+j))=some v)∧e.le M a':=by
          clear h hx La HR hl hw
          induction len with
          |zero=>exact⟨[],rfl,fun i a' h=>by simp at h⟩
          |succ len Up=>
            obtain⟨l,MC,Ct⟩:=Up (fun i hi=>each i (by omega))
            obtain⟨a',lh,g1,g2,g3,g4⟩:=each len (by omega)
            refine⟨l++[a'],by simp[MC],fun i b hb=>?_⟩
            rcases adh i l.length with cD|MD
            · rw[ads cD]at hb;exact Ct i b hb
            · rw [adp MD] at hb
              have hz:i-l.length=0:=by
                rcases aeH (i-l.length)with e'|e'
                · exact e'
                · rw[ad2 (by simp;omega)]at hb;cases hb
              rw[hz]at hb
              have E2:i=len:=by omega
              subst E2
              cases hb
              exact⟨lh,g1,g2,g3,g4⟩
        obtain⟨l,MC,Ct⟩:=this
        subst MC
        refine⟨l,⟨some a,cap,rfl,hl,hm,fun i a' E8=>?_⟩,?_⟩
        · obtain ⟨lh, g1, g2, g3, _⟩ := Ct i a' E8
          exact⟨lh,g1,g2,fun j v hj=>⟨a,rfl,g3 j v hj⟩⟩
        · refine ⟨?_, fun a' E8 => ?_⟩
          · have h1 := hw _ (adH ..)
            rw[ac4,afW]at h1
            have h2:l.length*1≤(l.length+((adz (m-l.length)).map fun j=>D (l.length+j)).length)*P.bytesOf te:=afS (Nat.le_add_right _ _) hv.1
            omega
          · obtain ⟨i, hi⟩ := ac9 E8
            exact(Ct i a' hi).choose_spec.2.2.2
    · cases hf
  |nil=>
    refine⟨fun t fuel cs x hf hv hw h=>?_,fun fds off n cs xs hf hv hw hl _ _=>?_⟩
    · simp only [Sh.fit] at hf
      split at hf
      · rename_i fs ht
        simp only[adm,beq_iff_eq]at hf
        obtain⟨xs,n,_,rfl,hl,_⟩:=afV ht h
        exact⟨(),adF (by omega),trivial⟩
      · cases hf
    · exact⟨(),adF (by simp only[Sh.cells]at hl;simp;omega),trivial⟩
  |cons f r Uq Uo=>
    have body:∀(fd:Field) (fds:List Field) (off n:Nat) (cs:List Value) (xs:List (DataW H×List MemPlace)),fd.offset=off→P.cellsOf fd.type=f.cells→f.fit P (.inl fd.type)=true→r.fit P (.inr (fds,off+f.cells))=true→f.kQ P (.inl fd.type)=true→r.kQ P (.inr fds)=true→(∀z∈aeB P ((fd::fds).map (·.type)) (xs.map (·.1)),z≤M)→
        cs.length=off+(f.cells+r.cells)→xs.length=(fd::fds).length→
        (∀(i:Nat) (g:Field),(fd::fds)[i]?=some g→aey enc P w base spare held n g.type ((cs.drop g.offset).take (P.cellsOf g.type))=xs[i]?)→∃a,(Sh.cons f r).rd w (cs.drop off) a∧(Sh.cons f r).le M a:=by
      intro fd fds off n cs xs h1 h2 h3 h4 vO Zy hw h5 h6 h7
      cases xs with
      |nil=>simp at h6
      |cons x xs=>
        have hx:=h7 0 fd rfl
        simp only[ahe]at hx
        rw[h1,h2]at hx
        simp only[adb,aeB]at hw
        obtain⟨a,ha,XB⟩:=Uq.1 fd.type n _ x h3 vO (fun z hz=>hw z (ad9 _ hz)) hx
        obtain⟨b,hb,Xz⟩:=Uo.2 fds (off+f.cells) n cs xs h4 Zy (fun z hz=>hw z (aeI _ hz)) (by omega) (by simpa using h6) (fun i g hg=>by have:=h7 (i+1) g (by simpa using hg);simpa using this)
        refine⟨(a,b),⟨ha,?_⟩,XB,Xz⟩
        rw[afs];exact hb
    refine⟨fun t fuel cs x hf hv hw h=>?_,fun fds off n cs xs hf hv hw hl TC hx=>?_⟩
    · simp only [Sh.fit] at hf
      split at hf
      · rename_i fs ht
        split at hf
        · rename_i fd fds OR
          simp only[adm,beq_iff_eq]at hf
          obtain⟨⟨⟨⟨h0,h1⟩,h2⟩,h3⟩,h4⟩:=hf
          simp only[Sh.kQ,ht,OR,adm]at hv
          obtain⟨xs,n,_,rfl,hl,K6,hx⟩:=afV ht h
          simp only[ah1,ht,OR]at hw
          have xj:fs.size=(fd::fds).length:=by rw[←OR];simp
          obtain⟨a,ha,hm⟩:=body fd fds 0 n cs xs h1 h2 h3 (by simpa using h4) hv.1 hv.2 hw (by omega) (by omega) (fun i g hg=>hx i g (by rw[←OR]at hg;simpa using hg))
          exact⟨a,by simpa using ha,hm⟩
        · cases hf
      · cases hf
    · simp only [Sh.fit] at hf
      split at hf
      · rename_i fd fds
        simp only[adm,beq_iff_eq]at hf
        obtain⟨⟨⟨h1,h2⟩,h3⟩,h4⟩:=hf
        simp only[Sh.kQ,adm]at hv
        exact body fd fds off n cs xs h1 h2 h3 h4 hv.1 hv.2 hw (by simpa[Sh.cells]using hl) TC hx
      · cases hf
end
theorem G1 {H : Type} {enc : TypeId × Value → H} {P : Program} {W : World} {held : Bool} {t : TypeId} {d : DataW H} {v : Value} {ps : List MemPlace} {s : Sh} {ts : List TypeId} {ds : List (DataW H)} {j : Nat} (fb : (aeB P ts ds).all (· ≤ reachBytes) = true) (ht : ts[j]? = some t) (hd : ds[j]? = some d)
    (hf:s.fit P (.inl t)=true) (hv:s.kQ P (.inl t)=true) (h:ahP enc P W 0 (fun _=>true) held t v d ps):∃a:s.ty,s.rd W v.cells.toList a∧s.le reachBytes a:=by
  obtain⟨fuel,hh⟩:=h
  have key:∀(ts:List TypeId) (ds:List (DataW H)) (j:Nat),ts[j]?=some t→ds[j]?=some d→∀z∈d.weights P t,z∈aeB P ts ds:=by
    intro ts
    induction ts with
    |nil=>intro ds j h;simp at h
    |cons t' ts ih=>
      intro ds j h1 h2 z hz
      cases ds with
      |nil=>simp at h2
      |cons d' ds=>
        unfold aeB
        cases j with
        |zero=>simp at h1 h2;subst h1 h2;exact ad9 _ hz
        |succ j=>exact aeI _ (ih ds j (by simpa using h1) (by simpa using h2) z hz)
  rw[af7]at fb
  exact(s.Q2 reachBytes).1 t fuel v.cells.toList (d,ps) hf hv (fun z hz=>of_decide_eq_true (fb z (key ts ds j ht hd z hz))) hh
end Go.Rl
