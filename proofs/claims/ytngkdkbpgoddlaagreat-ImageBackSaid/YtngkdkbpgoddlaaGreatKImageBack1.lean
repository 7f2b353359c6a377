/- The law ImageBack: texts that its row leans on (1). -/
import Derived.Test.YtngkdkbpgoddlaaGreatChecked
import GoSem.Claim
import GoSem.ClaimJoined
import GoSem.ClaimMapViews
import Derived.JoinedTies
import Derived.KernelRfl
import Derived.WalkKit
import Derived.Orders
import Derived.OrdersHeld
import Derived.Deep.LoopGhost
import Derived.Below
import Derived.Deep.Draws
import Derived.Maps.AppendAt
import Derived.Laws.Slices
import Derived.Laws.Rows
import Derived.Laws.BytesString
import Derived.Great.BuildSlice
import Derived.Laws.CopyRow
import Derived.SizedLaws
import Derived.ChangeSlices
import Derived.Carry
import Derived.Deep.OwnRows
import Derived.Lib.AppendStr
import Derived.Scope
import Derived.Deep.MidRow
import Derived.Laws.IdiomStrings
import Derived.Deep.Slices
import Derived.ChangeArms
import Derived.Deep.CondSized
import Derived.JoinedCond
import Derived.OpenShut
import Derived.MapKept
import Derived.Maps.RangeRun
import Derived.RangeFuncLeaves
import Derived.RangeFuncRecord
import Derived.TacticsIn
import Derived.OrdersIn
import Derived.Laws.Cover3
import Derived.Sort.Walk0
import Derived.DeepKeys
import Derived.Test.YtngkdkbpgoddlaaGreatProg
import Derived.Test.YtngkdkbpgoddlaaGreatRows
import Derived.ProofKit
import Derived.ShutString
import Derived.ChangeOld
set_option linter.unusedVariables false
set_option linter.unusedSimpArgs false
set_option linter.unusedSectionVars false
set_option maxHeartbeats 4000000
set_option maxRecDepth 100000
open Array renaming getElem?_eq_some_iff → adr, replicate → aev, getElem?_eq_getElem → aeN, getElem?_eq_none → aeU, getD_eq_getD_getElem? → afC, toList_map → aga, getElem?_append_right → agK, getElem?_append_left → agP, size_append → agU, getElem?_replicate → ag0, setIfInBounds_comm → ag4, getElem?_modify → ahK, size_replicate → ahS, length_toList → ah7, range → aiM
open BitVec renaming ofInt → aed
open Bool renaming and_eq_true → adk, false_eq_true → adT, false_and → aen, true_and → agQ
open ByteArray renaming size → ahJ
open ByteArray.toList renaming loop → agf
open Classical renaming choose_spec → agi, choose → ai5
open Go.Act renaming put → aji
open Go.Addr renaming add → ag1
open Go.Builtin renaming append_ → agk, firstCells → ah9, lenOf → ajq, len_ → ajz, min_ → ajA, min2 → ajB
open Go.Calls renaming mono → ahR
open Go.CallsIn renaming mono → ag5
open Go.DataW renaming weightsEach → adS, trod → aeA, weights → afJ, trod_struct → afX, Trod → ahW, weightsAll → ai7, trod_int → ajn
open Go.Deep renaming open_slice → ajc, add_add → ajE
open Go.Deferred renaming ofValue → aei
open Go.Exit renaming inBlock → ajx
open Go.Instr renaming sureAddr → aes, fill → ae2, sliceBounds → afq, sliceBound → afD, checkKey → afV, sliceAt → af8, loadAt → agj, sameBits → agD, slice → agE, indexAt → ah2, storeAt → ah3, mapUpdate → ajb, makeFunc → ajm, fieldAt → ajr, findKey → ajs, endLoop → aju, lookup → ajC, build → akw, yield → akx
open Go.IntKind renaming i64 → adE, bits → adZ, signed → ad0, u64 → aeb, wrap → aem, min → aku, max → akv
open Go.Lit renaming int → ajl
open Go.MapKept renaming run_getObj_map → af0
open Go.Op renaming equalIn → ahT, unary → ajy
open Go.Oper renaming uponIn → afn, upon → ah8, wp → aiD, semAt_eq → ajt
open Go.Region renaming ready → adx, wanted → adN, noSelect → aeE, binds → afu, free → afL, noSelect_spec → ahV, free_spec → ai6
open Go.Result renaming andThen_ok → adJ
open Go.RoundIn renaming mono → aib
open Go.RowsIn renaming mono → aiN
open Go.Sem renaming run_bind → adA, run_pure → aer, run → ajk
open Go.TypeDesc renaming isRow → ahL
open Go.Value renaming int → ac4, ownBlock → afU, oneCell' → agC
open Go.World renaming cell?_of_block → aeQ, ownsRow → aeZ, alloc_heap_new → ahU, freeze → aia, ownsRow_nil → aiE, cells?_some → aiF, putObj → ajD
open Go.World.ownsRow renaming cells → agz, lt → ai3
open Int renaming toNat_natCast → aek
open List renaming length_append → acB, mem_of_getElem? → acC, getElem?_eq_some_iff → acF, length_cons → acK, getElem?_eq_getElem → acM, length_nil → acS, not_mem_nil → ac0, take_of_length_le → ac2, replicate → ac3, mem_cons → ac6, length_take → ac9, length_map → ada, getElem?_of_mem → ade, mem_map → adg, mem_singleton → adh, length_drop → adj, mem_append → adn, getElem?_set → adp, map_cons → adq, getElem?_append_right → ads, getElem?_append_left → adu, append_nil → adw, range → adC, mem_cons_of_mem → adG, eq_nil_of_length_eq_zero → adH, getElem?_map → adI, length_set → adO, length → adQ, mem_range → adU, mem_cons_self → adV, mem_append_left → adX, map_toArray → ad3, getElem?_eq_none → aea, map_nil → aee, getElem?_take → aeg, mem_append_right → aeo, pairwise_append → aez, nil_append → aeG, map_map → aeI, drop_eq_getElem_cons → aeM, drop_eq_nil_of_le → aeW, pairwise_iff_getElem → ae3, flatMap_append → afi, flatMap_cons → afr, length_range → afs, drop_drop → aft, all_eq_true → afE, getElem?_drop → afN, set_eq_take_append_cons_drop → afZ, mem_flatMap → agb, mem_iff_getElem? → agh, ext_getElem? → agV, size_toArray → agW, getElem?_cons_zero → ahm, foldl_cons → aja, map_take → ajp
open Nat renaming le_of_ble_eq_true → acA, le_trans → acU, le_refl → ac8, lt_or_ge → adi, lt_of_le_of_lt → adD, zero_le → adW, lt_of_lt_of_le → aef, eq_zero_or_pos → aex, zero_add → aeY, mul_le_mul → afv, not_lt → agl, add_zero → agm, le_of_eq → ag3, le_mul_of_pos_right → ahl, mul_one → ahu, add_assoc → ah1, mul_le_mul_left → ah6, lt_or_gt_of_ne → aic, le_add_right → ai8
open Ne renaming symm → ajj
open Option renaming map_some → aeF, isSome_iff_exists → ag2, bind_some → ai4
open Option.some renaming inj → ac7, injEq → aeC
open Prod.mk renaming injEq → ah4
open UInt8 renaming ofNat → aeV
namespace Go
theorem QY {a b:Nat} (h:Nat.ble a b=true:=by exact rfl):a≤b:=acA h
end Go
namespace Go.Rl
def dm (R:Nat→Value) (d:Nat) (v:Value):Nat→Value:=fun t=>bif Nat.beq t d then v else R t
def eY (R : Nat → Value) : Option Tmp → Value → Nat → Value
  |some d,v=>dm R d v
  |none,_=>R
def ev (R : Nat → Value) : Operand → Value
  |.tmp t=>R t
  |.const v=>v
  |.global g=>.pointer (some ⟨g,0,none⟩)
  |.func f=>.func (.func f) #[] #[]
theorem nf (R:Nat→Value) (d:Nat) (v:Value) (t:Nat):dm R d v t=if t=d then v else R t:=by
  unfold dm;by_cases h:t=d
  · subst h;simp
  · have:Nat.beq t d=false:=by
      cases hb:Nat.beq t d
      · rfl
      · exact absurd (Nat.eq_of_beq_eq_true hb) h
    simp[this,h]
theorem bn {R:Nat→Value} {d:Nat} {v:Value} (h:R d=v):dm R d v=R:=by
  funext t;rw[nf];split
  · subst t;exact h.symm
  · rfl
structure AtR (n:Nat) (R:Nat→Value) (a:Act):Prop where
  size:a.tmps.size=n
  lD:∀t,a.tmps.getD t undef=R t
  defs:a.defers=[]
theorem AtR.eval {n:Nat} {R:Nat→Value} {a:Act} (h:AtR n R a):a.eval=ev R:=by
  funext x;cases x<;>simp only[Act.eval,ev];exact h.lD _
def eL (n : Nat) : Option Tmp → Bool
  |some d=>decide (d<n)
  |none=>true
theorem AtR.put {n:Nat} {R:Nat→Value} {a:Act} (h:AtR n R a) {dst:Option Tmp} (hd:eL n dst=true) (v:Value):AtR n (eY R dst v) (a.put dst v):=by
  cases dst with
  |none=>exact h
  |some d=>
    have hd':d<n:=by simpa[eL]using hd
    refine⟨by simp[aji,h.size],fun t=>?_,by simp[aji,h.defs]⟩
    by_cases ht:t=d
    · subst ht
      simp[aji,eY,nf,h.size,hd']
    · have := h.lD t
      simp only[aji,eY,nf,if_neg ht]
      rw[←this]
      simp[Array.getElem?_setIfInBounds_ne (ajj ht)]
abbrev fJ:=Exit→(Nat→Value)→World→Prop
def fJ.up (n:Nat) (Q:fJ):Exit→Act→World→Prop:=fun e a w=>∃R,AtR n R a∧Q e R w
def RW (P:Program) (n:Nat) (c:Code) (Q:fJ) (R:Nat→Value) (w:World):Prop:=∀a,AtR n R a→c.wp P (Q.up n) a w
def RL (P:Program) (n:Nat) (ops:Array Oper) (Q:fJ) (l:List Oper) (R:Nat→Value) (w:World):Prop:=
  ∀a,AtR n R a→wpList P ops (Q.up n) l a w
def ey (P:Program) (o:Oper) (R:Nat→Value) (w:World) (K:Value→World→Prop):Prop:=
  ∀n a,AtR n R a→o.wp P a w (fun a' w'=>∃v,a'=a.put o.dst v∧K v w') (fun _ _ _=>False)
section
variable {P:Program} {n:Nat} {Q:fJ} {R:Nat→Value} {w:World}
def pk (K:(Nat→Value)→World→Prop) (Q:fJ):fJ:=fun e R w=>match e with
  |.normal=>K R w
  |e=>Q e R w
theorem RW.seq {x y:Code} (h:RW P n x (pk (RW P n y Q) Q) R w):RW P n (.seq x y) Q R w:=fun a ha=>by
  refine wp_seq (wp_mono (h a ha) ?_)
  rintro e a' w' ⟨R',hR,hQ⟩
  cases e with
  |normal=>exact hQ a' hR
  |_=>exact⟨R',hR,hQ⟩
theorem RW.skip (h:Q .normal R w):RW P n .skip Q R w:=fun _ ha=>wp_skip ⟨R,ha,h⟩
theorem RW.exit {id:Nat} (h:Q (.exit id) R w):RW P n (.exit id) Q R w:=fun _ ha=>wp_exit ⟨R,ha,h⟩
theorem RW.ret (h:Q .ret R w):RW P n .ret Q R w:=fun _ ha=>wp_ret ⟨R,ha,h⟩
theorem RW.cond {c:Operand} {x y:Code} (b:Bool) (hc:ev R c=.bool b) (ht:b=true→RW P n x Q R w) (hf:b=false→RW P n y Q R w):RW P n (.cond c x y) Q R w:=
  fun a ha=>wp_cond_split (t:=b) (by rw[ha.eval];exact hc) (fun e=>ht e a ha) (fun e=>hf e a ha)
theorem RW.JR {c:Operand} {x y:Code} (hc:ev R c=.bool true) (ht:RW P n x Q R w):RW P n (.cond c x y) Q R w:=RW.cond true hc (fun _=>ht) (fun e=>by cases e)
theorem RW.bD {c:Operand} {x y:Code} (ht:RW P n x Q R w) (hc:ev R c=.bool true:=by exact rfl):RW P n (.cond c x y) Q R w:=RW.JR hc ht
theorem RW.oA {c:Operand} {x y:Code} (hc:ev R c=.bool false) (ht:RW P n y Q R w):RW P n (.cond c x y) Q R w:=RW.cond false hc (fun e=>by cases e) (fun _=>ht)
theorem RW.cj {c:Operand} {x y:Code} (ht:RW P n y Q R w) (hc:ev R c=.bool false:=by exact rfl):RW P n (.cond c x y) Q R w:=RW.oA hc ht
def nP (id:Nat) (Q:fJ):fJ:=fun e R w=>match e with
  |.exit HD=>if HD=id then Q .normal R w else Q (.exit HD) R w
  |e=>Q e R w
theorem RW.block {id:Nat} {c:Code} (h:RW P n c (nP id Q) R w):RW P n (.block id c) Q R w:=fun a ha=>by
  refine wp_block (wp_mono (h a ha) ?_)
  rintro e a' w' ⟨R',hR,hQ⟩
  cases e with
  |exit HD=>
    simp only[ajx]
    simp only[nP]at hQ
    split
    · rename_i e;rw[if_pos e]at hQ;exact⟨R',hR,hQ⟩
    · rename_i e;rw[if_neg e]at hQ;exact⟨R',hR,hQ⟩
  |_=>exact⟨R',hR,hQ⟩
theorem RW.loop {c : Code} (I : Nat → (Nat → Value) → World → Prop) (k0 : Nat) (h0 : I k0 R w)
    (round:∀k R w,I k R w→RW P n c (pk (fun R' w'=>∃k',k'<k∧I k' R' w') Q) R w):RW P n (.loop c) Q R w:=fun a ha=>by
  refine wp_loop_ghost (fun k a w=>∃R,AtR n R a∧I k R w) k0 ⟨R,ha,h0⟩ ?_
  rintro k a' w' ⟨R',Wb,hI⟩
  refine wp_mono (round k R' w' hI a' Wb) ?_
  rintro e WI BC ⟨Qy,Fk,hQ⟩
  cases e with
  |normal=>obtain⟨k',hk,Qs⟩:=hQ;exact⟨k',hk,Qy,Fk,Qs⟩
  |_=>exact⟨Qy,Fk,hQ⟩
theorem RW.region {id:Nat} {l:List Oper} (h:RL P n l.toArray Q l R w):RW P n (.region id l.toArray false) Q R w:=fun a ha=>wp_region_lit (h a ha)
theorem RL.nil {ops:Array Oper} (h:Q .normal R w):RL P n ops Q [] R w:=fun _ ha=>wpList_nil ⟨R,ha,h⟩
theorem ey.wp {o : Oper} {K : Value → World → Prop} {next : Act → World → Prop} {Q' : Exit → Act → World → Prop} {a : Act} (ha : AtR n R a) (hd : eL n o.dst = true) (h : ey P o R w K)
    (go:∀v w',K v w'→∀(_:AtR n (eY R o.dst v) (a.put o.dst v)),next (a.put o.dst v) w'):o.wp P a w next Q':=by
  have:=h n a ha
  unfold aiD at*
  generalize (execOp a.eval o).run P w=r at*
  have go':∀a' w',(∃v,a'=a.put o.dst v∧K v w')→next a' w':=by
    rintro a' w' ⟨v,rfl,hv⟩
    exact go v w' hv (ha.put hd v)
  cases r with
  |ok x w'=>
    cases x<;>simp only[ah8]at this ⊢<;>first
      |exact go' _ _ this
      |exact ahR this (fun e BC he=>by cases e<;>first|exact go' _ _ he|exact he.elim|exact(by obtain⟨_,_,hx⟩:=he;exact hx.elim))
      |exact Rows.mono this (fun _ _ he=>go' _ _ he)
  |halt x w'=>cases x<;>simp only[ah8]at this ⊢
theorem RL.op {ops:Array Oper} {o:Oper} {rest:List Oper} (hg:o.guard=none) (hd:eL n o.dst=true) (h:ey P o R w (fun v w'=>RL P n ops Q rest (eY R o.dst v) w')):
    RL P n ops Q (o::rest) R w:=fun a ha=>wpList_plain hg fun K hK=>ey.wp ha hd h fun v w' hv uG=>hK _ _ (hv _ uG)
theorem RL.aL {ops:Array Oper} {o:Oper} {rest:List Oper} (h:ey P o R w (fun v w'=>RL P n ops Q rest (eY R o.dst v) w')) (hg:o.guard=none:=by exact rfl) (hd:eL n o.dst=true:=by exact rfl):RL P n ops Q (o::rest) R w:=RL.op hg hd h
theorem ey.value {o:Oper} {v:Value} {w':World} {K:Value→World→Prop} (h:(execOp (ev R) o).run P w=.ok (.value v) w') (hK:K v w'):ey P o R w K:=fun n a ha=>by
  unfold aiD;rw[ha.eval,h];exact⟨v,rfl,hK⟩
theorem ey.unit {o:Oper} {w':World} {K:Value→World→Prop} (h:(execOp (ev R) o).run P w=.ok .skip w') (hK:K undef w'):ey P o R w K:=fun n a ha=>by
  unfold aiD;rw[ha.eval,h];exact⟨undef,rfl,hK⟩
def aM (P:Program) (f:FuncId) (args:Array Value) (w:World) (K:Value→World→Prop):Prop:=
  Calls P f args w fun e w'=>∃v,e=.returned v∧K v w'
theorem aM.mono {f:FuncId} {args:Array Value} {K K':Value→World→Prop} (h:aM P f args w K) (hk:∀v w',K v w'→K' v w'):aM P f args w K':=
  ahR h fun _ _ ⟨v,he,hv⟩=>⟨v,he,hk _ _ hv⟩
theorem ey.enter {o:Oper} {f:FuncId} {args:Array Value} {w':World} {K:Value→World→Prop} (h:(execOp (ev R) o).run P w=.ok (.enter f args) w') (hK:aM P f args w' K):ey P o R w K:=fun n a ha=>by
  unfold aiD;rw[ha.eval,h]
  exact ahR hK fun e BC ⟨v,he,hv⟩=>by subst he;exact⟨v,rfl,hv⟩
def Ev (P:Program) (o:Oper) (R:Nat→Value) (w:World) (v:Value):Prop:=(execOp (ev R) o).run P w=.ok (.value v) w
theorem ey.ev {o:Oper} {v:Value} {K:Value→World→Prop} (h:Ev P o R w v) (hK:K v w):ey P o R w K:=ey.value h hK
theorem RL.ev {ops:Array Oper} {o:Oper} {rest:List Oper} {v:Value} (hg:o.guard=none) (hd:eL n o.dst=true) (h:Ev P o R w v) (hn:RL P n ops Q rest (eY R o.dst v) w):
    RL P n ops Q (o::rest) R w:=RL.op hg hd (ey.ev h hn)
theorem RL.ag {ops:Array Oper} {o:Oper} {rest:List Oper} {v:Value} (h:Ev P o R w v) (hn:RL P n ops Q rest (eY R o.dst v) w) (hg:o.guard=none:=by exact rfl) (hd:eL n o.dst=true:=by exact rfl):RL P n ops Q (o::rest) R w:=RL.ev hg hd h hn
theorem aA {K:(Nat→Value)→World→Prop} (h:K R w):pk K Q .normal R w:=h
theorem bP {K:(Nat→Value)→World→Prop} {id:Nat} (h:Q (.exit id) R w):pk K Q (.exit id) R w:=h
theorem aU {K:(Nat→Value)→World→Prop} (h:Q .ret R w):pk K Q .ret R w:=h
theorem ba {id:Nat} (h:Q .normal R w):nP id Q .normal R w:=h
theorem bb {id:Nat} (h:Q .ret R w):nP id Q .ret R w:=h
theorem aY {id:Nat} (h:Q .normal R w):nP id Q (.exit id) R w:=by unfold nP;simp only[if_true];exact h
theorem eA {id HD:Nat} (dX:HD≠id) (h:Q (.exit HD) R w):nP id Q (.exit HD) R w:=by unfold nP;simp only[if_neg dX];exact h
theorem RW.mK {c:Operand} {x y:Code} (p:Prop) [Decidable p] (hc:Rl.ev R c=.bool (decide p)) (ht:p→RW P n x Q R w) (hf:¬p→RW P n y Q R w):RW P n (.cond c x y) Q R w:=
  RW.cond (decide p) hc (fun e=>ht (of_decide_eq_true e)) (fun e=>hf (of_decide_eq_false e))
theorem RW.aG {c:Operand} {x y:Code} (p:Prop) [Decidable p] (ht:p→RW P n x Q R w) (hf:¬p→RW P n y Q R w) (hc:Rl.ev R c=.bool (decide p):=by exact rfl):RW P n (.cond c x y) Q R w:=RW.mK p hc ht hf
theorem RW.oZ {c:Operand} {x y:Code} (p:Prop) [Decidable p] (hc:Rl.ev R c=.bool (decide p)) (hp:p) (ht:RW P n x Q R w):RW P n (.cond c x y) Q R w:=
  RW.mK p hc (fun _=>ht) (fun e=>absurd hp e)
def LZ (Q:fJ):Prop:=∀c R w,¬Q (.panic c) R w
def RA (P:Program) (n:Nat) (ops:Array Oper) (Q:fJ) (S:World→Prop) (fuel:Nat) (bx:Array Bool) (R:Nat→Value) (w:World):Prop:=
  ∀a,AtR n R a→wpAnyH P .any ops (Q.up n) S fuel bx a w
theorem RW.draw {id : Nat} {ops : Array Oper} (hm : P.follows .mixedOrders = true) (S : World → Prop)
    (h:RA P n ops Q S ops.size (aev ops.size false) R w.drew):RW P n (.region id ops true) Q R w:=fun a ha=>wp_region_held hm (h a ha)
theorem RA.done {ops:Array Oper} {S:World→Prop} {fuel:Nat} {bx:Array Bool} (hr:adx .any ops bx=[]) (h:Q .normal R w):RA P n ops Q S fuel bx R w:=
  fun a ha=>wpAnyH_done hr ⟨R,ha,h⟩ fuel
theorem pj {c:List PanicEntry} (hp:LZ Q) (dst:Option Tmp) (v:Value) (a:Act) (w:World):Q.up n (.panic c) (a.put dst v) w→Q.up n (.panic c) a w:=fun⟨R,_,h⟩=>absurd h (hp c R w)
theorem RA.take {ops : Array Oper} {S : World → Prop} {fuel i : Nat} {o : Oper} {v : Value} {bx : Array Bool} (hi : ops[i]? = some o) (hg : o.guard = none) (hs : aeE ops = true)
    (hf:afL .any ops bx i=true) (hr:(adx .any ops bx).contains i=true) (hp:LZ Q) (hd:eL n o.dst=true) (hS:S w) (h:∀w,S w→Ev P o R w v)
    (hn:RA P n ops Q S fuel (bx.setIfInBounds i true) (eY R o.dst v) w):RA P n ops Q S (fuel+1) bx R w:=fun a ha=>
  wpAnyH_take hi hs hf hr (fun c a w=>pj hp _ _ a w) (.inl ⟨by simp[adN,hg],fun w hw=>by rw[ha.eval];exact h w hw⟩) hS (hn _ (ha.put hd v))
theorem fX {ops:Array Oper} {a:Act} (ha:AtR n R a) {j d:Nat} {b:Bool} (hj:(ops[j]?).bind (·.dst)=some d) (mS:d<n) (hb:R d=.bool b):yielded ops a.tmps j=some b:=by
  have h1:a.tmps[d]?=some (.bool b):=by
    have:=ha.lD d
    have hl:d<a.tmps.size:=by rw[ha.size];exact mS
    simp[hl]at this
    simp[hl,this,hb]
  simp[yielded,hj,h1]
theorem RA.nh {ops : Array Oper} {S : World → Prop} {fuel i j d : Nat} {want : Bool} {o : Oper} {v : Value} {bx : Array Bool} (hi : ops[i]? = some o) (hg : o.guard = some (j, want))
    (hj:(ops[j]?).bind (·.dst)=some d) (mS:d<n) (hb:R d=.bool want) (hs:aeE ops=true)
    (hf:afL .any ops bx i=true) (hr:(adx .any ops bx).contains i=true) (hp:LZ Q) (hd:eL n o.dst=true) (hS:S w) (h:∀w,S w→Ev P o R w v)
    (hn:RA P n ops Q S fuel (bx.setIfInBounds i true) (eY R o.dst v) w):RA P n ops Q S (fuel+1) bx R w:=fun a ha=>
  wpAnyH_take hi hs hf hr (fun c a w=>pj hp _ _ a w) (.inl ⟨by simp[adN,hg,fX ha hj mS hb],fun w hw=>by rw[ha.eval];exact h w hw⟩) hS (hn _ (ha.put hd v))
theorem RA.jd {ops : Array Oper} {S : World → Prop} {fuel i j d : Nat} {want : Bool} {o : Oper} {bx : Array Bool} (hi : ops[i]? = some o) (hg : o.guard = some (j, want))
    (hj:(ops[j]?).bind (·.dst)=some d) (mS:d<n) (hb:R d=.bool (!want)) (hs:aeE ops=true)
    (hf:afL .any ops bx i=true) (hr:(adx .any ops bx).contains i=true) (hp:LZ Q) (hd:eL n o.dst=true) (hS:S w)
    (hn:RA P n ops Q S fuel (bx.setIfInBounds i true) (eY R o.dst undef) w):RA P n ops Q S (fuel+1) bx R w:=fun a ha=>
  wpAnyH_take hi hs hf hr (fun c a w=>pj hp _ _ a w) (.inr ⟨by cases want<;>simp[adN,hg,fX ha hj mS hb],rfl⟩) hS (hn _ (ha.put hd undef))
theorem RA.Cb {ops : Array Oper} {S : World → Prop} {fuel i j d : Nat} {want : Bool} {o : Oper} {bx : Array Bool} (hr : adx .any ops bx = [i]) (hi : ops[i]? = some o) (hg : o.guard = some (j, want))
    (hj:(ops[j]?).bind (·.dst)=some d) (mS:d<n) (hb:R d=.bool want) (hd:eL n o.dst=true)
    (h:ey P o R w (fun v w'=>S w'∧RA P n ops Q S fuel (bx.setIfInBounds i true) (eY R o.dst v) w')):RA P n ops Q S (fuel+1) bx R w:=fun a ha=>by
  refine wpAnyH_all hr (by simp) fun k hk=>?_
  have:k=i:=by simpa using hk
  subst this
  unfold wpOp
  simp only[hi,adN,hg,fX ha hj mS hb,beq_self_eq_true,if_true]
  refine .inl (ey.wp ha hd h fun v w' hv uG=>⟨hv.1,hv.2 _ uG⟩)
end
end Go.Rl
namespace Go.Rl
open Go.RowKit
section
variable {P:Program} {n:Nat} {Q:fJ} {R:Nat→Value} {w:World}
def RV (P:Program) (fn:Func) (n:Nat) (R:Nat→Value) (w:World) (v:Value):Prop:=∀a,AtR n R a→(results fn a.tmps).run P w=.ok v w
def KK (P:Program) (fn:Func) (n:Nat) (K:Value→World→Prop):fJ:=fun e R w=>match e with
  |.normal|.ret=>∃v,RV P fn n R w v∧K v w
  |_=>False
theorem aM.start {f : FuncId} {fn : Func} {c : Code} {args : Array Value} {K : Value → World → Prop} (hf : P.funcs[f]? = some fn) (hb : fn.body = some c)
    (hs:args.size≤fn.ntmps) (h:RW P fn.ntmps c (KK P fn fn.ntmps K) (fun t=>args.getD t undef) w):aM P f args w K:=by
  refine calls_of_wp hf hb ?_
  refine wp_mono (h _ ⟨by rw[agU,ahS];omega,fun t=>?_,rfl⟩) ?_
  · by_cases ht : t < args.size
    · simp[agP ht]
    · have h0 : args[t]? = .none := aeU (by omega)
      simp only[afC,h0]
      rw[agK (by omega),ag0]
      split<;>rfl
  · rintro e a w' ⟨R', hR, hQ⟩
    cases e with
    |normal=>obtain⟨v,hv,hk⟩:=hQ;exact⟨hR.defs,v,hv a hR,v,rfl,hk⟩
    |ret=>obtain⟨v,hv,hk⟩:=hQ;exact⟨hR.defs,v,hv a hR,v,rfl,hk⟩
    |exit=>exact hQ.elim
    |goto=>exact hQ.elim
    |panic=>exact hQ.elim
    |outgrown=>exact hQ.elim
theorem aM.aZ {f:FuncId} {fn:Func} {c:Code} {args:Array Value} {K:Value→World→Prop} (hf:P.funcs[f]?=some fn) (h:RW P fn.ntmps c (KK P fn fn.ntmps K) (fun t=>args.getD t undef) w) (hb:fn.body=some c:=by exact rfl) (hs:args.size≤fn.ntmps:=by exact QY):aM P f args w K:=aM.start hf hb hs h
def r0:Nat→Value:=fun _=>undef
theorem M5:(fun t=>(#[]:Array Value).getD t undef)=r0:=by funext t;rfl
theorem cH (a:Value):(fun t=>#[a].getD t undef)=dm r0 0 a:=by
  funext t;rw[nf];match t with
  |0=>rfl
  |t+1=>rfl
theorem cS (a b:Value):(fun t=>#[a,b].getD t undef)=dm (dm r0 0 a) 1 b:=by
  funext t;simp only[nf];match t with
  |0=>rfl
  |1=>rfl
  |t+2=>rfl
theorem iu (a b c:Value):(fun t=>#[a,b,c].getD t undef)=dm (dm (dm r0 0 a) 1 b) 2 c:=by
  funext t;simp only[nf];match t with
  |0=>rfl
  |1=>rfl
  |2=>rfl
  |t+3=>rfl
theorem kE (a b c d:Value):(fun t=>#[a,b,c,d].getD t undef)=dm (dm (dm (dm r0 0 a) 1 b) 2 c) 3 d:=by
  funext t;simp only[nf];match t with
  |0=>rfl
  |1=>rfl
  |2=>rfl
  |3=>rfl
  |t+4=>rfl
theorem M4 (a b c d e:Value):(fun t=>#[a,b,c,d,e].getD t undef)=dm (dm (dm (dm (dm r0 0 a) 1 b) 2 c) 3 d) 4 e:=by
  funext t;simp only[nf];match t with
  |0=>rfl
  |1=>rfl
  |2=>rfl
  |3=>rfl
  |4=>rfl
  |t+5=>rfl
theorem RV.zero {fn:Func} (h:fn.results=#[]):RV P fn n R w (.tuple #[]):=fun a _=>results_none h _ _ _
theorem RV.tmp {fn:Func} {t:Tmp} (h:fn.results=#[.tmp t]):RV P fn n R w (R t):=fun a ha=>by rw[results_tmp h,ha.lD]
theorem RV.ju {fn:Func} {t u:Tmp} (h:fn.results=#[.tmp t,.tmp u]):RV P fn n R w (.tuple #[R t,R u]):=fun a ha=>by rw[results_tmp2 h,ha.lD,ha.lD]
theorem RV.Kx {fn:Func} {t u v:Tmp} (h:fn.results=#[.tmp t,.tmp u,.tmp v]):RV P fn n R w (.tuple #[R t,R u,R v]):=fun a ha=>by
  have:=ha.lD t;have:=ha.lD u;have:=ha.lD v
  simp_all [results]
theorem RV.cell {fn : Func} {p : Tmp} {ty : TypeId} (h : fn.results = #[.cell p ty]) {g : Nat} {t : TypeId} {cs : Array Value} {fr : Nat × Nat} {d : TypeDesc}
    (hp:R p=.pointer (some ⟨g,0,none⟩)) (hg:w.heap[g]?=some (.cells cs t fr)) (hu:P.underlying ty=some d)
    (hd:(match d with|.struct _|.array _ _=>true|_=>false)=true) (hi:(P.info? ty).map (·.size)=some cs.size):RV P fn n R w (.agg cs):=
  fun a ha=>results_cell_row h a.tmps w g t cs fr d (by rw[ha.lD];exact hp) hg hu hd hi
theorem bc {fn:Func} {K:Value→World→Prop} {v:Value} (h:RV P fn n R w v) (hk:K v w):KK P fn n K .ret R w:=⟨v,h,hk⟩
theorem QP {fn:Func} {K:Value→World→Prop} {v:Value} (h:RV P fn n R w v) (hk:K v w):KK P fn n K .normal R w:=⟨v,h,hk⟩
theorem RL.on {ops : Array Oper} {o : Oper} {rest : List Oper} {j : Nat} {want : Bool} {d : Nat} (hg : o.guard = some (j, want)) (hj : (ops[j]?).bind (·.dst) = some d) (mS : d < n)
    (hb:R d=.bool want) (hd:eL n o.dst=true) (h:ey P o R w (fun v w'=>RL P n ops Q rest (eY R o.dst v) w')):
    RL P n ops Q (o::rest) R w:=fun a ha=>by
  refine wpList_step fun K hK=>?_
  rw[if_pos (by simp[adN,hg,fX ha hj mS hb])]
  exact ey.wp ha hd h fun v w' hv uG=>hK _ _ (hv _ uG)
theorem RL.er {ops:Array Oper} {o:Oper} {rest:List Oper} {j:Nat} {want:Bool} {d:Nat} (h:ey P o R w (fun v w'=>RL P n ops Q rest (eY R o.dst v) w')) (hg:o.guard=some (j,want):=by exact rfl) (hj:(ops[j]?).bind (·.dst)=some d:=by exact rfl) (mS:d<n:=by decide) (hb:R d=.bool want:=by exact rfl) (hd:eL n o.dst=true:=by exact rfl):RL P n ops Q (o::rest) R w:=RL.on hg hj mS hb hd h
theorem RL.NO {ops : Array Oper} {o : Oper} {rest : List Oper} {j : Nat} {want : Bool} {d : Nat} {v : Value} (hg : o.guard = some (j, want)) (hj : (ops[j]?).bind (·.dst) = some d) (mS : d < n)
    (hb:R d=.bool want) (hd:eL n o.dst=true) (h:Ev P o R w v) (hn:RL P n ops Q rest (eY R o.dst v) w):RL P n ops Q (o::rest) R w:=
  RL.on hg hj mS hb hd (ey.ev h hn)
theorem RL.aw {ops:Array Oper} {o:Oper} {rest:List Oper} {j:Nat} {want:Bool} {d:Nat} {v:Value} (h:Ev P o R w v) (hn:RL P n ops Q rest (eY R o.dst v) w) (hg:o.guard=some (j,want):=by exact rfl) (hj:(ops[j]?).bind (·.dst)=some d:=by exact rfl) (mS:d<n:=by decide) (hb:R d=.bool want:=by exact rfl) (hd:eL n o.dst=true:=by exact rfl):RL P n ops Q (o::rest) R w:=RL.NO hg hj mS hb hd h hn
theorem RL.off {ops : Array Oper} {o : Oper} {rest : List Oper} {j : Nat} {want : Bool} {d : Nat} (hg : o.guard = some (j, want)) (hj : (ops[j]?).bind (·.dst) = some d) (mS : d < n)
    (hb:R d=.bool (!want)) (hd:eL n o.dst=true) (h:RL P n ops Q rest (eY R o.dst undef) w):
    RL P n ops Q (o::rest) R w:=fun a ha=>by
  refine wpList_step fun K hK=>?_
  rw[if_neg (by cases want<;>simp[adN,hg,fX ha hj mS hb])]
  exact hK _ _ (h _ (ha.put hd undef))
theorem RL.bH {ops:Array Oper} {o:Oper} {rest:List Oper} {j:Nat} {want:Bool} {d:Nat} (h:RL P n ops Q rest (eY R o.dst undef) w) (hg:o.guard=some (j,want):=by exact rfl) (hj:(ops[j]?).bind (·.dst)=some d:=by exact rfl) (mS:d<n:=by decide) (hb:R d=.bool (!want):=by exact rfl) (hd:eL n o.dst=true:=by exact rfl):RL P n ops Q (o::rest) R w:=RL.off hg hj mS hb hd h
section
variable {K:Value→World→Prop} {dst:Option Tmp} {ty:TypeId} {pos:String} {af:Array Edge} {gd:Option (Nat×Bool)}
theorem U {x:Operand}:Ev P ⟨dst,.move x,ty,pos,af,gd⟩ R w (ev R x):=by simp[Ev,execOp]
theorem ai {x:Operand}:Ev P ⟨dst,.assign x,ty,pos,af,gd⟩ R w (ev R x):=by simp[Ev,execOp]
theorem AZ {c a b:Operand} (hc:ev R c=.bool true):Ev P ⟨dst,.pick c a b,ty,pos,af,gd⟩ R w (ev R a):=by simp[Ev,execOp,hc,asBool]
theorem al {c a b:Operand} (hc:ev R c=.bool true:=by exact rfl):Ev P ⟨dst,.pick c a b,ty,pos,af,gd⟩ R w (ev R a):=AZ hc
theorem A2 {c a b:Operand} (hc:ev R c=.bool false):Ev P ⟨dst,.pick c a b,ty,pos,af,gd⟩ R w (ev R b):=by simp[Ev,execOp,hc,asBool]
theorem aB {c a b:Operand} (hc:ev R c=.bool false:=by exact rfl):Ev P ⟨dst,.pick c a b,ty,pos,af,gd⟩ R w (ev R b):=A2 hc
theorem C3 {t:Operand} {vs:Array Value} {i:Nat} {v:Value} (ht:ev R t=.tuple vs) (hi:vs[i]?=some v):Ev P ⟨dst,.extract t i,ty,pos,af,gd⟩ R w v:=by
  simp[Ev,execOp,ht,Instr.extract,hi]
theorem bE {t:Operand} {vs:Array Value} {i:Nat} {v:Value} (ht:ev R t=.tuple vs:=by exact rfl) (hi:vs[i]?=some v:=by exact rfl):Ev P ⟨dst,.extract t i,ty,pos,af,gd⟩ R w v:=C3 ht hi
theorem dB {o:Oper} {p:Prop} [Decidable p] (h:Ev P o R w (.bool (decide p))) (hp:p):Ev P o R w (.bool true):=by rw[decide_eq_true hp]at h;exact h
theorem cG {o:Oper} {p:Prop} [Decidable p] (h:Ev P o R w (.bool (decide p))) (hp:¬p):Ev P o R w (.bool false):=by rw[decide_eq_false hp]at h;exact h
def arith:BinOp→IntKind→Int→Int→Int
  |.add,k,a,b=>k.wrap (a+b)
  |.sub,k,a,b=>k.wrap (a-b)
  |.mul,k,a,b=>k.wrap (a*b)
  |.and,k,a,b=>k.wrap ((aed k.bits a &&& aed k.bits b).toNat:Int)
  |.or,k,a,b=>k.wrap ((aed k.bits a |||aed k.bits b).toNat:Int)
  |.xor,k,a,b=>k.wrap ((aed k.bits a^^^aed k.bits b).toNat:Int)
  |_,_,_,_=>0
def D4:BinOp→Bool
  |.add|.sub|.mul|.and|.or|.xor=>true
  |_=>false
def compare:BinOp→Int→Int→Bool
  |.eql,a,b=>decide (a=b)
  |.neq,a,b=> !decide (a=b)
  |.lss,a,b=>decide (a<b)
  |.leq,a,b=>decide (a≤b)
  |.gtr,a,b=>decide (b<a)
  |.geq,a,b=>decide (b≤a)
  |_,_,_=>false
def xk:BinOp→Bool
  |.eql|.neq|.lss|.leq|.gtr|.geq=>true
  |_=>false
theorem Eu {op:BinOp} (Ol:D4 op=true) (xt:TypeId) (k:IntKind) (a b:Int) (x y:Operand):
    (do eqGuard op xt x y (.int k a) (.int k b);binOp op xt (.int k a) (.int k b)).run P w=.ok (.int k (arith op k a b)) w:=by
  cases op<;>first|(exact absurd Ol (by decide))|simp[eqGuard,binOp,Op.intArith,Op.intBits,arith]
theorem zB {op:BinOp} (Ol:xk op=true) (xt:TypeId) (k:IntKind) (a b:Int) (x y:Operand):
    (do eqGuard op xt x y (.int k a) (.int k b);binOp op xt (.int k a) (.int k b)).run P w=.ok (.bool (compare op a b)) w:=by
  cases op<;>first
    |(exact absurd Ol (by decide))
    |(simp[eqGuard,binOp,Op.intCmp,compare];done)
    | (simp only [eqGuard, binOp, Op.intCmp, compare]
       simp
       by_cases h:a=b<;>simp[h])
theorem aD {op:BinOp} {xt yt:TypeId} {x y:Operand} {k:IntKind} {a b r:Int} (Ol:D4 op=true) (hx:ev R x=.int k a) (hy:ev R y=.int k b) (hr:arith op k a b=r):
    Ev P ⟨dst,.binOp op xt x y yt,ty,pos,af,gd⟩ R w (.int k r):=by
  unfold Ev
  simp only[execOp,hx,hy]
  rw[adA,Eu Ol,hr];rfl
theorem qT {op:BinOp} {xt yt:TypeId} {x y:Operand} {k:IntKind} {a b:Int} {r:Bool} (Ol:xk op=true) (hx:ev R x=.int k a) (hy:ev R y=.int k b) (hr:compare op a b=r):
    Ev P ⟨dst,.binOp op xt x y yt,ty,pos,af,gd⟩ R w (.bool r):=by
  unfold Ev
  simp only[execOp,hx,hy]
  rw[adA,zB Ol,hr];rfl
theorem PH {xt yt:TypeId} {x y:Operand} {k:IntKind} {a b:Int} (hx:ev R x=.int k a) (hy:ev R y=.int k b):Ev P ⟨dst,.binOp .eql xt x y yt,ty,pos,af,gd⟩ R w (.bool (decide (a=b))):=qT rfl hx hy rfl
theorem ca {xt yt:TypeId} {x y:Operand} {k:IntKind} {a b:Int} (hx:ev R x=.int k a:=by exact rfl) (hy:ev R y=.int k b:=by exact rfl):Ev P ⟨dst,.binOp .eql xt x y yt,ty,pos,af,gd⟩ R w (.bool (decide (a=b))):=PH hx hy
theorem PC {xt yt:TypeId} {x y:Operand} {k:IntKind} {a b:Int} (hx:ev R x=.int k a) (hy:ev R y=.int k b):Ev P ⟨dst,.binOp .neq xt x y yt,ty,pos,af,gd⟩ R w (.bool (decide (¬a=b))):=
  qT rfl hx hy (by simp[compare])
theorem bj {xt yt:TypeId} {x y:Operand} {k:IntKind} {a b:Int} (hx:ev R x=.int k a:=by exact rfl) (hy:ev R y=.int k b:=by exact rfl):Ev P ⟨dst,.binOp .neq xt x y yt,ty,pos,af,gd⟩ R w (.bool (decide (¬a=b))):=PC hx hy
theorem PE {xt yt:TypeId} {x y:Operand} {k:IntKind} {a b:Int} (hx:ev R x=.int k a) (hy:ev R y=.int k b):Ev P ⟨dst,.binOp .lss xt x y yt,ty,pos,af,gd⟩ R w (.bool (decide (a<b))):=qT rfl hx hy rfl
theorem aK {xt yt:TypeId} {x y:Operand} {k:IntKind} {a b:Int} (hx:ev R x=.int k a:=by exact rfl) (hy:ev R y=.int k b:=by exact rfl):Ev P ⟨dst,.binOp .lss xt x y yt,ty,pos,af,gd⟩ R w (.bool (decide (a<b))):=PE hx hy
theorem mu {xt yt:TypeId} {x y:Operand} {k:IntKind} {a b:Int} (hx:ev R x=.int k a) (hy:ev R y=.int k b):Ev P ⟨dst,.binOp .leq xt x y yt,ty,pos,af,gd⟩ R w (.bool (decide (a≤b))):=qT rfl hx hy rfl
theorem PF {xt yt:TypeId} {x y:Operand} {k:IntKind} {a b:Int} (hx:ev R x=.int k a) (hy:ev R y=.int k b):Ev P ⟨dst,.binOp .gtr xt x y yt,ty,pos,af,gd⟩ R w (.bool (decide (b<a))):=qT rfl hx hy rfl
theorem cq {xt yt:TypeId} {x y:Operand} {k:IntKind} {a b:Int} (hx:ev R x=.int k a:=by exact rfl) (hy:ev R y=.int k b:=by exact rfl):Ev P ⟨dst,.binOp .gtr xt x y yt,ty,pos,af,gd⟩ R w (.bool (decide (b<a))):=PF hx hy
theorem PG {xt yt:TypeId} {x y:Operand} {k:IntKind} {a b:Int} (hx:ev R x=.int k a) (hy:ev R y=.int k b):Ev P ⟨dst,.binOp .geq xt x y yt,ty,pos,af,gd⟩ R w (.bool (decide (b≤a))):=qT rfl hx hy rfl
theorem ck {xt yt:TypeId} {x y:Operand} {k:IntKind} {a b:Int} (hx:ev R x=.int k a:=by exact rfl) (hy:ev R y=.int k b:=by exact rfl):Ev P ⟨dst,.binOp .geq xt x y yt,ty,pos,af,gd⟩ R w (.bool (decide (b≤a))):=PG hx hy
theorem JG {xt yt:TypeId} {x y:Operand} {k:IntKind} {a b r:Int} (hx:ev R x=.int k a) (hy:ev R y=.int k b) (h0:b≠0) (hr:a.tmod b=r):
    Ev P ⟨dst,.binOp .rem xt x y yt,ty,pos,af,gd⟩ R w (.int k r):=by simp[Ev,execOp,hx,hy,eqGuard,binOp,Op.intDiv,h0,hr]
theorem PB {xt yt:TypeId} {x y:Operand} {k:IntKind} {a b r:Int} (hx:ev R x=.int k a) (hy:ev R y=.int k b) (h0:b≠0) (hr:k.wrap (a.tdiv b)=r):
    Ev P ⟨dst,.binOp .quo xt x y yt,ty,pos,af,gd⟩ R w (.int k r):=by simp[Ev,execOp,hx,hy,eqGuard,binOp,Op.intDiv,h0,hr]
theorem nL {xt yt:TypeId} {x y:Operand} {k k':IntKind} {a b r:Int} (hx:ev R x=.int k a) (hy:ev R y=.int k' b) (h0:0≤b) (hr:a.fdiv (2^(min b.toNat k.bits))=r):
    Ev P ⟨dst,.binOp .shr xt x y yt,ty,pos,af,gd⟩ R w (.int k r):=by simp[Ev,execOp,hx,hy,eqGuard,binOp,Op.shift,Int.not_lt.2 h0,hr]
theorem PA {xt yt:TypeId} {x y:Operand} {k k':IntKind} {a b r:Int} (hx:ev R x=.int k a) (hy:ev R y=.int k' b) (h0:0≤b) (hr:k.wrap (a*2^(min b.toNat k.bits))=r):
    Ev P ⟨dst,.binOp .shl xt x y yt,ty,pos,af,gd⟩ R w (.int k r):=by simp[Ev,execOp,hx,hy,eqGuard,binOp,Op.shift,Int.not_lt.2 h0,hr]
theorem PD {xt:TypeId} {x:Operand} {k:IntKind} {a r:Int} (hx:ev R x=.int k a) (hr:arith .sub k 0 a=r):
    Ev P ⟨dst,.unOp .neg xt x,ty,pos,af,gd⟩ R w (.int k r):=by subst hr;simp[Ev,execOp,hx,ajy,Op.intArith,arith]
theorem A6 {xt:TypeId} {x:Operand} {k:IntKind} {a r:Int} (hx:ev R x=.int k a) (hr:arith .xor k (if k.signed then-1 else k.max) a=r):
    Ev P ⟨dst,.unOp .xor xt x,ty,pos,af,gd⟩ R w (.int k r):=by subst hr;simp[Ev,execOp,hx,ajy,Op.intBits,arith]
theorem jY {xt:TypeId} {x:Operand} {b:Bool} (hx:ev R x=.bool b):Ev P ⟨dst,.unOp .not xt x,ty,pos,af,gd⟩ R w (.bool (!b)):=by simp[Ev,execOp,hx,ajy]
theorem en {src dt : TypeId} {x : Operand} {k k' : IntKind} {a r : Int} {u : TypeDesc} (hs : P.underlying src = some u) (hd : P.underlying dt = some (.int k')) (hx : ev R x = .int k a)
    (hr:k'.wrap a=r):Ev P ⟨dst,.convert src dt x,ty,pos,af,gd⟩ R w (.int k' r):=by
  simp[Ev,execOp,hx,convert,run_underlying hs,run_underlying hd,Conv.intToInt,hr]
theorem JJ {t:TypeId} {x:Operand} {A:Option Addr} {m c:Nat} {e:TypeId} (ht:P.underlying t=some (.slice e)) (hx:ev R x=.slice A m c):
    Ev P ⟨dst,.call ⟨.builtin .len,#[x],#[t]⟩,ty,pos,af,gd⟩ R w (.int .i64 m):=by simp[Ev,execOp,resolve,invoke,builtin,ajz,hx,run_underlying ht,goInt]
theorem Fw {t:TypeId} {x:Operand} {s:ByteArray} (ht:P.underlying t=some .string) (hx:ev R x=.string s):
    Ev P ⟨dst,.call ⟨.builtin .len,#[x],#[t]⟩,ty,pos,af,gd⟩ R w (.int .i64 s.size):=by simp[Ev,execOp,resolve,invoke,builtin,ajz,hx,run_underlying ht,goInt]
theorem wrap_i64 {a:Int} (h0: -9223372036854775808≤a) (h1:a≤9223372036854775807):adE.wrap a=a:=by
  simp only[aem,adZ,ad0,agQ]
  split<;>simp_all<;>omega
theorem bg {a b:Int} (h0: -9223372036854775808≤a+b) (h1:a+b≤9223372036854775807):arith .add .i64 a b=a+b:=wrap_i64 h0 h1
theorem pn {a b:Int} (h0: -9223372036854775808≤a-b) (h1:a-b≤9223372036854775807):arith .sub .i64 a b=a-b:=wrap_i64 h0 h1
theorem DB {a b:Int} (h0: -9223372036854775808≤a*b) (h1:a*b≤9223372036854775807):arith .mul .i64 a b=a*b:=wrap_i64 h0 h1
theorem ei {f:FuncId} {fn:Func} (args:Array Value) (hf:P.funcs[f]?=some fn) (hn:(fn.name == "runtime.NumGoroutine")=false) (hb:fn.body.isSome=true):
    (callFunc f args).run P w=.ok (.enter f args) w:=by
  simp only[beq_eq_false_iff_ne,ne_eq]at hn
  have AJ:fn.body≠.none:=fun e=>by rw[e]at hb;cases hb
  simp[callFunc,hf,hn,AJ]
theorem ji {f : FuncId} {fn : Func} {qb : Array TypeId} (hf : P.funcs[f]? = some fn) (hn : (fn.name == "runtime.NumGoroutine") = false) (hb : fn.body.isSome = true)
     (h:aM P f #[] w K):ey P ⟨dst,.call ⟨.value (.func f),#[],qb⟩,ty,pos,af,gd⟩ R w K:=
  ey.enter (f:=f) (args:=#[]) (w':=w) (by
    have:=ei (P:=P) (w:=w) #[] hf hn hb
    simp only[execOp,resolve,aei,ad3,adq,aee,adA,aer,adJ,invoke]
    simpa[ev]using this) h
theorem bo {f : FuncId} {fn : Func} {qb : Array TypeId} {x : Operand} {v1 : Value} (hf : P.funcs[f]? = some fn) (hn : (fn.name == "runtime.NumGoroutine") = false) (hb : fn.body.isSome = true)
    (hx:ev R x=v1) (h:aM P f #[v1] w K):ey P ⟨dst,.call ⟨.value (.func f),#[x],qb⟩,ty,pos,af,gd⟩ R w K:=
  ey.enter (f:=f) (args:=#[v1]) (w':=w) (by
    subst hx
    have:=ei (P:=P) (w:=w) #[ev R x] hf hn hb
    simp only[execOp,resolve,aei,ad3,adq,aee,adA,aer,adJ,invoke]
    simpa[ev]using this) h
theorem bu {f : FuncId} {fn : Func} {qb : Array TypeId} {x y : Operand} {v1 v2 : Value} (hf : P.funcs[f]? = some fn) (hn : (fn.name == "runtime.NumGoroutine") = false) (hb : fn.body.isSome = true)
    (hx:ev R x=v1) (hy:ev R y=v2) (h:aM P f #[v1,v2] w K):ey P ⟨dst,.call ⟨.value (.func f),#[x,y],qb⟩,ty,pos,af,gd⟩ R w K:=
  ey.enter (f:=f) (args:=#[v1,v2]) (w':=w) (by
    subst hx hy
    have:=ei (P:=P) (w:=w) #[ev R x,ev R y] hf hn hb
    simp only[execOp,resolve,aei,ad3,adq,aee,adA,aer,adJ,invoke]
    simpa[ev]using this) h
theorem cn {f : FuncId} {fn : Func} {qb : Array TypeId} {x y z : Operand} {v1 v2 v3 : Value} (hf : P.funcs[f]? = some fn) (hn : (fn.name == "runtime.NumGoroutine") = false) (hb : fn.body.isSome = true)
    (hx:ev R x=v1) (hy:ev R y=v2) (hz:ev R z=v3) (h:aM P f #[v1,v2,v3] w K):ey P ⟨dst,.call ⟨.value (.func f),#[x,y,z],qb⟩,ty,pos,af,gd⟩ R w K:=
  ey.enter (f:=f) (args:=#[v1,v2,v3]) (w':=w) (by
    subst hx hy hz
    have:=ei (P:=P) (w:=w) #[ev R x,ev R y,ev R z] hf hn hb
    simp only[execOp,resolve,aei,ad3,adq,aee,adA,aer,adJ,invoke]
    simpa[ev]using this) h
theorem dH {f : FuncId} {fn : Func} {qb : Array TypeId} {x y z s : Operand} {v1 v2 v3 v4 : Value} (hf : P.funcs[f]? = some fn) (hn : (fn.name == "runtime.NumGoroutine") = false) (hb : fn.body.isSome = true)
    (hx:ev R x=v1) (hy:ev R y=v2) (hz:ev R z=v3) (hs:ev R s=v4) (h:aM P f #[v1,v2,v3,v4] w K):ey P ⟨dst,.call ⟨.value (.func f),#[x,y,z,s],qb⟩,ty,pos,af,gd⟩ R w K:=
  ey.enter (f:=f) (args:=#[v1,v2,v3,v4]) (w':=w) (by
    subst hx hy hz hs
    have:=ei (P:=P) (w:=w) #[ev R x,ev R y,ev R z,ev R s] hf hn hb
    simp only[execOp,resolve,aei,ad3,adq,aee,adA,aer,adJ,invoke]
    simpa[ev]using this) h
theorem lH {f : FuncId} {fn : Func} {qb : Array TypeId} {x y z s t : Operand} {v1 v2 v3 v4 v5 : Value} (hf : P.funcs[f]? = some fn) (hn : (fn.name == "runtime.NumGoroutine") = false) (hb : fn.body.isSome = true)
    (hx:ev R x=v1) (hy:ev R y=v2) (hz:ev R z=v3) (hs:ev R s=v4) (ht:ev R t=v5) (h:aM P f #[v1,v2,v3,v4,v5] w K):ey P ⟨dst,.call ⟨.value (.func f),#[x,y,z,s,t],qb⟩,ty,pos,af,gd⟩ R w K:=
  ey.enter (f:=f) (args:=#[v1,v2,v3,v4,v5]) (w':=w) (by
    subst hx hy hz hs ht
    have:=ei (P:=P) (w:=w) #[ev R x,ev R y,ev R z,ev R s,ev R t] hf hn hb
    simp only[execOp,resolve,aei,ad3,adq,aee,adA,aer,adJ,invoke]
    simpa[ev]using this) h
end
end
end Go.Rl
namespace Go.Rl
open Go.RowKit
structure Mod (M:Nat→Prop) (w w':World):Prop where
  os:w'.os=w.os
  tape:w'.tape=w.tape
  output:w'.output=w.output
  size:w.heap.size≤w'.heap.size
  block:∀k,k<w.heap.size→¬M k→w'.heap[k]?=w.heap[k]?
abbrev Ext:World→World→Prop:=Mod (fun _=>False)
theorem Mod.refl (M:Nat→Prop) (w:World):Mod M w w:=⟨rfl,rfl,rfl,ac8 _,fun _ _ _=>rfl⟩
theorem Mod.trans {M M1 M2:Nat→Prop} {a b c:World} (h:Mod M1 a b) (k:Mod M2 b c) (h1:∀i,i<a.heap.size→M1 i→M i) (h2:∀i,i<a.heap.size→M2 i→M i):Mod M a c:=
  ⟨k.os.trans h.os,k.tape.trans h.tape,k.output.trans h.output,acU h.size k.size,fun i hi hM=>
    (k.block i (aef hi h.size) fun e=>hM (h2 i hi e)).trans (h.block i hi fun e=>hM (h1 i hi e))⟩
theorem Mod.mono {M M':Nat→Prop} {w w':World} (h:Mod M w w') (hm:∀i,i<w.heap.size→M i→M' i):Mod M' w w':=
  ⟨h.os,h.tape,h.output,h.size,fun i hi hM=>h.block i hi fun e=>hM (hm i hi e)⟩
theorem Ext.trans {a b c:World} (h:Ext a b) (k:Ext b c):Ext a c:=Mod.trans h k (fun _ _=>id) (fun _ _=>id)
theorem Ext.then {a b c:World} {M:Nat→Prop} (h:Ext a b) (k:Mod M b c) (hm:∀i,i<a.heap.size→¬M i):Ext a c:=Mod.trans h k (fun _ _=>id) (fun i hi e=>hm i hi e)
theorem Ext.alloc (w:World) (o:Obj):Ext w (w.alloc o):=⟨rfl,rfl,rfl,by simp,fun k hk _=>heap_alloc_old w o hk⟩
theorem Ext.drew (w:World):Ext w w.drew:=⟨rfl,rfl,rfl,ac8 _,fun _ _ _=>rfl⟩
theorem Ext.below {w w':World} (h:Ext w w'):Below w.heap.size w w':=⟨h.os,h.tape,h.output,h.size,fun k hk=>h.block k hk (fun e=>e)⟩
theorem Mod.tJ {w w':World} {row:Option Nat} (h:w.grownBy w' row):Mod (fun k=>row=some k) w w':=⟨h.os,h.tape,h.output,h.size,fun k hk hM=>h.block k hk fun e=>hM e.symm⟩
theorem Mod.heap {M:Nat→Prop} {w w':World} (h:Mod M w w') {g:Nat} {o:Obj} (hg:w.heap[g]?=some o) (hM:¬M g):w'.heap[g]?=some o:=
  (h.block g (adr.1 hg).1 hM).trans hg
theorem Mod.cell {M:Nat→Prop} {w w':World} (h:Mod M w w') {a:Addr} {v:Value} (hc:w.cell? a=some v) (hM:¬M a.block):w'.cell? a=some v:=by
  rw[aeQ (h.block _ (block_lt_of_cell hc) hM),hc]
theorem Mod.setCell {w:World} {p:Addr} (v:Value):Mod (fun k=>k=p.block) w (w.setCell p v):=
  ⟨rfl,rfl,rfl,by simp,fun k _ hM=>heap_setCell_other w p k v hM⟩
def Cells (w:World) (A:Option Addr) (vs:List Value):Prop:=∀(j:Nat) (v:Value),vs[j]?=some v→∃ad,A=some ad∧w.cell? (ad.add j)=some v
theorem Cells.nil (w:World) (A:Option Addr):Cells w A []:=fun j v h=>by simp at h
theorem block_add (a:Addr) (n:Nat):(a.add n).block=a.block:=by unfold ag1;split<;>rfl
theorem add_add (a:Addr) (m k:Nat):(a.add m).add k=a.add (m+k):=by
  unfold ag1
  by_cases hm:m=0<;>by_cases hk:k=0<;>simp[hm,hk,ah1]
theorem Cells.mod {M:Nat→Prop} {w w':World} {A:Option Addr} {vs:List Value} (h:Cells w A vs) (hm:Mod M w w') (hb:∀ad,A=some ad→¬M ad.block):Cells w' A vs:=fun j v hv=>by
  obtain⟨ad,rfl,hc⟩:=h j v hv
  exact⟨ad,rfl,hm.cell hc (by rw[block_add];exact hb ad rfl)⟩
theorem Cells.take {w:World} {A:Option Addr} {vs:List Value} (h:Cells w A vs) (k:Nat):Cells w A (vs.take k):=fun j v hv=>by
  rw[aeg]at hv
  split at hv
  · exact h j v hv
  · cases hv
theorem Cells.drop {w:World} {A:Option Addr} {vs:List Value} (h:Cells w A vs) (k:Nat):Cells w (A.map (·.add k)) (vs.drop k):=fun j v hv=>by
  rw[afN]at hv
  obtain⟨ad,rfl,hc⟩:=h _ v hv
  exact⟨ad.add k,rfl,by rw[add_add];exact hc⟩
section
variable {α:Type} {enc:α→Value}
def Sl (enc:α→Value) (w:World) (v:Value) (l:List α):Prop:=∃A c,v=.slice A l.length c∧l.length≤c∧c≤maxLen∧Cells w A (l.map enc)
theorem Sl.nil (enc:α→Value) (w:World):Sl enc w (.slice none 0 0) []:=⟨none,0,rfl,ac8 _,by unfold maxLen;omega,Cells.nil _ _⟩
theorem Sl.mod {M:Nat→Prop} {w w':World} {v:Value} {l:List α} (h:Sl enc w v l) (hm:Mod M w w') (hb:∀k,v.ownBlock=some k→¬M k):Sl enc w' v l:=by
  obtain⟨A,c,rfl,h1,h2,hc⟩:=h
  refine⟨A,c,rfl,h1,h2,hc.mod hm ?_⟩
  rintro ad rfl
  exact hb _ rfl
theorem Sl.ext {w w':World} {v:Value} {l:List α} (h:Sl enc w v l) (hm:Ext w w'):Sl enc w' v l:=h.mod hm (fun _ _ e=>e)
theorem Sl.bw {w:World} {v:Value} {l:List α} (h:Sl enc w v l):l.length≤9223372036854775807:=by
  obtain⟨A,c,rfl,h1,h2,_⟩:=h;unfold maxLen at h2;omega
theorem Sl.lt {w:World} {v:Value} {l:List α} (h:Sl enc w v l) (hl:l≠[]):∀k,v.ownBlock=some k→k<w.heap.size:=by
  obtain⟨A,c,rfl,h1,h2,hc⟩:=h
  intro k hk
  cases l with
  |nil=>exact absurd rfl hl
  |cons x xs=>
    obtain⟨ad,rfl,hx⟩:=hc 0 (enc x) rfl
    have:=block_lt_of_cell hx
    rw[block_add]at this
    simp[afU]at hk
    omega
def eB (enc:α→Value) (E:TypeId) (w:World) (base:Nat) (v:Value) (l:List α):Prop:=w.ownsRow base E 1 v l.length (l.map enc)
theorem eB.nil (enc:α→Value) (E:TypeId) (w:World) (base:Nat):eB enc E w base (.slice none 0 0) []:=aiE _ _ _ _
theorem eB.sl {E:TypeId} {w:World} {base:Nat} {v:Value} {l:List α} (h:eB enc E w base v l):Sl enc w v l:=by
  rcases h.2 with⟨rfl,h0⟩|⟨g,cap,cur,rfl,hb,hh,h1,h2,h3,h4⟩
  · have : l = [] := adH h0
    subst this
    exact Sl.nil _ _
  · refine ⟨_, cap, rfl, h1, h2, fun j v hv => ⟨_, rfl, ?_⟩⟩
    exact agz h (g:=g) rfl j v hv
theorem eB.mod {E:TypeId} {M:Nat→Prop} {w w':World} {base:Nat} {v:Value} {l:List α} (h:eB enc E w base v l) (hm:Mod M w w') (hb:∀k,v.ownBlock=some k→¬M k):eB enc E w' base v l:=by
  unfold eB aeZ at*
  refine⟨h.1,h.2.imp id ?_⟩
  rintro⟨g,cap,cur,rfl,AJ,hh,hr⟩
  exact⟨g,cap,cur,rfl,AJ,hm.heap hh (hb g rfl),hr⟩
theorem eB.ext {E:TypeId} {w w':World} {base:Nat} {v:Value} {l:List α} (h:eB enc E w base v l) (hm:Ext w w'):eB enc E w' base v l:=h.mod hm (fun _ _ e=>e)
theorem eB.lt {E:TypeId} {w:World} {base:Nat} {v:Value} {l:List α} (h:eB enc E w base v l):∀k,v.ownBlock=some k→base≤k∧k<w.heap.size:=ai3 h
theorem eB.lower {E:TypeId} {w:World} {base nQ:Nat} {v:Value} {l:List α} (h:eB enc E w base v l) (hb:nQ≤base):eB enc E w nQ v l:=by
  unfold eB aeZ at*
  refine⟨h.1,h.2.imp id ?_⟩
  rintro⟨g,cap,cur,rfl,AJ,hr⟩
  exact⟨g,cap,cur,rfl,acU hb AJ,hr⟩
end
section
variable {P:Program} {n:Nat} {Q:fJ} {R:Nat→Value} {w:World} {K:Value→World→Prop} {dst:Option Tmp} {ty:TypeId} {pos:String} {af:Array Edge} {gd:Option (Nat×Bool)}
variable {α:Type} {enc:α→Value}
theorem jq {t:TypeId} {x:Operand} {v:Value} {l:List α} {e:TypeId} (ht:P.underlying t=some (.slice e)) (hs:Sl enc w v l) (hx:ev R x=v):
    Ev P ⟨dst,.call ⟨.builtin .len,#[x],#[t]⟩,ty,pos,af,gd⟩ R w (.int .i64 l.length):=by
  obtain⟨A,c,rfl,_⟩:=hs
  exact JJ ht hx
theorem aQ {t:TypeId} {x:Operand} {v:Value} {l:List α} {e:TypeId} (ht:P.underlying t=some (.slice e)) (hs:Sl enc w v l) (hx:ev R x=v:=by exact rfl):Ev P ⟨dst,.call ⟨.builtin .len,#[x],#[t]⟩,ty,pos,af,gd⟩ R w (.int .i64 l.length):=jq ht hs hx
theorem fa {e:TypeId} {s:Nat} (eI:(P.info? e).map (·.size)=some s):(sizeOf e).run P w=.ok s w:=by
  cases hq:P.info? e with
  |none=>simp[hq]at eI
  |some i=>
    have:i.size=s:=by simpa[hq]using eI
    simp[sizeOf,typeInfo,hq,this]
def dI (v:Value) (m:Nat):Value:=match v with
  |.slice (some ad) _ _=>.pointer (some (ad.add m))
  |_=>.pointer none
theorem jQ {t e : TypeId} {x i : Operand} {v : Value} {l : List α} {k : IntKind} {m : Int} (ht : P.underlying t = some (.slice e)) (eI : (P.info? e).map (·.size) = some 1)
    (hs:Sl enc w v l) (hx:ev R x=v) (hi:ev R i=.int k m) (h0:0≤m) (h1:m<l.length):Ev P ⟨dst,.indexAddr t x i,ty,pos,af,gd⟩ R w (dI v m.toNat):=by
  obtain⟨A,c,rfl,Ie,hm,hc⟩:=hs
  have cD:m.toNat<l.length:=by omega
  obtain⟨ad,rfl,fq⟩:=hc m.toNat (enc l[m.toNat]) (by simp[acM cD])
  have hr:(0≤m∧m<(l.length:Int)):=⟨h0,h1⟩
  simp[Ev,dI,execOp,hx,hi,ah2,asIntOf,run_underlying ht,hr,fa (w:=w) eI]
theorem aC {t e:TypeId} {x i:Operand} {v:Value} {l:List α} {k:IntKind} {m:Int} (ht:P.underlying t=some (.slice e)) (eI:(P.info? e).map (·.size)=some 1) (hs:Sl enc w v l) (hx:ev R x=v:=by exact rfl) (hi:ev R i=.int k m:=by exact rfl) (h0:0≤m:=by omega) (h1:m<l.length:=by omega):Ev P ⟨dst,.indexAddr t x i,ty,pos,af,gd⟩ R w (dI v m.toNat):=jQ ht eI hs hx hi h0 h1
theorem rR {t:TypeId} {p:Addr} {v:Value} {d:TypeDesc} (ht:P.underlying t=some d) (hd:(match d with|.struct _|.array _ _=>false|_=>true)=true) (hc:w.cell? p=some v):
    (loadVar t p).run P w=.ok v w:=by
  have uL:(isAgg t).run P w=.ok false w:=by
    unfold isAgg
    rw[adA,run_underlying ht w]
    cases d<;>simp_all
  simp[loadVar,adA,uL,load,ajk,hc]
theorem yE {t : TypeId} {x : Operand} {p : Addr} {v : Value} {d : TypeDesc} (ht : P.underlying t = some d) (hd : (match d with | .struct _ | .array _ _ => false | _ => true) = true)
    (hx:ev R x=.pointer (some p)) (hc:w.cell? p=some v):Ev P ⟨dst,.load t x,ty,pos,af,gd⟩ R w v:=by
  simp[Ev,execOp,hx,agj,aes,adA,rR ht hd hc]
theorem lO {t : TypeId} {x : Operand} {v : Value} {l : List α} {m : Nat} {d : TypeDesc} (ht : P.underlying t = some d) (hd : (match d with | .struct _ | .array _ _ => false | _ => true) = true)
    (hs:Sl enc w v l) (hx:ev R x=dI v m) (hm:m<l.length):Ev P ⟨dst,.load t x,ty,pos,af,gd⟩ R w (enc l[m]):=by
  obtain⟨A,c,rfl,Ie,Oy,hc⟩:=hs
  obtain⟨ad,rfl,fq⟩:=hc m (enc l[m]) (by simp[acM hm])
  exact yE ht hd hx fq
theorem kA {t : TypeId} {x : Operand} {v : Value} {l : List α} {m : Nat} {a : α} {d : TypeDesc} (ht : P.underlying t = some d) (hd : (match d with | .struct _ | .array _ _ => false | _ => true) = true)
    (hs:Sl enc w v l) (hx:ev R x=dI v m) (hm:l[m]?=some a):Ev P ⟨dst,.load t x,ty,pos,af,gd⟩ R w (enc a):=by
  obtain⟨cD,rfl⟩:=acF.1 hm
  exact lO ht hd hs hx cD
theorem aF {t:TypeId} {x:Operand} {v:Value} {l:List α} {m:Nat} {a:α} {d:TypeDesc} (ht:P.underlying t=some d) (hs:Sl enc w v l) (hm:l[m]?=some a) (hd:(match d with|.struct _|.array _ _=>false|_=>true)=true:=by exact rfl) (hx:ev R x=dI v m:=by exact rfl):Ev P ⟨dst,.load t x,ty,pos,af,gd⟩ R w (enc a):=kA ht hd hs hx hm
theorem zW {t : TypeId} {x y : Operand} {p : Addr} {v u : Value} (eI : (P.info? t).map (·.size) = some 1)
    (hx:ev R x=.pointer (some p)) (hy:ev R y=v) (hv:v.cells=#[v]) (h1:v.oneCell'=true) (hc:w.cell? p=some u) (hf:w.frozen? p=false) (h:K undef (w.setCell p v)):ey P ⟨dst,.store t x y,ty,pos,af,gd⟩ R w K:=by
  refine ey.unit (w':=w.setCell p v) ?_ h
  have h0:p.add 0=p:=rfl
  have fy:(store p v).run P w=.ok () (w.setCell p v):=by
    unfold store
    cases v<;>simp_all [ajk,agC]
  simp[execOp,hx,hy,ah3,aes,storeVar,hv,fa (w:=w) eI,storeCells,h0,fy]
def vY (v:Value) (lo hi:Nat):Value:=match v with
  |.slice A n c=>.slice (if c=lo then A else A.map (·.add (lo*1))) (hi-lo) (c-lo)
  |v=>v
theorem oY {v:Value} {l:List α} (h:Sl enc w v l) (lo hi:Nat):(vY v lo hi).ownBlock=v.ownBlock:=by
  obtain⟨A,c,rfl,_⟩:=h
  simp only[vY]
  split
  · cases A<;>rfl
  · cases A with
    |none=>rfl
    |some ad=>simp[afU,block_add]
theorem Sl.cut {v:Value} {lo hi:Nat} {l:List α} (h:Sl enc w v l) (mJ:lo≤hi) (mY:hi≤l.length):Sl enc w (vY v lo hi) ((l.take hi).drop lo):=by
  obtain⟨A,c,rfl,h1,h2,hc⟩:=h
  have hlen:((l.take hi).drop lo).length=hi-lo:=by simp;omega
  refine⟨_,c-lo,by rw[hlen];rfl,by omega,by omega,?_⟩
  split
  · have : (l.take hi).drop lo = [] := adH (by omega)
    rw[this];exact Cells.nil _ _
  · have := (hc.take hi).drop lo
    rw[ahu]
    simpa[ajp,List.map_drop]using this
theorem Sl.rL {v:Value} {hi:Nat} {l:List α} (h:Sl enc w v l) (mY:hi≤l.length):Sl enc w (vY v 0 hi) (l.take hi):=by simpa using h.cut (adW hi) mY
theorem Sl.kX {v:Value} {lo:Nat} {l:List α} (h:Sl enc w v l) (mJ:lo≤l.length):Sl enc w (vY v lo l.length) (l.drop lo):=by simpa using h.cut mJ (ac8 _)
theorem nM {t e : TypeId} {x hi : Operand} {v : Value} {l : List α} {k' : IntKind} {b : Int} (ht : P.underlying t = some (.slice e)) (eI : (P.info? e).map (·.size) = some 1)
    (hs:Sl enc w v l) (hx:ev R x=v) (mY:ev R hi=.int k' b) (h1:0≤b) (h2:b≤l.length):
    Ev P ⟨dst,.slice t x none (some hi) none,ty,pos,af,gd⟩ R w (vY v 0 b.toNat):=by
  obtain⟨A,c,rfl,Ie,hm,hc⟩:=hs
  have qL:0≤b∧b≤(c:Int):=⟨by omega,by omega⟩
  simp[Ev,vY,execOp,hx,mY,af8,agE,run_underlying ht,afq,afD,asIntOf,qL,fa (w:=w) eI]
theorem kB {t e : TypeId} {x lo : Operand} {v : Value} {l : List α} {k : IntKind} {a : Int} (ht : P.underlying t = some (.slice e)) (eI : (P.info? e).map (·.size) = some 1)
    (hs:Sl enc w v l) (hx:ev R x=v) (mJ:ev R lo=.int k a) (h0:0≤a) (h1:a≤l.length):
    Ev P ⟨dst,.slice t x (some lo) none none,ty,pos,af,gd⟩ R w (vY v a.toNat l.length):=by
  obtain⟨A,c,rfl,Ie,hm,hc⟩:=hs
  have MO:0≤a∧a≤(l.length:Int):=⟨h0,by omega⟩
  simp[Ev,vY,execOp,hx,mJ,af8,agE,run_underlying ht,afq,afD,asIntOf,MO,fa (w:=w) eI]
theorem eB.set {E:TypeId} {base g c:Nat} {l:List α} (h:eB enc E w base (.slice (some ⟨g,0,none⟩) l.length c) l) (j:Nat) (a:α):
    eB enc E (w.setCell ⟨g,j,none⟩ (enc a)) base (.slice (some ⟨g,0,none⟩) l.length c) (l.set j a):=by
  unfold eB aeZ at*
  refine⟨by simp,?_⟩
  rcases h.2 with⟨h0,_⟩|⟨g',cap,cur,he,hb,hh,h1,h2,h3,h4⟩
  · cases h0
  · cases he
    refine .inr ⟨g,c,cur.setIfInBounds j (enc a),by simp,hb,heap_setCell_same w g j cur E (enc a) hh,by simpa using h1,h2,by simpa using h3,?_⟩
    rw[Array.toList_setIfInBounds,List.take_set,adO,h4,List.map_set]
theorem eB.form {E:TypeId} {base:Nat} {v:Value} {l:List α} (h:eB enc E w base v l) (hl:l≠[]):∃g c,v=.slice (some ⟨g,0,none⟩) l.length c∧base≤g:=by
  rcases h.2 with⟨rfl,h0⟩|⟨g,cap,cur,rfl,hb,_⟩
  · exact absurd (adH h0) hl
  · exact⟨g,cap,rfl,hb⟩
theorem rn {t : TypeId} {x y : Operand} {E base : Nat} {v u : Value} {l : List α} {a : α} {m : Nat} (eI : (P.info? t).map (·.size) = some 1)
    (hs:eB enc E w base v l) (hx:ev R x=dI v m) (hm:m<l.length) (hy:ev R y=u) (hu:u=enc a) (hc:(enc a).cells=#[enc a]) (h1:(enc a).oneCell'=true)
    (h:∀w',eB enc E w' base v (l.set m a)→Mod (fun k=>v.ownBlock=some k) w w'→w'.heap.size=w.heap.size→K undef w'):ey P ⟨dst,.store t x y,ty,pos,af,gd⟩ R w K:=by
  obtain⟨g,c,rfl,hb⟩:=hs.form (by intro e;subst e;simp at hm)
  subst hu
  have fq:w.cell? ⟨g,m,none⟩=some (enc l[m]):=by
    have:=agz hs (g:=g) rfl m (enc l[m]) (by simp[acM hm])
    have h0:(⟨g,0,none⟩:Addr).add m=⟨g,m,none⟩:=by unfold ag1;split<;>simp_all
    rwa [h0]at this
  have uB:w.frozen? ⟨g,m,none⟩=false:=by
    rcases hs.2 with⟨h0,_⟩|⟨g',cap,cur,he,_,hh,_⟩
    · cases h0
    · cases he
      simp[World.frozen?,hh]
  refine zW (p:=⟨g,m,none⟩) eI ?_ hy hc h1 fq uB (h _ (hs.set m a) ((Mod.setCell (p:=⟨g,m,none⟩) _).mono fun i _ e=>by simp[afU,e]) (by simp))
  rw[hx]
  simp only[dI]
  congr 2
  unfold ag1;split<;>simp_all
theorem iQ {t e : TypeId} {s x : Operand} {v u : Value} {l m : List α} {z : Value} {bytes base : Nat} (ht : P.underlying t = some (.slice e))
    (gu:(P.info? e).map (fun i=>(i.zero,i.size,i.bytes))=some (some z,1,bytes)) (hz:z.cells.size=1) (h1:∀a,(enc a).oneCell'=true)
    (hs:eB enc e w base v l) (hx:ev R s=v) (hu:Sl enc w u m) (hy:ev R x=u) (hlen:(l.length+m.length)*bytes≤140737488355328) (kx:0<bytes) (Ji:base≤w.heap.size)
    (h:∀v' w',eB enc e w' base v' (l++m)→Mod (fun k=>v.ownBlock=some k) w w'→(v'.ownBlock=v.ownBlock∨v'.ownBlock=some w.heap.size)→K v' w'):
    ey P ⟨dst,.call ⟨.builtin .append,#[s,x],#[t,t]⟩,ty,pos,af,gd⟩ R w K:=by
  obtain⟨A,c,rfl,Ie,hm,hc⟩:=hu
  have CL:∃i,P.info? e=some i∧i.zero=some z∧i.size=1∧i.bytes=bytes:=by
    cases hq:P.info? e with
    |none=>simp[hq]at gu
    |some i=>simp[hq]at gu;exact⟨i,rfl,gu⟩
  obtain⟨i,hi,DN,y9,OQ⟩:=CL
  have Jg:l.length+m.length≤maxLen:=by
    unfold maxLen
    have:(l.length+m.length)*1≤(l.length+m.length)*bytes:=ah6 _ kx
    omega
  by_cases hA:∃ad,A=some ad
  · obtain ⟨ad, rfl⟩ := hA
    obtain ⟨v', w', fy, CE, AB, _, O8⟩ := run_append_own_at (P := P) (w := w) base t ty e i z 1 bytes ht hi DN y9 OQ hz (by omega) v l.length (l.map enc) hs ad m.length c (m.map enc) (by simp)
      (fun j u hj=>by obtain⟨PR,h',fq⟩:=hc j u hj;cases h';exact fq) (by simp;exact fun a _=>h1 a) Jg hlen Ji
    refine ey.value (v:=v') (w':=w') ?_ (h v' w' ?_ (Mod.tJ AB) O8)
    · simp[execOp,resolve,invoke,builtin,hx,hy,fy]
    · unfold eB;simpa using CE
  · have TS:A=none:=by cases A with
      |none=>rfl
      |some ad=>exact absurd ⟨ad,rfl⟩ hA
    subst TS
    have kF:m=[]:=by
      cases m with
      |nil=>rfl
      |cons a r=>obtain⟨ad,h',_⟩:=hc 0 (enc a) rfl;cases h'
    subst kF
    have XO:=hs
    have fy:(agk #[t,t] ty #[v,.slice none 0 c]).run P w=.ok v w:=by
      obtain⟨A',c',rfl,OG,hm',_⟩:=hs.sl
      have hn:¬(∃q,TypeDesc.slice e=.int q):=fun⟨q,hq⟩=>by cases hq
      have hle:l.length≤c':=OG
      cases A'<;>simp[agk,run_underlying ht,sizeOf,typeInfo,hi,y9,ajq,ah9,hle,storeCells]
    refine ey.value (v:=v) (w':=w) ?_ (h v w (by simpa using hs) (Mod.refl _ _) (.inl rfl))
    simp only[acS]at hy
    simp[execOp,resolve,invoke,builtin,hx,hy,fy]
end
end Go.Rl
namespace Go.Rl
open Go.RowKit
def vb (b:UInt8):Value:=.int .u8 (b.toNat:Int)
def str (l:List UInt8):Value:=.string ⟨l.toArray⟩
theorem Gp (b:UInt8):(vb b).cells=#[vb b]:=rfl
theorem oJ (b:UInt8):(vb b).oneCell'=true:=rfl
theorem GA (s:ByteArray):Value.string s=str s.data.toList:=by unfold str;simp
section
variable {P:Program} {n:Nat} {Q:fJ} {R:Nat→Value} {w:World} {K:Value→World→Prop} {dst:Option Tmp} {ty:TypeId} {pos:String} {af:Array Edge} {gd:Option (Nat×Bool)}
variable {α:Type} {enc:α→Value}
theorem Cells.load {A:Addr} {vs:List Value} (h:Cells w (some A) vs):(loadCells A vs.length).run P w=.ok vs.toArray w:=
  run_loadCells_list (P:=P) w A vs fun j v hv=>by obtain⟨ad,e,hc⟩:=h j v hv;cases e;exact hc
theorem foldl_push (l:List UInt8):∀s:ByteArray,(l.map fun b=>(b.toNat:Int)).foldl (fun r n=>r.push (aeV n.toNat)) s=⟨s.data++l.toArray⟩:=by
  induction l with
  |nil=>intro s;simp
  |cons b r ih=>intro s;simp only[adq,aja,ih];simp[ByteArray.push]
theorem Es {src dt e:TypeId} {v:Value} {l:List UInt8} (hs:P.underlying src=some (.slice e)) (he:P.underlying e=some (.int .u8)) (hd:P.underlying dt=some .string) (h:Sl vb w v l):
    (convert src dt v).run P w=.ok (str l) w:=by
  obtain⟨A,c,rfl,Ie,hm,hc⟩:=h
  rw[run_convert_bytes_string w src dt e A l.length c hs he hd]
  cases A with
  |none=>
    cases l with
    |nil=>rfl
    |cons b r=>obtain⟨ad,h,_⟩:=hc 0 (vb b) rfl;cases h
  |some a=>
    have h1:(loadCells a l.length).run P w=.ok ((l.map fun b=>(b.toNat:Int)).map (ac4 .u8)).toArray w:=by
      have:=Cells.load (P:=P) hc
      rw[ada]at this
      rw[this,aeI]
      rfl
    rw[run_bytesToString w a l.length c _ h1,foldl_push]
    simp[str]
theorem kz {src dt e : TypeId} {x : Operand} {v : Value} {l : List UInt8} (hs : P.underlying src = some (.slice e)) (he : P.underlying e = some (.int .u8)) (hd : P.underlying dt = some .string)
    (h:Sl vb w v l) (hx:ev R x=v):Ev P ⟨dst,.convert src dt x,ty,pos,af,gd⟩ R w (str l):=by
  simp[Ev,execOp,hx,Es hs he hd h]
theorem Cm (bs:ByteArray):∀(k i:Nat) (r:List UInt8),bs.size-i=k→agf bs i r=r.reverse++bs.data.toList.drop i:=by
  intro k
  induction k with
  |zero=>
    intro i r hk
    rw[agf,if_neg (by omega)]
    rw[aeW (by simp only[ah7];exact Nat.le_of_sub_eq_zero hk)]
    simp
  |succ k ih=>
    intro i r hk
    have cD:i<bs.size:=by omega
    rw[agf,if_pos cD,ih (i+1) _ (by omega)]
    have hl:i<bs.data.toList.length:=by simp only[ah7];exact cD
    rw[aeM hl]
    have:bs.get! i=bs.data.toList[i]:=by
      cases bs with
      |mk d=>
        have hd:i<d.size:=cD
        simp[ByteArray.get!,getElem!_pos d i hd]
    simp[this]
theorem xy (l:List UInt8):(⟨l.toArray⟩:ByteArray).toList=l:=by
  unfold ByteArray.toList
  rw[Cm _ _ 0 [] rfl]
  simp
theorem uR {xt yt:TypeId} {x y:Operand} {a b:List UInt8} (hx:ev R x=str a) (hy:ev R y=str b):Ev P ⟨dst,.binOp .neq xt x y yt,ty,pos,af,gd⟩ R w (.bool (decide (¬a=b))):=by
  simp only[Ev,execOp,hx,hy,str]
  simp[eqGuard,binOp,Op.stringOp,xy]
  by_cases h:a=b<;>simp[h]
theorem JI {t:TypeId} {x:Operand} {l:List UInt8} (ht:P.underlying t=some .string) (hx:ev R x=str l):
    Ev P ⟨dst,.call ⟨.builtin .len,#[x],#[t]⟩,ty,pos,af,gd⟩ R w (.int .i64 l.length):=by
  have:=Fw (P:=P) (dst:=dst) (ty:=ty) (pos:=pos) (af:=af) (gd:=gd) (w:=w) ht hx
  simpa[ahJ]using this
def ij (w:World) (g:Nat) (cs:List Value) (T:TypeId):Prop:=w.heap[g]?=some (.cells cs.toArray T (0,0))
theorem ij.mod {M:Nat→Prop} {w':World} {g:Nat} {cs:List Value} {T:TypeId} (h:ij w g cs T) (hm:Mod M w w') (hM:¬M g):ij w' g cs T:=hm.heap h hM
theorem ij.ext {w':World} {g:Nat} {cs:List Value} {T:TypeId} (h:ij w g cs T) (hm:Ext w w'):ij w' g cs T:=hm.heap h (fun e=>e)
theorem ij.lt {g:Nat} {cs:List Value} {T:TypeId} (h:ij w g cs T):g<w.heap.size:=(adr.1 h).1
theorem ij.cell {g:Nat} {cs:List Value} {T:TypeId} (h:ij w g cs T) (j:Nat):w.cell? ⟨g,j,none⟩=cs[j]?:=by rw[cell_of_row w g j _ T (0,0) h];simp
theorem ij.free {g:Nat} {cs:List Value} {T:TypeId} (h:ij w g cs T) (j:Nat):w.frozen? ⟨g,j,none⟩=false:=frozen_of_row w g j _ T h
theorem ij.new (w:World) (cs:Array Value) (T:TypeId):ij (w.alloc (.cells cs T)) w.heap.size cs.toList T:=by unfold ij;rw[heap_alloc_new]
theorem Kj (g j:Nat):(⟨g,0,none⟩:Addr).add j=⟨g,j,none⟩:=by unfold ag1;split<;>simp_all
theorem Ti (g i j:Nat):(⟨g,i,none⟩:Addr).add j=⟨g,i+j,none⟩:=by unfold ag1;split<;>simp_all
theorem pB {t : TypeId} {z : Value} {cs : List Value} (hz : (P.info? t).map (·.zero) = some (some z)) (hc : z.cells = cs.toArray)
    (h:∀w',ij w' w.heap.size cs t→Ext w w'→w'.heap.size=w.heap.size+1→K (.pointer (some ⟨w.heap.size,0,none⟩)) w'):ey P ⟨dst,.alloc t,ty,pos,af,gd⟩ R w K:=by
  have Cw:(zeroValue t).run P w=.ok z w:=by
    cases hq:P.info? t with
    |none=>simp[hq]at hz
    |some i=>
      have:i.zero=some z:=by simpa[hq]using hz
      simp[zeroValue,typeInfo,hq,this]
  refine ey.value (v:=.pointer (some ⟨w.heap.size,0,none⟩)) (w':=w.alloc (.cells z.cells t)) ?_ (h _ ?_ (Ext.alloc _ _) (by simp))
  · simp[execOp,Instr.alloc,Cw,newVar,newRow]
  · have := ij.new w z.cells t
    rwa [hc]at this ⊢
theorem Ha {t : TypeId} {x : Operand} {v : Value} {cs : List Value} (hx : ev R x = v) (hc : v.cells = cs.toArray)
    (h:∀w',ij w' w.heap.size cs t→Ext w w'→w'.heap.size=w.heap.size+1→K (.pointer (some ⟨w.heap.size,0,none⟩)) w'):ey P ⟨dst,.box t x,ty,pos,af,gd⟩ R w K:=by
  refine ey.value (v:=.pointer (some ⟨w.heap.size,0,none⟩)) (w':=w.alloc (.cells v.cells t)) ?_ (h _ ?_ (Ext.alloc _ _) (by simp))
  · simp[execOp,hx,Instr.box,newVar,newRow]
  · have := ij.new w v.cells t
    rwa [hc]at this ⊢
theorem ij.set {g:Nat} {cs:List Value} {T:TypeId} (h:ij w g cs T) (j:Nat) (v:Value):ij (w.setCell ⟨g,j,none⟩ v) g (cs.set j v) T:=by
  unfold ij at*
  rw[heap_setCell_same w g j _ T v h]
  simp
theorem lG {t : TypeId} {x y : Operand} {g j : Nat} {v : Value} {cs : List Value} {T : TypeId} (eI : (P.info? t).map (·.size) = some 1)
    (hx:ev R x=.pointer (some ⟨g,j,none⟩)) (hy:ev R y=v) (hv:v.cells=#[v]) (h1:v.oneCell'=true) (hb:ij w g cs T) (hj:j<cs.length)
    (h:∀w',ij w' g (cs.set j v) T→Mod (fun k=>k=g) w w'→w'.heap.size=w.heap.size→K undef w'):ey P ⟨dst,.store t x y,ty,pos,af,gd⟩ R w K:=
  zW eI hx hy hv h1 (u:=cs[j]) (by rw[hb.cell,acM hj]) (hb.free j) (h _ (hb.set j v) (Mod.setCell (p:=⟨g,j,none⟩) v) (by simp))
theorem ns {t : TypeId} {x y : Operand} {g : Nat} {v : Value} {cs vs : List Value} {T : TypeId} (eI : (P.info? t).map (·.size) = some vs.length)
    (hx:ev R x=.pointer (some ⟨g,0,none⟩)) (hy:ev R y=v) (hv:v.cells=vs.toArray) (h1:∀u∈vs,u.oneCell'=true) (hb:ij w g cs T) (hl:vs.length=cs.length)
    (h:∀w',ij w' g vs T→Mod (fun k=>k=g) w w'→w'.heap.size=w.heap.size→K undef w'):ey P ⟨dst,.store t x y,ty,pos,af,gd⟩ R w K:=by
  have fx:(storeCells ⟨g,0,none⟩ vs).run P w=.ok () (w.setRow g vs.toArray):=by
    have:=run_storeCells_from (P:=P) g T vs 0 cs.toArray w hb (by simp[hl]) h1
    simpa using this
  refine ey.unit (w':=w.setRow g vs.toArray) ?_ (h _ (setRow_heap w g _ _ T _ hb) ⟨rfl,rfl,rfl,by simp,fun k hk hM=>setRow_other w g k _ hM⟩ (by simp))
  simp[execOp,hx,hy,ah3,aes,storeVar,hv,fa (w:=w) eI,fx]
theorem C2 {t : TypeId} {x : Operand} {g : Nat} {cs : List Value} {T : TypeId} {d : TypeDesc} (hu : P.underlying t = some d) (hd : (match d with | .struct _ | .array _ _ => true | _ => false) = true)
    (eI:(P.info? t).map (·.size)=some cs.length) (hx:ev R x=.pointer (some ⟨g,0,none⟩)) (hb:ij w g cs T):Ev P ⟨dst,.load t x,ty,pos,af,gd⟩ R w (.agg cs.toArray):=by
  have:=run_loadVar_row (P:=P) w g T t cs.toArray (0,0) d hb hu hd (by simpa using eI)
  simp[Ev,execOp,hx,agj,aes,this]
theorem aE {t:TypeId} {x:Operand} {g:Nat} {cs:List Value} {T:TypeId} {d:TypeDesc} (hu:P.underlying t=some d) (eI:(P.info? t).map (·.size)=some cs.length) (hb:ij w g cs T) (hd:(match d with|.struct _|.array _ _=>true|_=>false)=true:=by exact rfl) (hx:ev R x=.pointer (some ⟨g,0,none⟩):=by exact rfl):Ev P ⟨dst,.load t x,ty,pos,af,gd⟩ R w (.agg cs.toArray):=C2 hu hd eI hx hb
theorem A5 {t : TypeId} {x : Operand} {g j : Nat} {v : Value} {cs : List Value} {T : TypeId} {d : TypeDesc} (ht : P.underlying t = some d) (hd : (match d with | .struct _ | .array _ _ => false | _ => true) = true)
    (hx:ev R x=.pointer (some ⟨g,j,none⟩)) (hb:ij w g cs T) (hj:cs[j]?=some v):Ev P ⟨dst,.load t x,ty,pos,af,gd⟩ R w v:=yE ht hd hx (by rw[hb.cell,hj])
theorem aj {t:TypeId} {x:Operand} {g j:Nat} {v:Value} {cs:List Value} {T:TypeId} {d:TypeDesc} (ht:P.underlying t=some d) (hb:ij w g cs T) (hd:(match d with|.struct _|.array _ _=>false|_=>true)=true:=by exact rfl) (hx:ev R x=.pointer (some ⟨g,j,none⟩):=by exact rfl) (hj:cs[j]?=some v:=by exact rfl):Ev P ⟨dst,.load t x,ty,pos,af,gd⟩ R w v:=A5 ht hd hx hb hj
theorem rJ {t e : TypeId} {x i : Operand} {g len : Nat} {k : IntKind} {m : Int} (ht : P.underlying t = some (.array len e)) (eI : (P.info? e).map (·.size) = some 1)
    (hx:ev R x=.pointer (some ⟨g,0,none⟩)) (hi:ev R i=.int k m) (h0:0≤m) (h1:m<len):Ev P ⟨dst,.indexAddr t x i,ty,pos,af,gd⟩ R w (.pointer (some ⟨g,m.toNat,none⟩)):=by
  have hr:(0≤m∧m<(len:Int)):=⟨h0,h1⟩
  simp[Ev,execOp,hx,hi,ah2,aes,asIntOf,run_underlying ht,hr,fa (w:=w) eI,Kj]
theorem yF {t : TypeId} {x : Operand} {g j f : Nat} {fs : Array Field} {fd : Field} (ht : P.underlying t = some (.struct fs)) (hf : fs[f]? = some fd) {s : Nat} (eI : (P.info? fd.type).map (·.size) = some s) (hs : s ≠ 0)
    (hx:ev R x=.pointer (some ⟨g,j,none⟩)):Ev P ⟨dst,.fieldAddr t x f,ty,pos,af,gd⟩ R w (.pointer (some ⟨g,j+fd.offset,none⟩)):=by
  simp[Ev,execOp,hx,ajr,aes,run_underlying ht,hf,fieldPlace,fa (w:=w) eI,hs,Ti]
theorem ah {t:TypeId} {x:Operand} {g j f:Nat} {fs:Array Field} {fd:Field} (ht:P.underlying t=some (.struct fs)) (hf:fs[f]?=some fd) {s:Nat} (eI:(P.info? fd.type).map (·.size)=some s) (hs:s≠0:=by decide) (hx:ev R x=.pointer (some ⟨g,j,none⟩):=by exact rfl):Ev P ⟨dst,.fieldAddr t x f,ty,pos,af,gd⟩ R w (.pointer (some ⟨g,j+fd.offset,none⟩)):=yF ht hf eI hs hx
theorem xS {t e : TypeId} {len : Nat} {parts : Array (Nat × Operand)} {xs : List Operand} {l : List α} (ht : P.underlying t = some (.slice e)) (eI : (P.info? e).map (·.size) = some 1)
    (hz:((P.info? e).bind (·.zero)).isSome=true) (ue:parts.toList=(xs.zipIdx 0).map fun x=>(x.2,x.1)) (hv:xs.map (ev R)=l.map enc) (hc:∀a,(enc a).cells=#[enc a])
    (hlen:len=l.length) (iF:0<len) (CD:len≤2^24)
    (h:∀w',eB enc e w' w.heap.size (.slice (some ⟨w.heap.size,0,none⟩) len len) l→ij w' w.heap.size (l.map enc) e→Ext w w'→w'.heap.size=w.heap.size+1→K (.slice (some ⟨w.heap.size,0,none⟩) len len) w'):
    ey P ⟨dst,.buildSlice t len parts,ty,pos,af,gd⟩ R w K:=by
  cases uj:P.info? e with
  |none=>simp[uj]at eI
  |some ie=>
    simp only[uj,aeF,aeC,ai4]at eI hz
    obtain⟨z,Uk⟩:=ag2.1 hz
    have UZ:(parts.map fun(i,x)=>(i,ev R x)).toList=((l.map enc).zipIdx 0).map fun x=>(x.2,x.1):=by
      rw[aga,ue,←hv,List.zipIdx_map,aeI,aeI]
      rfl
    have hf:ae2 (fun i=>some (i*ie.size,ie.size)) ((aiM (len*ie.size)).map (z.cells[·%z.cells.size]!)) (parts.map fun(i,x)=>(i,ev R x)).toList=some (l.map enc).toArray:=by
      rw[UZ,eI]
      exact Great.fill_flat _ _ (fun v hv=>by obtain⟨a,_,rfl⟩:=adg.1 hv;exact hc a) (by simp[hlen])
    have fy:=run_buildSlice (P:=P) w t e len (parts.map fun(i,x)=>(i,ev R x)) _ ie z ht uj Uk (by rw[eI];omega) (by rw[eI];omega) hf
    refine ey.value (v:=.slice (some ⟨w.heap.size,0,none⟩) len len) (w':=w.alloc (.cells (l.map enc).toArray e)) ?_ (h _ ?_ ?_ (Ext.alloc _ _) (by simp))
    · simp[execOp,fy]
    · unfold eB
      subst hlen
      refine⟨by simp,.inr ⟨w.heap.size,l.length,(l.map enc).toArray,rfl,ac8 _,?_,ac8 _,by unfold maxLen;omega,by simp,?_⟩⟩
      · rw[heap_alloc_new]
      · rw[ac2 (by simp)]
    · have := ij.new w (l.map enc).toArray e
      simpa using this
theorem AV (w:World) (b:Addr) (m:Nat) (a:Addr):(w.freeze b m).cell? a=w.cell? a:=by
  unfold aia
  by_cases hm:m=0
  · rw[if_pos hm]
  · rw [if_neg hm]
    simp only[World.cell?,ahK]
    by_cases h2:b.block=a.block
    · rw [if_pos h2]
      cases hq:w.heap[a.block]? with
      |none=>simp
      |some o=>cases o<;>simp
    · rw[if_neg h2]
theorem C0 (w:World) (b:Addr) (m:Nat):Mod (fun k=>k=b.block) w (w.freeze b m):=by
  unfold aia
  by_cases hm:m=0
  · rw[if_pos hm];exact Mod.refl _ _
  · rw [if_neg hm]
    refine⟨rfl,rfl,rfl,by simp,fun k hk hM=>?_⟩
    simp only[ahK];rw[if_neg (fun e=>hM e.symm)]
theorem AU (w:World) (b:Addr) (m:Nat):(w.freeze b m).heap.size=w.heap.size:=by unfold aia;split<;>simp
theorem zX {t e : TypeId} {x : Operand} {v : Value} {l : List α} (ht : P.underlying t = some (.slice e)) (he : P.underlying e = some (.int .u8)) (hs : Sl enc w v l) (hx : ev R x = v) {ad : Addr} {m c : Nat} (hv : v = .slice (some ad) m c)
    (h:∀w',Sl enc w' v l→Mod (fun k=>v.ownBlock=some k) w w'→w'.heap.size=w.heap.size→K v w'):ey P ⟨dst,.convert t t x,ty,pos,af,gd⟩ R w K:=by
  have key:∃w',(markStringish ad).run P w=.ok () w'∧(∀a,w'.cell? a=w.cell? a)∧Mod (fun k=>k=ad.block) w w'∧w'.heap.size=w.heap.size:=by
    unfold markStringish
    cases hq:w.shape? ad.block with
    |none=>exact⟨w,by simp[shape,ajk,hq],fun _=>rfl,Mod.refl _ _,rfl⟩
    |some p=>
      obtain⟨e',k⟩:=p
      exact⟨w.freeze ⟨ad.block,k,none⟩ 1,by simp[shape,freeze,ajk,hq],AV _ _ _,C0 w ⟨ad.block,k,none⟩ 1,AU _ _ _⟩
  obtain⟨w',fy,fq,U8,eI⟩:=key
  subst hv
  refine ey.value (v:=.slice (some ad) m c) (w':=w') ?_ (h w' ?_ (U8.mono fun i _ e=>by simp[afU,e]) eI)
  · simp[execOp,hx,convert,run_underlying ht,run_underlying he,fy]
  · obtain ⟨A, c', he', h1, h2, hc⟩ := hs
    cases he'
    exact⟨_,_,rfl,h1,h2,fun j v hv=>by obtain⟨PR,ha,vS⟩:=hc j v hv;exact⟨PR,ha,by rw[fq];exact vS⟩⟩
end
end Go.Rl
namespace Go.Rl
open Go.ChangeShapes Go.WideShapes
section
variable {H:Type} {enc:TypeId×Value→H} {P:Program} {W:World} {base:Nat} {held:Bool} {t e:TypeId} {d:DataW H} {ps:List MemPlace} {ts:List TypeId} {ds:List (DataW H)} {j:Nat} {v:Value}
theorem wf_u8 {a:Int} (h:(ajl .u8 a).wf=true):0≤a∧a<256:=by simp[Lit.wf,aku,akv,adZ,ad0]at h;omega
theorem wf_i64 {a:Int} (h:(ajl .i64 a).wf=true): -9223372036854775808≤a∧a≤9223372036854775807:=by simp[Lit.wf,aku,akv,adZ,ad0]at h;omega
end
end Go.Rl
namespace Go.Rl
open Go.RowKit
section
variable {P:Program} {n:Nat} {Q:fJ} {R:Nat→Value} {w:World} {K:Value→World→Prop} {dst:Option Tmp} {ty:TypeId} {pos:String} {af:Array Edge} {gd:Option (Nat×Bool)}
variable {α:Type} {enc:α→Value}
theorem yD {x y:Operand} {k:IntKind} {a b:Int} {qb:Array TypeId} (hx:ev R x=.int k a) (hy:ev R y=.int k b):Ev P ⟨dst,.call ⟨.builtin .min,#[x,y],qb⟩,ty,pos,af,gd⟩ R w (.int k (min a b)):=by
  have h:(if b<a then b else a)=min a b:=by omega
  simp[Ev,execOp,resolve,invoke,builtin,ajA,ajB,hx,hy,h]
theorem uS {x y:Operand} {k:IntKind} {a b:Int} {qb:Array TypeId} (hx:ev R x=.int k a) (hy:ev R y=.int k b):Ev P ⟨dst,.call ⟨.builtin .max,#[x,y],qb⟩,ty,pos,af,gd⟩ R w (.int k (max a b)):=by
  have h:(if a<b then b else a)=max a b:=by omega
  simp[Ev,execOp,resolve,invoke,builtin,Builtin.max_,Builtin.max2,hx,hy,h]
theorem tS (z:Value) (m:Nat):(madeCells #[z] m)=(ac3 m z).toArray:=by
  have:=toList_madeCells_one z m
  rw[←this]
theorem Dw {t e : TypeId} {x : Operand} {z : α} {bytes : Nat} {k : IntKind} {m : Int} (ht : P.underlying t = some (.slice e)) (gu : (P.info? e).map (fun i => (i.zero, i.size, i.bytes)) = some (some (enc z), 1, bytes)) (hz : (enc z).cells = #[enc z])
    (hx:ev R x=.int k m) (h0:0≤m) (kx:bytes*m.toNat≤281474976710656) (YG:m≤9223372036854775807)
    (h:∀w',eB enc e w' w.heap.size (.slice (some ⟨w.heap.size,0,none⟩) m.toNat m.toNat) (ac3 m.toNat z)→ij w' w.heap.size (ac3 m.toNat (enc z)) e→Ext w w'→w'.heap.size=w.heap.size+1→K (.slice (some ⟨w.heap.size,0,none⟩) m.toNat m.toNat) w'):
    ey P ⟨dst,.makeSlice t x x,ty,pos,af,gd⟩ R w K:=by
  obtain⟨j,rfl⟩:∃j:Nat,m=j:=⟨m.toNat,by omega⟩
  rw[aek]at*
  have fy:=run_make_row' (P:=P) t e (enc z) bytes ht gu hz k k j kx (by omega) w
  rw[tS]at fy
  refine ey.value (v:=.slice (some ⟨w.heap.size,0,none⟩) j j) (w':=w.alloc (.cells (ac3 j (enc z)).toArray e)) ?_ (h _ ?_ ?_ (Ext.alloc _ _) (by simp))
  · simp[execOp,hx,fy]
  · unfold eB
    refine⟨by simp,.inr ⟨w.heap.size,j,(ac3 j (enc z)).toArray,by simp,ac8 _,?_,by simp,by unfold maxLen;omega,by simp,?_⟩⟩
    · rw[heap_alloc_new]
    · rw[ac2 (by simp)];simp
  · have := ij.new w (ac3 j (enc z)).toArray e
    simpa using this
theorem xT {t tu e : TypeId} {s x : Operand} {v : Value} {l m : List UInt8} {base : Nat} (ht : P.underlying t = some (.slice e)) (ZK : P.underlying tu = some .string)
    (gu:(P.info? e).map (fun i=>(i.zero,i.size,i.bytes))=some (some (.int .u8 0),1,1)) (hs:eB vb e w base v l) (hx:ev R s=v) (hy:ev R x=str m)
    (hlen:l.length+m.length≤140737488355328) (Ji:base≤w.heap.size)
    (h:∀v' w',eB vb e w' base v' (l++m)→Mod (fun k=>v.ownBlock=some k) w w'→K v' w'):
    ey P ⟨dst,.call ⟨.builtin .append,#[s,x],#[t,tu]⟩,ty,pos,af,gd⟩ R w K:=by
  have CL:∃i,P.info? e=some i∧i.zero=some (.int .u8 0)∧i.size=1∧i.bytes=1:=by
    cases hq:P.info? e with
    |none=>simp[hq]at gu
    |some i=>simp[hq]at gu;exact⟨i,rfl,gu⟩
  obtain⟨i,hi,DN,y9,OQ⟩:=CL
  have eI:(⟨m.toArray⟩:ByteArray).size=m.length:=by simp[ahJ]
  obtain⟨v',w',fy,CE,AB,_⟩:=Lib.run_append_own_string (P:=P) (w:=w) base t tu ty e i ht ZK hi DN y9 OQ v l.length (l.map vb) hs ⟨m.toArray⟩ (by unfold maxLen;omega) (by omega) Ji
  have O2:Lib.strCells ⟨m.toArray⟩=m.map vb:=by simp[Lib.strCells,vb]
  refine ey.value (v:=v') (w':=w') ?_ (h v' w' ?_ (Mod.tJ AB))
  · simp only [execOp, resolve, invoke, builtin, ad3, adq, aee, hx, hy, str]
    simp[fy]
  · unfold eB
    rw[eI,O2]at CE
    simpa using CE
theorem A3 {x:Operand} {a:Addr} (hx:ev R x=.pointer (some a)):Ev P ⟨dst,.nilCheck x,ty,pos,af,gd⟩ R w (.pointer (some a)):=by simp[Ev,execOp,hx]
theorem bM {x:Operand} {a:Addr} (hx:ev R x=.pointer (some a):=by exact rfl):Ev P ⟨dst,.nilCheck x,ty,pos,af,gd⟩ R w (.pointer (some a)):=A3 hx
theorem Et {t e:TypeId} {p:Option Addr} (ht:P.underlying t=some (.pointer e)):(Op.equal t (.pointer p) (.pointer none)).run P w=.ok (decide (p=none)) w:=by
  show(ahT (9999+1) t (.pointer p) (.pointer none)).run P w=_
  generalize 9999=d
  cases p<;>simp[ahT,run_underlying ht]
theorem jP {xt yt e:TypeId} {x y:Operand} {p:Option Addr} (ht:P.underlying xt=some (.pointer e)) (hx:ev R x=.pointer p) (hy:ev R y=.pointer none):
    Ev P ⟨dst,.binOp .eql xt x y yt,ty,pos,af,gd⟩ R w (.bool (decide (p=none))):=by
  have h:=Et (w:=w) (p:=p) ht
  simp only[Ev,execOp,hx,hy,eqGuard,binOp]
  simp[h]
theorem EI {f : FuncId} {fn : Func} {qb : Array TypeId} {x fv : Operand} {v1 : Value} {first captured : Array Value} (hf : P.funcs[f]? = some fn) (hn : (fn.name == "runtime.NumGoroutine") = false) (hb : fn.body.isSome = true)
    (I4:ev R fv=.func (.func f) first captured) (hx:ev R x=v1) (h:aM P f (first++#[v1]++captured) w K):ey P ⟨dst,.call ⟨.value fv,#[x],qb⟩,ty,pos,af,gd⟩ R w K:=
  ey.enter (f:=f) (args:=first++#[v1]++captured) (w':=w) (by
    subst hx
    have:=ei (P:=P) (w:=w) (first++#[ev R x]++captured) hf hn hb
    simp only[execOp,resolve,I4,aei,ad3,adq,aee,adA,aer,adJ,invoke]
    exact this) h
theorem wP {f : FuncId} {fn : Func} {qb : Array TypeId} {x fv : Operand} {v1 : Value} (hf : P.funcs[f]? = some fn) (hn : (fn.name == "runtime.NumGoroutine") = false) (hb : fn.body.isSome = true)
    (I4:ev R fv=.func (.func f) #[] #[]) (hx:ev R x=v1) (h:aM P f #[v1] w K):ey P ⟨dst,.call ⟨.value fv,#[x],qb⟩,ty,pos,af,gd⟩ R w K:=EI hf hn hb I4 hx h
theorem A7 {t : TypeId} {parts : Array (Nat × Operand)} {ps : List (Nat × Value)} {z : Value} {fs : Array Field} {places : Array (Nat × Nat)} {cs : List Value} (ht : P.underlying t = some (.struct fs)) (hz : (P.info? t).map (·.zero) = some (some z))
    (Oj:∀w,(fs.mapM fun(f:Field)=>do pure (f.offset,←sizeOf f.type)).run P w=.ok places w) {pl:List (Nat×Operand)} (hp:parts.toList=pl) (E7:(pl.map fun(i,x)=>(i,ev R x))=ps) (hf:ae2 (places[·]?) z.cells ps=some cs.toArray):
    Ev P ⟨dst,.build t parts,ty,pos,af,gd⟩ R w (.agg cs.toArray):=by
  have Cw:(zeroValue t).run P w=.ok z w:=by
    cases hq:P.info? t with
    |none=>simp[hq]at hz
    |some i=>
      have:i.zero=some z:=by simpa[hq]using hz
      simp[zeroValue,typeInfo,hq,this]
  have Oi:(parts.map fun(i,x)=>(i,ev R x)).toList=ps:=by rw[aga,hp,E7]
  simp only[Ev,execOp,akw,adA,Cw,adJ,run_underlying ht,Oj,Oi,hf,aer]
theorem FA {t e : TypeId} {x hi : Operand} {v : Value} {l : List α} {k : IntKind} {b : Int} (ht : P.underlying t = some (.slice e)) (eI : (P.info? e).map (·.size) = some 1)
    (hs:Sl enc w v l) (hx:ev R x=v) (mY:ev R hi=.int k b) {mx:Operand} (Oy:ev R mx=.int k b) (h1:0≤b) (h2:b≤l.length):
    Ev P ⟨dst,.slice t x none (some hi) (some mx),ty,pos,af,gd⟩ R w (match v with|.slice A _ _=>.slice (if b.toNat=0 then A else A.map (·.add (0*1))) b.toNat b.toNat|v=>v):=by
  obtain⟨A,c,rfl,Ie,hm,hc⟩:=hs
  have qL:0≤b∧b≤(c:Int):=⟨by omega,by omega⟩
  have MN:0≤b∧b≤max b 0:=⟨by omega,by omega⟩
  simp[Ev,execOp,hx,mY,Oy,af8,agE,run_underlying ht,afq,afD,asIntOf,qL,MN,fa (w:=w) eI]
def FH (v:Value) (hi:Nat):Value:=match v with
  |.slice A _ _=>.slice A hi hi
  |v=>v
theorem PI {t e : TypeId} {x hi : Operand} {v : Value} {l : List α} {k : IntKind} {b : Int} (ht : P.underlying t = some (.slice e)) (eI : (P.info? e).map (·.size) = some 1)
    (hs:Sl enc w v l) (hx:ev R x=v) (mY:ev R hi=.int k b) {mx:Operand} (Oy:ev R mx=.int k b) (h1:0≤b) (h2:b≤l.length):
    Ev P ⟨dst,.slice t x none (some hi) (some mx),ty,pos,af,gd⟩ R w (FH v b.toNat):=by
  have h:=FA (dst:=dst) (ty:=ty) (pos:=pos) (af:=af) (gd:=gd) ht eI hs hx mY Oy h1 h2
  obtain⟨A,c,rfl,Ie,hm,hc⟩:=hs
  have e0:(if b.toNat=0 then A else A.map (·.add (0*1)))=A:=by
    split
    · rfl
    · cases A<;>rfl
  simp only[e0]at h
  exact h
theorem Sl.FH {v:Value} {hi:Nat} {l:List α} (h:Sl enc w v l) (mY:hi≤l.length):Sl enc w (FH v hi) (l.take hi):=by
  obtain⟨A,c,rfl,h1,h2,hc⟩:=h
  have hlen:(l.take hi).length=hi:=by simp;omega
  refine⟨A,hi,by rw[hlen];rfl,by omega,by omega,?_⟩
  have:=hc.take hi
  simpa[ajp]using this
theorem C8 {v:Value} {l:List α} (h:Sl enc w v l) (hi:Nat):(Rl.FH v hi).ownBlock=v.ownBlock:=by
  obtain⟨A,c,rfl,_⟩:=h
  cases A<;>rfl
end
theorem og {n:Nat} {R:Nat→Value} {ops:Array Oper} {a:Act} (ha:AtR n R a) {j d:Nat} (hj:(ops[j]?).bind (·.dst)=some d) (mS:d<n) (hb:R d=undef):yielded ops a.tmps j=none:=by
  have h1:a.tmps[d]?=some undef:=by
    have:=ha.lD d
    have hl:d<a.tmps.size:=by rw[ha.size];exact mS
    simp[hl]at this
    simp[hl,this,hb]
  simp[yielded,hj,h1,undef]
theorem RL.NR {P : Program} {n : Nat} {Q : fJ} {R : Nat → Value} {w : World} {ops : Array Oper} {o : Oper} {rest : List Oper} {j : Nat} {want : Bool} {d : Nat} (hg : o.guard = some (j, want)) (hj : (ops[j]?).bind (·.dst) = some d) (mS : d < n)
    (hb:R d=undef) (hd:eL n o.dst=true) (h:RL P n ops Q rest (eY R o.dst undef) w):
    RL P n ops Q (o::rest) R w:=fun a ha=>by
  refine wpList_step fun K hK=>?_
  rw[if_neg (by simp[adN,hg,og ha hj mS hb])]
  exact hK _ _ (h _ (ha.put hd undef))
theorem RL.iy {P:Program} {n:Nat} {Q:fJ} {R:Nat→Value} {w:World} {ops:Array Oper} {o:Oper} {rest:List Oper} {j:Nat} {want:Bool} {d:Nat} (h:RL P n ops Q rest (eY R o.dst undef) w) (hg:o.guard=some (j,want):=by exact rfl) (hj:(ops[j]?).bind (·.dst)=some d:=by exact rfl) (mS:d<n:=by decide) (hb:R d=undef:=by exact rfl) (hd:eL n o.dst=true:=by exact rfl):RL P n ops Q (o::rest) R w:=RL.NR hg hj mS hb hd h
end Go.Rl
namespace Go.Rl
open Go.RowKit
section
variable {P:Program} {n:Nat} {Q:fJ} {R:Nat→Value} {w:World} {K:Value→World→Prop} {dst:Option Tmp} {ty:TypeId} {pos:String} {af:Array Edge} {gd:Option (Nat×Bool)}
variable {α:Type} {enc:α→Value}
theorem dG {ty : TypeId} {g : Nat} {t : TypeId} {cs : List Value} {d : TypeDesc} (hb : ij w g cs t) (hu : P.underlying ty = some d)
    (hd:(match d with|.struct _|.array _ _=>true|_=>false)=true) (hi:(P.info? ty).map (·.size)=some cs.length):(loadVar ty ⟨g,0,none⟩).run P w=.ok (.agg cs.toArray) w:=
  run_loadVar_row (P:=P) w g t ty cs.toArray (0,0) d hb hu hd (by simpa using hi)
theorem RV.eo {fn : Func} {p u : Tmp} {ty : TypeId} (h : fn.results = #[.cell p ty, .tmp u]) {g : Nat} {v : Value}
    (hp:R p=.pointer (some ⟨g,0,none⟩)) (hc:(loadVar ty ⟨g,0,none⟩).run P w=.ok v w):RV P fn n R w (.tuple #[v,R u]):=fun a ha=>by
  have h1:=ha.lD p;have h2:=ha.lD u
  rw[hp]at h1
  rw[afC]at h1 h2
  simp[results,h,h1,h2,hc,asAddr]
theorem A4 {f:FuncId} {captured:Array Operand} {vs:Array Value} (h:captured.map (ev R)=vs):Ev P ⟨dst,.makeFunc (.func f) #[] captured,ty,pos,af,gd⟩ R w (.func (.func f) #[] vs):=by
  subst h
  simp[Ev,execOp,ajm]
abbrev Hd:=Option Addr×Nat×Nat
abbrev vh (h:Hd):Value:=.slice h.1 h.2.1 h.2.2
theorem kh (h:Hd):(vh h).oneCell'=true:=rfl
theorem Sl.hd {v:Value} {l:List α} (h:Sl enc w v l):∃a:Hd,v=vh a:=by obtain⟨A,c,rfl,_⟩:=h;exact⟨(A,l.length,c),rfl⟩
theorem Sl.cK {v:Value} {l:List α} (h:Sl enc w v l):v.cells=#[v]:=by obtain⟨A,c,rfl,_⟩:=h;rfl
theorem Sl.bT {v:Value} {l:List α} (h:Sl enc w v l):v.oneCell'=true:=by obtain⟨A,c,rfl,_⟩:=h;rfl
theorem Sl.T8 {M:Nat→Prop} {w w':World} {v:Value} {l:List α} (h:Sl enc w v l) (hm:Mod M w w') (hb:l≠[]→∀k,v.ownBlock=some k→¬M k):Sl enc w' v l:=by
  by_cases hl:l=[]
  · subst hl
    obtain⟨A,c,h1,h2,h3,h4⟩:=h
    exact⟨A,c,h1,h2,h3,Cells.nil _ _⟩
  · exact h.mod hm (hb hl)
end
end Go.Rl
namespace Go.Rl
open Go.RowKit
structure Atom where
  dR:Nat→Prop
  says:World→Prop
  kp:∀{w w':World},(∀k,dR k→k<w.heap.size→w'.heap[k]?=w.heap[k]?)→says w→says w'
structure aH (w0:World) (F:Nat→Prop) (w:World) (L:List Atom):Prop where
  mod:Mod F w0 w
  says:∀(i:Nat) a,L[i]?=some a→a.says w
  low:∀(i:Nat) a,L[i]?=some a→∀k,a.dR k→(F k∨w0.heap.size≤k)∧k<w.heap.size
  sep:∀(i j:Nat) a b,i≠j→L[i]?=some a→L[j]?=some b→∀k,a.dR k→¬b.dR k
abbrev none_:Nat→Prop:=fun _=>False
section
variable {w0 w w':World} {F:Nat→Prop} {L M:List Atom} {a a' b:Atom}
theorem aH.nil (w:World) (F:Nat→Prop):aH w F w []:=⟨Mod.refl _ _,by simp,by simp,by simp⟩
theorem aH.aX (h:aH w0 none_ w L):Ext w0 w:=h.mod
theorem aH.size (h:aH w0 F w L):w0.heap.size≤w.heap.size:=h.mod.size
theorem aH.step {G:Nat→Prop} (h:aH w0 F w L) (hm:Mod G w w') (hF:∀k,k<w.heap.size→G k→F k∨w0.heap.size≤k) (hG:∀(i:Nat) a,L[i]?=some a→∀k,a.dR k→¬G k):aH w0 F w' L:=
  ⟨⟨hm.os.trans h.mod.os,hm.tape.trans h.mod.tape,hm.output.trans h.mod.output,acU h.mod.size hm.size,fun k hk hM=>
      (hm.block k (aef hk h.mod.size) fun e=>(hF k (aef hk h.mod.size) e).elim hM (fun h=>absurd hk (agl.2 h))).trans (h.mod.block k hk hM)⟩,
    fun i a ha=>a.kp (fun k hk cD=>hm.block k cD (hG i a ha k hk)) (h.says i a ha),
    fun i a ha k hk=>⟨(h.low i a ha k hk).1,aef (h.low i a ha k hk).2 hm.size⟩,h.sep⟩
theorem aH.ext (h:aH w0 F w L) (he:Ext w w'):aH w0 F w' L:=h.step he (fun _ _ e=>e.elim) (fun _ _ _ _ _ e=>e)
theorem aH.add (h:aH w0 F w L) (hs:a.says w) (hf:∀k,a.dR k→w0.heap.size≤k∧k<w.heap.size) (hd:∀(i:Nat) b,L[i]?=some b→∀k,b.dR k→¬a.dR k):aH w0 F w (a::L):=by
  refine⟨h.mod,?_,?_,?_⟩
  · intro i b hb
    cases i with
    |zero=>cases hb;exact hs
    |succ i=>exact h.says i b (by simpa using hb)
  · intro i b hb
    cases i with
    |zero=>cases hb;exact fun k hk=>⟨.inr (hf k hk).1,(hf k hk).2⟩
    |succ i=>exact h.low i b (by simpa using hb)
  · intro i j b c oT hb hc
    cases i with
    |zero=>
      cases hb
      cases j with
      |zero=>exact absurd rfl oT
      |succ j=>exact fun k hk iZ=>hd j c (by simpa using hc) k iZ hk
    |succ i=>
      cases j with
      |zero=>cases hc;exact hd i b (by simpa using hb)
      |succ j=>exact h.sep i j b c (by omega) (by simpa using hb) (by simpa using hc)
theorem aH.push (h:aH w0 F w L) (he:Ext w w') (hs:a.says w') (hf:∀k,a.dR k→w.heap.size≤k∧k<w'.heap.size):aH w0 F w' (a::L):=
  (h.ext he).add hs (fun k hk=>⟨acU h.size (hf k hk).1,(hf k hk).2⟩) (fun i b hb k hk iZ=>by
    have:=(h.low i b hb k hk).2
    have:=(hf k iZ).1
    omega)
theorem aH.dm (h:aH w0 F w L) (i:Nat) (hi:L[i]?=some a) (hm:Mod a.dR w w') (hs:a'.says w') (hf:∀k,a'.dR k→(a.dR k∨w.heap.size≤k)∧k<w'.heap.size):aH w0 F w' (L.set i a'):=by
  have cD:i<L.length:=(acF.1 hi).1
  have z0:∀j c,j≠i→L[j]?=some c→∀k,c.dR k→¬a.dR k:=fun j c hj hc k hk iZ=>h.sep j i c a hj hc hi k hk iZ
  have get:∀j c,(L.set i a')[j]?=some c→(j=i∧c=a')∨(j≠i∧L[j]?=some c):=by
    intro j c hc
    rw[adp]at hc
    by_cases hj:i=j
    · subst hj
      rw[if_pos rfl,if_pos cD]at hc
      exact .inl ⟨rfl,(ac7 hc).symm⟩
    · rw [if_neg hj] at hc
      exact .inr ⟨fun e=>hj e.symm,hc⟩
  have up:∀k,a.dR k→F k∨w0.heap.size≤k:=fun k hk=>(h.low i a hi k hk).1
  refine⟨⟨hm.os.trans h.mod.os,hm.tape.trans h.mod.tape,hm.output.trans h.mod.output,acU h.mod.size hm.size,fun k hk hM=>
      (hm.block k (aef hk h.mod.size) fun e=>(up k e).elim hM (fun h=>absurd hk (agl.2 h))).trans (h.mod.block k hk hM)⟩,?_,?_,?_⟩
  · intro j c hc
    rcases get j c hc with⟨_,rfl⟩|⟨hj,hc⟩
    · exact hs
    · exact c.kp (fun k hk cD=>hm.block k cD (z0 j c hj hc k hk)) (h.says j c hc)
  · intro j c hc k hk
    rcases get j c hc with⟨_,rfl⟩|⟨hj,hc⟩
    · exact⟨(hf k hk).1.elim (up k) (fun e=>.inr (acU h.size e)),(hf k hk).2⟩
    · exact⟨(h.low j c hc k hk).1,aef (h.low j c hc k hk).2 hm.size⟩
  · intro j j' c c' TK hc vS k hk iZ
    rcases get j c hc with⟨rfl,rfl⟩|⟨hj,hc⟩<;>rcases get j' c' vS with⟨rfl,rfl⟩|⟨OK,vS⟩
    · exact TK rfl
    · rcases (hf k hk).1 with e | e
      · exact z0 j' c' OK vS k iZ e
      · exact absurd (h.low j' c' vS k iZ).2 (agl.2 e)
    · rename_i TN
      rcases(hf k iZ).1 with e|e
      · exact z0 j c hj TN k hk e
      · exact absurd (h.low j c TN k hk).2 (agl.2 e)
    · exact h.sep j j' c c' TK (by assumption) vS k hk iZ
theorem aH.sub (h:aH w0 F w L) (p:List Nat) (hp:p.Nodup) (hM:M.map some=p.map (fun i=>L[i]?)):aH w0 F w M:=by
  have get:∀(j:Nat) c,M[j]?=some c→∃i,p[j]?=some i∧L[i]?=some c:=by
    intro j c hc
    have h1:(M.map some)[j]?=some (some c):=by rw[adI,hc];rfl
    rw[hM,adI]at h1
    cases hq:p[j]? with
    |none=>rw[hq]at h1;cases h1
    |some i=>rw[hq]at h1;exact⟨i,rfl,ac7 h1⟩
  refine⟨h.mod,?_,?_,?_⟩
  · intro j c hc
    obtain⟨i,_,hi⟩:=get j c hc
    exact h.says i c hi
  · intro j c hc
    obtain⟨i,_,hi⟩:=get j c hc
    exact h.low i c hi
  · intro j j' c c' TK hc vS
    obtain⟨i,hj,hi⟩:=get j c hc
    obtain⟨i',OK,Ka⟩:=get j' c' vS
    refine h.sep i i' c c' ?_ hi Ka
    rintro rfl
    obtain⟨hl,e⟩:=acF.1 hj
    obtain⟨OG,e'⟩:=acF.1 OK
    exact TK ((List.getElem_inj hp).1 (e.trans e'.symm))
theorem aH.fG (h:aH w0 F w L) (hc:aH w none_ w' M):aH w0 F w' (M++L):=by
  have he:=h.ext hc.mod
  have get:∀(j:Nat) c,(M++L)[j]?=some c→(j<M.length∧M[j]?=some c)∨(M.length≤j∧L[j-M.length]?=some c):=by
    intro j c hj
    rcases adi j M.length with h|h
    · rw[adu h]at hj;exact .inl ⟨h,hj⟩
    · rw[ads h]at hj;exact .inr ⟨h,hj⟩
  have new:∀(j:Nat) c,M[j]?=some c→∀k,c.dR k→w.heap.size≤k∧k<w'.heap.size:=fun j c hj k hk=>⟨(hc.low j c hj k hk).1.elim (fun e=>e.elim) id,(hc.low j c hj k hk).2⟩
  refine⟨he.mod,?_,?_,?_⟩
  · intro j c hj
    rcases get j c hj with⟨_,e⟩|⟨_,e⟩
    · exact hc.says _ c e
    · exact he.says _ c e
  · intro j c hj k hk
    rcases get j c hj with⟨_,e⟩|⟨_,e⟩
    · exact⟨.inr (acU h.size (new _ c e k hk).1),(new _ c e k hk).2⟩
    · exact he.low _ c e k hk
  · intro i j c d oT hi hj k hk iZ
    rcases get i c hi with⟨l1,e1⟩|⟨l1,e1⟩<;>rcases get j d hj with⟨l2,e2⟩|⟨l2,e2⟩
    · exact hc.sep i j c d oT e1 e2 k hk iZ
    · have:=(new _ c e1 k hk).1;have:=(h.low _ d e2 k iZ).2;omega
    · have:=(new _ d e2 k iZ).1;have:=(h.low _ c e1 k hk).2;omega
    · exact he.sep (i-M.length) (j-M.length) c d (by omega) e1 e2 k hk iZ
end
section
variable {α:Type} {enc:α→Value} {w0 w w':World} {F:Nat→Prop} {L M:List Atom}
def Atom.own (enc:α→Value) (E:TypeId) (v:Value) (l:List α):Atom where
  dR k:=v.ownBlock=some k
  says w:=eB enc E w 0 v l
  kp:=by
    intro w w' h hs
    unfold eB aeZ at*
    refine⟨hs.1,hs.2.imp id ?_⟩
    rintro⟨g,cap,cur,rfl,AJ,hh,hr⟩
    exact⟨g,cap,cur,rfl,AJ,(h g rfl (adr.1 hh).1).trans hh,hr⟩
def Atom.aJ (g:Nat) (cs:List Value) (T:TypeId):Atom where
  dR k:=k=g
  says w:=ij w g cs T
  kp:=by
    intro w w' h hs
    unfold ij at*
    exact(h g rfl (adr.1 hs).1).trans hs
def Atom.eD (enc:α→Value) (hs:List Hd) (ls:List (List α)):Atom where
  dR k:=∃h∈hs,(vh h).ownBlock=some k
  says w:=hs.length=ls.length∧∀(i:Nat) h l,hs[i]?=some h→ls[i]?=some l→Sl enc w (vh h) l∧∀k,(vh h).ownBlock=some k→k<w.heap.size
  kp:=by
    intro w w' hb ⟨h1,h2⟩
    refine⟨h1,fun i h l hi hl=>?_⟩
    have h3:=h2 i h l hi hl
    obtain⟨⟨A,c,he,g1,g2,hc⟩,cD⟩:=h3
    have key:∀k,(vh h).ownBlock=some k→w'.heap[k]?=w.heap[k]?:=fun k hk=>hb k ⟨h,acC hi,hk⟩ (cD k hk)
    refine⟨⟨A,c,he,g1,g2,fun j v hv=>?_⟩,fun k hk=>?_⟩
    · obtain ⟨ad, e, fq⟩ := hc j v hv
      refine⟨ad,e,?_⟩
      rw[aeQ (key _ (by rw[he,e,block_add];rfl)),fq]
    · have e := key k hk
      have hl:=cD k hk
      rw[aeN hl]at e
      exact(adr.1 e).1
theorem aH.own (h:aH w0 F w L) (i:Nat) {E:TypeId} {v:Value} {l:List α} (hi:L[i]?=some (.own enc E v l)):eB enc E w 0 v l:=h.says i _ hi
theorem aH.sl (h:aH w0 F w L) (i:Nat) {E:TypeId} {v:Value} {l:List α} (hi:L[i]?=some (.own enc E v l)):Sl enc w v l:=(h.own i hi).sl
theorem aH.aJ (h:aH w0 F w L) (i:Nat) {g:Nat} {cs:List Value} {T:TypeId} (hi:L[i]?=some (.aJ g cs T)):ij w g cs T:=h.says i _ hi
theorem eB.lift {E:TypeId} {v:Value} {l:List α} {base nQ:Nat} (h:eB enc E w base v l) (hb:∀k,v.ownBlock=some k→nQ≤k):eB enc E w nQ v l:=by
  unfold eB aeZ at*
  refine⟨h.1,h.2.imp id ?_⟩
  rintro⟨g,cap,cur,rfl,_,hr⟩
  exact⟨g,cap,cur,rfl,hb g rfl,hr⟩
theorem aH.ft (h:aH w0 none_ w L) (i:Nat) {E:TypeId} {v:Value} {l:List α} (hi:L[i]?=some (.own enc E v l)):eB enc E w w0.heap.size v l:=
  (h.own i hi).lift fun k hk=>(h.low i _ hi k hk).1.elim (fun e=>e.elim) id
theorem aH.dy (h:aH w0 F w L) (enc:α→Value) (E:TypeId):aH w0 F w (.own enc E (.slice none 0 0) []::L):=
  h.add (eB.nil _ _ _ _) (fun k hk=>by cases hk) (fun _ _ _ _ _ hk=>by cases hk)
theorem aH.cl (h:aH w0 F w L) {E:TypeId} {v:Value} {l:List α} (ho:eB enc E w' w.heap.size v l) (he:Ext w w'):aH w0 F w' (.own enc E v l::L):=
  h.push he (ho.lower (adW _)) (fun k hk=>ho.lt k hk)
theorem aH.Du (h:aH w0 F w L) {g:Nat} {cs:List Value} {T:TypeId} (hb:ij w' g cs T) (he:Ext w w') (hg:w.heap.size≤g):aH w0 F w' (.aJ g cs T::L):=
  h.push he hb (fun k hk=>by cases hk;exact⟨hg,hb.lt⟩)
end
section
variable {P:Program} {n:Nat} {Q:fJ} {R:Nat→Value} {w0 w:World} {F:Nat→Prop} {L:List Atom} {K:Value→World→Prop} {dst:Option Tmp} {ty:TypeId} {pos:String} {af:Array Edge} {gd:Option (Nat×Bool)}
variable {α:Type} {enc:α→Value}
theorem b9 {t e : TypeId} {s x : Operand} {v u : Value} {l m : List α} {z : Value} {bytes : Nat} (ht : P.underlying t = some (.slice e))
    (gu:(P.info? e).map (fun i=>(i.zero,i.size,i.bytes))=some (some z,1,bytes)) (hz:z.cells.size=1) (h1:∀a,(enc a).oneCell'=true)
    (hN:aH w0 F w L) (i:Nat) (hi:L[i]?=some (.own enc e v l)) (hx:ev R s=v) (hu:Sl enc w u m) (hy:ev R x=u) (hlen:(l.length+m.length)*bytes≤140737488355328) (kx:0<bytes)
    (h:∀v' w',aH w0 F w' (L.set i (.own enc e v' (l++m)))→K v' w'):
    ey P ⟨dst,.call ⟨.builtin .append,#[s,x],#[t,t]⟩,ty,pos,af,gd⟩ R w K:=
  iQ ht gu hz h1 (hN.own i hi) hx hu hy hlen kx (adW _) fun v' w' ho hm hk=>h v' w' <| hN.dm i hi hm ho fun k iZ=>by
    have cD:=(ho.lt k iZ).2
    refine⟨?_,cD⟩
    rcases hk with e|e
    · exact .inl (e.symm.trans iZ)
    · exact .inr (ag3 (ac7 (e.symm.trans iZ)))
theorem iq {t e : TypeId} {x : Operand} {z : α} {bytes : Nat} {k : IntKind} {m : Int} (ht : P.underlying t = some (.slice e)) (gu : (P.info? e).map (fun i => (i.zero, i.size, i.bytes)) = some (some (enc z), 1, bytes)) (hz : (enc z).cells = #[enc z])
    (hN:aH w0 F w L) (hx:ev R x=.int k m) (h0:0≤m) (kx:bytes*m.toNat≤281474976710656) (YG:m≤9223372036854775807)
    (h:∀v w',aH w0 F w' (.own enc e v (ac3 m.toNat z)::L)→K v w'):
    ey P ⟨dst,.makeSlice t x x,ty,pos,af,gd⟩ R w K:=
  Dw ht gu hz hx h0 kx YG fun w' ho _ he _=>h _ w' (hN.cl ho he)
theorem cx {t e : TypeId} {len : Nat} {parts : Array (Nat × Operand)} {xs : List Operand} {l : List α} (ht : P.underlying t = some (.slice e)) (eI : (P.info? e).map (·.size) = some 1)
    (hz:((P.info? e).bind (·.zero)).isSome=true) (ue:parts.toList=(xs.zipIdx 0).map fun x=>(x.2,x.1)) (hv:xs.map (ev R)=l.map enc) (hc:∀a,(enc a).cells=#[enc a])
    (hlen:len=l.length) (iF:0<len) (CD:len≤2^24) (hN:aH w0 F w L)
    (h:∀g w',aH w0 F w' (.own enc e (.slice (some ⟨g,0,none⟩) len len) l::L)→K (.slice (some ⟨g,0,none⟩) len len) w'):
    ey P ⟨dst,.buildSlice t len parts,ty,pos,af,gd⟩ R w K:=
  xS ht eI hz ue hv hc hlen iF CD fun w' ho _ he _=>h _ w' (hN.cl ho he)
theorem bz {t : TypeId} {z : Value} {cs : List Value} (hz : (P.info? t).map (·.zero) = some (some z)) (hc : z.cells = cs.toArray) (hN : aH w0 F w L)
    (h:∀g w',aH w0 F w' (.aJ g cs t::L)→K (.pointer (some ⟨g,0,none⟩)) w'):ey P ⟨dst,.alloc t,ty,pos,af,gd⟩ R w K:=
  pB hz hc fun w' hb he _=>h _ w' (hN.Du hb he (ac8 _))
theorem bJ {t : TypeId} {x : Operand} {v : Value} {cs : List Value} (hx : ev R x = v) (hc : v.cells = cs.toArray) (hN : aH w0 F w L)
    (h:∀g w',aH w0 F w' (.aJ g cs t::L)→K (.pointer (some ⟨g,0,none⟩)) w'):ey P ⟨dst,.box t x,ty,pos,af,gd⟩ R w K:=
  Ha hx hc fun w' hb he _=>h _ w' (hN.Du hb he (ac8 _))
theorem b7 {t : TypeId} {x y : Operand} {g j : Nat} {v : Value} {cs : List Value} {T : TypeId} (eI : (P.info? t).map (·.size) = some 1)
    (hx:ev R x=.pointer (some ⟨g,j,none⟩)) (hy:ev R y=v) (hv:v.cells=#[v]) (h1:v.oneCell'=true) (hN:aH w0 F w L) (i:Nat) (hi:L[i]?=some (.aJ g cs T)) (hj:j<cs.length)
    (h:∀w',aH w0 F w' (L.set i (.aJ g (cs.set j v) T))→K undef w'):ey P ⟨dst,.store t x y,ty,pos,af,gd⟩ R w K:=
  lG eI hx hy hv h1 (hN.aJ i hi) hj fun w' hb hm hs=>h w' (hN.dm i hi hm hb fun k hk=>⟨.inl hk,by cases hk;exact hb.lt⟩)
theorem aS {t : TypeId} {x y : Operand} {g : Nat} {v : Value} {cs vs : List Value} {T : TypeId} (eI : (P.info? t).map (·.size) = some vs.length)
    (hx:ev R x=.pointer (some ⟨g,0,none⟩)) (hy:ev R y=v) (hv:v.cells=vs.toArray) (h1:∀u∈vs,u.oneCell'=true) (hN:aH w0 F w L) (i:Nat) (hi:L[i]?=some (.aJ g cs T)) (hl:vs.length=cs.length)
    (h:∀w',aH w0 F w' (L.set i (.aJ g vs T))→K undef w'):ey P ⟨dst,.store t x y,ty,pos,af,gd⟩ R w K:=
  ns eI hx hy hv h1 (hN.aJ i hi) hl fun w' hb hm hs=>h w' (hN.dm i hi hm hb fun k hk=>⟨.inl hk,by cases hk;exact hb.lt⟩)
theorem cm {t : TypeId} {x y : Operand} {E : TypeId} {v u : Value} {l : List α} {a : α} {m : Nat} (eI : (P.info? t).map (·.size) = some 1)
    (hN:aH w0 F w L) (i:Nat) (hi:L[i]?=some (.own enc E v l)) (hx:ev R x=dI v m) (hm:m<l.length) (hy:ev R y=u) (hu:u=enc a) (hc:(enc a).cells=#[enc a]) (h1:(enc a).oneCell'=true)
    (h:∀w',aH w0 F w' (L.set i (.own enc E v (l.set m a)))→K undef w'):ey P ⟨dst,.store t x y,ty,pos,af,gd⟩ R w K:=
  rn eI (hN.own i hi) hx hm hy hu hc h1 fun w' ho Lm hs=>h w' (hN.dm i hi Lm ho fun k hk=>⟨.inl hk,(ho.lt k hk).2⟩)
end
def sN (F:Nat→Prop) {α:Type} (v:Value) (l:List α):Prop:=l≠[]→∀k,v.ownBlock=some k→¬F k
theorem sN.none {α:Type} (v:Value) (l:List α):sN none_ v l:=fun _ _ _ h=>h
theorem Sl.off {α:Type} {enc:α→Value} {M:Nat→Prop} {w w':World} {v:Value} {l:List α} (h:Sl enc w v l) (ho:sN M v l) (hm:Mod M w w'):Sl enc w' v l:=h.T8 hm ho
end Go.Rl
namespace Go.Rl
open Go.RowKit
theorem Bx {a:Int} (h0: -9223372036854775808≤a) (h1:a≤9223372036854775807):adE.wrap a=a:=wrap_i64 h0 h1
theorem Nn {a:Int} (h0:0≤a) (h1:a≤18446744073709551615):aeb.wrap a=a:=by
  simp only[aem,adZ,ad0,aen]
  simp;omega
section
variable {P:Program} {n:Nat} {Q:fJ} {R:Nat→Value} {w0 w:World} {F:Nat→Prop} {L:List Atom} {K:Value→World→Prop} {dst:Option Tmp} {ty:TypeId} {pos:String} {af:Array Edge} {gd:Option (Nat×Bool)}
variable {α:Type} {enc:α→Value}
theorem cU {xt:TypeId} {x:Operand} {p:Prop} [Decidable p] (hx:ev R x=.bool (decide p)):Ev P ⟨dst,.unOp .not xt x,ty,pos,af,gd⟩ R w (.bool (decide (¬p))):=by
  have h:=jY (P:=P) (w:=w) (dst:=dst) (ty:=ty) (pos:=pos) (af:=af) (gd:=gd) (xt:=xt) hx
  rwa [←decide_not]at h
theorem aH.l7 (h:aH w0 F w L) (i:Nat) {E:TypeId} {v:Value} {l l':List α} (hi:L[i]?=some (.own enc E v l)) (e:l=l'):aH w0 F w (L.set i (.own enc E v l')):=by
  subst e
  have:L.set i (.own enc E v l)=L:=by
    apply agV
    intro j
    rw[adp]
    split
    · subst j; split
      · exact hi.symm
      · rename_i h1;rw[aea (by omega)]
    · rfl
  rw[this];exact h
theorem du {t : TypeId} {x : Operand} {g j m : Nat} {cs : List Value} {T : TypeId} {d : TypeDesc} (hu : P.underlying t = some d) (hd : d.isRow = true)
    (eI:(P.info? t).map (·.size)=some m) (hx:ev R x=.pointer (some ⟨g,j,none⟩)) (hb:ij w g cs T) (hj:j+m≤cs.length):Ev P ⟨dst,.load t x,ty,pos,af,gd⟩ R w (.agg ((cs.drop j).take m).toArray):=by
  have hl:((cs.drop j).take m).length=m:=by simp;omega
  have:=run_loadVar_mid (P:=P) w g j t ((cs.drop j).take m) d (fun i v hi=>by
    rw[hb.cell]
    rw[aeg]at hi
    split at hi
    · rwa [afN]at hi
    · cases hi) hu hd (by rw[hl];exact eI)
  simp[Ev,execOp,hx,agj,aes,this]
theorem pC {t : TypeId} {x y : Operand} {g j : Nat} {v : Value} {cs vs : List Value} {T : TypeId} (eI : (P.info? t).map (·.size) = some vs.length)
    (hx:ev R x=.pointer (some ⟨g,j,none⟩)) (hy:ev R y=v) (hv:v.cells=vs.toArray) (h1:∀u∈vs,u.oneCell'=true) (hN:aH w0 F w L) (i:Nat) (hi:L[i]?=some (.aJ g cs T)) (hl:j+vs.length≤cs.length)
    (h:∀w',aH w0 F w' (L.set i (.aJ g (cs.take j++vs++cs.drop (j+vs.length)) T))→K undef w'):ey P ⟨dst,.store t x y,ty,pos,af,gd⟩ R w K:=by
  have hb:=hN.aJ i hi
  have fx:(storeCells ⟨g,j,none⟩ vs).run P w=.ok () (w.setRow g (cs.take j++vs++cs.drop (j+vs.length)).toArray):=by
    have:=run_storeCells_at (P:=P) g j T vs 0 cs.toArray w hb (by simpa using hl) h1
    simpa using this
  have AJ:ij (w.setRow g (cs.take j++vs++cs.drop (j+vs.length)).toArray) g (cs.take j++vs++cs.drop (j+vs.length)) T:=setRow_heap w g _ _ T _ hb
  refine ey.unit (w':=w.setRow g (cs.take j++vs++cs.drop (j+vs.length)).toArray) ?_ (h _ (hN.dm i hi ⟨rfl,rfl,rfl,by simp,fun k hk hM=>setRow_other w g k _ hM⟩ AJ fun k hk=>⟨.inl hk,by cases hk;exact AJ.lt⟩))
  simp[execOp,hx,hy,ah3,aes,storeVar,hv,fa (w:=w) eI,fx]
theorem dM {f:FuncId} {captured:Array Operand} {xs:List Operand} {vs:List Value} (hx:captured=xs.toArray) (h:xs.map (ev R)=vs):Ev P ⟨dst,.makeFunc (.func f) #[] captured,ty,pos,af,gd⟩ R w (.func (.func f) #[] vs.toArray):=by
  subst hx h
  exact A4 (by simp)
theorem eB.l7 {E:TypeId} {base:Nat} {v:Value} {l l':List α} (h:eB enc E w base v l) (e:l=l'):eB enc E w base v l':=e▸h
theorem wO {f : FuncId} {fn : Func} {qb : Array TypeId} {fv : Operand} {_u : Operand} {_w : Value} {first captured args : Array Value} (hf : P.funcs[f]? = some fn) (hn : (fn.name == "runtime.NumGoroutine") = false) (hb : fn.body.isSome = true)
    (xf:first++#[]++captured=args) (I4:ev R fv=.func (.func f) first captured) (h:aM P f args w K):ey P ⟨dst,.call ⟨.value fv,#[],qb⟩,ty,pos,af,gd⟩ R w K:=
  ey.enter (f:=f) (args:=args) (w':=w) (by
    subst xf
    have:=ei (P:=P) (w:=w) (first++#[]++captured) hf hn hb
    simp only[execOp,resolve,I4,aei,ad3,adq,aee,adA,aer,adJ,invoke]
    exact this) h
theorem ct {f : FuncId} {fn : Func} {qb : Array TypeId} {fv : Operand} {x0 : Operand} {v0 : Value} {first captured args : Array Value} (hf : P.funcs[f]? = some fn) (hn : (fn.name == "runtime.NumGoroutine") = false) (hb : fn.body.isSome = true)
    (xf:first++#[v0]++captured=args) (I4:ev R fv=.func (.func f) first captured) (qk:ev R x0=v0) (h:aM P f args w K):ey P ⟨dst,.call ⟨.value fv,#[x0],qb⟩,ty,pos,af,gd⟩ R w K:=
  ey.enter (f:=f) (args:=args) (w':=w) (by
    subst qk xf
    have:=ei (P:=P) (w:=w) (first++#[ev R x0]++captured) hf hn hb
    simp only[execOp,resolve,I4,aei,ad3,adq,aee,adA,aer,adJ,invoke]
    exact this) h
theorem wN {f : FuncId} {fn : Func} {qb : Array TypeId} {fv : Operand} {x0 x1 : Operand} {v0 v1 : Value} {first captured args : Array Value} (hf : P.funcs[f]? = some fn) (hn : (fn.name == "runtime.NumGoroutine") = false) (hb : fn.body.isSome = true)
    (xf:first++#[v0,v1]++captured=args) (I4:ev R fv=.func (.func f) first captured) (qk:ev R x0=v0) (pM:ev R x1=v1) (h:aM P f args w K):ey P ⟨dst,.call ⟨.value fv,#[x0,x1],qb⟩,ty,pos,af,gd⟩ R w K:=
  ey.enter (f:=f) (args:=args) (w':=w) (by
    subst qk pM xf
    have:=ei (P:=P) (w:=w) (first++#[ev R x0,ev R x1]++captured) hf hn hb
    simp only[execOp,resolve,I4,aei,ad3,adq,aee,adA,aer,adJ,invoke]
    exact this) h
theorem JC (off:Nat):∀(vs:List Value) (k:Nat) (cells:List Value),off+k+vs.length≤cells.length→
    (vs.zipIdx k).foldl (fun(cs:Array Value) (x:Value×Nat)=>cs.setIfInBounds (off+x.2) x.1) cells.toArray=(cells.take (off+k)++vs++cells.drop (off+k+vs.length)).toArray:=by
  intro vs
  induction vs with
  |nil=>intro k cells h;simp
  |cons v vs ih=>
    intro k cells h
    simp only[acK]at h
    simp only[List.zipIdx_cons,aja,List.setIfInBounds_toArray]
    rw[ih (k+1) (cells.set (off+k) v) (by simp;omega)]
    have hk:off+k<cells.length:=by omega
    congr 1
    rw[afZ,if_pos hk]
    have h1:(cells.take (off+k)).length=off+k:=by simp;omega
    have e1:(cells.take (off+k)++v::cells.drop (off+k+1)).take (off+(k+1))=cells.take (off+k)++[v]:=by
      rw[List.take_append,ac2 (by omega),h1]
      congr 1
      rw[show off+(k+1)-(off+k)=1 by omega];simp
    have e2:(cells.take (off+k)++v::cells.drop (off+k+1)).drop (off+(k+1)+vs.length)=cells.drop (off+k+(vs.length+1)):=by
      rw[List.drop_append,aeW (by omega),h1]
      rw[show off+(k+1)+vs.length-(off+k)=vs.length+1 by omega]
      simp only[aeG,List.drop_succ_cons,aft]
      congr 1;omega
    rw[e1,e2]
    simp
theorem aP {place : Nat → Option (Nat × Nat)} {cells : List Value} {i off : Nat} {v : Value} {vs : List Value} {rest : List (Nat × Value)} {r : Option (Array Value)} (hc : v.cells = vs.toArray) (hp : place i = some (off, vs.length)) (hl : off + vs.length ≤ cells.length)
    (h:ae2 place (cells.take off++vs++cells.drop (off+vs.length)).toArray rest=r):ae2 place cells.toArray ((i,v)::rest)=r:=by
  rw[ae2]
  simp only[hp,hc]
  have hf:=JC off vs 0 cells hl
  simp only[agm]at hf
  have h2:¬(cells.length<off+vs.length):=by omega
  simp only[agW,ne_eq,not_true_eq_false,decide_false,Bool.false_or,gt_iff_lt,decide_eq_true_eq,if_neg h2]
  have hz:vs.toArray.zipIdx=(vs.zipIdx 0).toArray:=by apply Array.ext';simp
  rw[hz,List.foldl_toArray,hf];exact h
theorem bR {t : TypeId} {parts : Array (Nat × Operand)} {ps : List (Nat × Value)} {z : Value} {fs : Array Field} {places : Array (Nat × Nat)} {zc cs : List Value} (ht : P.underlying t = some (.struct fs)) (hz : (P.info? t).map (·.zero) = some (some z))
    (Oj:∀w,(fs.mapM fun(f:Field)=>do pure (f.offset,←sizeOf f.type)).run P w=.ok places w) {pl:List (Nat×Operand)} (hp:parts.toList=pl) (E7:(pl.map fun(i,x)=>(i,ev R x))=ps) (Q9:z.cells=zc.toArray) (hf:ae2 (places[·]?) zc.toArray ps=some cs.toArray):
    Ev P ⟨dst,.build t parts,ty,pos,af,gd⟩ R w (.agg cs.toArray):=A7 ht hz Oj hp E7 (by rw[Q9];exact hf)
def GP (Q:fJ):fJ:=fun e R w=>match e with
  |.goto _=>False
  |e=>Q e R w
theorem RW.scope {c:Code} (h:RW P n c (GP Q) R w):RW P n (.scope c) Q R w:=fun a ha=>by
  refine wp_scope_straight (wp_mono (h a ha) ?_)
  rintro e a' w' ⟨R',hR,hQ⟩
  cases e with
  |goto l=>exact hQ.elim
  |_=>exact⟨R',hR,hQ⟩
theorem td (h:Q .ret R w):GP Q .ret R w:=h
theorem RW.label {l:Nat} (h:Q .normal R w):RW P n (.label l) Q R w:=fun _ ha=>wp_label ⟨R,ha,h⟩
end
def b6 (M:List Atom):Nat→Prop:=fun k=>∃a∈M,a.dR k
section
variable {w0 w w':World} {F:Nat→Prop} {L M N:List Atom} {a:Atom} {α:Type} {enc:α→Value}
theorem aH.de (h:aH w0 F w L) (p:List Nat) (hp:p.Nodup) (hM:M.map some=p.map (fun i=>L[i]?)):aH w (b6 M) w M:=by
  have hs:=h.sub p hp hM
  exact⟨Mod.refl _ _,hs.says,fun i a ha k hk=>⟨.inl ⟨a,acC ha,hk⟩,(hs.low i a ha k hk).2⟩,hs.sep⟩
theorem aH.dd {M':List Atom} (h:aH w0 F w (M++N)) (hc:aH w (b6 M) w' M'):aH w0 F w' (M'++N):=by
  have Fo:∀(j:Nat) c,N[j]?=some c→(M++N)[M.length+j]?=some c:=fun j c hj=>by rw[ads (by omega)];simpa using hj
  have split:∀(j:Nat) c,(M'++N)[j]?=some c→(j<M'.length∧M'[j]?=some c)∨(M'.length≤j∧N[j-M'.length]?=some c):=by
    intro j c hj
    rcases adi j M'.length with h|h
    · rw[adu h]at hj;exact .inl ⟨h,hj⟩
    · rw[ads h]at hj;exact .inr ⟨h,hj⟩
  have MX:∀k,b6 M k→∃(i:Nat) (b:Atom),i<M.length∧(M++N)[i]?=some b∧b.dR k:=by
    rintro k ⟨b,hb,hk⟩
    obtain⟨i,hi⟩:=agh.1 hb
    have hl:=(acF.1 hi).1
    exact⟨i,b,hl,by rw[adu hl];exact hi,hk⟩
  have Q2:∀k,b6 M k→(F k∨w0.heap.size≤k):=fun k hk=>by
    obtain⟨i,b,_,hi,hb⟩:=MX k hk
    exact(h.low i b hi k hb).1
  have off:∀(j:Nat) c,N[j]?=some c→∀k,c.dR k→¬b6 M k:=fun j c hj k hk hm=>by
    obtain⟨i,b,hl,hi,hb⟩:=MX k hm
    exact h.sep i (M.length+j) b c (by omega) hi (Fo j c hj) k hb hk
  have part:∀(i:Nat) c,M'[i]?=some c→∀(j:Nat) d,N[j]?=some d→∀k,c.dR k→¬d.dR k:=fun i c hi j d hj k hk iZ=>by
    rcases(hc.low i c hi k hk).1 with e|e
    · exact off j d hj k iZ e
    · have:=(h.low _ d (Fo j d hj) k iZ).2;omega
  refine⟨⟨hc.mod.os.trans h.mod.os,hc.mod.tape.trans h.mod.tape,hc.mod.output.trans h.mod.output,acU h.mod.size hc.mod.size,fun k hk hM=>
      (hc.mod.block k (aef hk h.mod.size) fun e=>(Q2 k e).elim hM (fun h=>absurd hk (agl.2 h))).trans (h.mod.block k hk hM)⟩,?_,?_,?_⟩
  · intro j c hj
    rcases split j c hj with⟨_,e⟩|⟨_,e⟩
    · exact hc.says _ c e
    · exact c.kp (fun k hk cD=>hc.mod.block k cD (off _ c e k hk)) (h.says _ c (Fo _ c e))
  · intro j c hj k hk
    rcases split j c hj with⟨_,e⟩|⟨_,e⟩
    · have hl := hc.low _ c e k hk
      exact⟨hl.1.elim (Q2 k) (fun e=>.inr (acU h.size e)),hl.2⟩
    · have hl := h.low _ c (Fo _ c e) k hk
      exact⟨hl.1,aef hl.2 hc.mod.size⟩
  · intro i j c d oT hi hj k hk iZ
    rcases split i c hi with⟨l1,e1⟩|⟨l1,e1⟩<;>rcases split j d hj with⟨l2,e2⟩|⟨l2,e2⟩
    · exact hc.sep i j c d oT e1 e2 k hk iZ
    · exact part _ c e1 _ d e2 k hk iZ
    · exact part _ d e2 _ c e1 k iZ hk
    · exact h.sep (M.length+(i-M'.length)) (M.length+(j-M'.length)) c d (by omega) (Fo _ c e1) (Fo _ d e2) k hk iZ
def gG (F:Nat→Prop) (enc:α→Value) (w:World) (hs:List Hd) (ls:List (List α)):Prop:=
  hs.length=ls.length∧∀(i:Nat) h l,hs[i]?=some h→ls[i]?=some l→Sl enc w (vh h) l∧sN F (vh h) l
theorem gG.nil (F:Nat→Prop) (enc:α→Value) (w:World):gG F enc w [] []:=⟨rfl,fun i h l hi=>by simp at hi⟩
theorem gG.cons {h:Hd} {l:List α} {hs:List Hd} {ls:List (List α)} (h1:Sl enc w (vh h) l) (h2:sN F (vh h) l) (ht:gG F enc w hs ls):gG F enc w (h::hs) (l::ls):=by
  refine⟨by simp[ht.1],fun i h' l' hi hl=>?_⟩
  cases i with
  |zero=>cases hi;cases hl;exact⟨h1,h2⟩
  |succ i=>exact ht.2 i h' l' (by simpa using hi) (by simpa using hl)
theorem gG.mod {hs:List Hd} {ls:List (List α)} (h:gG F enc w hs ls) (hm:Mod F w w'):gG F enc w' hs ls:=
  ⟨h.1,fun i h' l hi hl=>⟨(h.2 i h' l hi hl).1.off (h.2 i h' l hi hl).2 hm,(h.2 i h' l hi hl).2⟩⟩
end
section
variable {w0 w w':World} {F:Nat→Prop} {L M N:List Atom} {α:Type} {enc:α→Value}
theorem aH.jX (h:aH w0 F w L) (enc:α→Value):aH w0 F w (.eD enc [] []::L):=
  h.add ⟨rfl,fun i h l hi=>by simp at hi⟩ (fun k hk=>by obtain⟨h,hh,_⟩:=hk;cases hh) (fun _ _ _ _ _ hk=>by obtain⟨h,hh,_⟩:=hk;cases hh)
theorem aH.fR (h:aH w0 F w L) (i:Nat) {hs:List Hd} {ls:List (List α)} (hi:L[i]?=some (.eD enc hs ls)):gG none_ enc w hs ls:=by
  have hf:(Atom.eD enc hs ls).says w:=h.says i _ hi
  exact⟨hf.1,fun q h' l hq hl=>⟨(hf.2 q h' l hq hl).1,sN.none _ _⟩⟩
theorem gG.ext {hs:List Hd} {ls:List (List α)} (h:gG none_ enc w hs ls) (he:Ext w w'):gG none_ enc w' hs ls:=h.mod he
end
section
variable {P:Program} {n:Nat} {Q:fJ} {R:Nat→Value} {w0 w w':World} {F:Nat→Prop} {L:List Atom} {K:Value→World→Prop} {dst:Option Tmp} {ty:TypeId} {pos:String} {af:Array Edge} {gd:Option (Nat×Bool)}
variable {α:Type} {enc:α→Value}
def Atom.sl (enc:α→Value) (v:Value) (l:List α):Atom where
  dR k:=v.ownBlock=some k
  says w:=Sl enc w v l∧∀k,v.ownBlock=some k→k<w.heap.size
  kp:=by
    intro w w' hb ⟨⟨A,c,he,g1,g2,hc⟩,cD⟩
    have key:∀k,v.ownBlock=some k→w'.heap[k]?=w.heap[k]?:=fun k hk=>hb k hk (cD k hk)
    refine⟨⟨A,c,he,g1,g2,fun j v hv=>?_⟩,fun k hk=>?_⟩
    · obtain ⟨ad, e, fq⟩ := hc j v hv
      refine⟨ad,e,?_⟩
      rw[aeQ (key _ (by rw[he,e,block_add];rfl)),fq]
    · have e := key k hk
      have hl:=cD k hk
      rw[aeN hl]at e
      exact(adr.1 e).1
theorem aH.QK (h:aH w0 F w L) (i:Nat) {v:Value} {l:List α} (hi:L[i]?=some (.sl enc v l)):Sl enc w v l:=(h.says i _ hi).1
theorem zY {src dt e : TypeId} {x : Operand} {l : List UInt8} (hs : P.underlying src = some .string) (hd : P.underlying dt = some (.slice e)) (he : P.underlying e = some (.int .u8)) (hx : ev R x = str l) (hlen : l.length ≤ 140737488355328) (hN : aH w0 F w L)
    (h:∀v w',aH w0 F w' (.sl vb v l::L)→K v w'):ey P ⟨dst,.convert src dt x,ty,pos,af,gd⟩ R w K:=by
  have fy:=run_bytes_of_string (P:=P) w src dt e ⟨l.toArray⟩ hs hd he
  have eI:(⟨l.toArray⟩:ByteArray).size=l.length:=by simp[ahJ]
  rw[eI]at fy
  have Mx:=grownCap_ge w l.length 0 e
  have TM:grownCap w l.length 0 e≤maxLen:=grownCap_le_maxLen w l.length 0 e (by unfold maxLen;omega)
  generalize grownCap w l.length 0 e=cap at fy Mx TM
  have Lk:(w.drew.alloc (.cells (bytesRow ⟨l.toArray⟩ cap) e ((bytesRow ⟨l.toArray⟩ cap).size,(bytesRow ⟨l.toArray⟩ cap).size+1))).heap[w.heap.size]?=some (.cells (bytesRow ⟨l.toArray⟩ cap) e ((bytesRow ⟨l.toArray⟩ cap).size,(bytesRow ⟨l.toArray⟩ cap).size+1)):=by
    have:=heap_alloc_new w.drew (.cells (bytesRow ⟨l.toArray⟩ cap) e ((bytesRow ⟨l.toArray⟩ cap).size,(bytesRow ⟨l.toArray⟩ cap).size+1))
    exact this
  have iW:Ext w (w.drew.alloc (.cells (bytesRow ⟨l.toArray⟩ cap) e ((bytesRow ⟨l.toArray⟩ cap).size,(bytesRow ⟨l.toArray⟩ cap).size+1))):=(Ext.drew w).trans (Ext.alloc _ _)
  have kN:Sl vb (w.drew.alloc (.cells (bytesRow ⟨l.toArray⟩ cap) e ((bytesRow ⟨l.toArray⟩ cap).size,(bytesRow ⟨l.toArray⟩ cap).size+1))) (.slice (some ⟨w.heap.size,0,none⟩) l.length cap) l:=by
    refine⟨_,cap,rfl,Mx,TM,fun j v hj=>⟨_,rfl,?_⟩⟩
    rw[Kj,cell_of_row _ _ _ _ _ _ Lk]
    rw[adI]at hj
    cases hq:l[j]? with
    |none=>rw[hq]at hj;cases hj
    |some b=>
      rw[hq]at hj
      simp only[aeF,aeC]at hj
      subst hj
      have SA:=(acF.1 hq).1
      have hb:=(acF.1 hq).2
      simp[bytesRow,vb,Array.getElem?_append,SA,hb]
  refine ey.value (v:=.slice (some ⟨w.heap.size,0,none⟩) l.length cap) ?_ (h _ _ (hN.push iW ⟨kN,fun k hk=>?_⟩ fun k hk=>?_))
  · simp only [execOp, hx, str]
    simp[fy]
  · cases (ac7 hk);simp
  · cases (ac7 hk);exact⟨ac8 _,by simp⟩
end
section
variable {w0 w w':World} {F:Nat→Prop} {L M N:List Atom} {α:Type} {enc:α→Value}
theorem aH.turn {a a':Atom} (h:aH w0 F w L) (i:Nat) (hi:L[i]?=some a) (hs:a'.says w) (hf:∀k,a'.dR k→a.dR k):aH w0 F w (L.set i a'):=
  h.dm i hi (Mod.refl _ _) hs fun k hk=>⟨.inl (hf k hk),(h.low i a hi k (hf k hk)).2⟩
theorem aH.QU (h:aH w0 F w L) (i:Nat) {E:TypeId} {v:Value} {l:List α} (hi:L[i]?=some (.own enc E v l)):aH w0 F w (L.set i (.sl enc v l)):=
  h.turn i hi ⟨(h.own i hi).sl,fun k hk=>((h.own i hi).lt k hk).2⟩ (fun _ hk=>hk)
theorem aH.JF {h:Hd} {l:List α} {hs:List Hd} {ls:List (List α)} (hN:aH w0 F w (.sl enc (vh h) l::L)) (j:Nat) (hj:L[j]?=some (.eD enc hs ls)):aH w0 F w (L.set j (.eD enc (hs++[h]) (ls++[l]))):=by
  have ho:Sl enc w (vh h) l∧∀k,(vh h).ownBlock=some k→k<w.heap.size:=hN.says 0 _ rfl
  have hf:(Atom.eD enc hs ls).says w:=hN.says (j+1) _ (by simpa using hj)
  have cD:j<L.length:=(acF.1 hj).1
  have dR:∀k,(Atom.eD enc (hs++[h]) (ls++[l])).dR k→(Atom.eD enc hs ls).dR k∨(vh h).ownBlock=some k:=by
    rintro k ⟨h',hm,hk⟩
    rcases adn.1 hm with e|e
    · exact .inl ⟨h',e,hk⟩
    · rw[adh]at e;subst e;exact .inr hk
  have get:∀(i:Nat) c,(L.set j (.eD enc (hs++[h]) (ls++[l])))[i]?=some c→(i=j∧c=.eD enc (hs++[h]) (ls++[l]))∨(i≠j∧L[i]?=some c):=by
    intro i c hc
    rw[adp]at hc
    by_cases e:j=i
    · subst e;rw[if_pos rfl,if_pos cD]at hc;exact .inl ⟨rfl,(ac7 hc).symm⟩
    · rw[if_neg e]at hc;exact .inr ⟨fun x=>e x.symm,hc⟩
  have z0:∀(i:Nat) c,L[i]?=some c→(∀k,c.dR k→¬(vh h).ownBlock=some k)∧(i≠j→∀k,c.dR k→¬(Atom.eD enc hs ls).dR k):=fun i c hc=>
    ⟨fun k hk e=>hN.sep (i+1) 0 c _ (by omega) (by simpa using hc) rfl k hk e,fun hi k hk e=>hN.sep (i+1) (j+1) c _ (by omega) (by simpa using hc) (by simpa using hj) k hk e⟩
  refine⟨hN.mod,?_,?_,?_⟩
  · intro i c hc
    rcases get i c hc with⟨_,rfl⟩|⟨_,hc⟩
    · refine ⟨by simp [hf.1], fun q h' l' hq hl => ?_⟩
      rcases adi q hs.length with vL|vL
      · rw [adu vL] at hq
        rw[adu (by rw[←hf.1];exact vL)]at hl
        exact hf.2 q h' l' hq hl
      · rw [ads vL] at hq
        rw[ads (by rw[←hf.1];exact vL),←hf.1]at hl
        have hz:q-hs.length=0:=by
          rcases aex (q-hs.length)with e|e
          · exact e
          · rw[aea (by simp;omega)]at hq;cases hq
        rw[hz]at hq hl
        cases hq;cases hl
        exact⟨ho.1,fun k hk=>ho.2 k hk⟩
    · exact hN.says (i+1) c (by simpa using hc)
  · intro i c hc k hk
    rcases get i c hc with⟨_,rfl⟩|⟨_,hc⟩
    · rcases dR k hk with e | e
      · exact hN.low (j+1) _ (by simpa using hj) k e
      · exact hN.low 0 _ rfl k e
    · exact hN.low (i+1) c (by simpa using hc) k hk
  · intro i i' c c' dX hc vS k hk iZ
    rcases get i c hc with⟨rfl,rfl⟩|⟨hi,hc⟩<;>rcases get i' c' vS with⟨rfl,rfl⟩|⟨Ka,vS⟩
    · exact dX rfl
    · rcases dR k hk with e | e
      · exact(z0 i' c' vS).2 Ka k iZ e
      · exact(z0 i' c' vS).1 k iZ e
    · rcases dR k iZ with e | e
      · exact(z0 i c ‹_›).2 hi k hk e
      · exact(z0 i c ‹_›).1 k hk e
    · exact hN.sep (i+1) (i'+1) c c' (by omega) (by simpa using ‹L[i]?=some c›) (by simpa using vS) k hk iZ
theorem aH.kW {E:TypeId} {h:Hd} {l:List α} {hs:List Hd} {ls:List (List α)} (hN:aH w0 F w (.own enc E (vh h) l::L)) (j:Nat) (hj:L[j]?=some (.eD enc hs ls)):aH w0 F w (L.set j (.eD enc (hs++[h]) (ls++[l]))):=
  aH.JF (h:=h) (l:=l) (hN.QU 0 rfl) j hj
end
section
variable {P:Program} {R:Nat→Value} {w0 w w':World} {F:Nat→Prop} {L:List Atom} {K:Value→World→Prop} {dst:Option Tmp} {ty:TypeId} {pos:String} {af:Array Edge} {gd:Option (Nat×Bool)} {α:Type} {enc:α→Value}
theorem Hb {t e : TypeId} {parts : Array (Nat × Operand)} (enc : α → Value) (ht : P.underlying t = some (.slice e)) (eI : (P.info? e).map (·.size) = some 1) (ue : parts = #[]) (hN : aH w0 F w L)
    (h:∀v w',aH w0 F w' (.sl enc v []::L)→K v w'):ey P ⟨dst,.buildSlice t 0 parts,ty,pos,af,gd⟩ R w K:=by
  subst ue
  refine ey.value (v:=.slice (some ⟨w.heap.size,0,none⟩) 0 0) (w':=w.alloc (.cells #[] e)) ?_ (h _ _ (hN.push (Ext.alloc _ _) ⟨⟨_,0,rfl,ac8 _,by unfold maxLen;omega,Cells.nil _ _⟩,fun k hk=>?_⟩ fun k hk=>?_))
  · simp [execOp, Instr.buildSlice, run_underlying ht, fa (w := w) eI, ae2, newRow]
    congr 2
    apply Array.ext'
    simp
  · cases (ac7 hk);simp
  · cases (ac7 hk);exact⟨ac8 _,by simp⟩
end
end Go.Rl
namespace Go.Rl
open Go.ChangeShapes Go.WideShapes
inductive Sh where
  |int (k:IntKind)
  |bool
  |str
  |sl (e:Sh)
  |nil
  |cons (f:Sh) (r:Sh)
def Sh.cells:Sh→Nat
  |.int _|.bool|.str|.sl _=>1
  |.nil=>0
  |.cons f r=>f.cells+r.cells
def Sh.ty:Sh→Type
  |.int _=>Int
  |.bool=>Bool
  |.str=>List UInt8
  |.sl e=>List e.ty
  |.nil=>Unit
  |.cons f r=>f.ty×r.ty
def Sh.rd (w : World) : (s : Sh) → List Value → s.ty → Prop
  |.int k,cs,n=>cs=[.int k n]∧(ajl k n).wf=true
  |.bool,cs,b=>cs=[.bool b]
  |.str,cs,l=>cs=[Rl.str l]∧adQ (α:=UInt8) l≤maxLen
  |.sl e,cs,l=>∃A c,cs=[.slice A (adQ (α:=e.ty) l) c]∧adQ (α:=e.ty) l≤c∧c≤maxLen∧∀(i:Nat) (a:e.ty),(show List e.ty from l)[i]?=some a→
      ∃ll,ll.length=e.cells∧e.rd w ll a∧∀(j:Nat) v,ll[j]?=some v→∃ad,A=some ad∧w.cell? (ad.add (i*e.cells+j))=some v
  |.nil,cs,_=>cs=[]
  |.cons f r,cs,a=>f.rd w (cs.take f.cells) a.1∧r.rd w (cs.drop f.cells) a.2
theorem Sh.np {w : World} : ∀ (s : Sh) {cs : List Value} {a : s.ty}, s.rd w cs a → cs.length = s.cells
  |.int k,cs,a,h=>by rw[h.1];rfl
  |.bool,cs,a,h=>by rw[show cs=_ from h];rfl
  |.str,cs,a,h=>by rw[h.1];rfl
  |.sl e,cs,a,h=>by obtain⟨A,c,rfl,_⟩:=h;rfl
  |.nil,cs,a,h=>by rw[show cs=[]from h];rfl
  |.cons f r,cs,a,h=>by
    have h1:=f.np h.1
    have h2:=r.np h.2
    simp only[ac9,adj]at h1 h2
    simp only[Sh.cells]
    rcases adi cs.length f.cells with hl|hl
    · rw [Nat.min_eq_right (by omega)] at h1
      omega
    · omega
def Sh.fit (P : Program) : Sh → TypeId ⊕ (List Field × Nat) → Bool
  |.int k,.inl t=>match P.underlying t with
    |some (.int k')=>decide (k'=k)
    |_=>false
  |.bool,.inl t=>match P.underlying t with
    |some .bool=>true
    |_=>false
  |.str,.inl t=>match P.underlying t with
    |some .string=>true
    |_=>false
  |.sl e,.inl t=>match P.underlying t with
    |some (.slice te)=>P.cellsOf te == e.cells && e.fit P (.inl te)
    |_=>false
  |.nil,.inl t=>match P.underlying t with
    |some (.struct fs)=>fs.toList.isEmpty && P.cellsOf t == 0
    |_=>false
  |.cons f r,.inl t=>match P.underlying t with
    |some (.struct fs)=>match fs.toList with
      |fd::fds=>P.cellsOf t == f.cells+r.cells && fd.offset == 0 && P.cellsOf fd.type == f.cells && f.fit P (.inl fd.type) && r.fit P (.inr (fds,f.cells))
      |_=>false
    |_=>false
  |.nil,.inr (fds,_)=>fds.isEmpty
  |.cons f r,.inr (fds,off)=>match fds with
    |fd::fds=>fd.offset == off && P.cellsOf fd.type == f.cells && f.fit P (.inl fd.type) && r.fit P (.inr (fds,off+f.cells))
    |_=>false
  |_,.inr _=>false
section
variable {H:Type} {enc:TypeId×Value→H} {P:Program} {w:World} {base:Nat} {spare:Nat→Bool} {held:Bool}
theorem Sh.QQ {α:Type} {e:Sh} {c:Value} {l:List e.ty} {enc:α→Value} {f:e.ty→α} (hc:e.cells=1) (h:(Sh.sl e).rd w [c] l) (he:∀(i:Nat) a c',l[i]?=some a→e.rd w [c'] a→c'=enc (f a)):Sl enc w c (l.map f):=by
  obtain⟨A,cap,oz,h1,h2,h3⟩:=h
  cases oz
  refine⟨A,cap,by simp,by simpa using h1,h2,fun j v hj=>?_⟩
  rw[adI,adI]at hj
  cases hq:l[j]? with
  |none=>rw[hq]at hj;cases hj
  |some a=>
    rw[hq]at hj
    simp only[aeF,aeC]at hj
    subst hj
    obtain⟨ll,g1,g2,g3⟩:=h3 j a hq
    rw[hc]at g1 g3
    obtain⟨c',rfl⟩:∃c',ll=[c']:=by
      cases ll with
      |nil=>cases g1
      |cons c' r=>cases r with
        |nil=>exact⟨c',rfl⟩
        |cons _ _=>simp at g1
    obtain⟨ad,e1,e2⟩:=g3 0 c' rfl
    refine⟨ad,e1,?_⟩
    rw[ahu,agm]at e2
    rw[e2,he j a c' hq g2]
theorem Sh.KL {k:IntKind} {c:Value} {l:List Int} (h:(Sh.sl (.int k)).rd w [c] l):Sl (ac4 k) w c l∧∀n∈l,(ajl k n).wf=true:=by
  have h1:=Sh.QQ (e:=.int k) (enc:=ac4 k) (f:=fun x:Int=>x) rfl h (fun i a c' _ hr=>by cases hr.1;rfl)
  have S5:Sl (ac4 k) w c (List.map (fun x:Int=>x) l):=h1
  rw[List.map_id']at S5
  refine⟨S5,fun n hn=>?_⟩
  obtain⟨i,hi⟩:=ade hn
  obtain⟨A,cap,_,_,_,h3⟩:=h
  obtain⟨ll,_,g2,_⟩:=h3 i n hi
  exact g2.2
end
section
variable {H:Type} {enc:TypeId×Value→H} {P:Program} {W:World} {base:Nat} {held:Bool} {t:TypeId} {d:DataW H} {ps:List MemPlace} {v:Value} {fs:Array Field}
end
end Go.Rl
namespace Go.Rl
open Go.RowKit
section
variable {κ:Type} [DecidableEq κ]
abbrev Kk (κ:Type):=κ×Value×Nat
def kC (ke:κ→Value) (l:List (Kk κ)):Array MapEntry:=(l.map fun e=>(⟨ke e.1,e.2.1,e.2.2⟩:MapEntry)).toArray
def kM (a : κ) : List (Kk κ) → Nat → Option (Nat × Value)
  |[],_=>none
  |e::r,i=>if a=e.1 then some (i,e.2.1)else kM a r (i+1)
structure KE (P:Program) (kt:TypeId) (ke:κ→Value):Prop where
  check:∀(a:κ) (e:Bool) (w:World),(afV e 10000 kt (ke a)).run P w=.ok () w
  find:∀(a:κ) (l:List (Kk κ)) (w:World),(ajs kt (ke a) (kC ke l).toList).run P w=.ok (kM a l 0) w
  bits:∀a,agD 10000 (ke a) (ke a)=true
def Atom.mp (ke:κ→Value) (b:Nat) (l:List (Kk κ)) (clock:Nat):Atom where
  dR k:=k=b
  says w:=w.heap[b]?=some (.map (kC ke l) clock)
  kp:=by
    intro w w' h hs
    exact(h b rfl (adr.1 hs).1).trans hs
end
section
variable {P:Program} {n:Nat} {Q:fJ} {R:Nat→Value} {w0 w:World} {F:Nat→Prop} {L:List Atom} {K:Value→World→Prop} {dst:Option Tmp} {ty:TypeId} {pos:String} {af:Array Edge} {gd:Option (Nat×Bool)}
variable {κ:Type} [DecidableEq κ] {ke:κ→Value} {l:List (Kk κ)} {clock b:Nat}
theorem aH.mp (h:aH w0 F w L) (i:Nat) (hi:L[i]?=some (.mp ke b l clock)):w.heap[b]?=some (.map (kC ke l) clock):=h.says i _ hi
theorem zZ {t kt et:TypeId} (ke:κ→Value) (hN:aH w0 F w L) (h:∀b w',aH w0 F w' (.mp ke b [] 0::L)→K (.map (some b)) w'):ey P ⟨dst,.makeMap t none,ty,pos,af,gd⟩ R w K:=by
  refine ey.value (v:=.map (some w.heap.size)) (w':=w.alloc (.map #[] 0)) (by simp[execOp,Instr.makeMap]) (h _ _ (hN.push (Ext.alloc _ _) ?_ fun k hk=>?_))
  · show (w.alloc (.map #[] 0)).heap[w.heap.size]? = _
    rw[heap_alloc_new];rfl
  · cases hk;simp
theorem KG {l':List (Kk κ)} {c':Nat} (hN:aH w0 F w L) (i:Nat) (hi:L[i]?=some (.mp ke b l clock)):aH w0 F {w with heap:=w.heap.setIfInBounds b (.map (kC ke l') c')} (L.set i (.mp ke b l' c')):=by
  have hb:=hN.mp i hi
  have hs:=MapKept.heap_set (o':=.map (kC ke l') c') hb
  have cD:b<w.heap.size:=(adr.1 hb).1
  exact hN.dm i hi ⟨rfl,rfl,rfl,by simp,fun k _ hM=>hs.2 k hM⟩ hs.1 fun k hk=>⟨.inl hk,by cases hk;simpa using cD⟩
theorem tl {t kt et:TypeId} {a:κ} {v:Value} (ht:P.underlying t=some (.map kt et)) (hk:KE P kt ke) (hb:w.heap[b]?=some (.map (kC ke l) clock)) (hf:kM a l 0=none):
    (ajb t (.map (some b)) (ke a) v).run P w=.ok () {w with heap:=w.heap.setIfInBounds b (.map (kC ke (l++[(a,v,clock)])) (clock+1))}:=by
  have DU:=hk.find a l w
  rw[hf]at DU
  have he:(kC ke l).push {key:=ke a,val:=v,born:=clock}=kC ke (l++[(a,v,clock)]):=by simp[kC]
  simp[ajb,run_underlying ht,af0 hb,hk.check a,DU,MapKept.run_setObj_map _ hb,he]
theorem Ca {t kt et : TypeId} {m x y : Operand} {a : κ} {v : Value} (ht : P.underlying t = some (.map kt et)) (hk : KE P kt ke) (hN : aH w0 F w L) (i : Nat) (hi : L[i]? = some (.mp ke b l clock))
    (hm:ev R m=.map (some b)) (hx:ev R x=ke a) (hy:ev R y=v) (hf:kM a l 0=none) (h:∀w',aH w0 F w' (L.set i (.mp ke b (l++[(a,v,clock)]) (clock+1)))→K undef w'):ey P ⟨dst,.mapUpdate t m x y,ty,pos,af,gd⟩ R w K:=
  ey.unit (by simp[execOp,hm,hx,hy,tl ht hk (hN.mp i hi) hf]) (h _ (KG hN i hi))
theorem p6 {t kt et:TypeId} {m x:Operand} {a:κ} {v:Value} {j:Nat} (ht:P.underlying t=some (.map kt et)) (hk:KE P kt ke) (hb:w.heap[b]?=some (.map (kC ke l) clock)) (hm:ev R m=.map (some b)) (hx:ev R x=ke a) (hf:kM a l 0=some (j,v)):
    Ev P ⟨dst,.lookup t m x true,ty,pos,af,gd⟩ R w (.tuple #[v,.bool true]):=by
  have DU:=hk.find a l w
  rw[hf]at DU
  simp[Ev,execOp,hm,hx,ajC,run_underlying ht,af0 hb,hk.check a,DU]
theorem p7 {t kt et:TypeId} {m x:Operand} {a:κ} {z:Value} (ht:P.underlying t=some (.map kt et)) (hk:KE P kt ke) (hz:(P.info? et).map (·.zero)=some (some z)) (hb:w.heap[b]?=some (.map (kC ke l) clock)) (hm:ev R m=.map (some b)) (hx:ev R x=ke a) (hf:kM a l 0=none):
    Ev P ⟨dst,.lookup t m x true,ty,pos,af,gd⟩ R w (.tuple #[z,.bool false]):=by
  have DU:=hk.find a l w
  rw[hf]at DU
  have Cw:(zeroValue et).run P w=.ok z w:=by
    cases hq:P.info? et with
    |none=>simp[hq]at hz
    |some i=>
      have:i.zero=some z:=by simpa[hq]using hz
      simp[zeroValue,typeInfo,hq,this]
  simp[Ev,execOp,hm,hx,ajC,run_underlying ht,af0 hb,hk.check a,DU,Cw]
end
end Go.Rl
namespace Go.Rl
section
variable {P:Program} {ops:Array Oper} {Qa:Exit→Act→World→Prop} {S:World→Prop} {e:Nat}
def sQ (P : Program) (ops : Array Oper) (Q : Exit → Act → World → Prop) (S : World → Prop) (e : Nat) : Nat → Array Bool → Act → World → Prop
  |0,bx,a,w=>adx .any ops bx=[]∧Q .normal a w
  |fuel+1,bx,a,w=>(adx .any ops bx=[]→Q .normal a w)∧
      ∀i∈adx .any ops bx,wpOp P ops Q i (fun a' w'=>(i≠e→S w')∧sQ P ops Q S e fuel (bx.setIfInBounds i true) a' w') a w
theorem oH : ∀ (fuel : Nat) (bx : Array Bool) (a : Act) (w : World), sQ P ops Qa S e fuel bx a w → wpAny P .any ops Qa fuel bx a w
  |0,_,_,_,h=>h
  |fuel+1,_,_,_,h=>⟨h.1,fun i hi=>wpOp_mono (fun a' w' h'=>oH fuel _ a' w' h'.2) (h.2 i hi)⟩
def waits (ops:Array Oper) (e i:Nat):Bool:=match ops[e]? with
  |some o=>o.after.any fun x=>afu .any x && x.on == i
  |none=>true
theorem zm {i:Nat} {bx:Array Bool} (hw:waits ops e i=true) (hi:i∈adx .any ops bx):e∉adx .any ops bx:=fun he=>by
  obtain⟨_,o,ho,fQ⟩:=mem_ready.1 he
  unfold waits at hw
  rw[ho]at hw
  simp only[Array.any_eq_true,adk,beq_iff_eq]at hw
  obtain⟨q,hq,hb,Z3⟩:=hw
  have h1:=fQ _ (Array.getElem_mem hq) hb
  have h0:=(mem_ready.1 hi).1
  rw[Z3]at h1
  rcases adi i bx.size with h'|h'
  · simp[h']at h0 h1;rw[h0]at h1;cases h1
  · simp[aeU h']at h1
theorem xx {i : Nat} {oi : Oper} {v : Value} (hi : ops[i]? = some oi) (uj : i ≠ e) (Ur : waits ops e i = true) (HY : ∀ (j : Nat) (o : Oper) cs b, ops[j]? = some o → o.op ≠ .select cs b)
    (hQ:∀c a w,Qa (.panic c) (a.put oi.dst v) w→Qa (.panic c) a w):
    ∀(fuel:Nat) (bx:Array Bool) (a:Act) (w:World),
      (∀j oj,ops[j]?=some oj→j≠i→bx.getD j true=false→(∀x∈oj.after,afu .any x=true→x.on≠i)→oi.apart ops oj=true)→
      i∈adx .any ops bx→YieldsIf P ops S oi v a→S w→
      sQ P ops Qa S e fuel (bx.setIfInBounds i true) (a.put oi.dst v) w→sQ P ops Qa S e (fuel+1) bx a w:=by
  intro fuel
  induction fuel with
  |zero=>
    intro bx a w _ hr hy hS H
    refine⟨fun h=>(by rw[h]at hr;cases hr),fun j hj=>?_⟩
    by_cases yo:j=i
    · subst yo;exact hy.wpOp hi hS ⟨fun _=>hS,H⟩
    · have := ready_mono hj yo
      rw[H.1]at this
      cases this
  |succ fuel ih=>
    intro bx a w uB hr hy hS H
    refine⟨fun h=>(by rw[h]at hr;cases hr),fun j hj=>?_⟩
    by_cases yo:j=i
    · subst yo;exact hy.wpOp hi hS ⟨fun _=>hS,H⟩
    · have X2 : j ≠ e := fun h => zm Ur hr (h ▸ hj)
      have h1:=H.2 j (ready_mono hj yo)
      obtain⟨Im,oj,On,fQ⟩:=mem_ready.1 hj
      have Ov:∀x∈oj.after,afu .any x=true→x.on≠i:=fun x hx hb heq=>by
        have h1:=fQ x hx hb
        have h0:=(mem_ready.1 hr).1
        rw[heq]at h1
        rcases adi i bx.size with h'|h'
        · simp[h']at h0 h1;rw[h0]at h1;cases h1
        · simp[aeU h']at h1
      have h2:=wpOp_putIf On (uB j oj On yo Im Ov) (fun cs b=>HY i oi cs b hi) (fun cs b=>HY j oj cs b On) hQ hy h1
      have CO:∀k ok,ops[k]?=some ok→k≠i→(bx.setIfInBounds j true).getD k true=false→
          (∀x∈ok.after,afu .any x=true→x.on≠i)→oi.apart ops ok=true:=fun k ok hk Vk Rh fA=>by
        refine uB k ok hk Vk ?_ fA
        by_cases DM:j=k
        · subst DM;exact Im
        · rw[getD_set_ne true DM]at Rh;exact Rh
      refine wpOp_mono (fun a' w' h3=>⟨fun _=>h3.2.1 X2,ih (bx.setIfInBounds j true) a' w' CO (ready_mono hr (ajj yo)) h3.1 (h3.2.1 X2) ?_⟩) h2
      rw[ag4 _ _ yo]
      exact h3.2.2
end
def RE (P:Program) (n:Nat) (ops:Array Oper) (Q:fJ) (S:World→Prop) (e:Nat) (fuel:Nat) (bx:Array Bool) (R:Nat→Value) (w:World):Prop:=
  ∀a,AtR n R a→sQ P ops (Q.up n) S e fuel bx a w
section
variable {P:Program} {n:Nat} {Q:fJ} {R:Nat→Value} {w:World} {ops:Array Oper} {S:World→Prop} {e fuel:Nat} {bx:Array Bool}
theorem RW.JN {id : Nat} (hm : P.follows .mixedOrders = true) (S : World → Prop) (e : Nat)
    (h:RE P n ops Q S e ops.size (aev ops.size false) R w.drew):RW P n (.region id ops true) Q R w:=fun a ha=>wp_region_any hm (oH _ _ _ _ (h a ha))
theorem RE.done (hr:adx .any ops bx=[]) (h:Q .normal R w):RE P n ops Q S e fuel bx R w:=fun a ha=>by
  cases fuel with
  |zero=>exact⟨hr,R,ha,h⟩
  |succ f=>exact⟨fun _=>⟨R,ha,h⟩,by rw[hr];simp⟩
end
end Go.Rl
namespace Go.Rl
open Go.RowKit
abbrev XF (ro:Option Nat):Fence:={Fence.wide with round:=ro}
structure sO (ds:List Deferred) (n:Nat) (R:Nat→Value) (a:Act):Prop where
  size:a.tmps.size=n
  lD:∀t,a.tmps.getD t undef=R t
  defs:a.defers=ds
def over (ds:List Deferred) (a:Act):Act:={a with defers:=a.defers++ds}
theorem sO.Kj {ds:List Deferred} {n:Nat} {R:Nat→Value} {a:Act} (h:sO ds n R a):AtR n R {a with defers:=[]}:=⟨h.size,h.lD,rfl⟩
theorem sO.eval {ds:List Deferred} {n:Nat} {R:Nat→Value} {a:Act} (h:sO ds n R a):a.eval=ev R:=by
  funext x;cases x<;>simp only[Act.eval,ev];exact h.lD _
theorem AtR.YS {ds:List Deferred} {n:Nat} {R:Nat→Value} {a:Act} (h:AtR n R a):sO ds n R (over ds a):=⟨h.size,h.lD,by simp[over,h.defs]⟩
theorem sO.zT {ds:List Deferred} {n:Nat} {R:Nat→Value} {a:Act} (h:sO ds n R a):over ds {a with defers:=[]}=a:=by
  have:=h.defs;subst this;cases a;rfl
theorem jh (ds:List Deferred) (a:Act) (d:Option Tmp) (v:Value):over ds (a.put d v)=(over ds a).put d v:=by cases d<;>rfl
theorem sO.put {ds:List Deferred} {n:Nat} {R:Nat→Value} {a:Act} (h:sO ds n R a) {dst:Option Tmp} (hd:eL n dst=true) (v:Value):sO ds n (eY R dst v) (a.put dst v):=by
  have:=(h.Kj.put hd v).YS (ds:=ds)
  rwa [jh,h.zT]at this
abbrev eV:=Exit→List Deferred→(Nat→Value)→World→Prop
def eV.up (n:Nat) (Q:eV):Exit→Act→World→Prop:=fun e a w=>∃R ds,sO ds n R a∧Q e ds R w
def XW (P:Program) (ro:Option Nat) (n:Nat) (c:Code) (Q:eV) (ds:List Deferred) (R:Nat→Value) (w:World):Prop:=∀a,sO ds n R a→c.wpIn (XF ro) 0 P (eV.up n Q) a w
def XL (P:Program) (ro:Option Nat) (n:Nat) (ops:Array Oper) (Q:eV) (l:List Oper) (ds:List Deferred) (R:Nat→Value) (w:World):Prop:=∀a,sO ds n R a→wpListIn (XF ro) 0 P ops (eV.up n Q) l a w
def lV (P:Program) (ro:Option Nat) (o:Oper) (R:Nat→Value) (w:World) (K:Value→World→Prop):Prop:=
  ∀n ds a,sO ds n R a→o.wpIn (XF ro) 0 P a w (fun a' w'=>∃v,a'=a.put o.dst v∧K v w') (fun _ _ _=>False)
def ek (o:Oper):Bool:=match o.op with
  |.defer _=>false
  |_=>true
theorem ek.ne {o:Oper} (h:ek o=true):∀c,o.op≠.defer c:=fun c e=>by simp[ek,e]at h
section
variable {P:Program} {ro:Option Nat} {n:Nat} {Q:eV} {R:Nat→Value} {w:World} {ds:List Deferred}
theorem D3 {f:FuncId} {args:Array Value} {K:Ending→World→Prop} {m:Nat} (h:Calls P f args w K):CallsIn (XF ro) m P f args w K:=(callsIn_wide (n:=m)).2 h
theorem ND {row:String} {args:Array Value} {K:Value→World→Prop} {m:Nat} (h:Rows P row args w K):RowsIn (XF ro) m P row args w K:=fun c cs _=>by
  obtain⟨v,w',hk,hs⟩:=h c cs
  exact⟨v,w',hk,(stepsIn_wide (P:=P)).2 hs⟩
theorem G9 {o : Oper} (ox : ek o = true) {a : Act} {K K' : Act → World → Prop} {Qa Qb : Exit → Act → World → Prop} (h : o.wp P a w K Qa) (hp : ∀ c a w, ¬ Qa (.panic c) a w) (ho : ∀ a w, ¬ Qa .outgrown a w)
    (go:∀a1 w',K a1 w'→K' (over ds a1) w'):o.wpIn (XF ro) 0 P (over ds a) w K' Qb:=by
  refine⟨fun _ _=>trivial,?_⟩
  have Fe:(over ds a).eval=a.eval:=by funext x;cases x<;>rfl
  rw[ajt _ _ _ (ek.ne ox),Fe]
  unfold aiD at h
  generalize (execOp a.eval o).run P w=r at*
  have no:¬LetsOut Qa:=fun⟨a,w,hx⟩=>ho a w hx
  cases r with
  |ok x w'=>
    cases x<;>simp only[ah8,afn]at h ⊢
    case value v=>rw[←jh];exact go _ _ h
    case skip=>rw[←jh];exact go _ _ h
    case defer d=>
      have:=go _ _ h
      rw[jh]at this
      exact this
    case enter f args=>
      refine⟨fun e=>(by cases e),ag5 (D3 h) fun e BC he=>?_⟩
      cases e with
      |returned v=>simp only at he ⊢;rw[←jh];exact go _ _ he
      |panicked c=>exact(hp _ _ _ he).elim
      |outgrown=>exact(no he).elim
    case row row args=>
      refine⟨fun e=>(by cases e),aiN (ND h) fun v BC he=>?_⟩
      rw[←jh];exact go _ _ he
  |halt x w'=>
    cases x<;>simp only[ah8,afn]at h ⊢
    case panic u=>exact(hp _ _ _ h).elim
theorem K6 {ops:Array Oper} {Qa Qb:Exit→Act→World→Prop} (hp:∀c a w,¬Qa (.panic c) a w) (ho:∀a w,¬Qa .outgrown a w) (hq:∀a w,Qa .normal a w→Qb .normal (over ds a) w):
    ∀(l:List Oper) (ox:l.all ek=true) (a:Act) (w:World),wpList P ops Qa l a w→wpListIn (XF ro) 0 P ops Qb l (over ds a) w:=by
  intro l
  induction l with
  |nil=>exact fun _ a w h=>hq a w h
  |cons o l ih=>
    intro ox a w h
    simp only[List.all_cons,adk]at ox
    simp only[wpList]at h
    simp only[wpListIn]
    have ht:(over ds a).tmps=a.tmps:=rfl
    rw[ht]
    split
    · rename_i hw
      rw[if_pos hw]at h
      refine h.elim (fun h=>G9 ox.1 h hp ho fun a1 w' hk=>ih ox.2 a1 w' hk) (fun h=>?_)
      obtain⟨_,a,w,hx⟩:=h
      exact(ho a w hx).elim
    · rename_i hw
      rw[if_neg hw]at h
      refine⟨fun _ _=>trivial,?_⟩
      rw[←jh]
      exact ih ox.2 _ w h
theorem PO {ops:Array Oper} (ox:ops.toList.all ek=true) {Qa Qb:Exit→Act→World→Prop} (hp:∀c a w,¬Qa (.panic c) a w) (ho:∀a w,¬Qa .outgrown a w) (hq:∀a w,Qa .normal a w→Qb .normal (over ds a) w):
    ∀(fuel:Nat) (bx:Array Bool) (a:Act) (w:World),wpAny P .any ops Qa fuel bx a w→wpAnyIn (XF ro) 0 P .any ops Qb fuel bx (over ds a) w:=by
  intro fuel
  induction fuel with
  |zero=>exact fun bx a w h=>⟨h.1,hq _ _ h.2⟩
  |succ fuel ih=>
    intro bx a w h
    refine⟨fun e=>hq _ _ (h.1 e),fun i hi=>?_⟩
    have h1:=h.2 i hi
    unfold wpOp at h1
    unfold wpOpIn
    cases Vo:ops[i]? with
    |none=>rw[Vo]at h1;exact ih _ _ _ h1
    |some o=>
      have hn:ek o=true:=afE.1 ox o (by
        have:ops.toList[i]?=some o:=by simpa using Vo
        exact acC this)
      rw[Vo]at h1
      simp only at h1 ⊢
      have ht:(over ds a).tmps=a.tmps:=rfl
      rw[ht]
      split
      · rename_i hw
        rw[if_pos hw]at h1
        refine h1.elim (fun h=>G9 hn h hp ho fun a1 w' hk=>ih _ a1 w' hk) (fun h=>?_)
        obtain⟨_,a,w,hx⟩:=h
        exact(ho a w hx).elim
      · rename_i hw
        rw[if_neg hw]at h1
        refine⟨fun _ _=>trivial,?_⟩
        rw[←jh]
        exact ih _ _ w h1
def pE (K:(Nat→Value)→World→Prop):fJ:=fun e R w=>match e with
  |.normal=>K R w
  |_=>False
theorem Dy {K:(Nat→Value)→World→Prop} (c:List PanicEntry) (a:Act) (w:World):¬(fJ.up n (pE K)) (.panic c) a w:=fun⟨_,_,h⟩=>h
theorem Dz {K:(Nat→Value)→World→Prop} (a:Act) (w:World):¬(fJ.up n (pE K)) .outgrown a w:=fun⟨_,_,h⟩=>h
theorem Dx {a:Act} (h:(fJ.up n (pE fun R w=>Q .normal ds R w)) .normal a w):eV.up n Q .normal (over ds a) w:=by
  obtain⟨R,ha,hq⟩:=h
  exact⟨R,ds,ha.YS,hq⟩
theorem cg {K:(Nat→Value)→World→Prop} (h:K R w):pE K .normal R w:=h
theorem NM {K:(Nat→Value)→World→Prop}:LZ (pE K):=fun _ _ _ h=>h
def wq (K:List Deferred→(Nat→Value)→World→Prop) (Q:eV):eV:=fun e ds R w=>match e with
  |.normal=>K ds R w
  |e=>Q e ds R w
theorem XW.seq {x y:Code} (h:XW P ro n x (wq (fun ds R w=>XW P ro n y Q ds R w) Q) ds R w):XW P ro n (.seq x y) Q ds R w:=fun a ha=>by
  refine wpIn_seq (wpIn_mono (h a ha) ?_)
  rintro e a' w' ⟨R',Ki,hR,hQ⟩
  cases e with
  |normal=>exact hQ a' hR
  |_=>exact⟨R',Ki,hR,hQ⟩
theorem XW.skip (h:Q .normal ds R w):XW P ro n .skip Q ds R w:=fun _ ha=>wpIn_skip ⟨R,ds,ha,h⟩
theorem XW.exit {id:Nat} (h:Q (.exit id) ds R w):XW P ro n (.exit id) Q ds R w:=fun _ ha=>wpIn_exit ⟨R,ds,ha,h⟩
theorem XW.ret (h:Q .ret ds R w):XW P ro n .ret Q ds R w:=fun _ ha=>wpIn_ret ⟨R,ds,ha,h⟩
theorem XW.cond {c:Operand} {x y:Code} (b:Bool) (hc:ev R c=.bool b) (ht:b=true→XW P ro n x Q ds R w) (hf:b=false→XW P ro n y Q ds R w):XW P ro n (.cond c x y) Q ds R w:=
  fun a ha=>wpIn_cond_split (t:=b) (by rw[ha.eval];exact hc) (fun e=>ht e a ha) (fun e=>hf e a ha)
theorem XW.JR {c:Operand} {x y:Code} (hc:ev R c=.bool true) (ht:XW P ro n x Q ds R w):XW P ro n (.cond c x y) Q ds R w:=XW.cond true hc (fun _=>ht) (fun e=>by cases e)
theorem XW.oA {c:Operand} {x y:Code} (hc:ev R c=.bool false) (ht:XW P ro n y Q ds R w):XW P ro n (.cond c x y) Q ds R w:=XW.cond false hc (fun e=>by cases e) (fun _=>ht)
theorem XW.mK {c:Operand} {x y:Code} (p:Prop) [Decidable p] (hc:Rl.ev R c=.bool (decide p)) (ht:p→XW P ro n x Q ds R w) (hf:¬p→XW P ro n y Q ds R w):XW P ro n (.cond c x y) Q ds R w:=
  XW.cond (decide p) hc (fun e=>ht (of_decide_eq_true e)) (fun e=>hf (of_decide_eq_false e))
def qZ (id:Nat) (Q:eV):eV:=fun e ds R w=>match e with
  |.exit HD=>if HD=id then Q .normal ds R w else Q (.exit HD) ds R w
  |e=>Q e ds R w
theorem XW.block {id:Nat} {c:Code} (h:XW P ro n c (qZ id Q) ds R w):XW P ro n (.block id c) Q ds R w:=fun a ha=>by
  refine wpIn_block (wpIn_mono (h a ha) ?_)
  rintro e a' w' ⟨R',Ki,hR,hQ⟩
  cases e with
  |exit HD=>
    simp only[ajx]
    simp only[qZ]at hQ
    split
    · rename_i e;rw[if_pos e]at hQ;exact⟨R',Ki,hR,hQ⟩
    · rename_i e;rw[if_neg e]at hQ;exact⟨R',Ki,hR,hQ⟩
  |_=>exact⟨R',Ki,hR,hQ⟩
theorem least {J:Nat→Prop}:∀k,J k→∃m,J m∧∀j,J j→m≤j:=by
  intro k
  induction k using Nat.strongRecOn with
  |_ k ih=>
    intro h
    by_cases hx:∃j,j<k∧J j
    · obtain⟨j,hj,h⟩:=hx;exact ih j hj h
    · exact⟨k,h,fun j hj=>Nat.le_of_not_lt fun hl=>hx ⟨j,hl,hj⟩⟩
theorem XW.loop {c : Code} (I : Nat → (Nat → Value) → World → Prop) (k0 : Nat) (h0 : I k0 R w)
    (round:∀k R w,I k R w→XW P ro n c (wq (fun Ki R' w'=>Ki=ds∧∃k',k'<k∧I k' R' w') Q) ds R w):XW P ro n (.loop c) Q ds R w:=fun a ha=>by
  let J:Act→World→Nat→Prop:=fun a w k=>∃R,sO ds n R a∧I k R w
  have hm:∀a w,∃m,(∃k,J a w k)→J a w m∧∀j,J a w j→m≤j:=fun a w=>by
    by_cases h:∃k,J a w k
    · obtain ⟨k, hk⟩ := h
      obtain⟨m,hm⟩:=least (J:=J a w) k hk
      exact⟨m,fun _=>hm⟩
    · exact⟨0,fun h'=>absurd h' h⟩
  refine wpIn_loop (fun a w=>∃k,J a w k) (fun a w=>ai5 (hm a w)) ⟨k0,R,ha,h0⟩ ?_
  intro a' w' hI
  obtain⟨⟨R',Wb,Qs⟩,Vf⟩:=agi (hm a' w') hI
  refine wpIn_mono (round _ R' w' Qs a' Wb) ?_
  rintro e WI BC ⟨Qy,Wx,Fk,hQ⟩
  cases e with
  |normal=>
    obtain⟨rfl,k',hk,Qs⟩:=hQ
    have hx:∃k,J WI BC k:=⟨k',Qy,Fk,Qs⟩
    exact⟨hx,adD ((agi (hm WI BC) hx).2 k' ⟨Qy,Fk,Qs⟩) hk⟩
  |_=>exact⟨Qy,Wx,Fk,hQ⟩
theorem bS {K:List Deferred→(Nat→Value)→World→Prop} (h:K ds R w):wq K Q .normal ds R w:=h
theorem na {K:List Deferred→(Nat→Value)→World→Prop} {id:Nat} (h:Q (.exit id) ds R w):wq K Q (.exit id) ds R w:=h
theorem Nj {K:List Deferred→(Nat→Value)→World→Prop} (h:Q .ret ds R w):wq K Q .ret ds R w:=h
theorem eX {id:Nat} (h:Q .normal ds R w):qZ id Q .normal ds R w:=h
theorem iK {id:Nat} (h:Q .normal ds R w):qZ id Q (.exit id) ds R w:=by unfold qZ;simp only[if_true];exact h
theorem XW.region {id:Nat} {l:List Oper} (ox:l.all ek=true) (h:RL P n l.toArray (pE fun R w=>Q .normal ds R w) l R w):XW P ro n (.region id l.toArray false) Q ds R w:=fun a ha=>by
  have:=K6 (ro:=ro) (ds:=ds) (Qb:=eV.up n Q) Dy Dz (fun a w h=>Dx h) l ox _ w (h _ ha.Kj)
  rw[ha.zT]at this
  exact wpIn_region_lit this
theorem XW.bK {id:Nat} {l:List Oper} (h:RL P n l.toArray (pE fun R w=>Q .normal ds R w) l R w) (ox:l.all ek=true:=by exact rfl):XW P ro n (.region id l.toArray false) Q ds R w:=XW.region ox h
theorem XW.sE {id:Nat} {l:List Oper} (h:XL P ro n l.toArray Q l ds R w):XW P ro n (.region id l.toArray false) Q ds R w:=fun a ha=>wpIn_region_lit (h a ha)
theorem XW.JN {id : Nat} {ops : Array Oper} (hm : P.follows .mixedOrders = true) (ox : ops.toList.all ek = true) (S : World → Prop) (e : Nat)
    (h:RE P n ops (pE fun R w=>Q .normal ds R w) S e ops.size (aev ops.size false) R w.drew):XW P ro n (.region id ops true) Q ds R w:=fun a ha=>by
  have:=PO (ro:=ro) (ds:=ds) (Qb:=eV.up n Q) ox Dy Dz (fun a w h=>Dx h) _ _ _ _ (oH _ _ _ _ (h _ ha.Kj))
  rw[ha.zT]at this
  exact wpIn_region_any hm this
theorem lV.of {o:Oper} {K:Value→World→Prop} (ox:ek o=true) (h:ey P o R w K):lV P ro o R w K:=fun m ds a ha=>by
  have:=G9 (ro:=ro) (ds:=ds) (Qb:=fun _ _ _=>False) (K':=fun a' w'=>∃v,a'=a.put o.dst v∧K v w') ox (h m _ ha.Kj) (fun _ _ _ h=>h) (fun _ _ h=>h) (by
    rintro a1 w' ⟨v,rfl,hk⟩
    exact⟨v,by rw[jh,ha.zT],hk⟩)
  rwa [ha.zT]at this
theorem lV.wp {o : Oper} {K : Value → World → Prop} {next : Act → World → Prop} {Q' : Exit → Act → World → Prop} {a : Act} (ha : sO ds n R a) (hd : eL n o.dst = true) (h : lV P ro o R w K)
    (go:∀v w',K v w'→∀(_:sO ds n (eY R o.dst v) (a.put o.dst v)),next (a.put o.dst v) w'):o.wpIn (XF ro) 0 P a w next Q':=by
  have h:=h n ds a ha
  refine⟨h.1,?_⟩
  have h:=h.2
  have go':∀a' w',(∃v,a'=a.put o.dst v∧K v w')→next a' w':=by
    rintro a' w' ⟨v,rfl,hv⟩
    exact go v w' hv (ha.put hd v)
  generalize (o.semAt (XF ro).round a.eval).run P w=r at*
  cases r with
  |ok x w'=>
    cases x<;>simp only[afn]at h ⊢<;>first
      |exact go' _ _ h
      |exact⟨h.1,ag5 h.2 (fun e BC he=>by cases e<;>first|exact go' _ _ he|exact he.elim|exact(by obtain⟨_,_,hx⟩:=he;exact hx.elim))⟩
      |exact⟨h.1,aiN h.2 (fun _ _ he=>go' _ _ he)⟩
      |exact⟨h.1,aib h.2 (fun e BC he=>by cases e<;>first|exact go' _ _ he|exact he.elim|exact(by obtain⟨_,_,hx⟩:=he;exact hx.elim))⟩
  |halt x w'=>cases x<;>simp only[afn]at h ⊢
theorem XL.nil {ops:Array Oper} (h:Q .normal ds R w):XL P ro n ops Q [] ds R w:=fun _ ha=>wpListIn_nil ⟨R,ds,ha,h⟩
theorem XL.op {ops:Array Oper} {o:Oper} {rest:List Oper} (hg:o.guard=none) (hd:eL n o.dst=true) (h:lV P ro o R w (fun v w'=>XL P ro n ops Q rest ds (eY R o.dst v) w')):
    XL P ro n ops Q (o::rest) ds R w:=fun a ha=>wpListIn_plain hg fun K hK=>lV.wp ha hd h fun v w' hv uG=>hK _ _ (hv _ uG)
theorem XL.ev {ops:Array Oper} {o:Oper} {rest:List Oper} {v:Value} (hg:o.guard=none) (hd:eL n o.dst=true) (ox:ek o=true) (h:Ev P o R w v) (hn:XL P ro n ops Q rest ds (eY R o.dst v) w):
    XL P ro n ops Q (o::rest) ds R w:=XL.op hg hd (lV.of ox (ey.ev h hn))
theorem XL.eP {ops:Array Oper} {o:Oper} {rest:List Oper} {v:Value} (h:Ev P o R w v) (hn:XL P ro n ops Q rest ds (eY R o.dst v) w) (hg:o.guard=none:=by exact rfl) (hd:eL n o.dst=true:=by exact rfl) (ox:ek o=true:=by exact rfl):XL P ro n ops Q (o::rest) ds R w:=XL.ev hg hd ox h hn
theorem zj {ops:Array Oper} {a:Act} (ha:sO ds n R a) {j d:Nat} {b:Bool} (hj:(ops[j]?).bind (·.dst)=some d) (mS:d<n) (hb:R d=.bool b):yielded ops a.tmps j=some b:=fX ha.Kj hj mS hb
theorem XL.on {ops : Array Oper} {o : Oper} {rest : List Oper} {j : Nat} {want : Bool} {d : Nat} (hg : o.guard = some (j, want)) (hj : (ops[j]?).bind (·.dst) = some d) (mS : d < n)
    (hb:R d=.bool want) (hd:eL n o.dst=true) (h:lV P ro o R w (fun v w'=>XL P ro n ops Q rest ds (eY R o.dst v) w')):XL P ro n ops Q (o::rest) ds R w:=fun a ha=>by
  refine wpListIn_step fun K hK=>?_
  simp only[adN,hg,zj ha hj mS hb,beq_self_eq_true,if_true]
  exact lV.wp ha hd h fun v w' hv uG=>hK _ _ (hv _ uG)
theorem XL.jx {ops:Array Oper} {o:Oper} {rest:List Oper} {j:Nat} {want:Bool} {d:Nat} (h:lV P ro o R w (fun v w'=>XL P ro n ops Q rest ds (eY R o.dst v) w')) (hg:o.guard=some (j,want):=by exact rfl) (hj:(ops[j]?).bind (·.dst)=some d:=by exact rfl) (mS:d<n:=by decide) (hb:R d=.bool want:=by exact rfl) (hd:eL n o.dst=true:=by exact rfl):XL P ro n ops Q (o::rest) ds R w:=XL.on hg hj mS hb hd h
theorem XL.NO {ops : Array Oper} {o : Oper} {rest : List Oper} {j : Nat} {want : Bool} {d : Nat} {v : Value} (hg : o.guard = some (j, want)) (hj : (ops[j]?).bind (·.dst) = some d) (mS : d < n)
    (hb:R d=.bool want) (hd:eL n o.dst=true) (ox:ek o=true) (h:Ev P o R w v) (hn:XL P ro n ops Q rest ds (eY R o.dst v) w):XL P ro n ops Q (o::rest) ds R w:=XL.on hg hj mS hb hd (lV.of ox (ey.ev h hn))
theorem XL.dA {ops:Array Oper} {o:Oper} {rest:List Oper} {j:Nat} {want:Bool} {d:Nat} {v:Value} (h:Ev P o R w v) (hn:XL P ro n ops Q rest ds (eY R o.dst v) w) (hg:o.guard=some (j,want):=by exact rfl) (hj:(ops[j]?).bind (·.dst)=some d:=by exact rfl) (mS:d<n:=by decide) (hb:R d=.bool want:=by exact rfl) (hd:eL n o.dst=true:=by exact rfl) (ox:ek o=true:=by exact rfl):XL P ro n ops Q (o::rest) ds R w:=XL.NO hg hj mS hb hd ox h hn
theorem XL.off {ops : Array Oper} {o : Oper} {rest : List Oper} {j : Nat} {want : Bool} {d : Nat} (hg : o.guard = some (j, want)) (hj : (ops[j]?).bind (·.dst) = some d) (mS : d < n)
    (hb:R d=.bool (!want)) (hd:eL n o.dst=true) (hn:XL P ro n ops Q rest ds (eY R o.dst undef) w):XL P ro n ops Q (o::rest) ds R w:=fun a ha=>by
  refine wpListIn_step fun K hK=>?_
  have:adN o (yielded ops a.tmps)=false:=by cases want<;>simp[adN,hg,zj ha hj mS hb]
  rw[if_neg (by rw[this];simp)]
  exact⟨fun _ _=>trivial,hK _ _ (hn _ (ha.put hd undef))⟩
end
section
variable {P:Program} {ro:Option Nat} {n:Nat} {Q:eV} {R:Nat→Value} {w:World} {ds:List Deferred} {dst:Option Tmp} {ty:TypeId} {pos:String} {af:Array Edge} {gd:Option (Nat×Bool)}
def o6 (P:Program) (l:Nat) (args:Array Value) (w:World) (K:Value→World→Prop):Prop:=
  ∃f tmps FJ body,(akx l args).run P w=.ok (.round l f tmps FJ body) w∧RoundIn Fence.wide 0 P l f tmps FJ body w fun e w'=>∃v,e=.returned v∧K v w'
theorem o6.mono {l:Nat} {args:Array Value} {K K':Value→World→Prop} (h:o6 P l args w K) (hk:∀v w',K v w'→K' v w'):o6 P l args w K':=by
  obtain⟨f,tmps,FJ,body,h1,h2⟩:=h
  exact⟨f,tmps,FJ,body,h1,h2.mono fun e w' ⟨v,he,hv⟩=>⟨v,he,hk _ _ hv⟩⟩
theorem xU {o:Oper} {l:Nat} {args:Array Value} {K:Value→World→Prop} (ox:ek o=true) (fy:∀r,(akx l args).run P w=.ok r w→(execOp (ev R) o).run P w=.ok r w) (h:o6 P l args w K):lV P ro o R w K:=fun m ds a ha=>by
  obtain⟨f,tmps,FJ,body,h1,h2⟩:=h
  refine⟨fun _ _=>trivial,?_⟩
  rw[ajt _ _ _ (ek.ne ox),ha.eval,fy _ h1]
  simp only[afn]
  refine⟨fun e=>(by cases e),aib (F:=XF ro) h2 ?_⟩
  rintro e w' ⟨v,rfl,hv⟩
  exact⟨v,rfl,hv⟩
theorem dg {K:Value→World→Prop} {qb:Array TypeId} {fv x0:Operand} {v0:Value} {l:Nat} (I4:ev R fv=.func (.yield l) #[] #[]) (qk:ev R x0=v0) (h:o6 P l #[v0] w K):
    lV P ro ⟨dst,.call ⟨.value fv,#[x0],qb⟩,ty,pos,af,gd⟩ R w K:=xU rfl (fun r hr=>by
  subst qk
  simp only[execOp,resolve,I4,aei,ad3,adq,aee,adA,aer,adJ,invoke]
  simpa using hr) h
def mark (D:Nat):List Deferred:=[{target:=.collected D,args:=#[]}]
def JK (P:Program) (fn:Func) (n:Nat) (K:Value→World→Prop):eV:=fun e ds R w=>(e=.ret∨e=.normal)∧
  ((ds=[]∧∃v,RV P fn n R w v∧K v w)∨∃D,ds=mark D∧w.heap[D]?=some (.deferred (some []))∧∃v,RV P fn n R (w.putObj D (.deferred none)) v∧K v (w.putObj D (.deferred none)))
theorem aM.k7 {f : FuncId} {fn : Func} {c : Code} {args : Array Value} {K : Value → World → Prop} (hf : P.funcs[f]? = some fn) (hb : fn.body = some c)
    (hs:args.size≤fn.ntmps) (h:XW P none fn.ntmps c (JK P fn fn.ntmps K) [] (fun t=>args.getD t undef) w):aM P f args w K:=by
  refine(callsIn_wide (n:=0)).1 (callsIn_of_wp_marks (F:=XF none) hf hb trivial ?_)
  refine wpIn_mono (h _ ⟨by rw[agU,ahS];omega,fun t=>?_,rfl⟩) ?_
  · by_cases ht : t < args.size
    · simp[agP ht]
    · have h0 : args[t]? = .none := aeU (by omega)
      simp only[afC,h0]
      rw[agK (by omega),ag0]
      split<;>rfl
  · rintro e a w' ⟨R', Ki, hR, he, hQ⟩
    have key:LeavesInM (XF none) 0 P fn a.tmps (fun e w'=>∃v,e=.returned v∧K v w') a.defers .returning w':=by
      rcases hQ with⟨rfl,v,hv,hk⟩|⟨D,rfl,hD,v,hv,hk⟩
      · rw [hR.defs]
        exact⟨v,hv {a with defers:=[]} hR.Kj,v,rfl,hk⟩
      · rw [hR.defs]
        exact⟨by simp,.inl ⟨D,_,rfl,run_takeDeferred hD,v,hv {a with defers:=[]} hR.Kj,v,rfl,hk⟩⟩
    rcases he with rfl|rfl<;>exact key
theorem QA {fn:Func} {K:Value→World→Prop} {v:Value} (h:RV P fn n R w v) (hk:K v w):JK P fn n K .ret [] R w:=⟨.inl rfl,.inl ⟨rfl,v,h,hk⟩⟩
theorem wi {fn:Func} {K:Value→World→Prop} {v:Value} (h:RV P fn n R w v) (hk:K v w):JK P fn n K .normal [] R w:=⟨.inr rfl,.inl ⟨rfl,v,h,hk⟩⟩
end
section
variable {P:Program} {w0 w w':World} {F:Nat→Prop} {L M N:List Atom}
def Atom.obj (l:Nat) (o:Obj):Atom where
  dR k:=k=l
  says w:=w.heap[l]?=some o
  kp:=by
    intro w w' h hs
    exact(h l rfl (adr.1 hs).1).trans hs
theorem Cg (w:World) (l:Nat) (o:Obj):Mod (fun k=>k=l) w (w.putObj l o):=
  ⟨rfl,rfl,rfl,by simp[ajD],fun k _ hk=>World.putObj_heap_other hk⟩
theorem aH.putObj (h:aH w0 F w L) (i:Nat) {l:Nat} {o:Obj} (o':Obj) (hi:L[i]?=some (.obj l o)):aH w0 F (w.putObj l o') (L.set i (.obj l o')):=by
  have hs:w.heap[l]?=some o:=h.says i _ hi
  have hl:=(adr.1 hs).1
  exact h.dm i hi (Cg w l o') (World.putObj_heap_same hl) fun k hk=>⟨.inl hk,by cases hk;simpa[ajD]using hl⟩
def Atom.all (L:List Atom):Atom where
  dR:=b6 L
  says w:=(∀(i:Nat) a,L[i]?=some a→a.says w)∧(∀(i:Nat) a,L[i]?=some a→∀k,a.dR k→k<w.heap.size)∧∀(i j:Nat) a b,i≠j→L[i]?=some a→L[j]?=some b→∀k,a.dR k→¬b.dR k
  kp:=by
    rintro w w' hb ⟨h1,h2,h3⟩
    refine⟨fun i a hi=>a.kp (fun k hk cD=>hb k ⟨a,acC hi,hk⟩ cD) (h1 i a hi),fun i a hi k hk=>?_,h3⟩
    have hl:=h2 i a hi k hk
    have e:=hb k ⟨a,acC hi,hk⟩ hl
    rw[aeN hl]at e
    exact(adr.1 e).1
theorem Fp:b6 [Atom.all L]=b6 L:=by
  funext k
  exact propext ⟨fun⟨a,ha,hk⟩=>by rw[adh]at ha;subst ha;exact hk,fun h=>⟨_,adh.2 rfl,h⟩⟩
theorem aH.pack (h:aH w0 F w (L++M)):aH w0 F w (.all L::M):=by
  have hL:∀(i:Nat) a,L[i]?=some a→(L++M)[i]?=some a:=fun i a hi=>by rw[adu (acF.1 hi).1];exact hi
  have hM:∀(i:Nat) a,M[i]?=some a→(L++M)[L.length+i]?=some a:=fun i a hi=>by rw[ads (by omega)];simpa using hi
  have HX:∀(j:Nat) b,M[j]?=some b→∀k,b6 L k→¬b.dR k:=by
    rintro j b hj k ⟨a,ha,hk⟩ iZ
    obtain⟨i,hi⟩:=agh.1 ha
    have:=(acF.1 hi).1
    exact h.sep i (L.length+j) a b (by omega) (hL i a hi) (hM j b hj) k hk iZ
  refine⟨h.mod,?_,?_,?_⟩
  · intro i a hi
    cases i with
    |zero=>
      cases hi
      exact⟨fun i a hi=>h.says i a (hL i a hi),fun i a hi k hk=>(h.low i a (hL i a hi) k hk).2,fun i j a b oT hi hj=>h.sep i j a b oT (hL i a hi) (hL j b hj)⟩
    |succ i=>exact h.says _ a (hM i a (by simpa using hi))
  · intro i a hi k hk
    cases i with
    |zero=>
      cases hi
      obtain⟨b,hb,hk⟩:=hk
      obtain⟨i,hi⟩:=agh.1 hb
      exact h.low i b (hL i b hi) k hk
    |succ i=>exact h.low _ a (hM i a (by simpa using hi)) k hk
  · intro i j a b oT hi hj k hk iZ
    cases i with
    |zero=>
      cases hi
      cases j with
      |zero=>exact oT rfl
      |succ j=>exact HX j b (by simpa using hj) k hk iZ
    |succ i=>
      cases j with
      |zero=>cases hj;exact HX i a (by simpa using hi) k iZ hk
      |succ j=>exact h.sep (L.length+i) (L.length+j) a b (by omega) (hM i a (by simpa using hi)) (hM j b (by simpa using hj)) k hk iZ
theorem aH.unpack (h:aH w0 F w (.all L::M)):aH w0 F w (L++M):=by
  have hA:(Atom.all L).says w:=h.says 0 _ rfl
  obtain⟨h1,h2,h3⟩:=hA
  have get:∀(i:Nat) a,(L++M)[i]?=some a→L[i]?=some a∨(L.length≤i∧M[i-L.length]?=some a):=by
    intro i a hi
    rcases adi i L.length with hl|hl
    · rw[adu hl]at hi;exact .inl hi
    · rw[ads hl]at hi;exact .inr ⟨hl,hi⟩
  have HX:∀(i:Nat) a (j:Nat) b,L[i]?=some a→M[j]?=some b→∀k,a.dR k→¬b.dR k:=fun i a j b hi hj k hk iZ=>
    h.sep 0 (j+1) _ b (by omega) rfl (by simpa using hj) k ⟨a,acC hi,hk⟩ iZ
  refine⟨h.mod,?_,?_,?_⟩
  · intro i a hi
    rcases get i a hi with hi|⟨_,hi⟩
    · exact h1 i a hi
    · exact h.says (i-L.length+1) a (by simpa using hi)
  · intro i a hi k hk
    rcases get i a hi with hi|⟨_,hi⟩
    · exact h.low 0 _ rfl k ⟨a,acC hi,hk⟩
    · exact h.low (i-L.length+1) a (by simpa using hi) k hk
  · intro i j a b oT hi hj k hk iZ
    rcases get i a hi with hi|⟨_,hi⟩<;>rcases get j b hj with hj|⟨_,hj⟩
    · exact h3 i j a b oT hi hj k hk iZ
    · exact HX i a _ b hi hj k hk iZ
    · exact HX j b _ a hj hi k iZ hk
    · exact h.sep (i-L.length+1) (j-L.length+1) a b (by omega) (by simpa using hi) (by simpa using hj) k hk iZ
theorem aH.Tl (h:aH w0 F w L):aH w0 F w [.all L]:=aH.pack (M:=[]) (by rwa [adw])
theorem aH.T6 (h:aH w0 F w [.all L]):aH w0 F w L:=by have:=h.unpack;rwa [adw]at this
theorem aH.lI {M:List Atom} {a:Atom} {α:Type} {v:Value} {l:List α} (h:aH w0 F w L) (p:List Nat) (hM:M.map some=p.map (fun i=>L[i]?)) (j:Nat) (hj:L[j]?=some a) (oT:(p.all fun i=>i != j)=true) (hv:∀k,v.ownBlock=some k→a.dR k):sN (b6 M) v l:=by
  rintro hl k hk ⟨b,hb,hf⟩
  have h2:some b∈M.map some:=adg.2 ⟨b,hb,rfl⟩
  rw[hM]at h2
  obtain⟨i,hi0,hi⟩:=adg.1 h2
  have dX:i≠j:=by simpa using afE.1 oT i hi0
  exact h.sep j i _ b (fun e=>dX e.symm) hj hi k (hv k hk) hf
theorem Ge {n : Nat} {R : Nat → Value} {fn : Func} {K : Value → World → Prop} {D : Nat} {e : Exit} (h : aH w0 F w L) (he : e = .ret ∨ e = .normal) (i : Nat) (hi : L[i]? = some (.obj D (.deferred (some []))))
    (hk:∀w',aH w0 F w' (L.set i (.obj D (.deferred none)))→∃v,RV P fn n R w' v∧K v w'):JK P fn n K e (mark D) R w:=
  ⟨he,.inr ⟨D,rfl,h.says i _ hi,hk _ (h.putObj i _ hi)⟩⟩
end
inductive vc {σ ε π : Type} (T : σ → ε → Bool → σ → Prop) (p : ε → π) (s0 : σ) : List π → σ → Prop
  |nil:vc T p s0 [] s0
  |snoc {pre:List π} {s s':σ} {x:ε}:vc T p s0 pre s→T s x true s'→vc T p s0 (pre++[p x]) s'
def Stop {σ ε π:Type} (T:σ→ε→Bool→σ→Prop) (p:ε→π) (s0:σ) (xs:List π) (s':σ):Prop:=∃pre x post s,vc T p s0 pre s∧xs=pre++p x::post∧T s x false s'
def oD {σ ε π:Type} (P:Program) (l:Nat) (C:Bool→σ→Atom) (T:σ→ε→Bool→σ→Prop) (p:ε→π) (s0:σ) (xs:List π) (Rd:(Nat→Prop)→ε→World→Prop) (enc:ε→Array Value):Prop:=
  ∀s x pre post w,vc T p s0 pre s→xs=pre++p x::post→aH w (b6 [C true s]) w [C true s]→Rd (b6 [C true s]) x w→
    o6 P l (enc x) w fun v w'=>∃b s',v=.bool b∧T s x b s'∧aH w (b6 [C true s]) w' [C b s']
def BS (R : Nat → Value) : List (Tmp × Value) → Nat → Value
  |[]=>R
  |(t,v)::l=>BS (dm R t v) l
theorem sO.BS {ds:List Deferred} {n:Nat}:∀(l:List (Tmp×Value)) {R:Nat→Value} {tmps:Array Value},(∀x∈l,x.1<n)→sO ds n R ⟨tmps,ds⟩→
    sO ds n (Rl.BS R l) ⟨l.foldl (fun ts x=>ts.setIfInBounds x.1 x.2) tmps,ds⟩:=by
  intro l
  induction l with
  |nil=>exact fun _ h=>h
  |cons x l ih=>
    intro R tmps hl h
    have:=h.put (dst:=some x.1) (by simpa[eL]using hl x (by simp)) x.2
    exact ih (fun y hy=>hl y (adG _ hy)) this
section
variable {P:Program} {ro:Option Nat} {n:Nat} {Q:eV} {R:Nat→Value} {w0 w:World} {F:Nat→Prop} {L M:List Atom}
def BW {σ:Type} (T:Bool→σ→Prop) (FF:Nat→Prop) (l D:Nat) (rc:LoopState→Option Code→Loop) (S:σ→List Atom) (w:World):eV:=fun e ds R w'=>
  (e=.normal∧∃s',T true s'∧aH w FF w' (.obj l (.loop (rc .busy none))::.obj D (.deferred (some []))::S s'))∨
  (e=.ret∧∃s',T false s'∧aH w FF w' (.obj l (.loop (rc .busy none))::.obj D (.deferred (some []))::S s'))
def yP (P:Program) (l n:Nat) (body:Code) (Qb:eV) (FF:Nat→Prop) (L0:List Atom) (w:World):eV:=fun e ds R w'=>e=.normal∧ds=[]∧w'=w∧∀w2,aH w FF w2 L0→XW P (some l) n body Qb [] R w2
theorem uZ {l:Nat} {body:Code} {Qb:eV} {FF:Nat→Prop} {L0:List Atom} (h:∀w2,aH w FF w2 L0→XW P (some l) n body Qb [] R w2):yP P l n body Qb FF L0 w .normal [] R w:=⟨rfl,rfl,rfl,h⟩
theorem xI {σ:Type} {T:Bool→σ→Prop} {FF:Nat→Prop} {l D:Nat} {rc:LoopState→Option Code→Loop} {S:σ→List Atom} {w w':World} {ds:List Deferred} (s':σ) (hT:T true s') (h:aH w FF w' (.obj l (.loop (rc .busy none))::.obj D (.deferred (some []))::S s')):BW T FF l D rc S w .normal ds R w':=.inl ⟨rfl,s',hT,h⟩
theorem XW.NG {σ ε π : Type} {g : Operand} {ps : Array Tmp} {FJ body : Code} {gf : FuncId} {fn : Func} {lb : Array Value} {p : ε → π} {enc : ε → Array Value} {Rd : (Nat → Prop) → ε → World → Prop} {xs : List π}
    (S:σ→List Atom) (T:σ→ε→Bool→σ→Prop) (s0:σ)
    (hN:aH w0 F w (S s0++M)) (hg:ev R g=.func (.func gf) #[] lb) (hf:P.funcs[gf]?=some fn) (hn:(fn.name == "runtime.NumGoroutine")=false) (hb:fn.body.isSome=true)
    (SB:∀(l:Nat) (C:Bool→σ→Atom) (w:World),oD P l C T p s0 xs Rd enc→aH w0 F w (C true s0::M)→aM P gf (#[.func (.yield l) #[] #[]]++lb) w fun _ w'=>∃s',(vc T p s0 xs s'∧aH w0 F w' [C true s'])∨(Stop T p s0 xs s'∧aH w0 F w' [C false s']))
    (E7:∀x,(enc x).size=ps.size) (cD:∀t∈ps.toList,t<n)
    (Jf:∀(l D:Nat) (rc:LoopState→Option Code→Loop) (FF:Nat→Prop) (s:σ) (x:ε) (pre post:List π) (w:World),vc T p s0 pre s→xs=pre++p x::post→Rd FF x w→aH w FF w (.obj l (.loop (rc .ready none))::.obj D (.deferred (some []))::S s)→
      XW P (some l) n FJ (yP P l n body (BW (T s x) FF l D rc S w) FF (.obj l (.loop (rc .busy none))::.obj D (.deferred (some []))::S s) w) [] (BS R (ps.toList.zip (enc x).toList)) w)
    (I8:∀(l D:Nat) (o:Obj) (s:σ) (w:World),vc T p s0 xs s→aH w0 F w (.obj l o::.obj D (.deferred (some []))::S s)→Q .normal (mark D) R w)
    (UN:∀(l D:Nat) (o:Obj) (s:σ) (w:World),Stop T p s0 xs s→aH w0 F w (.obj l o::.obj D (.deferred (some []))::S s)→Q .ret (mark D) R w):
    XW P none n (.rangeFunc g ps FJ body) Q [] R w:=fun a ha=>by
  refine wpIn_rangeFunc ?_
  intro YP _
  obtain⟨rc,J9⟩:∃rc:LoopState→Option Code→Loop,rc=fun st pe=>{state:=st,pending:=pe,fn:=YP,tmps:=a.tmps,params:=ps,assign:=FJ,body,defers:=w.heap.size}:=⟨_,rfl⟩
  obtain⟨W1,Yh⟩:∃W1,(w.alloc (.deferred (some []))).alloc (.loop (rc .ready none))=W1:=⟨_,rfl⟩
  let O:Bool→Atom:=fun b=>.obj (w.heap.size+1) (.loop (bif b then rc .ready none else rc .done (some .ret)))
  let D:Atom:=.obj w.heap.size (.deferred (some []))
  let C:Bool→σ→Atom:=fun b s=>.all (O b::D::S s)
  have hN1:aH w0 F W1 (C true s0::M):=by
    have h1:aH w0 F (w.alloc (.deferred (some []))) (D::(S s0++M)):=hN.push (Ext.alloc _ _) (ahU w _) fun k hk=>by cases hk;exact⟨ac8 _,by simp⟩
    have h2:aH w0 F W1 (O true::D::(S s0++M)):=by
      rw[←Yh]
      refine h1.push (Ext.alloc _ _) ?_ fun k hk=>?_
      · have := ahU (w.alloc (.deferred (some []))) (.loop (rc .ready none))
        rwa [World.size_alloc]at this
      · cases hk;simp
    exact aH.pack (L:=O true::D::S s0) h2
  have ox:(fn.name == "runtime.NumGoroutine")=false:=hn
  have Rj:oD P (w.heap.size+1) C T p s0 xs Rd enc:=by
    intro s x pre post w1 fy Lh h1 Qj
    have hF:b6 [C true s]=b6 (O true::D::S s):=Fp
    have h1:aH w1 (b6 [C true s]) w1 (O true::D::S s):=h1.T6
    have hl:w1.heap[w.heap.size+1]?=some (.loop (rc .ready none)):=h1.says 0 _ rfl
    have hy:=run_yield (P:=P) (args:=enc x) hl (by rw[J9];exact E7 x)
    rw[J9]at hy
    refine⟨YP,_,FJ,body,hy,roundIn_of_wpIn trivial ?_⟩
    have qL:=Jf (w.heap.size+1) w.heap.size rc _ s x pre post w1 fy Lh Qj h1
    have uG:sO [] n (BS R (ps.toList.zip (enc x).toList)) ⟨(ps.zip (enc x)).foldl (fun tmps (t,a)=>tmps.setIfInBounds t a) a.tmps,[]⟩:=by
      have:=sO.BS (ds:=[]) (n:=n) (ps.toList.zip (enc x).toList) (R:=R) (tmps:=a.tmps) (fun y hy=>cD _ (List.of_mem_zip hy).1) ⟨ha.size,ha.lD,rfl⟩
      rw[←Array.foldl_toList,Array.toList_zip]
      exact this
    refine wpIn_mono (qL _ uG) ?_
    rintro e a1 w2 ⟨R1,ds1,hR1,rfl,rfl,rfl,Lq⟩
    refine⟨_,run_beginRound hl (by rw[J9]),?_⟩
    have h2:aH w2 (b6 [C true s]) (w2.putObj (w.heap.size+1) (.loop {rc .ready none with state:=.busy})) (.obj (w.heap.size+1) (.loop {rc .ready none with state:=.busy})::D::S s):=h1.putObj 0 _ rfl
    have eb:({rc .ready none with state:=.busy}:Loop)=rc .busy none:=by rw[J9]
    rw[eb]at h2 ⊢
    refine wpIn_mono (Lq _ h2 a1 hR1) ?_
    have fin:∀(b:Bool) (s':σ) (w3:World),T s x b s'→aH w2 (b6 [C true s]) w3 (.obj (w.heap.size+1) (.loop (rc .busy none))::.obj w.heap.size (.deferred (some []))::S s')→
        ∃v w',(Instr.endRound (w.heap.size+1) (bif b then none else some .ret)).run P w3=.ok v w'∧∃u,Ending.returned v=.returned u∧∃b s',u=.bool b∧T s x b s'∧aH w2 (b6 [C true s]) w' [C b s']:=by
      intro b s' w3 hT h3
      have OE:w3.heap[w.heap.size+1]?=some (.loop (rc .busy none)):=h3.says 0 _ rfl
      refine⟨_,_,run_endRound _ OE,_,rfl,b,s',by cases b<;>rfl,hT,?_⟩
      have h4:=h3.putObj 0 (.loop {rc .busy none with state:=if(bif b then none else some Code.ret:Option Code).isNone then .ready else .done,pending:=bif b then none else some .ret}) rfl
      have e4:({rc .busy none with state:=if(bif b then none else some Code.ret:Option Code).isNone then .ready else .done,pending:=bif b then none else some .ret}:Loop)=bif b then rc .ready none else rc .done (some .ret):=by
        rw[J9];cases b<;>rfl
      rw[e4]at h4 ⊢
      exact aH.Tl (L:=O b::D::S s') h4
    rintro e a2 w3 ⟨R3,ds3,_,⟨rfl,s',hT,h3⟩|⟨rfl,s',hT,h3⟩⟩
    · exact fin true s' w3 hT h3
    · exact fin false s' w3 hT h3
  refine⟨w.heap.size+1,mark w.heap.size,W1,{target:=.fn (.func gf) lb,args:=#[.func (.yield (w.heap.size+1)) #[] #[]]},W1,gf,#[.func (.yield (w.heap.size+1)) #[] #[]]++lb,W1,?_,?_,fun _ _=>trivial,?_,fun e=>(by cases e),?_⟩
  · rw[←Yh,J9];exact run_enterLoop_outer _ _ _ _ _
  · have Vz : a.eval g = .func (.func gf) #[] lb := by rw [ha.eval]; exact hg
    simp only[resolve,Vz]
    simp[go_sem]
  · have := ei (P := P) (w := W1) (#[.func (.yield (w.heap.size + 1)) #[] #[]] ++ lb) hf ox hb
    simpa[invoke]using this
  · refine ag5 (D3 (SB (w.heap.size + 1) C W1 Rj hN1)) ?_
    rintro e w2 ⟨v,rfl,s',⟨fy,h2⟩|⟨fy,h2⟩⟩
    · have h3 : aH w0 F w2 (O true :: D :: S s') := h2.T6
      have hl:w2.heap[w.heap.size+1]?=some (.loop (rc .ready none)):=h3.says 0 _ rfl
      have OY:(aju (w.heap.size+1)).run P w2=.ok (none) (w2.putObj (w.heap.size+1) (.loop {rc .ready none with state:=.exhausted})):=by
        have:=run_endLoop (P:=P) hl (by rw[J9];simp)
        rw[J9]at this ⊢;exact this
      refine⟨none,_,OY,?_⟩
      refine⟨R,mark w.heap.size,⟨ha.size,ha.lD,by simp[ha.defs]⟩,?_⟩
      exact I8 _ _ _ s' _ fy (h3.putObj 0 _ rfl)
    · have h3 : aH w0 F w2 (O false :: D :: S s') := h2.T6
      have hl:w2.heap[w.heap.size+1]?=some (.loop (rc .done (some .ret))):=h3.says 0 _ rfl
      have OY:(aju (w.heap.size+1)).run P w2=.ok (some .ret) (w2.putObj (w.heap.size+1) (.loop {rc .done (some .ret)with state:=.exhausted})):=by
        have:=run_endLoop (P:=P) hl (by rw[J9];simp)
        rw[J9]at this ⊢;exact this
      refine⟨some .ret,_,OY,?_⟩
      refine wpIn_ret ⟨R,mark w.heap.size,⟨ha.size,ha.lD,by simp[ha.defs]⟩,?_⟩
      exact UN _ _ _ s' _ fy (h3.putObj 0 _ rfl)
end
end Go.Rl
namespace Go.Rl
def KB (n:Nat) (ops:Array Oper) (i:Nat):Bool:=match ops[i]? with
  |some o=>eL n o.dst && (match o.guard with
    |none=>true
    |some (j,_)=>match (ops[j]?).bind (·.dst)with
      |some d=>decide (d<n)
      |none=>false)
  |none=>false
def z1 (n : Nat) (ops : Array Oper) (e : Nat) : List (Nat × Nat) → Array Bool → Bool
  |[],_=>true
  |(i,k)::r,bx=>KB n ops i && (match k with
    |0=>afL .any ops bx i && (adx .any ops bx).contains i && !(i == e) && waits ops e i
    |1=>adx .any ops bx == [i]
    |_=>adx .any ops bx == [i] && i == e) && z1 n ops e r (bx.setIfInBounds i true)
def RQ (P:Program) (n:Nat) (ops:Array Oper) (Q:fJ) (S:World→Prop) (e fuel:Nat) (st:List (Nat×Nat)) (bx:Array Bool) (R:Nat→Value) (w:World):Prop:=
  z1 n ops e st bx=true→aeE ops=true→LZ Q→S w→RE P n ops Q S e fuel bx R w
section
variable {P:Program} {n:Nat} {Q:fJ} {R:Nat→Value} {w:World} {ops:Array Oper} {S:World→Prop} {e fuel i k:Nat} {st:List (Nat×Nat)} {bx:Array Bool} {o:Oper} {v:Value}
theorem nW (h:z1 n ops e ((i,k)::st) bx=true):KB n ops i=true∧z1 n ops e st (bx.setIfInBounds i true)=true:=by
  simp only[z1,adk]at h
  exact⟨h.1.1,h.2⟩
theorem xX (h:z1 n ops e ((i,0)::st) bx=true):afL .any ops bx i=true∧(adx .any ops bx).contains i=true∧i≠e∧waits ops e i=true:=by
  simp only[z1,adk,Bool.not_eq_true',beq_eq_false_iff_ne]at h
  exact⟨h.1.2.1.1.1,h.1.2.1.1.2,h.1.2.1.2,h.1.2.2⟩
theorem xY (h:z1 n ops e ((i,1)::st) bx=true):adx .any ops bx=[i]:=by
  simp only[z1,adk,beq_iff_eq]at h
  exact h.1.2
theorem KT (h:z1 n ops e ((i,2)::st) bx=true):adx .any ops bx=[i]∧i=e:=by
  simp only[z1,adk,beq_iff_eq]at h
  exact h.1.2
theorem l0 (h:KB n ops i=true) (hi:ops[i]?=some o):eL n o.dst=true:=by
  unfold KB at h
  rw[hi]at h
  simp only[adk]at h
  exact h.1
theorem po {j d:Nat} {b:Bool} (h:KB n ops i=true) (hi:ops[i]?=some o) (hg:o.guard=some (j,b)) (hj:(ops[j]?).bind (·.dst)=some d):d<n:=by
  unfold KB at h
  rw[hi]at h
  simp only[hg,hj,adk,decide_eq_true_eq]at h
  exact h.2
theorem RE.Gu {i : Nat} {o : Oper} {v : Value} (hi : ops[i]? = some o) (uj : i ≠ e) (Ur : waits ops e i = true) (hs : aeE ops = true)
    (hf:afL .any ops bx i=true) (hr:(adx .any ops bx).contains i=true) (hp:LZ Q) (hd:eL n o.dst=true) (hS:S w) (hy:∀a,AtR n R a→YieldsIf P ops S o v a)
    (hn:RE P n ops Q S e fuel (bx.setIfInBounds i true) (eY R o.dst v) w):RE P n ops Q S e (fuel+1) bx R w:=fun a ha=>
  xx hi uj Ur (ahV hs) (fun c a w=>pj hp _ _ a w) fuel bx a w (ai6 hi hf) (by simpa using hr) (hy a ha) hS (hn _ (ha.put hd v))
theorem RQ.ev (hi:ops[i]?=some o) (hg:o.guard=none) (h:∀w,S w→Ev P o R w v) (hn:RQ P n ops Q S e fuel st (bx.setIfInBounds i true) (eY R o.dst v) w):RQ P n ops Q S e (fuel+1) ((i,0)::st) bx R w:=fun ff hs hp hS=>by
  obtain⟨h1,h2⟩:=nW ff
  obtain⟨g1,g2,g3,g4⟩:=xX ff
  exact RE.Gu hi g3 g4 hs g1 g2 hp (l0 h1 hi) hS (fun a ha=>.inl ⟨by simp[adN,hg],fun w hw=>by rw[ha.eval];exact h w hw⟩) (hn h2 hs hp hS)
theorem RQ.an (hi:ops[i]?=some o) (h:∀w,S w→Ev P o R w v) (hn:RQ P n ops Q S e fuel st (bx.setIfInBounds i true) (eY R o.dst v) w) (hg:o.guard=none:=by exact rfl):RQ P n ops Q S e (fuel+1) ((i,0)::st) bx R w:=RQ.ev hi hg h hn
theorem RQ.on {j d:Nat} {want:Bool} (hi:ops[i]?=some o) (hg:o.guard=some (j,want)) (hj:(ops[j]?).bind (·.dst)=some d) (hb:R d=.bool want) (h:∀w,S w→Ev P o R w v) (hn:RQ P n ops Q S e fuel st (bx.setIfInBounds i true) (eY R o.dst v) w):
    RQ P n ops Q S e (fuel+1) ((i,0)::st) bx R w:=fun ff hs hp hS=>by
  obtain⟨h1,h2⟩:=nW ff
  obtain⟨g1,g2,g3,g4⟩:=xX ff
  exact RE.Gu hi g3 g4 hs g1 g2 hp (l0 h1 hi) hS (fun a ha=>.inl ⟨by simp[adN,hg,fX ha hj (po h1 hi hg hj) hb],fun w hw=>by rw[ha.eval];exact h w hw⟩) (hn h2 hs hp hS)
theorem RQ.aR {j d:Nat} {want:Bool} (hi:ops[i]?=some o) (h:∀w,S w→Ev P o R w v) (hn:RQ P n ops Q S e fuel st (bx.setIfInBounds i true) (eY R o.dst v) w) (hg:o.guard=some (j,want):=by exact rfl) (hj:(ops[j]?).bind (·.dst)=some d:=by exact rfl) (hb:R d=.bool want:=by exact rfl):RQ P n ops Q S e (fuel+1) ((i,0)::st) bx R w:=RQ.on hi hg hj hb h hn
theorem RQ.GG (hi:ops[i]?=some o) (hy:∀a,AtR n R a→KB n ops i=true→adN o (yielded ops a.tmps)=false) (hn:RQ P n ops Q S e fuel st (bx.setIfInBounds i true) (eY R o.dst undef) w):
    RQ P n ops Q S e (fuel+1) ((i,k)::st) bx R w:=fun ff hs hp hS=>by
  obtain⟨h1,h2⟩:=nW ff
  have hn:=hn h2 hs hp hS
  have go:adx .any ops bx=[i]→RE P n ops Q S e (fuel+1) bx R w:=fun hr a ha=>by
    refine⟨fun h0=>(by rw[hr]at h0;cases h0),fun j hj=>?_⟩
    have:j=i:=by rw[hr]at hj;simpa using hj
    subst this
    unfold wpOp
    simp only[hi,hy a ha h1,adT,if_false]
    exact⟨fun _=>hS,hn _ (ha.put (l0 h1 hi) undef)⟩
  match k,ff with
  |0,ff=>
    obtain⟨g1,g2,g3,g4⟩:=xX ff
    exact RE.Gu hi g3 g4 hs g1 g2 hp (l0 h1 hi) hS (fun a ha=>.inr ⟨hy a ha h1,rfl⟩) hn
  |1,ff=>exact go (xY ff)
  |k+2,ff=>
    refine go ?_
    simp only[z1,adk,beq_iff_eq]at ff
    exact ff.1.2.1
theorem RQ.off {j d:Nat} {want:Bool} (hi:ops[i]?=some o) (hg:o.guard=some (j,want)) (hj:(ops[j]?).bind (·.dst)=some d) (hb:R d=.bool (!want)) (hn:RQ P n ops Q S e fuel st (bx.setIfInBounds i true) (eY R o.dst undef) w):
    RQ P n ops Q S e (fuel+1) ((i,k)::st) bx R w:=RQ.GG hi (fun a ha h1=>by cases want<;>simp[adN,hg,fX ha hj (po h1 hi hg hj) hb]) hn
theorem RQ.bU {j d:Nat} {want:Bool} (hi:ops[i]?=some o) (hn:RQ P n ops Q S e fuel st (bx.setIfInBounds i true) (eY R o.dst undef) w) (hg:o.guard=some (j,want):=by exact rfl) (hj:(ops[j]?).bind (·.dst)=some d:=by exact rfl) (hb:R d=.bool (!want):=by exact rfl):RQ P n ops Q S e (fuel+1) ((i,k)::st) bx R w:=RQ.off hi hg hj hb hn
theorem RQ.NR {j d:Nat} {want:Bool} (hi:ops[i]?=some o) (hg:o.guard=some (j,want)) (hj:(ops[j]?).bind (·.dst)=some d) (hb:R d=undef) (hn:RQ P n ops Q S e fuel st (bx.setIfInBounds i true) (eY R o.dst undef) w):
    RQ P n ops Q S e (fuel+1) ((i,k)::st) bx R w:=RQ.GG hi (fun a ha h1=>by simp[adN,hg,og ha hj (po h1 hi hg hj) hb]) hn
theorem RQ.dP {j d:Nat} {want:Bool} (hi:ops[i]?=some o) (hn:RQ P n ops Q S e fuel st (bx.setIfInBounds i true) (eY R o.dst undef) w) (hg:o.guard=some (j,want):=by exact rfl) (hj:(ops[j]?).bind (·.dst)=some d:=by exact rfl) (hb:R d=undef:=by exact rfl):RQ P n ops Q S e (fuel+1) ((i,k)::st) bx R w:=RQ.NR hi hg hj hb hn
theorem RQ.do (hi:ops[i]?=some o) (hg:o.guard=none) (h:ey P o R w (fun v w'=>S w'∧RQ P n ops Q S e fuel st (bx.setIfInBounds i true) (eY R o.dst v) w')):RQ P n ops Q S e (fuel+1) ((i,1)::st) bx R w:=fun ff hs hp hS a ha=>by
  obtain⟨h1,h2⟩:=nW ff
  have hr:=xY ff
  refine⟨fun h0=>(by rw[hr]at h0;cases h0),fun j hj=>?_⟩
  have:j=i:=by rw[hr]at hj;simpa using hj
  subst this
  unfold wpOp
  simp only[hi,adN,hg,if_true]
  exact .inl (ey.wp ha (l0 h1 hi) h fun v w' hv uG=>⟨fun _=>hv.1,hv.2 h2 hs hp hv.1 _ uG⟩)
theorem RQ.bW (hi:ops[i]?=some o) (h:ey P o R w (fun v w'=>S w'∧RQ P n ops Q S e fuel st (bx.setIfInBounds i true) (eY R o.dst v) w')) (hg:o.guard=none:=by exact rfl):RQ P n ops Q S e (fuel+1) ((i,1)::st) bx R w:=RQ.do hi hg h
theorem RQ.Wy {j d : Nat} {want : Bool} (hi : ops[i]? = some o) (hg : o.guard = some (j, want)) (hj : (ops[j]?).bind (·.dst) = some d) (hb : R d = .bool want)
    (h:ey P o R w (fun v w'=>S w'∧RQ P n ops Q S e fuel st (bx.setIfInBounds i true) (eY R o.dst v) w')):RQ P n ops Q S e (fuel+1) ((i,1)::st) bx R w:=fun ff hs hp hS a ha=>by
  obtain⟨h1,h2⟩:=nW ff
  have hr:=xY ff
  refine⟨fun h0=>(by rw[hr]at h0;cases h0),fun q hq=>?_⟩
  have:q=i:=by rw[hr]at hq;simpa using hq
  subst this
  unfold wpOp
  simp only[hi,adN,hg,fX ha hj (po h1 hi hg hj) hb,beq_self_eq_true,if_true]
  exact .inl (ey.wp ha (l0 h1 hi) h fun v w' hv uG=>⟨fun _=>hv.1,hv.2 h2 hs hp hv.1 _ uG⟩)
theorem RQ.dQ {j d:Nat} {want:Bool} (hi:ops[i]?=some o) (h:ey P o R w (fun v w'=>S w'∧RQ P n ops Q S e fuel st (bx.setIfInBounds i true) (eY R o.dst v) w')) (hg:o.guard=some (j,want):=by exact rfl) (hj:(ops[j]?).bind (·.dst)=some d:=by exact rfl) (hb:R d=.bool want:=by exact rfl):RQ P n ops Q S e (fuel+1) ((i,1)::st) bx R w:=RQ.Wy hi hg hj hb h
def RZ (P:Program) (n:Nat) (ops:Array Oper) (Q:fJ) (S:World→Prop) (e fuel:Nat) (bx:Array Bool) (R:Nat→Value) (w:World):Prop:=RE P n ops Q S e fuel bx R w
theorem RQ.last (hi:ops[i]?=some o) (hg:o.guard=none) (h:ey P o R w (fun v w'=>RZ P n ops Q S e fuel (bx.setIfInBounds i true) (eY R o.dst v) w')):RQ P n ops Q S e (fuel+1) ((i,2)::st) bx R w:=fun ff hs hp hS a ha=>by
  obtain⟨h1,h2⟩:=nW ff
  obtain⟨hr,rfl⟩:=KT ff
  refine⟨fun h0=>(by rw[hr]at h0;cases h0),fun j hj=>?_⟩
  have:j=i:=by rw[hr]at hj;simpa using hj
  subst this
  unfold wpOp
  simp only[hi,adN,hg,if_true]
  exact .inl (ey.wp ha (l0 h1 hi) h fun v w' hv uG=>⟨fun h=>absurd rfl h,hv _ uG⟩)
theorem RZ.done (hr:adx .any ops bx=[]) (h:Q .normal R w):RZ P n ops Q S e fuel bx R w:=RE.done hr h
theorem RZ.dW (h:Q .normal R w) (hr:adx .any ops bx=[]:=by kernel_rfl):RZ P n ops Q S e fuel bx R w:=RZ.done hr h
theorem RQ.done (hr:adx .any ops bx=[]) (h:Q .normal R w):RQ P n ops Q S e fuel [] bx R w:=fun _ _ _ _=>RE.done hr h
theorem RQ.bq (h:Q .normal R w) (hr:adx .any ops bx=[]:=by kernel_rfl):RQ P n ops Q S e fuel [] bx R w:=RQ.done hr h
theorem RQ.two {i j : Nat} {o o' : Oper} (st WX : List (Nat × Nat)) (hr : adx .any ops bx = [i, j]) (hi : ops[i]? = some o) (hg : o.guard = none) (hj : ops[j]? = some o') (Vz : o'.guard = none)
    (ff:(z1 n ops e st (bx.setIfInBounds i true) && z1 n ops e WX (bx.setIfInBounds j true) && KB n ops i && KB n ops j)=true)
    (h:ey P o R w (fun v w'=>S w'∧RQ P n ops Q S e fuel st (bx.setIfInBounds i true) (eY R o.dst v) w'))
    (h':ey P o' R w (fun v w'=>S w'∧RQ P n ops Q S e fuel WX (bx.setIfInBounds j true) (eY R o'.dst v) w')):RQ P n ops Q S e (fuel+1) [] bx R w:=fun _ hs hp hS a ha=>by
  simp only[adk]at ff
  obtain⟨⟨⟨h1,h2⟩,h3⟩,h4⟩:=ff
  refine⟨fun h0=>(by rw[hr]at h0;cases h0),fun q hq=>?_⟩
  rw[hr]at hq
  simp only[ac6,ac0,or_false]at hq
  rcases hq with rfl|rfl
  · unfold wpOp
    simp only[hi,adN,hg,if_true]
    exact .inl (ey.wp ha (l0 h3 hi) h fun v w' hv uG=>⟨fun _=>hv.1,hv.2 h1 hs hp hv.1 _ uG⟩)
  · unfold wpOp
    simp only[hj,adN,Vz,if_true]
    exact .inl (ey.wp ha (l0 h4 hj) h' fun v w' hv uG=>⟨fun _=>hv.1,hv.2 h2 hs hp hv.1 _ uG⟩)
end
section
variable {P:Program} {ro:Option Nat} {n:Nat} {Q:fJ} {X:eV} {R:Nat→Value} {w:World} {ops:Array Oper} {ds:List Deferred} {id:Nat}
theorem RW.A9 (hm : P.follows .mixedOrders = true) (S : World → Prop) (e : Nat) (st : List (Nat × Nat)) (hp : LZ Q) (ff : (z1 n ops e st (aev ops.size false) && aeE ops) = true) (hS : S w.drew)
    (h:RQ P n ops Q S e ops.size st (aev ops.size false) R w.drew):RW P n (.region id ops true) Q R w:=by
  simp only[adk]at ff
  exact RW.JN hm S e (h ff.1 ff.2 hp hS)
theorem RW.bA (S:World→Prop) (e:Nat) (st:List (Nat×Nat)) (hp:LZ Q) (hS:S w.drew) (h:RQ P n ops Q S e ops.size st (aev ops.size false) R w.drew) (hm:P.follows .mixedOrders=true:=by exact rfl) (ff:(z1 n ops e st (aev ops.size false) && aeE ops)=true:=by kernel_rfl):RW P n (.region id ops true) Q R w:=RW.A9 hm S e st hp ff hS h
theorem XW.A9 (hm : P.follows .mixedOrders = true) (ox : ops.toList.all ek = true) (S : World → Prop) (e : Nat) (st : List (Nat × Nat)) (ff : (z1 n ops e st (aev ops.size false) && aeE ops) = true) (hS : S w.drew)
    (h:RQ P n ops (pE fun R w=>X .normal ds R w) S e ops.size st (aev ops.size false) R w.drew):XW P ro n (.region id ops true) X ds R w:=by
  simp only[adk]at ff
  exact XW.JN hm ox S e (h ff.1 ff.2 NM hS)
end
end Go.Rl
namespace Go.Rl
theorem Zd {R:Nat→Value} {a1:Nat} {v1:Value} (h1:R a1=v1):∃Q,R=(dm Q a1 v1):=⟨R,by rw[bn h1]⟩
theorem BE {R:Nat→Value} {a1 a2:Nat} {v1 v2:Value} (h1:R a1=v1) (h2:R a2=v2):∃Q,R=(dm (dm Q a1 v1) a2 v2):=⟨R,by rw[bn h1,bn h2]⟩
theorem k5 {R:Nat→Value} {a1 a2 a3:Nat} {v1 v2 v3:Value} (h1:R a1=v1) (h2:R a2=v2) (h3:R a3=v3):∃Q,R=(dm (dm (dm Q a1 v1) a2 v2) a3 v3):=⟨R,by rw[bn h1,bn h2,bn h3]⟩
theorem iV {R:Nat→Value} {a1 a2 a3 a4:Nat} {v1 v2 v3 v4:Value} (h1:R a1=v1) (h2:R a2=v2) (h3:R a3=v3) (h4:R a4=v4):∃Q,R=(dm (dm (dm (dm Q a1 v1) a2 v2) a3 v3) a4 v4):=⟨R,by rw[bn h1,bn h2,bn h3,bn h4]⟩
theorem hC {R:Nat→Value} {a1 a2 a3 a4 a5:Nat} {v1 v2 v3 v4 v5:Value} (h1:R a1=v1) (h2:R a2=v2) (h3:R a3=v3) (h4:R a4=v4) (h5:R a5=v5):∃Q,R=(dm (dm (dm (dm (dm Q a1 v1) a2 v2) a3 v3) a4 v4) a5 v5):=⟨R,by rw[bn h1,bn h2,bn h3,bn h4,bn h5]⟩
theorem oK {R:Nat→Value} {a1 a2 a3 a4 a5 a6:Nat} {v1 v2 v3 v4 v5 v6:Value} (h1:R a1=v1) (h2:R a2=v2) (h3:R a3=v3) (h4:R a4=v4) (h5:R a5=v5) (h6:R a6=v6):∃Q,R=(dm (dm (dm (dm (dm (dm Q a1 v1) a2 v2) a3 v3) a4 v4) a5 v5) a6 v6):=⟨R,by rw[bn h1,bn h2,bn h3,bn h4,bn h5,bn h6]⟩
theorem BD {R:Nat→Value} {a1 a2 a3 a4 a5 a6 a7:Nat} {v1 v2 v3 v4 v5 v6 v7:Value} (h1:R a1=v1) (h2:R a2=v2) (h3:R a3=v3) (h4:R a4=v4) (h5:R a5=v5) (h6:R a6=v6) (h7:R a7=v7):∃Q,R=(dm (dm (dm (dm (dm (dm (dm Q a1 v1) a2 v2) a3 v3) a4 v4) a5 v5) a6 v6) a7 v7):=⟨R,by rw[bn h1,bn h2,bn h3,bn h4,bn h5,bn h6,bn h7]⟩
theorem rN {R:Nat→Value} {a1 a2 a3 a4 a5 a6 a7 a8:Nat} {v1 v2 v3 v4 v5 v6 v7 v8:Value} (h1:R a1=v1) (h2:R a2=v2) (h3:R a3=v3) (h4:R a4=v4) (h5:R a5=v5) (h6:R a6=v6) (h7:R a7=v7) (h8:R a8=v8):∃Q,R=(dm (dm (dm (dm (dm (dm (dm (dm Q a1 v1) a2 v2) a3 v3) a4 v4) a5 v5) a6 v6) a7 v7) a8 v8):=⟨R,by rw[bn h1,bn h2,bn h3,bn h4,bn h5,bn h6,bn h7,bn h8]⟩
theorem Nt {R:Nat→Value} {a1 a2 a3 a4 a5 a6 a7 a8 a9:Nat} {v1 v2 v3 v4 v5 v6 v7 v8 v9:Value} (h1:R a1=v1) (h2:R a2=v2) (h3:R a3=v3) (h4:R a4=v4) (h5:R a5=v5) (h6:R a6=v6) (h7:R a7=v7) (h8:R a8=v8) (h9:R a9=v9):∃Q,R=(dm (dm (dm (dm (dm (dm (dm (dm (dm Q a1 v1) a2 v2) a3 v3) a4 v4) a5 v5) a6 v6) a7 v7) a8 v8) a9 v9):=⟨R,by rw[bn h1,bn h2,bn h3,bn h4,bn h5,bn h6,bn h7,bn h8,bn h9]⟩
theorem WW {R:Nat→Value} {a1 a2 a3 a4 a5 a6 a7 a8 a9 xn:Nat} {v1 v2 v3 v4 v5 v6 v7 v8 v9 v10:Value} (h1:R a1=v1) (h2:R a2=v2) (h3:R a3=v3) (h4:R a4=v4) (h5:R a5=v5) (h6:R a6=v6) (h7:R a7=v7) (h8:R a8=v8) (h9:R a9=v9) (lU:R xn=v10):∃Q,R=(dm (dm (dm (dm (dm (dm (dm (dm (dm (dm Q a1 v1) a2 v2) a3 v3) a4 v4) a5 v5) a6 v6) a7 v7) a8 v8) a9 v9) xn v10):=⟨R,by rw[bn h1,bn h2,bn h3,bn h4,bn h5,bn h6,bn h7,bn h8,bn h9,bn lU]⟩
theorem Gq {R:Nat→Value} {a1 a2 a3 a4 a5 a6 a7 a8 a9 xn Bi:Nat} {v1 v2 v3 v4 v5 v6 v7 v8 v9 v10 v11:Value} (h1:R a1=v1) (h2:R a2=v2) (h3:R a3=v3) (h4:R a4=v4) (h5:R a5=v5) (h6:R a6=v6) (h7:R a7=v7) (h8:R a8=v8) (h9:R a9=v9) (lU:R xn=v10) (yy:R Bi=v11):∃Q,R=(dm (dm (dm (dm (dm (dm (dm (dm (dm (dm (dm Q a1 v1) a2 v2) a3 v3) a4 v4) a5 v5) a6 v6) a7 v7) a8 v8) a9 v9) xn v10) Bi v11):=⟨R,by rw[bn h1,bn h2,bn h3,bn h4,bn h5,bn h6,bn h7,bn h8,bn h9,bn lU,bn yy]⟩
theorem WV {R:Nat→Value} {a1 a2 a3 a4 a5 a6 a7 a8 a9 xn Bi JZ:Nat} {v1 v2 v3 v4 v5 v6 v7 v8 v9 v10 v11 rh:Value} (h1:R a1=v1) (h2:R a2=v2) (h3:R a3=v3) (h4:R a4=v4) (h5:R a5=v5) (h6:R a6=v6) (h7:R a7=v7) (h8:R a8=v8) (h9:R a9=v9) (lU:R xn=v10) (yy:R Bi=v11) (Kc:R JZ=rh):∃Q,R=(dm (dm (dm (dm (dm (dm (dm (dm (dm (dm (dm (dm Q a1 v1) a2 v2) a3 v3) a4 v4) a5 v5) a6 v6) a7 v7) a8 v8) a9 v9) xn v10) Bi v11) JZ rh):=⟨R,by rw[bn h1,bn h2,bn h3,bn h4,bn h5,bn h6,bn h7,bn h8,bn h9,bn lU,bn yy,bn Kc]⟩
theorem WU {R:Nat→Value} {a1 a2 a3 a4 a5 a6 a7 a8 a9 xn Bi JZ M7:Nat} {v1 v2 v3 v4 v5 v6 v7 v8 v9 v10 v11 rh wm:Value} (h1:R a1=v1) (h2:R a2=v2) (h3:R a3=v3) (h4:R a4=v4) (h5:R a5=v5) (h6:R a6=v6) (h7:R a7=v7) (h8:R a8=v8) (h9:R a9=v9) (lU:R xn=v10) (yy:R Bi=v11) (Kc:R JZ=rh) (MU:R M7=wm):∃Q,R=(dm (dm (dm (dm (dm (dm (dm (dm (dm (dm (dm (dm (dm Q a1 v1) a2 v2) a3 v3) a4 v4) a5 v5) a6 v6) a7 v7) a8 v8) a9 v9) xn v10) Bi v11) JZ rh) M7 wm):=⟨R,by rw[bn h1,bn h2,bn h3,bn h4,bn h5,bn h6,bn h7,bn h8,bn h9,bn lU,bn yy,bn Kc,bn MU]⟩
theorem WT {R:Nat→Value} {a1 a2 a3 a4 a5 a6 a7 a8 a9 xn Bi JZ M7 Tm:Nat} {v1 v2 v3 v4 v5 v6 v7 v8 v9 v10 v11 rh wm FU:Value} (h1:R a1=v1) (h2:R a2=v2) (h3:R a3=v3) (h4:R a4=v4) (h5:R a5=v5) (h6:R a6=v6) (h7:R a7=v7) (h8:R a8=v8) (h9:R a9=v9) (lU:R xn=v10) (yy:R Bi=v11) (Kc:R JZ=rh) (MU:R M7=wm) (Wn:R Tm=FU):∃Q,R=(dm (dm (dm (dm (dm (dm (dm (dm (dm (dm (dm (dm (dm (dm Q a1 v1) a2 v2) a3 v3) a4 v4) a5 v5) a6 v6) a7 v7) a8 v8) a9 v9) xn v10) Bi v11) JZ rh) M7 wm) Tm FU):=⟨R,by rw[bn h1,bn h2,bn h3,bn h4,bn h5,bn h6,bn h7,bn h8,bn h9,bn lU,bn yy,bn Kc,bn MU,bn Wn]⟩
theorem WS {R:Nat→Value} {a1 a2 a3 a4 a5 a6 a7 a8 a9 xn Bi JZ M7 Tm YT:Nat} {v1 v2 v3 v4 v5 v6 v7 v8 v9 v10 v11 rh wm FU kZ:Value} (h1:R a1=v1) (h2:R a2=v2) (h3:R a3=v3) (h4:R a4=v4) (h5:R a5=v5) (h6:R a6=v6) (h7:R a7=v7) (h8:R a8=v8) (h9:R a9=v9) (lU:R xn=v10) (yy:R Bi=v11) (Kc:R JZ=rh) (MU:R M7=wm) (Wn:R Tm=FU) (yx:R YT=kZ):∃Q,R=(dm (dm (dm (dm (dm (dm (dm (dm (dm (dm (dm (dm (dm (dm (dm Q a1 v1) a2 v2) a3 v3) a4 v4) a5 v5) a6 v6) a7 v7) a8 v8) a9 v9) xn v10) Bi v11) JZ rh) M7 wm) Tm FU) YT kZ):=⟨R,by rw[bn h1,bn h2,bn h3,bn h4,bn h5,bn h6,bn h7,bn h8,bn h9,bn lU,bn yy,bn Kc,bn MU,bn Wn,bn yx]⟩
theorem cQ {α:Type} (l:List α) (i:Nat) (h:i<l.length:=by omega):∃a,l[i]?=some a:=⟨_,acM h⟩
theorem cZ:∀u∈([]:List Value),u.oneCell'=true:=fun u h=>by cases h
theorem bh {v:Value} {l:List Value} (h:∀u∈l,u.oneCell'=true) (h0:v.oneCell'=true:=by exact rfl):∀u∈v::l,u.oneCell'=true:=fun u hu=>by rcases ac6.1 hu with rfl|hu<;>first|exact h0|exact h u hu
end Go.Rl

namespace Go.Rl
section
variable {P:Program} {n:Nat} {Q Q':fJ} {R:Nat→Value} {w w0:World} {F:Nat→Prop} {L M:List Atom}
theorem RL.ak {ops:Array Oper} {K:(Nat→Value)→World→Prop} (h:K R w):RL P n ops (pk K Q) [] R w:=RL.nil (aA h)
theorem RW.aN {id:Nat} {l:List Oper} {y:Code} (h:RL P n l.toArray (pk (RW P n y Q) Q) l R w):RW P n (.seq (.region id l.toArray false) y) Q R w:=RW.seq (RW.region h)
theorem RL.bY {ops:Array Oper} {id:Nat} {l:List Oper} {y:Code} (h:RL P n l.toArray (pk (RW P n y Q) Q) l R w):RL P n ops (pk (RW P n (.seq (.region id l.toArray false) y) Q) Q') [] R w:=RL.nil (aA (RW.seq (RW.region h)))
theorem aH.sb (h:aH w0 F w L) (p:List Nat) (hp:p.Nodup:=by decide) (hM:M.map some=p.map (fun i=>L[i]?):=by exact rfl):aH w0 F w M:=h.sub p hp hM
end
end Go.Rl

namespace Go
abbrev vJ (n:Nat):Value:=.int .i64 (n:Int)
abbrev vP (g:Nat):Value:=.pointer (some ⟨g,0,none⟩)
abbrev vN:Value:=.slice none 0 0
end Go

namespace Go.Rl
section
variable {w0 w w':World} {F:Nat→Prop} {L M R:List Atom} {a a':Atom}
def ix (a b:Atom):Prop:=∀k,a.dR k→¬b.dR k
theorem ix.symm {a b:Atom} (h:ix a b):ix b a:=fun k hb ha=>h k ha hb
theorem aH.iff:aH w0 F w L↔Mod F w0 w∧(∀a∈L,a.says w)∧(∀a∈L,∀k,a.dR k→(F k∨w0.heap.size≤k)∧k<w.heap.size)∧L.Pairwise ix:=by
  constructor
  · intro h
    refine⟨h.mod,fun a ha=>?_,fun a ha=>?_,?_⟩
    · obtain⟨i,hi⟩:=ade ha;exact h.says i a hi
    · obtain⟨i,hi⟩:=ade ha;exact h.low i a hi
    · rw [ae3]
      intro i j hi hj oT
      exact h.sep i j _ _ (by omega) (acM hi) (acM hj)
  · rintro ⟨h1, h2, h3, h4⟩
    rw[ae3]at h4
    refine⟨h1,fun i a ha=>h2 a (acC ha),fun i a ha=>h3 a (acC ha),fun i j a b oT ha hb=>?_⟩
    obtain⟨hi,rfl⟩:=acF.1 ha
    obtain⟨hj,rfl⟩:=acF.1 hb
    rcases aic oT with h|h
    · exact h4 i j hi hj h
    · exact(h4 j i hj hi h).symm
theorem aH.take (h:aH w0 F w (L++R)):aH w (b6 L) w L:=by
  rw[aH.iff]at h ⊢
  exact⟨Mod.refl _ _,fun a ha=>h.2.1 a (adX _ ha),fun a ha k hk=>⟨.inl ⟨a,ha,hk⟩,(h.2.2.1 a (adX _ ha) k hk).2⟩,(aez.1 h.2.2.2).1⟩
variable {α:Type} {P:α→Atom→Prop} {B:Nat→Prop} {l l':List α} {x:α}
end
end Go.Rl
namespace Go.Rl
open Go.RowKit
theorem jO {α β:Type} {cf:α→List β} {s:Nat} (hs:∀a,(cf a).length=s):∀{l:List α} {m:Nat} {a:α} {j:Nat},l[m]?=some a→j<s→(l.flatMap cf)[m*s+j]?=(cf a)[j]?:=by
  intro l
  induction l with
  |nil=>intro m a j h;simp at h
  |cons x r ih=>
    intro m a j h hj
    cases m with
    |zero=>simp at h;subst h;rw[afr,Nat.zero_mul,aeY,adu (by rw[hs];exact hj)]
    |succ m=>
      simp at h
      have e:(m+1)*s+j=s+(m*s+j):=by rw[Nat.succ_mul];omega
      rw[afr,e,ads (by rw[hs];omega),hs,Nat.add_sub_cancel_left,ih h hj]
theorem kS {α β:Type} {cf:α→List β} {s:Nat} (hs:∀a,(cf a).length=s) (l:List α):(l.flatMap cf).length=l.length*s:=by
  induction l with
  |nil=>simp
  |cons x r ih=>rw[afr,acB,hs,ih,acK,Nat.succ_mul];omega
section
variable {α:Type} {cf:α→List Value} {s:Nat}
def Sm (cf:α→List Value) (w:World) (v:Value) (l:List α):Prop:=∃A c,v=.slice A l.length c∧l.length≤c∧c≤maxLen∧Cells w A (l.flatMap cf)
theorem Sm.nil (cf:α→List Value) (w:World):Sm cf w (.slice none 0 0) []:=⟨none,0,rfl,ac8 _,by unfold maxLen;omega,Cells.nil _ _⟩
theorem Sm.mod {M:Nat→Prop} {w w':World} {v:Value} {l:List α} (h:Sm cf w v l) (hm:Mod M w w') (hb:∀k,v.ownBlock=some k→¬M k):Sm cf w' v l:=by
  obtain⟨A,c,rfl,h1,h2,hc⟩:=h
  refine⟨A,c,rfl,h1,h2,hc.mod hm ?_⟩
  rintro ad rfl
  exact hb _ rfl
theorem Sm.ext {w w':World} {v:Value} {l:List α} (h:Sm cf w v l) (hm:Ext w w'):Sm cf w' v l:=h.mod hm (fun _ _ e=>e)
theorem Sm.off {M:Nat→Prop} {w w':World} {v:Value} {l:List α} (h:Sm cf w v l) (ho:sN M v l) (hm:Mod M w w'):Sm cf w' v l:=by
  by_cases hl:l=[]
  · subst hl
    obtain⟨A,c,h1,h2,h3,h4⟩:=h
    exact⟨A,c,h1,h2,h3,Cells.nil _ _⟩
  · exact h.mod hm (ho hl)
theorem Sm.bw {w:World} {v:Value} {l:List α} (h:Sm cf w v l):l.length≤9223372036854775807:=by
  obtain⟨A,c,rfl,h1,h2,_⟩:=h;unfold maxLen at h2;omega
theorem Sm.lt {w:World} {v:Value} {l:List α} (h:Sm cf w v l) (hs:∀a,cf a≠[]) (hl:l≠[]):∀k,v.ownBlock=some k→k<w.heap.size:=by
  obtain⟨A,c,rfl,h1,h2,hc⟩:=h
  intro k hk
  cases l with
  |nil=>exact absurd rfl hl
  |cons x xs=>
    cases hx:cf x with
    |nil=>exact absurd hx (hs x)
    |cons u us=>
      obtain⟨ad,rfl,hu⟩:=hc 0 u (by simp[hx])
      have:=block_lt_of_cell hu
      rw[block_add]at this
      simp[afU]at hk
      omega
theorem Sm.cK {w:World} {v:Value} {l:List α} (h:Sm cf w v l):v.cells=#[v]:=by obtain⟨A,c,rfl,_⟩:=h;rfl
theorem Sm.bT {w:World} {v:Value} {l:List α} (h:Sm cf w v l):v.oneCell'=true:=by obtain⟨A,c,rfl,_⟩:=h;rfl
theorem Sm.hd {w:World} {v:Value} {l:List α} (h:Sm cf w v l):∃a:Hd,v=vh a:=by obtain⟨A,c,rfl,_⟩:=h;exact⟨(A,l.length,c),rfl⟩
def fK (cf:α→List Value) (s:Nat) (E:TypeId) (w:World) (base:Nat) (v:Value) (l:List α):Prop:=w.ownsRow base E s v l.length (l.flatMap cf)
theorem fK.nil (cf:α→List Value) (s:Nat) (E:TypeId) (w:World) (base:Nat):fK cf s E w base (.slice none 0 0) []:=aiE _ _ _ _
theorem fK.sm {E:TypeId} {w:World} {base:Nat} {v:Value} {l:List α} (h:fK cf s E w base v l):Sm cf w v l:=by
  rcases h.2 with⟨rfl,h0⟩|⟨g,cap,cur,rfl,hb,hh,h1,h2,h3,h4⟩
  · have : l = [] := adH h0
    subst this
    exact Sm.nil _ _
  · refine ⟨_, cap, rfl, h1, h2, fun j v hv => ⟨_, rfl, ?_⟩⟩
    exact agz h (g:=g) rfl j v hv
theorem fK.lt {E:TypeId} {w:World} {base:Nat} {v:Value} {l:List α} (h:fK cf s E w base v l):∀k,v.ownBlock=some k→base≤k∧k<w.heap.size:=ai3 h
theorem fK.lower {E:TypeId} {w:World} {base nQ:Nat} {v:Value} {l:List α} (h:fK cf s E w base v l) (hb:nQ≤base):fK cf s E w nQ v l:=by
  unfold fK aeZ at*
  refine⟨h.1,h.2.imp id ?_⟩
  rintro⟨g,cap,cur,rfl,AJ,hr⟩
  exact⟨g,cap,cur,rfl,acU hb AJ,hr⟩
theorem fK.lift {E:TypeId} {w:World} {v:Value} {l:List α} {base nQ:Nat} (h:fK cf s E w base v l) (hb:∀k,v.ownBlock=some k→nQ≤k):fK cf s E w nQ v l:=by
  unfold fK aeZ at*
  refine⟨h.1,h.2.imp id ?_⟩
  rintro⟨g,cap,cur,rfl,_,hr⟩
  exact⟨g,cap,cur,rfl,hb g rfl,hr⟩
def Atom.cd (cf:α→List Value) (s:Nat) (E:TypeId) (v:Value) (l:List α):Atom where
  dR k:=v.ownBlock=some k
  says w:=fK cf s E w 0 v l
  kp:=by
    intro w w' h hs
    unfold fK aeZ at*
    refine⟨hs.1,hs.2.imp id ?_⟩
    rintro⟨g,cap,cur,rfl,AJ,hh,hr⟩
    exact⟨g,cap,cur,rfl,AJ,(h g rfl (adr.1 hh).1).trans hh,hr⟩
end
section
variable {P:Program} {n:Nat} {Q:fJ} {R:Nat→Value} {w0 w:World} {F:Nat→Prop} {L:List Atom} {K:Value→World→Prop} {dst:Option Tmp} {ty:TypeId} {pos:String} {af:Array Edge} {gd:Option (Nat×Bool)}
universe u
variable {α:Type} {cf:α→List Value} {s:Nat}
theorem zA {α:Type u} {l:List α} {i:Nat} {a:α} (h:l[i]?=some a):l.set i a=l:=by
  obtain⟨hi,rfl⟩:=acF.1 h
  exact List.set_getElem_self hi
theorem aH.cd (h:aH w0 F w L) (i:Nat) {E:TypeId} {v:Value} {l:List α} (hi:L[i]?=some (.cd cf s E v l)):fK cf s E w 0 v l:=h.says i _ hi
theorem aH.sm (h:aH w0 F w L) (i:Nat) {E:TypeId} {v:Value} {l:List α} (hi:L[i]?=some (.cd cf s E v l)):Sm cf w v l:=(h.cd i hi).sm
theorem aH.fL (h:aH w0 none_ w L) (i:Nat) {E:TypeId} {v:Value} {l:List α} (hi:L[i]?=some (.cd cf s E v l)):fK cf s E w w0.heap.size v l:=
  (h.cd i hi).lift fun k hk=>(h.low i _ hi k hk).1.elim (fun e=>e.elim) id
theorem aH.ew (h:aH w0 F w L) (cf:α→List Value) (s:Nat) (E:TypeId):aH w0 F w (.cd cf s E (.slice none 0 0) []::L):=
  h.add (fK.nil _ _ _ _ _) (fun k hk=>by cases hk) (fun _ _ _ _ _ hk=>by cases hk)
theorem aH.fw (h:aH w0 F w L) {w':World} {E:TypeId} {v:Value} {l:List α} (ho:fK cf s E w' w.heap.size v l) (he:Ext w w'):aH w0 F w' (.cd cf s E v l::L):=
  h.push he (ho.lower (adW _)) (fun k hk=>ho.lt k hk)
theorem aH.xK {E:TypeId} {v:Value} {l m:List α} (h:aH w0 F w L) (i:Nat) (hi:L[i]?=some (.cd cf s E v l)) (e:l=m):aH w0 F w (L.set i (.cd cf s E v m)):=by
  subst e
  rw[zA hi];exact h
theorem LP {t:TypeId} {x:Operand} {v:Value} {l:List α} {e:TypeId} (ht:P.underlying t=some (.slice e)) (hs:Sm cf w v l) (hx:ev R x=v):
    Ev P ⟨dst,.call ⟨.builtin .len,#[x],#[t]⟩,ty,pos,af,gd⟩ R w (.int .i64 l.length):=by
  obtain⟨A,c,rfl,_⟩:=hs
  exact JJ ht hx
theorem bO {t:TypeId} {x:Operand} {v:Value} {l:List α} {e:TypeId} (ht:P.underlying t=some (.slice e)) (hs:Sm cf w v l) (hx:ev R x=v:=by exact rfl):Ev P ⟨dst,.call ⟨.builtin .len,#[x],#[t]⟩,ty,pos,af,gd⟩ R w (.int .i64 l.length):=LP ht hs hx
theorem Sm.at (jH:∀a,(cf a).length=s) {v:Value} {l:List α} {m j:Nat} {a:α} {u:Value} (h:Sm cf w v l) (hm:l[m]?=some a) (hj:(cf a)[j]?=some u):
    ∃ad c,v=.slice (some ad) l.length c∧dI v (m*s+j)=.pointer (some (ad.add (m*s+j)))∧w.cell? (ad.add (m*s+j))=some u:=by
  obtain⟨A,c,rfl,h1,h2,hc⟩:=h
  have Vn:j<s:=by rw[←jH a];exact(acF.1 hj).1
  obtain⟨ad,rfl,fq⟩:=hc (m*s+j) u (by rw[jO jH hm Vn,hj])
  exact⟨ad,c,rfl,rfl,fq⟩
theorem Fy {t e : TypeId} {x i : Operand} {v : Value} {l : List α} {k : IntKind} {m : Int} (ht : P.underlying t = some (.slice e)) (eI : (P.info? e).map (·.size) = some s) (jH : ∀ a, (cf a).length = s) (iF : 0 < s)
    (hs:Sm cf w v l) (hx:ev R x=v) (hi:ev R i=.int k m) (h0:0≤m) (h1:m<l.length):Ev P ⟨dst,.indexAddr t x i,ty,pos,af,gd⟩ R w (dI v (m.toNat*s)):=by
  have cD:m.toNat<l.length:=by omega
  have dX:∃u,(cf l[m.toNat])[0]?=some u:=⟨_,acM (by rw[jH];exact iF)⟩
  obtain⟨u,hu⟩:=dX
  obtain⟨ad,c,rfl,_,_⟩:=hs.at jH (acM cD) hu
  have hr:(0≤m∧m<(l.length:Int)):=⟨h0,h1⟩
  have y8:s≠0:=by omega
  simp[Ev,dI,execOp,hx,hi,ah2,asIntOf,run_underlying ht,hr,fa (w:=w) eI,y8]
theorem aT {t e:TypeId} {x i:Operand} {v:Value} {l:List α} {k:IntKind} {m:Int} (ht:P.underlying t=some (.slice e)) (eI:(P.info? e).map (·.size)=some s) (jH:∀a,(cf a).length=s) (hs:Sm cf w v l) (iF:0<s:=by decide) (hx:ev R x=v:=by exact rfl) (hi:ev R i=.int k m:=by exact rfl) (h0:0≤m:=by omega) (h1:m<l.length:=by omega):Ev P ⟨dst,.indexAddr t x i,ty,pos,af,gd⟩ R w (dI v (m.toNat*s)):=Fy ht eI jH iF hs hx hi h0 h1
theorem JH {t : TypeId} {x : Operand} {v : Value} {l : List α} {m : Nat} {a : α} {d : TypeDesc} (hu : P.underlying t = some d) (hd : d.isRow = true) (eI : (P.info? t).map (·.size) = some s) (jH : ∀ a, (cf a).length = s) (iF : 0 < s)
    (hs:Sm cf w v l) (hx:ev R x=dI v (m*s)) (hm:l[m]?=some a) {cs:List Value} (oz:cf a=cs):Ev P ⟨dst,.load t x,ty,pos,af,gd⟩ R w (.agg cs.toArray):=by
  subst oz
  have dX:∃u,(cf a)[0]?=some u:=⟨_,acM (by rw[jH];exact iF)⟩
  obtain⟨u,Qe⟩:=dX
  obtain⟨ad,c,rfl,he,_⟩:=hs.at jH hm Qe
  rw[agm]at he
  have key:∀j u,(cf a)[j]?=some u→w.cell? ((ad.add (m*s)).add j)=some u:=by
    intro j u hj
    obtain⟨PR,c',h1,_,h3⟩:=hs.at jH hm hj
    cases h1
    rw[add_add];exact h3
  have lM:=run_loadCells_list (P:=P) (w:=w) (ad.add (m*s)) (cf a) key
  have uL:(isAgg t).run P w=.ok true w:=by
    unfold isAgg
    rw[adA,run_underlying hu w]
    cases d<;>simp_all [ahL]
  rw[jH a]at lM
  simp[Ev,execOp,hx,he,agj,aes,loadVar,uL,fa (w:=w) eI,lM]
theorem b0 {t:TypeId} {x:Operand} {v:Value} {l:List α} {m:Nat} {a:α} {d:TypeDesc} (hu:P.underlying t=some d) (eI:(P.info? t).map (·.size)=some s) (jH:∀a,(cf a).length=s) (hs:Sm cf w v l) (hm:l[m]?=some a) {cs:List Value} (hd:d.isRow=true:=by exact rfl) (iF:0<s:=by decide) (hx:ev R x=dI v (m*s):=by exact rfl) (oz:cf a=cs:=by exact rfl):Ev P ⟨dst,.load t x,ty,pos,af,gd⟩ R w (.agg cs.toArray):=JH hu hd eI jH iF hs hx hm oz
theorem Fz {t : TypeId} {x : Operand} {v : Value} {l : List α} {m f : Nat} {a : α} {u : Value} {fs : Array Field} {fd : Field} (ht : P.underlying t = some (.struct fs)) (hf : fs[f]? = some fd) {z : Nat} (eI : (P.info? fd.type).map (·.size) = some z) (hz : z ≠ 0)
    (jH:∀a,(cf a).length=s) (hs:Sm cf w v l) (hm:l[m]?=some a) (hj:(cf a)[0]?=some u) {b:Nat} (hx:ev R x=dI v (m*s+b)):Ev P ⟨dst,.fieldAddr t x f,ty,pos,af,gd⟩ R w (dI v (m*s+(b+fd.offset))):=by
  obtain⟨ad,c,rfl,he,_⟩:=hs.at jH hm hj
  simp[Ev,dI,execOp,hx,ajr,aes,run_underlying ht,hf,fieldPlace,fa (w:=w) eI,hz,add_add,ah1]
theorem bm {t:TypeId} {x:Operand} {v:Value} {l:List α} {m f:Nat} {a:α} {u:Value} {fs:Array Field} {fd:Field} (ht:P.underlying t=some (.struct fs)) (hf:fs[f]?=some fd) {z:Nat} (eI:(P.info? fd.type).map (·.size)=some z) (jH:∀a,(cf a).length=s) (hs:Sm cf w v l) (hm:l[m]?=some a) {b:Nat} (hz:z≠0:=by decide) (hj:(cf a)[0]?=some u:=by exact rfl) (hx:ev R x=dI v (m*s+b):=by exact rfl):Ev P ⟨dst,.fieldAddr t x f,ty,pos,af,gd⟩ R w (dI v (m*s+(b+fd.offset))):=Fz ht hf eI hz jH hs hm hj hx
theorem Fv {t : TypeId} {x : Operand} {v : Value} {l : List α} {m j : Nat} {a : α} {u : Value} {d : TypeDesc} (ht : P.underlying t = some d) (hd : (match d with | .struct _ | .array _ _ => false | _ => true) = true)
    (jH:∀a,(cf a).length=s) (hs:Sm cf w v l) (hx:ev R x=dI v (m*s+j)) (hm:l[m]?=some a) (hj:(cf a)[j]?=some u):Ev P ⟨dst,.load t x,ty,pos,af,gd⟩ R w u:=by
  obtain⟨ad,c,rfl,he,fq⟩:=hs.at jH hm hj
  rw[he]at hx
  exact yE ht hd hx fq
theorem bB {t:TypeId} {x:Operand} {v:Value} {l:List α} {m j:Nat} {a:α} {u:Value} {d:TypeDesc} (ht:P.underlying t=some d) (jH:∀a,(cf a).length=s) (hs:Sm cf w v l) (hm:l[m]?=some a) (hd:(match d with|.struct _|.array _ _=>false|_=>true)=true:=by exact rfl) (hx:ev R x=dI v (m*s+j):=by exact rfl) (hj:(cf a)[j]?=some u:=by exact rfl):Ev P ⟨dst,.load t x,ty,pos,af,gd⟩ R w u:=Fv ht hd jH hs hx hm hj
theorem cp {t e : TypeId} {x y : Operand} {v u : Value} {l m : List α} {z : Value} {bytes : Nat} (ht : P.underlying t = some (.slice e))
    (gu:(P.info? e).map (fun i=>(i.zero,i.size,i.bytes))=some (some z,s,bytes)) (hz:z.cells.size=s) (iF:0<s) (h1:∀a,∀u∈cf a,u.oneCell'=true) (jH:∀a,(cf a).length=s)
    (hN:aH w0 F w L) (i:Nat) (hi:L[i]?=some (.cd cf s e v l)) (hx:ev R x=v) (hu:Sm cf w u m) (hy:ev R y=u) (hlen:(l.length+m.length)*bytes≤140737488355328) (kx:0<bytes)
    (h:∀v' w',aH w0 F w' (L.set i (.cd cf s e v' (l++m)))→K v' w'):
    ey P ⟨dst,.call ⟨.builtin .append,#[x,y],#[t,t]⟩,ty,pos,af,gd⟩ R w K:=by
  obtain⟨A,c,rfl,Ie,hm,hc⟩:=hu
  have CL:∃i,P.info? e=some i∧i.zero=some z∧i.size=s∧i.bytes=bytes:=by
    cases hq:P.info? e with
    |none=>simp[hq]at gu
    |some i=>simp[hq]at gu;exact⟨i,rfl,gu⟩
  obtain⟨j,hj,DN,y9,OQ⟩:=CL
  have CE:=hN.cd i hi
  have Jg:l.length+m.length≤maxLen:=by
    unfold maxLen
    have:(l.length+m.length)*1≤(l.length+m.length)*bytes:=ah6 _ kx
    omega
  have fQ:∀u∈m.flatMap cf,u.oneCell'=true:=fun u hu=>by
    obtain⟨a,_,hu⟩:=agb.1 hu
    exact h1 a u hu
  cases A with
  |some ad=>
    obtain ⟨v', w', fy, R9, AB, _, O8⟩ := run_append_own_at (P := P) (w := w) 0 t ty e j z s bytes ht hj DN y9 OQ hz iF v l.length (l.flatMap cf) CE ad m.length c (m.flatMap cf) (kS jH m)
      (fun j u hj=>by obtain⟨PR,h',fq⟩:=hc j u hj;cases h';exact fq) fQ Jg hlen (adW _)
    have ho:fK cf s e w' 0 v' (l++m):=by unfold fK;rw[afi,acB];exact R9
    refine ey.value (v:=v') (w':=w') ?_ (h v' w' (hN.dm i hi (Mod.tJ AB) ho fun k iZ=>?_))
    · simp[execOp,resolve,invoke,builtin,hx,hy,fy]
    · have cD := (ho.lt k iZ).2
      refine⟨?_,cD⟩
      rcases O8 with e|e
      · exact .inl (e.symm.trans iZ)
      · exact .inr (ag3 (ac7 (e.symm.trans iZ)))
  |none=>
    have kF:m=[]:=by
      cases m with
      |nil=>rfl
      |cons a r=>
        have dX:∃u,(cf a)[0]?=some u:=⟨_,acM (by rw[jH];exact iF)⟩
        obtain⟨u,Qe⟩:=dX
        obtain⟨ad,h',_⟩:=hc 0 u (by
          have:=jO jH (l:=a::r) (m:=0) (a:=a) (j:=0) rfl iF
          simp only[Nat.zero_mul,aeY]at this
          rw[this,Qe])
        cases h'
    subst kF
    have fy:(agk #[t,t] ty #[v,.slice none 0 c]).run P w=.ok v w:=by
      obtain⟨A',c',rfl,OG,hm',_⟩:=CE.sm
      have hle:l.length≤c':=OG
      cases A'<;>simp[agk,run_underlying ht,sizeOf,typeInfo,hj,y9,ajq,ah9,hle,storeCells]
    have yk:L.set i (.cd cf s e v (l++[]))=L:=by rw[adw];exact zA hi
    refine ey.value (v:=v) (w':=w) ?_ (h v w (by rw[yk];exact hN))
    simp only[acS]at hy
    simp[execOp,resolve,invoke,builtin,hx,hy,fy]
theorem dn {t e : TypeId} {len : Nat} {parts : Array (Nat × Operand)} {pl : List (Nat × Operand)} {ps : List (Nat × Value)} {z : Value} {zc : List Value} {l : List α} (ht : P.underlying t = some (.slice e))
    {bytes:Nat} (gu:(P.info? e).map (fun i=>(i.zero,i.size,i.bytes))=some (some z,s,bytes)) (Q9:(aiM (len*s)).map (z.cells[·%z.cells.size]!)=zc.toArray) (hp:parts.toList=pl) (E7:(pl.map fun(i,x)=>(i,ev R x))=ps)
    (hf:ae2 (fun i=>some (i*s,s)) zc.toArray ps=some (l.flatMap cf).toArray) (jH:∀a,(cf a).length=s) (hlen:len=l.length) (iF:0<len) (y8:0<s) (CD:len*s≤2^24) (hN:aH w0 F w L)
    (h:∀g w',aH w0 F w' (.cd cf s e (.slice (some ⟨g,0,none⟩) len len) l::L)→K (.slice (some ⟨g,0,none⟩) len len) w'):
    ey P ⟨dst,.buildSlice t len parts,ty,pos,af,gd⟩ R w K:=by
  cases uj:P.info? e with
  |none=>simp[uj]at gu
  |some ie=>
    simp only[uj,aeF,aeC,ah4]at gu
    obtain⟨Uk,eI,_⟩:=gu
    have UZ:(parts.map fun(i,x)=>(i,ev R x)).toList=ps:=by rw[aga,hp,←E7]
    have X9:ae2 (fun i=>some (i*ie.size,ie.size)) ((aiM (len*ie.size)).map (z.cells[·%z.cells.size]!)) (parts.map fun(i,x)=>(i,ev R x)).toList=some (l.flatMap cf).toArray:=by
      rw[UZ,eI,Q9];exact hf
    have XI:0<len*s:=Nat.mul_pos iF y8
    have fy:=run_buildSlice (P:=P) w t e len (parts.map fun(i,x)=>(i,ev R x)) _ ie z ht uj Uk (by rw[eI];omega) (by rw[eI];omega) X9
    have hle:len≤len*s:=ahl _ y8
    have ho:fK cf s e (w.alloc (.cells (l.flatMap cf).toArray e)) w.heap.size (.slice (some ⟨w.heap.size,0,none⟩) len len) l:=by
      unfold fK
      subst hlen
      have xc:=kS jH l
      refine⟨by rw[xc],.inr ⟨w.heap.size,l.length,(l.flatMap cf).toArray,rfl,ac8 _,?_,ac8 _,by unfold maxLen;omega,by simp[xc],?_⟩⟩
      · rw[heap_alloc_new]
      · rw[ac2 (by simp[xc])]
    refine ey.value (v:=.slice (some ⟨w.heap.size,0,none⟩) len len) (w':=w.alloc (.cells (l.flatMap cf).toArray e)) ?_ (h _ _ (hN.fw ho (Ext.alloc _ _)))
    simp[execOp,fy]
end
end Go.Rl
namespace Go.Rl
open Go.RowKit Go.ChangeMaps
section
variable {P:Program} {n:Nat} {Q:fJ} {R:Nat→Value} {w0 w:World} {F:Nat→Prop} {L:List Atom} {K:Value→World→Prop} {dst:Option Tmp} {ty:TypeId} {pos:String} {af:Array Edge} {gd:Option (Nat×Bool)}
variable {κ:Type} [DecidableEq κ] {ke:κ→Value} {l done left:List (Kk κ)} {clock b:Nat}
end
end Go.Rl
namespace Go.Rl
open Go.RowKit
section
variable {P:Program} {n:Nat} {Q:fJ} {R:Nat→Value} {w0 w:World} {F:Nat→Prop} {L:List Atom} {K:Value→World→Prop} {dst:Option Tmp} {ty:TypeId} {pos:String} {af:Array Edge} {gd:Option (Nat×Bool)}
variable {α:Type} {enc:α→Value}
end
section
variable {P:Program} {w0 w w':World} {F G:Nat→Prop} {L:List Atom} {α:Type} {enc:α→Value} {cf:α→List Value} {v:Value} {l:List α}
def nR (F:Nat→Prop) (enc:α→Value) (w:World) (v:Value) (l:List α):Prop:=Sl enc w v l∧sN F v l
def mz (F:Nat→Prop) (cf:α→List Value) (w:World) (v:Value) (l:List α):Prop:=Sm cf w v l∧sN F v l
theorem Sl.o (h:Sl enc w v l):nR none_ enc w v l:=⟨h,sN.none v l⟩
theorem Sm.o (h:Sm cf w v l):mz none_ cf w v l:=⟨h,sN.none v l⟩
theorem nR.now (h:nR F enc w0 v l) (hN:aH w0 F w L):Sl enc w v l:=h.1.off h.2 hN.mod
theorem mz.now (h:mz F cf w0 v l) (hN:aH w0 F w L):Sm cf w v l:=h.1.off h.2 hN.mod
theorem aH.Wu (hN:aH w0 F w L) {k:Nat} (hk:b6 L k):F k∨w0.heap.size≤k:=by
  obtain⟨a,ha,hk⟩:=hk
  obtain⟨i,hi⟩:=ade ha
  exact(hN.low i a hi k hk).1
theorem aH.qQ (hN:aH w0 F w L) {k:Nat} (hk:b6 L k):k<w.heap.size:=by
  obtain⟨a,ha,hk⟩:=hk
  obtain⟨i,hi⟩:=ade ha
  exact(hN.low i a hi k hk).2
theorem sN.step (cD:l≠[]→∀k,v.ownBlock=some k→k<w0.heap.size) (ho:sN F v l) (hN:aH w0 F w L):sN (b6 L) v l:=fun hl k hk hf=>by
  rcases hN.Wu hf with h|h
  · exact ho hl k hk h
  · exact absurd (cD hl k hk) (agl.2 h)
theorem nR.step (h:nR F enc w0 v l) (hN:aH w0 F w L):nR (b6 L) enc w v l:=⟨h.now hN,h.2.step (fun hl=>h.1.lt hl) hN⟩
theorem mz.step (jH:∀a,cf a≠[]) (h:mz F cf w0 v l) (hN:aH w0 F w L):mz (b6 L) cf w v l:=⟨h.now hN,h.2.step (fun hl=>h.1.lt jH hl) hN⟩
theorem gG.step {hs:List Hd} {ls:List (List α)} (h:gG F enc w0 hs ls) (hN:aH w0 F w L):gG (b6 L) enc w hs ls:=⟨h.1,fun i hd l hi hl=>nR.step (h.2 i hd l hi hl) hN⟩
theorem aH.here (hN:aH w0 F w L):aH w (b6 L) w L:=by
  have h:aH w0 F w (L++[]):=by rw[adw];exact hN
  exact h.take
theorem aH.back (hN:aH w0 F w L) {M:List Atom} (h:aH w (b6 L) w' M):aH w0 F w' M:=by
  have h1:aH w0 F w (L++[]):=by rw[adw];exact hN
  have:=aH.dd (N:=[]) h1 h
  rwa [adw]at this
theorem nR.less (h:nR F enc w v l) (hg:∀k,k<w.heap.size→G k→F k):nR G enc w v l:=⟨h.1,fun hl k hk hG=>h.2 hl k hk (hg k (h.1.lt hl k hk) hG)⟩
theorem nR.ext (h:nR F enc w v l) (he:Ext w w'):nR F enc w' v l:=⟨h.1.ext he,h.2⟩
theorem mz.ext (h:mz F cf w v l) (he:Ext w w'):mz F cf w' v l:=⟨h.1.ext he,h.2⟩
theorem gG.less {hs:List Hd} {ls:List (List α)} (h:gG F enc w hs ls) (hg:∀k,k<w.heap.size→G k→F k):gG G enc w hs ls:=⟨h.1,fun i hd l hi hl=>nR.less (h.2 i hd l hi hl) hg⟩
theorem gG.ik {hs:List Hd} {ls:List (List α)} (h:gG F enc w hs ls) {i:Nat} {hd:Hd} {l:List α} (hi:hs[i]?=some hd) (hl:ls[i]?=some l):nR F enc w (vh hd) l:=h.2 i hd l hi hl
theorem gG.fm {hs:List Hd} {ls:List (List α)} (h:gG F enc w0 hs ls) (hN:aH w0 F w L):gG none_ enc w hs ls:=(h.step hN).less fun _ _ e=>e.elim
end
end Go.Rl
namespace Go.Rl
open Go.ChangeShapes Go.WideShapes
def Sh.le (M : Nat) : (s : Sh) → s.ty → Prop
  |.int _,_=>True
  |.bool,_=>True
  |.str,l=>adQ (α:=UInt8) l≤M
  |.sl e,l=>adQ (α:=e.ty) l≤M∧∀a∈(show List e.ty from l),e.le M a
  |.nil,_=>True
  |.cons f r,a=>f.le M a.1∧r.le M a.2
def Sh.kQ (P : Program) : Sh → TypeId ⊕ List Field → Bool
  |.int _,_=>true
  |.bool,_=>true
  |.str,_=>true
  |.sl e,.inl t=>match P.underlying t with
    |some (.slice te)=>decide (1≤P.bytesOf te) && e.kQ P (.inl te)
    |_=>false
  |.sl _,.inr _=>false
  |.nil,_=>true
  |.cons f r,.inl t=>match P.underlying t with
    |some (.struct fs)=>match fs.toList with
      |fd::fds=>f.kQ P (.inl fd.type) && r.kQ P (.inr fds)
      |_=>false
    |_=>false
  |.cons f r,.inr fds=>match fds with
    |fd::fds=>f.kQ P (.inl fd.type) && r.kQ P (.inr fds)
    |_=>false
theorem nb {H:Type} {P:Program} {e:TypeId} {d:DataW H} {z:Nat}:∀{l:List (DataW H)},d∈l→z∈d.weights P e→z∈ai7 P e l:=by
  intro l
  induction l with
  |nil=>intro h _;cases h
  |cons x r ih=>
    intro h hz
    unfold ai7
    rcases ac6.1 h with rfl|h
    · exact adX _ hz
    · exact aeo _ (ih h hz)
section
variable {H:Type} {enc:TypeId×Value→H} {P:Program} {w:World} {base:Nat} {spare:Nat→Bool} {held:Bool}
theorem Sh.QX (M:Nat):∀(s:Sh),
    (∀(t:TypeId) (fuel:Nat) (cs:List Value) (x:DataW H×List MemPlace),s.fit P (.inl t)=true→s.kQ P (.inl t)=true→(∀z∈x.1.weights P t,z≤M)→aeA enc P w base spare held fuel t cs=some x→∃a,s.rd w cs a∧s.le M a)∧
    (∀(fds:List Field) (off:Nat) (n:Nat) (cs:List Value) (xs:List (DataW H×List MemPlace)),s.fit P (.inr (fds,off))=true→s.kQ P (.inr fds)=true→(∀z∈adS P (fds.map (·.type)) (xs.map (·.1)),z≤M)→cs.length=off+s.cells→xs.length=fds.length→
      (∀(i:Nat) (f:Field),fds[i]?=some f→aeA enc P w base spare held n f.type ((cs.drop f.offset).take (P.cellsOf f.type))=xs[i]?)→∃a,s.rd w (cs.drop off) a∧s.le M a):=by
  intro s
  induction s with
  |int k=>
    refine⟨fun t fuel cs x hf hv hw h=>?_,fun _ _ _ _ _ hf=>by simp[Sh.fit]at hf⟩
    have ht:P.underlying t=some (.int k):=by
      simp only[Sh.fit]at hf
      split at hf
      · rename_i e;rw[e,of_decide_eq_true hf]
      · cases hf
    obtain⟨m,rfl,rfl,Uv⟩:=ajn ht h
    exact⟨m,⟨rfl,Uv⟩,trivial⟩
  |bool=>
    refine⟨fun t fuel cs x hf hv hw h=>?_,fun _ _ _ _ _ hf=>by simp[Sh.fit]at hf⟩
    have ht:P.underlying t=some .bool:=by
      simp only[Sh.fit]at hf
      split at hf
      · assumption
      · cases hf
    cases fuel with
    |zero=>simp[aeA]at h
    |succ n=>
      unfold aeA at h
      rw[ht]at h
      split at h<;>simp_all
      obtain rfl:=h
      exact⟨_,rfl,trivial⟩
  |str=>
    refine⟨fun t fuel cs x hf hv hw h=>?_,fun _ _ _ _ _ hf=>by simp[Sh.fit]at hf⟩
    have ht:P.underlying t=some .string:=by
      simp only[Sh.fit]at hf
      split at hf
      · assumption
      · cases hf
    cases fuel with
    |zero=>simp[aeA]at h
    |succ n=>
      unfold aeA at h
      rw[ht]at h
      revert hw
      split at h<;>simp_all
      rename_i s
      obtain⟨hl,rfl⟩:=h
      intro hw
      refine⟨s.data.toList,⟨by rw[←GA],?_⟩,?_⟩
      · simpa using hl
      · exact hw _ (by simp[afJ])
  |sl e ih=>
    refine⟨fun t fuel cs x hf hv hw h=>?_,fun _ _ _ _ _ hf=>by simp[Sh.fit]at hf⟩
    simp only[Sh.fit]at hf
    split at hf
    · rename_i te ht
      simp only[adk,beq_iff_eq]at hf
      simp only[Sh.kQ,ht,adk,decide_eq_true_eq]at hv
      rcases ajc ht h with⟨rfl,rfl⟩|⟨a,len,cap,m,n,D,Pl,rfl,hb,hl,hm,Lm,rfl,hx⟩
      · exact⟨[],⟨none,0,rfl,ac8 _,by unfold maxLen;omega,fun i a h=>by simp at h⟩,adW _,fun a ha=>by cases ha⟩
      · simp only [afJ, ht] at hw
        have Ib:len≤m:=by rw[Lm];split<;>omega
        have each:∀i,i<len→∃(a':e.ty) (ll:List Value),ll.length=e.cells∧e.rd w ll a'∧(∀(j:Nat) v,ll[j]?=some v→w.cell? (a.add (i*e.cells+j))=some v)∧e.le M a':=by
          intro i hi
          obtain⟨ll,h1,h2⟩:=hx i (by omega)
          obtain⟨a',h3,h4⟩:=ih.1 te n ll _ hf.2 hv.2 (fun z hz=>hw z (adG _ (adX _ (nb (adg.2 ⟨i,adU.2 hi,rfl⟩) hz)))) h2
          obtain⟨_,hlen,hc⟩:=aiF h1
          refine⟨a',ll,e.np h3,h3,fun j v hj=>?_,h4⟩
          have SA:=(acF.1 hj).1
          have:=hc j (by omega)
          rw[ajE,hf.1]at this
          rw[this,hj]
        have:∃l:List e.ty,l.length=len∧∀(i:Nat) a',l[i]?=some a'→∃(ll:List Value),ll.length=e.cells∧e.rd w ll a'∧(∀(j:Nat) v,ll[j]?=some v→w.cell? (a.add (i*e.cells+j))=some v)∧e.le M a':=by
          clear h hx Lm Ib hl hw
          induction len with
          |zero=>exact⟨[],rfl,fun i a' h=>by simp at h⟩
          |succ len Ui=>
            obtain⟨l,Mw,CJ⟩:=Ui (fun i hi=>each i (by omega))
            obtain⟨a',ll,g1,g2,g3,g4⟩:=each len (by omega)
            refine⟨l++[a'],by simp[Mw],fun i b hb=>?_⟩
            rcases adi i l.length with cD|Mx
            · rw[adu cD]at hb;exact CJ i b hb
            · rw [ads Mx] at hb
              have hz:i-l.length=0:=by
                rcases aex (i-l.length)with e'|e'
                · exact e'
                · rw[aea (by simp;omega)]at hb;cases hb
              rw[hz]at hb
              have Fa:i=len:=by omega
              subst Fa
              cases hb
              exact⟨ll,g1,g2,g3,g4⟩
        obtain⟨l,Mw,CJ⟩:=this
        subst Mw
        refine⟨l,⟨some a,cap,rfl,hl,hm,fun i a' Fj=>?_⟩,?_⟩
        · obtain ⟨ll, g1, g2, g3, _⟩ := CJ i a' Fj
          exact⟨ll,g1,g2,fun j v hj=>⟨a,rfl,g3 j v hj⟩⟩
        · refine ⟨?_, fun a' Fj => ?_⟩
          · have h1 := hw _ (adV ..)
            rw[ada,afs]at h1
            have h2:l.length*1≤(l.length+((adC (m-l.length)).map fun j=>D (l.length+j)).length)*P.bytesOf te:=afv (ai8 _ _) hv.1
            omega
          · obtain ⟨i, hi⟩ := ade Fj
            exact(CJ i a' hi).choose_spec.2.2.2
    · cases hf
  |nil=>
    refine⟨fun t fuel cs x hf hv hw h=>?_,fun fds off n cs xs hf hv hw hl _ _=>?_⟩
    · simp only [Sh.fit] at hf
      split at hf
      · rename_i fs ht
        simp only[adk,beq_iff_eq]at hf
        obtain⟨xs,n,_,rfl,hl,_⟩:=afX ht h
        exact⟨(),adH (by omega),trivial⟩
      · cases hf
    · exact⟨(),adH (by simp only[Sh.cells]at hl;simp;omega),trivial⟩
  |cons f r Uj Uh=>
    have body:∀(fd:Field) (fds:List Field) (off n:Nat) (cs:List Value) (xs:List (DataW H×List MemPlace)),fd.offset=off→P.cellsOf fd.type=f.cells→f.fit P (.inl fd.type)=true→r.fit P (.inr (fds,off+f.cells))=true→f.kQ P (.inl fd.type)=true→r.kQ P (.inr fds)=true→(∀z∈adS P ((fd::fds).map (·.type)) (xs.map (·.1)),z≤M)→
        cs.length=off+(f.cells+r.cells)→xs.length=(fd::fds).length→
        (∀(i:Nat) (g:Field),(fd::fds)[i]?=some g→aeA enc P w base spare held n g.type ((cs.drop g.offset).take (P.cellsOf g.type))=xs[i]?)→∃a,(Sh.cons f r).rd w (cs.drop off) a∧(Sh.cons f r).le M a:=by
      intro fd fds off n cs xs h1 h2 h3 h4 uc Uz hw h5 h6 h7
      cases xs with
      |nil=>simp at h6
      |cons x xs=>
        have hx:=h7 0 fd rfl
        simp only[ahm]at hx
        rw[h1,h2]at hx
        simp only[adq,adS]at hw
        obtain⟨a,ha,Va⟩:=Uj.1 fd.type n _ x h3 uc (fun z hz=>hw z (adX _ hz)) hx
        obtain⟨b,hb,U9⟩:=Uh.2 fds (off+f.cells) n cs xs h4 Uz (fun z hz=>hw z (aeo _ hz)) (by omega) (by simpa using h6) (fun i g hg=>by have:=h7 (i+1) g (by simpa using hg);simpa using this)
        refine⟨(a,b),⟨ha,?_⟩,Va,U9⟩
        rw[aft];exact hb
    refine⟨fun t fuel cs x hf hv hw h=>?_,fun fds off n cs xs hf hv hw hl TB hx=>?_⟩
    · simp only [Sh.fit] at hf
      split at hf
      · rename_i fs ht
        split at hf
        · rename_i fd fds Lr
          simp only[adk,beq_iff_eq]at hf
          obtain⟨⟨⟨⟨h0,h1⟩,h2⟩,h3⟩,h4⟩:=hf
          simp only[Sh.kQ,ht,Lr,adk]at hv
          obtain⟨xs,n,_,rfl,hl,Lh,hx⟩:=afX ht h
          simp only[afJ,ht,Lr]at hw
          have xc:fs.size=(fd::fds).length:=by rw[←Lr];simp
          obtain⟨a,ha,hm⟩:=body fd fds 0 n cs xs h1 h2 h3 (by simpa using h4) hv.1 hv.2 hw (by omega) (by omega) (fun i g hg=>hx i g (by rw[←Lr]at hg;simpa using hg))
          exact⟨a,by simpa using ha,hm⟩
        · cases hf
      · cases hf
    · simp only [Sh.fit] at hf
      split at hf
      · rename_i fd fds
        simp only[adk,beq_iff_eq]at hf
        obtain⟨⟨⟨h1,h2⟩,h3⟩,h4⟩:=hf
        simp only[Sh.kQ,adk]at hv
        exact body fd fds off n cs xs h1 h2 h3 h4 hv.1 hv.2 hw (by simpa[Sh.cells]using hl) TB hx
      · cases hf
end
theorem G8 {H : Type} {enc : TypeId × Value → H} {P : Program} {W : World} {held : Bool} {t : TypeId} {d : DataW H} {v : Value} {ps : List MemPlace} {s : Sh} {ts : List TypeId} {ds : List (DataW H)} {j : Nat} (eI : (adS P ts ds).all (· ≤ reachBytes) = true) (ht : ts[j]? = some t) (hd : ds[j]? = some d)
    (hf:s.fit P (.inl t)=true) (hv:s.kQ P (.inl t)=true) (h:ahW enc P W 0 (fun _=>true) held t v d ps):∃a:s.ty,s.rd W v.cells.toList a∧s.le reachBytes a:=by
  obtain⟨fuel,hh⟩:=h
  have key:∀(ts:List TypeId) (ds:List (DataW H)) (j:Nat),ts[j]?=some t→ds[j]?=some d→∀z∈d.weights P t,z∈adS P ts ds:=by
    intro ts
    induction ts with
    |nil=>intro ds j h;simp at h
    |cons t' ts ih=>
      intro ds j h1 h2 z hz
      cases ds with
      |nil=>simp at h2
      |cons d' ds=>
        unfold adS
        cases j with
        |zero=>simp at h1 h2;subst h1 h2;exact adX _ hz
        |succ j=>exact aeo _ (ih ds j (by simpa using h1) (by simpa using h2) z hz)
  rw[afE]at eI
  exact(s.QX reachBytes).1 t fuel v.cells.toList (d,ps) hf hv (fun z hz=>of_decide_eq_true (eI z (key ts ds j ht hd z hz))) hh
end Go.Rl
