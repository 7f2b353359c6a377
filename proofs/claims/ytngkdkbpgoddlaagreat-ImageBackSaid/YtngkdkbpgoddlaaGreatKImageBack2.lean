/- The law ImageBack: texts that its row leans on (2). -/
import Derived.Test.YtngkdkbpgoddlaaGreatKImageBack1
set_option linter.unusedVariables false
set_option linter.unusedSimpArgs false
set_option linter.unusedSectionVars false
set_option maxHeartbeats 4000000
set_option maxRecDepth 100000
open Array renaming getElem?_eq_some_iff → adr, replicate → aev, getElem?_eq_getElem → aeN, getElem?_eq_none → aeU, toList_map → aga, size_append → agU, setIfInBounds_comm → ag4
open BitVec renaming ofInt → aed, toNat_ushiftRight → afb, ofNat → afd, eq_of_getLsbD_eq → afk, getLsbD_and → afm, eq_of_toNat_eq → afz, getLsbD_ushiftRight → afK, ushiftRight_xor_distrib → agq, getLsbD_setWidth → ahn, toNat_ofInt → aif, getLsbD_xor → aii, xor_zero → ajf
open Bool renaming and_eq_true → adk, false_eq_true → adT, false_and → aen, true_and → agQ
open Classical renaming propDecidable → adv, byContradiction → aeO, choose_spec → agi, choose → ai5
open Decidable renaming not_not → acX
open Function renaming comp → ajw
open Go.Act renaming put_comm → afw
open Go.Builtin renaming zeroCells → agX, min_ → ajA, min2 → ajB
open Go.CallsIn renaming mono → ag5
open Go.DataW renaming weightsEach → adS, trod → aeA, weights → afJ, trod_struct → afX, Trod → ahW, trod_int → ajn
open Go.Deep renaming open_slice → ajc, add_add → ajE
open Go.Instr renaming sureAddr → aes, fill → ae2, sliceBounds → afq, sliceBound → afD, checkKey → afV, sliceAt → af8, loadAt → agj, sameBits → agD, slice → agE, findAsking → ag6, findNow → ah5, makeFunc → ajm, findKey → ajs, build → akw
open Go.IntKind renaming i64 → adE, bits → adZ, signed → ad0, u64 → aeb, wrap → aem, u32 → aeX, u8 → agp
open Go.MapKept renaming run_checkKey → ahY, IsKey → ajv
open Go.Op renaming equalIn → ahT, eqFields → aiO
open Go.Oper renaming uponIn → afn, semAt_none → aho
open Go.Proofs.Tryz renaming underlying25 → acz, prog → acD, underlying29 → acQ, underlying32 → acR, underlying118 → ac1, underlying30 → ac5
open Go.Region renaming ready → adx, wanted → adN, noSelect → aeE, binds → afu, free → afL, noSelect_spec → ahV, free_spec → ai6
open Go.Result renaming andThen_ok → adJ
open Go.RoundIn renaming mono → aib
open Go.RowsIn renaming mono → aiN
open Go.Sem renaming run_bind → adA, run_pure → aer
open Go.TypeDesc renaming isRow → ahL
open Go.Value renaming bool → acV, int → ac4, oneCell' → agC, okWide → aij
open Go.World renaming cell?_of_block → aeQ, cells?_some → aiF
open Int renaming natCast_nonneg → adY, toNat_natCast → aek, toNat_of_nonneg → aeu, mul_le_mul_of_nonneg_right → aew, fdiv_eq_ediv_of_nonneg → ae0, ofNat → afl, le_trans → afy, max_eq_right → age, emod_nonneg → agn, emod_lt_of_pos → agL, add_mul_emod_self_left → agR, max_eq_left → aht, le_refl → ahw, tmod_add_mul_tdiv → ahM, tmod_lt_of_pos → aie, emod_eq_of_lt → aiG, lt_trichotomy → aiH
open List renaming length_append → acB, mem_of_getElem? → acC, getElem?_eq_some_iff → acF, length_cons → acK, getElem?_eq_getElem → acM, length_nil → acS, not_mem_nil → ac0, take_of_length_le → ac2, replicate → ac3, mem_cons → ac6, length_take → ac9, length_map → ada, length_replicate → adb, getElem?_of_mem → ade, mem_map → adg, mem_singleton → adh, length_drop → adj, flatten_cons → adl, take_length → adm, mem_append → adn, getElem?_set → adp, map_cons → adq, getElem?_append_right → ads, getElem?_append_left → adu, append_nil → adw, append_assoc → adB, range → adC, mem_cons_of_mem → adG, eq_nil_of_length_eq_zero → adH, getElem?_map → adI, length_set → adO, mem_filter → adP, length → adQ, mem_range → adU, mem_cons_self → adV, mem_append_left → adX, map_toArray → ad3, getD_eq_getElem?_getD → ad5, map_append → ad7, take_succ_eq_append_getElem → ad8, getElem?_eq_none → aea, map_nil → aee, getElem?_take → aeg, filter_cons → aej, mem_append_right → aeo, filter_append → aey, pairwise_append → aez, getElem?_replicate → aeB, pairwise_map → aeD, nil_append → aeG, range_succ → aeH, map_map → aeI, length_filter_le → aeK, drop_eq_getElem_cons → aeM, flatten_append → aeT, take_add_one → ae1, pairwise_iff_getElem → ae3, mem_take_iff_getElem → ae6, take_zero → ae9, eq_of_mem_replicate → afa, length_erase_of_mem → afc, flatMap_append → afi, length_eq_zero_iff → afj, pairwise_lt_range → afo, flatMap_cons → afr, length_range → afs, drop_drop → aft, take_append_drop → afx, all_eq_true → afE, flatten_flatten → afH, flatten_nil → afI, map_congr_left → afM, getElem?_drop → afN, getElem_range → afP, pairwise_singleton → afW, set_eq_take_append_cons_drop → afZ, filter_eq_nil_iff → af1, findIdx?_eq_some_iff_getElem → af2, length_pos_of_mem → af3, sum_cons → af9, mem_flatMap → agb, ext_getElem → agc, flatMap_def → agd, mem_erase_of_ne → agr, getElem?_range → agA, length_pos_iff → agB, find?_eq_none → agM, ext_getElem? → agV, size_toArray → agW, mem_or_eq_of_mem_set → agY, findIdx?_eq_none_iff → agZ, getElem_mem → ag7, cons_append → ag8, getElem_map → ag9, getElem?_cons_zero → ahm, take_left' → ahq, drop_left' → ahr, headD_cons → ahs, getElem?_eraseIdx → ahx, perm_append_comm → ahN, erase_of_not_mem → ahO, tail_cons → ahP, length_eraseIdx → ahZ, foldl_append → aiI, take_sublist → aiJ, getElem_set → ai9, sum_append → aje, take_left → ajo, sum_nil → ajF
open List.Pairwise renaming nil → aeR
open List.Sublist renaming refl → aiK
open Nat renaming le_trans → acU, le_refl → ac8, lt_or_ge → adi, lt_of_le_of_lt → adD, zero_le → adW, eq_zero_or_pos → aex, zero_add → aeY, shiftRight_eq_div_pow → ae4, mul_le_mul_right → ae5, mul_le_mul → afv, pow_le_pow_right → afF, mod_eq_of_lt → afG, mul_comm → afO, add_zero → agm, not_lt_zero → ago, pow_succ' → agS, le_mul_of_pos_right → ahl, min_eq_left → ahp, mul_one → ahu, div_lt_of_lt_mul → ahX, add_assoc → ah1, lt_or_gt_of_ne → aic, mul_zero → aid, eq_or_lt_of_le → aih, le_add_right → ai8, div_add_mod → ajd
open Ne renaming symm → ajj
open Option renaming map_some → aeF, isSome_iff_exists → ag2, map_eq_some_iff → ahv, bind_some → ai4
open Option.some renaming inj → ac7, injEq → aeC
open Prod renaming snd → ad4
open Prod.mk renaming injEq → ah4
open UInt8 renaming ofNat → aeV
namespace Go.Rl
open Go.RowKit
section
variable {P:Program} {R:Nat→Value} {w:World} {dst:Option Tmp} {ty:TypeId} {pos:String} {af:Array Edge} {gd:Option (Nat×Bool)}
def mW (P:Program) (d:Nat) (t:TypeId) (x y:Value) (b:Bool):Prop:=∀w,(ahT d t x y).run P w=.ok b w
def qm (P:Program) (d:Nat) (xs ys:Array Value) (fs:List Field) (b:Bool):Prop:=∀w,(aiO d xs ys fs).run P w=.ok b w
def dz (P:Program) (t:TypeId) (cs:Array Value) (off:Nat) (v:Value):Prop:=∀w,(part t cs off).run P w=.ok v w
theorem mW.int {d:Nat} {t:TypeId} {k:IntKind} {a b:Int} (hu:P.underlying t=some (.int k)):mW P (d+1) t (.int k a) (.int k b) (decide (a=b)):=by
  intro w
  simp only[ahT,adA,run_underlying hu w,adJ,if_true]
  by_cases h:a=b<;>simp[h]
theorem dz.leaf {t:TypeId} {cs:Array Value} {off:Nat} {v:Value} {k:IntKind} (hu:P.underlying t=some (.int k)) (h:cs[off]?=some v):dz P t cs off v:=by
  intro w
  have uL:(isAgg t).run P w=.ok false w:=by
    unfold isAgg
    rw[adA,run_underlying hu w]
    simp
  simp[part,adA,uL,h]
theorem dz.agg {t:TypeId} {cs:Array Value} {off z:Nat} {vs:Array Value} {fs:Array Field} (hu:P.underlying t=some (.struct fs)) (hz:(P.info? t).map (·.size)=some z) (h:cs.extract off (off+z)=vs):dz P t cs off (.agg vs):=by
  intro w
  have uL:(isAgg t).run P w=.ok true w:=by
    unfold isAgg
    rw[adA,run_underlying hu w]
    simp
  simp[part,adA,uL,fa (w:=w) hz,h]
theorem qm.nil {d:Nat} {xs ys:Array Value}:qm P d xs ys [] true:=fun w=>by simp[aiO]
theorem qm.cons {d:Nat} {xs ys:Array Value} {f:Field} {fs:List Field} {x y:Value} {b c:Bool} (hn:f.name≠"_") (hx:dz P f.type xs f.offset x) (hy:dz P f.type ys f.offset y) (h:mW P d f.type x y b) (hr:qm P d xs ys fs c):qm P d xs ys (f::fs) (b && c):=by
  intro w
  simp only[aiO,hn,ne_eq,not_false_eq_true,if_true,adA,hx w,hy w,h w,adJ]
  cases b
  · simp
  · simpa using hr w
theorem mW.struct {d:Nat} {t:TypeId} {xs ys:Array Value} {fs:Array Field} {fl:List Field} {b:Bool} (hu:P.underlying t=some (.struct fs)) (hs:P.stoodInHeld t=false) (hl:fs.toList=fl) (h:qm P d xs ys fl b):mW P (d+1) t (.agg xs) (.agg ys) b:=by
  intro w
  subst hl
  have hf:P.fieldsOf t=fs:=by simp[Program.fieldsOf,hu]
  rw[run_equalIn_struct w d t xs ys (by rw[hf];exact hu) hs,hf]
  exact h w
theorem mW.iff {d:Nat} {t:TypeId} {x y:Value} {b:Bool} {p:Prop} [Decidable p] (h:mW P d t x y b) (hp:b=true↔p):mW P d t x y (decide p):=by
  have:b=decide p:=by cases b<;>simp_all
  rw[←this];exact h
theorem p8 {xt yt:TypeId} {x y:Operand} {xs ys:Array Value} {p:Prop} [Decidable p] (hx:ev R x=.agg xs) (hy:ev R y=.agg ys) (hg:P.eqGuardType P.depth xt=false) (h:mW P 10000 xt (.agg xs) (.agg ys) (decide p)):Ev P ⟨dst,.binOp .neq xt x y yt,ty,pos,af,gd⟩ R w (.bool (decide (¬p))):=by
  have h0:=run_eqGuard_agg (P:=P) w .neq xt x y xs ys hg
  have h1:=run_neq_struct (P:=P) w xt xs ys
  rw[h w]at h1
  simp[Ev,execOp,hx,hy,h0,h1]
end
abbrev I2:=Int×Int
abbrev I3:=Int×Int×Int
abbrev I5:=Int×Int×Int×Int×Int
def bG (a:I2):List Value:=[.int .i64 a.1,.int .i64 a.2]
def bC (a:I3):List Value:=[.int .i64 a.1,.int .i64 a.2.1,.int .i64 a.2.2]
def aV (a:I5):List Value:=[.int .i64 a.1,.int .i64 a.2.1,.int .i64 a.2.2.1,.int .i64 a.2.2.2.1,.int .i64 a.2.2.2.2]
theorem bp (a:I2):(bG a).length=2:=rfl
theorem aW (a:I3):(bC a).length=3:=rfl
theorem aI (a:I5):(aV a).length=5:=rfl
theorem ua (a:I2):bG a≠[]:=by unfold bG;simp
theorem oS (a:I3):bC a≠[]:=by unfold bC;simp
theorem fE (a:I5):aV a≠[]:=by unfold aV;simp
theorem nC (a:I2):∀u∈bG a,u.oneCell'=true:=by unfold bG;simp[agC]
theorem eH (a:I3):∀u∈bC a,u.oneCell'=true:=by unfold bC;simp[agC]
theorem dp (a:I5):∀u∈aV a,u.oneCell'=true:=by unfold aV;simp[agC]
end Go.Rl
namespace Go.Rl
open Go.RowKit
section
variable {α:Type} {cf:α→List Value} {s:Nat} {w0 w w':World} {F G:Nat→Prop} {L M N:List Atom}
def gJ (F:Nat→Prop) (cf:α→List Value) (w:World) (hs:List Hd) (ls:List (List α)):Prop:=hs.length=ls.length∧∀(i:Nat) h l,hs[i]?=some h→ls[i]?=some l→mz F cf w (vh h) l
theorem gJ.ext {hs:List Hd} {ls:List (List α)} (h:gJ F cf w hs ls) (he:Ext w w'):gJ F cf w' hs ls:=⟨h.1,fun i hd l hi hl=>(h.2 i hd l hi hl).ext he⟩
theorem gJ.step {hs:List Hd} {ls:List (List α)} (h:gJ F cf w0 hs ls) (jH:∀a,cf a≠[]) (hN:aH w0 F w L):gJ (b6 L) cf w hs ls:=⟨h.1,fun i hd l hi hl=>mz.step jH (h.2 i hd l hi hl) hN⟩
theorem gJ.ik {hs:List Hd} {ls:List (List α)} (h:gJ F cf w hs ls) {i:Nat} {hd:Hd} {l:List α} (hi:hs[i]?=some hd) (hl:ls[i]?=some l):mz F cf w (vh hd) l:=h.2 i hd l hi hl
def Atom.WY (cf:α→List Value) (v:Value) (l:List α):Atom where
  dR k:=v.ownBlock=some k
  says w:=Sm cf w v l∧∀k,v.ownBlock=some k→k<w.heap.size
  kp:=by
    intro w w' hb ⟨⟨A,c,he,g1,g2,hc⟩,cD⟩
    have key:∀k,v.ownBlock=some k→w'.heap[k]?=w.heap[k]?:=fun k hk=>hb k hk (cD k hk)
    refine⟨⟨A,c,he,g1,g2,fun j v hv=>?_⟩,fun k hk=>?_⟩
    · obtain ⟨ad, e, fq⟩ := hc j v hv
      refine⟨ad,e,?_⟩
      rw[aeQ (key _ (by rw[he,e,block_add];rfl)),fq]
    · have e := key k hk
      have hl:=cD k hk
      rw[aeN hl]at e
      exact(adr.1 e).1
def Atom.ed (cf:α→List Value) (hs:List Hd) (ls:List (List α)):Atom where
  dR k:=∃h∈hs,(vh h).ownBlock=some k
  says w:=hs.length=ls.length∧∀(i:Nat) h l,hs[i]?=some h→ls[i]?=some l→Sm cf w (vh h) l∧∀k,(vh h).ownBlock=some k→k<w.heap.size
  kp:=by
    intro w w' hb ⟨h1,h2⟩
    refine⟨h1,fun i h l hi hl=>?_⟩
    have h3:=h2 i h l hi hl
    obtain⟨⟨A,c,he,g1,g2,hc⟩,cD⟩:=h3
    have key:∀k,(vh h).ownBlock=some k→w'.heap[k]?=w.heap[k]?:=fun k hk=>hb k ⟨h,acC hi,hk⟩ (cD k hk)
    refine⟨⟨A,c,he,g1,g2,fun j v hv=>?_⟩,fun k hk=>?_⟩
    · obtain ⟨ad, e, fq⟩ := hc j v hv
      refine⟨ad,e,?_⟩
      rw[aeQ (key _ (by rw[he,e,block_add];rfl)),fq]
    · have e := key k hk
      have hl:=cD k hk
      rw[aeN hl]at e
      exact(adr.1 e).1
theorem aH.NI (h:aH w0 F w L) (i:Nat) {E:TypeId} {v:Value} {l:List α} (hi:L[i]?=some (.cd cf s E v l)):aH w0 F w (L.set i (.WY cf v l)):=
  h.turn i hi ⟨(h.cd i hi).sm,fun k hk=>((h.cd i hi).lt k hk).2⟩ (fun _ hk=>hk)
theorem aH.yC (h:aH w0 F w L) (cf:α→List Value):aH w0 F w (.ed cf [] []::L):=
  h.add ⟨rfl,fun i h l hi=>by simp at hi⟩ (fun k hk=>by obtain⟨h,hh,_⟩:=hk;cases hh) (fun _ _ _ _ _ hk=>by obtain⟨h,hh,_⟩:=hk;cases hh)
theorem aH.lP (h:aH w0 F w L) (i:Nat) {hs:List Hd} {ls:List (List α)} (hi:L[i]?=some (.ed cf hs ls)):gJ none_ cf w hs ls:=by
  have hf:(Atom.ed cf hs ls).says w:=h.says i _ hi
  exact⟨hf.1,fun q h' l hq hl=>⟨(hf.2 q h' l hq hl).1,sN.none _ _⟩⟩
theorem aH.Ft {h:Hd} {l:List α} {hs:List Hd} {ls:List (List α)} (hN:aH w0 F w (.WY cf (vh h) l::L)) (j:Nat) (hj:L[j]?=some (.ed cf hs ls)):aH w0 F w (L.set j (.ed cf (hs++[h]) (ls++[l]))):=by
  have ho:Sm cf w (vh h) l∧∀k,(vh h).ownBlock=some k→k<w.heap.size:=hN.says 0 _ rfl
  have hf:(Atom.ed cf hs ls).says w:=hN.says (j+1) _ (by simpa using hj)
  have cD:j<L.length:=(acF.1 hj).1
  have dR:∀k,(Atom.ed cf (hs++[h]) (ls++[l])).dR k→(Atom.ed cf hs ls).dR k∨(vh h).ownBlock=some k:=by
    rintro k ⟨h',hm,hk⟩
    rcases adn.1 hm with e|e
    · exact .inl ⟨h',e,hk⟩
    · rw[adh]at e;subst e;exact .inr hk
  have get:∀(i:Nat) c,(L.set j (.ed cf (hs++[h]) (ls++[l])))[i]?=some c→(i=j∧c=.ed cf (hs++[h]) (ls++[l]))∨(i≠j∧L[i]?=some c):=by
    intro i c hc
    rw[adp]at hc
    by_cases e:j=i
    · subst e;rw[if_pos rfl,if_pos cD]at hc;exact .inl ⟨rfl,(ac7 hc).symm⟩
    · rw[if_neg e]at hc;exact .inr ⟨fun x=>e x.symm,hc⟩
  have z0:∀(i:Nat) c,L[i]?=some c→(∀k,c.dR k→¬(vh h).ownBlock=some k)∧(i≠j→∀k,c.dR k→¬(Atom.ed cf hs ls).dR k):=fun i c hc=>
    ⟨fun k hk e=>hN.sep (i+1) 0 c _ (by omega) (by simpa using hc) rfl k hk e,fun hi k hk e=>hN.sep (i+1) (j+1) c _ (by omega) (by simpa using hc) (by simpa using hj) k hk e⟩
  refine⟨hN.mod,?_,?_,?_⟩
  · intro i c hc
    rcases get i c hc with⟨_,rfl⟩|⟨_,hc⟩
    · refine ⟨by simp [hf.1], fun q h' l' hq hl => ?_⟩
      rcases adi q hs.length with vL|vL
      · rw [adu vL] at hq
        rw[adu (by rw[←hf.1];exact vL)]at hl
        exact hf.2 q h' l' hq hl
      · rw [ads vL] at hq
        rw[ads (by rw[←hf.1];exact vL),←hf.1]at hl
        have hz:q-hs.length=0:=by
          rcases aex (q-hs.length)with e|e
          · exact e
          · rw[aea (by simp;omega)]at hq;cases hq
        rw[hz]at hq hl
        cases hq;cases hl
        exact⟨ho.1,fun k hk=>ho.2 k hk⟩
    · exact hN.says (i+1) c (by simpa using hc)
  · intro i c hc k hk
    rcases get i c hc with⟨_,rfl⟩|⟨_,hc⟩
    · rcases dR k hk with e | e
      · exact hN.low (j+1) _ (by simpa using hj) k e
      · exact hN.low 0 _ rfl k e
    · exact hN.low (i+1) c (by simpa using hc) k hk
  · intro i i' c c' dX hc vS k hk iZ
    rcases get i c hc with⟨rfl,rfl⟩|⟨hi,hc⟩<;>rcases get i' c' vS with⟨rfl,rfl⟩|⟨Ka,vS⟩
    · exact dX rfl
    · rcases dR k hk with e | e
      · exact(z0 i' c' vS).2 Ka k iZ e
      · exact(z0 i' c' vS).1 k iZ e
    · rcases dR k iZ with e | e
      · exact(z0 i c ‹_›).2 hi k hk e
      · exact(z0 i c ‹_›).1 k hk e
    · exact hN.sep (i+1) (i'+1) c c' (by omega) (by simpa using ‹L[i]?=some c›) (by simpa using vS) k hk iZ
theorem aH.uQ {E:TypeId} {h:Hd} {l:List α} {hs:List Hd} {ls:List (List α)} (hN:aH w0 F w (.cd cf s E (vh h) l::L)) (j:Nat) (hj:L[j]?=some (.ed cf hs ls)):aH w0 F w (L.set j (.ed cf (hs++[h]) (ls++[l]))):=
  aH.Ft (h:=h) (l:=l) (hN.NI 0 rfl) j hj
end
section
variable {P:Program} {R:Nat→Value} {w:World} {dst:Option Tmp} {ty:TypeId} {pos:String} {af:Array Edge} {gd:Option (Nat×Bool)} {α:Type} {cf:α→List Value} {s:Nat}
def C4 (s:Nat) (v:Value) (lo hi:Nat):Value:=match v with
  |.slice A n c=>.slice (if c=lo then A else A.map (·.add (lo*s))) (hi-lo) (c-lo)
  |v=>v
theorem Sm.cut (jH:∀a,(cf a).length=s) {v:Value} {lo hi:Nat} {l:List α} (h:Sm cf w v l) (mJ:lo≤hi) (mY:hi≤l.length):Sm cf w (C4 s v lo hi) ((l.take hi).drop lo):=by
  obtain⟨A,c,rfl,h1,h2,hc⟩:=h
  have hlen:((l.take hi).drop lo).length=hi-lo:=by simp;omega
  refine⟨_,c-lo,by rw[hlen];rfl,by omega,by omega,?_⟩
  split
  · have : (l.take hi).drop lo = [] := adH (by omega)
    rw[this];exact Cells.nil _ _
  · intro j u hj
    have Vm:j<(((l.take hi).drop lo).flatMap cf).length:=(acF.1 hj).1
    rw[kS jH]at Vm
    have hs:0<s:=by
      rcases aex s with e|e
      · rw[e,aid]at Vm;omega
      · exact e
    have hq:j/s<((l.take hi).drop lo).length:=ahX (by rw[afO];exact Vm)
    have hr:j%s<s:=Nat.mod_lt _ hs
    have ej:j=(j/s)*s+j%s:=by rw[afO];exact(ajd j s).symm
    rw[ej,jO jH (acM hq) hr]at hj
    have hm:l[lo+j/s]?=some ((l.take hi).drop lo)[j/s]:=by
      rw[←acM hq,afN,aeg,if_pos (by omega)]
    obtain⟨ad,rfl,fq⟩:=hc ((lo+j/s)*s+j%s) u (by rw[jO jH hm hr];exact hj)
    refine⟨ad.add (lo*s),rfl,?_⟩
    rw[add_add,show lo*s+j=(lo+j/s)*s+j%s by rw[Nat.add_mul];omega]
    exact fq
theorem Sm.rL (jH:∀a,(cf a).length=s) {v:Value} {hi:Nat} {l:List α} (h:Sm cf w v l) (mY:hi≤l.length):Sm cf w (C4 s v 0 hi) (l.take hi):=by simpa using h.cut jH (adW hi) mY
theorem Sm.kX (jH:∀a,(cf a).length=s) {v:Value} {lo:Nat} {l:List α} (h:Sm cf w v l) (mJ:lo≤l.length):Sm cf w (C4 s v lo l.length) (l.drop lo):=by simpa using h.cut jH mJ (ac8 _)
theorem xi {t e : TypeId} {x hi : Operand} {v : Value} {l : List α} {k' : IntKind} {b : Int} (ht : P.underlying t = some (.slice e)) (eI : (P.info? e).map (·.size) = some s)
    (hs:Sm cf w v l) (hx:ev R x=v) (mY:ev R hi=.int k' b) (h1:0≤b) (h2:b≤l.length):
    Ev P ⟨dst,.slice t x none (some hi) none,ty,pos,af,gd⟩ R w (C4 s v 0 b.toNat):=by
  obtain⟨A,c,rfl,Ie,hm,hc⟩:=hs
  have qL:0≤b∧b≤(c:Int):=⟨by omega,by omega⟩
  simp[Ev,C4,execOp,hx,mY,af8,agE,run_underlying ht,afq,afD,asIntOf,qL,fa (w:=w) eI]
theorem rK {t e : TypeId} {x lo : Operand} {v : Value} {l : List α} {k : IntKind} {a : Int} (ht : P.underlying t = some (.slice e)) (eI : (P.info? e).map (·.size) = some s)
    (hs:Sm cf w v l) (hx:ev R x=v) (mJ:ev R lo=.int k a) (h0:0≤a) (h1:a≤l.length):
    Ev P ⟨dst,.slice t x (some lo) none none,ty,pos,af,gd⟩ R w (C4 s v a.toNat l.length):=by
  obtain⟨A,c,rfl,Ie,hm,hc⟩:=hs
  have MO:0≤a∧a≤(l.length:Int):=⟨h0,by omega⟩
  simp[Ev,C4,execOp,hx,mJ,af8,agE,run_underlying ht,afq,afD,asIntOf,MO,fa (w:=w) eI]
end
section
variable {P:Program} {R:Nat→Value} {w:World} {dst:Option Tmp} {ty:TypeId} {pos:String} {af:Array Edge} {gd:Option (Nat×Bool)} {α:Type} {cf:α→List Value} {s:Nat}
theorem Fu {t : TypeId} {x : Operand} {v : Value} {l : List α} {m j z : Nat} {a : α} {d : TypeDesc} (hu : P.underlying t = some d) (hd : d.isRow = true) (eI : (P.info? t).map (·.size) = some z) (jH : ∀ a, (cf a).length = s) (hz : 0 < z) (hjz : j + z ≤ s)
    (hs:Sm cf w v l) (hx:ev R x=dI v (m*s+j)) (hm:l[m]?=some a) {cs:List Value} (oz:((cf a).drop j).take z=cs):Ev P ⟨dst,.load t x,ty,pos,af,gd⟩ R w (.agg cs.toArray):=by
  subst oz
  have dX:∃u,(cf a)[j]?=some u:=⟨_,acM (by rw[jH];omega)⟩
  obtain⟨u,Qe⟩:=dX
  obtain⟨ad,c,rfl,he,_⟩:=hs.at jH hm Qe
  have hlen:(((cf a).drop j).take z).length=z:=by rw[ac9,adj,jH];omega
  have key:∀q u,(((cf a).drop j).take z)[q]?=some u→w.cell? ((ad.add (m*s+j)).add q)=some u:=by
    intro q u hq
    have ZW:q<z:=by have:=(acF.1 hq).1;omega
    rw[aeg,if_pos ZW,afN]at hq
    obtain⟨PR,c',h1,_,h3⟩:=hs.at jH hm hq
    cases h1
    rw[add_add,ah1];exact h3
  have lM:=run_loadCells_list (P:=P) (w:=w) (ad.add (m*s+j)) (((cf a).drop j).take z) key
  have uL:(isAgg t).run P w=.ok true w:=by
    unfold isAgg
    rw[adA,run_underlying hu w]
    cases d<;>simp_all [ahL]
  rw[hlen]at lM
  simp[Ev,execOp,hx,he,agj,aes,loadVar,uL,fa (w:=w) eI,lM]
end
theorem fK.KD {α:Type} {cf:α→List Value} {s:Nat} {F:Nat→Prop} {w w':World} {E:TypeId} {v:Value} {l:List α} (h:fK cf s E w' w.heap.size v l) (hF:∀k,F k→k<w.heap.size):mz F cf w' v l:=⟨h.sm,fun hl k hk hf=>by have h1:=(h.lt k hk).1;have h2:=hF k hf;omega⟩
theorem eB.KF {α:Type} {enc:α→Value} {F:Nat→Prop} {w w':World} {E:TypeId} {v:Value} {l:List α} (h:eB enc E w' w.heap.size v l) (hF:∀k,F k→k<w.heap.size):nR F enc w' v l:=⟨h.sl,fun hl k hk hf=>by have h1:=(h.lt k hk).1;have h2:=hF k hf;omega⟩
theorem dJ {α:Type} {l:List α} {i:Nat} {a:α} (h:l[i]?=some a):l.take (i+1)=l.take i++[a]:=by rw[ae1,h];rfl
section
variable {P:Program} {n:Nat} {Q:fJ} {R:Nat→Value} {w:World}
end
section
variable {P:Program} {R:Nat→Value} {w:World} {dst:Option Tmp} {ty:TypeId} {pos:String} {af:Array Edge} {gd:Option (Nat×Bool)}
theorem DY {x y z:Operand} {k:IntKind} {a b c:Int} {qb:Array TypeId} (hx:ev R x=.int k a) (hy:ev R y=.int k b) (hz:ev R z=.int k c):Ev P ⟨dst,.call ⟨.builtin .min,#[x,y,z],qb⟩,ty,pos,af,gd⟩ R w (.int k (min (min a b) c)):=by
  have h:(if b<a then b else a)=min a b:=by omega
  have h2:(if c<min a b then c else min a b)=min (min a b) c:=by omega
  simp[Ev,execOp,resolve,invoke,builtin,ajA,ajB,hx,hy,hz,h,h2]
end
end Go.Rl
namespace Go.Rl
open Go.RowKit
section
variable {F:Fence} {n:Nat} {P:Program} {a:Act} {w:World} {Q:Exit→Act→World→Prop}
theorem iM {b:Frame} {k:List Item} {cs:List Frame} {c:Code}:step P (lone (b.atR a (.code (.scope c)::k)) cs w)=.next (lone (b.atR a (.code c::.inScope c::k)) cs w):=
  step_lone_go (by simp[stepG,stepG.exec,Frame.atR])
theorem vg {b:Frame} {k:List Item} {cs:List Frame} {c:Code}:step P (lone (b.atR a (.inScope c::k)) cs w)=.next (lone (b.atR a k) cs w):=
  step_lone_go (by simp[stepG,stepG.exec,Frame.atR])
theorem Bz {c:Code} (h:c.wpIn F n P (Exit.noGoto Q) a w):(Code.scope c).wpIn F n P Q a w:=by
  intro b k cs Og hb hr
  have h0:(lone (b.atR a (.code (.scope c)::k)) cs w).fenced P F:=fenced_calm hb hr rfl
  obtain⟨e,a₁,w₁,hq,Fh⟩:=h b (.inScope c::k) cs Og hb hr
  cases e with
  |normal=>exact⟨.normal,a₁,w₁,hq,.head h0 iM (StepsIn.trans Fh (.one (fenced_calm hb hr rfl) vg))⟩
  |exit id=>
    have hx:exitTo id (.inScope c::k)=exitTo id k:=by simp[exitTo]
    exact⟨.exit id,a₁,w₁,hq,fun k' hk=>.head h0 iM (Fh.1 k' (by rw[hx];exact hk)),fun ZV hk=>let ⟨k₁,h1,h2⟩:=Fh.2 ZV (by rw[hx];exact hk);⟨k₁,h1,.head h0 iM h2⟩⟩
  |goto l=>exact hq.elim
  |ret=>exact⟨_,a₁,w₁,hq,.of_steps (.one h0 iM) Fh⟩
  |panic ch=>exact⟨_,a₁,w₁,hq,.of_steps (.one h0 iM) Fh⟩
  |outgrown=>exact⟨_,a₁,w₁,hq,.of_steps (.one h0 iM) Fh⟩
end
section
variable {P:Program} {ro:Option Nat} {n:Nat} {Q:eV} {R:Nat→Value} {w:World} {ds:List Deferred}
def BT (Q:eV):eV:=fun e ds R w=>match e with
  |.goto _=>False
  |e=>Q e ds R w
theorem XW.scope {c:Code} (h:XW P ro n c (BT Q) ds R w):XW P ro n (.scope c) Q ds R w:=fun a ha=>by
  refine Bz (wpIn_mono (h a ha) ?_)
  rintro e a' w' ⟨R',Ki,hR,hQ⟩
  cases e with
  |goto l=>exact hQ.elim
  |_=>exact⟨R',Ki,hR,hQ⟩
theorem Di (h:Q .ret ds R w):BT Q .ret ds R w:=h
theorem XW.label {l:Nat} (h:Q .normal ds R w):XW P ro n (.label l) Q ds R w:=fun _ ha=>wpIn_label ⟨R,ds,ha,h⟩
end
section
variable {P:Program} {ops:Array Oper} {Qa:Exit→Act→World→Prop} {S:World→Prop}
theorem Dh {i : Nat} {o : Oper} {v : Value} {a : Act} (hi : ops[i]? = some o) (hy : YieldsIf P ops S o v a)
    {K:Act→World→Prop} {w:World} (hS:S w) (h:K (a.put o.dst v) w):wpOpIn (XF none) 0 P ops Qa i K a w:=by
  unfold Go.wpOpIn
  simp only[hi]
  rcases hy with⟨hw,hv⟩|⟨hw,rfl⟩
  · simp only[hw,if_true,Oper.wpIn,aho,hv w hS,afn];exact⟨fun _ _=>trivial,h⟩
  · simp only[hw,adT,if_false];exact⟨fun _ _=>trivial,h⟩
theorem zk {j : Nat} {oi oj : Oper} {v : Value} (hj : ops[j]? = some oj) (bV : oi.apart ops oj = true)
    (gI:∀cs b,oi.op≠.select cs b) (ZN:∀cs b,oj.op≠.select cs b)
    (hQ:∀c a w,Qa (.panic c) (a.put oi.dst v) w→Qa (.panic c) a w) {K:Act→World→Prop} {a:Act} {w:World}
    (hy:YieldsIf P ops S oi v a) (h:wpOpIn (XF none) 0 P ops Qa j K (a.put oi.dst v) w):
    wpOpIn (XF none) 0 P ops Qa j (fun a' w'=>YieldsIf P ops S oi v a'∧K (a'.put oi.dst v) w') a w:=by
  obtain⟨h1,h2,h3⟩:=Oper.apart_spec bV
  have kp:∀(a:Act),YieldsIf P ops S oi v a→∀u,YieldsIf P ops S oi v (a.put oj.dst u):=fun a hy u=>
    hy.of_same (execOp_put oi gI a oj.dst u h3) (wanted_put oi a oj.dst u h3)
  have Q3:∀d,YieldsIf P ops S oi v {a with defers:=d::a.defers}:=fun d=>hy.of_same rfl rfl
  unfold wpOpIn at*
  simp only[hj]at*
  rw[wanted_put oj a oi.dst v h1]at h
  split
  · rename_i hw
    simp only[hw,if_true]at h
    unfold Oper.wpIn at*
    refine⟨fun _ _=>trivial,?_⟩
    have h:=h.2
    rw[aho,execOp_put oj ZN a oi.dst v h1]at h
    rw[aho]
    generalize (execOp a.eval oj).run P w=r at*
    cases r with
    |ok x w'=>
      cases x<;>simp only[afn]at h ⊢
      case value u=>exact⟨kp a hy u,by rw[←afw a v u h2];exact h⟩
      case skip=>exact⟨kp a hy _,by rw[←afw a v undef h2];exact h⟩
      case defer d=>
        refine⟨kp _ (Q3 d) _,?_⟩
        rw[←afw _ v undef h2,←Act.put_defers]
        exact h
      case enter f args=>
        refine⟨h.1,ag5 h.2 fun e BC he=>?_⟩
        cases e with
        |returned u=>exact⟨kp a hy u,by rw[←afw a v u h2];exact he⟩
        |panicked c=>exact hQ _ _ _ he
        |outgrown=>exact he
      case row row args=>exact⟨h.1,aiN h.2 fun u BC he=>⟨kp a hy u,by rw[←afw a v u h2];exact he⟩⟩
      case round l f tmps assign body=>
        refine⟨h.1,aib h.2 fun e BC he=>?_⟩
        cases e with
        |returned u=>exact⟨kp a hy u,by rw[←afw a v u h2];exact he⟩
        |panicked c=>exact hQ _ _ _ he
        |outgrown=>exact he
    |halt x w'=>
      cases x<;>simp only[afn]at h ⊢
      case panic u=>exact hQ _ _ _ h
  · rename_i hw
    simp only[hw]at h
    exact⟨fun _ _=>trivial,kp a hy _,by rw[←afw a v undef h2];exact h.2⟩
def sP (P : Program) (ops : Array Oper) (Q : Exit → Act → World → Prop) (S : World → Prop) : Nat → Array Bool → Act → World → Prop
  |0,bx,a,w=>adx .any ops bx=[]∧Q .normal a w
  |fuel+1,bx,a,w=>(adx .any ops bx=[]→Q .normal a w)∧
      ∀i∈adx .any ops bx,wpOpIn (XF none) 0 P ops Q i (fun a' w'=>S w'∧sP P ops Q S fuel (bx.setIfInBounds i true) a' w') a w
theorem pf : ∀ (fuel : Nat) (bx : Array Bool) (a : Act) (w : World), sP P ops Qa S fuel bx a w → wpAnyIn (XF none) 0 P .any ops Qa fuel bx a w
  |0,_,_,_,h=>h
  |fuel+1,_,_,_,h=>⟨h.1,fun i hi=>wpOpIn_mono (fun a' w' h'=>pf fuel _ a' w' h'.2) (h.2 i hi)⟩
theorem xw {i : Nat} {oi : Oper} {v : Value} (hi : ops[i]? = some oi) (HY : ∀ (j : Nat) (o : Oper) cs b, ops[j]? = some o → o.op ≠ .select cs b)
    (hQ:∀c a w,Qa (.panic c) (a.put oi.dst v) w→Qa (.panic c) a w):
    ∀(fuel:Nat) (bx:Array Bool) (a:Act) (w:World),
      (∀j oj,ops[j]?=some oj→j≠i→bx.getD j true=false→(∀e∈oj.after,afu .any e=true→e.on≠i)→oi.apart ops oj=true)→
      i∈adx .any ops bx→YieldsIf P ops S oi v a→S w→
      sP P ops Qa S fuel (bx.setIfInBounds i true) (a.put oi.dst v) w→sP P ops Qa S (fuel+1) bx a w:=by
  intro fuel
  induction fuel with
  |zero=>
    intro bx a w _ hr hy hS H
    refine⟨fun h=>(by rw[h]at hr;cases hr),fun j hj=>?_⟩
    by_cases yo:j=i
    · subst yo;exact Dh hi hy hS ⟨hS,H⟩
    · have := ready_mono hj yo
      rw[H.1]at this
      cases this
  |succ fuel ih=>
    intro bx a w uB hr hy hS H
    refine⟨fun h=>(by rw[h]at hr;cases hr),fun j hj=>?_⟩
    by_cases yo:j=i
    · subst yo;exact Dh hi hy hS ⟨hS,H⟩
    · have h1 := H.2 j (ready_mono hj yo)
      obtain⟨Im,oj,On,fQ⟩:=mem_ready.1 hj
      have Ov:∀e∈oj.after,afu .any e=true→e.on≠i:=fun e he hb heq=>by
        have h1:=fQ e he hb
        have h0:=(mem_ready.1 hr).1
        rw[heq]at h1
        rcases adi i bx.size with h'|h'
        · simp[h']at h0 h1;rw[h0]at h1;cases h1
        · simp[aeU h']at h1
      have h2:=zk On (uB j oj On yo Im Ov) (fun cs b=>HY i oi cs b hi) (fun cs b=>HY j oj cs b On) hQ hy h1
      have CO:∀k ok,ops[k]?=some ok→k≠i→(bx.setIfInBounds j true).getD k true=false→
          (∀e∈ok.after,afu .any e=true→e.on≠i)→oi.apart ops ok=true:=fun k ok hk Vk Rh fA=>by
        refine uB k ok hk Vk ?_ fA
        by_cases DM:j=k
        · subst DM;exact Im
        · rw[getD_set_ne true DM]at Rh;exact Rh
      refine wpOpIn_mono (fun a' w' h3=>⟨h3.2.1,ih (bx.setIfInBounds j true) a' w' CO (ready_mono hr (ajj yo)) h3.1 h3.2.1 ?_⟩) h2
      rw[ag4 _ _ yo]
      exact h3.2.2
end
def XA (P:Program) (n:Nat) (ops:Array Oper) (Q:eV) (S:World→Prop) (fuel:Nat) (bx:Array Bool) (ds:List Deferred) (R:Nat→Value) (w:World):Prop:=
  ∀a,sO ds n R a→sP P ops (eV.up n Q) S fuel bx a w
def yU (Q:eV):Prop:=∀c ds R w,¬Q (.panic c) ds R w
section
variable {P:Program} {n:Nat} {Q:eV} {R:Nat→Value} {w:World} {ds:List Deferred} {ops:Array Oper} {S:World→Prop} {fuel:Nat} {bx:Array Bool}
theorem D8 {c:List PanicEntry} (hp:yU Q) (dst:Option Tmp) (v:Value) (a:Act) (w:World):eV.up n Q (.panic c) (a.put dst v) w→eV.up n Q (.panic c) a w:=fun⟨R,ds,_,h⟩=>absurd h (hp c ds R w)
theorem XW.p9 {id : Nat} (hm : P.follows .mixedOrders = true) (S : World → Prop)
    (h:XA P n ops Q S ops.size (aev ops.size false) ds R w.drew):XW P none n (.region id ops true) Q ds R w:=fun a ha=>wpIn_region_any hm (pf _ _ _ _ (h a ha))
theorem XA.done (hr:adx .any ops bx=[]) (h:Q .normal ds R w):XA P n ops Q S fuel bx ds R w:=fun a ha=>by
  cases fuel with
  |zero=>exact⟨hr,R,ds,ha,h⟩
  |succ f=>exact⟨fun _=>⟨R,ds,ha,h⟩,by rw[hr];simp⟩
theorem XA.take {i : Nat} {o : Oper} {v : Value} (hi : ops[i]? = some o) (hg : o.guard = none) (hs : aeE ops = true)
    (hf:afL .any ops bx i=true) (hr:(adx .any ops bx).contains i=true) (hp:yU Q) (hd:eL n o.dst=true) (hS:S w) (h:∀w,S w→Ev P o R w v)
    (hn:XA P n ops Q S fuel (bx.setIfInBounds i true) ds (eY R o.dst v) w):XA P n ops Q S (fuel+1) bx ds R w:=fun a ha=>
  xw hi (ahV hs) (fun c a w=>D8 hp _ _ a w) fuel bx a w (ai6 hi hf) (by simpa using hr) (.inl ⟨by simp[adN,hg],fun w hw=>by rw[ha.eval];exact h w hw⟩) hS (hn _ (ha.put hd v))
theorem XA.only {i : Nat} {o : Oper} (hr : adx .any ops bx = [i]) (hi : ops[i]? = some o) (hg : o.guard = none) (hd : eL n o.dst = true)
    (h:lV P none o R w (fun v w'=>S w'∧XA P n ops Q S fuel (bx.setIfInBounds i true) ds (eY R o.dst v) w')):XA P n ops Q S (fuel+1) bx ds R w:=fun a ha=>by
  refine⟨fun h0=>(by rw[hr]at h0;cases h0),fun j hj=>?_⟩
  have:j=i:=by rw[hr]at hj;simpa using hj
  subst this
  unfold wpOpIn
  simp only[hi,adN,hg,if_true]
  exact lV.wp ha hd h fun v w' hv uG=>⟨hv.1,hv.2 _ uG⟩
end
def u2 {ε π:Type} (P:Program) (gf:FuncId) (lb:Array Value) (M:List Atom) (Fx:(Nat→Prop)→World→Prop) (p:ε→π) (enc:ε→Array Value) (Rd:(Nat→Prop)→ε→World→Prop) (xs:List π):Prop:=
  ∀(σ:Type) (l:Nat) (C:Bool→σ→Atom) (T:σ→ε→Bool→σ→Prop) (s0:σ) (w0 w:World) (F:Nat→Prop),(∀s x b s',T s x b s'→b=true)→oD P l C T p s0 xs Rd enc→Fx F w0→aH w0 F w (C true s0::M)→
    aM P gf (#[.func (.yield l) #[] #[]]++lb) w fun _ w'=>∃s',vc T p s0 xs s'∧aH w0 F w' [C true s']
section
variable {P:Program} {n:Nat} {Q:eV} {R:Nat→Value} {w0 w:World} {F:Nat→Prop} {M:List Atom}
theorem XW.BZ {σ ε π : Type} {g : Operand} {ps : Array Tmp} {FJ body : Code} {gf : FuncId} {fn : Func} {lb : Array Value} {p : ε → π} {enc : ε → Array Value} {Rd : (Nat → Prop) → ε → World → Prop} {xs : List π} {Fx : (Nat → Prop) → World → Prop}
    (S:σ→List Atom) (T:σ→ε→Bool→σ→Prop) (s0:σ)
    (hN:aH w0 F w (S s0++M)) (hg:ev R g=.func (.func gf) #[] lb) (hf:P.funcs[gf]?=some fn) (hn:(fn.name == "runtime.NumGoroutine")=false) (hb:fn.body.isSome=true)
    (SB:u2 P gf lb M Fx p enc Rd xs) (hT:∀s x b s',T s x b s'→b=true) (hFx:Fx F w0) (E7:∀x,(enc x).size=ps.size) (cD:∀t∈ps.toList,t<n)
    (Jf:∀(l D:Nat) (rc:LoopState→Option Code→Loop) (FF:Nat→Prop) (s:σ) (x:ε) (pre post:List π) (w:World),vc T p s0 pre s→xs=pre++p x::post→Rd FF x w→aH w FF w (.obj l (.loop (rc .ready none))::.obj D (.deferred (some []))::S s)→
      XW P (some l) n FJ (yP P l n body (BW (T s x) FF l D rc S w) FF (.obj l (.loop (rc .busy none))::.obj D (.deferred (some []))::S s) w) [] (BS R (ps.toList.zip (enc x).toList)) w)
    (I8:∀(l D:Nat) (o:Obj) (s:σ) (w:World),vc T p s0 xs s→aH w0 F w (.obj l o::.obj D (.deferred (some []))::S s)→Q .normal (mark D) R w):
    XW P none n (.rangeFunc g ps FJ body) Q [] R w:=
  XW.NG S T s0 hN hg hf hn hb (fun l C w1 hy h1 => (SB σ l C T s0 w0 w1 F hT hy hFx h1).mono fun _ _ ⟨s', hr, h2⟩ => ⟨s', .inl ⟨hr, h2⟩⟩) E7 cD Jf I8
    (fun l D o s w hs _=>by obtain⟨_,_,_,_,_,_,hx⟩:=hs;exact absurd (hT _ _ _ _ hx) (by simp))
end
end Go.Rl
namespace Go.Rl
def eW {σ ε π:Type} (T:σ→ε→Bool→σ→Prop) (p:ε→π) (s0:σ) (xs:List π) (s:σ) (todo:List π):Prop:=∃pre,vc T p s0 pre s∧xs=pre++todo
section
variable {σ ε π:Type} {P:Program} {l:Nat} {C:Bool→σ→Atom} {T:σ→ε→Bool→σ→Prop} {p:ε→π} {s0 s:σ} {xs todo:List π} {Rd:(Nat→Prop)→ε→World→Prop} {enc:ε→Array Value} {w:World}
theorem eW.start:eW T p s0 xs s0 xs:=⟨[],.nil,rfl⟩
theorem eW.done (h:eW T p s0 xs s []):vc T p s0 xs s:=by obtain⟨pre,h1,h2⟩:=h;rw[adw]at h2;rw[h2];exact h1
theorem eW.as {t:List π} (h:eW T p s0 xs s todo) (e:todo=t):eW T p s0 xs s t:=e▸h
theorem eW.yield (hT:∀s x b s',T s x b s'→b=true) (hY:oD P l C T p s0 xs Rd enc) (x:ε) (h:eW T p s0 xs s (p x::todo)) (hN:aH w (b6 [C true s]) w [C true s]) (hR:Rd (b6 [C true s]) x w):
    o6 P l (enc x) w fun v w'=>∃s',v=.bool true∧eW T p s0 xs s' todo∧aH w (b6 [C true s]) w' [C true s']:=by
  obtain⟨pre,h1,h2⟩:=h
  refine(hY s x pre todo w h1 h2 hN hR).mono ?_
  rintro v w' ⟨b,s',rfl,ht,hn⟩
  have hb:=hT _ _ _ _ ht
  subst hb
  exact⟨s',rfl,⟨pre++[p x],.snoc h1 ht,by rw[h2,adB];rfl⟩,hn⟩
end
end Go.Rl
namespace Go.Rl
section
variable {P:Program} {w0 w w':World} {F:Nat→Prop} {L M:List Atom} {α:Type} {enc:α→Value} {cf:α→List Value} {s:Nat}
def PU (F:Nat→Prop) (w:World) (g:Nat) (cs:List Value) (T:TypeId):Prop:=ij w g cs T∧¬F g
theorem PU.now {g:Nat} {cs:List Value} {T:TypeId} (h:PU F w0 g cs T) (hN:aH w0 F w L):ij w g cs T:=h.1.mod hN.mod h.2
theorem aH.Nv (h:aH w0 F w L) (i:Nat) {E:TypeId} {v:Value} {l:List α} (hi:L[i]?=some (.cd cf s E v l)) (p:List Nat) (hM:M.map some=p.map (fun i=>L[i]?)) (hp:(p.all fun j=>j != i)=true):mz (b6 M) cf w v l:=
  ⟨h.sm i hi,h.lI p hM i hi hp fun _ hk=>hk⟩
theorem aH.PJ (h:aH w0 F w L) (i:Nat) {g:Nat} {cs:List Value} {T:TypeId} (hi:L[i]?=some (.aJ g cs T)) (p:List Nat) (hM:M.map some=p.map (fun i=>L[i]?)) (hp:(p.all fun j=>j != i)=true):PU (b6 M) w g cs T:=by
  refine⟨h.aJ i hi,?_⟩
  rintro⟨b,hb,hf⟩
  have h2:some b∈M.map some:=adg.2 ⟨b,hb,rfl⟩
  rw[hM]at h2
  obtain⟨j,OJ,hj⟩:=adg.1 h2
  have dX:j≠i:=by simpa using afE.1 hp j OJ
  exact h.sep j i _ _ dX hj hi g hf rfl
end
end Go.Rl
namespace Go.Rl
section
variable {P:Program} {n:Nat} {Q:fJ} {R:Nat→Value} {w0 w:World} {F:Nat→Prop} {L:List Atom} {K:Value→World→Prop} {dst:Option Tmp} {ty:TypeId} {pos:String} {af:Array Edge} {gd:Option (Nat×Bool)}
variable {α:Type} {enc:α→Value}
theorem pD {t e : TypeId} {x : Operand} {v : Value} {E : TypeId} {l : List α} (ht : P.underlying t = some (.slice e)) (he : P.underlying e = some (.int .u8)) (hN : aH w0 F w L) (i : Nat) (hi : L[i]? = some (.own enc E v l)) (hx : ev R x = v) {ad : Addr} {m c : Nat} (hv : v = .slice (some ad) m c)
    (h:∀w',aH w0 F w' (L.set i (.sl enc v l))→K v w'):ey P ⟨dst,.convert t t x,ty,pos,af,gd⟩ R w K:=
  zX ht he (hN.sl i hi) hx hv fun w' hs hm eI=>h w' <| hN.dm i hi hm ⟨hs,fun k hk=>by rw[eI];exact(hN.low i _ hi k hk).2⟩ fun k hk=>⟨.inl hk,by rw[eI];exact(hN.low i _ hi k hk).2⟩
theorem nt {t e : TypeId} {s x : Operand} {v u : Value} {l m : List α} {z : Value} {bytes : Nat} {ad : Addr} (ht : P.underlying t = some (.slice e)) (gu : (P.info? e).map (fun i => (i.zero, i.size, i.bytes)) = some (some z, 1, bytes)) (hz : z.cells.size = 1)
    (hN:aH w0 F w L) (hs:Sl enc w v l) (hv:v=.slice (some ad) l.length l.length) (hx:ev R s=v) (hu:Sl enc w u m) (hm:0<m.length) (hy:ev R x=u) (hlen:(l.length+m.length)*bytes≤140737488355328) (kx:0<bytes)
    (h:∀v' w',aH w0 F w' (.own enc e v' (l++m)::L)→K v' w'):ey P ⟨dst,.call ⟨.builtin .append,#[s,x],#[t,t]⟩,ty,pos,af,gd⟩ R w K:=by
  obtain⟨A,c,rfl,Ie,Oy,hc⟩:=hu
  obtain⟨A0,c0,e0,aai,Z9,TN⟩:=hs
  rw[hv]at e0
  cases e0
  have CL:∃i,P.info? e=some i∧i.zero=some z∧i.size=1∧i.bytes=bytes:=by
    cases hq:P.info? e with
    |none=>simp[hq]at gu
    |some i=>simp[hq]at gu;exact⟨i,rfl,gu⟩
  obtain⟨i,hi,DN,y9,OQ⟩:=CL
  have hle:l.length+m.length≤(l.length+m.length)*bytes:=ahl _ kx
  have hA:∃a,A=some a:=by
    cases A with
    |some a=>exact⟨a,rfl⟩
    |none=>obtain⟨a,h',_⟩:=hc 0 (enc m[0]) (by simp[acM hm]);cases h'
  obtain⟨a,rfl⟩:=hA
  have hr := run_append_grow (P := P) w t ty e i z ht hi DN ad l.length l.length (l.map enc) (by simp [y9]) (fun j u hj => by obtain ⟨PR, h', fq⟩ := TN j u hj; cases h'; exact fq)
    a m.length c (m.map enc) (by simp[y9]) (fun j u hj=>by obtain⟨PR,h',fq⟩:=hc j u hj;cases h';exact fq) (by omega) (by omega) (by rw[OQ];exact growslice_fits (by omega) hlen)
  have Mx:=grownCap_ge w (l.length+m.length) l.length e
  have TM:grownCap w (l.length+m.length) l.length e≤maxLen:=grownCap_le_maxLen w (l.length+m.length) l.length e (by unfold maxLen;omega)
  refine ey.value (v:=.slice (some ⟨w.heap.size,0,none⟩) (l.length+m.length) (grownCap w (l.length+m.length) l.length e)) (w':=w.drew.alloc (.cells ((l.map enc).toArray++(m.map enc).toArray++agX z.cells (grownCap w (l.length+m.length) l.length e-(l.length+m.length))) e)) ?_ (h _ _ (hN.cl (l:=l++m) ?_ ((Ext.drew w).trans (Ext.alloc _ _))))
  · simp only [execOp, resolve, invoke, builtin, ad3, adq, aee, hx, hv, hy]
    simp[hr]
  · unfold eB
    have CJ:(l++m).length=l.length+m.length:=acB
    refine⟨by simp,.inr ⟨w.heap.size,grownCap w (l.length+m.length) l.length e,_,by rw[CJ],ac8 _,heap_alloc_new w.drew _,by rw[CJ];exact Mx,TM,?_,?_⟩⟩
    · simp only [agU, agW, size_zeroCells, hz, ada]
      omega
    · have e1 : ((l.map enc).toArray ++ (m.map enc).toArray ++ agX z.cells (grownCap w (l.length + m.length) l.length e - (l.length + m.length))).toList = (l ++ m).map enc ++ (agX z.cells (grownCap w (l.length + m.length) l.length e - (l.length + m.length))).toList := by simp
      rw[e1,show(l++m).length*1=((l++m).map enc).length by simp]
      exact ajo
end
end Go.Rl
namespace Go.Rl
section
variable {P:Program} {R:Nat→Value} {w:World} {dst:Option Tmp} {ty:TypeId} {pos:String} {af:Array Edge} {gd:Option (Nat×Bool)}
theorem qU {t e : TypeId} {len s : Nat} {parts : Array (Nat × Operand)} {ps : List (Nat × Value)} {z : Value} {zc cs : List Value} (ht : P.underlying t = some (.array len e)) (eI : (P.info? e).map (·.size) = some s) (hz : (P.info? t).map (·.zero) = some (some z))
    {pl:List (Nat×Operand)} (hp:parts.toList=pl) (E7:(pl.map fun(i,x)=>(i,ev R x))=ps) (Q9:z.cells=zc.toArray) (hf:ae2 (fun i=>some (i*s,s)) zc.toArray ps=some cs.toArray):Ev P ⟨dst,.build t parts,ty,pos,af,gd⟩ R w (.agg cs.toArray):=by
  have Cw:(zeroValue t).run P w=.ok z w:=by
    cases hq:P.info? t with
    |none=>simp[hq]at hz
    |some i=>
      have:i.zero=some z:=by simpa[hq]using hz
      simp[zeroValue,typeInfo,hq,this]
  have Oi:(parts.map fun(i,x)=>(i,ev R x)).toList=ps:=by rw[aga,hp,E7]
  simp only[Ev,execOp,akw,adA,Cw,adJ,run_underlying ht,fa (w:=w) eI,Oi,Q9,hf,aer]
theorem iT {t e : TypeId} {len : Nat} {x i : Operand} {cs : List Value} {k : IntKind} {m : Int} {v : Value} {d : TypeDesc} (ht : P.underlying t = some (.array len e)) (he : P.underlying e = some d) (hd : d.isRow = false) (eI : (P.info? e).map (·.size) = some 1)
    (hx:ev R x=.agg cs.toArray) (hi:ev R i=.int k m) (h0:0≤m) (h1:m<len) (hv:cs[m.toNat]?=some v):Ev P ⟨dst,.index t x i,ty,pos,af,gd⟩ R w v:=by
  have uL:(isAgg e).run P w=.ok false w:=by
    unfold isAgg
    rw[adA,run_underlying he w]
    cases d<;>simp_all [ahL]
  have hr:(0≤m∧m<(len:Int)):=⟨h0,h1⟩
  simp[Ev,execOp,hx,hi,Instr.index,asIntOf,run_underlying ht,hr,fa (w:=w) eI,part,uL,hv]
end
section
variable {w0 w:World} {F:Nat→Prop} {L M:List Atom}
theorem aH.comm (h:aH w0 F w (L++M)):aH w0 F w (M++L):=by
  have get:∀(i:Nat) a,(M++L)[i]?=some a→∃j,(L++M)[j]?=some a∧((i<M.length∧j=L.length+i)∨(M.length≤i∧j=i-M.length∧j<L.length)):=by
    intro i a hi
    rcases adi i M.length with h1|h1
    · rw [adu h1] at hi
      exact⟨L.length+i,by rw[ads (by omega)];simpa using hi,.inl ⟨h1,rfl⟩⟩
    · rw [ads h1] at hi
      have hl:=(acF.1 hi).1
      exact⟨i-M.length,by rw[adu hl];exact hi,.inr ⟨h1,rfl,hl⟩⟩
  refine⟨h.mod,fun i a hi=>?_,fun i a hi k hk=>?_,fun i i' a b dX hi Ka k hk iZ=>?_⟩
  · obtain⟨j,hj,_⟩:=get i a hi;exact h.says j a hj
  · obtain⟨j,hj,_⟩:=get i a hi;exact h.low j a hj k hk
  · obtain ⟨j, hj, e⟩ := get i a hi
    obtain⟨j',OK,e'⟩:=get i' b Ka
    exact h.sep j j' a b (by omega) hj OK k hk iZ
end
def A8 {α:Type} (x:Value×List α):Array Value:=#[x.1]
def M8 {α:Type} (enc:α→Value) (F:Nat→Prop) (x:Value×List α) (w:World):Prop:=Sl enc w x.1 x.2∧sN F x.1 x.2
def FL (α:Type) (s x:Value×List α) (b:Bool) (s':Value×List α):Prop:=b=true∧s'.2=s.2++x.2
theorem FL.on {α:Type}:∀s x b s',FL α s x b s'→b=true:=fun _ _ _ _ h=>h.1
theorem D2 {α:Type} {s0 s:Value×List α} {pre:List (List α)} (h:vc (FL α) ad4 s0 pre s):s.2=s0.2++pre.flatten:=by
  induction h with
  |nil=>simp
  |snoc _ ht ih=>rw[ht.2,ih,adB,aeT];simp
theorem LV {α:Type} {s0 s x:Value×List α} {pre xs post:List (List α)} (h:vc (FL α) ad4 s0 pre s) (h0:s0.2=[]) (hx:xs=pre++ad4 x::post):s.2.length+x.2.length≤xs.flatten.length:=by
  have h1:=D2 h
  rw[h0,aeG]at h1
  rw[h1,hx];simp only[aeT,adl,acB];omega
theorem JM {α:Type} {l:List α} {i:Nat} {a:α} (h:l[i]?=some a):l.drop i=a::l.drop (i+1):=by
  obtain⟨hi,rfl⟩:=acF.1 h
  exact aeM hi
end Go.Rl
namespace Go.Rl
section
variable {P:Program} {fn:Func} {n id:Nat} {K:Value→World→Prop} {J:List Deferred→(Nat→Value)→World→Prop} {Q:eV}
theorem gX:yU (JK P fn n K):=fun _ _ _ _ h=>h.1.elim (fun e=>by cases e) (fun e=>by cases e)
theorem gV (h:yU Q):yU (wq J Q):=h
theorem gY (h:yU Q):yU (qZ id Q):=h
theorem gW (h:yU Q):yU (BT Q):=h
end
end Go.Rl
namespace Go.Rl
open Go.RowKit
section
variable {P:Program}
def rV (a:I2):Value:=.agg #[.int .i64 a.1,.int .i64 a.2]
theorem LY {kt:TypeId} (h:∀(a b:I2),mW P 10000 kt (rV a) (rV b) (decide (a=b))) (a:I2) (w:World):∀(l:List (Kk I2)) (i:Nat),(ag6 kt (rV a) (kC rV l).toList i).run P w=.ok (kM a l i) w:=by
  intro l
  induction l with
  |nil=>intro i;simp[ag6,kC,kM]
  |cons e r ih=>
    intro i
    have W9:=ih (i+1)
    have he:(Op.equal kt (rV a) (rV e.1)).run P w=.ok (decide (a=e.1)) w:=h a e.1 w
    simp only[kC,adq,kM]at W9 ⊢
    simp only[ag6,adA,he,adJ]
    by_cases hq:a=e.1
    · simp[hq]
    · simp only[hq,decide_false,if_false];exact W9
theorem ml {kt t1 t2:TypeId} {f1 f2:Field} (hu:P.underlying kt=some (.struct #[f1,f2])) (hs:P.stoodInHeld kt=false) (h1:f1.name≠"_"∧f1.offset=0) (h2:f2.name≠"_"∧f2.offset=1) (F4:P.underlying f1.type=some (.int .i64)) (Vl:P.underlying f2.type=some (.int .i64)):KE P kt rV:=by
  have pa:∀a:I2,dz P f1.type #[.int .i64 a.1,.int .i64 a.2] f1.offset (.int .i64 a.1):=fun a=>dz.leaf F4 (by rw[h1.2];rfl)
  have pb:∀a:I2,dz P f2.type #[.int .i64 a.1,.int .i64 a.2] f2.offset (.int .i64 a.2):=fun a=>dz.leaf Vl (by rw[h2.2];rfl)
  have hE:∀(a b:I2),mW P 10000 kt (rV a) (rV b) (decide (a=b)):=fun a b=>
    mW.iff (mW.struct hu hs rfl (qm.cons h1.1 (pa a) (pa b) (mW.int F4) (qm.cons h2.1 (pb a) (pb b) (mW.int Vl) qm.nil))) (by simp[Prod.ext_iff])
  refine⟨fun a e w=>?_,fun a l w=>?_,fun a=>?_⟩
  · show (afV e (9998 + 1 + 1) kt (rV a)).run P w = .ok () w
    unfold afV
    have c1:∀w,(afV e (9998+1) f1.type (.int .i64 a.1)).run P w=.ok () w:=fun w=>ahY F4 (by simp[ajv]) e 9998
    have c2:∀w,(afV e (9998+1) f2.type (.int .i64 a.2)).run P w=.ok () w:=fun w=>ahY Vl (by simp[ajv]) e 9998
    have p1:=pa a w
    have p2:=pb a w
    simp[adA,run_underlying hu,rV,h1.1,h2.1,p1,p2,c1,c2]
  · have hf := LY hE a w l 0
    unfold ajs
    cases l with
    |nil=>simp[adA,run_underlying hu,kC,ah5,kM]
    |cons e r=>
      have hn:ah5 (.struct #[f1,f2]) (rV a) (kC rV (e::r)).toList 0=none:=by simp[kC,ah5,Instr.sameNow,rV]
      simp only[adA,run_underlying hu,adJ,hn]
      exact hf
  · unfold agD rV
    simp
    exact⟨by unfold agD;simp,by unfold agD;simp⟩
end
end Go.Rl
namespace Go.Gr
open Go.Rl
abbrev vI (x:Int):Value:=.int .i64 x
theorem tmod_neg {x n:Int} (hn:0<n) (h:x.tmod n<0):x.tmod n+n=x%n:=by
  have h1:=ahM x n
  have h2: -n<x.tmod n:=by
    rcases Int.le_total 0 x with hx|hx
    · have:=Int.tmod_nonneg n hx;omega
    · have e : x.tmod n = -((-x).tmod n) := by rw [Int.neg_tmod, Int.neg_neg]
      have:=aie (-x) hn
      omega
  have h3:(x.tmod n+n)%n=x.tmod n+n:=aiG (by omega) (by omega)
  rw[←h3]
  have e:x=(x.tmod n+n)+n*(x.tdiv n-1):=by rw[Int.mul_sub,Int.mul_one];omega
  conv=>rhs;rw[e]
  rw[agR]
theorem Ky {x n:Int} (hn:0<n) (h:¬x.tmod n<0):x.tmod n=x%n:=by
  have h1:=ahM x n
  have h3:(x.tmod n)%n=x.tmod n:=aiG (by omega) (aie x hn)
  rw[←h3]
  conv=>rhs;rw[←h1,agR]
def jj (n:Int):Int:=max 1 (min n 12)
def DA (n:Int) (a:I3):I3:=(a.1%n,a.2.1%n,a.2.2%2147483649)
def cJ (n:Int) (l:List I3):List I3:=(l.take 40).map (DA n)
def EJ (n:Int) (a:I3):Prop:=0≤a.1∧a.1<n∧0≤a.2.1∧a.2.1<n∧0≤a.2.2∧a.2.2≤2147483648
instance (n:Int) (a:I3):Decidable (EJ n a):=inferInstanceAs (Decidable (_∧_))
theorem sF (n:Int):1≤jj n∧jj n≤12:=by unfold jj;omega
theorem EL (n:Int) (l:List I3):∀a∈cJ (jj n) l,EJ (jj n) a:=by
  intro a ha
  obtain⟨b,_,rfl⟩:=adg.1 ha
  have h:=sF n
  have h1:=agn b.1 (b:=jj n) (by omega)
  have h2:=agL b.1 (b:=jj n) (by omega)
  have h3:=agn b.2.1 (b:=jj n) (by omega)
  have h4:=agL b.2.1 (b:=jj n) (by omega)
  have h5:=agn b.2.2 (b:=2147483649) (by omega)
  have h6:=agL b.2.2 (b:=2147483649) (by omega)
  exact⟨h1,h2,h3,h4,h5,by show b.2.2%2147483649≤_;omega⟩
theorem tL (n:Int) (l:List I3):(cJ n l).length≤40:=by unfold cJ;rw[ada,ac9];omega
def dU (n:Int) (ar:List I3):Int:=if 16777216<n∨67108864<ar.length then 3 else if n<0 then 2 else if ∀a∈ar,EJ n a then 0 else 2
theorem KY (n:Int) (l:List I3):dU (jj n) (cJ (jj n) l)=0:=by
  have h:=sF n
  have h2:=tL (jj n) l
  unfold dU
  rw[if_neg (by omega),if_neg (by omega),if_pos (EL n l)]
theorem nZ {n:Int} {ar:List I3} (h:dU n ar=0):0≤n∧n≤16777216∧ar.length≤67108864∧∀a∈ar,EJ n a:=by
  unfold dU at h
  split at h
  · cases h
  · split at h
    · cases h
    · split at h
      · exact⟨by omega,by omega,by omega,by assumption⟩
      · cases h
theorem dk {α:Type} {l:List α} {i:Nat} {a x:α} (h:l[i]?=some a) (hx:x∈l.take (i+1)):x∈l.take i∨x=a:=by
  rw[ae1,h]at hx;simpa using hx
def jZ (ar:List I3) (k:Nat):Prop:=∃a,ar[k]?=some a∧a.1≠a.2.1∧∀(i:Nat) b,ar[i]?=some b→¬(b.1=a.1∧b.2.1=a.2.1∧(b.2.2<a.2.2∨b.2.2=a.2.2∧i<k))
noncomputable instance (ar:List I3) (k:Nat):Decidable (jZ ar k):=adv _
noncomputable def kept (ar:List I3):List Int:=(adC ar.length).map fun k=>if jZ ar k then 1 else 0
theorem Hy (ar:List I3):(kept ar).length=ar.length:=by unfold kept;simp
theorem wW (ar:List I3) (k:Nat):(adC (k+1)).map (fun k=>if jZ ar k then(1:Int)else 0)=(adC k).map (fun k=>if jZ ar k then(1:Int)else 0)++[if jZ ar k then 1 else 0]:=by rw[aeH,ad7];rfl
theorem C5 {ar:List I3} {i j:Nat} {a b:I3} (hi:jZ ar i) (hj:jZ ar j) (ha:ar[i]?=some a) (hb:ar[j]?=some b) (h1:a.1=b.1) (h2:a.2.1=b.2.1):i=j:=by
  obtain⟨a',Fj,_,ka⟩:=hi
  obtain⟨b',AJ,_,kb⟩:=hj
  rw[ha]at Fj;rw[hb]at AJ
  cases Fj;cases AJ
  have e1:=ka j b hb
  have e2:=kb i a ha
  apply Decidable.byContradiction
  intro dX
  rcases aiH a.2.2 b.2.2 with h|h|h
  · exact e2 ⟨h1,h2,.inl h⟩
  · rcases aic dX with h' | h'
    · exact e2 ⟨h1,h2,.inr ⟨h,h'⟩⟩
    · exact e1 ⟨h1.symm,h2.symm,.inr ⟨h.symm,h'⟩⟩
  · exact e1 ⟨h1.symm,h2.symm,.inl h⟩
def jB (ar:List I3) (ks:List Int) (v:Int) (k:Nat):List I3:=match ar[k]? with
  |some a=>if ks[k]?=some 1∧a.1=v then[(a.2.1,a.2.2,(k:Int))]else[]
  |none=>[]
def FV (ar:List I3) (ks:List Int) (v:Int) (k:Nat):List I3:=(adC k).flatMap (jB ar ks v)
theorem lA (ar:List I3) (ks:List Int) (v:Int) (k:Nat):FV ar ks v (k+1)=FV ar ks v k++jB ar ks v k:=by unfold FV;rw[aeH,afi];simp
theorem DC {ar:List I3} {ks:List Int} {v:Int} {e:I3} {n:Nat} (h:e∈FV ar ks v n):∃(k:Nat) (a:I3),k<n∧ar[k]?=some a∧ks[k]?=some 1∧a.1=v∧e=(a.2.1,a.2.2,(k:Int)):=by
  unfold FV at h
  obtain⟨k,hk,he⟩:=agb.1 h
  unfold jB at he
  split at he
  · rename_i a ha
    split at he
    · rename_i hc
      rw[adh]at he
      exact⟨k,a,adU.1 hk,ha,hc.1,hc.2,he⟩
    · cases he
  · cases he
theorem zQ {α:Type} (l:List α) (k:Nat) (e:α):(l.take k++[e]++l.drop k).Perm (l++[e]):=by
  have h:(l.take k++[e]++l.drop k).Perm (l.take k++(l.drop k++[e])):=by rw[adB];exact List.Perm.append_left _ ahN
  rw[←adB,afx]at h
  exact h
theorem K7 {α:Type} (l:List α) (k:Nat) (e:α):(l.take k++[e]++l.drop k).length=l.length+1:=by have:=(zQ l k e).length_eq;simpa using this
end Go.Gr
namespace Go.Gr
open Go.Rl
def kD (d:List Int):Nat:=(d.filter fun x=>decide (0≤x)).length
def B5 (B:Nat) (d:List Int):Nat:=(d.map fun x=>if x<0 then B+1 else x.toNat).sum
structure lh (n:Nat) (M:Int) (d:List Int):Prop where
  len:d.length=n
  low:∀x∈d,-1≤x
  high:∀x∈d,x≤((kD d:Int)-1)*M
theorem LS (d:List Int):kD d≤d.length:=aeK _ _
theorem nU {α:Type} {l:List α} {i:Nat} {a:α} (h:l[i]?=some a):∃p q,l=p++a::q∧p.length=i∧∀b,l.set i b=p++b::q:=by
  obtain⟨hi,rfl⟩:=acF.1 h
  refine⟨l.take i,l.drop (i+1),?_,?_,fun b=>?_⟩
  · conv=>lhs;rw[←afx i l,aeM hi]
  · rw[ac9];omega
  · rw[afZ,if_pos hi]
theorem lh.top {n:Nat} {M:Int} {d:List Int} (h:lh n M d) (hM:0≤M) {x:Int} (hx:x∈d):x≤(n:Int)*M:=by
  have h1:=h.high x hx
  have h2:=LS d
  have h3:=h.len
  exact afy h1 (aew (by omega) hM)
theorem lh.dm {n:Nat} {M:Int} {d:List Int} (h:lh n M d) (hM:0≤M) {b:Nat} {x y W:Int} (hx:x∈d) (hb:d[b]?=some y) (qk:0≤x) (hW:0≤W∧W≤M) (hc:y<0∨x+W<y):lh n M (d.set b (x+W)):=by
  obtain⟨p,q,rfl,hp,yk⟩:=nU hb
  rw[yk]
  have hl:=h.len
  have e1:kD (p++y::q)=kD p+(if 0≤y then 1 else 0)+kD q:=by
    unfold kD
    rw[aey,acB,aej]
    split<;>rename_i h1<;>simp at h1<;>simp[h1]<;>omega
  have e2:kD (p++(x+W)::q)=kD p+1+kD q:=by
    unfold kD
    rw[aey,acB,aej,if_pos (by simp;omega),acK]
    omega
  have mono:((kD (p++y::q):Int)-1)*M≤((kD (p++(x+W)::q):Int)-1)*M:=aew (by rw[e1,e2];split<;>omega) hM
  refine⟨by simpa using hl,fun z hz=>?_,fun z hz=>?_⟩
  · rcases adn.1 hz with h1 | h1
    · exact h.low z (adn.2 (.inl h1))
    · rcases ac6.1 h1 with rfl | h1
      · omega
      · exact h.low z (adn.2 (.inr (adG _ h1)))
  · have z0 : ∀ z ∈ p ++ y :: q, z ≤ ((kD (p ++ (x + W) :: q) : Int) - 1) * M := fun z hz => afy (h.high z hz) mono
    rcases adn.1 hz with h1|h1
    · exact z0 z (adn.2 (.inl h1))
    · rcases ac6.1 h1 with rfl | h1
      · by_cases hy : 0 ≤ y
        · have : y ≤ _ := z0 y (by simp)
          omega
        · have h2 := h.high x hx
          have:((kD (p++(x+W)::q):Int)-1)*M=((kD (p++y::q):Int)-1)*M+M:=by
            rw[e1,e2,if_neg hy]
            have:((kD p+1+kD q:Nat):Int)-1=(((kD p+0+kD q:Nat):Int)-1)+1:=by omega
            rw[this,Int.add_mul,Int.one_mul]
          omega
      · exact z0 z (adn.2 (.inr (adG _ h1)))
theorem KO {B:Nat} {d:List Int} {b:Nat} {y v:Int} (hb:d[b]?=some y) (hv:0≤v) (hvB:v≤B) (hc:y<0∨v<y):B5 B (d.set b v)<B5 B d:=by
  obtain⟨p,q,rfl,hp,yk⟩:=nU hb
  rw[yk]
  unfold B5
  simp only[ad7,adq,aje,af9]
  rw[if_neg (show ¬v<0 by omega)]
  split<;>omega
theorem lh.start {n s:Nat} {M:Int} (hM:0≤M) (hs:s<n):lh n M ((ac3 n (-1:Int)).set s 0):=by
  have hr:(ac3 n (-1:Int))[s]?=some (-1):=by rw[aeB,if_pos hs]
  obtain⟨p,q,e,hp,yk⟩:=nU hr
  have fQ:∀z∈p++(-1)::q,z= -1:=fun z hz=>by rw[←e]at hz;exact afa hz
  have hz:∀l:List Int,(∀z∈l,z= -1)→kD l=0:=fun l hl=>by
    unfold kD
    rw[afj,af1]
    intro z hz;rw[hl z hz];simp
  have hd:kD (p++0::q)=1:=by
    have h1:=hz p fun z Cw=>fQ z (by simp[Cw])
    have h2:=hz q fun z Cw=>fQ z (by simp[Cw])
    unfold kD at*
    rw[aey,acB,aej,if_pos (by simp),acK,h1,h2]
  rw[yk]
  refine⟨?_,fun z Cw=>?_,fun z Cw=>?_⟩
  · have h2 : (ac3 n (-1 : Int)).length = (p ++ (-1) :: q).length := congrArg adQ e
    rw[adb]at h2
    rw[h2];simp
  · rcases adn.1 Cw with h1 | h1
    · rw[fQ z (by simp[h1])];omega
    · rcases ac6.1 h1 with rfl | h1
      · omega
      · rw[fQ z (by simp[h1])];omega
  · rw [hd]
    rcases adn.1 Cw with h1|h1
    · rw[fQ z (by simp[h1])];simp
    · rcases ac6.1 h1 with rfl | h1
      · simp
      · rw[fQ z (by simp[h1])];simp
theorem lh.step {n:Nat} {M:Int} {d:List Int} (h:lh n M d) (hM:0≤M) {a b:Nat} {x y W:Int} (hx:d[a]?=some x) (hb:d[b]?=some y) (qk:0≤x) (hW:0≤W∧W≤M) (hc:y<0∨x+W<y):
    lh n M (d.set b (x+W))∧B5 ((n:Int)*M).toNat (d.set b (x+W))+1≤B5 ((n:Int)*M).toNat d:=by
  have h1:=h.dm hM (acC hx) hb qk hW hc
  have cD:=(acF.1 hb).1
  have hm:(d.set b (x+W))[b]?=some (x+W):=by rw[adp,if_pos rfl,if_pos cD]
  have h2:=h1.top hM (acC hm)
  exact⟨h1,KO hb (by omega) (by omega) hc⟩
theorem yT {n:Nat} {d:List Int} {c:Int} (hl:d.length=n) (h:∀j,j<n→d[j]?=some c):d=ac3 n c:=by
  refine agV fun i=>?_
  rw[aeB]
  split
  · exact h i ‹_›
  · exact aea (by omega)
theorem yS {d:List Int} {c:Int} {i:Nat} (hi:i<d.length) (h:∀j,j<i→d[j]?=some c):∀j,j<i+1→(d.set i c)[j]?=some c:=by
  intro j hj
  by_cases e:i=j
  · subst e;rw[adp,if_pos rfl,if_pos hi]
  · rw[adp,if_neg e];exact h j (by omega)
theorem ig (b:Bool):acV b=acV (decide (b=true)):=by cases b<;>rfl
def bF (ls:List I5) (u v:Int):Option I3:=(ls.find? fun x=>decide (x.1=u∧x.2.1=v)).map (·.2.2)
def cO (ls:List I5) (u v:Int):Prop:=(bF ls u v).isSome=true
noncomputable instance (ls:List I5) (u v:Int):Decidable (cO ls u v):=adv _
noncomputable def Gj (ls:List I5) (u v:Int):Value:=.tuple #[.agg #[.int .i64 ((bF ls u v).getD (0,0,0)).1,.int .i64 ((bF ls u v).getD (0,0,0)).2.1,.int .i64 ((bF ls u v).getD (0,0,0)).2.2],.bool (decide (cO ls u v))]
theorem wk {ls:List I5} {u v:Int} {x:I3} (h:bF ls u v=some x):Gj ls u v=.tuple #[.agg #[.int .i64 x.1,.int .i64 x.2.1,.int .i64 x.2.2],.bool true]:=by unfold Gj;rw[decide_eq_true (show cO ls u v by unfold cO;rw[h];rfl),h];rfl
theorem Ea {ls:List I5} {u v:Int} (h:bF ls u v=none):Gj ls u v=.tuple #[.agg #[.int .i64 0,.int .i64 0,.int .i64 0],.bool false]:=by unfold Gj;rw[decide_eq_false (show ¬cO ls u v by unfold cO;rw[h];decide),h];rfl
theorem BA {ls:List I5} {u v:Int} (h:∀x∈ls,¬(x.1=u∧x.2.1=v)):bF ls u v=none:=by
  unfold bF
  rw[agM.2 fun x hx=>by simpa using h x hx];rfl
theorem Gl {ls:List I5} {u v:Int} {i:Nat} {a:I5} (h:∀x∈ls.take i,¬(x.1=u∧x.2.1=v)) (ha:ls[i]?=some a) (h1:a.1=u) (h2:a.2.1=v):bF ls u v=some a.2.2:=by
  unfold bF
  obtain⟨hi,rfl⟩:=acF.1 ha
  conv=>lhs;rw[←afx i ls,aeM hi]
  rw[List.find?_append,agM.2 fun x hx=>by simpa using h x hx,Option.none_or,List.find?_cons,decide_eq_true ⟨h1,h2⟩]
  rfl
theorem dS {ls:List I5} {u v:Int} {x:I3} (h:bF ls u v=some x):(u,v,x)∈ls:=by
  unfold bF at h
  rw[ahv]at h
  obtain⟨a,ha,rfl⟩:=h
  have h1:=List.find?_some ha
  simp only[decide_eq_true_eq]at h1
  have h2:=List.mem_of_find?_eq_some ha
  rw[←h1.1,←h1.2];exact h2
theorem cO.some {ls:List I5} {u v:Int} (h:cO ls u v):∃x,bF ls u v=some x:=ag2.1 h
noncomputable def cw (ls:List I5) (v:Int) (k:Nat):List Int:=((adC k).filter fun x:Nat=>decide (cO ls v (x:Int))).map afl
noncomputable def df (ls:List I5) (v:Int) (k:Nat):List Int:=((adC k).filter fun x:Nat=>decide (cO ls (x:Int) v)).map afl
noncomputable def placesOf (ins:List Int) (k:Nat):List Int:=((adC k).filter fun x:Nat=>decide (ins[x]?=some 1)).map afl
theorem dc (p:Nat→Bool) (k:Nat):(((adC (k+1)).filter p).map afl)=((adC k).filter p).map afl++(if p k then[(k:Int)]else[]):=by
  rw[aeH,aey,ad7,aej]
  congr 1
  split<;>simp
theorem dZ (p:Nat→Bool) (k:Nat):(((adC k).filter p).map afl).length≤k:=by rw[ada];have:=aeK p (adC k);rwa [afs]at this
theorem pG {ls:List I5} {v x:Int} {k:Nat} (h:x∈cw ls v k):0≤x∧x<k∧cO ls v x:=by
  unfold cw at h
  obtain⟨y,hy,rfl⟩:=adg.1 h
  have:=adP.1 hy
  exact⟨adY _,by have:=adU.1 this.1;show(y:Int)<k;omega,by simpa using this.2⟩
theorem sG {ls:List I5} {v x:Int} {k:Nat} (h:x∈df ls v k):0≤x∧x<k∧cO ls x v:=by
  unfold df at h
  obtain⟨y,hy,rfl⟩:=adg.1 h
  have:=adP.1 hy
  exact⟨adY _,by have:=adU.1 this.1;show(y:Int)<k;omega,by simpa using this.2⟩
def fS (n:Nat) (ins:List Int) (v:Int):Prop:=0≤v∧v<n∧ins[v.toNat]?=some 1
noncomputable instance (n:Nat) (ins:List Int) (v:Int):Decidable (fS n ins v):=adv _
theorem oQ {ins:List Int} {x:Int} {k:Nat}:x∈placesOf ins k↔fS k ins x:=by
  unfold placesOf
  rw[adg]
  constructor
  · rintro ⟨y, hy, rfl⟩
    have h:=adP.1 hy
    exact⟨adY _,by have:=adU.1 h.1;show(y:Int)<k;omega,by simpa using h.2⟩
  · rintro ⟨h0, h1, h2⟩
    exact⟨x.toNat,adP.2 ⟨adU.2 (by omega),by simpa using h2⟩,aeu h0⟩
structure Bj (n:Nat) (M:Int) (ins:List Int) (ls:List I5):Prop where
  ins:ins.length=n
  ws:∀x∈ls,0≤x.1∧x.1<n∧0≤x.2.1∧x.2.1<n∧0≤x.2.2.1∧x.2.2.1≤M
def oE (n:Nat) (ins:List Int) (ls:List I5) (u v w mid:Int):Prop:=¬fS n ins u∨¬fS n ins v∨u=v∨w<0∨mid<0∨cO ls u v∧((bF ls u v).getD (0,0,0)).1≤w
noncomputable instance (n:Nat) (ins:List Int) (ls:List I5) (u v w mid:Int):Decidable (oE n ins ls u v w mid):=adv _
def Dj (ls:List I5) (u v:Int):List I5:=ls.filter fun x=>decide (¬x.1=u∨¬x.2.1=v)
noncomputable def jJ (n:Nat) (ins:List Int) (ls:List I5) (u v w mid:Int):List I5:=if oE n ins ls u v w mid then ls else Dj ls u v++[(u,v,w,mid,-1)]
def wu (ls:List I5) (v:Int):List I5:=ls.filter fun x=>decide (¬x.1=v∧¬x.2.1=v)
theorem dL {α:Type} {p:α→Bool} {l:List α} {i:Nat} {a:α} (h:l[i]?=some a):(l.take (i+1)).filter p=(l.take i).filter p++(if p a then[a]else[]):=by
  rw[ae1,h,aey]
  congr 1
  show[a].filter p=_
  rw[aej];split<;>simp
theorem KH (l:List I3) (ks:List Int) (v:Int) (k:Nat):(FV l ks v k).length≤k:=by
  induction k with
  |zero=>exact ac8 _
  |succ k ih=>
    rw[lA,acB]
    have:(jB l ks v k).length≤1:=by
      unfold jB
      split
      · split<;>simp
      · simp
    omega
def JL (v:Int) (e:I3):I5:=(v,e.1,e.2.1,-1,e.2.2)
def x9 (l:List I3) (ks:List Int) (n:Nat):List I5:=(adC n).flatMap fun v:Nat=>(FV l ks (v:Int) l.length).map (JL v)
theorem wS (l:List I3) (ks:List Int) (n:Nat):x9 l ks (n+1)=x9 l ks n++(FV l ks (n:Int) l.length).map (JL n):=by unfold x9;rw[aeH,afi];simp
theorem ef {α β:Type} {l:List α} {q:Nat} {a:α} (f:α→β) (h:l[q]?=some a):(l.take (q+1)).map f=(l.take q).map f++[f a]:=by rw[dJ h,ad7];rfl
structure o7 (n:Nat) (ls:List I5) (v:Int) (s:I5):Prop where
  ends:s.1≠s.2.1∧s.2.2.2.1=v∧s.2.2.2.2= -1
  T0:∃x y,bF ls s.1 v=some x∧bF ls v s.2.1=some y∧s.2.2.1=x.1+y.1
end Go.Gr
namespace Go.Gr
open Go.Rl
abbrev yW:=BitVec 64
theorem ofInt_u64 (a:yW):aed 64 (a.toNat:Int)=a:=by
  rw[BitVec.ofInt_natCast];simp
theorem wj (a:yW):aeb.wrap (a.toNat:Int)=(a.toNat:Int):=by
  have:=a.isLt
  simp only[aem,adZ,ad0,aen,adT,if_false]
  omega
theorem GQ (x:Int):aeb.wrap x=((aed 64 x).toNat:Int):=by
  simp only[aem,adZ,ad0,aen,adT,if_false,aif]
  omega
theorem Dr (a b:yW):arith .xor .u64 (a.toNat:Int) (b.toNat:Int)=((a^^^b).toNat:Int):=by
  simp only[arith]
  rw[show aeb.bits=64 from rfl,ofInt_u64,ofInt_u64,wj]
theorem Ny (a c:yW):arith .mul .u64 (a.toNat:Int) (c.toNat:Int)=((a*c).toNat:Int):=by
  simp only[arith,aem,adZ,ad0,aen,adT,if_false,BitVec.toNat_mul]
  rw[Int.natCast_emod,Int.natCast_mul]
  rfl
theorem Mc (a:yW):arith .mul .u64 (a.toNat:Int) 1099511628211=((a*1099511628211#64).toNat:Int):=Ny a 1099511628211#64
theorem QL (a:yW):((a.toNat:Int)).fdiv (2^(min (32:Int).toNat aeb.bits))=((a>>>32).toNat:Int):=by
  rw[show min (32:Int).toNat aeb.bits=32 from rfl]
  rw[afb,ae4,ae0 _ (by decide)]
  have h2:(2:Nat)^32=4294967296:=by decide
  have h3:(2:Int)^32=4294967296:=by decide
  rw[h2,h3]
  omega
theorem QM (a:yW):aeb.wrap (((a.toNat:Int)).tdiv 4294967296)=((a>>>32).toNat:Int):=by
  have h:((a.toNat:Int)).tdiv 4294967296=((a>>>32).toNat:Int):=by
    rw[Int.tdiv_eq_ediv_of_nonneg (adY _),afb,ae4]
    have h2:(2:Nat)^32=4294967296:=by decide
    rw[h2]
    omega
  rw[h,wj]
def mixed (h:yW) (x:Int):yW:=(h^^^aed 64 x)*1099511628211#64
def k6 (h:yW) (x:Int):yW:=mixed h x^^^(mixed h x>>>32)
def ri (h:yW) (a:I3):yW:=k6 (k6 (k6 h a.1) a.2.1) a.2.2
def jg (n:Int) (l:List I3):yW:=l.foldl ri (k6 14695981039346656037#64 n)
theorem rl {h:yW} {l:List I3} {i:Nat} {a:I3} (ha:l[i]?=some a):(l.take (i+1)).foldl ri h=ri ((l.take i).foldl ri h) a:=by rw[dJ ha,aiI];rfl
end Go.Gr
namespace Go.Gr
open Go.Rl
def kc (l:List Int) (j:Int):Nat:=(l.filter fun x=>decide (x=j)).length
def o4 (l:List Int) (j:Int):Nat:=(l.filter fun x=>decide (x<j)).length
theorem n6 (l:List Int) (j:Int):o4 l (j+1)=o4 l j+kc l j:=by
  induction l with
  |nil=>rfl
  |cons a r ih=>
    unfold o4 kc at*
    simp only[aej]
    by_cases h1:a<j
    · rw[if_pos (by simp;omega),if_pos (by simpa using h1),if_neg (by simp;omega)];simp only[acK];omega
    · by_cases h2 : a = j
      · rw[if_pos (by simp;omega),if_neg (by simpa using h1),if_pos (by simpa using h2)];simp only[acK];omega
      · rw[if_neg (by simp;omega),if_neg (by simpa using h1),if_neg (by simpa using h2)];exact ih
theorem D0 (l:List Int) (j:Int):kc l j≤l.length:=aeK _ _
theorem DZ (l:List Int) (j:Int):o4 l j≤l.length:=aeK _ _
theorem kg {l:List Int} {i:Nat} {a:Int} (h:l[i]?=some a) (j:Int):kc (l.take (i+1)) j=kc (l.take i) j+if a=j then 1 else 0:=by
  unfold kc
  rw[dJ h,aey,acB]
  congr 1
  by_cases e:a=j
  · rw[if_pos e,aej,if_pos (by simpa using e)];rfl
  · rw[if_neg e,aej,if_neg (by simpa using e)];rfl
theorem yL {l:List Int} {i:Nat} {a:Int} (h:l[i]?=some a):kc (l.take i) a<kc l a:=by
  have h1:=kg h a
  rw[if_pos rfl]at h1
  have h2:kc (l.take (i+1)) a≤kc l a:=by
    unfold kc
    exact((aiJ (i+1) l).filter _).length_le
  omega
theorem yK {l:List Int} {i:Nat} {a:Int} (h:l[i]?=some a):o4 l a+kc (l.take i) a<l.length:=by
  have h1:=yL h
  have h2:=n6 l a
  have h3:=DZ l (a+1)
  omega
theorem FG {l:List Int} {j:Int} (h:∀x∈l,x≠j):kc l j=0:=by
  unfold kc
  rw[afj,af1]
  intro x hx;simpa using h x hx
theorem FE {l:List Int} {j:Int} (h:∀x∈l,j≤x):o4 l j=0:=by
  unfold o4
  rw[afj,af1]
  intro x hx;have:=h x hx;simp;omega
structure Cs (n:Nat) (cs:List Int) (f:Nat→Int):Prop where
  len:cs.length=n+1
  val:∀j,j≤n→cs[j]?=some (f j)
theorem Cs.at {n j:Nat} {cs:List Int} {f:Nat→Int} {x:Int} (h:Cs n cs f) (hx:cs[j]?=some x):x=f j:=by
  have hl:=(acF.1 hx).1
  have h1:=h.val j (by have:=h.len;omega)
  rw[hx]at h1
  exact ac7 h1
theorem Cs.as {n:Nat} {cs:List Int} {f g:Nat→Int} (h:Cs n cs f) (e:∀j,j≤n→f j=g j):Cs n cs g:=⟨h.len,fun j hj=>by rw[h.val j hj,e j hj]⟩
theorem Cs.set {n i:Nat} {cs:List Int} {f g:Nat→Int} {x:Int} (h:Cs n cs f) (hi:i≤n) (hx:x=g i) (e:∀j,j≤n→j≠i→f j=g j):Cs n (cs.set i x) g:=by
  refine⟨by rw[adO];exact h.len,fun j hj=>?_⟩
  rw[adp]
  by_cases oT:i=j
  · subst oT;rw[if_pos rfl,if_pos (by have:=h.len;omega),hx]
  · rw[if_neg oT,h.val j hj,e j hj (ajj oT)]
theorem Cs.Qz (n:Nat):Cs n (ac3 (n+1) 0) fun _=>0:=⟨adb,fun j hj=>by rw[aeB,if_pos (by omega)]⟩
def f0 (ks:List Int) (i:Nat):Nat→Int:=fun j=>(kc (ks.take i) ((j:Int)-1):Int)
def f1 (ks:List Int) (v:Nat):Nat→Int:=fun j=>if j≤v then(o4 ks (j:Int):Int)else(kc ks ((j:Int)-1):Int)
def f2 (ks:List Int) (i:Nat):Nat→Int:=fun j=>(o4 ks (j:Int):Int)+(kc (ks.take i) (j:Int):Int)
theorem p5 {n:Nat} {ks:List Int}:Cs n (ac3 (n+1) 0) (f0 ks 0):=(Cs.Qz n).as fun j _=>rfl
theorem sL {n i:Nat} {ks cs:List Int} {e x:Int} (h:Cs n cs (f0 ks i)) (hk:ks[i]?=some e) (h0:0≤e) (h1:e<n) (hx:cs[(e+1).toNat]?=some x):0≤x∧x≤ks.length∧Cs n (cs.set (e+1).toNat (x+1)) (f0 ks (i+1)):=by
  have hv:=h.at hx
  have he:(((e+1).toNat:Nat):Int)-1=e:=by omega
  have hle:=D0 (ks.take i) e
  rw[ac9]at hle
  refine⟨by rw[hv];exact adY _,by rw[hv];unfold f0;rw[he];omega,h.set (by omega) ?_ fun j hj dX=>?_⟩
  · rw[hv];unfold f0;rw[he,kg hk,if_pos rfl];simp
  · unfold f0;rw[kg hk,if_neg (by omega)];simp
theorem p4 {n:Nat} {ks cs:List Int} (h:Cs n cs (f0 ks ks.length)) (hk:∀x∈ks,0≤x):Cs n cs (f1 ks 0):=h.as fun j _=>by
  unfold f0 f1
  rw[adm]
  split
  · rename_i h0
    have:j=0:=by omega
    subst this
    rw[FG (fun x hx=>by have:=hk x hx;omega),FE (fun x hx=>by simpa using hk x hx)]
  · rfl
theorem sK {n v:Nat} {ks cs:List Int} {x y:Int} (h:Cs n cs (f1 ks v)) (hv:v<n) (hx:cs[v+1]?=some x) (hy:cs[v]?=some y):0≤x∧x≤ks.length∧0≤y∧y≤ks.length∧Cs n (cs.set (v+1) (x+y)) (f1 ks (v+1)):=by
  have e1:=h.at hx
  have e2:=h.at hy
  unfold f1 at e1 e2
  rw[if_neg (by omega),show((v+1:Nat):Int)-1=(v:Int) by omega]at e1
  rw[if_pos (ac8 _)]at e2
  have l1:=D0 ks (v:Int)
  have l2:=DZ ks (v:Int)
  refine⟨by omega,by omega,by omega,by omega,h.set (by omega) ?_ fun j hj dX=>?_⟩
  · unfold f1;rw[if_pos (ac8 _),e1,e2,show((v+1:Nat):Int)=(v:Int)+1 by omega,n6];omega
  · unfold f1
    by_cases X3:j≤v
    · rw[if_pos X3,if_pos (by omega)]
    · rw[if_neg X3,if_neg (by omega)]
theorem AY {n:Nat} {ks cs:List Int} (h:Cs n cs (f1 ks n)):Cs n cs (f2 ks 0):=h.as fun j hj=>by
  unfold f1 f2
  rw[if_pos hj,ae9]
  simp[kc]
theorem DX {n i:Nat} {ks cs:List Int} {e x:Int} (h:Cs n cs (f2 ks i)) (hk:ks[i]?=some e) (h0:0≤e) (h1:e<n) (hx:cs[e.toNat]?=some x):0≤x∧x<ks.length∧x=(o4 ks e:Int)+(kc (ks.take i) e:Int)∧Cs n (cs.set e.toNat (x+1)) (f2 ks (i+1)):=by
  have hv:=h.at hx
  have he:((e.toNat:Nat):Int)=e:=by omega
  have hp:=yK hk
  unfold f2 at hv
  rw[he]at hv
  refine⟨by omega,by omega,hv,h.set (by omega) ?_ fun j hj dX=>?_⟩
  · unfold f2;rw[he,kg hk,if_pos rfl];omega
  · unfold f2;rw[kg hk,if_neg (by omega)];simp
def posOf (ks:List Int) (i:Nat):Nat:=o4 ks (ks.getD i 0)+kc (ks.take i) (ks.getD i 0)
theorem xl (l:List Int) {a b:Int} (h:a≤b):o4 l a≤o4 l b:=by
  induction l with
  |nil=>exact ac8 _
  |cons x r ih=>
    unfold o4 at*
    simp only[aej]
    by_cases h1:x<a
    · rw[if_pos (by simpa using h1),if_pos (by simp;omega)];simp only[acK];omega
    · rw [if_neg (by simpa using h1)]
      split
      · simp only[acK];omega
      · exact ih
theorem uX (l:List Int) (j:Int) {a b:Nat} (h:a≤b):kc (l.take a) j≤kc (l.take b) j:=by
  have e:l.take a=(l.take b).take a:=by rw[List.take_take,ahp h]
  unfold kc
  rw[e]
  exact((aiJ a (l.take b)).filter _).length_le
theorem wK {ks:List Int} {i j:Nat} (oT:i<j) (hj:j<ks.length):posOf ks i≠posOf ks j:=by
  have hi:ks[i]?=some (ks.getD i 0):=by rw[ad5,acM (by omega)];rfl
  have OK:ks[j]?=some (ks.getD j 0):=by rw[ad5,acM hj];rfl
  unfold posOf
  generalize ks.getD i 0=a at*
  generalize ks.getD j 0=b at*
  have ha:=yL hi
  have hb:=yL OK
  rcases aiH a b with h|h|h
  · have h1 := xl ks (show a + 1 ≤ b by omega)
    have h2:=n6 ks a
    omega
  · subst h
    have h1:=kg hi a
    rw[if_pos rfl]at h1
    have h2:=uX ks a (show i+1≤j by omega)
    omega
  · have h1 := xl ks (show b + 1 ≤ a by omega)
    have h2:=n6 ks b
    omega
structure Laid (l ks os:List Int) (i:Nat):Prop where
  len:os.length=l.length
  fits:∀j x,j<i→l[j]?=some x→os[posOf ks j]?=some x
theorem Laid.start {l ks:List Int}:Laid l ks (ac3 l.length 0) 0:=⟨adb,fun j x hj=>absurd hj (ago _)⟩
theorem Laid.step {l ks os:List Int} {i:Nat} {x e p:Int} (h:Laid l ks os i) (vO:ks.length=l.length) (hx:l[i]?=some x) (hk:ks[i]?=some e) (hp:p=(o4 ks e:Int)+(kc (ks.take i) e:Int)):Laid l ks (os.set p.toNat x) (i+1):=by
  have hi:=(acF.1 hx).1
  have iF:p.toNat=posOf ks i:=by
    unfold posOf
    rw[ad5,hk,hp]
    simp only[Option.getD_some];omega
  have cD:=yK hk
  refine⟨by rw[adO];exact h.len,fun j y hj hy=>?_⟩
  rw[adp,iF]
  by_cases oT:j=i
  · subst oT
    rw[hx]at hy
    cases hy
    rw [if_pos rfl, if_pos (by rw [h.len]; have : p.toNat < ks.length := by omega
                               omega)]
  · rw [if_neg (fun e => wK (ks := ks) (show j < i by omega) (by omega) e.symm)]
    exact h.fits j y (by omega) hy
theorem uT {m:Nat} {ps:List Nat} (hn:ps.Nodup) (hp:∀p∈ps,p<m+1):∀p∈ps.erase m,p<m:=fun p h=>by
  have h1:=(hn.mem_erase_iff).1 h
  have:=hp p h1.2
  omega
theorem EN:∀{m:Nat} {ps:List Nat},ps.Nodup→(∀p∈ps,p<m)→ps.length≤m:=by
  intro m
  induction m with
  |zero=>
    intro ps _ hp
    cases ps with
    |nil=>exact ac8 _
    |cons a r=>exact absurd (hp a (adV ..)) (ago _)
  |succ m ih=>
    intro ps hn hp
    have h1:=ih (hn.erase m) (uT hn hp)
    by_cases hm:m∈ps
    · rw[afc hm]at h1;omega
    · rw[ahO hm]at h1;omega
theorem qB:∀{m:Nat} {ps:List Nat},ps.length=m→ps.Nodup→(∀p∈ps,p<m)→ps.Perm (adC m):=by
  intro m
  induction m with
  |zero=>intro ps hl _ _;rw[adH hl];exact .refl _
  |succ m ih=>
    intro ps hl hn hp
    have hm:m∈ps:=by
      apply aeO
      intro hm
      have h1:=EN (hn.erase m) (uT hn hp)
      rw[ahO hm]at h1
      omega
    have h2:=ih (ps:=ps.erase m) (by rw[afc hm];omega) (hn.erase m) (uT hn hp)
    rw[aeH]
    exact((List.perm_cons_erase hm).trans (h2.cons m)).trans (ahN (l₁:=[m]))
theorem nv (l:List Int):(adC l.length).map (fun i=>l.getD i 0)=l:=by
  apply agV
  intro i
  rw[adI]
  by_cases h:i<l.length
  · rw[agA h];simp[ad5,acM h]
  · rw[aea (by rw[afs];omega),aea (by omega)];rfl
theorem G1 {ks:List Int} {i:Nat} (hi:i<ks.length):posOf ks i<ks.length:=by
  have hk:ks[i]?=some (ks.getD i 0):=by rw[ad5,acM hi];rfl
  exact yK hk
theorem Laid.perm {l ks os:List Int} (h:Laid l ks os l.length) (vO:ks.length=l.length):os.Perm l:=by
  have E7:((adC l.length).map (posOf ks)).Perm (adC l.length):=by
    refine qB (by simp) ?_ ?_
    · rw [List.nodup_iff_pairwise_ne, aeD]
      refine(afo).imp_of_mem fun{a b} ha hb ql=>wK ql (by have:=adU.1 hb;omega)
    · intro p hp
      obtain⟨i,hi,rfl⟩:=adg.1 hp
      have:=G1 (ks:=ks) (i:=i) (by have:=adU.1 hi;omega)
      omega
  have h1:=(E7.map fun i=>os.getD i 0)
  have e1:(adC l.length).map (fun i=>os.getD i 0)=os:=by rw[←h.len];exact nv os
  have e2:((adC l.length).map (posOf ks)).map (fun i=>os.getD i 0)=l:=by
    rw[aeI]
    conv=>rhs;rw[←nv l]
    refine afM fun i hi=>?_
    have hi:=adU.1 hi
    have h2:=h.fits i l[i] hi (acM hi)
    show os.getD (posOf ks i) 0=_
    rw[ad5,h2,ad5,acM hi]
  rw[e1,e2]at h1
  exact h1.symm
def keyOf (ar:List I3) (q:I3→Int) (k:Int):Int:=q (ar.getD k.toNat (0,0,0))
theorem pL {ar:List I3} {q:I3→Int} {k:Int} {a:I3} (h:ar[k.toNat]?=some a):keyOf ar q k=q a:=by unfold keyOf;rw[ad5,h];rfl
def dK (ar:List I3) (q:I3→Int) (l:List Int):List Int:=l.map (keyOf ar q)
theorem fC (ar:List I3) (q:I3→Int) (l:List Int):(dK ar q l).length=l.length:=ada _
theorem iR {ar:List I3} {q:I3→Int} {l:List Int} {i:Nat} {k:Int} {a:I3} (hk:l[i]?=some k) (ha:ar[k.toNat]?=some a):(dK ar q l)[i]?=some (q a):=by unfold dK;rw[adI,hk];simp[pL ha]
theorem n0 {ar:List I3} {q:I3→Int} {l:List Int} (hv:∀k∈l,0≤k∧k<(ar.length:Int)) (hq:∀a∈ar,0≤q a):∀x∈dK ar q l,0≤x:=by
  intro x hx
  obtain⟨k,hk,rfl⟩:=adg.1 hx
  have h:=hv k hk
  have cD:k.toNat<ar.length:=by omega
  rw[pL (acM cD)]
  exact hq _ (ag7 cD)
end Go.Gr
namespace Go.Gr
open Go.Rl
def vB (b:Bool):Value:=.bool (decide (b=true))
def LQ (x:Int):Array Value:=#[.int .i64 x]
def TX (_:Nat→Prop) (_:Int) (_:World):Prop:=True
def fb (p : Nat → Bool) : Nat → Nat → List Int
  |_,0=>[]
  |i,k+1=>if p i then(i:Int)::fb p (i+1) k else fb p (i+1) k
theorem wH {p:Nat→Bool} {i k:Nat} (hk:0<k) (h:p i=true):fb p i k=(i:Int)::fb p (i+1) (k-1):=by
  obtain⟨k,rfl⟩:∃q,k=q+1:=⟨k-1,by omega⟩
  rw[fb,if_pos h];rfl
theorem wI {p:Nat→Bool} {i k:Nat} (hk:0<k) (h:p i=false):fb p i k=fb p (i+1) (k-1):=by
  obtain⟨k,rfl⟩:∃q,k=q+1:=⟨k-1,by omega⟩
  rw[fb,if_neg (by rw[h];simp)];rfl
theorem wT {p:Nat→Bool} {x:Int}:∀{k i:Nat},x∈fb p i k↔∃j:Nat,i≤j∧j<i+k∧p j=true∧x=(j:Int):=by
  intro k
  induction k with
  |zero=>intro i;simp[fb];intro j h1 h2;omega
  |succ k ih=>
    intro i
    rw[fb]
    by_cases h:p i=true
    · rw [if_pos h, ac6, ih]
      constructor
      · rintro (rfl | ⟨j, h1, h2, h3, h4⟩)
        · exact⟨i,ac8 _,by omega,h,rfl⟩
        · exact⟨j,by omega,by omega,h3,h4⟩
      · rintro ⟨j, h1, h2, h3, h4⟩
        rcases aih h1 with e|e
        · subst e;exact .inl h4
        · exact .inr ⟨j,e,by omega,h3,h4⟩
    · rw [if_neg h, ih]
      constructor
      · rintro⟨j,h1,h2,h3,h4⟩;exact⟨j,by omega,by omega,h3,h4⟩
      · rintro ⟨j, h1, h2, h3, h4⟩
        rcases aih h1 with e|e
        · subst e;exact absurd h3 h
        · exact⟨j,e,by omega,h3,h4⟩
theorem nV (p:Nat→Bool):∀(k i:Nat),(fb p i k).length≤k:=by
  intro k
  induction k with
  |zero=>intro i;exact ac8 _
  |succ k ih=>
    intro i
    rw[fb]
    have:=ih (i+1)
    split
    · rw[acK];omega
    · omega
def ny (ar:List I3) (i:Nat):Bool:=decide (∃a,ar[i]?=some a∧¬a.1=a.2.1)
theorem Lc {ar:List I3} {i:Nat} {a:I3} (h:ar[i]?=some a) (dX:¬a.1=a.2.1):ny ar i=true:=decide_eq_true ⟨a,h,dX⟩
theorem Ld {ar:List I3} {i:Nat} {a:I3} (h:ar[i]?=some a) (dX:¬¬a.1=a.2.1):ny ar i=false:=decide_eq_false fun⟨b,hb,h2⟩=>by rw[h]at hb;cases hb;exact dX h2
def oa (bs:List Bool) (i:Nat):Bool:=decide (bs[i]?=some true)
theorem N1 {bs:List Bool} {i:Nat} {b:Bool} (h:bs[i]?=some b) (hb:b=true):oa bs i=true:=decide_eq_true (by rw[h,hb])
theorem N2 {bs:List Bool} {i:Nat} {b:Bool} (h:bs[i]?=some b) (hb:¬b=true):oa bs i=false:=decide_eq_false (by rw[h];intro e;cases e;exact hb rfl)
def Bo (α:Type) (s:Value×List α) (x:α) (b:Bool) (s':Value×List α):Prop:=b=true∧s'.2=s.2++[x]
theorem Bo.on {α:Type}:∀s x b s',Bo α s x b s'→b=true:=fun _ _ _ _ h=>h.1
theorem yR {α:Type} {s0 s:Value×List α} {pre:List α} (h:vc (Bo α) id s0 pre s):s.2=s0.2++pre:=by
  induction h with
  |nil=>simp
  |snoc _ ht ih=>rw[ht.2,ih,adB];rfl
theorem D5 {α:Type} {s0 s:Value×List α} {pre xs post:List α} {x:α} (h:vc (Bo α) id s0 pre s) (h0:s0.2=[]) (hx:xs=pre++id x::post):s.2.length<xs.length:=by
  have h1:=yR h
  rw[h0,aeG]at h1
  rw[h1,hx];simp
def qW (ar:List I3) (q:I3→Int) (k:Int):I3:=(keyOf ar q k,keyOf ar (·.2.2) k,k)
theorem xj {ar:List I3} {q:I3→Int} {k:Int} {a:I3} (h:ar[k.toNat]?=some a):qW ar q k=(q a,a.2.2,k):=by unfold qW;rw[pL h,pL h]
end Go.Gr
namespace Go.dj
def le:List UInt8→Nat
  |[]=>0
  |c::r=>c.toNat+256*le r
def put (n k:Nat):List UInt8:=(adC k).map fun i=>aeV (n/256^i)
def clip (wide:Int):Nat:=(max 0 (min wide 8)).toNat
theorem D1 (wide:Int):clip wide≤8:=by unfold clip;omega
theorem yM:clip 4=4:=rfl
theorem JT:clip 8=8:=rfl
theorem dr (n k:Nat):(put n k).length=k:=by simp[put]
theorem GY (n k:Nat):put n (k+1)=aeV n::put (n/256) k:=by
  unfold put
  rw[List.range_succ_eq_map,adq,aeI]
  congr 1
  · simp
  · apply afM
    intro i _
    simp only[ajw]
    rw[agS,Nat.div_div_eq_div_mul]
theorem Co (k:Nat):∀n,le (put n k)=n%256^k:=by
  induction k with
  |zero=>intro n;simp[put,le,Nat.mod_one]
  |succ k ih=>
    intro n
    rw[GY,le,ih]
    have h:(aeV n).toNat=n%256:=by simp
    rw[h,agS,Nat.mod_mul]
theorem E0 (a b:List UInt8):le (a++b)=le a+256^a.length*le b:=by
  induction a with
  |nil=>simp[le]
  |cons c r ih=>
    simp only[ag8,le,ih,acK,agS]
    rw[Nat.mul_add,Nat.mul_assoc];omega
theorem Hv (l:List UInt8):le l<256^l.length:=by
  induction l with
  |nil=>simp[le]
  |cons c r ih=>
    have:=c.toNat_lt
    simp only[le,acK,agS]
    omega
theorem K9 (l:List UInt8) (h:l.length≤8):le l<18446744073709551616:=by
  have h1:=Hv l
  have h2:256^l.length≤256^8:=afF (by decide) h
  have h3:(256:Nat)^8=18446744073709551616:=by decide
  omega
theorem La (l:List UInt8) (h:l.length≤4):le l<4294967296:=by
  have h1:=Hv l
  have h2:256^l.length≤256^4:=afF (by decide) h
  have h3:(256:Nat)^4=4294967296:=by decide
  omega
theorem K8 (l:List UInt8) (i:Nat) (h:i<l.length):le (l.take (i+1))=le (l.take i)+l[i].toNat*256^i:=by
  rw[ad8 h,E0]
  have:(l.take i).length=i:=by simp;omega
  rw[this,le,le,aid,agm,afO]
def rO (x:Int):Nat:=(x%18446744073709551616).toNat
def Ma (n:Nat):Int:=if n<9223372036854775808 then n else(n:Int)-18446744073709551616
theorem Gs (x:Int):rO x<18446744073709551616:=by unfold rO;omega
theorem Kw (x:Int) (h0: -9223372036854775808≤x) (h1:x≤9223372036854775807):Ma (rO x)=x:=by unfold Ma rO;split<;>omega
theorem Kv (n:Nat) (h:n<18446744073709551616):rO (n:Int)=n:=by unfold rO;omega
def bL (l:List Int):List UInt8:=put l.length 4++l.flatMap fun x=>put (rO x) 8
def jG (s:List UInt8):List UInt8:=put s.length 4++s
theorem kR (l:List Int):(l.flatMap fun x=>put (rO x) 8).length=8*l.length:=by
  induction l with
  |nil=>rfl
  |cons x r ih=>simp only[afr,acB,ih,dr,acK];omega
theorem cr (l:List Int):(bL l).length=4+8*l.length:=by unfold bL;rw[acB,kR,dr]
theorem eG (l:List UInt8):(jG l).length=4+l.length:=by unfold jG;rw[acB,dr]
theorem Fq (l:List Int) (i:Nat) (h:i<l.length):((l.take (i+1)).flatMap fun x=>put (rO x) 8)=((l.take i).flatMap fun x=>put (rO x) 8)++put (rO l[i]) 8:=by
  rw[ad8 h,afi];simp
abbrev St:=List UInt8×Int
def fj (s:St) (k:Nat):St×List UInt8:=if s.2≠0 then(s,[])else if s.1.length<k then(([],10),[])else((s.1.drop k,0),s.1.take k)
theorem eta {α β:Type} (p:α×β):p=(p.1,p.2):=rfl
def jM (s:St) (k:Nat):St×Nat:=((fj s k).1,le (fj s k).2)
theorem Eh {s:St} (k:Nat) (h:s.2≠0):fj s k=(s,[]):=by unfold fj;rw[if_pos h]
theorem zq {s:St} {k:Nat} (h:s.2=0) (h2:s.1.length<k):fj s k=(([],10),[]):=by unfold fj;rw[if_neg (by simp[h]),if_pos h2]
theorem ng {s:St} {k:Nat} (h:s.2=0) (h2:k≤s.1.length):fj s k=((s.1.drop k,0),s.1.take k):=by unfold fj;rw[if_neg (by simp[h]),if_neg (by omega)]
theorem wx (s:St) (k:Nat):(fj s k).2.length≤k:=by
  unfold fj
  split
  · simp
  · split
    · simp
    · simp;omega
def jN:Nat→List UInt8→List Int
  |0,_=>[]
  |n+1,l=>Ma (le (l.take 8))::jN n (l.drop 8)
def l6 (s:St) (most:Int) (size:Nat):St×List UInt8:=
  if(jM s 4).1.2≠0 then((jM s 4).1,[])else if most<0∨most<((jM s 4).2:Int)then(([],3),[])else fj (jM s 4).1 ((jM s 4).2*size)
def da (s:St) (most:Int):St×List Int:=((l6 s most 8).1,jN ((l6 s most 8).2.length/8) (l6 s most 8).2)
def eg (s:St) (most:Int):St×List UInt8:=l6 s most 1
theorem gx (s:St) (k:Nat):(fj s k).1.1.length≤s.1.length∧(fj s k).2.length≤s.1.length:=by
  unfold fj
  split
  · exact⟨ac8 _,adW _⟩
  · split
    · exact⟨adW _,adW _⟩
    · exact⟨by simp,by simp;omega⟩
theorem wy (s:St) (n size:Nat):size ∣ (fj s (n*size)).2.length:=by
  unfold fj
  split
  · exact Nat.dvd_zero _
  · split
    · exact Nat.dvd_zero _
    · have : (s.1.take (n * size)).length = n * size := by simp; omega
      rw[this];exact Nat.dvd_mul_left _ _
def oe (s:St):Int:=if s.2≠0 then s.2 else if 0<s.1.length then 5 else 0
theorem wR (s:St):(jM s 4).2<4294967296:=La _ (wx s 4)
theorem Ct (i:Nat):∀l:List UInt8,jN (i+1) l=jN i l++[Ma (le ((l.drop (i*8)).take 8))]:=by
  induction i with
  |zero=>intro l;simp[jN]
  |succ i ih=>
    intro l
    rw[jN,ih (l.drop 8),jN,aft,ag8,show 8+i*8=(i+1)*8 from by omega]
theorem yg (n:Nat):∀l,(jN n l).length=n:=by
  induction n with
  |zero=>intro l;rfl
  |succ n ih=>intro l;simp[jN,ih]
theorem Cu (l:List Int) (h:∀x∈l,-9223372036854775808≤x∧x≤9223372036854775807):jN l.length (l.flatMap fun x=>put (rO x) 8)=l:=by
  induction l with
  |nil=>rfl
  |cons x r ih=>
    simp only[acK,jN,afr]
    have hl:(put (rO x) 8).length=8:=dr _ _
    rw[ahq hl,ahr hl,ih (fun y hy=>h y (adG _ hy)),Co]
    have hx:=h x (adV ..)
    rw[show(256:Nat)^8=18446744073709551616 from by decide,afG (Gs x),Kw x hx.1 hx.2]
theorem NH:(256:Nat)^4=4294967296:=by decide
theorem Hg (n k:Nat) (y:List UInt8):jM (put n k++y,0) k=((y,0),n%256^k):=by
  unfold jM
  rw[ng rfl (by simp[dr])]
  simp only[ahr (dr n k),ahq (dr n k),Co]
theorem zJ (JS size:Nat) (body y:List UInt8) (most:Int) (h1:body.length=JS*size) (h2:(JS:Int)≤most) (h3:JS<4294967296):l6 (put JS 4++(body++y),0) most size=((y,0),body):=by
  unfold l6
  rw[Hg,if_neg (by simp),if_neg (by rw[NH,afG h3];omega),ng rfl (by rw[NH,afG h3];simp[h1])]
  rw[NH,afG h3]
  simp only[ahr h1,ahq h1]
def PS (l:List Int):Prop:=∀x∈l,-9223372036854775808≤x∧x≤9223372036854775807
theorem E1 (l:List Int) (y:List UInt8) (most:Int) (hl:PS l) (h2:(l.length:Int)≤most) (h3:l.length<4294967296):da (bL l++y,0) most=((y,0),l):=by
  unfold da bL
  rw[adB,zJ l.length 8 _ y most (by rw[kR];omega) h2 h3,kR]
  have:8*l.length/8=l.length:=by omega
  simp only[this,Cu l hl]
theorem Ed (s y:List UInt8) (most:Int) (h2:(s.length:Int)≤most) (h3:s.length<4294967296):eg (jG s++y,0) most=((y,0),s):=by
  unfold eg jG
  rw[adB,zJ s.length 1 s y most (by omega) h2 h3]
theorem KU (s:St) (k:Nat):(jM s k).1.1.length≤s.1.length:=(gx s k).1
end Go.dj
namespace Go.dj
open Go.Rl
abbrev vi (x:Int):Value:=.int .i64 x
theorem G0 (i:Nat):(2:Int)^(8*i)=((256^i:Nat):Int):=by
  rw[Int.pow_mul];norm_cast
theorem wrap_u64 (x:Int):aeb.wrap x=(rO x:Int):=by
  simp only[aem,adZ,ad0,aen,adT,if_false,rO]
  omega
theorem ln (n:Nat) (h:n<18446744073709551616):aeb.wrap (n:Int)=(n:Int):=by rw[wrap_u64,Kv n h]
theorem D9 (n:Nat) (h:n<18446744073709551616):adE.wrap (n:Int)=Ma n:=by
  simp only[aem,adZ,ad0,agQ,Ma]
  split<;>split<;>simp_all<;>omega
theorem Gh (n:Nat):agp.wrap (n:Int)=((aeV n).toNat:Int):=by
  have h:=UInt8.toNat_ofNat' (n:=n)
  rw[h]
  simp only[aem,adZ,ad0,aen,adT,if_false]
  omega
theorem GK (n i:Nat) (hi:i≤8):((n:Int)).fdiv (2^(min (8*(i:Int)).toNat aeb.bits))=((n/256^i:Nat):Int):=by
  have h:min (8*(i:Int)).toNat aeb.bits=8*i:=by simp[adZ];omega
  rw[h,G0,ae0 _ (adY _)]
  norm_cast
theorem GL (c:UInt8) (i:Nat) (hi:i<8):aeb.wrap (((c.toNat:Int))*2^(min (8*(i:Int)).toNat aeb.bits))=((c.toNat*256^i:Nat):Int):=by
  have h:min (8*(i:Int)).toNat aeb.bits=8*i:=by simp[adZ];omega
  rw[h,G0]
  have hc:=c.toNat_lt
  have:c.toNat*256^i<18446744073709551616:=by
    have h1:256^i≤256^7:=afF (by decide) (by omega)
    have h2:c.toNat*256^i≤255*256^7:=afv (by omega) h1
    have h3:255*(256:Nat)^7<18446744073709551616:=by decide
    omega
  rw[show((c.toNat:Int))*((256^i:Nat):Int)=((c.toNat*256^i:Nat):Int)from by norm_cast,ln _ this]
theorem KR (a c i:Nat) (ha:a<256^i) (hc:c<256) (hi:i<8):arith .or .u64 (a:Int) ((c*256^i:Nat):Int)=((a+c*256^i:Nat):Int):=by
  simp only[arith]
  rw[show aeb.bits=64 from rfl]
  have h7:256^i≤256^7:=afF (by decide) (by omega)
  have h8:(256:Nat)^7=72057594037927936:=by decide
  have hb:c*256^i≤255*256^7:=afv (by omega) h7
  have h1:(aed 64 (a:Int) |||aed 64 ((c*256^i:Nat):Int)).toNat=a+c*256^i:=by
    rw[BitVec.toNat_or]
    have e:∀x:Nat,x<18446744073709551616→(aed 64 (x:Int)).toNat=x:=fun x hx=>by simp;omega
    rw[e a (by omega),e _ (by omega)]
    have hp:(256:Nat)^i=2^(8*i):=by rw[Nat.pow_mul]
    rw[hp]at ha ⊢
    rw[Nat.or_comm,afO c,←Nat.two_pow_add_eq_or_of_lt ha,Nat.add_comm]
  rw[h1,ln _ (by omega)]
def jf (n K i:Nat):List UInt8:=(adC K).map fun j=>if j<i then aeV (n/256^j)else 0
theorem kj (n K i:Nat):(jf n K i).length=K:=by simp[jf]
theorem xM (n K:Nat):jf n K 0=ac3 K 0:=by
  unfold jf
  simp only[ago,if_false]
  rw[List.map_const',afs]
theorem xO (n K:Nat):jf n K K=put n K:=by
  unfold jf put
  apply afM
  intro j hj
  rw[if_pos (by simpa using hj)]
theorem xN (n K i:Nat):jf n K (i+1)=(jf n K i).set i (aeV (n/256^i)):=by
  apply agc
  · simp[jf]
  · intro j h1 h2
    rw[ai9]
    simp only[jf,ag9,afP]
    by_cases oT:i=j
    · subst oT;simp
    · rw [if_neg oT]
      by_cases cD:j<i
      · rw[if_pos cD,if_pos (by omega)]
      · rw[if_neg cD,if_neg (by omega)]
def Rd (T:TypeId) (w:World) (lo hi g:Nat) (s:St):Prop:=lo≤g∧g<hi∧∃v,ij w g [v,.int .i64 s.2] T∧Sl vb w v s.1∧∀k,v.ownBlock=some k→lo≤k∧k<hi∧k≠g
theorem Rd.mod {T:TypeId} {M:Nat→Prop} {w w':World} {lo hi g:Nat} {s:St} (h:Rd T w lo hi g s) (hm:Mod M w w') (hM:∀k,lo≤k→k<hi→¬M k):Rd T w' lo hi g s:=by
  obtain⟨hb,hc,v,h1,h2,h3⟩:=h
  exact⟨hb,hc,v,h1.mod hm (hM g hb hc),h2.mod hm (fun k hk=>hM k (h3 k hk).1 (h3 k hk).2.1),h3⟩
theorem Rd.ext {T:TypeId} {w w':World} {lo hi g:Nat} {s:St} (h:Rd T w lo hi g s) (hm:Ext w w'):Rd T w' lo hi g s:=h.mod hm (fun _ _ _ e=>e)
theorem Rd.lt {T:TypeId} {w:World} {lo hi g:Nat} {s:St} (h:Rd T w lo hi g s):lo≤g∧g<hi∧g<w.heap.size:=by
  obtain⟨hb,hc,v,h1,_⟩:=h
  exact⟨hb,hc,h1.lt⟩
theorem xR (E:TypeId) (w:World) (base:Nat):eB vi E w base (vN) (jN (([]:List UInt8).length/8) []):=eB.nil _ _ _ _
end Go.dj
namespace Go.dj
open Go.Rl
end Go.dj
namespace Go.jR
def G2:BitVec 32:=0xedb88320#32
def step (n:BitVec 32):BitVec 32:=(n>>>1)^^^((-(n &&& 1#32)) &&& G2)
def eT:Nat→BitVec 32→BitVec 32
  |0,n=>n
  |k+1,n=>eT k (step n)
theorem Hm (n:BitVec 32):(-(n &&& 1#32)) &&& G2=if n.getLsbD 0 then G2 else 0#32:=by
  have h:n &&& 1#32=if n.getLsbD 0 then 1#32 else 0#32:=by
    apply afk
    intro i hi
    rw[afm]
    by_cases hb:n.getLsbD 0
    · simp only [hb, if_true]
      match i with
      |0=>simp[hb]
      |i+1=>simp
    · simp only [hb]
      match i with
      |0=>simpa using hb
      |i+1=>simp
  rw[h]
  split
  · decide
  · decide
theorem step_eq (n:BitVec 32):step n=(n>>>1)^^^(if n.getLsbD 0 then G2 else 0#32):=by unfold step;rw[Hm]
theorem Bu (x y p:BitVec 32):(x^^^p)^^^(y^^^p)=x^^^y:=by
  rw[show(x^^^p)^^^(y^^^p)=(x^^^y)^^^(p^^^p)from by ac_rfl,BitVec.xor_self,ajf]
theorem GB (a b:BitVec 32):step (a^^^b)=step a^^^step b:=by
  rw[step_eq,step_eq,step_eq]
  have h:(a^^^b)>>>1=(a>>>1)^^^(b>>>1):=by rw[agq]
  rw[h,aii]
  cases a.getLsbD 0<;>cases b.getLsbD 0
  · simp
  · simp;ac_rfl
  · simp;ac_rfl
  · simp only[if_true,adT,if_false,bne_self_eq_false,Bu,ajf]
theorem En (k:Nat):∀a b:BitVec 32,eT k (a^^^b)=eT k a^^^eT k b:=by
  induction k with
  |zero=>intro a b;rfl
  |succ k ih=>intro a b;simp only[eT,GB,ih]
theorem Ep (j:Nat):∀(k:Nat) (n:BitVec 32),eT (j+k) n=eT k (eT j n):=by
  induction j with
  |zero=>intro k n;simp[eT]
  |succ j ih=>intro k n;rw[show j+1+k=(j+k)+1 from by omega];simp only[eT,ih]
theorem BL (k:Nat) (n:BitVec 32):eT (k+1) n=step (eT k n):=by
  rw[Ep k 1 n];rfl
theorem Eo (k:Nat):∀x:BitVec 32,(∀i,i<k→x.getLsbD i=false)→eT k x=x>>>k:=by
  induction k with
  |zero=>intro x _;simp[eT]
  |succ k ih=>
    intro x h
    have h0:=h 0 (by omega)
    have hs:step x=x>>>1:=by rw[step_eq,h0];simp
    rw[eT,hs,ih]
    · rw[←BitVec.shiftRight_add,Nat.add_comm]
    · intro i hi
      rw[afK]
      exact h _ (by omega)
theorem FI (x:BitVec 32):eT 8 x=(x>>>8)^^^eT 8 (x &&& 255#32):=by
  have hx:x=(x &&& ~~~255#32)^^^(x &&& 255#32):=by
    apply afk
    intro i hi
    simp only[aii,afm,BitVec.getLsbD_not,hi,decide_true,agQ]
    cases x.getLsbD i<;>cases (255#32).getLsbD i<;>rfl
  have h1:eT 8 (x &&& ~~~255#32)=(x &&& ~~~255#32)>>>8:=Eo 8 _ fun i hi=>by
    have:(~~~255#32).getLsbD i=false:=by
      match i,hi with
      |0,_=>rfl
      |1,_=>rfl
      |2,_=>rfl
      |3,_=>rfl
      |4,_=>rfl
      |5,_=>rfl
      |6,_=>rfl
      |7,_=>rfl
    rw[afm,this,Bool.and_false]
  have h2:(x &&& ~~~255#32)>>>8=x>>>8:=by
    apply afk
    intro i hi
    rw[afK,afK,afm]
    by_cases h:8+i<32
    · have:(~~~255#32).getLsbD (8+i)=true:=by
        have hd:∀j:Fin 24,(~~~255#32).getLsbD (8+j.val)=true:=by decide
        exact hd ⟨i,by omega⟩
      rw[this,Bool.and_true]
    · rw[BitVec.getLsbD_of_ge x (8+i) (by omega),aen]
  calc eT 8 x = eT 8 ((x &&& ~~~255#32) ^^^ (x &&& 255#32)) := by rw [← hx]
    _=_:=by rw[En,h1,h2]
def wide (c:UInt8):BitVec 32:=afd 32 c.toNat
theorem sS (c:UInt8):(wide c).toNat=c.toNat:=by
  have:=c.toNat_lt
  simp[wide]
theorem Gi (c:UInt8):wide c>>>8=0#32:=by
  apply afz
  have:=c.toNat_lt
  simp[afb,sS,ae4]
  omega
theorem Wz (n:BitVec 32) (c:UInt8):(n>>>8)^^^eT 8 ((n^^^wide c) &&& 255#32)=eT 8 (n^^^wide c):=by
  rw[FI (n^^^wide c),agq,Gi]
  simp
def ou (n:BitVec 32) (l:List UInt8):BitVec 32:=l.foldl (fun n c=>eT 8 (n^^^wide c)) n
def more (n:BitVec 32) (l:List UInt8):BitVec 32:= ~~~(ou (~~~n) l)
def sum (l:List UInt8):BitVec 32:=more 0#32 l
theorem yb (n:BitVec 32) (a b:List UInt8):ou n (a++b)=ou (ou n a) b:=by simp[ou]
theorem Cf (n:BitVec 32) (l:List UInt8) (i:Nat) (h:i<l.length):eT 8 (ou n (l.take i)^^^wide l[i])=ou n (l.take (i+1)):=by
  rw[ad8 h,yb];rfl
def o5 (n:BitVec 32) (k:Nat):UInt8:=aeV (n>>>k).toNat
def nj (n:BitVec 32):List UInt8:=[o5 n 0,o5 n 8,o5 n 16,o5 n 24]
def jV (l:List UInt8):Bool:=decide (4≤l.length∧nj (sum (l.take (l.length-4)))=l.drop (l.length-4))
def low (n : BitVec 32) : Nat → BitVec 32
  |0=>0#32
  |i+1=>if n.getLsbD i then low n i^^^(1#32<<<i)else low n i
def vC:BitVec 32:=4294967295#32
theorem ni (n:BitVec 32):(nj n).length=4:=rfl
theorem EH (l:List UInt8):jV (l++nj (sum l))=true∧(l++nj (sum l)).take ((l++nj (sum l)).length-4)=l:=by
  have h:(l++nj (sum l)).length-4=l.length:=by simp[ni]
  unfold jV
  rw[h,ajo,List.drop_left]
  exact⟨decide_eq_true ⟨by simp[ni],rfl⟩,rfl⟩
end Go.jR
namespace Go.jR
open Go.Rl
abbrev u32 (x:BitVec 32):Value:=.int .u32 (x.toNat:Int)
theorem wrap_u32 (x:BitVec 32):aeX.wrap (x.toNat:Int)=(x.toNat:Int):=by
  have:=x.isLt
  simp only[aem,adZ,ad0,aen,adT,if_false]
  omega
theorem ofInt_u32 (x:BitVec 32):aed 32 (x.toNat:Int)=x:=by
  apply afz
  simp
theorem M0 (a b:BitVec 32):arith .and .u32 (a.toNat:Int) (b.toNat:Int)=((a &&& b).toNat:Int):=by
  simp only[arith]
  rw[show aeX.bits=32 from rfl,ofInt_u32,ofInt_u32,wrap_u32]
theorem JV (a b:BitVec 32):arith .xor .u32 (a.toNat:Int) (b.toNat:Int)=((a^^^b).toNat:Int):=by
  simp only[arith]
  rw[show aeX.bits=32 from rfl,ofInt_u32,ofInt_u32,wrap_u32]
theorem MZ (a:BitVec 32):arith .xor .u32 (if aeX.signed then-1 else aeX.max) (a.toNat:Int)=((~~~a).toNat:Int):=by
  have h:(if aeX.signed then-1 else aeX.max)=(((4294967295#32).toNat:Nat):Int):=by decide
  rw[h,JV]
  congr 2
theorem Tf (a:BitVec 32):arith .sub .u32 0 (a.toNat:Int)=((-a).toNat:Int):=by
  have:=a.isLt
  simp only[arith,aem,adZ,ad0,aen,adT,if_false,BitVec.toNat_neg]
  omega
theorem Bg (a:BitVec 32) (k:Nat) (hk:k≤32):((a.toNat:Int)).fdiv (2^(min (k:Int).toNat aeX.bits))=((a>>>k).toNat:Int):=by
  rw[show min (k:Int).toNat aeX.bits=k from by simp[adZ];omega]
  rw[afb,ae4,ae0 _ (by exact_mod_cast adW _)]
  norm_cast
theorem Te (a:BitVec 32):agp.wrap (a.toNat:Int)=((a.toNat%256:Nat):Int):=by
  simp only[aem,adZ,ad0,aen,adT,if_false]
  norm_cast
theorem sw (y:BitVec 8):(y.setWidth 32).toNat=y.toNat:=BitVec.toNat_setWidth_of_le (by decide)
theorem PK (a:BitVec 32) (c:UInt8):arith .xor .u8 ((a.toNat%256:Nat):Int) (c.toNat:Int)=(((a^^^wide c) &&& 255#32).toNat:Int):=by
  have hc:=c.toNat_lt
  simp only[arith]
  rw[show agp.bits=8 from rfl]
  have h1:aed 8 ((a.toNat%256:Nat):Int)=a.setWidth 8:=by
    apply afz
    simp[aif]
    omega
  have h2:aed 8 (c.toNat:Int)=(wide c).setWidth 8:=by
    apply afz
    simp[sS]
  have h3:(a^^^wide c) &&& 255#32=((a^^^wide c).setWidth 8).setWidth 32:=by
    apply afk
    intro i hi
    have:∀j:Fin 32,(255#32).getLsbD j.val=decide (j.val<8):=by decide
    rw[afm,this ⟨i,hi⟩,ahn,ahn]
    simp[hi,Bool.and_comm]
  rw[h1,h2,h3,←BitVec.setWidth_xor]
  have:=((a^^^wide c).setWidth 8).isLt
  simp only[aem,adZ,ad0,aen,adT,if_false]
  rw[sw]
  omega
theorem JQ (i:Nat):aeX.wrap (i:Int)=((afd 32 i).toNat:Int):=by
  simp only[aem,adZ,ad0,aen,adT,if_false,BitVec.toNat_ofNat]
  norm_cast
theorem JY (x:BitVec 32):(x &&& 255#32).toNat<256:=by
  rw[BitVec.toNat_and]
  exact adD Nat.and_le_right (by decide)
theorem Tc (n:BitVec 32) (c:UInt8):arith .xor .u32 ((n>>>8).toNat:Int) ((eT 8 ((n^^^wide c) &&& 255#32)).toNat:Int)=((eT 8 (n^^^wide c)).toNat:Int):=by rw[JV,Wz]
theorem MY (a:BitVec 32):agp.wrap (a.toNat:Int)=((aeV a.toNat).toNat:Int):=by rw[Te];simp
theorem C9 (a:BitVec 32) (k:Nat):agp.wrap ((a>>>k).toNat:Int)=((o5 a k).toNat:Int):=MY _
theorem LX (a:BitVec 32):agp.wrap (a.toNat:Int)=((o5 a 0).toNat:Int):=by
  have:=MY (a>>>0)
  simpa[o5]using this
def lJ (m i:Nat):List Value:=(adC m).map fun j=>if j<i then u32 (eT 8 (afd 32 j))else u32 0#32
theorem yc (m i:Nat):(lJ m i).length=m:=by simp[lJ]
theorem Ch (m:Nat):lJ m 0=ac3 m (.int .u32 0):=by
  apply agc
  · simp[lJ]
  · intro j h1 h2
    simp[lJ]
theorem EO (m i:Nat):∀u∈lJ m i,u.oneCell'=true:=by
  intro u hu
  obtain⟨j,_,rfl⟩:=adg.1 hu
  split<;>rfl
theorem Ci (m i:Nat):lJ m (i+1)=(lJ m i).set i (u32 (eT 8 (afd 32 i))):=by
  apply agc
  · simp[lJ]
  · intro j h1 h2
    rw[ai9]
    simp only[lJ,ag9,afP]
    by_cases oT:i=j
    · subst oT;simp
    · rw [if_neg oT]
      by_cases cD:j<i
      · rw[if_pos cD,if_pos (by omega)]
      · rw[if_neg cD,if_neg (by omega)]
theorem EP (m i:Nat) (h:i<m):(lJ m m)[i]?=some (u32 (eT 8 (afd 32 i))):=by
  unfold lJ
  rw[adI,agA h]
  simp[h]
def jT (i:Nat):List Value:=lJ 256 i
theorem fB (i:Nat):(jT i).length=256:=yc _ _
theorem zt:jT 0=ac3 256 (.int .u32 0):=Ch _
theorem sW (i:Nat):∀u∈jT i,u.oneCell'=true:=EO _ _
theorem zu (i:Nat):jT (i+1)=(jT i).set i (u32 (eT 8 (afd 32 i))):=Ci _ _
theorem Kz (x:BitVec 32) (h:x.toNat<256):(jT 256)[((x.toNat:Int)).toNat]?=some (u32 (eT 8 x)):=by
  unfold jT
  rw[aek,EP 256 _ h]
  simp
end Go.jR
namespace Go.dj
open Go.Rl Go.jR
def mD (l:List UInt8):List UInt8:=l++nj (jR.sum l)
def dC (ls:List (List UInt8)):List UInt8:=(ls.map fun l=>jG (mD l)).flatten
theorem eE (l:List UInt8):(mD l).length=l.length+4:=by unfold mD;rw[acB,ni]
theorem Cp {ls:List (List UInt8)} {i:Nat} {l:List UInt8} (h:ls[i]?=some l):dC (ls.take (i+1))=dC (ls.take i)++jG (mD l):=by
  unfold dC
  rw[ae1,h];simp
def fO (ls:List (List UInt8)):Nat:=(ls.map fun l=>l.length+8).sum
theorem fZ (ls:List (List UInt8)):(dC ls).length=fO ls:=by
  unfold dC fO
  induction ls with
  |nil=>rfl
  |cons l r ih=>simp only[adq,adl,acB,af9,ih,eG,eE];omega
theorem Ck {ls:List (List UInt8)} {i:Nat} {l:List UInt8} (h:ls[i]?=some l):fO (ls.take (i+1))=fO (ls.take i)+(l.length+8):=by
  unfold fO
  rw[ae1,h];simp
theorem Hl (ls:List (List UInt8)) (i:Nat):fO (ls.take i)≤fO ls:=by
  unfold fO
  conv=>rhs;rw[←afx i ls]
  rw[ad7,aje];omega
theorem ER (ls:List (List UInt8)):8*ls.length≤fO ls:=by
  unfold fO
  induction ls with
  |nil=>simp
  |cons l r ih=>simp only[adq,af9,acK];omega
def iC (most : Int) : Nat → List UInt8 → Option (List (List UInt8))
  |0,b=>if b=[]then some []else none
  |k+1,b=>if b=[]then some []else
    if(eg (b,0) most).1.2≠0∨jV (eg (b,0) most).2=false then none
    else(iC most k (eg (b,0) most).1.1).map ((eg (b,0) most).2.take ((eg (b,0) most).2.length-4)::·)
def parts (b:List UInt8):Option (List (List UInt8)):=iC b.length b.length b
def cP (b:List UInt8):List (List UInt8):=(parts b).getD []
theorem tG (most:Int) (k:Nat):iC most k []=some []:=by cases k<;>rfl
theorem tH {most:Int} {k:Nat} {b:List UInt8} (hb:b≠[]) (h:(eg (b,0) most).1.2≠0∨jV (eg (b,0) most).2=false):iC most (k+1) b=none:=by
  unfold iC;rw[if_neg hb,if_pos h]
theorem wL {most:Int} {k:Nat} {b:List UInt8} (hb:b≠[]) (h1:(eg (b,0) most).1.2=0) (h2:jV (eg (b,0) most).2=true):
    iC most (k+1) b=(iC most k (eg (b,0) most).1.1).map ((eg (b,0) most).2.take ((eg (b,0) most).2.length-4)::·):=by
  conv=>lhs;unfold iC
  rw[if_neg hb,if_neg (by simp[h1,h2])]
theorem sU {s:St} {k:Nat} (h:(fj s k).1.2=0):s.2=0∧k≤s.1.length∧(fj s k).1.1.length+k=s.1.length∧(fj s k).2.length=k:=by
  unfold fj at h ⊢
  by_cases h2:s.2≠0
  · rw[if_pos h2]at h;exact absurd h h2
  · rw [if_neg h2] at h ⊢
    by_cases h3:s.1.length<k
    · rw[if_pos h3]at h;exact absurd h (by decide)
    · rw [if_neg h3]
      refine⟨acX.1 h2,by omega,by simp;omega,by simp;omega⟩
theorem zp (s:St) (most:Int):(eg s most).2.length≤s.1.length:=by
  unfold eg l6
  split
  · exact adW _
  · split
    · exact adW _
    · exact acU (gx _ _).2 (KU s 4)
theorem BJ {b:List UInt8} {most:Int} (h:(eg (b,0) most).1.2=0):(eg (b,0) most).1.1.length+(eg (b,0) most).2.length+4=b.length:=by
  unfold eg l6 at h ⊢
  by_cases h1:(jM (b,0) 4).1.2≠0
  · rw[if_pos h1]at h;exact absurd h h1
  · rw [if_neg h1] at h ⊢
    split at h
    · exact absurd h (by decide)
    · rename_i h2
      rw[if_neg h2]
      have g1:=sU h
      have g0:=sU (s:=(b,0)) (k:=4) (acX.1 h1)
      have e:(jM (b,0) 4).1.1.length=(fj (b,0) 4).1.1.length:=rfl
      have:(b,(0:Int)).1.length=b.length:=rfl
      omega
theorem zS (most:Int):∀(ls:List (List UInt8)) (k:Nat),(dC ls).length≤k→(dC ls).length<4294967296→((dC ls).length:Int)≤most→iC most k (dC ls)=some ls:=by
  intro ls
  induction ls with
  |nil=>intro k _ _ _;exact tG most k
  |cons l ls ih=>
    intro k hk YI hm
    have hj:dC (l::ls)=jG (mD l)++dC ls:=by unfold dC;simp
    have hl:(dC (l::ls)).length=8+l.length+(dC ls).length:=by rw[hj,acB,eG,eE];omega
    have ht:eg (dC (l::ls),0) most=((dC ls,0),mD l):=by rw[hj];exact Ed _ _ _ (by rw[eE];omega) (by rw[eE];omega)
    have ho:=EH l
    obtain⟨k,rfl⟩:∃j,k=j+1:=⟨k-1,by omega⟩
    have dX:dC (l::ls)≠[]:=by intro e;rw[e]at hl;simp at hl;omega
    rw[wL dX (by rw[ht]) (by rw[ht];exact ho.1),ht]
    simp only
    rw[ih k (by omega) (by omega) (by omega)]
    simp only[aeF]
    have:(mD l).take ((mD l).length-4)=l:=ho.2
    rw[this]
theorem km (ls:List (List UInt8)) (h:(dC ls).length<4294967296):cP (dC ls)=ls:=by
  unfold cP parts
  rw[zS _ ls _ (ac8 _) h (ahw _)]
  rfl
theorem wX:dC [[]]=[4,0,0,0,0,0,0,0]:=by decide+kernel
end Go.dj
namespace Go.Gr
open Go.Rl Go.dj Go.jR
def mh (n:Int) (ar:List I3):List (List UInt8):=[bL [n],bL (ar.map fun a=>a.1),bL (ar.map fun a=>a.2.1),bL (ar.map fun a=>a.2.2)]
def jk (rk:List Int) (ws:List I5):List (List UInt8):=[bL rk,bL (ws.map fun a=>a.1),bL (ws.map fun a=>a.2.1),bL (ws.map fun a=>a.2.2.1),bL (ws.map fun a=>a.2.2.2.1),bL (ws.map fun a=>a.2.2.2.2)]
def eC (ls:List (List Int)):List (List UInt8):=bL [(ls.length:Int)]::ls.map bL
def gk (r:List I2):List (List UInt8):=[bL (r.map fun a=>a.1),bL (r.map fun a=>a.2)]
def fk (ls:List (List I2)):List (List UInt8):=bL [(ls.length:Int)]::ls.flatMap gk
def fN (g:List Int) (far:List (List Int)) (outs ins:List (List I2)) (so si:List (List Int)):List (List UInt8):=bL g::(eC far++(fk outs++(fk ins++(eC so++eC si))))
def j3 (n:Int) (ar:List I3):List UInt8:=[80,82,49]++put (if dU n ar=0 then(jg n ar).toNat else 0) 8
def gT (n:Int) (ar:List I3) (rk:List Int) (ws:List I5) (g:List Int) (far:List (List Int)) (outs ins:List (List I2)) (so si:List (List Int)):List (List UInt8):=[j3 n ar,(mh n ar).flatten,(jk rk ws).flatten,(fN g far outs ins so si).flatten]
theorem AH {n:Int} {ar:List I3} (h:dU n ar=0):j3 n ar=[80,82,49]++put (jg n ar).toNat 8:=by unfold j3;rw[if_pos h]
theorem Ff {n:Int} {ar:List I3} (h:¬dU n ar=0):j3 n ar=[80,82,49]++put 0 8:=by unfold j3;rw[if_neg h]
theorem qJ (n:Int) (ar:List I3):(j3 n ar).length=11:=by unfold j3;rw[acB,dr];rfl
theorem GZ {ls:List (List I2)} {i:Nat} {r:List I2} {todo:List (List UInt8)} (h:ls[i]?=some r):(ls.drop i).flatMap gk++todo=bL (r.map fun a=>a.1)::(bL (r.map fun a=>a.2)::((ls.drop (i+1)).flatMap gk++todo)):=by rw[JM h];rfl
theorem QS {ls:List (List Int)} {i:Nat} {r:List Int} {todo:List (List UInt8)} (h:ls[i]?=some r):(ls.drop i).map bL++todo=bL r::((ls.drop (i+1)).map bL++todo):=by rw[JM h];rfl
structure qe (F : Nat → Prop) (w : World) (gv : Value) (g : List Int) (fv : Value) (hf : List Hd) (far : List (List Int)) (ov : Value) (ho : List Hd) (outs : List (List I2)) (iv : Value) (hi : List Hd) (ins : List (List I2))
    (cW:Value) (gM:List Hd) (so:List (List Int)) (cX:Value) (gI:List Hd) (si:List (List Int)):Prop where
  tg:nR F vI w gv g
  tf:nR F vh w fv hf
  Ec:gG F vI w hf far
  to:nR F vh w ov ho
  Bq:gJ F bG w ho outs
  ti:nR F vh w iv hi
  tie:gJ F bG w hi ins
  Dm:nR F vh w cW gM
  qt:gG F vI w gM so
  Dn:nR F vh w cX gI
  qu:gG F vI w gI si
theorem qe.step {F : Nat → Prop} {w w' : World} {L : List Atom} {gv : Value} {g : List Int} {fv : Value} {hf : List Hd} {far : List (List Int)} {ov : Value} {ho : List Hd} {outs : List (List I2)} {iv : Value} {hi : List Hd} {ins : List (List I2)}
    {cW:Value} {gM:List Hd} {so:List (List Int)} {cX:Value} {gI:List Hd} {si:List (List Int)} (h:qe F w gv g fv hf far ov ho outs iv hi ins cW gM so cX gI si) (hN:aH w F w' L):qe (b6 L) w' gv g fv hf far ov ho outs iv hi ins cW gM so cX gI si:=
  ⟨h.tg.step hN,h.tf.step hN,h.Ec.step hN,h.to.step hN,h.Bq.step ua hN,h.ti.step hN,h.tie.step ua hN,h.Dm.step hN,h.qt.step hN,h.Dn.step hN,h.qu.step hN⟩
theorem qe.ext {w w' : World} {gv : Value} {g : List Int} {fv : Value} {hf : List Hd} {far : List (List Int)} {ov : Value} {ho : List Hd} {outs : List (List I2)} {iv : Value} {hi : List Hd} {ins : List (List I2)}
    {cW:Value} {gM:List Hd} {so:List (List Int)} {cX:Value} {gI:List Hd} {si:List (List Int)} (h:qe none_ w gv g fv hf far ov ho outs iv hi ins cW gM so cX gI si) (he:Ext w w'):qe none_ w' gv g fv hf far ov ho outs iv hi ins cW gM so cX gI si:=
  ⟨h.tg.ext he,h.tf.ext he,h.Ec.ext he,h.to.ext he,h.Bq.ext he,h.ti.ext he,h.tie.ext he,h.Dm.ext he,h.qt.ext he,h.Dn.ext he,h.qu.ext he⟩
theorem QZ {a b c d:List UInt8} {n:Nat} (h:fO [a,b,c,d]≤n):a.length≤n∧b.length≤n∧c.length≤n∧d.length≤n:=by
  simp[fO]at h;omega
end Go.Gr
namespace Go.Gr
open Go.Rl Go.ChangeShapes Go.WideShapes
def Fit (x:Int):Prop:= -9223372036854775808≤x∧x≤9223372036854775807
abbrev xC:Sh:=.cons (.int .i64) (.cons (.int .i64) (.cons (.int .i64) .nil))
abbrev n9:Sh:=.cons (.int .i64) (.cons (.int .i64) .nil)
abbrev Ek:Sh:=.cons (.int .i64) (.cons (.int .i64) (.cons xC .nil))
def Ty (a:xC.ty):I3:=(a.1,a.2.1,a.2.2.1)
def NU (a:n9.ty):I2:=(a.1,a.2.1)
def T9 (a:Ek.ty):I5:=(a.1,a.2.1,a.2.2.1.1,a.2.2.1.2.1,a.2.2.1.2.2.1)
def L1 (a:I3):Prop:=Fit a.1∧Fit a.2.1∧Fit a.2.2
def FK (a:I2):Prop:=Fit a.1∧Fit a.2
def PT (a:I5):Prop:=Fit a.1∧Fit a.2.1∧Fit a.2.2.1∧Fit a.2.2.2.1∧Fit a.2.2.2.2
variable {w:World}
theorem nA {c:Value} {a:Int} (h:(Sh.int .i64).rd w [c] a):c=.int .i64 a∧Fit a:=by
  obtain⟨h1,h2⟩:=h
  exact⟨by simpa using h1,wf_i64 h2⟩
theorem Dp {cs:List Value} {a:xC.ty} (h:xC.rd w cs a):cs=bC (Ty a)∧L1 (Ty a):=by
  have hlen:=xC.np h
  match cs,hlen with
  |[c1,c2,c3],_=>
    obtain⟨h1,h2,h3,_⟩:=h
    have e1:=nA h1
    have e2:=nA h2
    have e3:=nA h3
    exact⟨by rw[e1.1,e2.1,e3.1];rfl,e1.2,e2.2,e3.2⟩
theorem QI {cs:List Value} {a:n9.ty} (h:n9.rd w cs a):cs=bG (NU a)∧FK (NU a):=by
  have hlen:=n9.np h
  match cs,hlen with
  |[c1,c2],_=>
    obtain⟨h1,h2,_⟩:=h
    have e1:=nA h1
    have e2:=nA h2
    exact⟨by rw[e1.1,e2.1];rfl,e1.2,e2.2⟩
theorem QH {cs:List Value} {a:Ek.ty} (h:Ek.rd w cs a):cs=aV (T9 a)∧PT (T9 a):=by
  have hlen:=Ek.np h
  match cs,hlen with
  |[c1,c2,c3,c4,c5],_=>
    obtain⟨h1,h2,h3,_⟩:=h
    have e1:=nA h1
    have e2:=nA h2
    have e3:bC (Ty a.2.2.1)=[c3,c4,c5]∧_:=⟨(Dp h3).1.symm,(Dp h3).2⟩
    simp only[bC,List.cons.injEq,and_true]at e3
    obtain⟨⟨q1,q2,q3⟩,q4⟩:=e3
    exact⟨by rw[e1.1,e2.1,←q1,←q2,←q3];rfl,e1.2,e2.2,q4⟩
theorem pq {sh:Sh} {α:Type} {cf:α→List Value} {s:Nat} {mk:sh.ty→α} {Pr:α→Prop} (XU:∀cs a,sh.rd w cs a→cs=cf (mk a)∧Pr (mk a)) (hc:sh.cells=s) (jH:∀a,(cf a).length=s) {c:Value} {l:List sh.ty} (h:(Sh.sl sh).rd w [c] l):
    Sm cf w c (l.map mk)∧∀x∈l.map mk,Pr x:=by
  obtain⟨A,cap,oz,h1,h2,h3⟩:=h
  cases oz
  refine⟨⟨A,cap,by rw[ada],by rw[ada];exact h1,h2,fun q v hq=>?_⟩,fun x hx=>?_⟩
  · have UP:q<l.length*s:=by
      have:=(acF.1 hq).1
      rwa [kS jH,ada]at this
    have hs:0<s:=by
      rcases aex s with e|e
      · rw[e,aid]at UP;omega
      · exact e
    have hi:q/s<l.length:=ahX (by rw[afO];exact UP)
    have e:q=(q/s)*s+q%s:=by rw[afO];exact(ajd q s).symm
    have hm:(l.map mk)[q/s]?=some (mk l[q/s]):=by rw[adI,acM hi];rfl
    rw[e,jO jH hm (Nat.mod_lt _ hs)]at hq
    obtain⟨ll,g1,g2,g3⟩:=h3 (q/s) _ (acM hi)
    rw[(XU _ _ g2).1]at g3
    obtain⟨ad,e1,e2⟩:=g3 _ _ hq
    rw[hc,←e]at e2
    exact⟨ad,e1,e2⟩
  · obtain ⟨a, ha, rfl⟩ := adg.1 hx
    obtain⟨i,hi⟩:=ade ha
    obtain⟨ll,g1,g2,g3⟩:=h3 i a hi
    exact(XU _ _ g2).2
theorem zx {e:Sh} (he:e.cells=1) {Q:Hd→e.ty→Prop} (hq:∀c a,e.rd w [c] a→∃h:Hd,c=vh h∧Q h a) {c:Value} {l:List e.ty} (h:(Sh.sl e).rd w [c] l):
    ∃hs:List Hd,Sl vh w c hs∧hs.length=l.length∧∀(i:Nat) hd a,hs[i]?=some hd→l[i]?=some a→Q hd a:=by
  obtain⟨A,cap,oz,h1,h2,h3⟩:=h
  have each:∀(i:Nat) a,l[i]?=some a→∃hd:Hd,Q hd a∧∃ad,A=some ad∧w.cell? (ad.add i)=some (vh hd):=by
    intro i a ha
    obtain⟨ll,g1,g2,g3⟩:=h3 i a ha
    rw[he]at g1 g3
    obtain⟨c',rfl⟩:∃c',ll=[c']:=by
      cases ll with
      |nil=>cases g1
      |cons c' r=>cases r with
        |nil=>exact⟨c',rfl⟩
        |cons _ _=>simp at g1
    obtain⟨hd,rfl,hQ⟩:=hq c' a g2
    obtain⟨ad,e1,e2⟩:=g3 0 _ rfl
    rw[ahu,agm]at e2
    exact⟨hd,hQ,ad,e1,e2⟩
  have:∃hs:List Hd,hs.length=l.length∧∀(i:Nat) a hd,l[i]?=some a→hs[i]?=some hd→Q hd a∧∃ad,A=some ad∧w.cell? (ad.add i)=some (vh hd):=by
    refine⟨(adC l.length).map fun i=>if hi:i<l.length then ai5 (each i l[i] (acM hi))else(none,0,0),by simp,fun i a hd ha Ql=>?_⟩
    obtain⟨cD,rfl⟩:=acF.1 ha
    rw[adI,agA cD]at Ql
    simp only[aeF,dif_pos cD,aeC]at Ql
    subst Ql
    exact agi (each i l[i] (acM cD))
  obtain⟨hs,hl,hh⟩:=this
  cases oz
  have OG:adQ (α:=e.ty) l=hs.length:=hl.symm
  refine⟨hs,⟨A,cap,by rw[←OG],by rw[←OG];exact h1,h2,fun j v hj=>?_⟩,hl,fun i hd a hi ha=>(hh i a hd ha hi).1⟩
  rw[adI]at hj
  cases Ay:hs[j]? with
  |none=>rw[Ay]at hj;cases hj
  |some hd=>
    rw[Ay]at hj
    simp only[aeF,aeC]at hj
    subst hj
    have cD:=(acF.1 Ay).1
    obtain⟨_,ad,e1,e2⟩:=hh j _ hd (acM (by omega)) Ay
    exact⟨ad,e1,e2⟩
theorem Mb {e:Sh} {c:Value} {l:List e.ty} (h:(Sh.sl e).rd w [c] l):∃h:Hd,c=vh h:=by
  obtain⟨A,cap,oz,_⟩:=h
  cases oz
  exact⟨(A,_,cap),rfl⟩
theorem yf {c:Value} {l:List Int} (h:(Sh.sl (.int .i64)).rd w [c] l):Sl vI w c l∧∀x∈l,Fit x:=by
  have:=Sh.KL h
  exact⟨this.1,fun x hx=>wf_i64 (this.2 x hx)⟩
theorem xE {c:Value} {l:List (List Int)} (h:(Sh.sl (.sl (.int .i64))).rd w [c] l):∃hs:List Hd,Sl vh w c hs∧gG none_ vI w hs l∧∀r∈l,∀x∈r,Fit x:=by
  obtain⟨hs,h1,h2,h3⟩:=zx (e:=.sl (.int .i64)) (Q:=fun hd a=>Sl vI w (vh hd) a∧∀x∈(show List Int from a),Fit x) rfl (fun c a hr=>by
    obtain⟨hd,rfl⟩:=Mb hr
    exact⟨hd,rfl,yf hr⟩) h
  refine⟨hs,h1,⟨h2,fun i hd r hi hr=>⟨(h3 i hd r hi hr).1,sN.none _ _⟩⟩,fun r hr=>?_⟩
  obtain⟨i,hi⟩:=ade hr
  have cD:=(acF.1 hi).1
  have Wm:hs.length=l.length:=h2
  exact(h3 i hs[i] r (acM (by omega)) hi).2
theorem zH {c:Value} {l:List (List n9.ty)} (h:(Sh.sl (.sl n9)).rd w [c] l):∃hs:List Hd,Sl vh w c hs∧gJ none_ bG w hs (l.map fun r=>r.map NU)∧∀r∈l.map (fun r=>r.map NU),∀x∈r,FK x:=by
  have h':(Sh.sl (.sl n9)).rd w [c] (show List (Sh.sl n9).ty from l):=h
  obtain⟨hs,h1,h2,h3⟩:=zx (e:=.sl n9) (Q:=fun hd a=>Sm bG w (vh hd) ((show List n9.ty from a).map NU)∧∀x∈(show List n9.ty from a).map NU,FK x) rfl (fun c a hr=>by
    obtain⟨hd,rfl⟩:=Mb hr
    exact⟨hd,rfl,pq (fun _ _=>QI) rfl bp hr⟩) h'
  have Wm:hs.length=adQ (α:=List n9.ty) l:=h2
  refine⟨hs,h1,⟨by rw[ada];exact h2,fun i hd r hi hr=>?_⟩,fun r hr=>?_⟩
  · rw [adI] at hr
    cases hq:l[i]? with
    |none=>rw[hq]at hr;cases hr
    |some a=>
      rw[hq]at hr
      simp only[aeF,aeC]at hr
      subst hr
      exact((h3 i hd a hi hq).1).o
  · obtain ⟨a, ha, rfl⟩ := adg.1 hr
    obtain⟨i,hi⟩:=ade ha
    have cD:=(acF.1 hi).1
    exact(h3 i hs[i] a (acM (by omega)) hi).2
section
variable {H:Type} {enc:TypeId×Value→H} {P:Program} {W:World} {base:Nat} {held:Bool} {t:TypeId} {d:DataW H} {ps:List MemPlace} {v:Value} {ts:List TypeId} {ds:List (DataW H)} {j:Nat}
theorem JX {e:TypeId} (eI:(adS P ts ds).all (·≤reachBytes)=true) (ht:ts[j]?=some t) (hd:ds[j]?=some d) (hu:P.underlying t=some (.slice e)) (hf:(Sh.sl xC).fit P (.inl t)=true) (hh:(Sh.sl xC).kQ P (.inl t)=true) (hv:aij P W .any base t v) (h:ahW enc P W 0 (fun _=>true) held t v d ps):
    ∃l:List I3,Sm bC W v l∧∀x∈l,L1 x:=by
  obtain⟨a,len,cap,rfl⟩:=okWide_slice hu hv
  obtain⟨l,hr,_⟩:=G8 eI ht hd hf hh h
  exact⟨_,pq (fun _ _=>Dp) rfl aW hr⟩
end
end Go.Gr
namespace Go.Gr
open Go.Rl Go.dj Go.jR
end Go.Gr
namespace Go.Gr
open Go.Rl
noncomputable def bf (n:Nat) (ins:List Int) (ls:List I5) (out:List I5):List I5:=out.foldl (fun ls s=>jJ n ins ls s.1 s.2.1 s.2.2.1 s.2.2.2.1) ls
theorem kK {n:Nat} {ins:List Int} {ls out:List I5} {q:Nat} {a:I5} (h:out[q]?=some a):bf n ins ls (out.take (q+1))=jJ n ins (bf n ins ls (out.take q)) a.1 a.2.1 a.2.2.1 a.2.2.2.1:=by
  unfold bf;rw[dJ h,aiI];rfl
def sT (ls:List I5) (v a:Int):I5:=(v,a,((bF ls v a).getD (0,0,0)).1,((bF ls v a).getD (0,0,0)).2.1,((bF ls v a).getD (0,0,0)).2.2)
def J0 (ls:List I5) (v a:Int):I5:=(a,v,((bF ls a v).getD (0,0,0)).1,((bF ls a v).getD (0,0,0)).2.1,((bF ls a v).getD (0,0,0)).2.2)
noncomputable def rj (n:Nat) (ls:List I5) (v:Int) (ways:List I5):List I5:=ways++(cw ls v n).map (sT ls v)++(df ls v n).map (J0 ls v)
def iU (r:Nat):Int:=2147483648*2^r
theorem qo (r:Nat):iU (r+1)=2*iU r:=by unfold iU;rw[Int.pow_succ];omega
theorem gj (r:Nat):0≤iU r:=by
  induction r with
  |zero=>decide
  |succ r ih=>rw[qo];omega
theorem qp {r s:Nat} (h:r≤s):iU r≤iU s:=by
  induction s with
  |zero=>rw[show r=0 by omega];exact ahw _
  |succ s ih=>
    rcases adi r (s+1)with h1|h1
    · have := ih (by omega)
      have:=gj s
      rw[qo];omega
    · rw[show r=s+1 by omega];exact ahw _
theorem pg {r:Nat} (h:r≤12):iU r≤8796093022208:=afy (qp h) (by decide)
theorem sR {r n:Nat} (h:r≤12) (hn:n≤12):(n:Int)*iU r≤1152921504606846976:=by
  have h1:=pg h
  have h2:=gj r
  have h3:(n:Int)*iU r≤12*iU r:=aew (by omega) h2
  omega
def vC (ins:List Int):Nat:=(ins.filter fun x=>decide (x=1)).length
def Tk (n:Nat) (ins:List Int) (v:Int):Prop:=0≤v∧v<n∧ins[v.toNat]?=some 0
def Rt (n:Nat) (l:List I3) (ins:List Int) (ways:List I5) (x:I5):Prop:=
  (x.2.2.2.1= -1∧0≤x.2.2.2.2∧l[x.2.2.2.2.toNat]?=some (x.1,x.2.1,x.2.2.1))∨
  (Tk n ins x.2.2.2.1∧x.2.2.2.2= -1∧∃a b,a∈ways∧b∈ways∧a.1=x.1∧a.2.1=x.2.2.2.1∧b.1=x.2.2.2.1∧b.2.1=x.2.1∧a.2.2.1+b.2.2.1=x.2.2.1)
def Rk (n:Nat) (rk ins:List Int) (m e:Int):Prop:=Tk n ins e→∃p q,rk[m.toNat]?=some p∧rk[e.toNat]?=some q∧p<q
abbrev ix (x y:I5):Prop:=¬(x.1=y.1∧x.2.1=y.2.1)
structure zh (n:Nat) (l:List I3) (r:Nat) (rk:List Int) (ways:List I5) (ins:List Int) (ls:List I5):Prop where
  tok:Bj n (iU r) ins ls
  zO:rk.length=n
  JS:vC ins+r=n
  ws:∀x∈ways,0≤x.1∧x.1<n∧0≤x.2.1∧x.2.1<n∧0≤x.2.2.1∧x.2.2.1≤iU 12
  QB:ways.length≤24*r
  Tx:∀x∈rk,0≤x∧x<max n 1
  bit:∀x∈ins,x=0∨x=1
  Uc:∀x∈ls,fS n ins x.1∧fS n ins x.2.1∧x.1≠x.2.1
  Zq:ls.Pairwise ix
  W5:∀x∈ls,Rt n l ins ways x
  TZ:∀x∈ways,x.1≠x.2.1∧(Tk n ins x.1∨Tk n ins x.2.1)
  Tr:ways.Pairwise ix
  TY:∀x∈ways,Rt n l ins ways x∧(0≤x.2.2.2.1→Rk n rk ins x.2.2.2.1 x.1∧Rk n rk ins x.2.2.2.1 x.2.1)
  QO:∀k:Nat,k<r→∃v,Tk n ins v∧rk[v.toNat]?=some (k:Int)
  W2:∀v,Tk n ins v→∃q,rk[v.toNat]?=some q∧0≤q∧q<r
theorem Bj.more {n:Nat} {M M':Int} {ins:List Int} {ls:List I5} (h:Bj n M ins ls) (hm:M≤M'):Bj n M' ins ls:=⟨h.ins,fun x hx=>by obtain⟨h1,h2,h3,h4,h5,h6⟩:=h.ws x hx;exact⟨h1,h2,h3,h4,h5,afy h6 hm⟩⟩
theorem Bj.put {n:Nat} {M:Int} {ins:List Int} {ls:List I5} (h:Bj n M ins ls) {u v x mid:Int} (hx:x≤M):Bj n M ins (jJ n ins ls u v x mid):=by
  unfold jJ
  split
  · exact h
  · rename_i hn
    have hu:fS n ins u:=aeO fun h=>hn (.inl h)
    have hv:fS n ins v:=aeO fun h=>hn (.inr (.inl h))
    have hw:¬x<0:=fun h=>hn (.inr (.inr (.inr (.inl h))))
    refine⟨h.ins,fun y hy=>?_⟩
    rcases adn.1 hy with h1|h1
    · exact h.ws y (adP.1 h1).1
    · rw [adh] at h1; subst h1
      exact⟨hu.1,hu.2.1,hv.1,hv.2.1,by show 0≤x;omega,hx⟩
theorem tD (n:Nat) (ins:List Int) (ls:List I5) (u v x mid:Int):(jJ n ins ls u v x mid).length≤ls.length+1:=by
  unfold jJ
  split
  · omega
  · rw [acB]
    have:(Dj ls u v).length≤ls.length:=aeK _ _
    simp;exact this
theorem o7.le {n:Nat} {M:Int} {ins:List Int} {ls:List I5} {v:Int} {s:I5} (hs:o7 n ls v s) (h:Bj n M ins ls):s.2.2.1≤2*M:=by
  obtain⟨x,y,hx,hy,e⟩:=hs.T0
  have h1:=(h.ws _ (dS hx)).2.2.2.2.2
  have h2:=(h.ws _ (dS hy)).2.2.2.2.2
  rw[e]
  have S5:x.1≤M:=h1
  have Wm:y.1≤M:=h2
  omega
theorem B1 {n:Nat} {M:Int} {ins:List Int} {out:List I5}:∀{ls:List I5},Bj n M ins ls→(∀s∈out,s.2.2.1≤M)→Bj n M ins (bf n ins ls out):=by
  induction out with
  |nil=>intro ls h _;exact h
  |cons s r ih=>
    intro ls h hs
    exact ih (h.put (hs s (adV ..))) fun t ht=>hs t (adG _ ht)
theorem B2 (n:Nat) (ins:List Int) (out:List I5):∀(ls:List I5),(bf n ins ls out).length≤ls.length+out.length:=by
  induction out with
  |nil=>intro ls;exact ac8 _
  |cons s r ih=>
    intro ls
    have h1:=ih (jJ n ins ls s.1 s.2.1 s.2.2.1 s.2.2.2.1)
    have h2:=tD n ins ls s.1 s.2.1 s.2.2.1 s.2.2.2.1
    show(bf n ins (jJ n ins ls s.1 s.2.1 s.2.2.1 s.2.2.2.1) r).length≤_
    rw[acK];omega
theorem He {n:Nat} {ins:List Int} (hl:ins.length=n) (h:0<vC ins):∃x,fS n ins x:=by
  unfold vC at h
  obtain⟨y,hy⟩:=List.exists_mem_of_length_pos h
  have h1:=adP.1 hy
  obtain⟨i,hi⟩:=ade h1.1
  have cD:=(acF.1 hi).1
  have e:y=1:=by simpa using h1.2
  subst e
  exact⟨(i:Int),adY _,by omega,by rw[aek];exact hi⟩
theorem Hc {ins:List Int} {i:Nat} (h:ins[i]?=some 1):vC (ins.set i 0)+1=vC ins:=by
  obtain⟨p,q,rfl,hp,yk⟩:=nU h
  rw[yk]
  unfold vC
  rw[aey,aey,aej,aej,if_neg (by decide),if_pos (by decide)]
  simp;omega
theorem Ef {n:Nat} {M:Int} {ins:List Int} {ls:List I5} (h:Bj n M ins ls) (v:Int):Bj n M (ins.set v.toNat 0) (wu ls v):=⟨by rw[adO];exact h.ins,fun x hx=>h.ws x (adP.1 hx).1⟩
theorem Eg (ls:List I5) (v:Int):(wu ls v).length≤ls.length:=aeK _ _
theorem Tk.no {n:Nat} {ins:List Int} {v:Int} (h:Tk n ins v) (h2:fS n ins v):False:=by
  have h1:=h.2.2
  rw[h2.2.2]at h1
  cases h1
theorem Tk.rep {n:Nat} {v:Int} (h:Tk n (ac3 n 1) v):False:=by
  have h1:=h.2.2
  have h2:=h.2.1
  have h3:=h.1
  rw[aeB,if_pos (by omega)]at h1
  cases h1
theorem Ad {n:Nat} {v:Int} (h0:0≤v) (h1:v<n):fS n (ac3 n 1) v:=⟨h0,h1,by rw[aeB,if_pos (by omega)]⟩
theorem z9 {l:List I3} {ks:List Int} {n:Nat} {x:I5} (h:x∈x9 l ks n):∃(v k:Nat) (a:I3),v<n∧l[k]?=some a∧ks[k]?=some 1∧a.1=(v:Int)∧x=((v:Int),a.2.1,a.2.2,-1,(k:Int)):=by
  unfold x9 at h
  obtain⟨v,hv,h2⟩:=agb.1 h
  obtain⟨e,he,rfl⟩:=adg.1 h2
  obtain⟨k,a,_,ha,hk,Pa,rfl⟩:=DC he
  exact⟨v,k,a,adU.1 hv,ha,hk,Pa,rfl⟩
theorem tX {l:List I3} {k:Nat} (h:(kept l)[k]?=some 1):jZ l k:=by
  unfold kept at h
  rw[adI]at h
  cases hq:(adC l.length)[k]? with
  |none=>rw[hq]at h;cases h
  |some q=>
    rw[hq]at h
    have yl:q=k:=by
      have:=acF.1 hq
      obtain⟨h1,h2⟩:=this
      rw[afP]at h2;exact h2.symm
    subst yl
    simp only[aeF,aeC]at h
    by_cases hc:jZ l q
    · exact hc
    · rw[if_neg hc]at h;cases h
theorem Nx {l:List I3} {v:Int} (k:Nat):(FV l (kept l) v k).Pairwise fun e f=>e.1≠f.1:=by
  induction k with
  |zero=>exact aeR
  |succ k ih=>
    rw[lA,aez]
    refine⟨ih,?_,fun e he f hf=>?_⟩
    · unfold jB
      split
      · split
        · exact afW _ _
        · exact aeR
      · exact aeR
    · obtain ⟨i, a, hi, ha, hk, Pa, rfl⟩ := DC he
      have X9:f∈FV l (kept l) v (k+1):=by rw[lA];exact aeo _ hf
      unfold jB at hf
      split at hf
      · rename_i b hb
        split at hf
        · rename_i hc
          rw[adh]at hf
          subst hf
          intro e
          have:=C5 (tX hk) (tX hc.1) ha hb (by rw[Pa,hc.2]) e
          omega
        · cases hf
      · cases hf
theorem KX (l:List I3) (n:Nat):(x9 l (kept l) n).Pairwise ix:=by
  induction n with
  |zero=>exact aeR
  |succ n ih=>
    rw[wS,aez]
    refine⟨ih,?_,fun x hx y hy=>?_⟩
    · rw [aeD]
      exact(Nx l.length).imp fun{a b} h hh=>h hh.2
    · obtain ⟨v, k, a, hv, _, _, _, rfl⟩ := z9 hx
      obtain⟨e,he,rfl⟩:=adg.1 hy
      rintro⟨h1,_⟩
      have:(v:Int)=(n:Int):=h1
      omega
theorem KM {ls W4:List I5} (h:ls.Perm W4) (hp:W4.Pairwise ix):ls.Pairwise ix:=(h.pairwise_iff fun{x y} Mk Xa=>Mk ⟨Xa.1.symm,Xa.2.symm⟩).2 hp
theorem zh.start {n:Nat} {l:List I3} {rk:List Int} {ls:List I5} {ks:List Int} (hl:∀a∈l,EJ n a) (Vj:ks=kept l) (hp:ls.Perm (x9 l ks n)) (hr:rk=ac3 n 0):zh n l 0 rk [] (ac3 n 1) ls:=by
  subst Vj
  have hm:∀x∈ls,∃(v k:Nat) (a:I3),v<n∧l[k]?=some a∧jZ l k∧a.1=(v:Int)∧x=((v:Int),a.2.1,a.2.2,-1,(k:Int)):=fun x hx=>by
    obtain⟨v,k,a,h1,h2,h3,h4,h5⟩:=z9 (hp.mem_iff.1 hx)
    exact⟨v,k,a,h1,h2,tX h3,h4,h5⟩
  refine⟨⟨adb,fun x hx=>?_⟩,by rw[hr,adb],?_,fun x hx=>absurd hx ac0,ac8 _,fun x hx=>by rw[hr]at hx;rw[afa hx];omega,
    fun x hx=>.inr (afa hx),fun x hx=>?_,KM hp (KX l n),fun x hx=>?_,fun x hx=>absurd hx ac0,aeR,fun x hx=>absurd hx ac0,fun k hk=>absurd hk (ago _),fun v hv=>hv.rep.elim⟩
  · obtain ⟨v, k, a, Xc, ha, _, _, rfl⟩ := hm x hx
    obtain⟨h3,h4,h5,h6,h7,h8⟩:=hl a (acC ha)
    exact⟨adY v,by show(v:Int)<n;omega,h5,h6,h7,by show a.2.2≤iU 0;exact afy h8 (by decide)⟩
  · unfold vC
    rw[List.filter_eq_self.2 fun x hx=>by rw[afa hx];decide,adb];omega
  · obtain ⟨v, k, a, Xc, ha, hc, Pa, rfl⟩ := hm x hx
    obtain⟨h3,h4,h5,h6,h7,h8⟩:=hl a (acC ha)
    obtain⟨a',Fj,dX,_⟩:=hc
    rw[ha]at Fj
    cases Fj
    exact⟨Ad (adY v) (by show(v:Int)<n;omega),Ad h5 h6,by show(v:Int)≠a.2.1;rw[←Pa];exact dX⟩
  · obtain ⟨v, k, a, Xc, ha, hc, Pa, rfl⟩ := hm x hx
    exact .inl ⟨rfl,adY k,by show l[((k:Nat):Int).toNat]?=some ((v:Int),a.2.1,a.2.2);rw[aek,ha,←Pa]⟩
theorem zh.left {n:Nat} {l:List I3} {r:Nat} {rk ins:List Int} {ways ls:List I5} (h:zh n l r rk ways ins ls) (hr:r<n):∃x,fS n ins x:=He h.tok.ins (by have:=h.JS;omega)
theorem Hj {n:Nat} {M:Int} {ins:List Int} {ls:List I5} (h:Bj n M ins ls) {v:Int} {x:I5} (hx:x∈(cw ls v n).map (sT ls v)∨x∈(df ls v n).map (J0 ls v)):0≤x.1∧x.1<n∧0≤x.2.1∧x.2.1<n∧0≤x.2.2.1∧x.2.2.1≤M:=by
  rcases hx with hx|hx
  · obtain ⟨a, ha, rfl⟩ := adg.1 hx
    obtain⟨y,hy⟩:=(pG ha).2.2.some
    unfold sT
    rw[hy]
    exact h.ws _ (dS hy)
  · obtain ⟨a, ha, rfl⟩ := adg.1 hx
    obtain⟨y,hy⟩:=(sG ha).2.2.some
    unfold J0
    rw[hy]
    exact h.ws _ (dS hy)
theorem Em (n:Nat) (ls:List I5) (v:Int) (ways:List I5):(rj n ls v ways).length≤ways.length+2*n:=by
  have h1:(cw ls v n).length≤n:=dZ _ n
  have h2:(df ls v n).length≤n:=dZ _ n
  unfold rj
  simp only[acB,ada];omega
theorem Hk {n:Nat} {ins:List Int} {ls:List I5} {u v w mid:Int} {x:I5} (h:x∈jJ n ins ls u v w mid):x∈ls∨(x=(u,v,w,mid,-1)∧fS n ins u∧fS n ins v∧u≠v):=by
  unfold jJ at h
  split at h
  · exact .inl h
  · rename_i hn
    rcases adn.1 h with h1|h1
    · exact .inl (adP.1 h1).1
    · rw [adh] at h1
      exact .inr ⟨h1,aeO fun h=>hn (.inl h),aeO fun h=>hn (.inr (.inl h)),fun h=>hn (.inr (.inr (.inl h)))⟩
theorem ED {n:Nat} {ins:List Int} {ls:List I5} {u v w mid:Int} {x:I5} (h:x∈ls) (dX:¬(x.1=u∧x.2.1=v)):x∈jJ n ins ls u v w mid:=by
  unfold jJ
  split
  · exact h
  · refine adX _ (adP.2 ⟨h, ?_⟩)
    simp only[decide_eq_true_eq]
    by_cases h1:x.1=u
    · exact .inr fun h2=>dX ⟨h1,h2⟩
    · exact .inl h1
theorem KN {n:Nat} {ins:List Int} {ls:List I5} {u v w mid:Int} (h:ls.Pairwise ix):(jJ n ins ls u v w mid).Pairwise ix:=by
  unfold jJ
  split
  · exact h
  · rw [aez]
    refine⟨h.filter _,afW _ _,fun x hx y hy=>?_⟩
    rw[adh]at hy
    subst hy
    have:=(adP.1 hx).2
    simp only[decide_eq_true_eq]at this
    rintro⟨h1,h2⟩
    rcases this with h3|h3
    · exact h3 h1
    · exact h3 h2
def Tj (s:I5):I5:=(s.1,s.2.1,s.2.2.1,s.2.2.2.1,-1)
theorem B3 {n:Nat} {ins:List Int} {v:Int} {out:List I5}:∀{ls:List I5},(∀s∈out,s.1≠v∧s.2.1≠v)→ls.Pairwise ix→
    (∀x∈bf n ins ls out,x∈ls∨∃s∈out,x=Tj s∧fS n ins s.1∧fS n ins s.2.1∧s.1≠s.2.1)∧(∀x∈ls,x.1=v∨x.2.1=v→x∈bf n ins ls out)∧(bf n ins ls out).Pairwise ix:=by
  induction out with
  |nil=>intro ls _ hp;exact⟨fun x hx=>.inl hx,fun x hx _=>hx,hp⟩
  |cons s r ih=>
    intro ls hs hp
    obtain⟨h1,h2,h3⟩:=ih (ls:=jJ n ins ls s.1 s.2.1 s.2.2.1 s.2.2.2.1) (fun t ht=>hs t (adG _ ht)) (KN hp)
    have y8:=hs s (adV ..)
    refine⟨fun x hx=>?_,fun x hx hv=>?_,h3⟩
    · rcases h1 x hx with h | ⟨t, ht, h⟩
      · rcases Hk h with h | ⟨h, g1, g2, g3⟩
        · exact .inl h
        · exact .inr ⟨s,adV ..,h,g1,g2,g3⟩
      · exact .inr ⟨t,adG _ ht,h⟩
    · refine h2 x (ED hx ?_) hv
      rintro⟨e1,e2⟩
      rcases hv with h|h
      · exact y8.1 (e1.symm.trans h)
      · exact y8.2 (e2.symm.trans h)
theorem QR {ls:List I5} (hp:ls.Pairwise ix) {x y:I5} (hx:x∈ls) (hy:y∈ls) (dX:x≠y):ix x y:=by
  induction ls with
  |nil=>cases hx
  |cons a r ih=>
    rw[List.pairwise_cons]at hp
    rcases ac6.1 hx with rfl|Xb<;>rcases ac6.1 hy with rfl|TA
    · exact absurd rfl dX
    · exact hp.1 y TA
    · exact fun h=>hp.1 x Xb ⟨h.1.symm,h.2.symm⟩
    · exact ih hp.2 Xb TA
theorem Gk {ls:List I5} (hp:ls.Pairwise ix) {x:I5} (h:x∈ls):bF ls x.1 x.2.1=some x.2.2:=by
  cases hw:bF ls x.1 x.2.1 with
  |none=>
    unfold bF at hw
    rw[Option.map_eq_none_iff,agM]at hw
    have:=hw x h
    simp at this
  |some y=>
    have hm:=dS hw
    by_cases e:(x.1,x.2.1,y)=x
    · rw[←e]
    · exfalso
      exact(QR hp hm h e) ⟨rfl,rfl⟩
theorem GM {n:Nat} {ins:List Int} {v e:Int} (h:fS n ins e) (dX:e≠v) (hv:0≤v):fS n (ins.set v.toNat 0) e:=⟨h.1,h.2.1,by rw[adp,if_neg (by have:=h.1;omega)];exact h.2.2⟩
theorem Nw {n:Nat} {ins:List Int} {v e:Int} (h:Tk n ins e) (hv:fS n ins v):Tk n (ins.set v.toNat 0) e:=by
  refine⟨h.1,h.2.1,?_⟩
  rw[adp]
  split
  · rw[if_pos (by have:=(acF.1 hv.2.2).1;exact this)]
  · exact h.2.2
theorem pr {n:Nat} {ins:List Int} {v:Int} (hv:fS n ins v):Tk n (ins.set v.toNat 0) v:=⟨hv.1,hv.2.1,by rw[adp,if_pos rfl,if_pos (acF.1 hv.2.2).1]⟩
theorem Gt {n:Nat} {ins:List Int} {v e:Int} (h:Tk n (ins.set v.toNat 0) e) (hv:0≤v) (dX:e≠v):Tk n ins e:=by
  refine⟨h.1,h.2.1,?_⟩
  have:=h.2.2
  rw[adp,if_neg (by have:=h.1;omega)]at this
  exact this
theorem Rt.mono {n:Nat} {l:List I3} {ins Q7:List Int} {ways L3:List I5} {x:I5} (h:Rt n l ins ways x) (ht:∀v,Tk n ins v→Tk n Q7 v) (hw:∀y∈ways,y∈L3):Rt n l Q7 L3 x:=by
  rcases h with h|⟨h1,h2,a,b,ha,hb,h3⟩
  · exact .inl h
  · exact .inr ⟨ht _ h1,h2,a,b,hw a ha,hw b hb,h3⟩
theorem tN {n:Nat} {ins:List Int} {ls:List I5} {v:Int} {x:I5} (h:x∈(cw ls v n).map (sT ls v)++(df ls v n).map (J0 ls v)):x∈ls∧(x.1=v∨x.2.1=v):=by
  rcases adn.1 h with h|h
  · obtain ⟨a, ha, rfl⟩ := adg.1 h
    obtain⟨y,hy⟩:=(pG ha).2.2.some
    have hm:=dS hy
    unfold sT
    rw[hy]
    exact⟨hm,.inl rfl⟩
  · obtain ⟨a, ha, rfl⟩ := adg.1 h
    obtain⟨y,hy⟩:=(sG ha).2.2.some
    have hm:=dS hy
    unfold J0
    rw[hy]
    exact⟨hm,.inr rfl⟩
theorem G5 {ls:List I5} {v x:Int} {k:Nat} (h0:0≤x) (h1:x<k) (h:cO ls v x):x∈cw ls v k:=by
  unfold cw
  refine adg.2 ⟨x.toNat,adP.2 ⟨adU.2 (by omega),?_⟩,aeu h0⟩
  simp only[decide_eq_true_eq]
  rw[aeu h0];exact h
theorem Le {ls:List I5} {v x:Int} {k:Nat} (h0:0≤x) (h1:x<k) (h:cO ls x v):x∈df ls v k:=by
  unfold df
  refine adg.2 ⟨x.toNat,adP.2 ⟨adU.2 (by omega),?_⟩,aeu h0⟩
  simp only[decide_eq_true_eq]
  rw[aeu h0];exact h
theorem Hh {n:Nat} {M:Int} {ins:List Int} {ls:List I5} {v:Int} {x:I5} (ht:Bj n M ins ls) (hp:ls.Pairwise ix) (hx:x∈ls) (hv:x.1=v∨x.2.1=v):x∈(cw ls v n).map (sT ls v)++(df ls v n).map (J0 ls v):=by
  have hw:=Gk hp hx
  obtain⟨h1,h2,h3,h4,_,_⟩:=ht.ws x hx
  rcases hv with rfl|rfl
  · refine adX _ (adg.2 ⟨x.2.1, G5 h3 h4 (by unfold cO; rw [hw]; rfl), ?_⟩)
    unfold sT;rw[hw];rfl
  · refine aeo _ (adg.2 ⟨x.1, Le h1 h2 (by unfold cO; rw [hw]; rfl), ?_⟩)
    unfold J0;rw[hw];rfl
theorem KW {n:Nat} {ls:List I5} {v:Int} (dX:∀x∈ls,x.1≠x.2.1):((cw ls v n).map (sT ls v)++(df ls v n).map (J0 ls v)).Pairwise ix:=by
  have r1:(cw ls v n).Pairwise fun e f=>e<f:=by
    unfold cw
    rw[aeD]
    exact(afo.filter _).imp fun{a b} h=>by show(a:Int)<(b:Int);omega
  have r2:(df ls v n).Pairwise fun e f=>e<f:=by
    unfold df
    rw[aeD]
    exact(afo.filter _).imp fun{a b} h=>by show(a:Int)<(b:Int);omega
  rw[aez]
  refine⟨?_,?_,fun x hx y hy=>?_⟩
  · rw [aeD]
    exact r1.imp fun{a b} h hh=>by have:a=b:=hh.2;omega
  · rw [aeD]
    exact r2.imp fun{a b} h hh=>by have:a=b:=hh.1;omega
  · obtain ⟨a, ha, rfl⟩ := adg.1 hx
    obtain⟨b,hb,rfl⟩:=adg.1 hy
    rintro⟨h1,h2⟩
    have S5:v=b:=h1
    have Wm:a=v:=h2
    obtain⟨y,TA⟩:=(sG hb).2.2.some
    exact dX _ (dS TA) S5.symm
theorem zh.step {n:Nat} {l:List I3} {r:Nat} {rk ins:List Int} {ways ls out:List I5} {v:Int} (h:zh n l r rk ways ins ls) (hr:r<n) (hn:n≤12) (hv:fS n ins v) (ho:∀s∈out,o7 n ls v s):
    zh n l (r+1) (rk.set v.toNat r) (rj n (bf n ins ls out) v ways) (ins.set v.toNat 0) (wu (bf n ins ls out) v):=by
  have ht:Bj n (iU (r+1)) ins (bf n ins ls out):=B1 (h.tok.more (qp (by omega))) fun s hs=>by rw[qo];exact(ho s hs).le h.tok
  have u5:=hv.1
  have U0:∀s∈out,s.1≠v∧s.2.1≠v:=fun s hs=>by
    obtain⟨x,y,hx,hy,_⟩:=(ho s hs).T0
    exact⟨(h.Uc _ (dS hx)).2.2,fun e=>(h.Uc _ (dS hy)).2.2 e.symm⟩
  obtain⟨Wf,YB,YA⟩:=B3 (n:=n) (ins:=ins) U0 h.Zq
  generalize Mw:bf n ins ls out=qi at*
  have Ic:∀x∈qi,fS n ins x.1∧fS n ins x.2.1∧x.1≠x.2.1:=fun x hx=>by
    rcases Wf x hx with h1|⟨s,hs,rfl,g1,g2,g3⟩
    · exact h.Uc x h1
    · exact⟨g1,g2,g3⟩
  have hold:∀x∈qi,x.1=v∨x.2.1=v→x∈ls:=fun x hx Ra=>by
    rcases Wf x hx with h1|⟨s,hs,rfl,_⟩
    · exact h1
    · exact absurd Ra (by rintro(e|e);exact(U0 s hs).1 e;exact(U0 s hs).2 e)
  have fx:rj n qi v ways=ways++((cw qi v n).map (sT qi v)++(df qi v n).map (J0 qi v)):=by unfold rj;rw[adB]
  have Ag:∀y∈ways,y∈rj n qi v ways:=fun y hy=>by rw[fx];exact adX _ hy
  have Lk:∀x∈qi,x.1=v∨x.2.1=v→x∈rj n qi v ways:=fun x hx Ra=>by rw[fx];exact aeo _ (Hh ht YA hx Ra)
  have J8:∀u,Tk n ins u→Tk n (ins.set v.toNat 0) u:=fun u hu=>Nw hu hv
  have Aj:v.toNat<rk.length:=by rw[h.zO];have:=hv.2.1;omega
  have UL:(rk.set v.toNat (r:Int))[v.toNat]?=some (r:Int):=by rw[adp,if_pos rfl,if_pos Aj]
  have Og:∀u,0≤u→u≠v→(rk.set v.toNat (r:Int))[u.toNat]?=rk[u.toNat]?:=fun u h0 dX=>by rw[adp,if_neg (by omega)]
  have Qi:∀m e,Tk n ins m→(Tk n ins e→∃p q,rk[m.toNat]?=some p∧rk[e.toNat]?=some q∧p<q)→Rk n (rk.set v.toNat (r:Int)) (ins.set v.toNat 0) m e:=fun m e hm hme Qg=>by
    have XR:m≠v:=fun e=>(hm.no (e▸hv)).elim
    by_cases Fe:e=v
    · subst Fe
      obtain⟨q,hq,_,Ay⟩:=h.W2 m hm
      exact⟨q,(r:Int),by rw[Og m hm.1 XR];exact hq,UL,Ay⟩
    · obtain ⟨p, q, h1, h2, h3⟩ := hme (Gt Qg u5 Fe)
      exact⟨p,q,by rw[Og m hm.1 XR];exact h1,by rw[Og e Qg.1 Fe];exact h2,h3⟩
  refine⟨Ef ht v,by rw[adO];exact h.zO,by have:=Hc hv.2.2;have:=h.JS;omega,fun x hx=>?_,by have:=Em n qi v ways;have:=h.QB;omega,fun x hx=>?_,fun x hx=>?_,fun x hx=>?_,YA.filter _,fun x hx=>?_,fun x hx=>?_,?_,fun x hx=>?_,fun k hk=>?_,fun u hu=>?_⟩
  · rw [fx] at hx
    rcases adn.1 hx with h1|h1
    · exact h.ws x h1
    · obtain ⟨h1, h2, h3, h4, h5, h6⟩ := Hj ht (adn.1 h1)
      exact⟨h1,h2,h3,h4,h5,afy h6 (qp (by omega))⟩
  · rcases agY hx with h1 | h1
    · exact h.Tx x h1
    · subst h1;omega
  · rcases agY hx with h1 | h1
    · exact h.bit x h1
    · exact .inl h1
  · obtain ⟨h1, h2⟩ := adP.1 hx
    simp only[decide_eq_true_eq]at h2
    obtain⟨g1,g2,g3⟩:=Ic x h1
    exact⟨GM g1 h2.1 u5,GM g2 h2.2 u5,g3⟩
  · obtain ⟨h1, h2⟩ := adP.1 hx
    rcases Wf x h1 with h3|⟨s,hs,rfl,_⟩
    · exact(h.W5 x h3).mono J8 Ag
    · have hN := ho s hs
      obtain⟨a,b,ha,hb,e⟩:=hN.T0
      refine .inr ⟨by show Tk n _ s.2.2.2.1;rw[hN.ends.2.1];exact pr hv,rfl,_,_,Lk _ (YB _ (dS ha) (.inr rfl)) (.inr rfl),Lk _ (YB _ (dS hb) (.inl rfl)) (.inl rfl),rfl,hN.ends.2.1.symm,hN.ends.2.1.symm,rfl,?_⟩
      exact e.symm
  · rw [fx] at hx
    rcases adn.1 hx with h1|h1
    · obtain ⟨g1, g2⟩ := h.TZ x h1
      exact⟨g1,g2.imp (J8 _) (J8 _)⟩
    · obtain ⟨g1, g2⟩ := tN (ins := ins) h1
      exact⟨(Ic x g1).2.2,g2.imp (fun e=>by rw[e];exact pr hv) (fun e=>by rw[e];exact pr hv)⟩
  · rw [fx, aez]
    refine⟨h.Tr,KW fun x hx=>(Ic x hx).2.2,fun x hx y hy=>?_⟩
    obtain⟨g1,_⟩:=tN (ins:=ins) hy
    obtain⟨k1,k2,_⟩:=Ic y g1
    rintro⟨e1,e2⟩
    rcases(h.TZ x hx).2 with h2|h2
    · rw[e1]at h2;exact h2.no k1
    · rw[e2]at h2;exact h2.no k2
  · rw [fx] at hx
    rcases adn.1 hx with h1|h1
    · obtain ⟨g1, g2⟩ := h.TY x h1
      refine⟨g1.mono J8 Ag,fun h0=>?_⟩
      rcases g1 with g|⟨g,_⟩
      · rw[g.1]at h0;omega
      · exact⟨Qi _ _ g (g2 h0).1,Qi _ _ g (g2 h0).2⟩
    · obtain ⟨g1, g2⟩ := tN (ins := ins) h1
      have g3:=h.W5 x (hold x g1 g2)
      obtain⟨k1,k2,_⟩:=Ic x g1
      refine⟨g3.mono J8 Ag,fun h0=>?_⟩
      rcases g3 with g|⟨g,_⟩
      · rw[g.1]at h0;omega
      · exact⟨Qi _ _ g fun Qg=>(Qg.no k1).elim,Qi _ _ g fun Qg=>(Qg.no k2).elim⟩
  · by_cases hkr : k = r
    · subst hkr;exact⟨v,pr hv,UL⟩
    · obtain ⟨u, h1, h2⟩ := h.QO k (by omega)
      exact⟨u,J8 u h1,by rw[Og u h1.1 (fun e=>(h1.no (e▸hv)).elim)];exact h2⟩
  · by_cases UA : u = v
    · subst UA;exact⟨(r:Int),UL,by omega,by omega⟩
    · obtain ⟨q, h1, h2, h3⟩ := h.W2 u (Gt hu u5 UA)
      exact⟨q,by rw[Og u hu.1 UA];exact h1,h2,by omega⟩
end Go.Gr
namespace Go.Gr
open Go.Rl
structure De (n:Nat) (rk:List Int) (ways:List I5):Prop where
  len:rk.length=n
  ws:∀x∈ways,0≤x.1∧x.1<n∧0≤x.2.1∧x.2.1<n∧0≤x.2.2.1∧x.2.2.1≤iU 12
  Tx:∀x∈rk,0≤x∧x<max n 1
theorem zh.ff {n:Nat} {l:List I3} {r:Nat} {rk ins:List Int} {ways ls:List I5} (h:zh n l r rk ways ins ls):De n rk ways:=⟨h.zO,h.ws,h.Tx⟩
theorem nS {d:List Int} {v b:Nat} {x y:Int} (h:d[v]?=some 0) (hb:d[b]?=some y) (hx:0≤x) (hc:y<0∨x<y):(d.set b x)[v]?=some 0:=by
  rw[adp]
  split
  · rename_i e; subst e
    rw[h]at hb;cases hb;omega
  · exact h
def iB (rk d:List Int) (lo hi:Int) (v:Nat):List I2:=match d[v]?,rk[v]? with
  |some x,some q=>if 0≤x∧lo≤q∧q<hi then[((v:Int),x)]else[]
  |_,_=>[]
def rowsOf (rk d:List Int) (lo hi:Int) (k:Nat):List I2:=(adC k).flatMap (iB rk d lo hi)
theorem iN (rk d:List Int) (lo hi:Int) (k:Nat):rowsOf rk d lo hi (k+1)=rowsOf rk d lo hi k++iB rk d lo hi k:=by unfold rowsOf;rw[aeH,afi];simp
theorem oP {rk d:List Int} {lo hi:Int} {v:Nat} {e:I2}:e∈iB rk d lo hi v↔∃x q,d[v]?=some x∧rk[v]?=some q∧0≤x∧lo≤q∧q<hi∧e=((v:Int),x):=by
  unfold iB
  constructor
  · intro h
    split at h
    · split at h
      · rename_i x q h1 h2 h3
        rw[adh]at h
        exact⟨x,q,h1,h2,h3.1,h3.2.1,h3.2.2,h⟩
      · cases h
    · cases h
  · rintro ⟨x, q, h1, h2, h3, h4, h5, rfl⟩
    simp only[h1,h2]
    rw[if_pos ⟨h3,h4,h5⟩]
    exact adh.2 rfl
theorem me {rk d:List Int} {lo hi:Int} {k:Nat} {e:I2}:e∈rowsOf rk d lo hi k↔∃(v:Nat) (x q:Int),v<k∧d[v]?=some x∧rk[v]?=some q∧0≤x∧lo≤q∧q<hi∧e=((v:Int),x):=by
  unfold rowsOf
  rw[agb]
  constructor
  · rintro ⟨v, hv, he⟩
    obtain⟨x,q,h⟩:=oP.1 he
    exact⟨v,x,q,adU.1 hv,h⟩
  · rintro ⟨v, x, q, hv, h⟩
    exact⟨v,adU.2 hv,oP.2 ⟨x,q,h⟩⟩
theorem tz (rk d:List Int) (lo hi:Int) (v:Nat):(iB rk d lo hi v).length≤1:=by
  unfold iB
  split
  · split<;>simp
  · simp
theorem tn (rk d:List Int) (lo hi:Int) (k:Nat):(rowsOf rk d lo hi k).length≤k:=by
  induction k with
  |zero=>exact ac8 _
  |succ k ih=>rw[iN,acB];have:=tz rk d lo hi k;omega
def Bl (n:Nat) (out:List I2):Prop:=∀e∈out,0≤e.1∧e.1<n∧0≤e.2∧e.2≤105553116266496
theorem lh.QF {n:Nat} {d:List Int} (h:lh n (iU 12) d) (hn:n≤12) {x:Int} (hx:x∈d):x≤105553116266496:=by
  have h1:=h.top (gj 12) hx
  have h2:=pg (r:=12) (by omega)
  have h3:(n:Int)*iU 12≤12*iU 12:=aew (by omega) (gj 12)
  omega
theorem Ds {n:Nat} {rk d:List Int} {lo hi:Int} (h:lh n (iU 12) d) (hn:n≤12):Bl n (rowsOf rk d lo hi d.length):=by
  intro e he
  obtain⟨v,x,q,hv,hx,hq,h0,_,_,rfl⟩:=me.1 he
  have hl:=h.len
  exact⟨adY v,by show(v:Int)<n;omega,h0,h.QF hn (acC hx)⟩
theorem Ew {n:Nat} {rk d:List Int} {ways:List I5} {v:Int} (hH:De n rk ways) (hl:d.length=n) (h0:0≤v) (h1:v<n) (hz:d[v.toNat]?=some 0):(v,0)∈rowsOf rk d 0 (rk.length:Int) d.length:=by
  have cD:v.toNat<rk.length:=by rw[hH.len];omega
  have hr:=hH.Tx rk[v.toNat] (ag7 cD)
  refine me.2 ⟨v.toNat,0,rk[v.toNat],by omega,hz,acM cD,by omega,hr.1,by rw[hH.len];omega,?_⟩
  rw[aeu h0]
def gU (a b:List I2) (i q:Nat) (z y:Int):Prop:=∀(i' k':Nat) e f,a[i']?=some e→b[k']?=some f→e.1=f.1→(i'<i∨i'=i∧k'<q)→0≤y∧z≤e.2+f.2
theorem gU.row {a b:List I2} {i q:Nat} {z y:Int} (h:gU a b i q z y) (hq:b.length≤q):gU a b (i+1) 0 z y:=fun i' k' e f he hf Qn cD=>by
  have:=(acF.1 hf).1
  exact h i' k' e f he hf Qn (by omega)
theorem gU.skip {a b:List I2} {i q:Nat} {z y:Int} {p r:I2} (h:gU a b i q z y) (hp:a[i]?=some p) (hr:b[q]?=some r) (hs:p.1=r.1→0≤y∧z≤p.2+r.2):gU a b i (q+1) z y:=fun i' k' e f he hf Qn cD=>by
  by_cases hn:i'=i∧k'=q
  · obtain ⟨rfl, rfl⟩ := hn
    rw[hp]at he;rw[hr]at hf;cases he;cases hf
    exact hs Qn
  · exact h i' k' e f he hf Qn (by omega)
theorem gU.dm {a b:List I2} {i q:Nat} {z y:Int} {p r:I2} (h:gU a b i q z y) (hp:a[i]?=some p) (hr:b[q]?=some r) (h0:0≤p.1) (hc:y<0∨p.2+r.2≤z):gU a b i (q+1) (p.2+r.2) p.1:=fun i' k' e f he hf Qn cD=>by
  by_cases hn:i'=i∧k'=q
  · obtain ⟨rfl, rfl⟩ := hn
    rw[hp]at he;rw[hr]at hf;cases he;cases hf
    exact⟨h0,ahw _⟩
  · have := h i' k' e f he hf Qn (by omega)
    exact⟨h0,by omega⟩
theorem meet_self {n:Nat} {a b:List I2} {i:Nat} {z y v:Int} (h:gU a b i 0 z y) (hi:a.length≤i) (hz:(y= -1∧z= -1)∨(0≤y∧0≤z∧z≤211106232532992)) (h1:(v,(0:Int))∈a) (h2:(v,(0:Int))∈b):z=0:=by
  obtain⟨i',Ka⟩:=ade h1
  obtain⟨k',iZ⟩:=ade h2
  have:=(acF.1 Ka).1
  have hh:=h i' k' _ _ Ka iZ rfl (by omega)
  have h3:z≤(0:Int)+0:=hh.2
  have:=hh.1
  omega
theorem ET {ts acc:List Int} {i:Nat} {s p z:Int} (im:acc.length=i) (h:∀j,j<i→ts[j]?=some s→acc[j]?=some 0) (hp:ts[i]?=some p) (hz:s=p→z=0):∀j,j<i+1→ts[j]?=some s→(acc++[z])[j]?=some 0:=by
  intro j hj hs
  rcases adi j i with h1|h1
  · rw[adu (by omega)];exact h j h1 hs
  · have e : j = i := by omega
    subst e
    rw[hp]at hs
    rw[ads (by omega),im,Nat.sub_self,hz (ac7 hs).symm];rfl
end Go.Gr
namespace Go.Gr
open Go.Rl
def cA (n k:Int):Int:=n-max 0 (min k n)
def o8 (rk:List Int) (lo:Int) (v:Nat):Prop:=∃q,rk[v]?=some q∧lo≤q
def D6 (rk d:List Int) (lo:Int) (v:Nat):Prop:=(∃x,d[v]?=some x∧0≤x)∧∃q,rk[v]?=some q∧q<lo
noncomputable instance (rk:List Int) (lo:Int) (v:Nat):Decidable (o8 rk lo v):=adv _
noncomputable instance (rk d:List Int) (lo:Int) (v:Nat):Decidable (D6 rk d lo v):=adv _
noncomputable def b8 (rk:List Int) (lo:Int) (k:Nat):List Int:=((adC k).filter fun v:Nat=>decide (o8 rk lo v)).map afl
noncomputable def tT (rk d:List Int) (lo:Int) (k:Nat):List Int:=((adC k).filter fun v:Nat=>decide (D6 rk d lo v)).map afl
structure iz (n:Nat) (rk:List Int) (lo:Int) (out:List I2):Prop where
  ok:Bl n out
  high:∀e∈out,o8 rk lo e.1.toNat
  KJ:out.Pairwise fun e f=>e.1<f.1
structure mC (n:Nat) (rk:List Int) (lo:Int) (out:List Int):Prop where
  ok:∀x∈out,0≤x∧x<n
  low:∀x∈out,¬o8 rk lo x.toNat
  KJ:out.Pairwise fun e f=>e<f
theorem iz.sub {n:Nat} {rk:List Int} {lo:Int} {out EG:List I2} (h:iz n rk lo out) (hs:EG.Sublist out):iz n rk lo EG:=⟨fun e he=>h.ok e (hs.subset he),fun e he=>h.high e (hs.subset he),h.KJ.sublist hs⟩
theorem zF (rk d:List Int) (lo hi:Int) (k:Nat):(rowsOf rk d lo hi k).Pairwise fun e f=>e.1<f.1:=by
  induction k with
  |zero=>exact aeR
  |succ k ih=>
    rw[iN,aez]
    refine⟨ih,?_,fun e he f hf=>?_⟩
    · have h1 := tz rk d lo hi k
      match hq:iB rk d lo hi k,h1 with
      |[],_=>exact aeR
      |[x],_=>exact afW _ _
    · obtain ⟨v, x, q, hv, _, _, _, _, _, rfl⟩ := me.1 he
      obtain⟨x2,q2,_,_,_,_,_,rfl⟩:=oP.1 hf
      show(v:Int)<(k:Int)
      omega
theorem GW {n:Nat} {rk d:List Int} {lo hi:Int} (h:lh n (iU 12) d) (hn:n≤12):iz n rk lo (rowsOf rk d lo hi d.length):=by
  refine⟨Ds h hn,fun e he=>?_,zF ..⟩
  obtain⟨v,x,q,hv,hx,hq,h0,h1,_,rfl⟩:=me.1 he
  exact⟨q,hq,h1⟩
theorem kU (p:Nat→Bool) (k:Nat):(((adC k).filter p).map afl).Pairwise fun e f=>e<f:=by
  rw[aeD]
  exact(afo.filter _).imp fun{a b} h=>by show(a:Int)<(b:Int);omega
theorem EY {n:Nat} {rk d:List Int} {lo:Int}:mC n rk lo (tT rk d lo n):=by
  refine⟨fun x hx=>?_,fun x hx=>?_,kU ..⟩
  · obtain ⟨y, hy, rfl⟩ := adg.1 hx
    have:=adU.1 (adP.1 hy).1
    exact⟨adY y,by show(y:Int)<n;omega⟩
  · obtain ⟨y, hy, rfl⟩ := adg.1 hx
    have h1:D6 rk d lo y:=of_decide_eq_true (adP.1 hy).2
    obtain⟨_,q,hq,UP⟩:=h1
    rintro⟨q2,Ay,h2⟩
    have e:(afl y).toNat=y:=rfl
    rw[e,hq]at Ay
    cases Ay;omega
theorem Gz {α:Type} {acc l:List α} {i:Nat} {a:α} (h:acc.Sublist (l.take i)) (ha:l[i]?=some a):acc.Sublist (l.take (i+1)):=by rw[dJ ha];exact h.trans (List.sublist_append_left ..)
theorem Gy {α:Type} {acc l:List α} {i:Nat} {a:α} (h:acc.Sublist (l.take i)) (ha:l[i]?=some a):(acc++[a]).Sublist (l.take (i+1)):=by rw[dJ ha];exact h.append (aiK _)
def qd (ss ts:List Int) (ls:List (List Int)):Prop:=(∀row∈ls,row.length=ts.length∧∀z∈row,-1≤z∧z≤211106232532992)∧∀(i:Nat) s row,ss[i]?=some s→ls[i]?=some row→∀j:Nat,ts[j]?=some s→row[j]?=some 0
theorem qd.nil (ss ts:List Int):qd ss ts []:=⟨fun row h=>absurd h ac0,fun i s row _ h=>by simp at h⟩
theorem qd.snoc {ss ts:List Int} {ls:List (List Int)} {s:Int} {row:List Int} (h:qd ss ts ls) (hs:ss[ls.length]?=some s) (hl:row.length=ts.length) (hz:∀z∈row,-1≤z∧z≤211106232532992) (h0:∀j:Nat,ts[j]?=some s→row[j]?=some 0):qd ss ts (ls++[row]):=by
  refine⟨fun r hr=>?_,fun i s' r hi hr=>?_⟩
  · rcases adn.1 hr with h1 | h1
    · exact h.1 r h1
    · rw[adh]at h1;subst h1;exact⟨hl,hz⟩
  · rcases adi i ls.length with h1 | h1
    · rw[adu h1]at hr;exact h.2 i s' r hi hr
    · rw [ads h1] at hr
      have e:i=ls.length:=by
        rcases aex (i-ls.length)with e|e
        · omega
        · rw[aea (by simp;omega)]at hr;cases hr
      subst e
      rw[Nat.sub_self]at hr
      cases hr
      rw[hs]at hi;cases hi
      exact h0
theorem nu {rk:List Int} {lo x:Int} {k:Nat} (h:x∈b8 rk lo k):0≤x∧x<k∧o8 rk lo x.toNat:=by
  unfold b8 at h
  obtain⟨y,hy,rfl⟩:=adg.1 h
  have h1:=adP.1 hy
  exact⟨adY y,by have:=adU.1 h1.1;show(y:Int)<k;omega,of_decide_eq_true h1.2⟩
structure mB (n:Nat) (rk:List Int) (lo:Int) (g:List Int) (far:List (List Int)) (outs ins:List (List I2)) (so si:List (List Int)):Prop where
  DF:g=b8 rk lo n
  HC:qd g g far
  C1:far.length=g.length
  HB:∀r∈outs,iz n rk lo r∧r.length≤n
  Mj:∀r∈ins,iz n rk lo r∧r.length≤n
  Q5:∀r∈so,mC n rk lo r∧r.length≤n
  Q6:∀r∈si,mC n rk lo r∧r.length≤n
  lens:outs.length=n∧ins.length=n∧so.length=n∧si.length=n
theorem qc {α:Type} {P:α→Prop} {l:List α} {a:α} (h:∀r∈l,P r) (ha:P a):∀r∈l++[a],P r:=fun r hr=>(adn.1 hr).elim (h r) fun e=>by rw[adh]at e;rw[e];exact ha
end Go.Gr
namespace Go.Gr
open Go.Rl Go.dj Go.jR
theorem DW {β:Type} (f:β→List UInt8) (M:Nat):∀(l:List β),(∀x∈l,(f x).length≤M)→((l.map f).flatten).length≤l.length*M:=by
  intro l
  induction l with
  |nil=>intro _;simp
  |cons a r ih=>
    intro h
    have h1:=h a (adV ..)
    have h2:=ih fun x hx=>h x (adG _ hx)
    simp only[adq,adl,acB,acK,Nat.add_mul];omega
theorem tq {ls:List (List Int)} {M:Nat} (h:∀r∈ls,r.length≤M):(eC ls).flatten.length≤12+ls.length*(4+8*M):=by
  unfold eC
  have:=DW bL (4+8*M) ls fun r hr=>by rw[cr];have:=h r hr;omega
  simp only[adl,acB,cr,acK,acS];omega
theorem wE {ls:List (List I2)} {M:Nat} (h:∀r∈ls,r.length≤M):(fk ls).flatten.length≤12+ls.length*(8+16*M):=by
  unfold fk
  have e:(ls.flatMap gk).flatten=(ls.map fun r=>(gk r).flatten).flatten:=by
    rw[agd,afH,aeI];rfl
  have:=DW (fun r=>(gk r).flatten) (8+16*M) ls fun r hr=>by
    have:=h r hr
    simp only[gk,adl,afI,acB,acS,cr,ada];omega
  simp only[adl,acB,cr,acK,acS,e];omega
theorem pH (n:Int) (ar:List I3):(mh n ar).flatten.length=24+24*ar.length:=by
  simp only[mh,adl,afI,acB,acS,cr,ada,acK];omega
theorem n3 (rk:List Int) (ws:List I5):(jk rk ws).flatten.length=24+8*rk.length+40*ws.length:=by
  simp only[jk,adl,afI,acB,acS,cr,ada];omega
structure Bk (A R K:Nat) (ar:List I3) (rk:List Int) (ws:List I5) (g:List Int) (far:List (List Int)) (outs ins:List (List I2)) (so si:List (List Int)):Prop where
  ar:ar.length≤A
  rk:rk.length≤R
  ws:ws.length≤A
  g:g.length≤K
  far:far.length≤K∧∀r∈far,r.length≤K
  outs:outs.length≤K∧∀r∈outs,r.length≤K
  ins:ins.length≤K∧∀r∈ins,r.length≤K
  so:so.length≤K∧∀r∈so,r.length≤K
  si:si.length≤K∧∀r∈si,r.length≤K
theorem Bk.ES {A R K:Nat} {n:Int} {ar:List I3} {rk:List Int} {ws:List I5} {g:List Int} {far:List (List Int)} {outs ins:List (List I2)} {so si:List (List Int)} (h:Bk A R K ar rk ws g far outs ins so si):
    fO (gT n ar rk ws g far outs ins so si)≤159+24*A+8*R+40*A+8*K+3*(K*(4+8*K))+2*(K*(8+16*K)):=by
  have h1:=tq h.far.2
  have h2:=wE h.outs.2
  have h3:=wE h.ins.2
  have h4:=tq h.so.2
  have h5:=tq h.si.2
  have m1:=ae5 (4+8*K) h.far.1
  have m2:=ae5 (8+16*K) h.outs.1
  have m3:=ae5 (8+16*K) h.ins.1
  have m4:=ae5 (4+8*K) h.so.1
  have m5:=ae5 (4+8*K) h.si.1
  have:=h.ar
  have:=h.rk
  have:=h.ws
  have:=h.g
  have e:fO (gT n ar rk ws g far outs ins so si)=32+(j3 n ar).length+(mh n ar).flatten.length+(jk rk ws).flatten.length+(fN g far outs ins so si).flatten.length:=by
    simp only[gT,fO,adq,aee,af9,ajF];omega
  rw[e,qJ,pH,n3]
  unfold fN
  simp only[adl,aeT,acB,cr]
  omega
theorem mB.size {n:Nat} {l:List I3} {rk:List Int} {ways:List I5} {lo:Int} {far:List (List Int)} {outs ins:List (List I2)} {so si:List (List Int)} {g:List Int} (hl:l.length≤40) (hr:rk.length≤12) (hw:ways.length≤288) (hn:n≤12) (h:mB n rk lo g far outs ins so si):
    Bk 288 12 12 l rk ways g far outs ins so si:=by
  have hg:g.length≤n:=by rw[h.DF];exact dZ _ n
  have hL:=h.lens
  have hf:=h.C1
  exact⟨by omega,hr,hw,by omega,⟨by omega,fun r hr=>by have:=(h.HC.1 r hr).1;omega⟩,⟨by omega,fun r hr=>by have:=(h.HB r hr).2;omega⟩,⟨by omega,fun r hr=>by have:=(h.Mj r hr).2;omega⟩,⟨by omega,fun r hr=>by have:=(h.Q5 r hr).2;omega⟩,⟨by omega,fun r hr=>by have:=(h.Q6 r hr).2;omega⟩⟩
end Go.Gr
namespace Go.Gr
open Go.Rl Go.dj Go.jR
def rf (l:List Int):Prop:=l.length<4294967296∧∀x∈l,Fit x
theorem LO {n:Nat} (h:n<4294967296):rf [(n:Int)]:=⟨adD (ac8 1) (by omega),fun x hx=>by rw[adh]at hx;subst hx;exact⟨by omega,by omega⟩⟩
def Df (ls:List (List Int)):Prop:=ls.length<4294967296∧∀r∈ls,rf r
def xo (r:List I2):Prop:=r.length<4294967296∧∀x∈r,FK x
def Bn (ls:List (List I2)):Prop:=ls.length<4294967296∧∀r∈ls,xo r
theorem xo.one {r:List I2} (h:xo r):rf (r.map fun a=>a.1):=⟨by rw[ada];exact h.1,fun x hx=>by obtain⟨a,ha,rfl⟩:=adg.1 hx;exact(h.2 a ha).1⟩
theorem xo.two {r:List I2} (h:xo r):rf (r.map fun a=>a.2):=⟨by rw[ada];exact h.1,fun x hx=>by obtain⟨a,ha,rfl⟩:=adg.1 hx;exact(h.2 a ha).2⟩
def Nb (r:List I3):Prop:=r.length<4294967296∧∀x∈r,L1 x
def Na (r:List I5):Prop:=r.length<4294967296∧∀x∈r,PT x
theorem kT {α:Type} {r:List α} {f:α→Int} (hl:r.length<4294967296) (h:∀x∈r,Fit (f x)):rf (r.map f):=⟨by rw[ada];exact hl,fun x hx=>by obtain⟨a,ha,rfl⟩:=adg.1 hx;exact h a ha⟩
structure WJ (n:Int) (ar:List I3) (rk:List Int) (ws:List I5) (g:List Int) (far:List (List Int)) (outs ins:List (List I2)) (so si:List (List Int)):Prop where
  n:Fit n
  ar:Nb ar
  rk:rf rk
  ws:Na ws
  g:rf g
  far:Df far
  outs:Bn outs
  ins:Bn ins
  so:Df so
  si:Df si
end Go.Gr
namespace Go.Gr
open Go.Rl
def kV {α:Type} (p:α→Prop) [DecidablePred p] (l:List α):Int:=match l.findIdx? fun x=>decide (p x)with|some i=>(i:Int)|none=> -1
theorem nK {α:Type} {p:α→Prop} [DecidablePred p] {l:List α} {i:Nat} {x:α} (hb:∀y∈l.take i,¬p y) (h:l[i]?=some x) (hp:p x):kV p l=(i:Int):=by
  have hi:=(acF.1 h)
  obtain⟨hi,he⟩:=hi
  have e:l.findIdx? (fun x=>decide (p x))=some i:=by
    rw[af2]
    refine⟨hi,by rw[he];exact decide_eq_true hp,fun j hj=>?_⟩
    have:l[j]∈l.take i:=by
      rw[ae6]
      exact⟨j,by omega,rfl⟩
    simpa using hb _ this
  unfold kV;rw[e]
theorem qR {α:Type} {p:α→Prop} [DecidablePred p] {l:List α} (hb:∀y∈l,¬p y):kV p l= -1:=by
  have e:l.findIdx? (fun x=>decide (p x))=none:=by
    rw[agZ]
    intro x hx;simpa using hb x hx
  unfold kV;rw[e]
theorem fg {α:Type} (p:α→Prop) [DecidablePred p] (l:List α):(kV p l= -1∧∀y∈l,¬p y)∨∃(i:Nat) (x:α),kV p l=(i:Int)∧l[i]?=some x∧p x∧∀y∈l.take i,¬p y:=by
  cases h:l.findIdx? fun x=>decide (p x)with
  |none=>
    left
    have hb:∀y∈l,¬p y:=fun y hy=>by
      have:=(agZ.1 h) y hy
      simpa using this
    exact⟨qR hb,hb⟩
  |some i=>
    right
    obtain⟨hi,h1,h2⟩:=af2.1 h
    have hb:∀y∈l.take i,¬p y:=fun y hy=>by
      obtain⟨j,hj,rfl⟩:=ae6.1 hy
      have:=h2 j (by omega)
      simpa using this
    exact⟨i,l[i],nK hb (acM hi) (of_decide_eq_true h1),acM hi,of_decide_eq_true h1,hb⟩
abbrev gH (u v:Int) (x:I5):Prop:=x.1=u∧x.2.1=v
def Bm (rk:List Int) (ws:List I5) (x:I5):Prop:=
  x.2.2.2.2= -1∧(0≤x.2.2.2.1∧x.2.2.2.1<rk.length)∧(∀p q,rk[x.2.2.2.1.toNat]?=some p→rk[x.1.toNat]?=some q→p<q)∧(∀p q,rk[x.2.2.2.1.toNat]?=some p→rk[x.2.1.toNat]?=some q→p<q)∧
    ∃(a b:Nat) (y z:I5),kV (gH x.1 x.2.2.2.1) ws=(a:Int)∧ws[a]?=some y∧kV (gH x.2.2.2.1 x.2.1) ws=(b:Int)∧ws[b]?=some z∧adE.wrap (y.2.2.1+z.2.2.1)=x.2.2.1
def yV (rk:List Int) (ws:List I5) (i:Nat) (x:I5):Prop:=(0≤x.1∧x.1<rk.length)∧(0≤x.2.1∧x.2.1<rk.length)∧x.1≠x.2.1∧0≤x.2.2.1∧x.2.2.1≤1152921504606846976∧kV (gH x.1 x.2.1) ws=(i:Int)
def TW (rk:List Int) (ws:List I5) (i:Nat) (x:I5):Prop:=yV rk ws i x∧if x.2.2.2.1= -1 then 0≤x.2.2.2.2∧x.2.2.2.2<67108864 else Bm rk ws x
def lg (rk:List Int) (ws:List I5):Prop:=(∀k:Nat,k<rk.length→(k:Int)∈rk)∧∀(i:Nat) (x:I5),ws[i]?=some x→TW rk ws i x
noncomputable instance (rk:List Int) (ws:List I5) (x:I5):Decidable (Bm rk ws x):=adv _
noncomputable instance (rk:List Int) (ws:List I5) (i:Nat) (x:I5):Decidable (TW rk ws i x):=adv _
noncomputable instance (rk:List Int) (ws:List I5):Decidable (lg rk ws):=adv _
noncomputable def dV (rk:List Int) (ws:List I5):Int:=if 16777216<rk.length∨67108864<ws.length then 3 else if lg rk ws then 0 else 2
def iw (n:Int) (P:Int→Prop) (l:List Int):Prop:=(∀x∈l,(0≤x∧x<n)∧P x)∧∀(i:Nat) (x y:Int),l[i]?=some x→l[i+1]?=some y→x<y
def qj (g:List Int) (gr x:Int):Prop:=gr<2→(if x∈g then 1 else 0:Int)=gr
def dh (least d:Int):Prop:=least≤d∧d≤1152921504606846976
def jI (n:Int) (g:List Int) (ls:List (List I2)):Prop:=(∀r∈ls,(∀x∈r,dh 0 x.2)∧iw n (qj g 1) (r.map fun x=>x.1))∧(ls.length:Int)=n
def qf (n:Int) (g:List Int) (ls:List (List Int)):Prop:=(∀r∈ls,iw n (qj g 0) r)∧(ls.length:Int)=n
def qh (g:List Int) (far:List (List Int)):Prop:=far.length=g.length∧∀(i:Nat) r,far[i]?=some r→r.length=g.length∧r[i]?=some 0∧∀x∈r,dh (-1) x
def q9 (n:Int) (g:List Int) (far:List (List Int)) (outs ins:List (List I2)) (so si:List (List Int)):Prop:=
  0≤n∧iw n (qj g 2) g∧qh g far∧jI n g outs∧jI n g ins∧qf n g so∧qf n g si
noncomputable instance (n:Int) (P:Int→Prop) (l:List Int):Decidable (iw n P l):=adv _
noncomputable instance (n:Int) (g:List Int) (ls:List (List I2)):Decidable (jI n g ls):=adv _
noncomputable instance (n:Int) (g:List Int) (ls:List (List Int)):Decidable (qf n g ls):=adv _
noncomputable instance (g:List Int) (far:List (List Int)):Decidable (qh g far):=adv _
noncomputable instance (n:Int) (g:List Int) (far:List (List Int)) (outs ins:List (List I2)) (so si:List (List Int)):Decidable (q9 n g far outs ins so si):=adv _
instance (least d:Int):Decidable (dh least d):=inferInstanceAs (Decidable (_∧_))
noncomputable def dD (n:Int) (g:List Int) (far:List (List Int)) (outs ins:List (List I2)) (so si:List (List Int)):Int:=if 16777216<n then 3 else if q9 n g far outs ins so si then 0 else 2
def lj (ar:List I3) (ws:List I5):Prop:=∀x∈ws,x.2.2.2.1= -1→ar[x.2.2.2.2.toNat]?=some (x.1,x.2.1,x.2.2.1)
noncomputable instance (ar:List I3) (ws:List I5):Decidable (lj ar ws):=adv _
noncomputable def dx (n:Int) (ar:List I3) (rk:List Int) (ws:List I5) (g:List Int) (far:List (List Int)) (outs ins:List (List I2)) (so si:List (List Int)):Int:=
  if dU n ar≠0 then dU n ar else if dV rk ws≠0 then dV rk ws else if dD n g far outs ins so si≠0 then dD n g far outs ins so si else if(rk.length:Int)=n∧lj ar ws then 0 else 2
theorem jL {n:Int} {P:Int→Prop} {l:List Int} {i:Nat} {x:Int} (h:iw n P (l.take i)) (hx:l[i]?=some x) (h1:0≤x∧x<n) (h2:P x) (h3:∀y,0<i→l[i-1]?=some y→y<x):iw n P (l.take (i+1)):=by
  refine⟨fun y hy=>?_,fun j a b ha hb=>?_⟩
  · rw [dJ hx, adn, adh] at hy
    rcases hy with hy|rfl
    · exact h.1 y hy
    · exact⟨h1,h2⟩
  · rw [aeg] at ha hb
    split at ha
    · split at hb
      · by_cases hj : j + 1 < i
        · exact h.2 j a b (by rw[aeg,if_pos (by omega)];exact ha) (by rw[aeg,if_pos hj];exact hb)
        · have e : j + 1 = i := by omega
          subst e
          rw[hx]at hb;cases hb
          exact h3 a (by omega) (by simpa using ha)
      · cases hb
    · cases ha
theorem KV (n:Int) (P:Int→Prop):iw n P []:=⟨fun x h=>absurd h (ac0),fun i x y h=>by cases h⟩
theorem di {g:List Int} {x:Int}:0≤kV (fun y=>y=x) g↔x∈g:=by
  rcases fg (fun y=>y=x) g with⟨h1,h2⟩|⟨i,y,h1,h2,h3,_⟩
  · rw[h1];exact⟨fun h=>by omega,fun h=>absurd rfl (h2 x h)⟩
  · rw[h1];exact⟨fun _=>h3▸acC h2,fun _=>by omega⟩
end Go.Gr
namespace Go.Gr
open Go.Rl Go.dj Go.jR
abbrev RS:=St×Bool
def ec (m:Int) (s:RS):RS×List Int:=(((da s.1 m).1,s.2),(da s.1 m).2)
def rT (m:Int) (l:List Int):Option Nat:=match l with
  |[x]=>if x<0∨m<x then none else some x.toNat
  |_=>none
def fp (m:Int) (s:RS):RS×Nat:=match rT m (ec m s).2 with
  |some n=>((ec m s).1,n)
  |none=>(((ec m s).1.1,true),0)
def Gc {α:Type} (f:List Int→α) (a:List Int) (rest:List (List Int)):List α:=(adC a.length).map fun i=>f ((a::rest).map fun r=>(r[i]?).getD 0)
def uW {α:Type} (f:List Int→α) (a:List Int) (rest:List (List Int)) (bad:Bool):List α×Bool:=if a=[]then([],bad)else if ∀r∈rest,r.length=a.length then(Gc f a rest,bad)else([],true)
def j5 (m : Int) : Nat → RS → RS × List (List Int)
  |0,s=>(s,[])
  |n+1,s=>((j5 m n (ec m s).1).1,(ec m s).2::(j5 m n (ec m s).1).2)
def cR {α:Type} (f:List Int→α) (m:Int) (n:Nat) (s:RS):RS×List α:=
  let q:=j5 m (n+1) s
  let c:=uW f (q.2.headD []) q.2.tail q.1.2
  ((q.1.1,c.2),c.1)
def oX {β : Type} (one : RS → RS × β) : Nat → RS → RS × List β
  |0,s=>(s,[])
  |n+1,s=>if s.1.2≠0 then(s,[])else((oX one n (one s).1).1,(one s).2::(oX one n (one s).1).2)
def dT {β:Type} (m:Int) (one:RS→RS×β) (s:RS):RS×List β:=oX one (fp m s).2 (fp m s).1
def py (l:List Int):I3:=((l[0]?).getD 0,(l[1]?).getD 0,(l[2]?).getD 0)
def l9 (l:List Int):I5:=((l[0]?).getD 0,(l[1]?).getD 0,(l[2]?).getD 0,(l[3]?).getD 0,(l[4]?).getD 0)
def j0 (l:List Int):I2:=((l[0]?).getD 0,(l[1]?).getD 0)
def mQ (m:Int) (s:RS):RS×(Int×List I3):=match (ec m s).2 with
  |[n]=>((cR py m 2 (ec m s).1).1,(n,(cR py m 2 (ec m s).1).2))
  |_=>(((ec m s).1.1,true),(0,[]))
def j2 (m:Int) (s:RS):RS×(List Int×List I5):=((cR l9 m 4 (ec m s).1).1,((ec m s).2,(cR l9 m 4 (ec m s).1).2))
abbrev Tn:=List Int×List (List Int)×List (List I2)×List (List I2)×List (List Int)×List (List Int)
def iL (m:Int) (s:RS):RS×Tn:=
  let g:=ec m s
  let far:=dT m (ec m) g.1
  let outs:=dT m (cR j0 m 1) far.1
  let ins:=dT m (cR j0 m 1) outs.1
  let so:=dT m (ec m) ins.1
  let si:=dT m (ec m) so.1
  (si.1,(g.2,far.2,outs.2,ins.2,so.2,si.2))
def KC (b:List UInt8):RS:=((b,0),false)
def Jw (s:RS):Prop:=s.2=false∧oe s.1=0
instance (s:RS):Decidable (Jw s):=inferInstanceAs (Decidable (_∧_))
theorem qw (m:Int):∀(i:Nat) (s:RS),j5 m (i+1) s=((ec m (j5 m i s).1).1,(j5 m i s).2++[(ec m (j5 m i s).1).2]):=by
  intro i
  induction i with
  |zero=>intro s;rfl
  |succ i ih=>
    intro s
    show((j5 m (i+1) (ec m s).1).1,(ec m s).2::(j5 m (i+1) (ec m s).1).2)=_
    rw[ih (ec m s).1]
    rfl
theorem tc (m:Int):∀(i:Nat) (s:RS),(j5 m i s).2.length=i:=by
  intro i
  induction i with
  |zero=>intro s;rfl
  |succ i ih=>intro s;simp only[j5,acK,ih]
theorem o0 {α:Type} {f:List Int→α} {m:Int} {n:Nat} {s:St} {bd:Bool} {st:St} {ls:List (List Int)} {a:List Int} (h:j5 m (n+1) (s,bd)=((st,bd),ls)) (ha:ls[0]?=some a) (Fe:0<a.length→∀r∈ls,r.length=a.length):
    cR f m n (s,bd)=((st,bd),(adC a.length).map fun q=>f (ls.map fun r=>(r[q]?).getD 0)):=by
  cases ls with
  |nil=>cases ha
  |cons b rest=>
    cases ha
    unfold cR
    rw[h]
    simp only[ahs,ahP]
    unfold uW
    by_cases e:a=[]
    · subst e;rfl
    · rw [if_neg e, if_pos (fun r hr => Fe (agB.2 e) r (adG _ hr))]
      rfl
theorem qY {α:Type} {f:List Int→α} {m:Int} {n:Nat} {s:St} {bd:Bool} {st:St} {ls:List (List Int)} {a r:List Int} {p:Nat} (h:j5 m (n+1) (s,bd)=((st,bd),ls)) (ha:ls[0]?=some a) (h0:0<a.length) (hr:ls[p]?=some r) (dX:¬r.length=a.length):
    cR f m n (s,bd)=((st,true),[]):=by
  cases ls with
  |nil=>cases ha
  |cons b rest=>
    cases ha
    cases p with
    |zero=>cases hr;exact absurd rfl dX
    |succ p=>
      unfold cR
      rw[h]
      simp only[ahs,ahP]
      unfold uW
      rw[if_neg (agB.1 h0),if_neg (fun fQ=>dX (fQ r (acC (by simpa using hr))))]
theorem Jx {β:Type} {one:RS→RS×β} {n:Nat} {s:RS} (h:s.1.2≠0):oX one n s=(s,[]):=by
  cases n with
  |zero=>rfl
  |succ n=>simp only[oX];rw[if_pos h]
theorem Gb {α:Type} (f:List Int→α) (a:List Int) (rest:List (List Int)):(Gc f a rest).length=a.length:=by unfold Gc;simp
theorem zI (s:St) (most:Int) (size:Nat):(l6 s most size).1.1.length≤s.1.length:=by
  have h1:=(gx s 4).1
  unfold l6
  split
  · exact h1
  · split
    · exact adW _
    · exact acU (gx _ _).1 h1
theorem eO (s:St) (most:Int):(da s most).1.1.length≤s.1.length:=zI s most 8
theorem GU (s:St) (most:Int) (size:Nat):(l6 s most size).2.length≤s.1.length:=by
  unfold l6
  split
  · exact adW _
  · split
    · exact adW _
    · exact acU (gx _ _).2 (gx s 4).1
theorem E2:∀(n:Nat) (l:List UInt8),(jN n l).length=n:=by
  intro n
  induction n with
  |zero=>intro l;rfl
  |succ n ih=>intro l;simp only[jN,acK,ih]
theorem lL (s:St) (most:Int):(da s most).2.length≤s.1.length:=by
  have h:=GU s most 8
  show(jN _ _).length≤_
  rw[E2]
  omega
theorem lB {l:List Int} (y:List UInt8) {m:Int} (bd:Bool) (hl:rf l) (hm:(l.length:Int)≤m):ec m ((bL l++y,0),bd)=(((y,0),bd),l):=by
  unfold ec
  simp only[E1 l y m hl.2 hm hl.1]
theorem EU (n:Nat) (y:List UInt8) {m:Int} (bd:Bool) (hn:n<4294967296) (h1:1≤m) (hm:(n:Int)≤m):fp m ((bL [(n:Int)]++y,0),bd)=(((y,0),bd),n):=by
  unfold fp
  rw[lB y bd (LO hn) (by simpa using h1)]
  unfold rT
  simp only
  rw[if_neg (by omega)]
  simp
theorem GO {m:Int}:∀(ls:List (List Int)) (y:List UInt8) (bd:Bool),(∀r∈ls,rf r∧(r.length:Int)≤m)→j5 m ls.length (((ls.map bL).flatten++y,0),bd)=(((y,0),bd),ls):=by
  intro ls
  induction ls with
  |nil=>intro y bd _;rfl
  |cons l r ih=>
    intro y bd h
    obtain⟨h1,h2⟩:=h l (adV ..)
    simp only[adq,adl,acK,j5,adB]
    rw[lB _ bd h1 h2]
    simp only[ih y bd fun x hx=>h x (adG _ hx)]
theorem LL {β:Type} {one:RS→RS×β} {bs:β→List UInt8}:∀(ls:List β) (y:List UInt8) (bd:Bool),(∀x∈ls,∀y,one ((bs x++y,0),bd)=(((y,0),bd),x))→oX one ls.length (((ls.map bs).flatten++y,0),bd)=(((y,0),bd),ls):=by
  intro ls
  induction ls with
  |nil=>intro y bd _;rfl
  |cons l r ih=>
    intro y bd h
    simp only[adq,adl,acK,oX,adB]
    rw[if_neg (by simp),h l (adV ..)]
    simp only[ih y bd fun x hx=>h x (adG _ hx)]
theorem wD {β:Type} {one:RS→RS×β} {bs:β→List UInt8} (ls:List β) (y:List UInt8) {m:Int} (bd:Bool) (YI:ls.length<4294967296) (h1:1≤m) (hm:(ls.length:Int)≤m) (h:∀x∈ls,∀y,one ((bs x++y,0),bd)=(((y,0),bd),x)):
    dT m one ((bL [(ls.length:Int)]++((ls.map bs).flatten++y),0),bd)=(((y,0),bd),ls):=by
  unfold dT
  rw[EU ls.length _ bd YI h1 hm]
  exact LL ls y bd h
theorem D7 {α:Type} {f:List Int→α} {l:List α} {c:α→Int} {cs:List (α→Int)} (h:∀x∈l,f ((c::cs).map fun g=>g x)=x):Gc f (l.map c) (cs.map fun g=>l.map g)=l:=by
  unfold Gc
  refine agc (by simp) fun i hi hj=>?_
  simp only[ag9,afP]
  have hx:=h l[i] (ag7 hj)
  rw[←hx]
  congr 1
  simp only[adq,aeI]
  congr 1
  · rw[adI,acM hj];simp[hx]
  · apply afM
    intro g _
    simp only[ajw]
    rw[adI,acM hj];simp[hx]
theorem C6 {α:Type} {f:List Int→α} {l:List α} {c:α→Int} {cs:List (α→Int)} (bd:Bool) (h:∀x∈l,f ((c::cs).map fun g=>g x)=x):uW f (l.map c) (cs.map fun g=>l.map g) bd=(l,bd):=by
  unfold uW
  by_cases e:l=[]
  · subst e;simp
  · rw[if_neg (by simpa using e),if_pos (by intro r hr;obtain⟨g,_,rfl⟩:=adg.1 hr;simp),D7 h]
theorem qX {α:Type} {f:List Int→α} {l:List α} {c:α→Int} {cs:List (α→Int)} (y:List UInt8) {m:Int} (bd:Bool) (h:∀x∈l,f ((c::cs).map fun g=>g x)=x) (hf:∀g∈c::cs,rf (l.map g)) (hm:(l.length:Int)≤m):
    cR f m cs.length (((((c::cs).map fun g=>bL (l.map g)).flatten)++y,0),bd)=(((y,0),bd),l):=by
  have h1:=GO (m:=m) ((c::cs).map fun g=>l.map g) y bd fun r hr=>by
    obtain⟨g,hg,rfl⟩:=adg.1 hr
    exact⟨hf g hg,by rw[ada];exact hm⟩
  rw[aeI,ada]at h1
  have e:((c::cs).map ((bL)∘fun g=>l.map g))=(c::cs).map fun g=>bL (l.map g):=rfl
  rw[e,acK]at h1
  unfold cR
  rw[h1]
  simp only[adq,ahs,ahP,C6 bd h]
theorem LN {x:Int} (h:Fit x):rf [x]:=⟨adD (ac8 1) (by omega),fun y hy=>by rw[adh]at hy;subst hy;exact h⟩
theorem Hn {n:Int} {ar:List I3} (y:List UInt8) {m:Int} (bd:Bool) (hn:Fit n) (ha:Nb ar) (h1:1≤m) (hm:(ar.length:Int)≤m):mQ m (((mh n ar).flatten++y,0),bd)=(((y,0),bd),(n,ar)):=by
  have hc:cR py m 2 ((([bL (ar.map fun a=>a.1),bL (ar.map fun a=>a.2.1),bL (ar.map fun a=>a.2.2)].flatten++y,0),bd))=(((y,0),bd),ar):=
    qX (f:=py) (c:=fun a:I3=>a.1) (cs:=[fun a=>a.2.1,fun a=>a.2.2]) y bd (fun x _=>rfl) (fun g hg=>by
      simp only[ac6,ac0,or_false]at hg
      rcases hg with rfl|rfl|rfl
      · exact kT ha.1 fun x hx=>(ha.2 x hx).1
      · exact kT ha.1 fun x hx=>(ha.2 x hx).2.1
      · exact kT ha.1 fun x hx=>(ha.2 x hx).2.2) hm
  unfold mh
  rw[adl,adB]
  unfold mQ
  rw[lB _ bd (LN hn) (by simpa using h1)]
  simp only[hc]
theorem Fb {rk:List Int} {ws:List I5} (y:List UInt8) {m:Int} (bd:Bool) (hk:rf rk) (hw:Na ws) (h1:(rk.length:Int)≤m) (hm:(ws.length:Int)≤m):j2 m (((jk rk ws).flatten++y,0),bd)=(((y,0),bd),(rk,ws)):=by
  have hc:cR l9 m 4 ((([bL (ws.map fun a=>a.1),bL (ws.map fun a=>a.2.1),bL (ws.map fun a=>a.2.2.1),bL (ws.map fun a=>a.2.2.2.1),bL (ws.map fun a=>a.2.2.2.2)].flatten++y,0),bd))=(((y,0),bd),ws):=
    qX (f:=l9) (c:=fun a:I5=>a.1) (cs:=[fun a=>a.2.1,fun a=>a.2.2.1,fun a=>a.2.2.2.1,fun a=>a.2.2.2.2]) y bd (fun x _=>rfl) (fun g hg=>by
      simp only[ac6,ac0,or_false]at hg
      rcases hg with rfl|rfl|rfl|rfl|rfl
      · exact kT hw.1 fun x hx=>(hw.2 x hx).1
      · exact kT hw.1 fun x hx=>(hw.2 x hx).2.1
      · exact kT hw.1 fun x hx=>(hw.2 x hx).2.2.1
      · exact kT hw.1 fun x hx=>(hw.2 x hx).2.2.2.1
      · exact kT hw.1 fun x hx=>(hw.2 x hx).2.2.2.2) hm
  unfold jk
  rw[adl,adB]
  unfold j2
  rw[lB _ bd hk h1]
  simp only[hc]
theorem qx {ls:List (List Int)} (y:List UInt8) {m:Int} (bd:Bool) (hl:Df ls) (h1:1≤m) (hm:(ls.length:Int)≤m) (hr:∀r∈ls,(r.length:Int)≤m):dT m (ec m) (((eC ls).flatten++y,0),bd)=(((y,0),bd),ls):=by
  unfold eC
  rw[adl,adB]
  exact wD (bs:=bL) ls y bd hl.1 h1 hm fun x hx y=>lB y bd (hl.2 x hx) (hr x hx)
theorem Ex {r:List I2} (y:List UInt8) {m:Int} (bd:Bool) (hr:xo r) (hm:(r.length:Int)≤m):cR j0 m 1 (((gk r).flatten++y,0),bd)=(((y,0),bd),r):=
  qX (f:=j0) (c:=fun a:I2=>a.1) (cs:=[fun a=>a.2]) y bd (fun x _=>rfl) (fun g hg=>by
    simp only[ac6,ac0,or_false]at hg
    rcases hg with rfl|rfl
    · exact hr.one
    · exact hr.two) hm
theorem tt {ls:List (List I2)} (y:List UInt8) {m:Int} (bd:Bool) (hl:Bn ls) (h1:1≤m) (hm:(ls.length:Int)≤m) (hr:∀r∈ls,(r.length:Int)≤m):dT m (cR j0 m 1) (((fk ls).flatten++y,0),bd)=(((y,0),bd),ls):=by
  have e:(ls.flatMap gk).flatten=(ls.map fun r=>(gk r).flatten).flatten:=by
    rw[agd,afH,aeI];rfl
  unfold fk
  rw[adl,adB,e]
  exact wD (bs:=fun r=>(gk r).flatten) ls y bd hl.1 h1 hm fun x hx y=>Ex y bd (hl.2 x hx) (hr x hx)
theorem Ei {g : List Int} {far so si : List (List Int)} {o i : List (List I2)} (y : List UInt8) {m : Int} (bd : Bool) (h1 : 1 ≤ m) (hg : rf g) (hf : Df far) (ho : Bn o) (hi : Bn i) (hs : Df so) (ht : Df si)
    (mg:(g.length:Int)≤m) (mf:(far.length:Int)≤m∧∀r∈far,(r.length:Int)≤m) (mo:(o.length:Int)≤m∧∀r∈o,(r.length:Int)≤m) (mi:(i.length:Int)≤m∧∀r∈i,(r.length:Int)≤m) (ms:(so.length:Int)≤m∧∀r∈so,(r.length:Int)≤m) (mt:(si.length:Int)≤m∧∀r∈si,(r.length:Int)≤m):
    iL m (((fN g far o i so si).flatten++y,0),bd)=(((y,0),bd),(g,far,o,i,so,si)):=by
  unfold fN
  simp only[adl,aeT,adB]
  unfold iL
  simp only[lB _ bd hg mg,qx _ bd hf h1 mf.1 mf.2,tt _ bd ho h1 mo.1 mo.2,tt _ bd hi h1 mi.1 mi.2,qx _ bd hs h1 ms.1 ms.2,qx _ bd ht h1 mt.1 mt.2]
end Go.Gr
namespace Go.Gr
open Go.Rl Go.dj Go.jR
structure qg where
  n:Int
  ar:List I3
  rk:List Int
  ws:List I5
  g:List Int
  far:List (List Int)
  outs:List (List I2)
  ins:List (List I2)
  so:List (List Int)
  si:List (List Int)
def iJ (x:qg):List (List UInt8):=gT x.n x.ar x.rk x.ws x.g x.far x.outs x.ins x.so x.si
noncomputable def nB (x:qg):Int:=dx x.n x.ar x.rk x.ws x.g x.far x.outs x.ins x.so x.si
def Px (x:qg):Prop:=WJ x.n x.ar x.rk x.ws x.g x.far x.outs x.ins x.so x.si
def px (p1 p2 p3:List UInt8):Option qg:=
  let m:=mQ (p1.length:Int) (KC p1)
  let h:=j2 (p2.length:Int) (KC p2)
  let t:=iL (p3.length:Int) (KC p3)
  if Jw m.1∧Jw h.1∧Jw t.1 then some ⟨m.2.1,m.2.2,h.2.1,h.2.2,t.2.1,t.2.2.1,t.2.2.2.1,t.2.2.2.2.1,t.2.2.2.2.2.1,t.2.2.2.2.2.2⟩else none
noncomputable def uU (b:List UInt8):Option qg:=match cP b with
  |[_,p1,p2,p3]=>(px p1 p2 p3).bind fun x=>if nB x=0∧dC (iJ x)=b then some x else none
  |_=>none
theorem sJ {β:Type} (f:β→List UInt8):∀(l:List β) (x:β),x∈l→(f x).length≤((l.map f).flatten).length:=by
  intro l
  induction l with
  |nil=>intro x h;cases h
  |cons a r ih=>
    intro x h
    simp only[adq,adl,acB]
    rcases ac6.1 h with rfl|h
    · omega
    · have:=ih x h;omega
theorem AX {β:Type} (f:β→List UInt8):∀(l:List β),(∀x∈l,1≤(f x).length)→l.length≤((l.map f).flatten).length:=by
  intro l
  induction l with
  |nil=>intro _;exact ac8 _
  |cons a r ih=>
    intro h
    have h1:=h a (adV ..)
    have h2:=ih fun x hx=>h x (adG _ hx)
    simp only[adq,adl,acB,acK];omega
theorem tr (ls:List (List Int)):ls.length≤(eC ls).flatten.length∧∀r∈ls,r.length≤(eC ls).flatten.length:=by
  unfold eC
  have h1:=AX bL ls fun x _=>by rw[cr];omega
  simp only[adl,acB]
  refine⟨by omega,fun r hr=>?_⟩
  have h2:=sJ bL ls r hr
  rw[cr]at h2;omega
theorem wF (ls:List (List I2)):ls.length≤(fk ls).flatten.length∧∀r∈ls,r.length≤(fk ls).flatten.length:=by
  have e:(ls.flatMap gk).flatten=(ls.map fun r=>(gk r).flatten).flatten:=by
    rw[agd,afH,aeI];rfl
  unfold fk
  have hl:∀r:List I2,(gk r).flatten.length=8+16*r.length:=fun r=>by simp only[gk,adl,afI,acB,acS,cr,ada];omega
  have h1:=AX (fun r=>(gk r).flatten) ls fun x _=>by rw[hl];omega
  simp only[adl,acB,e]
  refine⟨by omega,fun r hr=>?_⟩
  have h2:=sJ (fun r=>(gk r).flatten) ls r hr
  simp only[hl]at h2;omega
theorem uN (bd:Bool) (h:bd=false):Jw ((([]:List UInt8),0),bd):=⟨h,show oe ([],0)=0 by decide⟩
theorem Ez {x:qg} (hx:Px x):px (mh x.n x.ar).flatten (jk x.rk x.ws).flatten (fN x.g x.far x.outs x.ins x.so x.si).flatten=some x:=by
  have m1:mQ ((mh x.n x.ar).flatten.length:Int) (KC (mh x.n x.ar).flatten)=((([],0),false),(x.n,x.ar)):=by
    have:=Hn (n:=x.n) (ar:=x.ar) [] (m:=((mh x.n x.ar).flatten.length:Int)) false hx.n hx.ar (by rw[pH];omega) (by rw[pH];omega)
    rwa [adw]at this
  have m2:j2 ((jk x.rk x.ws).flatten.length:Int) (KC (jk x.rk x.ws).flatten)=((([],0),false),(x.rk,x.ws)):=by
    have:=Fb (rk:=x.rk) (ws:=x.ws) [] (m:=((jk x.rk x.ws).flatten.length:Int)) false hx.rk hx.ws (by rw[n3];omega) (by rw[n3];omega)
    rwa [adw]at this
  have hL:(fN x.g x.far x.outs x.ins x.so x.si).flatten.length=4+8*x.g.length+((eC x.far).flatten.length+((fk x.outs).flatten.length+((fk x.ins).flatten.length+((eC x.so).flatten.length+(eC x.si).flatten.length)))):=by
    unfold fN
    simp only[adl,aeT,acB,cr]
  have a1:=tr x.far
  have a2:=wF x.outs
  have a3:=wF x.ins
  have a4:=tr x.so
  have a5:=tr x.si
  have m3:iL ((fN x.g x.far x.outs x.ins x.so x.si).flatten.length:Int) (KC (fN x.g x.far x.outs x.ins x.so x.si).flatten)=((([],0),false),(x.g,x.far,x.outs,x.ins,x.so,x.si)):=by
    have := Ei (g := x.g) (far := x.far) (so := x.so) (si := x.si) (o := x.outs) (i := x.ins) [] (m := ((fN x.g x.far x.outs x.ins x.so x.si).flatten.length : Int)) false (by rw [hL]; omega) hx.g hx.far hx.outs hx.ins hx.so hx.si (by rw [hL]; omega)
      ⟨by rw[hL];omega,fun r hr=>by rw[hL];have:=a1.2 r hr;omega⟩ ⟨by rw[hL];omega,fun r hr=>by rw[hL];have:=a2.2 r hr;omega⟩ ⟨by rw[hL];omega,fun r hr=>by rw[hL];have:=a3.2 r hr;omega⟩ ⟨by rw[hL];omega,fun r hr=>by rw[hL];have:=a4.2 r hr;omega⟩ ⟨by rw[hL];omega,fun r hr=>by rw[hL];have:=a5.2 r hr;omega⟩
    rwa [adw]at this
  unfold px
  simp only[m1,m2,m3]
  rw[if_pos ⟨uN _ rfl,uN _ rfl,uN _ rfl⟩]
theorem JP {x:qg} (hx:Px x) (hm:fO (iJ x)<4294967296) (hc:nB x=0):uU (dC (iJ x))=some x:=by
  have e1:=km (iJ x) (by rw[fZ];exact hm)
  unfold uU
  rw[e1]
  show(px (mh x.n x.ar).flatten (jk x.rk x.ws).flatten (fN x.g x.far x.outs x.ins x.so x.si).flatten).bind _=_
  rw[Ez hx]
  rw[ai4,if_pos ⟨hc,rfl⟩]
end Go.Gr
namespace Go.Gr
open Go.Rl Go.dj Go.jR
theorem KS {m:Int} {l:List Int} {n:Nat} (h:rT m l=some n):(n:Int)≤m:=by
  unfold rT at h
  split at h
  · split at h
    · cases h
    · cases h;omega
  · cases h
theorem tQ {m:Int} {s:RS} {s1:RS} {n:Nat} (h0:0≤m) (h:fp m s=(s1,n)):(n:Int)≤m:=by
  unfold fp at h
  split at h
  · rename_i k hk
    cases h;exact KS hk
  · cases h;exact h0
theorem qC {m:Int} {s:RS} {s1:RS} {n:Nat} (h:fp m s=(s1,n)):s1.1.1.length≤s.1.1.length:=by
  unfold fp at h
  have h1:(ec m s).1.1.1.length≤s.1.1.length:=eO s.1 m
  split at h<;>cases h<;>exact h1
theorem GN (m:Int):∀(i:Nat) (s:RS),(j5 m i s).1.1.1.length≤s.1.1.length∧∀r∈(j5 m i s).2,r.length≤s.1.1.length:=by
  intro i
  induction i with
  |zero=>intro s;exact⟨ac8 _,fun r hr=>by cases hr⟩
  |succ i ih=>
    intro s
    have h1:(ec m s).1.1.1.length≤s.1.1.length:=eO s.1 m
    have h2:(ec m s).2.length≤s.1.1.length:=lL s.1 m
    have h3:=ih (ec m s).1
    refine⟨acU h3.1 h1,fun r hr=>?_⟩
    rcases ac6.1 hr with rfl|hr
    · exact h2
    · exact acU (h3.2 r hr) h1
theorem FD {α:Type} (f:List Int→α) (a:List Int) (rest:List (List Int)) (b:Bool):(uW f a rest b).1.length≤a.length:=by
  unfold uW
  split
  · exact adW _
  · split
    · rw[Gb];exact ac8 _
    · exact adW _
theorem gA {α:Type} {f:List Int→α} {m:Int} {n:Nat} {s s1:RS} {l:List α} (h:cR f m n s=(s1,l)):s1.1.1.length≤s.1.1.length∧l.length≤s.1.1.length:=by
  have h1:=GN m (n+1) s
  have h2:=FD f ((j5 m (n+1) s).2.headD []) (j5 m (n+1) s).2.tail (j5 m (n+1) s).1.2
  unfold cR at h
  cases h
  refine⟨h1.1,acU h2 ?_⟩
  cases hq:(j5 m (n+1) s).2 with
  |nil=>exact adW _
  |cons a r=>exact h1.2 a (by rw[hq];exact adV ..)
theorem Jy {β:Type} {one:RS→RS×β} {N j:Nat} {s0 cur:RS} {ls:List β} {nx:RS} {x:β} (h:oX one N s0=((oX one j cur).1,ls++(oX one j cur).2)) (hj:0<j) (hc:cur.1.2=0) (hx:one cur=(nx,x)):
    oX one N s0=((oX one (j-1) nx).1,(ls++[x])++(oX one (j-1) nx).2):=by
  obtain⟨i,rfl⟩:∃i,j=i+1:=⟨j-1,by omega⟩
  rw[h]
  simp only[oX,Nat.add_sub_cancel]
  rw[if_neg (by rw[hc];decide),hx]
  simp
theorem sI {β:Type} {one:RS→RS×β} {N j:Nat} {s0 cur:RS} {ls:List β} (h:oX one N s0=((oX one j cur).1,ls++(oX one j cur).2)) (hs:j=0∨cur.1.2≠0):oX one N s0=(cur,ls):=by
  rw[h]
  rcases hs with rfl|hs
  · simp[oX]
  · rw[Jx hs];simp
theorem pt {β:Type} {m:Int} {one:RS→RS×β} {s s1 fin:RS} {n:Nat} {ls:List β} (hM:fp m s=(s1,n)) (h:oX one n s1=(fin,ls)):dT m one s=(fin,ls):=by
  unfold dT
  rw[hM]
  exact h
theorem LK {β:Type} {one:RS→RS×β} (h1:∀s,(one s).1.1.1.length≤s.1.1.length):∀(n:Nat) (s:RS),(oX one n s).1.1.1.length≤s.1.1.length∧(oX one n s).2.length≤n:=by
  intro n
  induction n with
  |zero=>intro s;exact⟨ac8 _,ac8 _⟩
  |succ n ih=>
    intro s
    simp only[oX]
    split
    · exact⟨ac8 _,adW _⟩
    · have := ih (one s).1
      exact⟨acU this.1 (h1 s),by simp only[acK];omega⟩
theorem LM {β:Type} {one:RS→RS×β} {p:β→Nat} {B:Nat} (h1:∀s,(one s).1.1.1.length≤s.1.1.length) (h2:∀s,p (one s).2≤s.1.1.length):∀(n:Nat) (s:RS),s.1.1.length≤B→∀r∈(oX one n s).2,p r≤B:=by
  intro n
  induction n with
  |zero=>intro s _ r hr;cases hr
  |succ n ih=>
    intro s hs r hr
    simp only[oX]at hr
    split at hr
    · cases hr
    · rcases ac6.1 hr with rfl | hr
      · exact acU (h2 s) hs
      · exact ih (one s).1 (acU (h1 s) hs) r hr
theorem gS (m:Int) (s:RS):(ec m s).1.1.1.length≤s.1.1.length:=eO s.1 m
theorem iP (m:Int) (s:RS):(ec m s).2.length≤s.1.1.length:=lL s.1 m
theorem mw {α:Type} (f:List Int→α) (m:Int) (n:Nat) (s:RS):(cR f m n s).1.1.1.length≤s.1.1.length:=(gA (s1:=(cR f m n s).1) (l:=(cR f m n s).2) rfl).1
theorem jE {α:Type} (f:List Int→α) (m:Int) (n:Nat) (s:RS):(cR f m n s).2.length≤s.1.1.length:=(gA (s1:=(cR f m n s).1) (l:=(cR f m n s).2) rfl).2
theorem gz {β:Type} {m:Int} {one:RS→RS×β} {p:β→Nat} (h0:0≤m) (h1:∀s,(one s).1.1.1.length≤s.1.1.length) (h2:∀s,p (one s).2≤s.1.1.length) (s:RS):(dT m one s).1.1.1.length≤s.1.1.length∧(((dT m one s).2.length:Int)≤m∧∀r∈(dT m one s).2,p r≤s.1.1.length):=by
  have a:=tQ (s:=s) (s1:=(fp m s).1) (n:=(fp m s).2) h0 rfl
  have b:=qC (m:=m) (s:=s) (s1:=(fp m s).1) (n:=(fp m s).2) rfl
  have c:=LK h1 (fp m s).2 (fp m s).1
  refine⟨acU c.1 b,?_,LM h1 h2 _ _ b⟩
  have d:(dT m one s).2.length≤(fp m s).2:=c.2
  omega
theorem K1 {m:Int} {s:St} {bd:Bool} {x:Int} {s1:St} {b1:Bool} {l1:List I3} (hl:(da s m).2.length=1) (hx:(da s m).2[0]?=some x) (hM:cR py m 2 ((da s m).1,bd)=((s1,b1),l1)):mQ m (s,bd)=((s1,b1),(x,l1)):=by
  have h:(ec m (s,bd)).2=[x]:=by
    show(da s m).2=[x]
    match h:(da s m).2,hl,hx with
    |[y],_,hx=>cases hx;rfl
  have h2:(ec m (s,bd)).1=((da s m).1,bd):=rfl
  unfold mQ
  rw[h,h2,hM]
theorem Ho {m:Int} {s:St} {bd:Bool} (hl:¬(da s m).2.length=1):mQ m (s,bd)=(((da s m).1,true),(0,[])):=by
  unfold mQ
  split
  · rename_i h
    exact absurd (congrArg adQ (show(da s m).2=_ from h)) hl
  · rfl
theorem Ip {m:Int} {s:St} {bd:Bool} {s1:St} {b1:Bool} {l1:List I5} (hM:cR l9 m 4 ((da s m).1,bd)=((s1,b1),l1)):j2 m (s,bd)=((s1,b1),((da s m).2,l1)):=by
  have h2:(ec m (s,bd)).1=((da s m).1,bd):=rfl
  unfold j2
  rw[h2,hM];rfl
theorem Gw {m:Int} {s:St} {bd:Bool} {s1 s2 s3 s4 s5:RS} {far so si:List (List Int)} {outs ins:List (List I2)} (h1:dT m (ec m) ((da s m).1,bd)=(s1,far)) (h2:dT m (cR j0 m 1) s1=(s2,outs)) (h3:dT m (cR j0 m 1) s2=(s3,ins)) (h4:dT m (ec m) s3=(s4,so)) (h5:dT m (ec m) s4=(s5,si)):
    iL m (s,bd)=(s5,((da s m).2,far,outs,ins,so,si)):=by
  have h0:(ec m (s,bd)).1=((da s m).1,bd):=rfl
  unfold iL
  simp only[h0,h1,h2,h3,h4,h5]
  rfl
end Go.Gr
namespace Go.Gr
open Go.Rl Go.dj Go.jR
theorem zR {most:Int}:∀(k:Nat) (b:List UInt8) (ls:List (List UInt8)),iC most k b=some ls→∀r∈ls,r.length≤b.length:=by
  intro k
  induction k with
  |zero=>
    intro b ls h r hr
    unfold iC at h
    split at h
    · cases h;cases hr
    · cases h
  |succ k ih=>
    intro b ls h r hr
    unfold iC at h
    split at h
    · cases h;cases hr
    · split at h
      · cases h
      · cases hq:iC most k (eg (b,0) most).1.1 with
        |none=>rw[hq]at h;cases h
        |some l2=>
          rw[hq]at h
          cases h
          rcases ac6.1 hr with rfl|hr
          · have := zp (b, 0) most
            rw[ac9];dsimp only at this;omega
          · exact acU (ih _ _ hq r hr) (zI (b,0) most 1)
theorem mb {b r:List UInt8} (h:r∈cP b):r.length≤b.length:=by
  unfold cP at h
  cases hq:parts b with
  |none=>rw[hq]at h;cases h
  |some ls=>rw[hq]at h;exact zR _ _ _ hq r h
theorem K0 {m:Int} {s s1:RS} {n:Int} {ar:List I3} (h:mQ m s=(s1,(n,ar))):ar.length≤s.1.1.length:=by
  unfold mQ at h
  split at h
  · cases h
    exact acU (jE _ _ _ _) (gS m s)
  · cases h;exact adW _
theorem Io {m:Int} {s s1:RS} {rk:List Int} {ws:List I5} (h:j2 m s=(s1,(rk,ws))):rk.length≤s.1.1.length∧ws.length≤s.1.1.length:=by
  unfold j2 at h
  cases h
  exact⟨iP m s,acU (jE _ _ _ _) (gS m s)⟩
theorem Gv {m:Int} {s s1:RS} {g:List Int} {far so si:List (List Int)} {outs ins:List (List I2)} {B:Nat} (h:iL m s=(s1,(g,far,outs,ins,so,si))) (h0:0≤m) (hm:m≤(B:Int)) (hs:s.1.1.length≤B):
    g.length≤B∧(far.length≤B∧∀r∈far,r.length≤B)∧(outs.length≤B∧∀r∈outs,r.length≤B)∧(ins.length≤B∧∀r∈ins,r.length≤B)∧(so.length≤B∧∀r∈so,r.length≤B)∧(si.length≤B∧∀r∈si,r.length≤B):=by
  unfold iL at h
  cases h
  have a0:=gS m s
  have a1:=gz (p:=adQ) h0 (gS m) (iP m) (ec m s).1
  have a2:=gz (p:=adQ) h0 (mw j0 m 1) (jE j0 m 1) (dT m (ec m) (ec m s).1).1
  have a3:=gz (p:=adQ) h0 (mw j0 m 1) (jE j0 m 1) (dT m (cR j0 m 1) (dT m (ec m) (ec m s).1).1).1
  have a4:=gz (p:=adQ) h0 (gS m) (iP m) (dT m (cR j0 m 1) (dT m (cR j0 m 1) (dT m (ec m) (ec m s).1).1).1).1
  have a5:=gz (p:=adQ) h0 (gS m) (iP m) (dT m (ec m) (dT m (cR j0 m 1) (dT m (cR j0 m 1) (dT m (ec m) (ec m s).1).1).1).1).1
  obtain⟨b1,c1,d1⟩:=a1
  obtain⟨b2,c2,d2⟩:=a2
  obtain⟨b3,c3,d3⟩:=a3
  obtain⟨b4,c4,d4⟩:=a4
  obtain⟨b5,c5,d5⟩:=a5
  refine⟨acU (iP m s) hs,⟨by omega,fun r hr=>acU (d1 r hr) (by omega)⟩,⟨by omega,fun r hr=>acU (d2 r hr) (by omega)⟩,⟨by omega,fun r hr=>acU (d3 r hr) (by omega)⟩,⟨by omega,fun r hr=>acU (d4 r hr) (by omega)⟩,⟨by omega,fun r hr=>acU (d5 r hr) (by omega)⟩⟩
theorem Ey {p1 p2 p3 : List UInt8} {s1 s2 s3 : RS} {n : Int} {ar : List I3} {rk : List Int} {ws : List I5} {g : List Int} {far so si : List (List Int)} {outs ins : List (List I2)} {B : Nat} (hm : mQ (p1.length : Int) ((p1, 0), false) = (s1, (n, ar))) (hh : j2 (p2.length : Int) ((p2, 0), false) = (s2, (rk, ws))) (ht : iL (p3.length : Int) ((p3, 0), false) = (s3, (g, far, outs, ins, so, si)))
    (h1:p1.length≤B) (h2:p2.length≤B) (h3:p3.length≤B):Bk B B B ar rk ws g far outs ins so si:=by
  have a:=K0 hm
  have b:=Io hh
  have c:=Gv (B:=B) ht (by omega) (by omega) h3
  exact⟨acU a h1,acU b.1 h2,acU b.2 h2,c.1,c.2.1,c.2.2.1,c.2.2.2.1,c.2.2.2.2.1,c.2.2.2.2.2⟩
theorem l8 {p1 p2 p3:List UInt8} {s1 s2 s3:St} {b1 b2 b3:Bool} {n:Int} {ar:List I3} {rk:List Int} {ws:List I5} {g:List Int} {far so si:List (List Int)} {outs ins:List (List I2)} (hm:mQ (p1.length:Int) ((p1,0),false)=((s1,b1),(n,ar))) (hh:j2 (p2.length:Int) ((p2,0),false)=((s2,b2),(rk,ws))) (ht:iL (p3.length:Int) ((p3,0),false)=((s3,b3),(g,far,outs,ins,so,si))):
    px p1 p2 p3=if(b1=false∧oe s1=0)∧(b2=false∧oe s2=0)∧(b3=false∧oe s3=0)then some ⟨n,ar,rk,ws,g,far,outs,ins,so,si⟩else none:=by
  have e1:KC p1=((p1,0),false):=rfl
  have e2:KC p2=((p2,0),false):=rfl
  have e3:KC p3=((p3,0),false):=rfl
  unfold px
  simp only[e1,e2,e3,hm,hh,ht]
  rfl
theorem FB {b:List UInt8} (h:¬(cP b).length=4):uU b=none:=by
  unfold uU
  split
  · rename_i hq;rw[hq]at h;exact absurd rfl h
  · rfl
theorem Ba {b p1 p2 p3:List UInt8} (h4:(cP b).length=4) (h1:(cP b)[1]?=some p1) (h2:(cP b)[2]?=some p2) (h3:(cP b)[3]?=some p3):uU b=(px p1 p2 p3).bind fun x=>if nB x=0∧dC (iJ x)=b then some x else none:=by
  unfold uU
  split
  · rename_i hq
    rw[hq]at h1 h2 h3
    cases h1;cases h2;cases h3;rfl
  · rename_i hq
    match hp:cP b,h4,h1,h2,h3 with
    |[a,c,d,e],_,_,_,_=>exact absurd hp (hq a c d e)
theorem lQ {b p1 p2 p3:List UInt8} (h4:(cP b).length=4) (h1:(cP b)[1]?=some p1) (h2:(cP b)[2]?=some p2) (h3:(cP b)[3]?=some p3) (hr:px p1 p2 p3=none):uU b=none:=by
  rw[Ba h4 h1 h2 h3,hr];rfl
theorem JO {b p1 p2 p3:List UInt8} {x:qg} (h4:(cP b).length=4) (h1:(cP b)[1]?=some p1) (h2:(cP b)[2]?=some p2) (h3:(cP b)[3]?=some p3) (hr:px p1 p2 p3=some x):uU b=if nB x=0∧dC (iJ x)=b then some x else none:=by
  rw[Ba h4 h1 h2 h3,hr];rfl
end Go.Gr
namespace Go.Gr
open Go.Rl Go.dj Go.jR
abbrev RT:=St×Int
def Tb (ls:List (List Int)):Prop:=∀r∈ls,r.length=(ls.headD []).length
instance (ls:List (List Int)):Decidable (Tb ls):=inferInstanceAs (Decidable (∀r∈ls,r.length=(ls.headD []).length))
def S9 (t:RT):Prop:=t.2=0∧oe t.1=0
instance (t:RT):Decidable (S9 t):=inferInstanceAs (Decidable (_∧_))
end Go.Gr
namespace Go.Gr
open Go.Rl Go.dj Go.jR
theorem qy (ls:List (List Int)):12+4*ls.length≤(eC ls).flatten.length∧∀r∈ls,12+8*r.length≤(eC ls).flatten.length:=by
  have hc:∀l:List (List Int),4*l.length≤((l.map bL).flatten).length:=by
    intro l
    induction l with
    |nil=>exact ac8 _
    |cons a r ih=>simp only[adq,adl,acB,acK,cr];omega
  unfold eC
  simp only[adl,acB,cr,acK,acS]
  have h1:=hc ls
  refine⟨by omega,fun r hr=>?_⟩
  have h2:=sJ bL ls r hr
  rw[cr]at h2;omega
theorem tw (ls:List (List I2)):12+8*ls.length≤(fk ls).flatten.length∧∀r∈ls,12+16*r.length≤(fk ls).flatten.length:=by
  have e:(ls.flatMap gk).flatten=(ls.map fun r=>(gk r).flatten).flatten:=by
    rw[agd,afH,aeI];rfl
  have hl:∀r:List I2,(gk r).flatten.length=8+16*r.length:=fun r=>by simp only[gk,adl,afI,acB,acS,cr,ada];omega
  have hc:∀l:List (List I2),8*l.length≤((l.map fun r=>(gk r).flatten).flatten).length:=by
    intro l
    induction l with
    |nil=>exact ac8 _
    |cons a r ih=>simp only[adq,adl,acB,acK,hl];omega
  unfold fk
  simp only[adl,acB,cr,acK,acS,e]
  have h1:=hc ls
  refine⟨by omega,fun r hr=>?_⟩
  have h2:=sJ (fun r=>(gk r).flatten) ls r hr
  simp only[hl]at h2;omega
theorem KZ (x:qg):fO (iJ x)=95+24*x.ar.length+8*x.rk.length+40*x.ws.length+8*x.g.length+((eC x.far).flatten.length+((fk x.outs).flatten.length+((fk x.ins).flatten.length+((eC x.so).flatten.length+(eC x.si).flatten.length)))):=by
  have e:fO (iJ x)=32+(j3 x.n x.ar).length+(mh x.n x.ar).flatten.length+(jk x.rk x.ws).flatten.length+(fN x.g x.far x.outs x.ins x.so x.si).flatten.length:=by
    simp only[iJ,gT,fO,adq,aee,af9,ajF];omega
  rw[e,qJ,pH,n3]
  unfold fN
  simp only[adl,aeT,acB,cr]
  omega
theorem Er {x:qg} {B:Nat} (h:fO (iJ x)≤B):Bk B B B x.ar x.rk x.ws x.g x.far x.outs x.ins x.so x.si:=by
  have e:=KZ x
  have a1:=qy x.far
  have a2:=tw x.outs
  have a3:=tw x.ins
  have a4:=qy x.so
  have a5:=qy x.si
  refine⟨by omega,by omega,by omega,by omega,⟨by omega,fun r hr=>?_⟩,⟨by omega,fun r hr=>?_⟩,⟨by omega,fun r hr=>?_⟩,⟨by omega,fun r hr=>?_⟩,⟨by omega,fun r hr=>?_⟩⟩
  · have:=a1.2 r hr;omega
  · have:=a2.2 r hr;omega
  · have:=a3.2 r hr;omega
  · have:=a4.2 r hr;omega
  · have:=a5.2 r hr;omega
theorem PQ:∀(n:Nat) (l:List Int),l.length=n→(∀k:Nat,k<n→(k:Int)∈l)→∀x∈l,0≤x∧x<n:=by
  intro n
  induction n with
  |zero=>intro l hl _ x hx;rw[afj.1 hl]at hx;cases hx
  |succ n ih=>
    intro l hl h x hx
    have hm:=h n (by omega)
    have hlen:(l.erase (n:Int)).length=n:=by rw[afc hm];omega
    by_cases e:x=(n:Int)
    · omega
    · have := ih (l.erase (n : Int)) hlen (fun k hk => (agr (by omega)).2 (h k (by omega))) x ((agr e).2 hx)
      omega
theorem x6 {n:Int} {P:Int→Prop} {l:List Int} (hn:n≤16777216) (h:iw n P l):∀x∈l,Fit x:=fun x hx=>by
  have:=(h.1 x hx).1
  exact⟨by omega,by omega⟩
theorem DI {x:qg} (h:nB x=0):dU x.n x.ar=0∧x.rk.length≤16777216∧lg x.rk x.ws∧x.n≤16777216∧q9 x.n x.g x.far x.outs x.ins x.so x.si∧(x.rk.length:Int)=x.n∧lj x.ar x.ws:=by
  unfold nB dx at h
  by_cases h1:dU x.n x.ar≠0
  · rw[if_pos h1]at h;exact absurd h h1
  rw[if_neg h1]at h
  by_cases h2:dV x.rk x.ws≠0
  · rw[if_pos h2]at h;exact absurd h h2
  rw[if_neg h2]at h
  by_cases h3:dD x.n x.g x.far x.outs x.ins x.so x.si≠0
  · rw[if_pos h3]at h;exact absurd h h3
  rw[if_neg h3]at h
  have h1:=acX.1 h1
  have h2:=acX.1 h2
  have h3:=acX.1 h3
  have h4:(x.rk.length:Int)=x.n∧lj x.ar x.ws:=by
    by_cases h4:(x.rk.length:Int)=x.n∧lj x.ar x.ws
    · exact h4
    · rw[if_neg h4]at h;cases h
  unfold dV at h2
  unfold dD at h3
  have h5:x.rk.length≤16777216∧lg x.rk x.ws:=by
    by_cases q:16777216<x.rk.length∨67108864<x.ws.length
    · rw[if_pos q]at h2;cases h2
    · rw [if_neg q] at h2
      by_cases q2:lg x.rk x.ws
      · exact⟨by omega,q2⟩
      · rw[if_neg q2]at h2;cases h2
  have h6:x.n≤16777216∧q9 x.n x.g x.far x.outs x.ins x.so x.si:=by
    by_cases q:16777216<x.n
    · rw[if_pos q]at h3;cases h3
    · rw [if_neg q] at h3
      by_cases q2:q9 x.n x.g x.far x.outs x.ins x.so x.si
      · exact⟨by omega,q2⟩
      · rw[if_neg q2]at h3;cases h3
  exact⟨h1,h5.1,h5.2,h6.1,h6.2,h4⟩
theorem LU {x:qg} {B:Nat} (h:nB x=0) (hs:Bk B B B x.ar x.rk x.ws x.g x.far x.outs x.ins x.so x.si) (hB:B<4294967296):Px x:=by
  obtain⟨hm,hr,hH,hn,hT,ZU,hA⟩:=DI h
  obtain⟨m0,m1,_,ma⟩:=nZ hm
  obtain⟨t0,tg,tf,to,ti,ts,tu⟩:=hT
  refine⟨⟨by omega,by omega⟩,⟨adD hs.ar hB,fun a ha=>?_⟩,⟨adD hs.rk hB,fun a ha=>?_⟩,⟨adD hs.ws hB,fun a ha=>?_⟩,⟨adD hs.g hB,x6 hn tg⟩,⟨adD hs.far.1 hB,fun r hr=>⟨adD (hs.far.2 r hr) hB,fun a ha=>?_⟩⟩,⟨adD hs.outs.1 hB,fun r hr=>⟨adD (hs.outs.2 r hr) hB,fun a ha=>?_⟩⟩,⟨adD hs.ins.1 hB,fun r hr=>⟨adD (hs.ins.2 r hr) hB,fun a ha=>?_⟩⟩,⟨adD hs.so.1 hB,fun r hr=>⟨adD (hs.so.2 r hr) hB,x6 hn (ts.1 r hr)⟩⟩,⟨adD hs.si.1 hB,fun r hr=>⟨adD (hs.si.2 r hr) hB,x6 hn (tu.1 r hr)⟩⟩⟩
  · have := ma a ha
    unfold EJ at this
    exact⟨⟨by omega,by omega⟩,⟨by omega,by omega⟩,⟨by omega,by omega⟩⟩
  · have := PQ _ x.rk rfl hH.1 a ha
    exact⟨by omega,by omega⟩
  · obtain ⟨i, hi⟩ := ade ha
    obtain⟨hE,hW⟩:=hH.2 i a hi
    unfold yV at hE
    have hw:Fit a.2.2.2.1∧Fit a.2.2.2.2:=by
      by_cases q:a.2.2.2.1= -1
      · rw [if_pos q] at hW
        exact⟨⟨by omega,by omega⟩,⟨by omega,by omega⟩⟩
      · rw [if_neg q] at hW
        unfold Bm at hW
        exact⟨⟨by omega,by omega⟩,⟨by omega,by omega⟩⟩
    exact⟨⟨by omega,by omega⟩,⟨by omega,by omega⟩,⟨by omega,by omega⟩,hw.1,hw.2⟩
  · obtain ⟨i, hi⟩ := ade hr
    have:=(tf.2 i r hi).2.2 a ha
    unfold dh at this
    exact⟨by omega,by omega⟩
  · have h1 := (to.1 r hr).1 a ha
    have h2:=((to.1 r hr).2.1 a.1 (adg.2 ⟨a,ha,rfl⟩)).1
    unfold dh at h1
    exact⟨⟨by omega,by omega⟩,⟨by omega,by omega⟩⟩
  · have h1 := (ti.1 r hr).1 a ha
    have h2:=((ti.1 r hr).2.1 a.1 (adg.2 ⟨a,ha,rfl⟩)).1
    unfold dh at h1
    exact⟨⟨by omega,by omega⟩,⟨by omega,by omega⟩⟩
end Go.Gr
namespace Go.Gr
open Go.Rl Go.dj Go.jR
end Go.Gr
namespace Go.Rl
section
variable {P:Program} {n:Nat} {Q:fJ} {R:Nat→Value} {w:World} {K:Value→World→Prop} {dst:Option Tmp} {ty:TypeId} {pos:String} {af:Array Edge} {gd:Option (Nat×Bool)}
theorem mr {f:FuncId} {first:Array Operand} {xs:List Operand} {vs:List Value} (hx:first=xs.toArray) (h:xs.map (ev R)=vs):Ev P ⟨dst,.makeFunc (.func f) first #[],ty,pos,af,gd⟩ R w (.func (.func f) vs.toArray #[]):=by
  subst hx h
  simp[Ev,execOp,ajm]
end
section
variable {w:World} {F:Nat→Prop} {α:Type} {enc:α→Value}
end
end Go.Rl
namespace Go.Rl
open Go.ChangeShapes Go.WideShapes
def Sh.unit:Sh→Nat
  |.int .i64=>8
  |.int _=>1
  |.bool=>1
  |.str=>1
  |.sl _=>1
  |.nil=>0
  |.cons f r=>f.unit+r.unit
def Sh.Hw (M : Nat) : (s : Sh) → s.ty → Prop
  |.int _,_=>True
  |.bool,_=>True
  |.str,l=>adQ (α:=UInt8) l≤M
  |.sl e,l=>adQ (α:=e.ty) l*e.unit≤M∧∀a∈(show List e.ty from l),e.Hw M a
  |.nil,_=>True
  |.cons f r,a=>f.Hw M a.1∧r.Hw M a.2
def Sh.jm (P : Program) : Sh → TypeId ⊕ List Field → Bool
  |.int _,_=>true
  |.bool,_=>true
  |.str,_=>true
  |.sl e,.inl t=>match P.underlying t with
    |some (.slice te)=>decide (e.unit≤P.bytesOf te) && e.jm P (.inl te)
    |_=>false
  |.sl _,.inr _=>false
  |.nil,_=>true
  |.cons f r,.inl t=>match P.underlying t with
    |some (.struct fs)=>match fs.toList with
      |fd::fds=>f.jm P (.inl fd.type) && r.jm P (.inr fds)
      |_=>false
    |_=>false
  |.cons f r,.inr fds=>match fds with
    |fd::fds=>f.jm P (.inl fd.type) && r.jm P (.inr fds)
    |_=>false
section
variable {H:Type} {enc:TypeId×Value→H} {P:Program} {w:World} {base:Nat} {spare:Nat→Bool} {held:Bool}
theorem Sh.QW (M:Nat):∀(s:Sh),
    (∀(t:TypeId) (fuel:Nat) (cs:List Value) (x:DataW H×List MemPlace),s.fit P (.inl t)=true→s.jm P (.inl t)=true→(∀z∈x.1.weights P t,z≤M)→aeA enc P w base spare held fuel t cs=some x→∃a,s.rd w cs a∧s.Hw M a)∧
    (∀(fds:List Field) (off:Nat) (n:Nat) (cs:List Value) (xs:List (DataW H×List MemPlace)),s.fit P (.inr (fds,off))=true→s.jm P (.inr fds)=true→(∀z∈adS P (fds.map (·.type)) (xs.map (·.1)),z≤M)→cs.length=off+s.cells→xs.length=fds.length→
      (∀(i:Nat) (f:Field),fds[i]?=some f→aeA enc P w base spare held n f.type ((cs.drop f.offset).take (P.cellsOf f.type))=xs[i]?)→∃a,s.rd w (cs.drop off) a∧s.Hw M a):=by
  intro s
  induction s with
  |int k=>
    refine⟨fun t fuel cs x hf hv hw h=>?_,fun _ _ _ _ _ hf=>by simp[Sh.fit]at hf⟩
    have ht:P.underlying t=some (.int k):=by
      simp only[Sh.fit]at hf
      split at hf
      · rename_i e;rw[e,of_decide_eq_true hf]
      · cases hf
    obtain⟨m,rfl,rfl,Uv⟩:=ajn ht h
    exact⟨m,⟨rfl,Uv⟩,trivial⟩
  |bool=>
    refine⟨fun t fuel cs x hf hv hw h=>?_,fun _ _ _ _ _ hf=>by simp[Sh.fit]at hf⟩
    have ht:P.underlying t=some .bool:=by
      simp only[Sh.fit]at hf
      split at hf
      · assumption
      · cases hf
    cases fuel with
    |zero=>simp[aeA]at h
    |succ n=>
      unfold aeA at h
      rw[ht]at h
      split at h<;>simp_all
      obtain rfl:=h
      exact⟨_,rfl,trivial⟩
  |str=>
    refine⟨fun t fuel cs x hf hv hw h=>?_,fun _ _ _ _ _ hf=>by simp[Sh.fit]at hf⟩
    have ht:P.underlying t=some .string:=by
      simp only[Sh.fit]at hf
      split at hf
      · assumption
      · cases hf
    cases fuel with
    |zero=>simp[aeA]at h
    |succ n=>
      unfold aeA at h
      rw[ht]at h
      revert hw
      split at h<;>simp_all
      rename_i s
      obtain⟨hl,rfl⟩:=h
      intro hw
      refine⟨s.data.toList,⟨by rw[←GA],?_⟩,?_⟩
      · simpa using hl
      · exact hw _ (by simp[afJ])
  |sl e ih=>
    refine⟨fun t fuel cs x hf hv hw h=>?_,fun _ _ _ _ _ hf=>by simp[Sh.fit]at hf⟩
    simp only[Sh.fit]at hf
    split at hf
    · rename_i te ht
      simp only[adk,beq_iff_eq]at hf
      simp only[Sh.jm,ht,adk,decide_eq_true_eq]at hv
      rcases ajc ht h with⟨rfl,rfl⟩|⟨a,len,cap,m,n,D,Pl,rfl,hb,hl,hm,Lm,rfl,hx⟩
      · exact⟨[],⟨none,0,rfl,ac8 _,by unfold maxLen;omega,fun i a h=>by simp at h⟩,by simp,fun a ha=>by cases ha⟩
      · simp only [afJ, ht] at hw
        have Ib:len≤m:=by rw[Lm];split<;>omega
        have each:∀i,i<len→∃(a':e.ty) (ll:List Value),ll.length=e.cells∧e.rd w ll a'∧(∀(j:Nat) v,ll[j]?=some v→w.cell? (a.add (i*e.cells+j))=some v)∧e.Hw M a':=by
          intro i hi
          obtain⟨ll,h1,h2⟩:=hx i (by omega)
          obtain⟨a',h3,h4⟩:=ih.1 te n ll _ hf.2 hv.2 (fun z hz=>hw z (adG _ (adX _ (nb (adg.2 ⟨i,adU.2 hi,rfl⟩) hz)))) h2
          obtain⟨_,hlen,hc⟩:=aiF h1
          refine⟨a',ll,e.np h3,h3,fun j v hj=>?_,h4⟩
          have SA:=(acF.1 hj).1
          have:=hc j (by omega)
          rw[ajE,hf.1]at this
          rw[this,hj]
        have:∃l:List e.ty,l.length=len∧∀(i:Nat) a',l[i]?=some a'→∃(ll:List Value),ll.length=e.cells∧e.rd w ll a'∧(∀(j:Nat) v,ll[j]?=some v→w.cell? (a.add (i*e.cells+j))=some v)∧e.Hw M a':=by
          clear h hx Lm Ib hl hw
          induction len with
          |zero=>exact⟨[],rfl,fun i a' h=>by simp at h⟩
          |succ len Ui=>
            obtain⟨l,Mw,CJ⟩:=Ui (fun i hi=>each i (by omega))
            obtain⟨a',ll,g1,g2,g3,g4⟩:=each len (by omega)
            refine⟨l++[a'],by simp[Mw],fun i b hb=>?_⟩
            rcases adi i l.length with cD|Mx
            · rw[adu cD]at hb;exact CJ i b hb
            · rw [ads Mx] at hb
              have hz:i-l.length=0:=by
                rcases aex (i-l.length)with e'|e'
                · exact e'
                · rw[aea (by simp;omega)]at hb;cases hb
              rw[hz]at hb
              have Fa:i=len:=by omega
              subst Fa
              cases hb
              exact⟨ll,g1,g2,g3,g4⟩
        obtain⟨l,Mw,CJ⟩:=this
        subst Mw
        refine⟨l,⟨some a,cap,rfl,hl,hm,fun i a' Fj=>?_⟩,?_⟩
        · obtain ⟨ll, g1, g2, g3, _⟩ := CJ i a' Fj
          exact⟨ll,g1,g2,fun j v hj=>⟨a,rfl,g3 j v hj⟩⟩
        · refine ⟨?_, fun a' Fj => ?_⟩
          · have h1 := hw _ (adV ..)
            rw[ada,afs]at h1
            have h2:l.length*e.unit≤(l.length+((adC (m-l.length)).map fun j=>D (l.length+j)).length)*P.bytesOf te:=afv (ai8 _ _) hv.1
            omega
          · obtain ⟨i, hi⟩ := ade Fj
            exact(CJ i a' hi).choose_spec.2.2.2
    · cases hf
  |nil=>
    refine⟨fun t fuel cs x hf hv hw h=>?_,fun fds off n cs xs hf hv hw hl _ _=>?_⟩
    · simp only [Sh.fit] at hf
      split at hf
      · rename_i fs ht
        simp only[adk,beq_iff_eq]at hf
        obtain⟨xs,n,_,rfl,hl,_⟩:=afX ht h
        exact⟨(),adH (by omega),trivial⟩
      · cases hf
    · exact⟨(),adH (by simp only[Sh.cells]at hl;simp;omega),trivial⟩
  |cons f r Uj Uh=>
    have body:∀(fd:Field) (fds:List Field) (off n:Nat) (cs:List Value) (xs:List (DataW H×List MemPlace)),fd.offset=off→P.cellsOf fd.type=f.cells→f.fit P (.inl fd.type)=true→r.fit P (.inr (fds,off+f.cells))=true→f.jm P (.inl fd.type)=true→r.jm P (.inr fds)=true→(∀z∈adS P ((fd::fds).map (·.type)) (xs.map (·.1)),z≤M)→
        cs.length=off+(f.cells+r.cells)→xs.length=(fd::fds).length→
        (∀(i:Nat) (g:Field),(fd::fds)[i]?=some g→aeA enc P w base spare held n g.type ((cs.drop g.offset).take (P.cellsOf g.type))=xs[i]?)→∃a,(Sh.cons f r).rd w (cs.drop off) a∧(Sh.cons f r).Hw M a:=by
      intro fd fds off n cs xs h1 h2 h3 h4 uc Uz hw h5 h6 h7
      cases xs with
      |nil=>simp at h6
      |cons x xs=>
        have hx:=h7 0 fd rfl
        simp only[ahm]at hx
        rw[h1,h2]at hx
        simp only[adq,adS]at hw
        obtain⟨a,ha,Va⟩:=Uj.1 fd.type n _ x h3 uc (fun z hz=>hw z (adX _ hz)) hx
        obtain⟨b,hb,U9⟩:=Uh.2 fds (off+f.cells) n cs xs h4 Uz (fun z hz=>hw z (aeo _ hz)) (by omega) (by simpa using h6) (fun i g hg=>by have:=h7 (i+1) g (by simpa using hg);simpa using this)
        refine⟨(a,b),⟨ha,?_⟩,Va,U9⟩
        rw[aft];exact hb
    refine⟨fun t fuel cs x hf hv hw h=>?_,fun fds off n cs xs hf hv hw hl TB hx=>?_⟩
    · simp only [Sh.fit] at hf
      split at hf
      · rename_i fs ht
        split at hf
        · rename_i fd fds Lr
          simp only[adk,beq_iff_eq]at hf
          obtain⟨⟨⟨⟨h0,h1⟩,h2⟩,h3⟩,h4⟩:=hf
          simp only[Sh.jm,ht,Lr,adk]at hv
          obtain⟨xs,n,_,rfl,hl,Lh,hx⟩:=afX ht h
          simp only[afJ,ht,Lr]at hw
          have xc:fs.size=(fd::fds).length:=by rw[←Lr];simp
          obtain⟨a,ha,hm⟩:=body fd fds 0 n cs xs h1 h2 h3 (by simpa using h4) hv.1 hv.2 hw (by omega) (by omega) (fun i g hg=>hx i g (by rw[←Lr]at hg;simpa using hg))
          exact⟨a,by simpa using ha,hm⟩
        · cases hf
      · cases hf
    · simp only [Sh.fit] at hf
      split at hf
      · rename_i fd fds
        simp only[adk,beq_iff_eq]at hf
        obtain⟨⟨⟨h1,h2⟩,h3⟩,h4⟩:=hf
        simp only[Sh.jm,adk]at hv
        exact body fd fds off n cs xs h1 h2 h3 h4 hv.1 hv.2 hw (by simpa[Sh.cells]using hl) TB hx
      · cases hf
end
theorem G7 {H : Type} {enc : TypeId × Value → H} {P : Program} {W : World} {held : Bool} {t : TypeId} {d : DataW H} {v : Value} {ps : List MemPlace} {s : Sh} {ts : List TypeId} {ds : List (DataW H)} {j : Nat} (eI : (adS P ts ds).all (· ≤ reachBytes) = true) (ht : ts[j]? = some t) (hd : ds[j]? = some d)
    (hf:s.fit P (.inl t)=true) (hv:s.jm P (.inl t)=true) (h:ahW enc P W 0 (fun _=>true) held t v d ps):∃a:s.ty,s.rd W v.cells.toList a∧s.Hw reachBytes a:=by
  obtain⟨fuel,hh⟩:=h
  have key:∀(ts:List TypeId) (ds:List (DataW H)) (j:Nat),ts[j]?=some t→ds[j]?=some d→∀z∈d.weights P t,z∈adS P ts ds:=by
    intro ts
    induction ts with
    |nil=>intro ds j h;simp at h
    |cons t' ts ih=>
      intro ds j h1 h2 z hz
      cases ds with
      |nil=>simp at h2
      |cons d' ds=>
        unfold adS
        cases j with
        |zero=>simp at h1 h2;subst h1 h2;exact adX _ hz
        |succ j=>exact aeo _ (ih ds j (by simpa using h1) (by simpa using h2) z hz)
  rw[afE]at eI
  exact(s.QW reachBytes).1 t fuel v.cells.toList (d,ps) hf hv (fun z hz=>of_decide_eq_true (eI z (key ts ds j ht hd z hz))) hh
end Go.Rl
namespace Go.Gr
open Go.Rl Go.ChangeShapes Go.WideShapes
abbrev Q0:Sh:=.cons (.int .i64) (.cons (.sl xC) .nil)
abbrev OM:Sh:=.cons (.sl (.int .i64)) (.cons (.sl Ek) .nil)
abbrev BV:Sh:=.sl (.sl (.int .i64))
abbrev xF:Sh:=.sl (.sl n9)
abbrev QG:Sh:=.cons (.sl (.int .i64)) (.cons BV (.cons xF (.cons xF (.cons BV (.cons BV .nil)))))
abbrev rq:Sh:=.cons Q0 (.cons OM (.cons QG .nil))
def xG (l:List (List n9.ty)):List (List I2):=l.map fun r=>r.map NU
def DH (a:rq.ty):qg:=⟨a.1.1,(show List xC.ty from a.1.2.1).map Ty,a.2.1.1,(show List Ek.ty from a.2.1.2.1).map T9,a.2.2.1.1,a.2.2.1.2.1,xG a.2.2.1.2.2.1,xG a.2.2.1.2.2.2.1,a.2.2.1.2.2.2.2.1,a.2.2.1.2.2.2.2.2.1⟩
structure Tp (x:qg):Prop where
  n:Fit x.n
  ar:∀a∈x.ar,L1 a
  rk:∀a∈x.rk,Fit a
  ws:∀a∈x.ws,PT a
  g:∀a∈x.g,Fit a
  far:∀r∈x.far,∀a∈r,Fit a
  outs:∀r∈x.outs,∀a∈r,FK a
  ins:∀r∈x.ins,∀a∈r,FK a
  so:∀r∈x.so,∀a∈r,Fit a
  si:∀r∈x.si,∀a∈r,Fit a
def To (w:World) (cs:List Value) (x:qg):Prop:=∃(v rv wv gv fv ov iv cW cX:Value) (hf ho hi gM gI:List Hd),cs=[.int .i64 x.n,v,rv,wv,gv,fv,ov,iv,cW,cX]∧Sm bC w v x.ar∧Sl vI w rv x.rk∧Sm aV w wv x.ws∧qe none_ w gv x.g fv hf x.far ov ho x.outs iv hi x.ins cW gM x.so cX gI x.si
theorem N3 {w:World} {cs:List Value} {a:rq.ty} (h:rq.rd w cs a):To w cs (DH a)∧Tp (DH a):=by
  have hlen:=rq.np h
  match cs,hlen with
  |[c1,c2,c3,c4,c5,c6,c7,c8,c9,c10],_=>
    obtain⟨⟨h1,h2,_⟩,⟨h3,h4,_⟩,⟨h5,h6,h7,h8,h9,lU,_⟩,_⟩:=h
    have e1:=nA h1
    have e2:=pq (fun _ _=>Dp) rfl aW h2
    have e3:=yf h3
    have e4:=pq (fun _ _=>QH) rfl aI h4
    have e5:=yf h5
    obtain⟨hf,f1,f2,f3⟩:=xE h6
    obtain⟨ho,o1,o2,o3⟩:=zH h7
    obtain⟨hi,i1,i2,i3⟩:=zH h8
    obtain⟨gM,s1,s2,s3⟩:=xE h9
    obtain⟨gI,t1,t2,t3⟩:=xE lU
    exact⟨⟨_,_,_,_,_,_,_,_,_,hf,ho,hi,gM,gI,by rw[e1.1];rfl,e2.1,e3.1,e4.1,⟨e5.1.o,f1.o,f2,o1.o,o2,i1.o,i2,s1.o,s2,t1.o,t2⟩⟩,⟨e1.2,e2.2,e3.2,e4.2,e5.2,f3,o3,i3,s3,t3⟩⟩
def Dd (x:qg):Prop:=(∀r∈x.outs,r.length≤8796093021952)∧∀r∈x.ins,r.length≤8796093021952
theorem wG {l:List (List n9.ty)} (h:xF.Hw reachBytes l):∀r∈xG l,r.length≤8796093021952:=by
  intro r hr
  obtain⟨a,ha,rfl⟩:=adg.1 hr
  have h1:adQ (α:=n9.ty) a*16≤140737488351232:=(h.2 a ha).1
  rw[ada]
  omega
theorem Lf {a:rq.ty} (h:rq.Hw reachBytes a):Dd (DH a):=⟨wG h.2.2.1.2.2.1,wG h.2.2.1.2.2.2.1⟩
def bZ {α:Type} (l:List (List α)):Nat:=(l.map adQ).sum
def DE (x:qg):Nat:=x.g.length+x.far.length+x.outs.length+x.ins.length+x.so.length+x.si.length+(bZ x.far+bZ x.outs+bZ x.ins+bZ x.so+bZ x.si)
section
variable {H:Type} {enc:TypeId×Value→H} {P:Program} {W:World} {base:Nat} {held:Bool} {t:TypeId} {d:DataW H} {ps:List MemPlace} {v:Value} {ts:List TypeId} {ds:List (DataW H)} {j:Nat} {fs:Array Field}
theorem Lg (eI:(adS P ts ds).all (·≤reachBytes)=true) (ht:ts[j]?=some t) (hd:ds[j]?=some d) (hu:P.underlying t=some (.struct fs)) (hf:rq.fit P (.inl t)=true) (hh:rq.jm P (.inl t)=true) (hv:aij P W .any base t v) (h:ahW enc P W 0 (fun _=>true) held t v d ps):
    ∃(x:qg) (cs:List Value),v=.agg cs.toArray∧To W cs x∧Tp x∧Dd x:=by
  obtain⟨cs,rfl,_⟩:=okWide_struct hu hv
  obtain⟨a,hr,hl⟩:=G7 eI ht hd hf hh h
  have h1:=N3 hr
  exact⟨DH a,cs.toList,by simp,h1.1,h1.2,Lf hl⟩
end
end Go.Gr
namespace Go.Proofs.YtngkdkbpgoddlaaGreat
theorem bI:(acD.info? 3).map (·.size)=some 1:=by kernel_rfl
theorem fI:(acD.info? 3).map (fun i=>(i.zero,i.size,i.bytes))=some (some (.int .i64 0),1,8):=by kernel_rfl
theorem mN:((acD.info? 3).bind (·.zero)).isSome=true:=by kernel_rfl
theorem oM:(acD.info? 4).map (·.size)=some 1:=by kernel_rfl
theorem Ug:(acD.info? 4).map (fun i=>(i.zero,i.size,i.bytes))=some (some (.bool false),1,1):=by kernel_rfl
theorem sX:(acD.info? 5).map (·.size)=some 1:=by kernel_rfl
theorem rX:(acD.info? 5).map (fun i=>(i.zero,i.size,i.bytes))=some (some (.int .u8 0),1,1):=by kernel_rfl
theorem Tq:((acD.info? 5).bind (·.zero)).isSome=true:=by kernel_rfl
theorem eZ:(acD.info? 22).map (·.size)=some 1:=by kernel_rfl
theorem dw:(acD.info? 24).map (·.size)=some 2:=by kernel_rfl
theorem cc:(acD.info? 25).map (·.size)=some 1:=by kernel_rfl
theorem tY:(acD.info? 25).map (fun i=>(i.zero,i.size,i.bytes))=some (some (vN),1,24):=by kernel_rfl
theorem zi:((acD.info? 25).bind (·.zero)).isSome=true:=by kernel_rfl
theorem eF:(acD.info? 26).map (·.size)=some 1:=by kernel_rfl
theorem dq:(acD.info? 28).map (·.size)=some 2:=by kernel_rfl
theorem fH:(acD.info? 29).map (·.size)=some 1:=by kernel_rfl
theorem je:(acD.info? 30).map (·.size)=some 1:=by kernel_rfl
theorem iA:(acD.info? 32).map (·.size)=some 6:=by kernel_rfl
theorem eR:(acD.info? 34).map (·.size)=some 10:=by kernel_rfl
theorem lY:(acD.info? 38).map (·.size)=some 1:=by kernel_rfl
theorem Q8:(acD.info? 38).map (fun i=>(i.zero,i.size,i.bytes))=some (some (vN),1,24):=by kernel_rfl
theorem Nc:((acD.info? 38).bind (·.zero)).isSome=true:=by kernel_rfl
theorem vf:(acD.info? 47).map (·.size)=some 1:=by kernel_rfl
theorem Nu:(acD.info? 57).map (·.size)=some 1:=by kernel_rfl
theorem El:(acD.info? 75).map (·.size)=some 1:=by kernel_rfl
theorem KA:(acD.info? 82).map (·.size)=some 1:=by kernel_rfl
theorem cT:(acD.info? 96).map (·.size)=some 3:=by kernel_rfl
theorem eh:(acD.info? 98).map (·.size)=some 5:=by kernel_rfl
theorem cY:(acD.info? 100).map (·.size)=some 3:=by kernel_rfl
theorem oo:(acD.info? 111).map (·.size)=some 3:=by kernel_rfl
theorem lx:(acD.info? 118).map (·.size)=some 1:=by kernel_rfl
theorem Cv:(acD.info? 118).map (fun i=>(i.zero,i.size,i.bytes))=some (some (vN),1,24):=by kernel_rfl
theorem Ga:((acD.info? 118).bind (·.zero)).isSome=true:=by kernel_rfl
theorem dY:(acD.info? 135).map (·.size)=some 2:=by kernel_rfl
theorem Gx:(acD.info? 144).map (·.size)=some 1:=by kernel_rfl
theorem fo:(acD.info? 192).map (·.size)=some 1:=by kernel_rfl
theorem cI:(acD.info? 194).map (·.size)=some 4:=by kernel_rfl
theorem wA:(acD.info? 206).map (·.size)=some 1:=by kernel_rfl
theorem wz:(acD.info? 207).map (·.size)=some 1:=by kernel_rfl
theorem mE:(acD.info? 209).map (·.size)=some 2:=by kernel_rfl
theorem QJ:(acD.info? 228).map (·.size)=some 1:=by kernel_rfl
theorem om:(acD.info? 246).map (·.size)=some 3:=by kernel_rfl
theorem gZ:(acD.info? 248).map (·.size)=some 5:=by kernel_rfl
theorem Dq:(acD.info? 257).map (·.size)=some 256:=by kernel_rfl
theorem Dg:(acD.info? 3).map (·.zero)=some (some (.int .i64 (0))):=by kernel_rfl
theorem mZ:(acD.info? 24).map (·.zero)=some (some (.agg #[.int .i64 (0),vN])):=by kernel_rfl
theorem Gd:(acD.info? 25).map (·.zero)=some (some (vN)):=by kernel_rfl
theorem oG:(acD.info? 28).map (·.zero)=some (some (.agg #[vN,vN])):=by kernel_rfl
theorem qn:(acD.info? 32).map (·.zero)=some (some (.agg #[vN,vN,vN,vN,vN,vN])):=by kernel_rfl
theorem fM:(acD.info? 34).map (·.zero)=some (some (.agg #[.int .i64 (0),vN,vN,vN,vN,vN,vN,vN,vN,vN])):=by kernel_rfl
theorem Ni:(acD.info? 38).map (·.zero)=some (some (vN)):=by kernel_rfl
theorem Nh:(acD.info? 57).map (·.zero)=some (some (.int .u64 (0))):=by kernel_rfl
theorem Ng:(acD.info? 87).map (·.zero)=some (some (.agg #[.pointer none,.pointer none,.pointer none])):=by kernel_rfl
theorem Nf:(acD.info? 89).map (·.zero)=some (some (.agg #[.pointer none,.int .i64 (0),.bool false])):=by kernel_rfl
theorem eQ:(acD.info? 96).map (·.zero)=some (some (.agg #[.int .i64 (0),.int .i64 (0),.int .i64 (0)])):=by kernel_rfl
theorem jz:(acD.info? 98).map (fun i=>(i.zero,i.size,i.bytes))=some (some (.agg #[.int .i64 (0),.int .i64 (0),.int .i64 (0),.int .i64 (0),.int .i64 (0)]),5,40):=by kernel_rfl
theorem fW:(acD.info? 98).map (·.zero)=some (some (.agg #[.int .i64 (0),.int .i64 (0),.int .i64 (0),.int .i64 (0),.int .i64 (0)])):=by kernel_rfl
theorem tZ:(acD.info? 100).map (fun i=>(i.zero,i.size,i.bytes))=some (some (.agg #[.int .i64 (0),.int .i64 (0),.int .i64 (0)]),3,24):=by kernel_rfl
theorem fu:(acD.info? 100).map (·.zero)=some (some (.agg #[.int .i64 (0),.int .i64 (0),.int .i64 (0)])):=by kernel_rfl
theorem pd:(acD.info? 111).map (·.zero)=some (some (.agg #[.int .i64 (0),vN,vN])):=by kernel_rfl
theorem Kp:(acD.info? 132).map (·.zero)=some (some (.agg #[vN,vN])):=by kernel_rfl
theorem qF:(acD.info? 135).map (fun i=>(i.zero,i.size,i.bytes))=some (some (.agg #[.int .i64 (0),.int .i64 (0)]),2,16):=by kernel_rfl
theorem pc:(acD.info? 135).map (·.zero)=some (some (.agg #[.int .i64 (0),.int .i64 (0)])):=by kernel_rfl
theorem Ko:(acD.info? 161).map (·.zero)=some (some (.agg #[.int .i64 (0),.int .i64 (0),.int .i64 (0)])):=by kernel_rfl
theorem jb:(acD.info? 194).map (·.zero)=some (some (.agg #[.int .i64 (0),vN,vN,vN])):=by kernel_rfl
theorem nT:(acD.info? 209).map (·.zero)=some (some (.agg #[vN,vN])):=by kernel_rfl
theorem Kn:(acD.info? 211).map (·.zero)=some (some (.agg #[.int .i64 (0),vN,vN,vN,vN,vN,vN])):=by kernel_rfl
theorem Km:(acD.info? 228).map (·.zero)=some (some (.nilFunc)):=by kernel_rfl
theorem jW:(acD.info? 246).map (fun i=>(i.zero,i.size,i.bytes))=some (some (.agg #[.int .i64 (0),.int .i64 (0),.int .i64 (0)]),3,24):=by kernel_rfl
theorem xu:(acD.info? 246).map (·.zero)=some (some (.agg #[.int .i64 (0),.int .i64 (0),.int .i64 (0)])):=by kernel_rfl
theorem hJ:(acD.info? 248).map (fun i=>(i.zero,i.size,i.bytes))=some (some (.agg #[.int .i64 (0),.int .i64 (0),.int .i64 (0),.int .i64 (0),.int .i64 (0)]),5,40):=by kernel_rfl
theorem sB:(acD.info? 248).map (·.zero)=some (some (.agg #[.int .i64 (0),.int .i64 (0),.int .i64 (0),.int .i64 (0),.int .i64 (0)])):=by kernel_rfl
theorem Kl:(acD.info? 269).map (·.zero)=some (some (.agg #[vN,vN,vN,.map none,vN,vN])):=by kernel_rfl
theorem j4:(acD.info? 282).map (·.zero)=some (some (.agg #[.int .i64 (0),.int .i64 (0)])):=by kernel_rfl
end Go.Proofs.YtngkdkbpgoddlaaGreat
namespace Go.Proofs.YtngkdkbpgoddlaaGreat
open Go.RowKit Go.Rl
open Go.Gr Go.dj Go.jR
def wr (x:Int):Int:=adE.wrap x
theorem lW (a b:Int):adE.wrap (wr a+b)=wr (a+b):=by
  unfold wr aem
  have e1:(2:Int)^64=18446744073709551616:=by decide
  have e2:(2:Int)^(64-1)=9223372036854775808:=by decide
  simp only[adZ,ad0,agQ,decide_eq_true_eq,e1,e2]
  split<;>split<;>split<;>omega
theorem kn {α:Type} {l:List (List α)} {i:Nat} {r:List α} (h:l[i]?=some r):bZ (l.take (i+1))=bZ (l.take i)+r.length:=by
  unfold bZ;rw[dJ h];simp
theorem yd (gv fv ov iv cW cX:Value) (g:List Int) (far:List (List Int)) (outs ins:List (List I2)) (so si:List (List Int)) (hf ho hi gM gI:List Hd) (w:World) (hT:qe none_ w gv g fv hf far ov ho outs iv hi ins cW gM so cX gI si):aM acD 47 #[.agg #[gv,fv,ov,iv,cW,cX]] w fun r w'=>r=.int .i64 (wr ((g.length+far.length+outs.length+ins.length+so.length+si.length+(bZ far+bZ outs+bZ ins+bZ so+bZ si):Nat):Int))∧Ext w w':=by
 refine aM.aZ Tryz.func47 ?_
 rw[cH]
 have hN:=aH.nil w none_
 have ZE:hf.length=far.length:=hT.Ec.1
 have ZD:ho.length=outs.length:=hT.Bq.1
 have Qd:hi.length=ins.length:=hT.tie.1
 have Um:gM.length=so.length:=hT.qt.1
 have Ul:gI.length=si.length:=hT.qu.1
 refine RW.aN ?_
 refine RL.aL (bJ (cs:=[gv,fv,ov,iv,cW,cX]) rfl rfl hN ?_)
 clear hN
 intro g1 w1 (hN:aH w none_ w1 [_])
 refine RL.ag (v:=.int .i64 (0)) ai (RL.bY (RL.ag (ah acR rfl cc) (RL.ag (aj acz (hN.aJ 0 rfl)) ?_)))
 have iH:=(hT.tg.now hN).bw
 refine RL.ag (aQ acz (hT.tg.now hN)) (RL.ag (ah acR rfl fH) (RL.ag (aj acQ (hN.aJ 0 rfl)) ?_))
 have kH:=(hT.tf.now hN).bw
 refine RL.ag (aQ acQ (hT.tf.now hN)) (RL.ag (aD rfl rfl rfl (show arith .add .i64 (g.length:Int) (hf.length:Int)=wr ((g.length:Int)+far.length)from by rw[ZE];rfl)) (RL.ag (ah acR rfl je) (RL.ag (aj ac5 (hN.aJ 0 rfl)) ?_)))
 have r7:=(hT.to.now hN).bw
 refine RL.ag (aQ ac5 (hT.to.now hN)) (RL.ag (aD rfl rfl rfl (show arith .add .i64 (wr ((g.length:Int)+far.length)) (ho.length:Int)=wr ((g.length:Int)+far.length+outs.length)from by rw[ZD];exact lW _ _)) (RL.ag (ah acR rfl je) (RL.ag (aj ac5 (hN.aJ 0 rfl)) ?_)))
 have qP:=(hT.ti.now hN).bw
 refine RL.ag (aQ ac5 (hT.ti.now hN)) (RL.ag (aD rfl rfl rfl (show arith .add .i64 (wr ((g.length:Int)+far.length+outs.length)) (hi.length:Int)=wr ((g.length:Int)+far.length+outs.length+ins.length)from by rw[Qd];exact lW _ _)) (RL.ag (ah acR rfl fH) (RL.ag (aj acQ (hN.aJ 0 rfl)) ?_)))
 have AK:=(hT.Dm.now hN).bw
 refine RL.ag (aQ acQ (hT.Dm.now hN)) (RL.ag (aD rfl rfl rfl (show arith .add .i64 (wr ((g.length:Int)+far.length+outs.length+ins.length)) (gM.length:Int)=wr ((g.length:Int)+far.length+outs.length+ins.length+so.length)from by rw[Um];exact lW _ _)) (RL.ag (ah acR rfl fH) (RL.ag (aj acQ (hN.aJ 0 rfl)) ?_)))
 have Fm:=(hT.Dn.now hN).bw
 refine RL.ag (aQ acQ (hT.Dn.now hN)) (RL.ag (aD rfl rfl rfl (show arith .add .i64 (wr ((g.length:Int)+far.length+outs.length+ins.length+so.length)) (gI.length:Int)=wr ((g.length:Int)+far.length+outs.length+ins.length+so.length+si.length)from by rw[Ul];exact lW _ _)) (RL.ag (v:=.int .i64 ((wr ((g.length:Int)+far.length+outs.length+ins.length+so.length+si.length)))) ai (RL.ak ?_)))
 iterate 2 refine RW.seq ?_
 have UX:(wr ((g.length:Int)+far.length+outs.length+ins.length+so.length+si.length))=wr (((g.length:Int)+far.length+outs.length+ins.length+so.length+si.length)+(bZ (far.take 0):Int)):=congrArg wr (by rw[ae9];simp[bZ])
 rw[UX]
 refine RW.region (RL.ag (v:=.int .i64 (0)) ai (RL.ak (RW.block ?_)))
 refine RW.loop (fun k0 R0 cv=>∃i0:Nat,R0 1=vP g1∧R0 3=.int .i64 ((wr (((g.length:Int)+far.length+outs.length+ins.length+so.length+si.length)+(bZ (far.take i0):Int))))∧R0 4=vJ i0∧aH w none_ cv [.aJ g1 [gv,fv,ov,iv,cW,cX] 32]∧(i0+k0=hf.length)) (hf.length) ?_ ?_
 exact⟨0,rfl,rfl,rfl,hN,by omega⟩
 clear hN
 rintro k0 R0 cv ⟨i0,bN,cb,cu,hN,aaC⟩
 have cz:=k5 bN cb cu
 obtain⟨fV,rfl⟩:=cz
 clear bN cb cu
 iterate 2 refine RW.seq ?_
 refine RW.region (RL.ag (v:=vJ i0) U (RL.ag (ah acR rfl fH) (RL.ag (aj acQ (hN.aJ 0 rfl)) (RL.ag (aQ acQ (hT.tf.now hN)) (RL.ag (aK) (RL.ak ?_))))))
 refine RW.aG _ (fun Vc=>?_) (fun Vc=>?_)
 refine RW.skip (aA (RW.seq (RW.block (RW.region (RL.ag (v:=.int .i64 ((wr (((g.length:Int)+far.length+outs.length+ins.length+so.length+si.length)+(bZ (far.take i0):Int))))) U (RL.ag (ah acR rfl fH) (RL.ag (aj acQ (hN.aJ 0 rfl)) (RL.ag (v:=vJ i0) U (RL.ag (aC acQ cc (hT.tf.now hN)) ?_)))))))))
 have aO:=cQ (hf) i0
 obtain⟨ap0,CU⟩:=aO
 have aO:∃l_,(far)[i0]?=some l_:=⟨_,acM (by have:=hT.Ec.1;omega)⟩
 obtain⟨Zs,OC⟩:=aO
 refine RL.ag (aF (m:=i0) (a:=ap0) acz (hT.tf.now hN) CU) ?_
 have LJ:=((hT.Ec.ik CU OC).now hN).bw
 refine RL.ag (aQ acz ((hT.Ec.ik CU OC).now hN)) (RL.ag (aD rfl rfl rfl (show arith .add .i64 (wr (((g.length:Int)+far.length+outs.length+ins.length+so.length+si.length)+(bZ (far.take i0):Int))) (Zs.length:Int)=wr (((g.length:Int)+far.length+outs.length+ins.length+so.length+si.length)+(bZ (far.take (i0+1)):Int))from(lW _ _).trans (congrArg wr (by rw[kn OC];omega)))) (RL.ag (v:=.int .i64 ((wr (((g.length:Int)+far.length+outs.length+ins.length+so.length+si.length)+(bZ (far.take (i0+1)):Int))))) ai (RL.nil (ba (aA (RW.region (RL.ag (v:=vJ i0) U (RL.ag (aD rfl rfl rfl (bg (by omega) (by omega))) (RL.ag (v:=.int .i64 ((i0:Int)+1)) ai ?_)))))))))
 refine RL.ak ?_
 exact⟨k0-1,by omega,i0+1,rfl,rfl,rfl,hN,by omega⟩
 refine RW.exit ?_
 iterate 2 refine bP ?_
 refine aY (aA ?_)
 iterate 2 refine RW.seq ?_
 have vL:(wr (((g.length:Int)+far.length+outs.length+ins.length+so.length+si.length)+(bZ (far.take i0):Int)))=wr (((g.length:Int)+far.length+outs.length+ins.length+so.length+si.length)+(bZ far:Int)+(bZ (outs.take 0):Int)):=congrArg wr (by rw[ae9,ac2 (by omega:far.length≤i0)];simp[bZ])
 rw[vL]
 refine RW.region (RL.ag (v:=.int .i64 (0)) ai (RL.ak (RW.block ?_)))
 refine RW.loop (fun k1 R1 ez=>∃i1:Nat,R1 1=vP g1∧R1 3=.int .i64 ((wr (((g.length:Int)+far.length+outs.length+ins.length+so.length+si.length)+(bZ far:Int)+(bZ (outs.take i1):Int))))∧R1 5=vJ i1∧aH w none_ ez [.aJ g1 [gv,fv,ov,iv,cW,cX] 32]∧(i1+k1=ho.length)) (ho.length) ?_ ?_
 exact⟨0,rfl,rfl,rfl,hN,by omega⟩
 clear hN
 rintro k1 R1 ez ⟨i1,bN,cb,cy,hN,aaB⟩
 have cz:=k5 bN cb cy
 obtain⟨re,rfl⟩:=cz
 clear bN cb cy
 iterate 2 refine RW.seq ?_
 refine RW.region (RL.ag (v:=vJ i1) U (RL.ag (ah acR rfl je) (RL.ag (aj ac5 (hN.aJ 0 rfl)) (RL.ag (aQ ac5 (hT.to.now hN)) (RL.ag (aK) (RL.ak ?_))))))
 refine RW.aG _ (fun pP=>?_) (fun pP=>?_)
 refine RW.skip (aA (RW.seq (RW.block (RW.region (RL.ag (v:=.int .i64 ((wr (((g.length:Int)+far.length+outs.length+ins.length+so.length+si.length)+(bZ far:Int)+(bZ (outs.take i1):Int))))) U (RL.ag (ah acR rfl je) (RL.ag (aj ac5 (hN.aJ 0 rfl)) (RL.ag (v:=vJ i1) U (RL.ag (aC ac5 lx (hT.to.now hN)) ?_)))))))))
 have aO:=cQ (ho) i1
 obtain⟨WE,vT⟩:=aO
 have aO:∃l_,(outs)[i1]?=some l_:=⟨_,acM (by have:=hT.Bq.1;omega)⟩
 obtain⟨K5,qI⟩:=aO
 refine RL.ag (aF (m:=i1) (a:=WE) ac1 (hT.to.now hN) vT) ?_
 have Jp:=((hT.Bq.ik vT qI).now hN).bw
 refine RL.ag (bO ac1 ((hT.Bq.ik vT qI).now hN)) (RL.ag (aD rfl rfl rfl (show arith .add .i64 (wr (((g.length:Int)+far.length+outs.length+ins.length+so.length+si.length)+(bZ far:Int)+(bZ (outs.take i1):Int))) (K5.length:Int)=wr (((g.length:Int)+far.length+outs.length+ins.length+so.length+si.length)+(bZ far:Int)+(bZ (outs.take (i1+1)):Int))from(lW _ _).trans (congrArg wr (by rw[kn qI];omega)))) (RL.ag (v:=.int .i64 ((wr (((g.length:Int)+far.length+outs.length+ins.length+so.length+si.length)+(bZ far:Int)+(bZ (outs.take (i1+1)):Int))))) ai (RL.nil (ba (aA (RW.region (RL.ag (v:=vJ i1) U (RL.ag (aD rfl rfl rfl (bg (by omega) (by omega))) (RL.ag (v:=.int .i64 ((i1:Int)+1)) ai ?_)))))))))
 refine RL.ak ?_
 exact⟨k1-1,by omega,i1+1,rfl,rfl,rfl,hN,by omega⟩
 refine RW.exit ?_
 iterate 2 refine bP ?_
 refine aY (aA ?_)
 iterate 2 refine RW.seq ?_
 have Ay:(wr (((g.length:Int)+far.length+outs.length+ins.length+so.length+si.length)+(bZ far:Int)+(bZ (outs.take i1):Int)))=wr (((g.length:Int)+far.length+outs.length+ins.length+so.length+si.length)+(bZ far:Int)+(bZ outs:Int)+(bZ (ins.take 0):Int)):=congrArg wr (by rw[ae9,ac2 (by omega:outs.length≤i1)];simp[bZ])
 rw[Ay]
 refine RW.region (RL.ag (v:=.int .i64 (0)) ai (RL.ak (RW.block ?_)))
 refine RW.loop (fun k2 R2 gR=>∃i2:Nat,R2 1=vP g1∧R2 3=.int .i64 ((wr (((g.length:Int)+far.length+outs.length+ins.length+so.length+si.length)+(bZ far:Int)+(bZ outs:Int)+(bZ (ins.take i2):Int))))∧R2 6=vJ i2∧aH w none_ gR [.aJ g1 [gv,fv,ov,iv,cW,cX] 32]∧(i2+k2=hi.length)) (hi.length) ?_ ?_
 exact⟨0,rfl,rfl,rfl,hN,by omega⟩
 clear hN
 rintro k2 R2 gR ⟨i2,bN,cb,cV,hN,Vp⟩
 have cz:=k5 bN cb cV
 obtain⟨M9,rfl⟩:=cz
 clear bN cb cV
 iterate 2 refine RW.seq ?_
 refine RW.region (RL.ag (v:=vJ i2) U (RL.ag (ah acR rfl je) (RL.ag (aj ac5 (hN.aJ 0 rfl)) (RL.ag (aQ ac5 (hT.ti.now hN)) (RL.ag (aK) (RL.ak ?_))))))
 refine RW.aG _ (fun ep=>?_) (fun ep=>?_)
 refine RW.skip (aA (RW.seq (RW.block (RW.region (RL.ag (v:=.int .i64 ((wr (((g.length:Int)+far.length+outs.length+ins.length+so.length+si.length)+(bZ far:Int)+(bZ outs:Int)+(bZ (ins.take i2):Int))))) U (RL.ag (ah acR rfl je) (RL.ag (aj ac5 (hN.aJ 0 rfl)) (RL.ag (v:=vJ i2) U (RL.ag (aC ac5 lx (hT.ti.now hN)) ?_)))))))))
 have aO:=cQ (hi) i2
 obtain⟨sM,jD⟩:=aO
 have aO:∃l_,(ins)[i2]?=some l_:=⟨_,acM (by have:=hT.tie.1;omega)⟩
 obtain⟨K4,qH⟩:=aO
 refine RL.ag (aF (m:=i2) (a:=sM) ac1 (hT.ti.now hN) jD) ?_
 have Jq:=((hT.tie.ik jD qH).now hN).bw
 refine RL.ag (bO ac1 ((hT.tie.ik jD qH).now hN)) (RL.ag (aD rfl rfl rfl (show arith .add .i64 (wr (((g.length:Int)+far.length+outs.length+ins.length+so.length+si.length)+(bZ far:Int)+(bZ outs:Int)+(bZ (ins.take i2):Int))) (K4.length:Int)=wr (((g.length:Int)+far.length+outs.length+ins.length+so.length+si.length)+(bZ far:Int)+(bZ outs:Int)+(bZ (ins.take (i2+1)):Int))from(lW _ _).trans (congrArg wr (by rw[kn qH];omega)))) (RL.ag (v:=.int .i64 ((wr (((g.length:Int)+far.length+outs.length+ins.length+so.length+si.length)+(bZ far:Int)+(bZ outs:Int)+(bZ (ins.take (i2+1)):Int))))) ai (RL.nil (ba (aA (RW.region (RL.ag (v:=vJ i2) U (RL.ag (aD rfl rfl rfl (bg (by omega) (by omega))) (RL.ag (v:=.int .i64 ((i2:Int)+1)) ai ?_)))))))))
 refine RL.ak ?_
 exact⟨k2-1,by omega,i2+1,rfl,rfl,rfl,hN,by omega⟩
 refine RW.exit ?_
 iterate 2 refine bP ?_
 refine aY (aA ?_)
 iterate 2 refine RW.seq ?_
 have u7:(wr (((g.length:Int)+far.length+outs.length+ins.length+so.length+si.length)+(bZ far:Int)+(bZ outs:Int)+(bZ (ins.take i2):Int)))=wr (((g.length:Int)+far.length+outs.length+ins.length+so.length+si.length)+(bZ far:Int)+(bZ outs:Int)+(bZ ins:Int)+(bZ (so.take 0):Int)):=congrArg wr (by rw[ae9,ac2 (by omega:ins.length≤i2)];simp[bZ])
 rw[u7]
 refine RW.region (RL.ag (v:=.int .i64 (0)) ai (RL.ak (RW.block ?_)))
 refine RW.loop (fun k3 R3 P5=>∃i3:Nat,R3 1=vP g1∧R3 3=.int .i64 ((wr (((g.length:Int)+far.length+outs.length+ins.length+so.length+si.length)+(bZ far:Int)+(bZ outs:Int)+(bZ ins:Int)+(bZ (so.take i3):Int))))∧R3 7=vJ i3∧aH w none_ P5 [.aJ g1 [gv,fv,ov,iv,cW,cX] 32]∧(i3+k3=gM.length)) (gM.length) ?_ ?_
 exact⟨0,rfl,rfl,rfl,hN,by omega⟩
 clear hN
 rintro k3 R3 P5 ⟨i3,bN,cb,cC,hN,aaA⟩
 have cz:=k5 bN cb cC
 obtain⟨R3_,rfl⟩:=cz
 clear bN cb cC
 iterate 2 refine RW.seq ?_
 refine RW.region (RL.ag (v:=vJ i3) U (RL.ag (ah acR rfl fH) (RL.ag (aj acQ (hN.aJ 0 rfl)) (RL.ag (aQ acQ (hT.Dm.now hN)) (RL.ag (aK) (RL.ak ?_))))))
 refine RW.aG _ (fun yn=>?_) (fun yn=>?_)
 refine RW.skip (aA (RW.seq (RW.block (RW.region (RL.ag (v:=.int .i64 ((wr (((g.length:Int)+far.length+outs.length+ins.length+so.length+si.length)+(bZ far:Int)+(bZ outs:Int)+(bZ ins:Int)+(bZ (so.take i3):Int))))) U (RL.ag (ah acR rfl fH) (RL.ag (aj acQ (hN.aJ 0 rfl)) (RL.ag (v:=vJ i3) U (RL.ag (aC acQ cc (hT.Dm.now hN)) ?_)))))))))
 have aO:=cQ (gM) i3
 obtain⟨WD,Fi⟩:=aO
 have aO:∃l_,(so)[i3]?=some l_:=⟨_,acM (by have:=hT.qt.1;omega)⟩
 obtain⟨K3,qG⟩:=aO
 refine RL.ag (aF (m:=i3) (a:=WD) acz (hT.Dm.now hN) Fi) ?_
 have S1:=((hT.qt.ik Fi qG).now hN).bw
 refine RL.ag (aQ acz ((hT.qt.ik Fi qG).now hN)) (RL.ag (aD rfl rfl rfl (show arith .add .i64 (wr (((g.length:Int)+far.length+outs.length+ins.length+so.length+si.length)+(bZ far:Int)+(bZ outs:Int)+(bZ ins:Int)+(bZ (so.take i3):Int))) (K3.length:Int)=wr (((g.length:Int)+far.length+outs.length+ins.length+so.length+si.length)+(bZ far:Int)+(bZ outs:Int)+(bZ ins:Int)+(bZ (so.take (i3+1)):Int))from(lW _ _).trans (congrArg wr (by rw[kn qG];omega)))) (RL.ag (v:=.int .i64 ((wr (((g.length:Int)+far.length+outs.length+ins.length+so.length+si.length)+(bZ far:Int)+(bZ outs:Int)+(bZ ins:Int)+(bZ (so.take (i3+1)):Int))))) ai (RL.nil (ba (aA (RW.region (RL.ag (v:=vJ i3) U (RL.ag (aD rfl rfl rfl (bg (by omega) (by omega))) (RL.ag (v:=.int .i64 ((i3:Int)+1)) ai ?_)))))))))
 refine RL.ak ?_
 exact⟨k3-1,by omega,i3+1,rfl,rfl,rfl,hN,by omega⟩
 refine RW.exit ?_
 iterate 2 refine bP ?_
 refine aY (aA ?_)
 iterate 2 refine RW.seq ?_
 have u6:(wr (((g.length:Int)+far.length+outs.length+ins.length+so.length+si.length)+(bZ far:Int)+(bZ outs:Int)+(bZ ins:Int)+(bZ (so.take i3):Int)))=wr (((g.length:Int)+far.length+outs.length+ins.length+so.length+si.length)+(bZ far:Int)+(bZ outs:Int)+(bZ ins:Int)+(bZ so:Int)+(bZ (si.take 0):Int)):=congrArg wr (by rw[ae9,ac2 (by omega:so.length≤i3)];simp[bZ])
 rw[u6]
 refine RW.region (RL.ag (v:=.int .i64 (0)) ai (RL.ak (RW.block ?_)))
 refine RW.loop (fun k4 R4 P3=>∃i4:Nat,R4 1=vP g1∧R4 3=.int .i64 ((wr (((g.length:Int)+far.length+outs.length+ins.length+so.length+si.length)+(bZ far:Int)+(bZ outs:Int)+(bZ ins:Int)+(bZ so:Int)+(bZ (si.take i4):Int))))∧R4 8=vJ i4∧aH w none_ P3 [.aJ g1 [gv,fv,ov,iv,cW,cX] 32]∧(i4+k4=gI.length)) (gI.length) ?_ ?_
 exact⟨0,rfl,rfl,rfl,hN,by omega⟩
 clear hN
 rintro k4 R4 P3 ⟨i4,bN,cb,cM,hN,aaz⟩
 have cz:=k5 bN cb cM
 obtain⟨R4_,rfl⟩:=cz
 clear bN cb cM
 iterate 2 refine RW.seq ?_
 refine RW.region (RL.ag (v:=vJ i4) U (RL.ag (ah acR rfl fH) (RL.ag (aj acQ (hN.aJ 0 rfl)) (RL.ag (aQ acQ (hT.Dn.now hN)) (RL.ag (aK) (RL.ak ?_))))))
 refine RW.aG _ (fun OA=>?_) (fun OA=>?_)
 refine RW.skip (aA (RW.seq (RW.block (RW.region (RL.ag (v:=.int .i64 ((wr (((g.length:Int)+far.length+outs.length+ins.length+so.length+si.length)+(bZ far:Int)+(bZ outs:Int)+(bZ ins:Int)+(bZ so:Int)+(bZ (si.take i4):Int))))) U (RL.ag (ah acR rfl fH) (RL.ag (aj acQ (hN.aJ 0 rfl)) (RL.ag (v:=vJ i4) U (RL.ag (aC acQ cc (hT.Dn.now hN)) ?_)))))))))
 have aO:=cQ (gI) i4
 obtain⟨ap4,Pb⟩:=aO
 have aO:∃l_,(si)[i4]?=some l_:=⟨_,acM (by have:=hT.qu.1;omega)⟩
 obtain⟨Zr,OB⟩:=aO
 refine RL.ag (aF (m:=i4) (a:=ap4) acz (hT.Dn.now hN) Pb) ?_
 have MT:=((hT.qu.ik Pb OB).now hN).bw
 refine RL.ag (aQ acz ((hT.qu.ik Pb OB).now hN)) (RL.ag (aD rfl rfl rfl (show arith .add .i64 (wr (((g.length:Int)+far.length+outs.length+ins.length+so.length+si.length)+(bZ far:Int)+(bZ outs:Int)+(bZ ins:Int)+(bZ so:Int)+(bZ (si.take i4):Int))) (Zr.length:Int)=wr (((g.length:Int)+far.length+outs.length+ins.length+so.length+si.length)+(bZ far:Int)+(bZ outs:Int)+(bZ ins:Int)+(bZ so:Int)+(bZ (si.take (i4+1)):Int))from(lW _ _).trans (congrArg wr (by rw[kn OB];omega)))) (RL.ag (v:=.int .i64 ((wr (((g.length:Int)+far.length+outs.length+ins.length+so.length+si.length)+(bZ far:Int)+(bZ outs:Int)+(bZ ins:Int)+(bZ so:Int)+(bZ (si.take (i4+1)):Int))))) ai (RL.nil (ba (aA (RW.region (RL.ag (v:=vJ i4) U (RL.ag (aD rfl rfl rfl (bg (by omega) (by omega))) (RL.ag (v:=.int .i64 ((i4:Int)+1)) ai ?_)))))))))
 refine RL.ak ?_
 exact⟨k4-1,by omega,i4+1,rfl,rfl,rfl,hN,by omega⟩
 refine RW.exit ?_
 iterate 2 refine bP ?_
 refine aY (aA (RW.aN (RL.ag (v:=.int .i64 ((wr (((g.length:Int)+far.length+outs.length+ins.length+so.length+si.length)+(bZ far:Int)+(bZ outs:Int)+(bZ ins:Int)+(bZ so:Int)+(bZ (si.take i4):Int))))) U (RL.ag (v:=.int .i64 ((wr (((g.length:Int)+far.length+outs.length+ins.length+so.length+si.length)+(bZ far:Int)+(bZ outs:Int)+(bZ ins:Int)+(bZ so:Int)+(bZ (si.take i4):Int))))) ai (RL.ak (RW.ret (bc (RV.tmp rfl) ?_)))))))
 exact⟨congrArg (ac4 .i64) (congrArg wr (by rw[ac2 (by omega:si.length≤i4)];omega)),hN.aX⟩
end Go.Proofs.YtngkdkbpgoddlaaGreat
namespace Go.Gr
open Go.Rl
def jo : List I5 → Nat → List (Kk I2)
  |[],_=>[]
  |x::r,k=>((x.1,x.2.1),.int .i64 (k:Int),k)::jo r (k+1)
theorem Fs (x:I5):∀(l:List I5) (k:Nat),jo (l++[x]) k=jo l k++[((x.1,x.2.1),.int .i64 ((k+l.length:Nat):Int),k+l.length)]:=by
  intro l
  induction l with
  |nil=>intro k;rfl
  |cons a r ih=>intro k;simp only[ag8,jo,ih,acK];rw[show k+1+r.length=k+(r.length+1) by omega]
theorem JD {ws:List I5} {i:Nat} {x:I5} (h:ws[i]?=some x):jo (ws.take (i+1)) 0=jo (ws.take i) 0++[((x.1,x.2.1),.int .i64 (i:Int),i)]:=by
  have hi:=(acF.1 h).1
  rw[dJ h,Fs,ac9,ahp (by omega),aeY]
theorem ko {u v:Int}:∀{l:List I5} {k:Nat},(∀y∈l,¬gH u v y)→kM (u,v) (jo l k) k=none:=by
  intro l
  induction l with
  |nil=>intro k _;rfl
  |cons a r ih=>
    intro k h
    simp only[jo,kM]
    rw[if_neg (fun e=>h a (adV ..) (by simp only[ah4]at e;exact⟨e.1.symm,e.2.symm⟩))]
    exact ih fun y hy=>h y (adG _ hy)
theorem mj {u v:Int}:∀{l:List I5} {k i:Nat} {x:I5},l[i]?=some x→gH u v x→(∀y∈l.take i,¬gH u v y)→kM (u,v) (jo l k) k=some (k+i,.int .i64 ((k+i:Nat):Int)):=by
  intro l
  induction l with
  |nil=>intro k i x h;cases h
  |cons a r ih=>
    intro k i x h hp hb
    simp only[jo,kM]
    cases i with
    |zero=>
      cases h
      rw[if_pos (by rw[←hp.1,←hp.2])];rfl
    |succ i=>
      rw[if_neg (fun e=>hb a (adV ..) (by simp only[ah4]at e;exact⟨e.1.symm,e.2.symm⟩))]
      rw[ih h hp fun y hy=>hb y (adG _ hy),show k+1+i=k+(i+1) by omega]
def kd (rk:List Int) (ws:List I5):Prop:=∀(i:Nat) (x:I5),ws[i]?=some x→yV rk ws i x
theorem lN {rk:List Int} {ws:List I5} {i j:Nat} {x y:I5} (hx:ws[i]?=some x) (hy:(ws.take i)[j]?=some y) (hp:gH x.1 x.2.1 y):¬kd rk ws:=fun h=>by
  have h1:=(h i x hx).2.2.2.2.2
  have yo:=(acF.1 hy).1
  rw[ac9]at yo
  rcases fg (gH x.1 x.2.1) ws with⟨e,_⟩|⟨q,z,e,_,_,hb⟩
  · omega
  · have : q = i := by omega
    subst this
    exact hb y (acC hy) hp
def mA (rk:List Int):Prop:=∀k:Nat,k<rk.length→(k:Int)∈rk
theorem Bb:∀(n:Nat) (l:List Int),(∀k:Nat,k<n→(k:Int)∈l)→n≤l.length:=by
  intro n
  induction n with
  |zero=>intro l _;omega
  |succ n ih=>
    intro l h
    have hm:=h n (by omega)
    have h1:=ih (l.erase (n:Int)) fun k hk=>(agr (by omega)).2 (h k (by omega))
    rw[afc hm]at h1
    have:=af3 hm
    omega
theorem mI {l:List Int} {j:Nat} {x y:Int} (hx:x∈l) (hj:l[j]?=some y) (dX:x≠y):x∈l.eraseIdx j:=by
  obtain⟨q,hq⟩:=ade hx
  have hqj:q≠j:=fun e=>by subst e;rw[hq]at hj;cases hj;exact dX rfl
  refine acC (i:=if q<j then q else q-1) ?_
  rw[ahx]
  by_cases h:q<j
  · rw[if_pos h,if_pos h];exact hq
  · rw[if_neg h,if_neg (by omega),show q-1+1=q by omega];exact hq
theorem tC {rk:List Int} {i:Nat} {x:Int} (hx:rk[i]?=some x) (h:x<0∨(rk.length:Int)≤x):¬mA rk:=fun hr=>by
  have hi:=(acF.1 hx).1
  have h1:=Bb rk.length (rk.eraseIdx i) fun k hk=>mI (hr k hk) hx (by omega)
  rw[ahZ,if_pos hi]at h1
  omega
theorem GX {rk:List Int} {i j:Nat} {x:Int} (hx:rk[i]?=some x) (hy:rk[j]?=some x) (dX:j<i):¬mA rk:=fun hr=>by
  have hi:=(acF.1 hx).1
  have h1:=Bb rk.length (rk.eraseIdx i) fun k hk=>by
    by_cases e:(k:Int)=x
    · rw [e]
      refine acC (i:=j) ?_
      rw[ahx,if_pos dX];exact hy
    · exact mI (hr k hk) hx e
  rw[ahZ,if_pos hi]at h1
  omega
structure jt (rk pl:List Int) (i:Nat):Prop where
  len:pl.length=rk.length
  is:∀(k:Nat) v,pl[k]?=some v→v= -1∨(0≤v∧v<i∧rk[v.toNat]?=some (k:Int))
  JS:pl.count (-1)+i=rk.length
theorem jt.start (rk:List Int):jt rk (ac3 rk.length (-1)) 0:=
  ⟨adb,fun k v h=>.inl (by rw[aeB]at h;split at h<;>simp_all),by rw[List.count_replicate_self];rfl⟩
theorem jt.step {rk pl:List Int} {i:Nat} {k:Int} (h:jt rk pl i) (hk:rk[i]?=some k) (h0:0≤k) (h1:k<rk.length) (hf:pl[k.toNat]?=some (-1)):jt rk (pl.set k.toNat (i:Int)) (i+1):=by
  have hl:=h.len
  refine⟨by rw[adO];exact hl,fun q v hq=>?_,?_⟩
  · rw [adp] at hq
    split at hq
    · rename_i e; subst e
      rw[if_pos (by omega)]at hq
      cases hq
      exact .inr ⟨by omega,by omega,by rw[aek,aeu h0];exact hk⟩
    · rcases h.is q v hq with e | ⟨e1, e2, e3⟩
      · exact .inl e
      · exact .inr ⟨e1,by omega,e3⟩
  · have cD : k.toNat < pl.length := by omega
    have he:pl[k.toNat]= -1:=(acF.1 hf).2
    have hc:=h.JS
    have hp:0<pl.count (-1):=List.count_pos_iff.2 (acC hf)
    rw[List.count_set cD,he]
    have:((i:Int) == -1)=false:=by simp
    simp only[beq_self_eq_true,if_true,this]
    simp only[adT,if_false]
    omega
theorem jt.all {rk pl:List Int} (h:jt rk pl rk.length):mA rk:=fun k hk=>by
  have hc:=h.JS
  have h0:pl.count (-1)=0:=by omega
  rw[List.count_eq_zero]at h0
  have hl:=h.len
  obtain⟨v,hv⟩:∃v,pl[k]?=some v:=⟨_,acM (by omega)⟩
  rcases h.is k v hv with e|⟨_,_,e3⟩
  · subst e;exact absurd (acC hv) h0
  · exact acC e3
theorem jt.dup {rk pl:List Int} {i:Nat} {k v:Int} (h:jt rk pl i) (hk:rk[i]?=some k) (h0:0≤k) (hv:pl[k.toNat]?=some v) (dX:¬v= -1):¬mA rk:=by
  rcases h.is _ v hv with e|⟨e1,e2,e3⟩
  · exact absurd e dX
  · rw [aeu h0] at e3
    exact GX hk e3 (by omega)
theorem kq {rk:List Int} {ws:List I5}:lg rk ws↔mA rk∧kd rk ws∧∀(i:Nat) (x:I5),ws[i]?=some x→if x.2.2.2.1= -1 then 0≤x.2.2.2.2∧x.2.2.2.2<67108864 else Bm rk ws x:=
  ⟨fun h=>⟨h.1,fun i x hx=>(h.2 i x hx).1,fun i x hx=>(h.2 i x hx).2⟩,fun h=>⟨h.1,fun i x hx=>⟨h.2.1 i x hx,h.2.2 i x hx⟩⟩⟩
def gD (a b:Int):Value:=.tuple #[.int .i64 (max 0 a),.int .i64 (max 0 b),.bool (decide (0≤a∧0≤b))]
theorem uH (a b:Nat):gD a b=.tuple #[.int .i64 (a:Int),.int .i64 (b:Int),.bool true]:=by unfold gD;rw[age (by omega),age (by omega),decide_eq_true (by omega)]
theorem uI (a:Nat):gD a (-1)=.tuple #[.int .i64 (a:Int),.int .i64 0,.bool false]:=by unfold gD;rw[age (by omega),aht (by omega),decide_eq_false (by omega)]
theorem uJ (b:Nat):gD (-1) b=.tuple #[.int .i64 0,.int .i64 (b:Int),.bool false]:=by unfold gD;rw[aht (by omega),age (by omega),decide_eq_false (by omega)]
theorem uK:gD (-1) (-1)=.tuple #[.int .i64 0,.int .i64 0,.bool false]:=by unfold gD;rw[aht (by omega),decide_eq_false (by omega)]
def gg (rk:List Int) (ws:List I5) (x:I5):Prop:=if x.2.2.2.1= -1 then 0≤x.2.2.2.2∧x.2.2.2.2<67108864 else Bm rk ws x
noncomputable instance (rk:List Int) (ws:List I5) (x:I5):Decidable (gg rk ws x):=adv _
theorem ld {κ:Type} [DecidableEq κ] {ke:κ→Value} {l:List (Kk κ)} {m c:Nat} {w w':World} (h:w.heap[m]?=some (.map (kC ke l) c)) (he:Ext w w'):w'.heap[m]?=some (.map (kC ke l) c):=by
  rw[he.block m (adr.1 h).1 (fun e=>e)];exact h
theorem xe {rk:List Int} {ws:List I5} (h:16777216<rk.length∨67108864<ws.length):dV rk ws=3:=by unfold dV;rw[if_pos h]
theorem pW {rk:List Int} {ws:List I5} (h:¬(16777216<rk.length∨67108864<ws.length)) (h2:¬lg rk ws):dV rk ws=2:=by unfold dV;rw[if_neg h,if_neg h2]
theorem xd {rk:List Int} {ws:List I5} (h:¬(16777216<rk.length∨67108864<ws.length)) (h2:lg rk ws):dV rk ws=0:=by unfold dV;rw[if_neg h,if_pos h2]
end Go.Gr
namespace Go.Gr
open Go.Rl
theorem Dc {ws:List I5} (h:ws.Pairwise ix) {i:Nat} {x:I5} (hx:ws[i]?=some x):∀y∈ws.take i,¬gH x.1 x.2.1 y:=by
  intro y hy hp
  obtain⟨j,hj,he⟩:=ae6.1 hy
  obtain⟨hi,Mm⟩:=acF.1 hx
  have:=ae3.1 h j i (by omega) hi (by omega)
  rw[he,Mm]at this
  exact this hp
theorem uP {ws:List I5} (h:ws.Pairwise ix) {i:Nat} {x:I5} (hx:ws[i]?=some x):kV (gH x.1 x.2.1) ws=(i:Int):=nK (Dc h hx) hx ⟨rfl,rfl⟩
theorem tA {l:List Int} (h:l.Pairwise fun e f=>e<f):∀(i:Nat) (x y:Int),l[i]?=some x→l[i+1]?=some y→x<y:=by
  intro i x y hx hy
  obtain⟨h1,e1⟩:=acF.1 hx
  obtain⟨h2,e2⟩:=acF.1 hy
  have:=ae3.1 h i (i+1) h1 h2 (by omega)
  rw[e1,e2]at this
  exact this
theorem Jv {rk:List Int} {lo x:Int} {n:Nat} (h0:0≤x) (h1:x<n) (h:o8 rk lo x.toNat):x∈b8 rk lo n:=by
  unfold b8
  refine adg.2 ⟨x.toNat,adP.2 ⟨adU.2 (by omega),decide_eq_true h⟩,?_⟩
  show(x.toNat:Int)=x
  omega
theorem xm {n:Nat} {l:List I3} {rk ins:List Int} {ways ls:List I5} (h:zh n l n rk ways ins ls) {v:Int} (h0:0≤v) (h1:v<n):Tk n ins v:=by
  have hl:=h.tok.ins
  have hc:=h.JS
  refine⟨h0,h1,?_⟩
  obtain⟨x,hx⟩:∃x,ins[v.toNat]?=some x:=⟨_,acM (by omega)⟩
  rcases h.bit x (acC hx)with e|e
  · rw[hx,e]
  · have:0<vC ins:=by
      unfold vC
      exact af3 (adP.2 ⟨acC hx,decide_eq_true e⟩)
    omega
theorem Np:iU 12=8796093022208:=by decide
theorem EW {n:Nat} {l:List I3} {rk ins:List Int} {ways ls:List I5} (h:zh n l n rk ways ins ls) (hl:l.length≤67108864):lg rk ways:=by
  have hr:=h.zO
  refine⟨fun k hk=>?_,fun i x hx=>?_⟩
  · obtain ⟨v, _, hv⟩ := h.QO k (by omega)
    exact acC hv
  have hm:=acC hx
  obtain⟨a1,a2,a3,a4,a5,a6⟩:=h.ws x hm
  rw[Np]at a6
  obtain⟨b1,b2⟩:=h.TZ x hm
  obtain⟨c1,c2⟩:=h.TY x hm
  refine⟨⟨⟨a1,by omega⟩,⟨a3,by omega⟩,b1,a5,by omega,uP h.Tr hx⟩,?_⟩
  by_cases hq:x.2.2.2.1= -1
  · rw [if_pos hq]
    rcases c1 with⟨_,d2,d3⟩|⟨d1,_⟩
    · have := (acF.1 d3).1
      exact⟨d2,by omega⟩
    · have:=d1.1;omega
  · rw [if_neg hq]
    rcases c1 with⟨d1,_⟩|⟨d1,d2,a,b,ha,hb,e1,e2,e3,e4,e5⟩
    · exact absurd d1 hq
    · obtain ⟨k1, k2⟩ := c2 d1.1
      refine⟨d2,⟨d1.1,by have:=d1.2.1;omega⟩,fun p q hp hq=>?_,fun p q hp hq=>?_,?_⟩
      · obtain ⟨p', q', h1, h2, h3⟩ := k1 (xm h a1 a2)
        rw[h1]at hp;rw[h2]at hq;cases hp;cases hq;exact h3
      · obtain ⟨p', q', h1, h2, h3⟩ := k2 (xm h a3 a4)
        rw[h1]at hp;rw[h2]at hq;cases hp;cases hq;exact h3
      · obtain ⟨i1, h1⟩ := ade ha
        obtain⟨i2,h2⟩:=ade hb
        refine⟨i1,i2,a,b,?_,h1,?_,h2,?_⟩
        · rw[←e1,←e2];exact uP h.Tr h1
        · rw[←e3,←e4];exact uP h.Tr h2
        · rw[Bx (by omega) (by omega)];exact e5
theorem EV {n:Nat} {rk:List Int} {lo:Int} {far so si:List (List Int)} {outs ins:List (List I2)} (h:mB n rk lo (b8 rk lo n) far outs ins so si):q9 n (b8 rk lo n) far outs ins so si:=by
  have H0:∀(r:List I2),iz n rk lo r→(∀x∈r,dh 0 x.2)∧iw n (qj (b8 rk lo n) 1) (r.map fun x=>x.1):=fun r hr=>by
    refine⟨fun x hx=>?_,⟨fun x hx=>?_,tA ?_⟩⟩
    · have := hr.ok x hx
      exact⟨by omega,by omega⟩
    · obtain ⟨e, he, rfl⟩ := adg.1 hx
      have h1:=hr.ok e he
      have h2:=hr.high e he
      refine⟨⟨by omega,by omega⟩,fun _=>?_⟩
      rw[if_pos (Jv (by omega) (by omega) h2)]
    · rw[aeD];exact hr.KJ
  have Si:∀(r:List Int),mC n rk lo r→iw n (qj (b8 rk lo n) 0) r:=fun r hr=>⟨fun x hx=>⟨hr.ok x hx,fun _=>by rw[if_neg (fun hm=>hr.low x hx (nu hm).2.2)]⟩,tA hr.KJ⟩
  obtain⟨l1,l2,l3,l4⟩:=h.lens
  refine⟨by omega,⟨fun x hx=>⟨?_,fun hc=>absurd hc (by decide)⟩,tA (kU ..)⟩,⟨h.C1,fun i r hr=>?_⟩,⟨fun r hr=>H0 r (h.HB r hr).1,by omega⟩,⟨fun r hr=>H0 r (h.Mj r hr).1,by omega⟩,⟨fun r hr=>Si r (h.Q5 r hr).1,by omega⟩,⟨fun r hr=>Si r (h.Q6 r hr).1,by omega⟩⟩
  · obtain ⟨h1, h2, _⟩ := nu hx
    exact⟨h1,h2⟩
  · obtain ⟨h1, h2⟩ := h.HC.1 r (acC hr)
    have hi:=(acF.1 hr).1
    have hl:=h.C1
    obtain⟨s,hs⟩:∃s,(b8 rk lo n)[i]?=some s:=⟨_,acM (by omega)⟩
    refine⟨h1,h.HC.2 i s r hs hr i hs,fun x hx=>?_⟩
    have:=h2 x hx
    exact⟨this.1,by omega⟩
theorem Hp {n:Nat} {l:List I3} {rk ins:List Int} {ways ls:List I5} {lo:Int} {far so si:List (List Int)} {outs jC:List (List I2)} (hm:dU n l=0) (hn:n≤12) (h:zh n l n rk ways ins ls) (hT:mB n rk lo (b8 rk lo n) far outs jC so si):
    dx n l rk ways (b8 rk lo n) far outs jC so si=0:=by
  obtain⟨_,_,m2,_⟩:=nZ hm
  have hr:=h.zO
  have hw:=h.QB
  unfold dx
  have h1:dV rk ways=0:=xd (by omega) (EW h m2)
  have h2:dD n (b8 rk lo n) far outs jC so si=0:=by
    unfold dD
    rw[if_neg (by omega),if_pos (EV hT)]
  rw[if_neg (by rw[hm];decide),if_neg (by rw[h1];decide),if_neg (by rw[h2];decide),if_pos]
  refine⟨by omega,fun x hx hq=>?_⟩
  rcases(h.TY x hx).1 with⟨_,_,d3⟩|⟨d1,_⟩
  · exact d3
  · have:=d1.1;omega
end Go.Gr
namespace Go.Gr
open Go.Rl Go.dj Go.jR
theorem wV {n:Nat} {l:List I3} {rk ins:List Int} {ways ls:List I5} {lo:Int} {g:List Int} {far so si:List (List Int)} {outs jC:List (List I2)} (hm:dU n l=0) (hn:n≤12) (h:zh n l n rk ways ins ls) (hT:mB n rk lo g far outs jC so si):dx n l rk ways g far outs jC so si=0:=by
  have e:=hT.DF
  subst e
  exact Hp hm hn h hT
theorem NS {n:Int} {P:Int→Prop} {l:List Int} (h:iw n P l):∀(i:Nat) (x:Int),l[i]?=some x→(i:Int)≤x:=by
  intro i
  induction i with
  |zero=>intro x hx;exact(h.1 x (acC hx)).1.1
  |succ i ih=>
    intro x hx
    have hi:=(acF.1 hx).1
    obtain⟨y,hy⟩:∃y,l[i]?=some y:=⟨_,acM (by omega)⟩
    have h1:=ih y hy
    have h2:=h.2 i y x hy hx
    omega
theorem pF {n:Int} {P:Int→Prop} {l:List Int} (h:iw n P l) (hn:0≤n):(l.length:Int)≤n:=by
  rcases aex l.length with e|e
  · omega
  · obtain ⟨x, hx⟩ : ∃ x, l[l.length - 1]? = some x := ⟨_, acM (by omega)⟩
    have h1:=NS h _ x hx
    have h2:=(h.1 x (acC hx)).1.2
    omega
theorem Bd {x:qg} {A R:Nat} (h:nB x=0) (h1:x.ar.length≤A) (h2:x.rk.length≤R) (h3:x.ws.length≤A):Bk A R R x.ar x.rk x.ws x.g x.far x.outs x.ins x.so x.si:=by
  obtain⟨_,_,_,_,hT,ZU,_⟩:=DI h
  obtain⟨t0,tg,tf,to,ti,ts,tu⟩:=hT
  have hg:=pF tg t0
  have hf:=tf.1
  have l1:=to.2
  have l2:=ti.2
  have l3:=ts.2
  have l4:=tu.2
  refine⟨h1,h2,h3,by omega,⟨by omega,fun r hr=>?_⟩,⟨by omega,fun r hr=>?_⟩,⟨by omega,fun r hr=>?_⟩,⟨by omega,fun r hr=>?_⟩,⟨by omega,fun r hr=>?_⟩⟩
  · obtain ⟨i, hi⟩ := ade hr
    have:=(tf.2 i r hi).1
    omega
  · have := pF (to.1 r hr).2 t0
    rw[ada]at this;omega
  · have := pF (ti.1 r hr).2 t0
    rw[ada]at this;omega
  · have:=pF (ts.1 r hr) t0;omega
  · have:=pF (tu.1 r hr) t0;omega
theorem qa {x:qg} {A R K:Nat} (h:nB x=0) (hs:Bk A R K x.ar x.rk x.ws x.g x.far x.outs x.ins x.so x.si) (hA:A≤300) (hR:R≤300) (hK:K≤1000):uU (dC (iJ x))=some x:=by
  have hm:=hs.ES (n:=x.n)
  have h1:K*(4+8*K)≤1000*8004:=afv hK (by omega)
  have h2:K*(8+16*K)≤1000*16008:=afv hK (by omega)
  have Az:fO (iJ x)≤4000000000:=by
    refine acU hm ?_
    omega
  exact JP (LU h (Er Az) (by decide)) (by omega) h
end Go.Gr
