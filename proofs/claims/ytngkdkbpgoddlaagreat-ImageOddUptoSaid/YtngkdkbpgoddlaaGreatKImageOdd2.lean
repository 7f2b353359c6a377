/- The law ImageOdd: texts that its row leans on (2). -/
import Derived.Test.YtngkdkbpgoddlaaGreatKImageOdd1
set_option linter.unusedVariables false
set_option linter.unusedSimpArgs false
set_option linter.unusedSectionVars false
set_option maxHeartbeats 4000000
set_option maxRecDepth 100000
open Array renaming getElem?_eq_some_iff → ado, replicate → aes, getElem?_eq_getElem → aeM, getElem?_eq_none → aeU, toList_map → af6, size_append → agO, setIfInBounds_comm → agW
open BitVec renaming ofInt → ad5, ofNat → afe, eq_of_getLsbD_eq → afj, getLsbD_and → afm, eq_of_toNat_eq → afx, getLsbD_ushiftRight → afF, toNat_ushiftRight → afL, ushiftRight_xor_distrib → agl, getLsbD_setWidth → ahg, toNat_ofInt → aic, getLsbD_xor → aie, xor_zero → ai8
open Bool renaming false_eq_true → adP, false_and → aeh, true_and → agK
open Classical renaming propDecidable → adt, byContradiction → aeN, choose_spec → agd, choose → aiZ
open Decidable renaming not_not → acU
open Function renaming comp → ajq
open Go.Act renaming put_comm → afu
open Go.Builtin renaming zeroCells → agQ, min_ → ajv, min2 → ajw
open Go.CallsIn renaming mono → agX
open Go.DataW renaming weightsEach → aeB, Trod → ahP
open Go.Instr renaming sureAddr → aen, fill → ae3, sliceBounds → afr, sliceBound → afB, checkKey → afR, sliceAt → af5, loadAt → age, sameBits → agz, slice → agA, findAsking → agY, findNow → ah2, makeFunc → ajf, findKey → ajm, build → akr
open Go.IntKind renaming i64 → adC, bits → adR, signed → adS, u64 → aeb, wrap → aeg, u32 → aeX, u8 → agk
open Go.MapKept renaming run_checkKey → ahT, IsKey → ajp
open Go.Op renaming equalIn → ahO, eqFields → aiL
open Go.Oper renaming uponIn → afo, semAt_none → ahh
open Go.Proofs.Tryz renaming underlying25 → acu, prog → acx, underlying29 → acJ, underlying32 → acK, underlying118 → acW, underlying30 → ac0
open Go.Region renaming ready → adu, wanted → adJ, noSelect → aeD, binds → aft, free → afG, noSelect_spec → ahR, free_spec → ai0
open Go.Result renaming andThen_ok → adI
open Go.RoundIn renaming mono → ah8
open Go.RowsIn renaming mono → aiK
open Go.Sem renaming run_bind → ady, run_pure → ael
open Go.TypeDesc renaming isRow → ahG
open Go.Value renaming bool → acO, int → acZ, oneCell' → agx, okWide → aif
open Go.World renaming cell?_of_block → aeP
open Int renaming natCast_nonneg → adU, toNat_natCast → aee, toNat_of_nonneg → aer, mul_le_mul_of_nonneg_right → aeu, fdiv_eq_ediv_of_nonneg → aeZ, ofNat → afl, le_trans → afw, max_eq_right → aga, emod_nonneg → agi, emod_lt_of_pos → agF, add_mul_emod_self_left → agL, max_eq_left → ahm, le_refl → ahp, tmod_add_mul_tdiv → ahH, tmod_lt_of_pos → aib, emod_eq_of_lt → aiE, lt_trichotomy → aiF
open List renaming length_append → acw, mem_of_getElem? → acy, getElem?_eq_some_iff → acA, getElem?_eq_getElem → acE, length_cons → acF, length_nil → acN, not_mem_nil → acV, take_of_length_le → acX, replicate → acY, mem_cons → ac1, length_map → ac4, length_take → ac5, flatten_cons → ac6, length_replicate → ac7, getElem?_of_mem → ac9, map_cons → adb, mem_singleton → ade, mem_map → adf, length → adg, getElem?_set → adi, append_nil → adj, append_assoc → adk, mem_append → adl, take_length → adn, getElem?_append_right → adp, length_drop → adq, getElem?_append_left → ads, mem_cons_of_mem → adv, range → adz, getElem?_map → adE, eq_nil_of_length_eq_zero → adF, length_set → adG, mem_cons_self → adH, mem_filter → adK, mem_range → adQ, map_toArray → adW, getD_eq_getElem?_getD → adX, map_append → adZ, take_succ_eq_append_getElem → ad0, getElem?_eq_none → ad2, sum_cons → ad4, map_nil → ad6, getElem?_take → ad8, mem_append_left → ad9, filter_cons → aec, map_map → aem, flatten_append → aeq, filter_append → aev, flatten_nil → aew, pairwise_append → aez, getElem?_replicate → aeA, pairwise_map → aeC, nil_append → aeE, range_succ → aeF, mem_append_right → aeI, length_filter_le → aeJ, drop_eq_getElem_cons → aeL, ext_getElem → aeT, flatMap_cons → ae0, take_add_one → ae1, pairwise_iff_getElem → ae4, flatten_flatten → ae5, mem_take_iff_getElem → ae7, take_zero → afb, eq_of_mem_replicate → afc, length_erase_of_mem → afd, flatMap_append → afg, map_congr_left → afh, length_eq_zero_iff → afi, pairwise_lt_range → afp, drop_drop → afs, take_append_drop → afv, flatMap_def → afE, getElem?_drop → afI, getElem_range → afM, pairwise_singleton → afT, ext_getElem? → afU, length_range → afW, set_eq_take_append_cons_drop → afY, filter_eq_nil_iff → af0, findIdx?_eq_some_iff_getElem → af1, length_pos_of_mem → af2, all_eq_true → af7, mem_flatMap → af8, mem_erase_of_ne → agm, getElem?_range → agv, length_pos_iff → agw, map → agy, find?_eq_none → agG, size_toArray → agP, mem_or_eq_of_mem_set → agR, findIdx?_eq_none_iff → agS, getElem_mem → agZ, cons_append → ag0, getElem_map → ag1, take_left' → ahj, drop_left' → ahk, headD_cons → ahl, getElem?_eraseIdx → ahq, perm_append_comm → ahI, erase_of_not_mem → ahJ, tail_cons → ahK, length_eraseIdx → ahU, foldl_append → aiG, take_sublist → aiH, getElem_set → ai2, sum_append → ai7, take_left → ajh, sum_nil → ajA
open List.Pairwise renaming nil → aeR
open List.Sublist renaming refl → aiI
open List.cons renaming injEq → ai9, inj → ajr
open Nat renaming le_trans → acR, le_refl → ac3, lt_of_le_of_lt → ac8, lt_or_ge → adh, zero_le → adO, eq_zero_or_pos → aeH, zero_add → aeQ, mul_le_mul_right → ae6, pow_le_pow_right → afD, shiftRight_eq_div_pow → afH, add_zero → afJ, mul_comm → afK, mul_le_mul → afS, mod_eq_of_lt → af9, not_lt_zero → agj, pow_succ' → agM, le_mul_of_pos_right → ahf, min_eq_left → ahi, mul_one → ahn, div_lt_of_lt_mul → ahS, add_assoc → ahX, lt_or_gt_of_ne → ah9, mul_zero → aia, eq_or_lt_of_le → aid, div_add_mod → ai6
open Ne renaming symm → ajc
open Option renaming map_some → aet, isSome_iff_exists → agV, map_eq_some_iff → aho, bind_some → aiY
open Option.some renaming inj → ac2, injEq → aeo
open Prod renaming ext → adL, snd → adT
open Prod.mk renaming injEq → ah0
open UInt8 renaming ofNat → aeV
namespace Go.Rl
open Go.RowKit
section
variable {P:Program} {R:Nat→Value} {w:World} {dst:Option Tmp} {ty:TypeId} {pos:String} {af:Array Edge} {gd:Option (Nat×Bool)}
def nb (P:Program) (d:Nat) (t:TypeId) (x y:Value) (b:Bool):Prop:=∀w,(ahO d t x y).run P w=.ok b w
def qa (P:Program) (d:Nat) (xs ys:Array Value) (fs:List Field) (b:Bool):Prop:=∀w,(aiL d xs ys fs).run P w=.ok b w
def dE (P:Program) (t:TypeId) (cs:Array Value) (off:Nat) (v:Value):Prop:=∀w,(part t cs off).run P w=.ok v w
theorem nb.int {d:Nat} {t:TypeId} {k:IntKind} {a b:Int} (hu:P.underlying t=some (.int k)):nb P (d+1) t (.int k a) (.int k b) (decide (a=b)):=by
  intro w
  simp only[ahO,ady,run_underlying hu w,adI,if_true]
  by_cases h:a=b<;>simp[h]
theorem dE.leaf {t:TypeId} {cs:Array Value} {off:Nat} {v:Value} {k:IntKind} (hu:P.underlying t=some (.int k)) (h:cs[off]?=some v):dE P t cs off v:=by
  intro w
  have uI:(isAgg t).run P w=.ok false w:=by
    unfold isAgg
    rw[ady,run_underlying hu w]
    simp
  simp[part,ady,uI,h]
theorem dE.agg {t:TypeId} {cs:Array Value} {off z:Nat} {vs:Array Value} {fs:Array Field} (hu:P.underlying t=some (.struct fs)) (hz:(P.info? t).map (·.size)=some z) (h:cs.extract off (off+z)=vs):dE P t cs off (.agg vs):=by
  intro w
  have uI:(isAgg t).run P w=.ok true w:=by
    unfold isAgg
    rw[ady,run_underlying hu w]
    simp
  simp[part,ady,uI,fk (w:=w) hz,h]
theorem qa.nil {d:Nat} {xs ys:Array Value}:qa P d xs ys [] true:=fun w=>by simp[aiL]
theorem qa.cons {d:Nat} {xs ys:Array Value} {f:Field} {fs:List Field} {x y:Value} {b c:Bool} (hn:f.name≠"_") (hx:dE P f.type xs f.offset x) (hy:dE P f.type ys f.offset y) (h:nb P d f.type x y b) (hr:qa P d xs ys fs c):qa P d xs ys (f::fs) (b && c):=by
  intro w
  simp only[aiL,hn,ne_eq,not_false_eq_true,if_true,ady,hx w,hy w,h w,adI]
  cases b
  · simp
  · simpa using hr w
theorem nb.struct {d:Nat} {t:TypeId} {xs ys:Array Value} {fs:Array Field} {fl:List Field} {b:Bool} (hu:P.underlying t=some (.struct fs)) (hs:P.stoodInHeld t=false) (hl:fs.toList=fl) (h:qa P d xs ys fl b):nb P (d+1) t (.agg xs) (.agg ys) b:=by
  intro w
  subst hl
  have hf:P.fieldsOf t=fs:=by simp[Program.fieldsOf,hu]
  rw[run_equalIn_struct w d t xs ys (by rw[hf];exact hu) hs,hf]
  exact h w
theorem nb.iff {d:Nat} {t:TypeId} {x y:Value} {b:Bool} {p:Prop} [Decidable p] (h:nb P d t x y b) (hp:b=true↔p):nb P d t x y (decide p):=by
  have:b=decide p:=by cases b<;>simp_all
  rw[←this];exact h
theorem pT {xt yt:TypeId} {x y:Operand} {xs ys:Array Value} {p:Prop} [Decidable p] (hx:ev R x=.agg xs) (hy:ev R y=.agg ys) (hg:P.eqGuardType P.depth xt=false) (h:nb P 10000 xt (.agg xs) (.agg ys) (decide p)):Ev P ⟨dst,.binOp .neq xt x y yt,ty,pos,af,gd⟩ R w (.bool (decide (¬p))):=by
  have h0:=run_eqGuard_agg (P:=P) w .neq xt x y xs ys hg
  have h1:=run_neq_struct (P:=P) w xt xs ys
  rw[h w]at h1
  simp[Ev,execOp,hx,hy,h0,h1]
end
abbrev I2:=Int×Int
abbrev I3:=Int×Int×Int
abbrev I5:=Int×Int×Int×Int×Int
def bG (a:I2):List Value:=[.int .i64 a.1,.int .i64 a.2]
def bJ (a:I3):List Value:=[.int .i64 a.1,.int .i64 a.2.1,.int .i64 a.2.2]
def aV (a:I5):List Value:=[.int .i64 a.1,.int .i64 a.2.1,.int .i64 a.2.2.1,.int .i64 a.2.2.2.1,.int .i64 a.2.2.2.2]
theorem bp (a:I2):(bG a).length=2:=rfl
theorem bf (a:I3):(bJ a).length=3:=rfl
theorem aH (a:I5):(aV a).length=5:=rfl
theorem tZ (a:I2):bG a≠[]:=by unfold bG;simp
theorem oM (a:I3):bJ a≠[]:=by unfold bJ;simp
theorem fN (a:I5):aV a≠[]:=by unfold aV;simp
theorem nC (a:I2):∀u∈bG a,u.oneCell'=true:=by unfold bG;simp[agx]
theorem fp (a:I3):∀u∈bJ a,u.oneCell'=true:=by unfold bJ;simp[agx]
theorem dx (a:I5):∀u∈aV a,u.oneCell'=true:=by unfold aV;simp[agx]
end Go.Rl
namespace Go.Rl
open Go.RowKit
section
variable {α:Type} {cf:α→List Value} {s:Nat} {w0 w w':World} {F G:Nat→Prop} {L M N:List Atom}
def gN (F:Nat→Prop) (cf:α→List Value) (w:World) (hs:List Hd) (ls:List (List α)):Prop:=hs.length=ls.length∧∀(i:Nat) h l,hs[i]?=some h→ls[i]?=some l→mG F cf w (vh h) l
theorem gN.ext {hs:List Hd} {ls:List (List α)} (h:gN F cf w hs ls) (he:Ext w w'):gN F cf w' hs ls:=⟨h.1,fun i hd l hi hl=>(h.2 i hd l hi hl).ext he⟩
theorem gN.step {hs:List Hd} {ls:List (List α)} (h:gN F cf w0 hs ls) (jF:∀a,cf a≠[]) (hN:aI w0 F w L):gN (b7 L) cf w hs ls:=⟨h.1,fun i hd l hi hl=>mG.step jF (h.2 i hd l hi hl) hN⟩
theorem gN.iq {hs:List Hd} {ls:List (List α)} (h:gN F cf w hs ls) {i:Nat} {hd:Hd} {l:List α} (hi:hs[i]?=some hd) (hl:ls[i]?=some l):mG F cf w (vh hd) l:=h.2 i hd l hi hl
def Atom.WY (cf:α→List Value) (v:Value) (l:List α):Atom where
  dT k:=v.ownBlock=some k
  says w:=Sm cf w v l∧∀k,v.ownBlock=some k→k<w.heap.size
  kp:=by
    intro w w' hb ⟨⟨A,c,he,g1,g2,hc⟩,cD⟩
    have key:∀k,v.ownBlock=some k→w'.heap[k]?=w.heap[k]?:=fun k hk=>hb k hk (cD k hk)
    refine⟨⟨A,c,he,g1,g2,fun j v hv=>?_⟩,fun k hk=>?_⟩
    · obtain ⟨ad, e, fE⟩ := hc j v hv
      refine⟨ad,e,?_⟩
      rw[aeP (key _ (by rw[he,e,block_add];rfl)),fE]
    · have e := key k hk
      have hl:=cD k hk
      rw[aeM hl]at e
      exact(ado.1 e).1
def Atom.ez (cf:α→List Value) (hs:List Hd) (ls:List (List α)):Atom where
  dT k:=∃h∈hs,(vh h).ownBlock=some k
  says w:=hs.length=ls.length∧∀(i:Nat) h l,hs[i]?=some h→ls[i]?=some l→Sm cf w (vh h) l∧∀k,(vh h).ownBlock=some k→k<w.heap.size
  kp:=by
    intro w w' hb ⟨h1,h2⟩
    refine⟨h1,fun i h l hi hl=>?_⟩
    have h3:=h2 i h l hi hl
    obtain⟨⟨A,c,he,g1,g2,hc⟩,cD⟩:=h3
    have key:∀k,(vh h).ownBlock=some k→w'.heap[k]?=w.heap[k]?:=fun k hk=>hb k ⟨h,acy hi,hk⟩ (cD k hk)
    refine⟨⟨A,c,he,g1,g2,fun j v hv=>?_⟩,fun k hk=>?_⟩
    · obtain ⟨ad, e, fE⟩ := hc j v hv
      refine⟨ad,e,?_⟩
      rw[aeP (key _ (by rw[he,e,block_add];rfl)),fE]
    · have e := key k hk
      have hl:=cD k hk
      rw[aeM hl]at e
      exact(ado.1 e).1
theorem aI.NQ (h:aI w0 F w L) (i:Nat) {E:TypeId} {v:Value} {l:List α} (hi:L[i]?=some (.cp cf s E v l)):aI w0 F w (L.set i (.WY cf v l)):=
  h.turn i hi ⟨(h.cp i hi).sm,fun k hk=>((h.cp i hi).lt k hk).2⟩ (fun _ hk=>hk)
theorem aI.yF (h:aI w0 F w L) (cf:α→List Value):aI w0 F w (.ez cf [] []::L):=
  h.add ⟨rfl,fun i h l hi=>by simp at hi⟩ (fun k hk=>by obtain⟨h,hh,_⟩:=hk;cases hh) (fun _ _ _ _ _ hk=>by obtain⟨h,hh,_⟩:=hk;cases hh)
theorem aI.kF (h:aI w0 F w L) (i:Nat) {hs:List Hd} {ls:List (List α)} (hi:L[i]?=some (.ez cf hs ls)):gN none_ cf w hs ls:=by
  have hf:(Atom.ez cf hs ls).says w:=h.says i _ hi
  exact⟨hf.1,fun q h' l hq hl=>⟨(hf.2 q h' l hq hl).1,oW.none _ _⟩⟩
theorem aI.Fh {h:Hd} {l:List α} {hs:List Hd} {ls:List (List α)} (hN:aI w0 F w (.WY cf (vh h) l::L)) (j:Nat) (hj:L[j]?=some (.ez cf hs ls)):aI w0 F w (L.set j (.ez cf (hs++[h]) (ls++[l]))):=by
  have ho:Sm cf w (vh h) l∧∀k,(vh h).ownBlock=some k→k<w.heap.size:=hN.says 0 _ rfl
  have hf:(Atom.ez cf hs ls).says w:=hN.says (j+1) _ (by simpa using hj)
  have cD:j<L.length:=(acA.1 hj).1
  have dT:∀k,(Atom.ez cf (hs++[h]) (ls++[l])).dT k→(Atom.ez cf hs ls).dT k∨(vh h).ownBlock=some k:=by
    rintro k ⟨h',hm,hk⟩
    rcases adl.1 hm with e|e
    · exact .inl ⟨h',e,hk⟩
    · rw[ade]at e;subst e;exact .inr hk
  have get:∀(i:Nat) c,(L.set j (.ez cf (hs++[h]) (ls++[l])))[i]?=some c→(i=j∧c=.ez cf (hs++[h]) (ls++[l]))∨(i≠j∧L[i]?=some c):=by
    intro i c hc
    rw[adi]at hc
    by_cases e:j=i
    · subst e;rw[if_pos rfl,if_pos cD]at hc;exact .inl ⟨rfl,(ac2 hc).symm⟩
    · rw[if_neg e]at hc;exact .inr ⟨fun x=>e x.symm,hc⟩
  have zT:∀(i:Nat) c,L[i]?=some c→(∀k,c.dT k→¬(vh h).ownBlock=some k)∧(i≠j→∀k,c.dT k→¬(Atom.ez cf hs ls).dT k):=fun i c hc=>
    ⟨fun k hk e=>hN.sep (i+1) 0 c _ (by omega) (by simpa using hc) rfl k hk e,fun hi k hk e=>hN.sep (i+1) (j+1) c _ (by omega) (by simpa using hc) (by simpa using hj) k hk e⟩
  refine⟨hN.mod,?_,?_,?_⟩
  · intro i c hc
    rcases get i c hc with⟨_,rfl⟩|⟨_,hc⟩
    · refine ⟨by simp [hf.1], fun q h' l' hq hl => ?_⟩
      rcases adh q hs.length with vR|vR
      · rw [ads vR] at hq
        rw[ads (by rw[←hf.1];exact vR)]at hl
        exact hf.2 q h' l' hq hl
      · rw [adp vR] at hq
        rw[adp (by rw[←hf.1];exact vR),←hf.1]at hl
        have hz:q-hs.length=0:=by
          rcases aeH (q-hs.length)with e|e
          · exact e
          · rw[ad2 (by simp;omega)]at hq;cases hq
        rw[hz]at hq hl
        cases hq;cases hl
        exact⟨ho.1,fun k hk=>ho.2 k hk⟩
    · exact hN.says (i+1) c (by simpa using hc)
  · intro i c hc k hk
    rcases get i c hc with⟨_,rfl⟩|⟨_,hc⟩
    · rcases dT k hk with e | e
      · exact hN.low (j+1) _ (by simpa using hj) k e
      · exact hN.low 0 _ rfl k e
    · exact hN.low (i+1) c (by simpa using hc) k hk
  · intro i i' c c' dY hc vW k hk jb
    rcases get i c hc with⟨rfl,rfl⟩|⟨hi,hc⟩<;>rcases get i' c' vW with⟨rfl,rfl⟩|⟨JV,vW⟩
    · exact dY rfl
    · rcases dT k hk with e | e
      · exact(zT i' c' vW).2 JV k jb e
      · exact(zT i' c' vW).1 k jb e
    · rcases dT k jb with e | e
      · exact(zT i c ‹_›).2 hi k hk e
      · exact(zT i c ‹_›).1 k hk e
    · exact hN.sep (i+1) (i'+1) c c' (by omega) (by simpa using ‹L[i]?=some c›) (by simpa using vW) k hk jb
theorem aI.uN {E:TypeId} {h:Hd} {l:List α} {hs:List Hd} {ls:List (List α)} (hN:aI w0 F w (.cp cf s E (vh h) l::L)) (j:Nat) (hj:L[j]?=some (.ez cf hs ls)):aI w0 F w (L.set j (.ez cf (hs++[h]) (ls++[l]))):=
  aI.Fh (h:=h) (l:=l) (hN.NQ 0 rfl) j hj
end
section
variable {P:Program} {R:Nat→Value} {w:World} {dst:Option Tmp} {ty:TypeId} {pos:String} {af:Array Edge} {gd:Option (Nat×Bool)} {α:Type} {cf:α→List Value} {s:Nat}
def CP (s:Nat) (v:Value) (lo hi:Nat):Value:=match v with
  |.slice A n c=>.slice (if c=lo then A else A.map (·.add (lo*s))) (hi-lo) (c-lo)
  |v=>v
theorem Sm.cut (jF:∀a,(cf a).length=s) {v:Value} {lo hi:Nat} {l:List α} (h:Sm cf w v l) (mR:lo≤hi) (nd:hi≤l.length):Sm cf w (CP s v lo hi) ((l.take hi).drop lo):=by
  obtain⟨A,c,rfl,h1,h2,hc⟩:=h
  have hlen:((l.take hi).drop lo).length=hi-lo:=by simp;omega
  refine⟨_,c-lo,by rw[hlen];rfl,by omega,by omega,?_⟩
  split
  · have : (l.take hi).drop lo = [] := adF (by omega)
    rw[this];exact Cells.nil _ _
  · intro j u hj
    have Vf:j<(((l.take hi).drop lo).flatMap cf).length:=(acA.1 hj).1
    rw[kT jF]at Vf
    have hs:0<s:=by
      rcases aeH s with e|e
      · rw[e,aia]at Vf;omega
      · exact e
    have hq:j/s<((l.take hi).drop lo).length:=ahS (by rw[afK];exact Vf)
    have hr:j%s<s:=Nat.mod_lt _ hs
    have ej:j=(j/s)*s+j%s:=by rw[afK];exact(ai6 j s).symm
    rw[ej,jO jF (acE hq) hr]at hj
    have hm:l[lo+j/s]?=some ((l.take hi).drop lo)[j/s]:=by
      rw[←acE hq,afI,ad8,if_pos (by omega)]
    obtain⟨ad,rfl,fE⟩:=hc ((lo+j/s)*s+j%s) u (by rw[jO jF hm hr];exact hj)
    refine⟨ad.add (lo*s),rfl,?_⟩
    rw[add_add,show lo*s+j=(lo+j/s)*s+j%s by rw[Nat.add_mul];omega]
    exact fE
theorem Sm.uQ (jF:∀a,(cf a).length=s) {v:Value} {hi:Nat} {l:List α} (h:Sm cf w v l) (nd:hi≤l.length):Sm cf w (CP s v 0 hi) (l.take hi):=by simpa using h.cut jF (adO hi) nd
theorem Sm.mC (jF:∀a,(cf a).length=s) {v:Value} {lo:Nat} {l:List α} (h:Sm cf w v l) (mR:lo≤l.length):Sm cf w (CP s v lo l.length) (l.drop lo):=by simpa using h.cut jF mR (ac3 _)
theorem xu {t e : TypeId} {x hi : Operand} {v : Value} {l : List α} {k' : IntKind} {b : Int} (ht : P.underlying t = some (.slice e)) (fb : (P.info? e).map (·.size) = some s)
    (hs:Sm cf w v l) (hx:ev R x=v) (nd:ev R hi=.int k' b) (h1:0≤b) (h2:b≤l.length):
    Ev P ⟨dst,.slice t x none (some hi) none,ty,pos,af,gd⟩ R w (CP s v 0 b.toNat):=by
  obtain⟨A,c,rfl,HT,hm,hc⟩:=hs
  have qC:0≤b∧b≤(c:Int):=⟨by omega,by omega⟩
  simp[Ev,CP,execOp,hx,nd,af5,agA,run_underlying ht,afr,afB,asIntOf,qC,fk (w:=w) fb]
theorem rA {t e : TypeId} {x lo : Operand} {v : Value} {l : List α} {k : IntKind} {a : Int} (ht : P.underlying t = some (.slice e)) (fb : (P.info? e).map (·.size) = some s)
    (hs:Sm cf w v l) (hx:ev R x=v) (mR:ev R lo=.int k a) (h0:0≤a) (h1:a≤l.length):
    Ev P ⟨dst,.slice t x (some lo) none none,ty,pos,af,gd⟩ R w (CP s v a.toNat l.length):=by
  obtain⟨A,c,rfl,HT,hm,hc⟩:=hs
  have Lo:0≤a∧a≤(l.length:Int):=⟨h0,by omega⟩
  simp[Ev,CP,execOp,hx,mR,af5,agA,run_underlying ht,afr,afB,asIntOf,Lo,fk (w:=w) fb]
end
section
variable {P:Program} {R:Nat→Value} {w:World} {dst:Option Tmp} {ty:TypeId} {pos:String} {af:Array Edge} {gd:Option (Nat×Bool)} {α:Type} {cf:α→List Value} {s:Nat}
theorem Fi {t : TypeId} {x : Operand} {v : Value} {l : List α} {m j z : Nat} {a : α} {d : TypeDesc} (hu : P.underlying t = some d) (hd : d.isRow = true) (fb : (P.info? t).map (·.size) = some z) (jF : ∀ a, (cf a).length = s) (hz : 0 < z) (hjz : j + z ≤ s)
    (hs:Sm cf w v l) (hx:ev R x=dL v (m*s+j)) (hm:l[m]?=some a) {cs:List Value} (sE:((cf a).drop j).take z=cs):Ev P ⟨dst,.load t x,ty,pos,af,gd⟩ R w (.agg cs.toArray):=by
  subst sE
  have dY:∃u,(cf a)[j]?=some u:=⟨_,acE (by rw[jF];omega)⟩
  obtain⟨u,Qf⟩:=dY
  obtain⟨ad,c,rfl,he,_⟩:=hs.at jF hm Qf
  have hlen:(((cf a).drop j).take z).length=z:=by rw[ac5,adq,jF];omega
  have key:∀q u,(((cf a).drop j).take z)[q]?=some u→w.cell? ((ad.add (m*s+j)).add q)=some u:=by
    intro q u hq
    have ZG:q<z:=by have:=(acA.1 hq).1;omega
    rw[ad8,if_pos ZG,afI]at hq
    obtain⟨PQ,c',h1,_,h3⟩:=hs.at jF hm hq
    cases h1
    rw[add_add,ahX];exact h3
  have lM:=run_loadCells_list (P:=P) (w:=w) (ad.add (m*s+j)) (((cf a).drop j).take z) key
  have uI:(isAgg t).run P w=.ok true w:=by
    unfold isAgg
    rw[ady,run_underlying hu w]
    cases d<;>simp_all [ahG]
  rw[hlen]at lM
  simp[Ev,execOp,hx,he,age,aen,loadVar,uI,fk (w:=w) fb,lM]
end
theorem fR.Kn {α:Type} {cf:α→List Value} {s:Nat} {F:Nat→Prop} {w w':World} {E:TypeId} {v:Value} {l:List α} (h:fR cf s E w' w.heap.size v l) (hF:∀k,F k→k<w.heap.size):mG F cf w' v l:=⟨h.sm,fun hl k hk hf=>by have h1:=(h.lt k hk).1;have h2:=hF k hf;omega⟩
theorem eG.Ko {α:Type} {enc:α→Value} {F:Nat→Prop} {w w':World} {E:TypeId} {v:Value} {l:List α} (h:eG enc E w' w.heap.size v l) (hF:∀k,F k→k<w.heap.size):nO F enc w' v l:=⟨h.sl,fun hl k hk hf=>by have h1:=(h.lt k hk).1;have h2:=hF k hf;omega⟩
theorem dM {α:Type} {l:List α} {i:Nat} {a:α} (h:l[i]?=some a):l.take (i+1)=l.take i++[a]:=by rw[ae1,h];rfl
section
variable {P:Program} {n:Nat} {Q:fQ} {R:Nat→Value} {w:World}
end
section
variable {P:Program} {R:Nat→Value} {w:World} {dst:Option Tmp} {ty:TypeId} {pos:String} {af:Array Edge} {gd:Option (Nat×Bool)}
theorem DG {x y z:Operand} {k:IntKind} {a b c:Int} {pW:Array TypeId} (hx:ev R x=.int k a) (hy:ev R y=.int k b) (hz:ev R z=.int k c):Ev P ⟨dst,.call ⟨.builtin .min,#[x,y,z],pW⟩,ty,pos,af,gd⟩ R w (.int k (min (min a b) c)):=by
  have h:(if b<a then b else a)=min a b:=by omega
  have h2:(if c<min a b then c else min a b)=min (min a b) c:=by omega
  simp[Ev,execOp,resolve,invoke,builtin,ajv,ajw,hx,hy,hz,h,h2]
end
end Go.Rl
namespace Go.Rl
open Go.RowKit
section
variable {F:Fence} {n:Nat} {P:Program} {a:Act} {w:World} {Q:Exit→Act→World→Prop}
theorem iM {b:Frame} {k:List Item} {cs:List Frame} {c:Code}:step P (lone (b.atR a (.code (.scope c)::k)) cs w)=.next (lone (b.atR a (.code c::.inScope c::k)) cs w):=
  step_lone_go (by simp[stepG,stepG.exec,Frame.atR])
theorem vj {b:Frame} {k:List Item} {cs:List Frame} {c:Code}:step P (lone (b.atR a (.inScope c::k)) cs w)=.next (lone (b.atR a k) cs w):=
  step_lone_go (by simp[stepG,stepG.exec,Frame.atR])
theorem Br {c:Code} (h:c.wpIn F n P (Exit.noGoto Q) a w):(Code.scope c).wpIn F n P Q a w:=by
  intro b k cs Of hb hr
  have h0:(lone (b.atR a (.code (.scope c)::k)) cs w).fenced P F:=fenced_calm hb hr rfl
  obtain⟨e,a₁,w₁,hq,E6⟩:=h b (.inScope c::k) cs Of hb hr
  cases e with
  |normal=>exact⟨.normal,a₁,w₁,hq,.head h0 iM (StepsIn.trans E6 (.one (fenced_calm hb hr rfl) vj))⟩
  |exit id=>
    have hx:exitTo id (.inScope c::k)=exitTo id k:=by simp[exitTo]
    exact⟨.exit id,a₁,w₁,hq,fun k' hk=>.head h0 iM (E6.1 k' (by rw[hx];exact hk)),fun ZF hk=>let ⟨k₁,h1,h2⟩:=E6.2 ZF (by rw[hx];exact hk);⟨k₁,h1,.head h0 iM h2⟩⟩
  |goto l=>exact hq.elim
  |ret=>exact⟨_,a₁,w₁,hq,.of_steps (.one h0 iM) E6⟩
  |panic ch=>exact⟨_,a₁,w₁,hq,.of_steps (.one h0 iM) E6⟩
  |outgrown=>exact⟨_,a₁,w₁,hq,.of_steps (.one h0 iM) E6⟩
end
section
variable {P:Program} {ro:Option Nat} {n:Nat} {Q:fc} {R:Nat→Value} {w:World} {ds:List Deferred}
def BI (Q:fc):fc:=fun e ds R w=>match e with
  |.goto _=>False
  |e=>Q e ds R w
theorem XW.scope {c:Code} (h:XW P ro n c (BI Q) ds R w):XW P ro n (.scope c) Q ds R w:=fun a ha=>by
  refine Br (wpIn_mono (h a ha) ?_)
  rintro e a' w' ⟨R',J1,hR,hQ⟩
  cases e with
  |goto l=>exact hQ.elim
  |_=>exact⟨R',J1,hR,hQ⟩
theorem C1 (h:Q .ret ds R w):BI Q .ret ds R w:=h
theorem XW.label {l:Nat} (h:Q .normal ds R w):XW P ro n (.label l) Q ds R w:=fun _ ha=>wpIn_label ⟨R,ds,ha,h⟩
end
section
variable {P:Program} {ops:Array Oper} {Qa:Exit→Act→World→Prop} {S:World→Prop}
theorem C0 {i : Nat} {o : Oper} {v : Value} {a : Act} (hi : ops[i]? = some o) (hy : YieldsIf P ops S o v a)
    {K:Act→World→Prop} {w:World} (hS:S w) (h:K (a.put o.dst v) w):wpOpIn (XF none) 0 P ops Qa i K a w:=by
  unfold Go.wpOpIn
  simp only[hi]
  rcases hy with⟨hw,hv⟩|⟨hw,rfl⟩
  · simp only[hw,if_true,Oper.wpIn,ahh,hv w hS,afo];exact⟨fun _ _=>trivial,h⟩
  · simp only[hw,adP,if_false];exact⟨fun _ _=>trivial,h⟩
theorem zh {j : Nat} {oi oj : Oper} {v : Value} (hj : ops[j]? = some oj) (bX : oi.apart ops oj = true)
    (gQ:∀cs b,oi.op≠.select cs b) (ZB:∀cs b,oj.op≠.select cs b)
    (hQ:∀c a w,Qa (.panic c) (a.put oi.dst v) w→Qa (.panic c) a w) {K:Act→World→Prop} {a:Act} {w:World}
    (hy:YieldsIf P ops S oi v a) (h:wpOpIn (XF none) 0 P ops Qa j K (a.put oi.dst v) w):
    wpOpIn (XF none) 0 P ops Qa j (fun a' w'=>YieldsIf P ops S oi v a'∧K (a'.put oi.dst v) w') a w:=by
  obtain⟨h1,h2,h3⟩:=Oper.apart_spec bX
  have kp:∀(a:Act),YieldsIf P ops S oi v a→∀u,YieldsIf P ops S oi v (a.put oj.dst u):=fun a hy u=>
    hy.of_same (execOp_put oi gQ a oj.dst u h3) (wanted_put oi a oj.dst u h3)
  have Q9:∀d,YieldsIf P ops S oi v {a with defers:=d::a.defers}:=fun d=>hy.of_same rfl rfl
  unfold wpOpIn at*
  simp only[hj]at*
  rw[wanted_put oj a oi.dst v h1]at h
  split
  · rename_i hw
    simp only[hw,if_true]at h
    unfold Oper.wpIn at*
    refine⟨fun _ _=>trivial,?_⟩
    have h:=h.2
    rw[ahh,execOp_put oj ZB a oi.dst v h1]at h
    rw[ahh]
    generalize (execOp a.eval oj).run P w=r at*
    cases r with
    |ok x w'=>
      cases x<;>simp only[afo]at h ⊢
      case value u=>exact⟨kp a hy u,by rw[←afu a v u h2];exact h⟩
      case skip=>exact⟨kp a hy _,by rw[←afu a v undef h2];exact h⟩
      case defer d=>
        refine⟨kp _ (Q9 d) _,?_⟩
        rw[←afu _ v undef h2,←Act.put_defers]
        exact h
      case enter f args=>
        refine⟨h.1,agX h.2 fun e Bt he=>?_⟩
        cases e with
        |returned u=>exact⟨kp a hy u,by rw[←afu a v u h2];exact he⟩
        |panicked c=>exact hQ _ _ _ he
        |outgrown=>exact he
      case row row args=>exact⟨h.1,aiK h.2 fun u Bt he=>⟨kp a hy u,by rw[←afu a v u h2];exact he⟩⟩
      case round l f tmps assign body=>
        refine⟨h.1,ah8 h.2 fun e Bt he=>?_⟩
        cases e with
        |returned u=>exact⟨kp a hy u,by rw[←afu a v u h2];exact he⟩
        |panicked c=>exact hQ _ _ _ he
        |outgrown=>exact he
    |halt x w'=>
      cases x<;>simp only[afo]at h ⊢
      case panic u=>exact hQ _ _ _ h
  · rename_i hw
    simp only[hw]at h
    exact⟨fun _ _=>trivial,kp a hy _,by rw[←afu a v undef h2];exact h.2⟩
def sK (P : Program) (ops : Array Oper) (Q : Exit → Act → World → Prop) (S : World → Prop) : Nat → Array Bool → Act → World → Prop
  |0,bx,a,w=>adu .any ops bx=[]∧Q .normal a w
  |fuel+1,bx,a,w=>(adu .any ops bx=[]→Q .normal a w)∧
      ∀i∈adu .any ops bx,wpOpIn (XF none) 0 P ops Q i (fun a' w'=>S w'∧sK P ops Q S fuel (bx.setIfInBounds i true) a' w') a w
theorem o5 : ∀ (fuel : Nat) (bx : Array Bool) (a : Act) (w : World), sK P ops Qa S fuel bx a w → wpAnyIn (XF none) 0 P .any ops Qa fuel bx a w
  |0,_,_,_,h=>h
  |fuel+1,_,_,_,h=>⟨h.1,fun i hi=>wpOpIn_mono (fun a' w' h'=>o5 fuel _ a' w' h'.2) (h.2 i hi)⟩
theorem xE {i : Nat} {oi : Oper} {v : Value} (hi : ops[i]? = some oi) (HJ : ∀ (j : Nat) (o : Oper) cs b, ops[j]? = some o → o.op ≠ .select cs b)
    (hQ:∀c a w,Qa (.panic c) (a.put oi.dst v) w→Qa (.panic c) a w):
    ∀(fuel:Nat) (bx:Array Bool) (a:Act) (w:World),
      (∀j oj,ops[j]?=some oj→j≠i→bx.getD j true=false→(∀e∈oj.after,aft .any e=true→e.on≠i)→oi.apart ops oj=true)→
      i∈adu .any ops bx→YieldsIf P ops S oi v a→S w→
      sK P ops Qa S fuel (bx.setIfInBounds i true) (a.put oi.dst v) w→sK P ops Qa S (fuel+1) bx a w:=by
  intro fuel
  induction fuel with
  |zero=>
    intro bx a w _ hr hy hS H
    refine⟨fun h=>(by rw[h]at hr;cases hr),fun j hj=>?_⟩
    by_cases yv:j=i
    · subst yv;exact C0 hi hy hS ⟨hS,H⟩
    · have := ready_mono hj yv
      rw[H.1]at this
      cases this
  |succ fuel ih=>
    intro bx a w uA hr hy hS H
    refine⟨fun h=>(by rw[h]at hr;cases hr),fun j hj=>?_⟩
    by_cases yv:j=i
    · subst yv;exact C0 hi hy hS ⟨hS,H⟩
    · have h1 := H.2 j (ready_mono hj yv)
      obtain⟨HV,oj,Ok,fY⟩:=mem_ready.1 hj
      have Oo:∀e∈oj.after,aft .any e=true→e.on≠i:=fun e he hb heq=>by
        have h1:=fY e he hb
        have h0:=(mem_ready.1 hr).1
        rw[heq]at h1
        rcases adh i bx.size with h'|h'
        · simp[h']at h0 h1;rw[h0]at h1;cases h1
        · simp[aeU h']at h1
      have h2:=zh Ok (uA j oj Ok yv HV Oo) (fun cs b=>HJ i oi cs b hi) (fun cs b=>HJ j oj cs b Ok) hQ hy h1
      have Cx:∀k ok,ops[k]?=some ok→k≠i→(bx.setIfInBounds j true).getD k true=false→
          (∀e∈ok.after,aft .any e=true→e.on≠i)→oi.apart ops ok=true:=fun k ok hk Vd Rq fJ=>by
        refine uA k ok hk Vd ?_ fJ
        by_cases E1:j=k
        · subst E1;exact HV
        · rw[getD_set_ne true E1]at Rq;exact Rq
      refine wpOpIn_mono (fun a' w' h3=>⟨h3.2.1,ih (bx.setIfInBounds j true) a' w' Cx (ready_mono hr (ajc yv)) h3.1 h3.2.1 ?_⟩) h2
      rw[agW _ _ yv]
      exact h3.2.2
end
def XA (P:Program) (n:Nat) (ops:Array Oper) (Q:fc) (S:World→Prop) (fuel:Nat) (bx:Array Bool) (ds:List Deferred) (R:Nat→Value) (w:World):Prop:=
  ∀a,sI ds n R a→sK P ops (fc.up n Q) S fuel bx a w
def yY (Q:fc):Prop:=∀c ds R w,¬Q (.panic c) ds R w
section
variable {P:Program} {n:Nat} {Q:fc} {R:Nat→Value} {w:World} {ds:List Deferred} {ops:Array Oper} {S:World→Prop} {fuel:Nat} {bx:Array Bool}
theorem DT {c:List PanicEntry} (hp:yY Q) (dst:Option Tmp) (v:Value) (a:Act) (w:World):fc.up n Q (.panic c) (a.put dst v) w→fc.up n Q (.panic c) a w:=fun⟨R,ds,_,h⟩=>absurd h (hp c ds R w)
theorem XW.pU {id : Nat} (hm : P.follows .mixedOrders = true) (S : World → Prop)
    (h:XA P n ops Q S ops.size (aes ops.size false) ds R w.drew):XW P none n (.region id ops true) Q ds R w:=fun a ha=>wpIn_region_any hm (o5 _ _ _ _ (h a ha))
theorem XA.done (hr:adu .any ops bx=[]) (h:Q .normal ds R w):XA P n ops Q S fuel bx ds R w:=fun a ha=>by
  cases fuel with
  |zero=>exact⟨hr,R,ds,ha,h⟩
  |succ f=>exact⟨fun _=>⟨R,ds,ha,h⟩,by rw[hr];simp⟩
theorem XA.take {i : Nat} {o : Oper} {v : Value} (hi : ops[i]? = some o) (hg : o.guard = none) (hs : aeD ops = true)
    (hf:afG .any ops bx i=true) (hr:(adu .any ops bx).contains i=true) (hp:yY Q) (hd:eR n o.dst=true) (hS:S w) (h:∀w,S w→Ev P o R w v)
    (hn:XA P n ops Q S fuel (bx.setIfInBounds i true) ds (fu R o.dst v) w):XA P n ops Q S (fuel+1) bx ds R w:=fun a ha=>
  xE hi (ahR hs) (fun c a w=>DT hp _ _ a w) fuel bx a w (ai0 hi hf) (by simpa using hr) (.inl ⟨by simp[adJ,hg],fun w hw=>by rw[ha.eval];exact h w hw⟩) hS (hn _ (ha.put hd v))
theorem XA.only {i : Nat} {o : Oper} (hr : adu .any ops bx = [i]) (hi : ops[i]? = some o) (hg : o.guard = none) (hd : eR n o.dst = true)
    (h:lU P none o R w (fun v w'=>S w'∧XA P n ops Q S fuel (bx.setIfInBounds i true) ds (fu R o.dst v) w')):XA P n ops Q S (fuel+1) bx ds R w:=fun a ha=>by
  refine⟨fun h0=>(by rw[hr]at h0;cases h0),fun j hj=>?_⟩
  have:j=i:=by rw[hr]at hj;simpa using hj
  subst this
  unfold wpOpIn
  simp only[hi,adJ,hg,if_true]
  exact lU.wp ha hd h fun v w' hv uD=>⟨hv.1,hv.2 _ uD⟩
end
def uZ {ε π:Type} (P:Program) (gf:FuncId) (lb:Array Value) (M:List Atom) (Fx:(Nat→Prop)→World→Prop) (p:ε→π) (enc:ε→Array Value) (Rd:(Nat→Prop)→ε→World→Prop) (xs:List π):Prop:=
  ∀(σ:Type) (l:Nat) (C:Bool→σ→Atom) (T:σ→ε→Bool→σ→Prop) (s0:σ) (w0 w:World) (F:Nat→Prop),(∀s x b s',T s x b s'→b=true)→ow P l C T p s0 xs Rd enc→Fx F w0→aI w0 F w (C true s0::M)→
    aM P gf (#[.func (.yield l) #[] #[]]++lb) w fun _ w'=>∃s',u6 T p s0 xs s'∧aI w0 F w' [C true s']
section
variable {P:Program} {n:Nat} {Q:fc} {R:Nat→Value} {w0 w:World} {F:Nat→Prop} {M:List Atom}
theorem XW.BO {σ ε π : Type} {g : Operand} {ps : Array Tmp} {Fy body : Code} {gf : FuncId} {fn : Func} {lb : Array Value} {p : ε → π} {enc : ε → Array Value} {Rd : (Nat → Prop) → ε → World → Prop} {xs : List π} {Fx : (Nat → Prop) → World → Prop}
    (S:σ→List Atom) (T:σ→ε→Bool→σ→Prop) (s0:σ)
    (hN:aI w0 F w (S s0++M)) (hg:ev R g=.func (.func gf) #[] lb) (hf:P.funcs[gf]?=some fn) (hn:(fn.name == "runtime.NumGoroutine")=false) (hb:fn.body.isSome=true)
    (SA:uZ P gf lb M Fx p enc Rd xs) (hT:∀s x b s',T s x b s'→b=true) (hFx:Fx F w0) (EW:∀x,(enc x).size=ps.size) (cD:∀t∈ps.toList,t<n)
    (IL:∀(l D:Nat) (rc:LoopState→Option Code→Loop) (FF:Nat→Prop) (s:σ) (x:ε) (pre post:List π) (w:World),u6 T p s0 pre s→xs=pre++p x::post→Rd FF x w→aI w FF w (.obj l (.loop (rc .ready none))::.obj D (.deferred (some []))::S s)→
      XW P (some l) n Fy (yT P l n body (BL (T s x) FF l D rc S w) FF (.obj l (.loop (rc .busy none))::.obj D (.deferred (some []))::S s) w) [] (BH R (ps.toList.zip (enc x).toList)) w)
    (IF:∀(l D:Nat) (o:Obj) (s:σ) (w:World),u6 T p s0 xs s→aI w0 F w (.obj l o::.obj D (.deferred (some []))::S s)→Q .normal (mark D) R w):
    XW P none n (.rangeFunc g ps Fy body) Q [] R w:=
  XW.NO S T s0 hN hg hf hn hb (fun l C w1 hy h1 => (SA σ l C T s0 w0 w1 F hT hy hFx h1).mono fun _ _ ⟨s', hr, h2⟩ => ⟨s', .inl ⟨hr, h2⟩⟩) EW cD IL IF
    (fun l D o s w hs _=>by obtain⟨_,_,_,_,_,_,hx⟩:=hs;exact absurd (hT _ _ _ _ hx) (by simp))
end
end Go.Rl
namespace Go.Rl
def fe {σ ε π:Type} (T:σ→ε→Bool→σ→Prop) (p:ε→π) (s0:σ) (xs:List π) (s:σ) (todo:List π):Prop:=∃pre,u6 T p s0 pre s∧xs=pre++todo
section
variable {σ ε π:Type} {P:Program} {l:Nat} {C:Bool→σ→Atom} {T:σ→ε→Bool→σ→Prop} {p:ε→π} {s0 s:σ} {xs todo:List π} {Rd:(Nat→Prop)→ε→World→Prop} {enc:ε→Array Value} {w:World}
theorem fe.start:fe T p s0 xs s0 xs:=⟨[],.nil,rfl⟩
theorem fe.done (h:fe T p s0 xs s []):u6 T p s0 xs s:=by obtain⟨pre,h1,h2⟩:=h;rw[adj]at h2;rw[h2];exact h1
theorem fe.as {t:List π} (h:fe T p s0 xs s todo) (e:todo=t):fe T p s0 xs s t:=e▸h
theorem fe.yield (hT:∀s x b s',T s x b s'→b=true) (hY:ow P l C T p s0 xs Rd enc) (x:ε) (h:fe T p s0 xs s (p x::todo)) (hN:aI w (b7 [C true s]) w [C true s]) (hR:Rd (b7 [C true s]) x w):
    oV P l (enc x) w fun v w'=>∃s',v=.bool true∧fe T p s0 xs s' todo∧aI w (b7 [C true s]) w' [C true s']:=by
  obtain⟨pre,h1,h2⟩:=h
  refine(hY s x pre todo w h1 h2 hN hR).mono ?_
  rintro v w' ⟨b,s',rfl,ht,hn⟩
  have hb:=hT _ _ _ _ ht
  subst hb
  exact⟨s',rfl,⟨pre++[p x],.snoc h1 ht,by rw[h2,adk];rfl⟩,hn⟩
end
end Go.Rl
namespace Go.Rl
section
variable {P:Program} {w0 w w':World} {F:Nat→Prop} {L M:List Atom} {α:Type} {enc:α→Value} {cf:α→List Value} {s:Nat}
def PV (F:Nat→Prop) (w:World) (g:Nat) (cs:List Value) (T:TypeId):Prop:=iu w g cs T∧¬F g
theorem PV.now {g:Nat} {cs:List Value} {T:TypeId} (h:PV F w0 g cs T) (hN:aI w0 F w L):iu w g cs T:=h.1.mod hN.mod h.2
theorem aI.NB (h:aI w0 F w L) (i:Nat) {E:TypeId} {v:Value} {l:List α} (hi:L[i]?=some (.cp cf s E v l)) (p:List Nat) (hM:M.map some=p.map (fun i=>L[i]?)) (hp:(p.all fun j=>j != i)=true):mG (b7 M) cf w v l:=
  ⟨h.sm i hi,h.lG p hM i hi hp fun _ hk=>hk⟩
theorem aI.PH (h:aI w0 F w L) (i:Nat) {g:Nat} {cs:List Value} {T:TypeId} (hi:L[i]?=some (.aJ g cs T)) (p:List Nat) (hM:M.map some=p.map (fun i=>L[i]?)) (hp:(p.all fun j=>j != i)=true):PV (b7 M) w g cs T:=by
  refine⟨h.aJ i hi,?_⟩
  rintro⟨b,hb,hf⟩
  have h2:some b∈M.map some:=adf.2 ⟨b,hb,rfl⟩
  rw[hM]at h2
  obtain⟨j,OH,hj⟩:=adf.1 h2
  have dY:j≠i:=by simpa using af7.1 hp j OH
  exact h.sep j i _ _ dY hj hi g hf rfl
end
end Go.Rl
namespace Go.Rl
section
variable {P:Program} {n:Nat} {Q:fQ} {R:Nat→Value} {w0 w:World} {F:Nat→Prop} {L:List Atom} {K:Value→World→Prop} {dst:Option Tmp} {ty:TypeId} {pos:String} {af:Array Edge} {gd:Option (Nat×Bool)}
variable {α:Type} {enc:α→Value}
theorem py {t e : TypeId} {x : Operand} {v : Value} {E : TypeId} {l : List α} (ht : P.underlying t = some (.slice e)) (he : P.underlying e = some (.int .u8)) (hN : aI w0 F w L) (i : Nat) (hi : L[i]? = some (.own enc E v l)) (hx : ev R x = v) {ad : Addr} {m c : Nat} (hv : v = .slice (some ad) m c)
    (h:∀w',aI w0 F w' (L.set i (.sl enc v l))→K v w'):eL P ⟨dst,.convert t t x,ty,pos,af,gd⟩ R w K:=
  zQ ht he (hN.sl i hi) hx hv fun w' hs hm fb=>h w' <| hN.dw i hi hm ⟨hs,fun k hk=>by rw[fb];exact(hN.low i _ hi k hk).2⟩ fun k hk=>⟨.inl hk,by rw[fb];exact(hN.low i _ hi k hk).2⟩
theorem nt {t e : TypeId} {s x : Operand} {v u : Value} {l m : List α} {z : Value} {bytes : Nat} {ad : Addr} (ht : P.underlying t = some (.slice e)) (gE : (P.info? e).map (fun i => (i.zero, i.size, i.bytes)) = some (some z, 1, bytes)) (hz : z.cells.size = 1)
    (hN:aI w0 F w L) (hs:Sl enc w v l) (hv:v=.slice (some ad) l.length l.length) (hx:ev R s=v) (hu:Sl enc w u m) (hm:0<m.length) (hy:ev R x=u) (hlen:(l.length+m.length)*bytes≤140737488355328) (kx:0<bytes)
    (h:∀v' w',aI w0 F w' (.own enc e v' (l++m)::L)→K v' w'):eL P ⟨dst,.call ⟨.builtin .append,#[s,x],#[t,t]⟩,ty,pos,af,gd⟩ R w K:=by
  obtain⟨A,c,rfl,HT,Qm,hc⟩:=hu
  obtain⟨A0,c0,e0,Z9,Z0,TN⟩:=hs
  rw[hv]at e0
  cases e0
  have Cu:∃i,P.info? e=some i∧i.zero=some z∧i.size=1∧i.bytes=bytes:=by
    cases hq:P.info? e with
    |none=>simp[hq]at gE
    |some i=>simp[hq]at gE;exact⟨i,rfl,gE⟩
  obtain⟨i,hi,Dt,xi,ON⟩:=Cu
  have hle:l.length+m.length≤(l.length+m.length)*bytes:=ahf _ kx
  have hA:∃a,A=some a:=by
    cases A with
    |some a=>exact⟨a,rfl⟩
    |none=>obtain⟨a,h',_⟩:=hc 0 (enc m[0]) (by simp[acE hm]);cases h'
  obtain⟨a,rfl⟩:=hA
  have hr := run_append_grow (P := P) w t ty e i z ht hi Dt ad l.length l.length (l.map enc) (by simp [xi]) (fun j u hj => by obtain ⟨PQ, h', fE⟩ := TN j u hj; cases h'; exact fE)
    a m.length c (m.map enc) (by simp[xi]) (fun j u hj=>by obtain⟨PQ,h',fE⟩:=hc j u hj;cases h';exact fE) (by omega) (by omega) (by rw[ON];exact growslice_fits (by omega) hlen)
  have MD:=grownCap_ge w (l.length+m.length) l.length e
  have TL:grownCap w (l.length+m.length) l.length e≤maxLen:=grownCap_le_maxLen w (l.length+m.length) l.length e (by unfold maxLen;omega)
  refine eL.value (v:=.slice (some ⟨w.heap.size,0,none⟩) (l.length+m.length) (grownCap w (l.length+m.length) l.length e)) (w':=w.drew.alloc (.cells ((l.map enc).toArray++(m.map enc).toArray++agQ z.cells (grownCap w (l.length+m.length) l.length e-(l.length+m.length))) e)) ?_ (h _ _ (hN.cc (l:=l++m) ?_ ((Ext.drew w).trans (Ext.alloc _ _))))
  · simp only [execOp, resolve, invoke, builtin, adW, adb, ad6, hx, hv, hy]
    simp[hr]
  · unfold eG
    have Ct:(l++m).length=l.length+m.length:=acw
    refine⟨by simp,.inr ⟨w.heap.size,grownCap w (l.length+m.length) l.length e,_,by rw[Ct],ac3 _,heap_alloc_new w.drew _,by rw[Ct];exact MD,TL,?_,?_⟩⟩
    · simp only [agO, agP, size_zeroCells, hz, ac4]
      omega
    · have e1 : ((l.map enc).toArray ++ (m.map enc).toArray ++ agQ z.cells (grownCap w (l.length + m.length) l.length e - (l.length + m.length))).toList = (l ++ m).map enc ++ (agQ z.cells (grownCap w (l.length + m.length) l.length e - (l.length + m.length))).toList := by simp
      rw[e1,show(l++m).length*1=((l++m).map enc).length by simp]
      exact ajh
end
end Go.Rl
namespace Go.Rl
section
variable {P:Program} {R:Nat→Value} {w:World} {dst:Option Tmp} {ty:TypeId} {pos:String} {af:Array Edge} {gd:Option (Nat×Bool)}
theorem qL {t e : TypeId} {len s : Nat} {parts : Array (Nat × Operand)} {ps : List (Nat × Value)} {z : Value} {zc cs : List Value} (ht : P.underlying t = some (.array len e)) (fb : (P.info? e).map (·.size) = some s) (hz : (P.info? t).map (·.zero) = some (some z))
    {pl:List (Nat×Operand)} (hp:parts.toList=pl) (EW:(pl.map fun(i,x)=>(i,ev R x))=ps) (Rf:z.cells=zc.toArray) (hf:ae3 (fun i=>some (i*s,s)) zc.toArray ps=some cs.toArray):Ev P ⟨dst,.build t parts,ty,pos,af,gd⟩ R w (.agg cs.toArray):=by
  have Cj:(zeroValue t).run P w=.ok z w:=by
    cases hq:P.info? t with
    |none=>simp[hq]at hz
    |some i=>
      have:i.zero=some z:=by simpa[hq]using hz
      simp[zeroValue,typeInfo,hq,this]
  have Oh:(parts.map fun(i,x)=>(i,ev R x)).toList=ps:=by rw[af6,hp,EW]
  simp only[Ev,execOp,akr,ady,Cj,adI,run_underlying ht,fk (w:=w) fb,Oh,Rf,hf,ael]
theorem iW {t e : TypeId} {len : Nat} {x i : Operand} {cs : List Value} {k : IntKind} {m : Int} {v : Value} {d : TypeDesc} (ht : P.underlying t = some (.array len e)) (he : P.underlying e = some d) (hd : d.isRow = false) (fb : (P.info? e).map (·.size) = some 1)
    (hx:ev R x=.agg cs.toArray) (hi:ev R i=.int k m) (h0:0≤m) (h1:m<len) (hv:cs[m.toNat]?=some v):Ev P ⟨dst,.index t x i,ty,pos,af,gd⟩ R w v:=by
  have uI:(isAgg e).run P w=.ok false w:=by
    unfold isAgg
    rw[ady,run_underlying he w]
    cases d<;>simp_all [ahG]
  have hr:(0≤m∧m<(len:Int)):=⟨h0,h1⟩
  simp[Ev,execOp,hx,hi,Instr.index,asIntOf,run_underlying ht,hr,fk (w:=w) fb,part,uI,hv]
end
section
variable {w0 w:World} {F:Nat→Prop} {L M:List Atom}
theorem aI.comm (h:aI w0 F w (L++M)):aI w0 F w (M++L):=by
  have get:∀(i:Nat) a,(M++L)[i]?=some a→∃j,(L++M)[j]?=some a∧((i<M.length∧j=L.length+i)∨(M.length≤i∧j=i-M.length∧j<L.length)):=by
    intro i a hi
    rcases adh i M.length with h1|h1
    · rw [ads h1] at hi
      exact⟨L.length+i,by rw[adp (by omega)];simpa using hi,.inl ⟨h1,rfl⟩⟩
    · rw [adp h1] at hi
      have hl:=(acA.1 hi).1
      exact⟨i-M.length,by rw[ads hl];exact hi,.inr ⟨h1,rfl,hl⟩⟩
  refine⟨h.mod,fun i a hi=>?_,fun i a hi k hk=>?_,fun i i' a b dY hi JV k hk jb=>?_⟩
  · obtain⟨j,hj,_⟩:=get i a hi;exact h.says j a hj
  · obtain⟨j,hj,_⟩:=get i a hi;exact h.low j a hj k hk
  · obtain ⟨j, hj, e⟩ := get i a hi
    obtain⟨j',OI,e'⟩:=get i' b JV
    exact h.sep j j' a b (by omega) hj OI k hk jb
end
def A4 {α:Type} (x:Value×List α):Array Value:=#[x.1]
def Nd {α:Type} (enc:α→Value) (F:Nat→Prop) (x:Value×List α) (w:World):Prop:=Sl enc w x.1 x.2∧oW F x.1 x.2
def FA (α:Type) (s x:Value×List α) (b:Bool) (s':Value×List α):Prop:=b=true∧s'.2=s.2++x.2
theorem FA.on {α:Type}:∀s x b s',FA α s x b s'→b=true:=fun _ _ _ _ h=>h.1
theorem DL {α:Type} {s0 s:Value×List α} {pre:List (List α)} (h:u6 (FA α) adT s0 pre s):s.2=s0.2++pre.flatten:=by
  induction h with
  |nil=>simp
  |snoc _ ht ih=>rw[ht.2,ih,adk,aeq];simp
theorem LI {α:Type} {s0 s x:Value×List α} {pre xs post:List (List α)} (h:u6 (FA α) adT s0 pre s) (h0:s0.2=[]) (hx:xs=pre++adT x::post):s.2.length+x.2.length≤xs.flatten.length:=by
  have h1:=DL h
  rw[h0,aeE]at h1
  rw[h1,hx];simp only[aeq,ac6,acw];omega
theorem Js {α:Type} {l:List α} {i:Nat} {a:α} (h:l[i]?=some a):l.drop i=a::l.drop (i+1):=by
  obtain⟨hi,rfl⟩:=acA.1 h
  exact aeL hi
end Go.Rl
namespace Go.Rl
section
variable {P:Program} {fn:Func} {n id:Nat} {K:Value→World→Prop} {J:List Deferred→(Nat→Value)→World→Prop} {Q:fc}
theorem gZ:yY (Jq P fn n K):=fun _ _ _ _ h=>h.1.elim (fun e=>by cases e) (fun e=>by cases e)
theorem gX (h:yY Q):yY (wy J Q):=h
theorem hC (h:yY Q):yY (qP id Q):=h
theorem gY (h:yY Q):yY (BI Q):=h
end
end Go.Rl
namespace Go.Rl
open Go.RowKit
section
variable {P:Program}
def rJ (a:I2):Value:=.agg #[.int .i64 a.1,.int .i64 a.2]
theorem LL {kt:TypeId} (h:∀(a b:I2),nb P 10000 kt (rJ a) (rJ b) (decide (a=b))) (a:I2) (w:World):∀(l:List (J4 I2)) (i:Nat),(agY kt (rJ a) (kA rJ l).toList i).run P w=.ok (kM a l i) w:=by
  intro l
  induction l with
  |nil=>intro i;simp[agY,kA,kM]
  |cons e r ih=>
    intro i
    have W9:=ih (i+1)
    have he:(Op.equal kt (rJ a) (rJ e.1)).run P w=.ok (decide (a=e.1)) w:=h a e.1 w
    simp only[kA,adb,kM]at W9 ⊢
    simp only[agY,ady,he,adI]
    by_cases hq:a=e.1
    · simp[hq]
    · simp only[hq,decide_false,if_false];exact W9
theorem ml {kt t1 t2:TypeId} {f1 f2:Field} (hu:P.underlying kt=some (.struct #[f1,f2])) (hs:P.stoodInHeld kt=false) (h1:f1.name≠"_"∧f1.offset=0) (h2:f2.name≠"_"∧f2.offset=1) (HU:P.underlying f1.type=some (.int .i64)) (Sy:P.underlying f2.type=some (.int .i64)):KE P kt rJ:=by
  have pa:∀a:I2,dE P f1.type #[.int .i64 a.1,.int .i64 a.2] f1.offset (.int .i64 a.1):=fun a=>dE.leaf HU (by rw[h1.2];rfl)
  have pb:∀a:I2,dE P f2.type #[.int .i64 a.1,.int .i64 a.2] f2.offset (.int .i64 a.2):=fun a=>dE.leaf Sy (by rw[h2.2];rfl)
  have hE:∀(a b:I2),nb P 10000 kt (rJ a) (rJ b) (decide (a=b)):=fun a b=>
    nb.iff (nb.struct hu hs rfl (qa.cons h1.1 (pa a) (pa b) (nb.int HU) (qa.cons h2.1 (pb a) (pb b) (nb.int Sy) qa.nil))) (by simp[Prod.ext_iff])
  refine⟨fun a e w=>?_,fun a l w=>?_,fun a=>?_⟩
  · show (afR e (9998 + 1 + 1) kt (rJ a)).run P w = .ok () w
    unfold afR
    have c1:∀w,(afR e (9998+1) f1.type (.int .i64 a.1)).run P w=.ok () w:=fun w=>ahT HU (by simp[ajp]) e 9998
    have c2:∀w,(afR e (9998+1) f2.type (.int .i64 a.2)).run P w=.ok () w:=fun w=>ahT Sy (by simp[ajp]) e 9998
    have p1:=pa a w
    have p2:=pb a w
    simp[ady,run_underlying hu,rJ,h1.1,h2.1,p1,p2,c1,c2]
  · have hf := LL hE a w l 0
    unfold ajm
    cases l with
    |nil=>simp[ady,run_underlying hu,kA,ah2,kM]
    |cons e r=>
      have hn:ah2 (.struct #[f1,f2]) (rJ a) (kA rJ (e::r)).toList 0=none:=by simp[kA,ah2,Instr.sameNow,rJ]
      simp only[ady,run_underlying hu,adI,hn]
      exact hf
  · unfold agz rJ
    simp
    exact⟨by unfold agz;simp,by unfold agz;simp⟩
end
end Go.Rl
namespace Go.Gr
open Go.Rl
abbrev vI (x:Int):Value:=.int .i64 x
theorem tmod_neg {x n:Int} (hn:0<n) (h:x.tmod n<0):x.tmod n+n=x%n:=by
  have h1:=ahH x n
  have h2: -n<x.tmod n:=by
    rcases Int.le_total 0 x with hx|hx
    · have:=Int.tmod_nonneg n hx;omega
    · have e : x.tmod n = -((-x).tmod n) := by rw [Int.neg_tmod, Int.neg_neg]
      have:=aib (-x) hn
      omega
  have h3:(x.tmod n+n)%n=x.tmod n+n:=aiE (by omega) (by omega)
  rw[←h3]
  have e:x=(x.tmod n+n)+n*(x.tdiv n-1):=by rw[Int.mul_sub,Int.mul_one];omega
  conv=>rhs;rw[e]
  rw[agL]
theorem Ki {x n:Int} (hn:0<n) (h:¬x.tmod n<0):x.tmod n=x%n:=by
  have h1:=ahH x n
  have h3:(x.tmod n)%n=x.tmod n:=aiE (by omega) (aib x hn)
  rw[←h3]
  conv=>rhs;rw[←h1,agL]
def jj (n:Int):Int:=max 1 (min n 12)
def Dj (n:Int) (a:I3):I3:=(a.1%n,a.2.1%n,a.2.2%2147483649)
def cn (n:Int) (l:List I3):List I3:=(l.take 40).map (Dj n)
def FQ (n:Int) (a:I3):Prop:=0≤a.1∧a.1<n∧0≤a.2.1∧a.2.1<n∧0≤a.2.2∧a.2.2≤2147483648
instance (n:Int) (a:I3):Decidable (FQ n a):=inferInstanceAs (Decidable (_∧_))
theorem sA (n:Int):1≤jj n∧jj n≤12:=by unfold jj;omega
theorem Ez (n:Int) (l:List I3):∀a∈cn (jj n) l,FQ (jj n) a:=by
  intro a ha
  obtain⟨b,_,rfl⟩:=adf.1 ha
  have h:=sA n
  have h1:=agi b.1 (b:=jj n) (by omega)
  have h2:=agF b.1 (b:=jj n) (by omega)
  have h3:=agi b.2.1 (b:=jj n) (by omega)
  have h4:=agF b.2.1 (b:=jj n) (by omega)
  have h5:=agi b.2.2 (b:=2147483649) (by omega)
  have h6:=agF b.2.2 (b:=2147483649) (by omega)
  exact⟨h1,h2,h3,h4,h5,by show b.2.2%2147483649≤_;omega⟩
theorem tK (n:Int) (l:List I3):(cn n l).length≤40:=by unfold cn;rw[ac4,ac5];omega
def ee (n:Int) (ar:List I3):Int:=if 16777216<n∨67108864<ar.length then 3 else if n<0 then 2 else if ∀a∈ar,FQ n a then 0 else 2
theorem KN (n:Int) (l:List I3):ee (jj n) (cn (jj n) l)=0:=by
  have h:=sA n
  have h2:=tK (jj n) l
  unfold ee
  rw[if_neg (by omega),if_neg (by omega),if_pos (Ez n l)]
theorem nV {n:Int} {ar:List I3} (h:ee n ar=0):0≤n∧n≤16777216∧ar.length≤67108864∧∀a∈ar,FQ n a:=by
  unfold ee at h
  split at h
  · cases h
  · split at h
    · cases h
    · split at h
      · exact⟨by omega,by omega,by omega,by assumption⟩
      · cases h
theorem du {α:Type} {l:List α} {i:Nat} {a x:α} (h:l[i]?=some a) (hx:x∈l.take (i+1)):x∈l.take i∨x=a:=by
  rw[ae1,h]at hx;simpa using hx
def jZ (ar:List I3) (k:Nat):Prop:=∃a,ar[k]?=some a∧a.1≠a.2.1∧∀(i:Nat) b,ar[i]?=some b→¬(b.1=a.1∧b.2.1=a.2.1∧(b.2.2<a.2.2∨b.2.2=a.2.2∧i<k))
noncomputable instance (ar:List I3) (k:Nat):Decidable (jZ ar k):=adt _
noncomputable def kept (ar:List I3):List Int:=(adz ar.length).map fun k=>if jZ ar k then 1 else 0
theorem Hq (ar:List I3):(kept ar).length=ar.length:=by unfold kept;simp
theorem xe (ar:List I3) (k:Nat):(adz (k+1)).map (fun k=>if jZ ar k then(1:Int)else 0)=(adz k).map (fun k=>if jZ ar k then(1:Int)else 0)++[if jZ ar k then 1 else 0]:=by rw[aeF,adZ];rfl
theorem CQ {ar:List I3} {i j:Nat} {a b:I3} (hi:jZ ar i) (hj:jZ ar j) (ha:ar[i]?=some a) (hb:ar[j]?=some b) (h1:a.1=b.1) (h2:a.2.1=b.2.1):i=j:=by
  obtain⟨a',E8,_,ka⟩:=hi
  obtain⟨b',AB,_,kb⟩:=hj
  rw[ha]at E8;rw[hb]at AB
  cases E8;cases AB
  have e1:=ka j b hb
  have e2:=kb i a ha
  apply Decidable.byContradiction
  intro dY
  rcases aiF a.2.2 b.2.2 with h|h|h
  · exact e2 ⟨h1,h2,.inl h⟩
  · rcases ah9 dY with h' | h'
    · exact e2 ⟨h1,h2,.inr ⟨h,h'⟩⟩
    · exact e1 ⟨h1.symm,h2.symm,.inr ⟨h.symm,h'⟩⟩
  · exact e1 ⟨h1.symm,h2.symm,.inl h⟩
def jy (ar:List I3) (ks:List Int) (v:Int) (k:Nat):List I3:=match ar[k]? with
  |some a=>if ks[k]?=some 1∧a.1=v then[(a.2.1,a.2.2,(k:Int))]else[]
  |none=>[]
def FL (ar:List I3) (ks:List Int) (v:Int) (k:Nat):List I3:=(adz k).flatMap (jy ar ks v)
theorem lx (ar:List I3) (ks:List Int) (v:Int) (k:Nat):FL ar ks v (k+1)=FL ar ks v k++jy ar ks v k:=by unfold FL;rw[aeF,afg];simp
theorem Dl {ar:List I3} {ks:List Int} {v:Int} {e:I3} {n:Nat} (h:e∈FL ar ks v n):∃(k:Nat) (a:I3),k<n∧ar[k]?=some a∧ks[k]?=some 1∧a.1=v∧e=(a.2.1,a.2.2,(k:Int)):=by
  unfold FL at h
  obtain⟨k,hk,he⟩:=af8.1 h
  unfold jy at he
  split at he
  · rename_i a ha
    split at he
    · rename_i hc
      rw[ade]at he
      exact⟨k,a,adQ.1 hk,ha,hc.1,hc.2,he⟩
    · cases he
  · cases he
theorem zK {α:Type} (l:List α) (k:Nat) (e:α):(l.take k++[e]++l.drop k).Perm (l++[e]):=by
  have h:(l.take k++[e]++l.drop k).Perm (l.take k++(l.drop k++[e])):=by rw[adk];exact List.Perm.append_left _ ahI
  rw[←adk,afv]at h
  exact h
theorem KV {α:Type} (l:List α) (k:Nat) (e:α):(l.take k++[e]++l.drop k).length=l.length+1:=by have:=(zK l k e).length_eq;simpa using this
end Go.Gr
namespace Go.Gr
open Go.Rl
def kB (d:List Int):Nat:=(d.filter fun x=>decide (0≤x)).length
def BU (B:Nat) (d:List Int):Nat:=(d.map fun x=>if x<0 then B+1 else x.toNat).sum
structure lf (n:Nat) (M:Int) (d:List Int):Prop where
  len:d.length=n
  low:∀x∈d,-1≤x
  high:∀x∈d,x≤((kB d:Int)-1)*M
theorem LG (d:List Int):kB d≤d.length:=aeJ _ _
theorem nS {α:Type} {l:List α} {i:Nat} {a:α} (h:l[i]?=some a):∃p q,l=p++a::q∧p.length=i∧∀b,l.set i b=p++b::q:=by
  obtain⟨hi,rfl⟩:=acA.1 h
  refine⟨l.take i,l.drop (i+1),?_,?_,fun b=>?_⟩
  · conv=>lhs;rw[←afv i l,aeL hi]
  · rw[ac5];omega
  · rw[afY,if_pos hi]
theorem lf.top {n:Nat} {M:Int} {d:List Int} (h:lf n M d) (hM:0≤M) {x:Int} (hx:x∈d):x≤(n:Int)*M:=by
  have h1:=h.high x hx
  have h2:=LG d
  have h3:=h.len
  exact afw h1 (aeu (by omega) hM)
theorem lf.dw {n:Nat} {M:Int} {d:List Int} (h:lf n M d) (hM:0≤M) {b:Nat} {x y W:Int} (hx:x∈d) (hb:d[b]?=some y) (ub:0≤x) (hW:0≤W∧W≤M) (hc:y<0∨x+W<y):lf n M (d.set b (x+W)):=by
  obtain⟨p,q,rfl,hp,yp⟩:=nS hb
  rw[yp]
  have hl:=h.len
  have e1:kB (p++y::q)=kB p+(if 0≤y then 1 else 0)+kB q:=by
    unfold kB
    rw[aev,acw,aec]
    split<;>rename_i h1<;>simp at h1<;>simp[h1]<;>omega
  have e2:kB (p++(x+W)::q)=kB p+1+kB q:=by
    unfold kB
    rw[aev,acw,aec,if_pos (by simp;omega),acF]
    omega
  have mono:((kB (p++y::q):Int)-1)*M≤((kB (p++(x+W)::q):Int)-1)*M:=aeu (by rw[e1,e2];split<;>omega) hM
  refine⟨by simpa using hl,fun z hz=>?_,fun z hz=>?_⟩
  · rcases adl.1 hz with h1 | h1
    · exact h.low z (adl.2 (.inl h1))
    · rcases ac1.1 h1 with rfl | h1
      · omega
      · exact h.low z (adl.2 (.inr (adv _ h1)))
  · have zT : ∀ z ∈ p ++ y :: q, z ≤ ((kB (p ++ (x + W) :: q) : Int) - 1) * M := fun z hz => afw (h.high z hz) mono
    rcases adl.1 hz with h1|h1
    · exact zT z (adl.2 (.inl h1))
    · rcases ac1.1 h1 with rfl | h1
      · by_cases hy : 0 ≤ y
        · have : y ≤ _ := zT y (by simp)
          omega
        · have h2 := h.high x hx
          have:((kB (p++(x+W)::q):Int)-1)*M=((kB (p++y::q):Int)-1)*M+M:=by
            rw[e1,e2,if_neg hy]
            have:((kB p+1+kB q:Nat):Int)-1=(((kB p+0+kB q:Nat):Int)-1)+1:=by omega
            rw[this,Int.add_mul,Int.one_mul]
          omega
      · exact zT z (adl.2 (.inr (adv _ h1)))
theorem KB {B:Nat} {d:List Int} {b:Nat} {y v:Int} (hb:d[b]?=some y) (hv:0≤v) (hvB:v≤B) (hc:y<0∨v<y):BU B (d.set b v)<BU B d:=by
  obtain⟨p,q,rfl,hp,yp⟩:=nS hb
  rw[yp]
  unfold BU
  simp only[adZ,adb,ai7,ad4]
  rw[if_neg (show ¬v<0 by omega)]
  split<;>omega
theorem lf.start {n s:Nat} {M:Int} (hM:0≤M) (hs:s<n):lf n M ((acY n (-1:Int)).set s 0):=by
  have hr:(acY n (-1:Int))[s]?=some (-1):=by rw[aeA,if_pos hs]
  obtain⟨p,q,e,hp,yp⟩:=nS hr
  have fY:∀z∈p++(-1)::q,z= -1:=fun z hz=>by rw[←e]at hz;exact afc hz
  have hz:∀l:List Int,(∀z∈l,z= -1)→kB l=0:=fun l hl=>by
    unfold kB
    rw[afi,af0]
    intro z hz;rw[hl z hz];simp
  have hd:kB (p++0::q)=1:=by
    have h1:=hz p fun z Cj=>fY z (by simp[Cj])
    have h2:=hz q fun z Cj=>fY z (by simp[Cj])
    unfold kB at*
    rw[aev,acw,aec,if_pos (by simp),acF,h1,h2]
  rw[yp]
  refine⟨?_,fun z Cj=>?_,fun z Cj=>?_⟩
  · have h2 : (acY n (-1 : Int)).length = (p ++ (-1) :: q).length := congrArg adg e
    rw[ac7]at h2
    rw[h2];simp
  · rcases adl.1 Cj with h1 | h1
    · rw[fY z (by simp[h1])];omega
    · rcases ac1.1 h1 with rfl | h1
      · omega
      · rw[fY z (by simp[h1])];omega
  · rw [hd]
    rcases adl.1 Cj with h1|h1
    · rw[fY z (by simp[h1])];simp
    · rcases ac1.1 h1 with rfl | h1
      · simp
      · rw[fY z (by simp[h1])];simp
theorem lf.step {n:Nat} {M:Int} {d:List Int} (h:lf n M d) (hM:0≤M) {a b:Nat} {x y W:Int} (hx:d[a]?=some x) (hb:d[b]?=some y) (ub:0≤x) (hW:0≤W∧W≤M) (hc:y<0∨x+W<y):
    lf n M (d.set b (x+W))∧BU ((n:Int)*M).toNat (d.set b (x+W))+1≤BU ((n:Int)*M).toNat d:=by
  have h1:=h.dw hM (acy hx) hb ub hW hc
  have cD:=(acA.1 hb).1
  have hm:(d.set b (x+W))[b]?=some (x+W):=by rw[adi,if_pos rfl,if_pos cD]
  have h2:=h1.top hM (acy hm)
  exact⟨h1,KB hb (by omega) (by omega) hc⟩
theorem yX {n:Nat} {d:List Int} {c:Int} (hl:d.length=n) (h:∀j,j<n→d[j]?=some c):d=acY n c:=by
  refine afU fun i=>?_
  rw[aeA]
  split
  · exact h i ‹_›
  · exact ad2 (by omega)
theorem yW {d:List Int} {c:Int} {i:Nat} (hi:i<d.length) (h:∀j,j<i→d[j]?=some c):∀j,j<i+1→(d.set i c)[j]?=some c:=by
  intro j hj
  by_cases e:i=j
  · subst e;rw[adi,if_pos rfl,if_pos hi]
  · rw[adi,if_neg e];exact h j (by omega)
theorem im (b:Bool):acO b=acO (decide (b=true)):=by cases b<;>rfl
def bC (ls:List I5) (u v:Int):Option I3:=(ls.find? fun x=>decide (x.1=u∧x.2.1=v)).map (·.2.2)
def cQ (ls:List I5) (u v:Int):Prop:=(bC ls u v).isSome=true
noncomputable instance (ls:List I5) (u v:Int):Decidable (cQ ls u v):=adt _
noncomputable def F8 (ls:List I5) (u v:Int):Value:=.tuple #[.agg #[.int .i64 ((bC ls u v).getD (0,0,0)).1,.int .i64 ((bC ls u v).getD (0,0,0)).2.1,.int .i64 ((bC ls u v).getD (0,0,0)).2.2],.bool (decide (cQ ls u v))]
theorem wu {ls:List I5} {u v:Int} {x:I3} (h:bC ls u v=some x):F8 ls u v=.tuple #[.agg #[.int .i64 x.1,.int .i64 x.2.1,.int .i64 x.2.2],.bool true]:=by unfold F8;rw[decide_eq_true (show cQ ls u v by unfold cQ;rw[h];rfl),h];rfl
theorem DW {ls:List I5} {u v:Int} (h:bC ls u v=none):F8 ls u v=.tuple #[.agg #[.int .i64 0,.int .i64 0,.int .i64 0],.bool false]:=by unfold F8;rw[decide_eq_false (show ¬cQ ls u v by unfold cQ;rw[h];decide),h];rfl
theorem Bs {ls:List I5} {u v:Int} (h:∀x∈ls,¬(x.1=u∧x.2.1=v)):bC ls u v=none:=by
  unfold bC
  rw[agG.2 fun x hx=>by simpa using h x hx];rfl
theorem Ga {ls:List I5} {u v:Int} {i:Nat} {a:I5} (h:∀x∈ls.take i,¬(x.1=u∧x.2.1=v)) (ha:ls[i]?=some a) (h1:a.1=u) (h2:a.2.1=v):bC ls u v=some a.2.2:=by
  unfold bC
  obtain⟨hi,rfl⟩:=acA.1 ha
  conv=>lhs;rw[←afv i ls,aeL hi]
  rw[List.find?_append,agG.2 fun x hx=>by simpa using h x hx,Option.none_or,List.find?_cons,decide_eq_true ⟨h1,h2⟩]
  rfl
theorem dU {ls:List I5} {u v:Int} {x:I3} (h:bC ls u v=some x):(u,v,x)∈ls:=by
  unfold bC at h
  rw[aho]at h
  obtain⟨a,ha,rfl⟩:=h
  have h1:=List.find?_some ha
  simp only[decide_eq_true_eq]at h1
  have h2:=List.mem_of_find?_eq_some ha
  rw[←h1.1,←h1.2];exact h2
theorem cQ.some {ls:List I5} {u v:Int} (h:cQ ls u v):∃x,bC ls u v=some x:=agV.1 h
noncomputable def cv (ls:List I5) (v:Int) (k:Nat):List Int:=((adz k).filter fun x:Nat=>decide (cQ ls v (x:Int))).map afl
noncomputable def dj (ls:List I5) (v:Int) (k:Nat):List Int:=((adz k).filter fun x:Nat=>decide (cQ ls (x:Int) v)).map afl
noncomputable def placesOf (ins:List Int) (k:Nat):List Int:=((adz k).filter fun x:Nat=>decide (ins[x]?=some 1)).map afl
theorem dg (p:Nat→Bool) (k:Nat):(((adz (k+1)).filter p).map afl)=((adz k).filter p).map afl++(if p k then[(k:Int)]else[]):=by
  rw[aeF,aev,adZ,aec]
  congr 1
  split<;>simp
theorem eh (p:Nat→Bool) (k:Nat):(((adz k).filter p).map afl).length≤k:=by rw[ac4];have:=aeJ p (adz k);rwa [afW]at this
theorem pA {ls:List I5} {v x:Int} {k:Nat} (h:x∈cv ls v k):0≤x∧x<k∧cQ ls v x:=by
  unfold cv at h
  obtain⟨y,hy,rfl⟩:=adf.1 h
  have:=adK.1 hy
  exact⟨adU _,by have:=adQ.1 this.1;show(y:Int)<k;omega,by simpa using this.2⟩
theorem sB {ls:List I5} {v x:Int} {k:Nat} (h:x∈dj ls v k):0≤x∧x<k∧cQ ls x v:=by
  unfold dj at h
  obtain⟨y,hy,rfl⟩:=adf.1 h
  have:=adK.1 hy
  exact⟨adU _,by have:=adQ.1 this.1;show(y:Int)<k;omega,by simpa using this.2⟩
def fZ (n:Nat) (ins:List Int) (v:Int):Prop:=0≤v∧v<n∧ins[v.toNat]?=some 1
noncomputable instance (n:Nat) (ins:List Int) (v:Int):Decidable (fZ n ins v):=adt _
theorem oK {ins:List Int} {x:Int} {k:Nat}:x∈placesOf ins k↔fZ k ins x:=by
  unfold placesOf
  rw[adf]
  constructor
  · rintro ⟨y, hy, rfl⟩
    have h:=adK.1 hy
    exact⟨adU _,by have:=adQ.1 h.1;show(y:Int)<k;omega,by simpa using h.2⟩
  · rintro ⟨h0, h1, h2⟩
    exact⟨x.toNat,adK.2 ⟨adQ.2 (by omega),by simpa using h2⟩,aer h0⟩
structure Bf (n:Nat) (M:Int) (ins:List Int) (ls:List I5):Prop where
  ins:ins.length=n
  ws:∀x∈ls,0≤x.1∧x.1<n∧0≤x.2.1∧x.2.1<n∧0≤x.2.2.1∧x.2.2.1≤M
def ox (n:Nat) (ins:List Int) (ls:List I5) (u v w mid:Int):Prop:=¬fZ n ins u∨¬fZ n ins v∨u=v∨w<0∨mid<0∨cQ ls u v∧((bC ls u v).getD (0,0,0)).1≤w
noncomputable instance (n:Nat) (ins:List Int) (ls:List I5) (u v w mid:Int):Decidable (ox n ins ls u v w mid):=adt _
def C2 (ls:List I5) (u v:Int):List I5:=ls.filter fun x=>decide (¬x.1=u∨¬x.2.1=v)
noncomputable def jL (n:Nat) (ins:List Int) (ls:List I5) (u v w mid:Int):List I5:=if ox n ins ls u v w mid then ls else C2 ls u v++[(u,v,w,mid,-1)]
def wz (ls:List I5) (v:Int):List I5:=ls.filter fun x=>decide (¬x.1=v∧¬x.2.1=v)
theorem dO {α:Type} {p:α→Bool} {l:List α} {i:Nat} {a:α} (h:l[i]?=some a):(l.take (i+1)).filter p=(l.take i).filter p++(if p a then[a]else[]):=by
  rw[ae1,h,aev]
  congr 1
  show[a].filter p=_
  rw[aec];split<;>simp
theorem Kr (l:List I3) (ks:List Int) (v:Int) (k:Nat):(FL l ks v k).length≤k:=by
  induction k with
  |zero=>exact ac3 _
  |succ k ih=>
    rw[lx,acw]
    have:(jy l ks v k).length≤1:=by
      unfold jy
      split
      · split<;>simp
      · simp
    omega
def Jr (v:Int) (e:I3):I5:=(v,e.1,e.2.1,-1,e.2.2)
def yd (l:List I3) (ks:List Int) (n:Nat):List I5:=(adz n).flatMap fun v:Nat=>(FL l ks (v:Int) l.length).map (Jr v)
theorem wX (l:List I3) (ks:List Int) (n:Nat):yd l ks (n+1)=yd l ks n++(FL l ks (n:Int) l.length).map (Jr n):=by unfold yd;rw[aeF,afg];simp
theorem eI {α β:Type} {l:List α} {q:Nat} {a:α} (f:α→β) (h:l[q]?=some a):(l.take (q+1)).map f=(l.take q).map f++[f a]:=by rw[dM h,adZ];rfl
structure oX (n:Nat) (ls:List I5) (v:Int) (s:I5):Prop where
  ends:s.1≠s.2.1∧s.2.2.2.1=v∧s.2.2.2.2= -1
  T2:∃x y,bC ls s.1 v=some x∧bC ls v s.2.1=some y∧s.2.2.1=x.1+y.1
end Go.Gr
namespace Go.Gr
open Go.Rl
abbrev Bo:=BitVec 64
theorem ofInt_u64 (a:Bo):ad5 64 (a.toNat:Int)=a:=by
  rw[BitVec.ofInt_natCast];simp
theorem DU (a:Bo):aeb.wrap (a.toNat:Int)=(a.toNat:Int):=by
  have:=a.isLt
  simp only[aeg,adR,adS,aeh,adP,if_false]
  omega
theorem NG (x:Int):aeb.wrap x=((ad5 64 x).toNat:Int):=by
  simp only[aeg,adR,adS,aeh,adP,if_false,aic]
  omega
theorem L2 (a b:Bo):arith .xor .u64 (a.toNat:Int) (b.toNat:Int)=((a^^^b).toNat:Int):=by
  simp only[arith]
  rw[show aeb.bits=64 from rfl,ofInt_u64,ofInt_u64,DU]
theorem NF (a c:Bo):arith .mul .u64 (a.toNat:Int) (c.toNat:Int)=((a*c).toNat:Int):=by
  simp only[arith,aeg,adR,adS,aeh,adP,if_false,BitVec.toNat_mul]
  rw[Int.natCast_emod,Int.natCast_mul]
  rfl
theorem QS (a:Bo):arith .mul .u64 (a.toNat:Int) 1099511628211=((a*1099511628211#64).toNat:Int):=NF a 1099511628211#64
theorem QR (a:Bo):((a.toNat:Int)).fdiv (2^(min (32:Int).toNat aeb.bits))=((a>>>32).toNat:Int):=by
  rw[show min (32:Int).toNat aeb.bits=32 from rfl]
  rw[afL,afH,aeZ _ (by decide)]
  have h2:(2:Nat)^32=4294967296:=by decide
  have h3:(2:Int)^32=4294967296:=by decide
  rw[h2,h3]
  omega
def mixed (h:Bo) (x:Int):Bo:=(h^^^ad5 64 x)*1099511628211#64
def vg (h:Bo) (x:Int):Bo:=mixed h x^^^(mixed h x>>>32)
def wF (h:Bo) (a:I3):Bo:=vg (vg (vg h a.1) a.2.1) a.2.2
def oF (n:Int) (l:List I3):Bo:=l.foldl wF (vg 14695981039346656037#64 n)
theorem zJ {h:Bo} {l:List I3} {i:Nat} {a:I3} (ha:l[i]?=some a):(l.take (i+1)).foldl wF h=wF ((l.take i).foldl wF h) a:=by rw[dM ha,aiG];rfl
end Go.Gr
namespace Go.Gr
open Go.Rl
def j9 (l:List Int) (j:Int):Nat:=(l.filter fun x=>decide (x=j)).length
def oT (l:List Int) (j:Int):Nat:=(l.filter fun x=>decide (x<j)).length
theorem n4 (l:List Int) (j:Int):oT l (j+1)=oT l j+j9 l j:=by
  induction l with
  |nil=>rfl
  |cons a r ih=>
    unfold oT j9 at*
    simp only[aec]
    by_cases h1:a<j
    · rw[if_pos (by simp;omega),if_pos (by simpa using h1),if_neg (by simp;omega)];simp only[acF];omega
    · by_cases h2 : a = j
      · rw[if_pos (by simp;omega),if_neg (by simpa using h1),if_pos (by simpa using h2)];simp only[acF];omega
      · rw[if_neg (by simp;omega),if_neg (by simpa using h1),if_neg (by simpa using h2)];exact ih
theorem DI (l:List Int) (j:Int):j9 l j≤l.length:=aeJ _ _
theorem DH (l:List Int) (j:Int):oT l j≤l.length:=aeJ _ _
theorem kf {l:List Int} {i:Nat} {a:Int} (h:l[i]?=some a) (j:Int):j9 (l.take (i+1)) j=j9 (l.take i) j+if a=j then 1 else 0:=by
  unfold j9
  rw[dM h,aev,acw]
  congr 1
  by_cases e:a=j
  · rw[if_pos e,aec,if_pos (by simpa using e)];rfl
  · rw[if_neg e,aec,if_neg (by simpa using e)];rfl
theorem yP {l:List Int} {i:Nat} {a:Int} (h:l[i]?=some a):j9 (l.take i) a<j9 l a:=by
  have h1:=kf h a
  rw[if_pos rfl]at h1
  have h2:j9 (l.take (i+1)) a≤j9 l a:=by
    unfold j9
    exact((aiH (i+1) l).filter _).length_le
  omega
theorem yO {l:List Int} {i:Nat} {a:Int} (h:l[i]?=some a):oT l a+j9 (l.take i) a<l.length:=by
  have h1:=yP h
  have h2:=n4 l a
  have h3:=DH l (a+1)
  omega
theorem Fu {l:List Int} {j:Int} (h:∀x∈l,x≠j):j9 l j=0:=by
  unfold j9
  rw[afi,af0]
  intro x hx;simpa using h x hx
theorem Ft {l:List Int} {j:Int} (h:∀x∈l,j≤x):oT l j=0:=by
  unfold oT
  rw[afi,af0]
  intro x hx;have:=h x hx;simp;omega
structure Cs (n:Nat) (cs:List Int) (f:Nat→Int):Prop where
  len:cs.length=n+1
  val:∀j,j≤n→cs[j]?=some (f j)
theorem Cs.at {n j:Nat} {cs:List Int} {f:Nat→Int} {x:Int} (h:Cs n cs f) (hx:cs[j]?=some x):x=f j:=by
  have hl:=(acA.1 hx).1
  have h1:=h.val j (by have:=h.len;omega)
  rw[hx]at h1
  exact ac2 h1
theorem Cs.as {n:Nat} {cs:List Int} {f g:Nat→Int} (h:Cs n cs f) (e:∀j,j≤n→f j=g j):Cs n cs g:=⟨h.len,fun j hj=>by rw[h.val j hj,e j hj]⟩
theorem Cs.set {n i:Nat} {cs:List Int} {f g:Nat→Int} {x:Int} (h:Cs n cs f) (hi:i≤n) (hx:x=g i) (e:∀j,j≤n→j≠i→f j=g j):Cs n (cs.set i x) g:=by
  refine⟨by rw[adG];exact h.len,fun j hj=>?_⟩
  rw[adi]
  by_cases oN:i=j
  · subst oN;rw[if_pos rfl,if_pos (by have:=h.len;omega),hx]
  · rw[if_neg oN,h.val j hj,e j hj (ajc oN)]
theorem Cs.QD (n:Nat):Cs n (acY (n+1) 0) fun _=>0:=⟨ac7,fun j hj=>by rw[aeA,if_pos (by omega)]⟩
def f0 (ks:List Int) (i:Nat):Nat→Int:=fun j=>(j9 (ks.take i) ((j:Int)-1):Int)
def f1 (ks:List Int) (v:Nat):Nat→Int:=fun j=>if j≤v then(oT ks (j:Int):Int)else(j9 ks ((j:Int)-1):Int)
def f2 (ks:List Int) (i:Nat):Nat→Int:=fun j=>(oT ks (j:Int):Int)+(j9 (ks.take i) (j:Int):Int)
theorem AS {n:Nat} {ks:List Int}:Cs n (acY (n+1) 0) (f0 ks 0):=(Cs.QD n).as fun j _=>rfl
theorem DF {n i:Nat} {ks cs:List Int} {e x:Int} (h:Cs n cs (f0 ks i)) (hk:ks[i]?=some e) (h0:0≤e) (h1:e<n) (hx:cs[(e+1).toNat]?=some x):0≤x∧x≤ks.length∧Cs n (cs.set (e+1).toNat (x+1)) (f0 ks (i+1)):=by
  have hv:=h.at hx
  have he:(((e+1).toNat:Nat):Int)-1=e:=by omega
  have hle:=DI (ks.take i) e
  rw[ac5]at hle
  refine⟨by rw[hv];exact adU _,by rw[hv];unfold f0;rw[he];omega,h.set (by omega) ?_ fun j hj dY=>?_⟩
  · rw[hv];unfold f0;rw[he,kf hk,if_pos rfl];simp
  · unfold f0;rw[kf hk,if_neg (by omega)];simp
theorem AR {n:Nat} {ks cs:List Int} (h:Cs n cs (f0 ks ks.length)) (hk:∀x∈ks,0≤x):Cs n cs (f1 ks 0):=h.as fun j _=>by
  unfold f0 f1
  rw[adn]
  split
  · rename_i h0
    have:j=0:=by omega
    subst this
    rw[Fu (fun x hx=>by have:=hk x hx;omega),Ft (fun x hx=>by simpa using hk x hx)]
  · rfl
theorem DE {n v:Nat} {ks cs:List Int} {x y:Int} (h:Cs n cs (f1 ks v)) (hv:v<n) (hx:cs[v+1]?=some x) (hy:cs[v]?=some y):0≤x∧x≤ks.length∧0≤y∧y≤ks.length∧Cs n (cs.set (v+1) (x+y)) (f1 ks (v+1)):=by
  have e1:=h.at hx
  have e2:=h.at hy
  unfold f1 at e1 e2
  rw[if_neg (by omega),show((v+1:Nat):Int)-1=(v:Int) by omega]at e1
  rw[if_pos (ac3 _)]at e2
  have l1:=DI ks (v:Int)
  have l2:=DH ks (v:Int)
  refine⟨by omega,by omega,by omega,by omega,h.set (by omega) ?_ fun j hj dY=>?_⟩
  · unfold f1;rw[if_pos (ac3 _),e1,e2,show((v+1:Nat):Int)=(v:Int)+1 by omega,n4];omega
  · unfold f1
    by_cases XI:j≤v
    · rw[if_pos XI,if_pos (by omega)]
    · rw[if_neg XI,if_neg (by omega)]
theorem Jl {n:Nat} {ks cs:List Int} (h:Cs n cs (f1 ks n)):Cs n cs (f2 ks 0):=h.as fun j hj=>by
  unfold f1 f2
  rw[if_pos hj,afb]
  simp[j9]
theorem LA {n i:Nat} {ks cs:List Int} {e x:Int} (h:Cs n cs (f2 ks i)) (hk:ks[i]?=some e) (h0:0≤e) (h1:e<n) (hx:cs[e.toNat]?=some x):0≤x∧x<ks.length∧x=(oT ks e:Int)+(j9 (ks.take i) e:Int)∧Cs n (cs.set e.toNat (x+1)) (f2 ks (i+1)):=by
  have hv:=h.at hx
  have he:((e.toNat:Nat):Int)=e:=by omega
  have hp:=yO hk
  unfold f2 at hv
  rw[he]at hv
  refine⟨by omega,by omega,hv,h.set (by omega) ?_ fun j hj dY=>?_⟩
  · unfold f2;rw[he,kf hk,if_pos rfl];omega
  · unfold f2;rw[kf hk,if_neg (by omega)];simp
def posOf (ks:List Int) (i:Nat):Nat:=oT ks (ks.getD i 0)+j9 (ks.take i) (ks.getD i 0)
theorem xz (l:List Int) {a b:Int} (h:a≤b):oT l a≤oT l b:=by
  induction l with
  |nil=>exact ac3 _
  |cons x r ih=>
    unfold oT at*
    simp only[aec]
    by_cases h1:x<a
    · rw[if_pos (by simpa using h1),if_pos (by simp;omega)];simp only[acF];omega
    · rw [if_neg (by simpa using h1)]
      split
      · simp only[acF];omega
      · exact ih
theorem uT (l:List Int) (j:Int) {a b:Nat} (h:a≤b):j9 (l.take a) j≤j9 (l.take b) j:=by
  have e:l.take a=(l.take b).take a:=by rw[List.take_take,ahi h]
  unfold j9
  rw[e]
  exact((aiH a (l.take b)).filter _).length_le
theorem wN {ks:List Int} {i j:Nat} (oN:i<j) (hj:j<ks.length):posOf ks i≠posOf ks j:=by
  have hi:ks[i]?=some (ks.getD i 0):=by rw[adX,acE (by omega)];rfl
  have OI:ks[j]?=some (ks.getD j 0):=by rw[adX,acE hj];rfl
  unfold posOf
  generalize ks.getD i 0=a at*
  generalize ks.getD j 0=b at*
  have ha:=yP hi
  have hb:=yP OI
  rcases aiF a b with h|h|h
  · have h1 := xz ks (show a + 1 ≤ b by omega)
    have h2:=n4 ks a
    omega
  · subst h
    have h1:=kf hi a
    rw[if_pos rfl]at h1
    have h2:=uT ks a (show i+1≤j by omega)
    omega
  · have h1 := xz ks (show b + 1 ≤ a by omega)
    have h2:=n4 ks b
    omega
structure Laid (l ks os:List Int) (i:Nat):Prop where
  len:os.length=l.length
  fits:∀j x,j<i→l[j]?=some x→os[posOf ks j]?=some x
theorem Laid.start {l ks:List Int}:Laid l ks (acY l.length 0) 0:=⟨ac7,fun j x hj=>absurd hj (agj _)⟩
theorem Laid.step {l ks os:List Int} {i:Nat} {x e p:Int} (h:Laid l ks os i) (Bl:ks.length=l.length) (hx:l[i]?=some x) (hk:ks[i]?=some e) (hp:p=(oT ks e:Int)+(j9 (ks.take i) e:Int)):Laid l ks (os.set p.toNat x) (i+1):=by
  have hi:=(acA.1 hx).1
  have iI:p.toNat=posOf ks i:=by
    unfold posOf
    rw[adX,hk,hp]
    simp only[Option.getD_some];omega
  have cD:=yO hk
  refine⟨by rw[adG];exact h.len,fun j y hj hy=>?_⟩
  rw[adi,iI]
  by_cases oN:j=i
  · subst oN
    rw[hx]at hy
    cases hy
    rw [if_pos rfl, if_pos (by rw [h.len]; have : p.toNat < ks.length := by omega
                               omega)]
  · rw [if_neg (fun e => wN (ks := ks) (show j < i by omega) (by omega) e.symm)]
    exact h.fits j y (by omega) hy
theorem uP {m:Nat} {ps:List Nat} (hn:ps.Nodup) (hp:∀p∈ps,p<m+1):∀p∈ps.erase m,p<m:=fun p h=>by
  have h1:=(hn.mem_erase_iff).1 h
  have:=hp p h1.2
  omega
theorem EB:∀{m:Nat} {ps:List Nat},ps.Nodup→(∀p∈ps,p<m)→ps.length≤m:=by
  intro m
  induction m with
  |zero=>
    intro ps _ hp
    cases ps with
    |nil=>exact ac3 _
    |cons a r=>exact absurd (hp a (adH ..)) (agj _)
  |succ m ih=>
    intro ps hn hp
    have h1:=ih (hn.erase m) (uP hn hp)
    by_cases hm:m∈ps
    · rw[afd hm]at h1;omega
    · rw[ahJ hm]at h1;omega
theorem qp:∀{m:Nat} {ps:List Nat},ps.length=m→ps.Nodup→(∀p∈ps,p<m)→ps.Perm (adz m):=by
  intro m
  induction m with
  |zero=>intro ps hl _ _;rw[adF hl];exact .refl _
  |succ m ih=>
    intro ps hl hn hp
    have hm:m∈ps:=by
      apply aeN
      intro hm
      have h1:=EB (hn.erase m) (uP hn hp)
      rw[ahJ hm]at h1
      omega
    have h2:=ih (ps:=ps.erase m) (by rw[afd hm];omega) (hn.erase m) (uP hn hp)
    rw[aeF]
    exact((List.perm_cons_erase hm).trans (h2.cons m)).trans (ahI (l₁:=[m]))
theorem nw (l:List Int):(adz l.length).map (fun i=>l.getD i 0)=l:=by
  apply afU
  intro i
  rw[adE]
  by_cases h:i<l.length
  · rw[agv h];simp[adX,acE h]
  · rw[ad2 (by rw[afW];omega),ad2 (by omega)];rfl
theorem GW {ks:List Int} {i:Nat} (hi:i<ks.length):posOf ks i<ks.length:=by
  have hk:ks[i]?=some (ks.getD i 0):=by rw[adX,acE hi];rfl
  exact yO hk
theorem Laid.perm {l ks os:List Int} (h:Laid l ks os l.length) (Bl:ks.length=l.length):os.Perm l:=by
  have EW:((adz l.length).map (posOf ks)).Perm (adz l.length):=by
    refine qp (by simp) ?_ ?_
    · rw [List.nodup_iff_pairwise_ne, aeC]
      refine(afp).imp_of_mem fun{a b} ha hb p9=>wN p9 (by have:=adQ.1 hb;omega)
    · intro p hp
      obtain⟨i,hi,rfl⟩:=adf.1 hp
      have:=GW (ks:=ks) (i:=i) (by have:=adQ.1 hi;omega)
      omega
  have h1:=(EW.map fun i=>os.getD i 0)
  have e1:(adz l.length).map (fun i=>os.getD i 0)=os:=by rw[←h.len];exact nw os
  have e2:((adz l.length).map (posOf ks)).map (fun i=>os.getD i 0)=l:=by
    rw[aem]
    conv=>rhs;rw[←nw l]
    refine afh fun i hi=>?_
    have hi:=adQ.1 hi
    have h2:=h.fits i l[i] hi (acE hi)
    show os.getD (posOf ks i) 0=_
    rw[adX,h2,adX,acE hi]
  rw[e1,e2]at h1
  exact h1.symm
def keyOf (ar:List I3) (q:I3→Int) (k:Int):Int:=q (ar.getD k.toNat (0,0,0))
theorem pE {ar:List I3} {q:I3→Int} {k:Int} {a:I3} (h:ar[k.toNat]?=some a):keyOf ar q k=q a:=by unfold keyOf;rw[adX,h];rfl
def gx (ar:List I3) (q:I3→Int) (l:List Int):List Int:=l.map (keyOf ar q)
theorem jz (ar:List I3) (q:I3→Int) (l:List Int):(gx ar q l).length=l.length:=ac4 _
theorem nW {ar:List I3} {q:I3→Int} {l:List Int} {i:Nat} {k:Int} {a:I3} (hk:l[i]?=some k) (ha:ar[k.toNat]?=some a):(gx ar q l)[i]?=some (q a):=by unfold gx;rw[adE,hk];simp[pE ha]
theorem xd {ar:List I3} {q:I3→Int} {l:List Int} (hv:∀k∈l,0≤k∧k<(ar.length:Int)) (hq:∀a∈ar,0≤q a):∀x∈gx ar q l,0≤x:=by
  intro x hx
  obtain⟨k,hk,rfl⟩:=adf.1 hx
  have h:=hv k hk
  have cD:k.toNat<ar.length:=by omega
  rw[pE (acE cD)]
  exact hq _ (agZ cD)
end Go.Gr
namespace Go.Gr
open Go.Rl
def vB (b:Bool):Value:=.bool (decide (b=true))
def LD (x:Int):Array Value:=#[.int .i64 x]
def TZ (_:Nat→Prop) (_:Int) (_:World):Prop:=True
def fo (p : Nat → Bool) : Nat → Nat → List Int
  |_,0=>[]
  |i,k+1=>if p i then(i:Int)::fo p (i+1) k else fo p (i+1) k
theorem wL {p:Nat→Bool} {i k:Nat} (hk:0<k) (h:p i=true):fo p i k=(i:Int)::fo p (i+1) (k-1):=by
  obtain⟨k,rfl⟩:∃q,k=q+1:=⟨k-1,by omega⟩
  rw[fo,if_pos h];rfl
theorem wM {p:Nat→Bool} {i k:Nat} (hk:0<k) (h:p i=false):fo p i k=fo p (i+1) (k-1):=by
  obtain⟨k,rfl⟩:∃q,k=q+1:=⟨k-1,by omega⟩
  rw[fo,if_neg (by rw[h];simp)];rfl
theorem wY {p:Nat→Bool} {x:Int}:∀{k i:Nat},x∈fo p i k↔∃j:Nat,i≤j∧j<i+k∧p j=true∧x=(j:Int):=by
  intro k
  induction k with
  |zero=>intro i;simp[fo];intro j h1 h2;omega
  |succ k ih=>
    intro i
    rw[fo]
    by_cases h:p i=true
    · rw [if_pos h, ac1, ih]
      constructor
      · rintro (rfl | ⟨j, h1, h2, h3, h4⟩)
        · exact⟨i,ac3 _,by omega,h,rfl⟩
        · exact⟨j,by omega,by omega,h3,h4⟩
      · rintro ⟨j, h1, h2, h3, h4⟩
        rcases aid h1 with e|e
        · subst e;exact .inl h4
        · exact .inr ⟨j,e,by omega,h3,h4⟩
    · rw [if_neg h, ih]
      constructor
      · rintro⟨j,h1,h2,h3,h4⟩;exact⟨j,by omega,by omega,h3,h4⟩
      · rintro ⟨j, h1, h2, h3, h4⟩
        rcases aid h1 with e|e
        · subst e;exact absurd h3 h
        · exact⟨j,e,by omega,h3,h4⟩
theorem nT (p:Nat→Bool):∀(k i:Nat),(fo p i k).length≤k:=by
  intro k
  induction k with
  |zero=>intro i;exact ac3 _
  |succ k ih=>
    intro i
    rw[fo]
    have:=ih (i+1)
    split
    · rw[acF];omega
    · omega
def nz (ar:List I3) (i:Nat):Bool:=decide (∃a,ar[i]?=some a∧¬a.1=a.2.1)
theorem K1 {ar:List I3} {i:Nat} {a:I3} (h:ar[i]?=some a) (dY:¬a.1=a.2.1):nz ar i=true:=decide_eq_true ⟨a,h,dY⟩
theorem K2 {ar:List I3} {i:Nat} {a:I3} (h:ar[i]?=some a) (dY:¬¬a.1=a.2.1):nz ar i=false:=decide_eq_false fun⟨b,hb,h2⟩=>by rw[h]at hb;cases hb;exact dY h2
def n6 (bs:List Bool) (i:Nat):Bool:=decide (bs[i]?=some true)
theorem N5 {bs:List Bool} {i:Nat} {b:Bool} (h:bs[i]?=some b) (hb:b=true):n6 bs i=true:=decide_eq_true (by rw[h,hb])
theorem N6 {bs:List Bool} {i:Nat} {b:Bool} (h:bs[i]?=some b) (hb:¬b=true):n6 bs i=false:=decide_eq_false (by rw[h];intro e;cases e;exact hb rfl)
def Bi (α:Type) (s:Value×List α) (x:α) (b:Bool) (s':Value×List α):Prop:=b=true∧s'.2=s.2++[x]
theorem Bi.on {α:Type}:∀s x b s',Bi α s x b s'→b=true:=fun _ _ _ _ h=>h.1
theorem yV {α:Type} {s0 s:Value×List α} {pre:List α} (h:u6 (Bi α) id s0 pre s):s.2=s0.2++pre:=by
  induction h with
  |nil=>simp
  |snoc _ ht ih=>rw[ht.2,ih,adk];rfl
theorem DO {α:Type} {s0 s:Value×List α} {pre xs post:List α} {x:α} (h:u6 (Bi α) id s0 pre s) (h0:s0.2=[]) (hx:xs=pre++id x::post):s.2.length<xs.length:=by
  have h1:=yV h
  rw[h0,aeE]at h1
  rw[h1,hx];simp
def yJ (ar:List I3) (q:I3→Int) (k:Int):I3:=(keyOf ar q k,keyOf ar (·.2.2) k,k)
theorem Fp {ar:List I3} {q:I3→Int} {k:Int} {a:I3} (h:ar[k.toNat]?=some a):yJ ar q k=(q a,a.2.2,k):=by unfold yJ;rw[pE h,pE h]
end Go.Gr
namespace Go.dn
def le:List UInt8→Nat
  |[]=>0
  |c::r=>c.toNat+256*le r
def put (n k:Nat):List UInt8:=(adz k).map fun i=>aeV (n/256^i)
def clip (wide:Int):Nat:=(max 0 (min wide 8)).toNat
theorem DJ (wide:Int):clip wide≤8:=by unfold clip;omega
theorem yQ:clip 4=4:=rfl
theorem Jz:clip 8=8:=rfl
theorem dz (n k:Nat):(put n k).length=k:=by simp[put]
theorem GS (n k:Nat):put n (k+1)=aeV n::put (n/256) k:=by
  unfold put
  rw[List.range_succ_eq_map,adb,aem]
  congr 1
  · simp
  · apply afh
    intro i _
    simp only[ajq]
    rw[agM,Nat.div_div_eq_div_mul]
theorem Ho (k:Nat):∀n,le (put n k)=n%256^k:=by
  induction k with
  |zero=>intro n;simp[put,le,Nat.mod_one]
  |succ k ih=>
    intro n
    rw[GS,le,ih]
    have h:(aeV n).toNat=n%256:=by simp
    rw[h,agM,Nat.mod_mul]
theorem EO (a b:List UInt8):le (a++b)=le a+256^a.length*le b:=by
  induction a with
  |nil=>simp[le]
  |cons c r ih=>
    simp only[ag0,le,ih,acF,agM]
    rw[Nat.mul_add,Nat.mul_assoc];omega
theorem Hp (l:List UInt8):le l<256^l.length:=by
  induction l with
  |nil=>simp[le]
  |cons c r ih=>
    have:=c.toNat_lt
    simp only[le,acF,agM]
    omega
theorem KX (l:List UInt8) (h:l.length≤8):le l<18446744073709551616:=by
  have h1:=Hp l
  have h2:256^l.length≤256^8:=afD (by decide) h
  have h3:(256:Nat)^8=18446744073709551616:=by decide
  omega
theorem KY (l:List UInt8) (h:l.length≤4):le l<4294967296:=by
  have h1:=Hp l
  have h2:256^l.length≤256^4:=afD (by decide) h
  have h3:(256:Nat)^4=4294967296:=by decide
  omega
theorem KW (l:List UInt8) (i:Nat) (h:i<l.length):le (l.take (i+1))=le (l.take i)+l[i].toNat*256^i:=by
  rw[ad0 h,EO]
  have:(l.take i).length=i:=by simp;omega
  rw[this,le,le,aia,afJ,afK]
def rC (x:Int):Nat:=(x%18446744073709551616).toNat
def LY (n:Nat):Int:=if n<9223372036854775808 then n else(n:Int)-18446744073709551616
theorem Gi (x:Int):rC x<18446744073709551616:=by unfold rC;omega
theorem Kg (x:Int) (h0: -9223372036854775808≤x) (h1:x≤9223372036854775807):LY (rC x)=x:=by unfold LY rC;split<;>omega
theorem Kf (n:Nat) (h:n<18446744073709551616):rC (n:Int)=n:=by unfold rC;omega
def bE (l:List Int):List UInt8:=put l.length 4++l.flatMap fun x=>put (rC x) 8
def jE (s:List UInt8):List UInt8:=put s.length 4++s
theorem kS (l:List Int):(l.flatMap fun x=>put (rC x) 8).length=8*l.length:=by
  induction l with
  |nil=>rfl
  |cons x r ih=>simp only[ae0,acw,ih,dz,acF];omega
theorem ck (l:List Int):(bE l).length=4+8*l.length:=by unfold bE;rw[acw,kS,dz]
theorem eO (l:List UInt8):(jE l).length=4+l.length:=by unfold jE;rw[acw,dz]
theorem Ff (l:List Int) (i:Nat) (h:i<l.length):((l.take (i+1)).flatMap fun x=>put (rC x) 8)=((l.take i).flatMap fun x=>put (rC x) 8)++put (rC l[i]) 8:=by
  rw[ad0 h,afg];simp
abbrev St:=List UInt8×Int
def fA (s:St) (k:Nat):St×List UInt8:=if s.2≠0 then(s,[])else if s.1.length<k then(([],10),[])else((s.1.drop k,0),s.1.take k)
theorem eta {α β:Type} (p:α×β):p=(p.1,p.2):=rfl
def kC (s:St) (k:Nat):St×Nat:=((fA s k).1,le (fA s k).2)
theorem D5 {s:St} (k:Nat) (h:s.2≠0):fA s k=(s,[]):=by unfold fA;rw[if_pos h]
theorem zm {s:St} {k:Nat} (h:s.2=0) (h2:s.1.length<k):fA s k=(([],10),[]):=by unfold fA;rw[if_neg (by simp[h]),if_pos h2]
theorem pf {s:St} {k:Nat} (h:s.2=0) (h2:k≤s.1.length):fA s k=((s.1.drop k,0),s.1.take k):=by unfold fA;rw[if_neg (by simp[h]),if_neg (by omega)]
theorem wA (s:St) (k:Nat):(fA s k).2.length≤k:=by
  unfold fA
  split
  · simp
  · split
    · simp
    · simp;omega
def jN:Nat→List UInt8→List Int
  |0,_=>[]
  |n+1,l=>LY (le (l.take 8))::jN n (l.drop 8)
def lZ (s:St) (most:Int) (size:Nat):St×List UInt8:=
  if(kC s 4).1.2≠0 then((kC s 4).1,[])else if most<0∨most<((kC s 4).2:Int)then(([],3),[])else fA (kC s 4).1 ((kC s 4).2*size)
def de (s:St) (most:Int):St×List Int:=((lZ s most 8).1,jN ((lZ s most 8).2.length/8) (lZ s most 8).2)
def ep (s:St) (most:Int):St×List UInt8:=lZ s most 1
theorem gH (s:St) (k:Nat):(fA s k).1.1.length≤s.1.length∧(fA s k).2.length≤s.1.length:=by
  unfold fA
  split
  · exact⟨ac3 _,adO _⟩
  · split
    · exact⟨adO _,adO _⟩
    · exact⟨by simp,by simp;omega⟩
theorem wB (s:St) (n size:Nat):size ∣ (fA s (n*size)).2.length:=by
  unfold fA
  split
  · exact Nat.dvd_zero _
  · split
    · exact Nat.dvd_zero _
    · have : (s.1.take (n * size)).length = n * size := by simp; omega
      rw[this];exact Nat.dvd_mul_left _ _
def oa (s:St):Int:=if s.2≠0 then s.2 else if 0<s.1.length then 5 else 0
theorem wW (s:St):(kC s 4).2<4294967296:=KY _ (wA s 4)
theorem Cg (i:Nat):∀l:List UInt8,jN (i+1) l=jN i l++[LY (le ((l.drop (i*8)).take 8))]:=by
  induction i with
  |zero=>intro l;simp[jN]
  |succ i ih=>
    intro l
    rw[jN,ih (l.drop 8),jN,afs,ag0,show 8+i*8=(i+1)*8 from by omega]
theorem yl (n:Nat):∀l,(jN n l).length=n:=by
  induction n with
  |zero=>intro l;rfl
  |succ n ih=>intro l;simp[jN,ih]
theorem Ch (l:List Int) (h:∀x∈l,-9223372036854775808≤x∧x≤9223372036854775807):jN l.length (l.flatMap fun x=>put (rC x) 8)=l:=by
  induction l with
  |nil=>rfl
  |cons x r ih=>
    simp only[acF,jN,ae0]
    have hl:(put (rC x) 8).length=8:=dz _ _
    rw[ahj hl,ahk hl,ih (fun y hy=>h y (adv _ hy)),Ho]
    have hx:=h x (adH ..)
    rw[show(256:Nat)^8=18446744073709551616 from by decide,af9 (Gi x),Kg x hx.1 hx.2]
theorem NP:(256:Nat)^4=4294967296:=by decide
theorem G8 (n k:Nat) (y:List UInt8):kC (put n k++y,0) k=((y,0),n%256^k):=by
  unfold kC
  rw[pf rfl (by simp[dz])]
  simp only[ahk (dz n k),ahj (dz n k),Ho]
theorem zD (Jy size:Nat) (body y:List UInt8) (most:Int) (h1:body.length=Jy*size) (h2:(Jy:Int)≤most) (h3:Jy<4294967296):lZ (put Jy 4++(body++y),0) most size=((y,0),body):=by
  unfold lZ
  rw[G8,if_neg (by simp),if_neg (by rw[NP,af9 h3];omega),pf rfl (by rw[NP,af9 h3];simp[h1])]
  rw[NP,af9 h3]
  simp only[ahk h1,ahj h1]
def PS (l:List Int):Prop:=∀x∈l,-9223372036854775808≤x∧x≤9223372036854775807
theorem qu (l:List Int) (y:List UInt8) (most:Int) (hl:PS l) (h2:(l.length:Int)≤most) (h3:l.length<4294967296):de (bE l++y,0) most=((y,0),l):=by
  unfold de bE
  rw[adk,zD l.length 8 _ y most (by rw[kS];omega) h2 h3,kS]
  have:8*l.length/8=l.length:=by omega
  simp only[this,Ch l hl]
theorem D1 (s y:List UInt8) (most:Int) (h2:(s.length:Int)≤most) (h3:s.length<4294967296):ep (jE s++y,0) most=((y,0),s):=by
  unfold ep jE
  rw[adk,zD s.length 1 s y most (by omega) h2 h3]
theorem KJ (s:St) (k:Nat):(kC s k).1.1.length≤s.1.length:=(gH s k).1
end Go.dn
namespace Go.dn
open Go.Rl
abbrev vi (x:Int):Value:=.int .i64 x
theorem GV (i:Nat):(2:Int)^(8*i)=((256^i:Nat):Int):=by
  rw[Int.pow_mul];norm_cast
theorem wrap_u64 (x:Int):aeb.wrap x=(rC x:Int):=by
  simp only[aeg,adR,adS,aeh,adP,if_false,rC]
  omega
theorem lj (n:Nat) (h:n<18446744073709551616):aeb.wrap (n:Int)=(n:Int):=by rw[wrap_u64,Kf n h]
theorem DV (n:Nat) (h:n<18446744073709551616):adC.wrap (n:Int)=LY n:=by
  simp only[aeg,adR,adS,agK,LY]
  split<;>split<;>simp_all<;>omega
theorem F6 (n:Nat):agk.wrap (n:Int)=((aeV n).toNat:Int):=by
  have h:=UInt8.toNat_ofNat' (n:=n)
  rw[h]
  simp only[aeg,adR,adS,aeh,adP,if_false]
  omega
theorem GG (n i:Nat) (hi:i≤8):((n:Int)).fdiv (2^(min (8*(i:Int)).toNat aeb.bits))=((n/256^i:Nat):Int):=by
  have h:min (8*(i:Int)).toNat aeb.bits=8*i:=by simp[adR];omega
  rw[h,GV,aeZ _ (adU _)]
  norm_cast
theorem GH (c:UInt8) (i:Nat) (hi:i<8):aeb.wrap (((c.toNat:Int))*2^(min (8*(i:Int)).toNat aeb.bits))=((c.toNat*256^i:Nat):Int):=by
  have h:min (8*(i:Int)).toNat aeb.bits=8*i:=by simp[adR];omega
  rw[h,GV]
  have hc:=c.toNat_lt
  have:c.toNat*256^i<18446744073709551616:=by
    have h1:256^i≤256^7:=afD (by decide) (by omega)
    have h2:c.toNat*256^i≤255*256^7:=afS (by omega) h1
    have h3:255*(256:Nat)^7<18446744073709551616:=by decide
    omega
  rw[show((c.toNat:Int))*((256^i:Nat):Int)=((c.toNat*256^i:Nat):Int)from by norm_cast,lj _ this]
theorem KF (a c i:Nat) (ha:a<256^i) (hc:c<256) (hi:i<8):arith .or .u64 (a:Int) ((c*256^i:Nat):Int)=((a+c*256^i:Nat):Int):=by
  simp only[arith]
  rw[show aeb.bits=64 from rfl]
  have h7:256^i≤256^7:=afD (by decide) (by omega)
  have h8:(256:Nat)^7=72057594037927936:=by decide
  have hb:c*256^i≤255*256^7:=afS (by omega) h7
  have h1:(ad5 64 (a:Int) |||ad5 64 ((c*256^i:Nat):Int)).toNat=a+c*256^i:=by
    rw[BitVec.toNat_or]
    have e:∀x:Nat,x<18446744073709551616→(ad5 64 (x:Int)).toNat=x:=fun x hx=>by simp;omega
    rw[e a (by omega),e _ (by omega)]
    have hp:(256:Nat)^i=2^(8*i):=by rw[Nat.pow_mul]
    rw[hp]at ha ⊢
    rw[Nat.or_comm,afK c,←Nat.two_pow_add_eq_or_of_lt ha,Nat.add_comm]
  rw[h1,lj _ (by omega)]
def jg (n K i:Nat):List UInt8:=(adz K).map fun j=>if j<i then aeV (n/256^j)else 0
theorem kh (n K i:Nat):(jg n K i).length=K:=by simp[jg]
theorem xP (n K:Nat):jg n K 0=acY K 0:=by
  unfold jg
  simp only[agj,if_false]
  rw[List.map_const',afW]
theorem xR (n K:Nat):jg n K K=put n K:=by
  unfold jg put
  apply afh
  intro j hj
  rw[if_pos (by simpa using hj)]
theorem xQ (n K i:Nat):jg n K (i+1)=(jg n K i).set i (aeV (n/256^i)):=by
  apply aeT
  · simp[jg]
  · intro j h1 h2
    rw[ai2]
    simp only[jg,ag1,afM]
    by_cases oN:i=j
    · subst oN;simp
    · rw [if_neg oN]
      by_cases cD:j<i
      · rw[if_pos cD,if_pos (by omega)]
      · rw[if_neg cD,if_neg (by omega)]
def Rd (T:TypeId) (w:World) (lo hi g:Nat) (s:St):Prop:=lo≤g∧g<hi∧∃v,iu w g [v,.int .i64 s.2] T∧Sl vb w v s.1∧∀k,v.ownBlock=some k→lo≤k∧k<hi∧k≠g
theorem Rd.mod {T:TypeId} {M:Nat→Prop} {w w':World} {lo hi g:Nat} {s:St} (h:Rd T w lo hi g s) (hm:Mod M w w') (hM:∀k,lo≤k→k<hi→¬M k):Rd T w' lo hi g s:=by
  obtain⟨hb,hc,v,h1,h2,h3⟩:=h
  exact⟨hb,hc,v,h1.mod hm (hM g hb hc),h2.mod hm (fun k hk=>hM k (h3 k hk).1 (h3 k hk).2.1),h3⟩
theorem Rd.ext {T:TypeId} {w w':World} {lo hi g:Nat} {s:St} (h:Rd T w lo hi g s) (hm:Ext w w'):Rd T w' lo hi g s:=h.mod hm (fun _ _ _ e=>e)
theorem Rd.lt {T:TypeId} {w:World} {lo hi g:Nat} {s:St} (h:Rd T w lo hi g s):lo≤g∧g<hi∧g<w.heap.size:=by
  obtain⟨hb,hc,v,h1,_⟩:=h
  exact⟨hb,hc,h1.lt⟩
theorem xU (E:TypeId) (w:World) (base:Nat):eG vi E w base (vN) (jN (([]:List UInt8).length/8) []):=eG.nil _ _ _ _
end Go.dn
namespace Go.dn
open Go.Rl
end Go.dn
namespace Go.jJ
def GX:BitVec 32:=0xedb88320#32
def step (n:BitVec 32):BitVec 32:=(n>>>1)^^^((-(n &&& 1#32)) &&& GX)
def eY:Nat→BitVec 32→BitVec 32
  |0,n=>n
  |k+1,n=>eY k (step n)
theorem Hf (n:BitVec 32):(-(n &&& 1#32)) &&& GX=if n.getLsbD 0 then GX else 0#32:=by
  have h:n &&& 1#32=if n.getLsbD 0 then 1#32 else 0#32:=by
    apply afj
    intro i hi
    rw[afm]
    by_cases hb:n.getLsbD 0
    · simp only [hb, if_true]
      match i with
      |0=>simp[hb]
      |i+1=>simp
    · simp only [hb]
      match i with
      |0=>simpa using hb
      |i+1=>simp
  rw[h]
  split
  · decide
  · decide
theorem step_eq (n:BitVec 32):step n=(n>>>1)^^^(if n.getLsbD 0 then GX else 0#32):=by unfold step;rw[Hf]
theorem Bp (x y p:BitVec 32):(x^^^p)^^^(y^^^p)=x^^^y:=by
  rw[show(x^^^p)^^^(y^^^p)=(x^^^y)^^^(p^^^p)from by ac_rfl,BitVec.xor_self,ai8]
theorem Gv (a b:BitVec 32):step (a^^^b)=step a^^^step b:=by
  rw[step_eq,step_eq,step_eq]
  have h:(a^^^b)>>>1=(a>>>1)^^^(b>>>1):=by rw[agl]
  rw[h,aie]
  cases a.getLsbD 0<;>cases b.getLsbD 0
  · simp
  · simp;ac_rfl
  · simp;ac_rfl
  · simp only[if_true,adP,if_false,bne_self_eq_false,Bp,ai8]
theorem Ea (k:Nat):∀a b:BitVec 32,eY k (a^^^b)=eY k a^^^eY k b:=by
  induction k with
  |zero=>intro a b;rfl
  |succ k ih=>intro a b;simp only[eY,Gv,ih]
theorem Ec (j:Nat):∀(k:Nat) (n:BitVec 32),eY (j+k) n=eY k (eY j n):=by
  induction j with
  |zero=>intro k n;simp[eY]
  |succ j ih=>intro k n;rw[show j+1+k=(j+k)+1 from by omega];simp only[eY,ih]
theorem BC (k:Nat) (n:BitVec 32):eY (k+1) n=step (eY k n):=by
  rw[Ec k 1 n];rfl
theorem Eb (k:Nat):∀x:BitVec 32,(∀i,i<k→x.getLsbD i=false)→eY k x=x>>>k:=by
  induction k with
  |zero=>intro x _;simp[eY]
  |succ k ih=>
    intro x h
    have h0:=h 0 (by omega)
    have hs:step x=x>>>1:=by rw[step_eq,h0];simp
    rw[eY,hs,ih]
    · rw[←BitVec.shiftRight_add,Nat.add_comm]
    · intro i hi
      rw[afF]
      exact h _ (by omega)
theorem Fw (x:BitVec 32):eY 8 x=(x>>>8)^^^eY 8 (x &&& 255#32):=by
  have hx:x=(x &&& ~~~255#32)^^^(x &&& 255#32):=by
    apply afj
    intro i hi
    simp only[aie,afm,BitVec.getLsbD_not,hi,decide_true,agK]
    cases x.getLsbD i<;>cases (255#32).getLsbD i<;>rfl
  have h1:eY 8 (x &&& ~~~255#32)=(x &&& ~~~255#32)>>>8:=Eb 8 _ fun i hi=>by
    have:(~~~255#32).getLsbD i=false:=by
      match i,hi with
      |0,_=>rfl
      |1,_=>rfl
      |2,_=>rfl
      |3,_=>rfl
      |4,_=>rfl
      |5,_=>rfl
      |6,_=>rfl
      |7,_=>rfl
    rw[afm,this,Bool.and_false]
  have h2:(x &&& ~~~255#32)>>>8=x>>>8:=by
    apply afj
    intro i hi
    rw[afF,afF,afm]
    by_cases h:8+i<32
    · have:(~~~255#32).getLsbD (8+i)=true:=by
        have hd:∀j:Fin 24,(~~~255#32).getLsbD (8+j.val)=true:=by decide
        exact hd ⟨i,by omega⟩
      rw[this,Bool.and_true]
    · rw[BitVec.getLsbD_of_ge x (8+i) (by omega),aeh]
  calc eY 8 x = eY 8 ((x &&& ~~~255#32) ^^^ (x &&& 255#32)) := by rw [← hx]
    _=_:=by rw[Ea,h1,h2]
def wide (c:UInt8):BitVec 32:=afe 32 c.toNat
theorem sN (c:UInt8):(wide c).toNat=c.toNat:=by
  have:=c.toNat_lt
  simp[wide]
theorem F7 (c:UInt8):wide c>>>8=0#32:=by
  apply afx
  have:=c.toNat_lt
  simp[afL,sN,afH]
  omega
theorem Ww (n:BitVec 32) (c:UInt8):(n>>>8)^^^eY 8 ((n^^^wide c) &&& 255#32)=eY 8 (n^^^wide c):=by
  rw[Fw (n^^^wide c),agl,F7]
  simp
def og (n:BitVec 32) (l:List UInt8):BitVec 32:=l.foldl (fun n c=>eY 8 (n^^^wide c)) n
def more (n:BitVec 32) (l:List UInt8):BitVec 32:= ~~~(og (~~~n) l)
def sum (l:List UInt8):BitVec 32:=more 0#32 l
theorem yf (n:BitVec 32) (a b:List UInt8):og n (a++b)=og (og n a) b:=by simp[og]
theorem B4 (n:BitVec 32) (l:List UInt8) (i:Nat) (h:i<l.length):eY 8 (og n (l.take i)^^^wide l[i])=og n (l.take (i+1)):=by
  rw[ad0 h,yf];rfl
def oU (n:BitVec 32) (k:Nat):UInt8:=aeV (n>>>k).toNat
def nm (n:BitVec 32):List UInt8:=[oU n 0,oU n 8,oU n 16,oU n 24]
def jW (l:List UInt8):Bool:=decide (4≤l.length∧nm (sum (l.take (l.length-4)))=l.drop (l.length-4))
def low (n : BitVec 32) : Nat → BitVec 32
  |0=>0#32
  |i+1=>if n.getLsbD i then low n i^^^(1#32<<<i)else low n i
def vE:BitVec 32:=4294967295#32
theorem nk (n:BitVec 32):(nm n).length=4:=rfl
theorem Ew (l:List UInt8):jW (l++nm (sum l))=true∧(l++nm (sum l)).take ((l++nm (sum l)).length-4)=l:=by
  have h:(l++nm (sum l)).length-4=l.length:=by simp[nk]
  unfold jW
  rw[h,ajh,List.drop_left]
  exact⟨decide_eq_true ⟨by simp[nk],rfl⟩,rfl⟩
end Go.jJ
namespace Go.jJ
open Go.Rl
abbrev u32 (x:BitVec 32):Value:=.int .u32 (x.toNat:Int)
theorem wrap_u32 (x:BitVec 32):aeX.wrap (x.toNat:Int)=(x.toNat:Int):=by
  have:=x.isLt
  simp only[aeg,adR,adS,aeh,adP,if_false]
  omega
theorem ofInt_u32 (x:BitVec 32):ad5 32 (x.toNat:Int)=x:=by
  apply afx
  simp
theorem M8 (a b:BitVec 32):arith .and .u32 (a.toNat:Int) (b.toNat:Int)=((a &&& b).toNat:Int):=by
  simp only[arith]
  rw[show aeX.bits=32 from rfl,ofInt_u32,ofInt_u32,wrap_u32]
theorem JB (a b:BitVec 32):arith .xor .u32 (a.toNat:Int) (b.toNat:Int)=((a^^^b).toNat:Int):=by
  simp only[arith]
  rw[show aeX.bits=32 from rfl,ofInt_u32,ofInt_u32,wrap_u32]
theorem M7 (a:BitVec 32):arith .xor .u32 (if aeX.signed then-1 else aeX.max) (a.toNat:Int)=((~~~a).toNat:Int):=by
  have h:(if aeX.signed then-1 else aeX.max)=(((4294967295#32).toNat:Nat):Int):=by decide
  rw[h,JB]
  congr 2
theorem Tl (a:BitVec 32):arith .sub .u32 0 (a.toNat:Int)=((-a).toNat:Int):=by
  have:=a.isLt
  simp only[arith,aeg,adR,adS,aeh,adP,if_false,BitVec.toNat_neg]
  omega
theorem Bc (a:BitVec 32) (k:Nat) (hk:k≤32):((a.toNat:Int)).fdiv (2^(min (k:Int).toNat aeX.bits))=((a>>>k).toNat:Int):=by
  rw[show min (k:Int).toNat aeX.bits=k from by simp[adR];omega]
  rw[afL,afH,aeZ _ (by exact_mod_cast adO _)]
  norm_cast
theorem Tj (a:BitVec 32):agk.wrap (a.toNat:Int)=((a.toNat%256:Nat):Int):=by
  simp only[aeg,adR,adS,aeh,adP,if_false]
  norm_cast
theorem sw (y:BitVec 8):(y.setWidth 32).toNat=y.toNat:=BitVec.toNat_setWidth_of_le (by decide)
theorem PI (a:BitVec 32) (c:UInt8):arith .xor .u8 ((a.toNat%256:Nat):Int) (c.toNat:Int)=(((a^^^wide c) &&& 255#32).toNat:Int):=by
  have hc:=c.toNat_lt
  simp only[arith]
  rw[show agk.bits=8 from rfl]
  have h1:ad5 8 ((a.toNat%256:Nat):Int)=a.setWidth 8:=by
    apply afx
    simp[aic]
    omega
  have h2:ad5 8 (c.toNat:Int)=(wide c).setWidth 8:=by
    apply afx
    simp[sN]
  have h3:(a^^^wide c) &&& 255#32=((a^^^wide c).setWidth 8).setWidth 32:=by
    apply afj
    intro i hi
    have:∀j:Fin 32,(255#32).getLsbD j.val=decide (j.val<8):=by decide
    rw[afm,this ⟨i,hi⟩,ahg,ahg]
    simp[hi,Bool.and_comm]
  rw[h1,h2,h3,←BitVec.setWidth_xor]
  have:=((a^^^wide c).setWidth 8).isLt
  simp only[aeg,adR,adS,aeh,adP,if_false]
  rw[sw]
  omega
theorem Jw (i:Nat):aeX.wrap (i:Int)=((afe 32 i).toNat:Int):=by
  simp only[aeg,adR,adS,aeh,adP,if_false,BitVec.toNat_ofNat]
  norm_cast
theorem JE (x:BitVec 32):(x &&& 255#32).toNat<256:=by
  rw[BitVec.toNat_and]
  exact ac8 Nat.and_le_right (by decide)
theorem Tg (n:BitVec 32) (c:UInt8):arith .xor .u32 ((n>>>8).toNat:Int) ((eY 8 ((n^^^wide c) &&& 255#32)).toNat:Int)=((eY 8 (n^^^wide c)).toNat:Int):=by rw[JB,Ww]
theorem M6 (a:BitVec 32):agk.wrap (a.toNat:Int)=((aeV a.toNat).toNat:Int):=by rw[Tj];simp
theorem CU (a:BitVec 32) (k:Nat):agk.wrap ((a>>>k).toNat:Int)=((oU a k).toNat:Int):=M6 _
theorem LK (a:BitVec 32):agk.wrap (a.toNat:Int)=((oU a 0).toNat:Int):=by
  have:=M6 (a>>>0)
  simpa[oU]using this
def lH (m i:Nat):List Value:=(adz m).map fun j=>if j<i then u32 (eY 8 (afe 32 j))else u32 0#32
theorem yg (m i:Nat):(lH m i).length=m:=by simp[lH]
theorem B6 (m:Nat):lH m 0=acY m (.int .u32 0):=by
  apply aeT
  · simp[lH]
  · intro j h1 h2
    simp[lH]
theorem EC (m i:Nat):∀u∈lH m i,u.oneCell'=true:=by
  intro u hu
  obtain⟨j,_,rfl⟩:=adf.1 hu
  split<;>rfl
theorem B7 (m i:Nat):lH m (i+1)=(lH m i).set i (u32 (eY 8 (afe 32 i))):=by
  apply aeT
  · simp[lH]
  · intro j h1 h2
    rw[ai2]
    simp only[lH,ag1,afM]
    by_cases oN:i=j
    · subst oN;simp
    · rw [if_neg oN]
      by_cases cD:j<i
      · rw[if_pos cD,if_pos (by omega)]
      · rw[if_neg cD,if_neg (by omega)]
theorem ED (m i:Nat) (h:i<m):(lH m m)[i]?=some (u32 (eY 8 (afe 32 i))):=by
  unfold lH
  rw[adE,agv h]
  simp[h]
def jT (i:Nat):List Value:=lH 256 i
theorem fK (i:Nat):(jT i).length=256:=yg _ _
theorem zp:jT 0=acY 256 (.int .u32 0):=B6 _
theorem sU (i:Nat):∀u∈jT i,u.oneCell'=true:=EC _ _
theorem zq (i:Nat):jT (i+1)=(jT i).set i (u32 (eY 8 (afe 32 i))):=B7 _ _
theorem Kj (x:BitVec 32) (h:x.toNat<256):(jT 256)[((x.toNat:Int)).toNat]?=some (u32 (eY 8 x)):=by
  unfold jT
  rw[aee,ED 256 _ h]
  simp
end Go.jJ
namespace Go.dn
open Go.Rl Go.jJ
def mK (l:List UInt8):List UInt8:=l++nm (jJ.sum l)
def cP (ls:List (List UInt8)):List UInt8:=(ls.map fun l=>jE (mK l)).flatten
theorem eH (l:List UInt8):(mK l).length=l.length+4:=by unfold mK;rw[acw,nk]
theorem Ce {ls:List (List UInt8)} {i:Nat} {l:List UInt8} (h:ls[i]?=some l):cP (ls.take (i+1))=cP (ls.take i)++jE (mK l):=by
  unfold cP
  rw[ae1,h];simp
def dX (ls:List (List UInt8)):Nat:=(ls.map fun l=>l.length+8).sum
theorem dZ (ls:List (List UInt8)):(cP ls).length=dX ls:=by
  unfold cP dX
  induction ls with
  |nil=>rfl
  |cons l r ih=>simp only[adb,ac6,acw,ad4,ih,eO,eH];omega
theorem B9 {ls:List (List UInt8)} {i:Nat} {l:List UInt8} (h:ls[i]?=some l):dX (ls.take (i+1))=dX (ls.take i)+(l.length+8):=by
  unfold dX
  rw[ae1,h];simp
theorem He (ls:List (List UInt8)) (i:Nat):dX (ls.take i)≤dX ls:=by
  unfold dX
  conv=>rhs;rw[←afv i ls]
  rw[adZ,ai7];omega
theorem EF (ls:List (List UInt8)):8*ls.length≤dX ls:=by
  unfold dX
  induction ls with
  |nil=>simp
  |cons l r ih=>simp only[adb,ad4,acF];omega
def iF (most : Int) : Nat → List UInt8 → Option (List (List UInt8))
  |0,b=>if b=[]then some []else none
  |k+1,b=>if b=[]then some []else
    if(ep (b,0) most).1.2≠0∨jW (ep (b,0) most).2=false then none
    else(iF most k (ep (b,0) most).1.1).map ((ep (b,0) most).2.take ((ep (b,0) most).2.length-4)::·)
def parts (b:List UInt8):Option (List (List UInt8)):=iF b.length b.length b
def dd (b:List UInt8):List (List UInt8):=(parts b).getD []
theorem tF (most:Int) (k:Nat):iF most k []=some []:=by cases k<;>rfl
theorem tG {most:Int} {k:Nat} {b:List UInt8} (hb:b≠[]) (h:(ep (b,0) most).1.2≠0∨jW (ep (b,0) most).2=false):iF most (k+1) b=none:=by
  unfold iF;rw[if_neg hb,if_pos h]
theorem wO {most:Int} {k:Nat} {b:List UInt8} (hb:b≠[]) (h1:(ep (b,0) most).1.2=0) (h2:jW (ep (b,0) most).2=true):
    iF most (k+1) b=(iF most k (ep (b,0) most).1.1).map ((ep (b,0) most).2.take ((ep (b,0) most).2.length-4)::·):=by
  conv=>lhs;unfold iF
  rw[if_neg hb,if_neg (by simp[h1,h2])]
theorem sS {s:St} {k:Nat} (h:(fA s k).1.2=0):s.2=0∧k≤s.1.length∧(fA s k).1.1.length+k=s.1.length∧(fA s k).2.length=k:=by
  unfold fA at h ⊢
  by_cases h2:s.2≠0
  · rw[if_pos h2]at h;exact absurd h h2
  · rw [if_neg h2] at h ⊢
    by_cases h3:s.1.length<k
    · rw[if_pos h3]at h;exact absurd h (by decide)
    · rw [if_neg h3]
      refine⟨acU.1 h2,by omega,by simp;omega,by simp;omega⟩
theorem zl (s:St) (most:Int):(ep s most).2.length≤s.1.length:=by
  unfold ep lZ
  split
  · exact adO _
  · split
    · exact adO _
    · exact acR (gH _ _).2 (KJ s 4)
theorem BA {b:List UInt8} {most:Int} (h:(ep (b,0) most).1.2=0):(ep (b,0) most).1.1.length+(ep (b,0) most).2.length+4=b.length:=by
  unfold ep lZ at h ⊢
  by_cases h1:(kC (b,0) 4).1.2≠0
  · rw[if_pos h1]at h;exact absurd h h1
  · rw [if_neg h1] at h ⊢
    split at h
    · exact absurd h (by decide)
    · rename_i h2
      rw[if_neg h2]
      have g1:=sS h
      have g0:=sS (s:=(b,0)) (k:=4) (acU.1 h1)
      have e:(kC (b,0) 4).1.1.length=(fA (b,0) 4).1.1.length:=rfl
      have:(b,(0:Int)).1.length=b.length:=rfl
      omega
theorem zM (most:Int):∀(ls:List (List UInt8)) (k:Nat),(cP ls).length≤k→(cP ls).length<4294967296→((cP ls).length:Int)≤most→iF most k (cP ls)=some ls:=by
  intro ls
  induction ls with
  |nil=>intro k _ _ _;exact tF most k
  |cons l ls ih=>
    intro k hk Yr hm
    have hj:cP (l::ls)=jE (mK l)++cP ls:=by unfold cP;simp
    have hl:(cP (l::ls)).length=8+l.length+(cP ls).length:=by rw[hj,acw,eO,eH];omega
    have ht:ep (cP (l::ls),0) most=((cP ls,0),mK l):=by rw[hj];exact D1 _ _ _ (by rw[eH];omega) (by rw[eH];omega)
    have ho:=Ew l
    obtain⟨k,rfl⟩:∃j,k=j+1:=⟨k-1,by omega⟩
    have dY:cP (l::ls)≠[]:=by intro e;rw[e]at hl;simp at hl;omega
    rw[wO dY (by rw[ht]) (by rw[ht];exact ho.1),ht]
    simp only
    rw[ih k (by omega) (by omega) (by omega)]
    simp only[aet]
    have:(mK l).take ((mK l).length-4)=l:=ho.2
    rw[this]
theorem gP (ls:List (List UInt8)) (h:(cP ls).length<4294967296):dd (cP ls)=ls:=by
  unfold dd parts
  rw[zM _ ls _ (ac3 _) h (ahp _)]
  rfl
theorem xf:cP [[]]=[4,0,0,0,0,0,0,0]:=by decide+kernel
end Go.dn
namespace Go.Gr
open Go.Rl Go.dn Go.jJ
def j6 (n:Int) (ar:List I3):List (List UInt8):=[bE [n],bE (ar.map fun a=>a.1),bE (ar.map fun a=>a.2.1),bE (ar.map fun a=>a.2.2)]
def ig (rk:List Int) (ws:List I5):List (List UInt8):=[bE rk,bE (ws.map fun a=>a.1),bE (ws.map fun a=>a.2.1),bE (ws.map fun a=>a.2.2.1),bE (ws.map fun a=>a.2.2.2.1),bE (ws.map fun a=>a.2.2.2.2)]
def dW (ls:List (List Int)):List (List UInt8):=bE [(ls.length:Int)]::ls.map bE
def eN (r:List I2):List (List UInt8):=[bE (r.map fun a=>a.1),bE (r.map fun a=>a.2)]
def eC (ls:List (List I2)):List (List UInt8):=bE [(ls.length:Int)]::ls.flatMap eN
def fB (g:List Int) (far:List (List Int)) (outs ins:List (List I2)) (so si:List (List Int)):List (List UInt8):=bE g::(dW far++(eC outs++(eC ins++(dW so++dW si))))
def kR (n:Int) (ar:List I3):List UInt8:=[80,82,49]++put (if ee n ar=0 then(oF n ar).toNat else 0) 8
def dA (n:Int) (ar:List I3) (rk:List Int) (ws:List I5) (g:List Int) (far:List (List Int)) (outs ins:List (List I2)) (so si:List (List Int)):List (List UInt8):=[kR n ar,(j6 n ar).flatten,(ig rk ws).flatten,(fB g far outs ins so si).flatten]
theorem ID {n:Int} {ar:List I3} (h:ee n ar=0):kR n ar=[80,82,49]++put (oF n ar).toNat 8:=by unfold kR;rw[if_pos h]
theorem E5 {n:Int} {ar:List I3} (h:¬ee n ar=0):kR n ar=[80,82,49]++put 0 8:=by unfold kR;rw[if_neg h]
theorem xk (n:Int) (ar:List I3):(kR n ar).length=11:=by unfold kR;rw[acw,dz];rfl
theorem GU {ls:List (List I2)} {i:Nat} {r:List I2} {todo:List (List UInt8)} (h:ls[i]?=some r):(ls.drop i).flatMap eN++todo=bE (r.map fun a=>a.1)::(bE (r.map fun a=>a.2)::((ls.drop (i+1)).flatMap eN++todo)):=by rw[Js h];rfl
theorem QZ {ls:List (List Int)} {i:Nat} {r:List Int} {todo:List (List UInt8)} (h:ls[i]?=some r):(ls.drop i).map bE++todo=bE r::((ls.drop (i+1)).map bE++todo):=by rw[Js h];rfl
structure pZ (F : Nat → Prop) (w : World) (gv : Value) (g : List Int) (fv : Value) (hf : List Hd) (far : List (List Int)) (ov : Value) (ho : List Hd) (outs : List (List I2)) (iv : Value) (hi : List Hd) (ins : List (List I2))
    (db:Value) (gV:List Hd) (so:List (List Int)) (dc:Value) (gQ:List Hd) (si:List (List Int)):Prop where
  tg:nO F vI w gv g
  tf:nO F vh w fv hf
  JN:fW F vI w hf far
  to:nO F vh w ov ho
  D0:gN F bG w ho outs
  ti:nO F vh w iv hi
  tie:gN F bG w hi ins
  Gf:nO F vh w db gV
  u7:fW F vI w gV so
  Gg:nO F vh w dc gQ
  u9:fW F vI w gQ si
theorem pZ.step {F : Nat → Prop} {w w' : World} {L : List Atom} {gv : Value} {g : List Int} {fv : Value} {hf : List Hd} {far : List (List Int)} {ov : Value} {ho : List Hd} {outs : List (List I2)} {iv : Value} {hi : List Hd} {ins : List (List I2)}
    {db:Value} {gV:List Hd} {so:List (List Int)} {dc:Value} {gQ:List Hd} {si:List (List Int)} (h:pZ F w gv g fv hf far ov ho outs iv hi ins db gV so dc gQ si) (hN:aI w F w' L):pZ (b7 L) w' gv g fv hf far ov ho outs iv hi ins db gV so dc gQ si:=
  ⟨h.tg.step hN,h.tf.step hN,h.JN.step hN,h.to.step hN,h.D0.step tZ hN,h.ti.step hN,h.tie.step tZ hN,h.Gf.step hN,h.u7.step hN,h.Gg.step hN,h.u9.step hN⟩
theorem pZ.ext {w w' : World} {gv : Value} {g : List Int} {fv : Value} {hf : List Hd} {far : List (List Int)} {ov : Value} {ho : List Hd} {outs : List (List I2)} {iv : Value} {hi : List Hd} {ins : List (List I2)}
    {db:Value} {gV:List Hd} {so:List (List Int)} {dc:Value} {gQ:List Hd} {si:List (List Int)} (h:pZ none_ w gv g fv hf far ov ho outs iv hi ins db gV so dc gQ si) (he:Ext w w'):pZ none_ w' gv g fv hf far ov ho outs iv hi ins db gV so dc gQ si:=
  ⟨h.tg.ext he,h.tf.ext he,h.JN.ext he,h.to.ext he,h.D0.ext he,h.ti.ext he,h.tie.ext he,h.Gf.ext he,h.u7.ext he,h.Gg.ext he,h.u9.ext he⟩
theorem Q5 {a b c d:List UInt8} {n:Nat} (h:dX [a,b,c,d]≤n):a.length≤n∧b.length≤n∧c.length≤n∧d.length≤n:=by
  simp[dX]at h;omega
end Go.Gr
namespace Go.Gr
open Go.Rl Go.ChangeShapes Go.WideShapes
def Fit (x:Int):Prop:= -9223372036854775808≤x∧x≤9223372036854775807
abbrev qi:Sh:=.cons (.int .i64) (.cons (.int .i64) (.cons (.int .i64) .nil))
abbrev jU:Sh:=.cons (.int .i64) (.cons (.int .i64) .nil)
abbrev vc:Sh:=.cons (.int .i64) (.cons (.int .i64) (.cons qi .nil))
def TA (a:qi.ty):I3:=(a.1,a.2.1,a.2.2.1)
def N0 (a:jU.ty):I2:=(a.1,a.2.1)
def Uh (a:vc.ty):I5:=(a.1,a.2.1,a.2.2.1.1,a.2.2.1.2.1,a.2.2.1.2.2.1)
def LN (a:I3):Prop:=Fit a.1∧Fit a.2.1∧Fit a.2.2
def Fz (a:I2):Prop:=Fit a.1∧Fit a.2
def PU (a:I5):Prop:=Fit a.1∧Fit a.2.1∧Fit a.2.2.1∧Fit a.2.2.2.1∧Fit a.2.2.2.2
variable {w:World}
theorem nB {c:Value} {a:Int} (h:(Sh.int .i64).rd w [c] a):c=.int .i64 a∧Fit a:=by
  obtain⟨h1,h2⟩:=h
  exact⟨by simpa using h1,wf_i64 h2⟩
theorem C6 {cs:List Value} {a:qi.ty} (h:qi.rd w cs a):cs=bJ (TA a)∧LN (TA a):=by
  have hlen:=qi.nq h
  match cs,hlen with
  |[c1,c2,c3],_=>
    obtain⟨h1,h2,h3,_⟩:=h
    have e1:=nB h1
    have e2:=nB h2
    have e3:=nB h3
    exact⟨by rw[e1.1,e2.1,e3.1];rfl,e1.2,e2.2,e3.2⟩
theorem QO {cs:List Value} {a:jU.ty} (h:jU.rd w cs a):cs=bG (N0 a)∧Fz (N0 a):=by
  have hlen:=jU.nq h
  match cs,hlen with
  |[c1,c2],_=>
    obtain⟨h1,h2,_⟩:=h
    have e1:=nB h1
    have e2:=nB h2
    exact⟨by rw[e1.1,e2.1];rfl,e1.2,e2.2⟩
theorem QN {cs:List Value} {a:vc.ty} (h:vc.rd w cs a):cs=aV (Uh a)∧PU (Uh a):=by
  have hlen:=vc.nq h
  match cs,hlen with
  |[c1,c2,c3,c4,c5],_=>
    obtain⟨h1,h2,h3,_⟩:=h
    have e1:=nB h1
    have e2:=nB h2
    have e3:bJ (TA a.2.2.1)=[c3,c4,c5]∧_:=⟨(C6 h3).1.symm,(C6 h3).2⟩
    simp only[bJ,ai9,and_true]at e3
    obtain⟨⟨q1,q2,q3⟩,q4⟩:=e3
    exact⟨by rw[e1.1,e2.1,←q1,←q2,←q3];rfl,e1.2,e2.2,q4⟩
theorem pj {sh:Sh} {α:Type} {cf:α→List Value} {s:Nat} {mk:sh.ty→α} {Pr:α→Prop} (Xy:∀cs a,sh.rd w cs a→cs=cf (mk a)∧Pr (mk a)) (hc:sh.cells=s) (jF:∀a,(cf a).length=s) {c:Value} {l:List sh.ty} (h:(Sh.sl sh).rd w [c] l):
    Sm cf w c (l.map mk)∧∀x∈l.map mk,Pr x:=by
  obtain⟨A,cap,sE,h1,h2,h3⟩:=h
  cases sE
  refine⟨⟨A,cap,by rw[ac4],by rw[ac4];exact h1,h2,fun q v hq=>?_⟩,fun x hx=>?_⟩
  · have UN:q<l.length*s:=by
      have:=(acA.1 hq).1
      rwa [kT jF,ac4]at this
    have hs:0<s:=by
      rcases aeH s with e|e
      · rw[e,aia]at UN;omega
      · exact e
    have hi:q/s<l.length:=ahS (by rw[afK];exact UN)
    have e:q=(q/s)*s+q%s:=by rw[afK];exact(ai6 q s).symm
    have hm:(l.map mk)[q/s]?=some (mk l[q/s]):=by rw[adE,acE hi];rfl
    rw[e,jO jF hm (Nat.mod_lt _ hs)]at hq
    obtain⟨lh,g1,g2,g3⟩:=h3 (q/s) _ (acE hi)
    rw[(Xy _ _ g2).1]at g3
    obtain⟨ad,e1,e2⟩:=g3 _ _ hq
    rw[hc,←e]at e2
    exact⟨ad,e1,e2⟩
  · obtain ⟨a, ha, rfl⟩ := adf.1 hx
    obtain⟨i,hi⟩:=ac9 ha
    obtain⟨lh,g1,g2,g3⟩:=h3 i a hi
    exact(Xy _ _ g2).2
theorem zs {e:Sh} (he:e.cells=1) {Q:Hd→e.ty→Prop} (hq:∀c a,e.rd w [c] a→∃h:Hd,c=vh h∧Q h a) {c:Value} {l:List e.ty} (h:(Sh.sl e).rd w [c] l):
    ∃hs:List Hd,Sl vh w c hs∧hs.length=l.length∧∀(i:Nat) hd a,hs[i]?=some hd→l[i]?=some a→Q hd a:=by
  obtain⟨A,cap,sE,h1,h2,h3⟩:=h
  have each:∀(i:Nat) a,l[i]?=some a→∃hd:Hd,Q hd a∧∃ad,A=some ad∧w.cell? (ad.add i)=some (vh hd):=by
    intro i a ha
    obtain⟨lh,g1,g2,g3⟩:=h3 i a ha
    rw[he]at g1 g3
    obtain⟨c',rfl⟩:∃c',lh=[c']:=by
      cases lh with
      |nil=>cases g1
      |cons c' r=>cases r with
        |nil=>exact⟨c',rfl⟩
        |cons _ _=>simp at g1
    obtain⟨hd,rfl,hQ⟩:=hq c' a g2
    obtain⟨ad,e1,e2⟩:=g3 0 _ rfl
    rw[ahn,afJ]at e2
    exact⟨hd,hQ,ad,e1,e2⟩
  have:∃hs:List Hd,hs.length=l.length∧∀(i:Nat) a hd,l[i]?=some a→hs[i]?=some hd→Q hd a∧∃ad,A=some ad∧w.cell? (ad.add i)=some (vh hd):=by
    refine⟨(adz l.length).map fun i=>if hi:i<l.length then aiZ (each i l[i] (acE hi))else(none,0,0),by simp,fun i a hd ha Vs=>?_⟩
    obtain⟨cD,rfl⟩:=acA.1 ha
    rw[adE,agv cD]at Vs
    simp only[aet,dif_pos cD,aeo]at Vs
    subst Vs
    exact agd (each i l[i] (acE cD))
  obtain⟨hs,hl,hh⟩:=this
  cases sE
  have OC:adg (α:=e.ty) l=hs.length:=hl.symm
  refine⟨hs,⟨A,cap,by rw[←OC],by rw[←OC];exact h1,h2,fun j v hj=>?_⟩,hl,fun i hd a hi ha=>(hh i a hd ha hi).1⟩
  rw[adE]at hj
  cases Aq:hs[j]? with
  |none=>rw[Aq]at hj;cases hj
  |some hd=>
    rw[Aq]at hj
    simp only[aet,aeo]at hj
    subst hj
    have cD:=(acA.1 Aq).1
    obtain⟨_,ad,e1,e2⟩:=hh j _ hd (acE (by omega)) Aq
    exact⟨ad,e1,e2⟩
theorem L1 {e:Sh} {c:Value} {l:List e.ty} (h:(Sh.sl e).rd w [c] l):∃h:Hd,c=vh h:=by
  obtain⟨A,cap,sE,_⟩:=h
  cases sE
  exact⟨(A,_,cap),rfl⟩
theorem yk {c:Value} {l:List Int} (h:(Sh.sl (.int .i64)).rd w [c] l):Sl vI w c l∧∀x∈l,Fit x:=by
  have:=Sh.Kx h
  exact⟨this.1,fun x hx=>wf_i64 (this.2 x hx)⟩
theorem xK {c:Value} {l:List (List Int)} (h:(Sh.sl (.sl (.int .i64))).rd w [c] l):∃hs:List Hd,Sl vh w c hs∧fW none_ vI w hs l∧∀r∈l,∀x∈r,Fit x:=by
  obtain⟨hs,h1,h2,h3⟩:=zs (e:=.sl (.int .i64)) (Q:=fun hd a=>Sl vI w (vh hd) a∧∀x∈(show List Int from a),Fit x) rfl (fun c a hr=>by
    obtain⟨hd,rfl⟩:=L1 hr
    exact⟨hd,rfl,yk hr⟩) h
  refine⟨hs,h1,⟨h2,fun i hd r hi hr=>⟨(h3 i hd r hi hr).1,oW.none _ _⟩⟩,fun r hr=>?_⟩
  obtain⟨i,hi⟩:=ac9 hr
  have cD:=(acA.1 hi).1
  have Wk:hs.length=l.length:=h2
  exact(h3 i hs[i] r (acE (by omega)) hi).2
theorem zB {c:Value} {l:List (List jU.ty)} (h:(Sh.sl (.sl jU)).rd w [c] l):∃hs:List Hd,Sl vh w c hs∧gN none_ bG w hs (l.map fun r=>r.map N0)∧∀r∈l.map (fun r=>r.map N0),∀x∈r,Fz x:=by
  have h':(Sh.sl (.sl jU)).rd w [c] (show List (Sh.sl jU).ty from l):=h
  obtain⟨hs,h1,h2,h3⟩:=zs (e:=.sl jU) (Q:=fun hd a=>Sm bG w (vh hd) ((show List jU.ty from a).map N0)∧∀x∈(show List jU.ty from a).map N0,Fz x) rfl (fun c a hr=>by
    obtain⟨hd,rfl⟩:=L1 hr
    exact⟨hd,rfl,pj (fun _ _=>QO) rfl bp hr⟩) h'
  have Wk:hs.length=adg (α:=List jU.ty) l:=h2
  refine⟨hs,h1,⟨by rw[ac4];exact h2,fun i hd r hi hr=>?_⟩,fun r hr=>?_⟩
  · rw [adE] at hr
    cases hq:l[i]? with
    |none=>rw[hq]at hr;cases hr
    |some a=>
      rw[hq]at hr
      simp only[aet,aeo]at hr
      subst hr
      exact((h3 i hd a hi hq).1).o
  · obtain ⟨a, ha, rfl⟩ := adf.1 hr
    obtain⟨i,hi⟩:=ac9 ha
    have cD:=(acA.1 hi).1
    exact(h3 i hs[i] a (acE (by omega)) hi).2
section
variable {H:Type} {enc:TypeId×Value→H} {P:Program} {W:World} {base:Nat} {held:Bool} {t:TypeId} {d:DataW H} {ps:List MemPlace} {v:Value} {ts:List TypeId} {ds:List (DataW H)} {j:Nat}
theorem JD {e:TypeId} (fb:(aeB P ts ds).all (·≤reachBytes)=true) (ht:ts[j]?=some t) (hd:ds[j]?=some d) (hu:P.underlying t=some (.slice e)) (hf:(Sh.sl qi).fit P (.inl t)=true) (hh:(Sh.sl qi).kQ P (.inl t)=true) (hv:aif P W .any base t v) (h:ahP enc P W 0 (fun _=>true) held t v d ps):
    ∃l:List I3,Sm bJ W v l∧∀x∈l,LN x:=by
  obtain⟨a,len,cap,rfl⟩:=okWide_slice hu hv
  obtain⟨l,hr,_⟩:=G1 fb ht hd hf hh h
  exact⟨_,pj (fun _ _=>C6) rfl bf hr⟩
end
end Go.Gr
namespace Go.Gr
open Go.Rl Go.dn Go.jJ
end Go.Gr
namespace Go.Gr
open Go.Rl
noncomputable def bg (n:Nat) (ins:List Int) (ls:List I5) (out:List I5):List I5:=out.foldl (fun ls s=>jL n ins ls s.1 s.2.1 s.2.2.1 s.2.2.2.1) ls
theorem kJ {n:Nat} {ins:List Int} {ls out:List I5} {q:Nat} {a:I5} (h:out[q]?=some a):bg n ins ls (out.take (q+1))=jL n ins (bg n ins ls (out.take q)) a.1 a.2.1 a.2.2.1 a.2.2.2.1:=by
  unfold bg;rw[dM h,aiG];rfl
def sP (ls:List I5) (v a:Int):I5:=(v,a,((bC ls v a).getD (0,0,0)).1,((bC ls v a).getD (0,0,0)).2.1,((bC ls v a).getD (0,0,0)).2.2)
def JI (ls:List I5) (v a:Int):I5:=(a,v,((bC ls a v).getD (0,0,0)).1,((bC ls a v).getD (0,0,0)).2.1,((bC ls a v).getD (0,0,0)).2.2)
noncomputable def qT (n:Nat) (ls:List I5) (v:Int) (ways:List I5):List I5:=ways++(cv ls v n).map (sP ls v)++(dj ls v n).map (JI ls v)
def iY (r:Nat):Int:=2147483648*2^r
theorem qc (r:Nat):iY (r+1)=2*iY r:=by unfold iY;rw[Int.pow_succ];omega
theorem gC (r:Nat):0≤iY r:=by
  induction r with
  |zero=>decide
  |succ r ih=>rw[qc];omega
theorem qd {r s:Nat} (h:r≤s):iY r≤iY s:=by
  induction s with
  |zero=>rw[show r=0 by omega];exact ahp _
  |succ s ih=>
    rcases adh r (s+1)with h1|h1
    · have := ih (by omega)
      have:=gC s
      rw[qc];omega
    · rw[show r=s+1 by omega];exact ahp _
theorem o6 {r:Nat} (h:r≤12):iY r≤8796093022208:=afw (qd h) (by decide)
theorem sM {r n:Nat} (h:r≤12) (hn:n≤12):(n:Int)*iY r≤1152921504606846976:=by
  have h1:=o6 h
  have h2:=gC r
  have h3:(n:Int)*iY r≤12*iY r:=aeu (by omega) h2
  omega
def vE (ins:List Int):Nat:=(ins.filter fun x=>decide (x=1)).length
def Tk (n:Nat) (ins:List Int) (v:Int):Prop:=0≤v∧v<n∧ins[v.toNat]?=some 0
def Rt (n:Nat) (l:List I3) (ins:List Int) (ways:List I5) (x:I5):Prop:=
  (x.2.2.2.1= -1∧0≤x.2.2.2.2∧l[x.2.2.2.2.toNat]?=some (x.1,x.2.1,x.2.2.1))∨
  (Tk n ins x.2.2.2.1∧x.2.2.2.2= -1∧∃a b,a∈ways∧b∈ways∧a.1=x.1∧a.2.1=x.2.2.2.1∧b.1=x.2.2.2.1∧b.2.1=x.2.1∧a.2.2.1+b.2.2.1=x.2.2.1)
def Rk (n:Nat) (rk ins:List Int) (m e:Int):Prop:=Tk n ins e→∃p q,rk[m.toNat]?=some p∧rk[e.toNat]?=some q∧p<q
abbrev iz (x y:I5):Prop:=¬(x.1=y.1∧x.2.1=y.2.1)
structure ze (n:Nat) (l:List I3) (r:Nat) (rk:List Int) (ways:List I5) (ins:List Int) (ls:List I5):Prop where
  tok:Bf n (iY r) ins ls
  BN:rk.length=n
  Jy:vE ins+r=n
  ws:∀x∈ways,0≤x.1∧x.1<n∧0≤x.2.1∧x.2.1<n∧0≤x.2.2.1∧x.2.2.1≤iY 12
  Tu:ways.length≤24*r
  Ty:∀x∈rk,0≤x∧x<max n 1
  bit:∀x∈ins,x=0∨x=1
  Ul:∀x∈ls,fZ n ins x.1∧fZ n ins x.2.1∧x.1≠x.2.1
  Y7:ls.Pairwise iz
  W5:∀x∈ls,Rt n l ins ways x
  T1:∀x∈ways,x.1≠x.2.1∧(Tk n ins x.1∨Tk n ins x.2.1)
  Tv:ways.Pairwise iz
  T0:∀x∈ways,Rt n l ins ways x∧(0≤x.2.2.2.1→Rk n rk ins x.2.2.2.1 x.1∧Rk n rk ins x.2.2.2.1 x.2.1)
  QU:∀k:Nat,k<r→∃v,Tk n ins v∧rk[v.toNat]?=some (k:Int)
  W2:∀v,Tk n ins v→∃q,rk[v.toNat]?=some q∧0≤q∧q<r
theorem Bf.more {n:Nat} {M M':Int} {ins:List Int} {ls:List I5} (h:Bf n M ins ls) (hm:M≤M'):Bf n M' ins ls:=⟨h.ins,fun x hx=>by obtain⟨h1,h2,h3,h4,h5,h6⟩:=h.ws x hx;exact⟨h1,h2,h3,h4,h5,afw h6 hm⟩⟩
theorem Bf.put {n:Nat} {M:Int} {ins:List Int} {ls:List I5} (h:Bf n M ins ls) {u v x mid:Int} (hx:x≤M):Bf n M ins (jL n ins ls u v x mid):=by
  unfold jL
  split
  · exact h
  · rename_i hn
    have hu:fZ n ins u:=aeN fun h=>hn (.inl h)
    have hv:fZ n ins v:=aeN fun h=>hn (.inr (.inl h))
    have hw:¬x<0:=fun h=>hn (.inr (.inr (.inr (.inl h))))
    refine⟨h.ins,fun y hy=>?_⟩
    rcases adl.1 hy with h1|h1
    · exact h.ws y (adK.1 h1).1
    · rw [ade] at h1; subst h1
      exact⟨hu.1,hu.2.1,hv.1,hv.2.1,by show 0≤x;omega,hx⟩
theorem tD (n:Nat) (ins:List Int) (ls:List I5) (u v x mid:Int):(jL n ins ls u v x mid).length≤ls.length+1:=by
  unfold jL
  split
  · omega
  · rw [acw]
    have:(C2 ls u v).length≤ls.length:=aeJ _ _
    simp;exact this
theorem oX.le {n:Nat} {M:Int} {ins:List Int} {ls:List I5} {v:Int} {s:I5} (hs:oX n ls v s) (h:Bf n M ins ls):s.2.2.1≤2*M:=by
  obtain⟨x,y,hx,hy,e⟩:=hs.T2
  have h1:=(h.ws _ (dU hx)).2.2.2.2.2
  have h2:=(h.ws _ (dU hy)).2.2.2.2.2
  rw[e]
  have S9:x.1≤M:=h1
  have Wk:y.1≤M:=h2
  omega
theorem BQ {n:Nat} {M:Int} {ins:List Int} {out:List I5}:∀{ls:List I5},Bf n M ins ls→(∀s∈out,s.2.2.1≤M)→Bf n M ins (bg n ins ls out):=by
  induction out with
  |nil=>intro ls h _;exact h
  |cons s r ih=>
    intro ls h hs
    exact ih (h.put (hs s (adH ..))) fun t ht=>hs t (adv _ ht)
theorem BR (n:Nat) (ins:List Int) (out:List I5):∀(ls:List I5),(bg n ins ls out).length≤ls.length+out.length:=by
  induction out with
  |nil=>intro ls;exact ac3 _
  |cons s r ih=>
    intro ls
    have h1:=ih (jL n ins ls s.1 s.2.1 s.2.2.1 s.2.2.2.1)
    have h2:=tD n ins ls s.1 s.2.1 s.2.2.1 s.2.2.2.1
    show(bg n ins (jL n ins ls s.1 s.2.1 s.2.2.1 s.2.2.2.1) r).length≤_
    rw[acF];omega
theorem G6 {n:Nat} {ins:List Int} (hl:ins.length=n) (h:0<vE ins):∃x,fZ n ins x:=by
  unfold vE at h
  obtain⟨y,hy⟩:=List.exists_mem_of_length_pos h
  have h1:=adK.1 hy
  obtain⟨i,hi⟩:=ac9 h1.1
  have cD:=(acA.1 hi).1
  have e:y=1:=by simpa using h1.2
  subst e
  exact⟨(i:Int),adU _,by omega,by rw[aee];exact hi⟩
theorem G5 {ins:List Int} {i:Nat} (h:ins[i]?=some 1):vE (ins.set i 0)+1=vE ins:=by
  obtain⟨p,q,rfl,hp,yp⟩:=nS h
  rw[yp]
  unfold vE
  rw[aev,aev,aec,aec,if_neg (by decide),if_pos (by decide)]
  simp;omega
theorem D3 {n:Nat} {M:Int} {ins:List Int} {ls:List I5} (h:Bf n M ins ls) (v:Int):Bf n M (ins.set v.toNat 0) (wz ls v):=⟨by rw[adG];exact h.ins,fun x hx=>h.ws x (adK.1 hx).1⟩
theorem D4 (ls:List I5) (v:Int):(wz ls v).length≤ls.length:=aeJ _ _
theorem Tk.no {n:Nat} {ins:List Int} {v:Int} (h:Tk n ins v) (h2:fZ n ins v):False:=by
  have h1:=h.2.2
  rw[h2.2.2]at h1
  cases h1
theorem Tk.rep {n:Nat} {v:Int} (h:Tk n (acY n 1) v):False:=by
  have h1:=h.2.2
  have h2:=h.2.1
  have h3:=h.1
  rw[aeA,if_pos (by omega)]at h1
  cases h1
theorem z9 {n:Nat} {v:Int} (h0:0≤v) (h1:v<n):fZ n (acY n 1) v:=⟨h0,h1,by rw[aeA,if_pos (by omega)]⟩
theorem z0 {l:List I3} {ks:List Int} {n:Nat} {x:I5} (h:x∈yd l ks n):∃(v k:Nat) (a:I3),v<n∧l[k]?=some a∧ks[k]?=some 1∧a.1=(v:Int)∧x=((v:Int),a.2.1,a.2.2,-1,(k:Int)):=by
  unfold yd at h
  obtain⟨v,hv,h2⟩:=af8.1 h
  obtain⟨e,he,rfl⟩:=adf.1 h2
  obtain⟨k,a,_,ha,hk,O7,rfl⟩:=Dl he
  exact⟨v,k,a,adQ.1 hv,ha,hk,O7,rfl⟩
theorem tV {l:List I3} {k:Nat} (h:(kept l)[k]?=some 1):jZ l k:=by
  unfold kept at h
  rw[adE]at h
  cases hq:(adz l.length)[k]? with
  |none=>rw[hq]at h;cases h
  |some q=>
    rw[hq]at h
    have yq:q=k:=by
      have:=acA.1 hq
      obtain⟨h1,h2⟩:=this
      rw[afM]at h2;exact h2.symm
    subst yq
    simp only[aet,aeo]at h
    by_cases hc:jZ l q
    · exact hc
    · rw[if_neg hc]at h;cases h
theorem ND {l:List I3} {v:Int} (k:Nat):(FL l (kept l) v k).Pairwise fun e f=>e.1≠f.1:=by
  induction k with
  |zero=>exact aeR
  |succ k ih=>
    rw[lx,aez]
    refine⟨ih,?_,fun e he f hf=>?_⟩
    · unfold jy
      split
      · split
        · exact afT _ _
        · exact aeR
      · exact aeR
    · obtain ⟨i, a, hi, ha, hk, O7, rfl⟩ := Dl he
      have XP:f∈FL l (kept l) v (k+1):=by rw[lx];exact aeI _ hf
      unfold jy at hf
      split at hf
      · rename_i b hb
        split at hf
        · rename_i hc
          rw[ade]at hf
          subst hf
          intro e
          have:=CQ (tV hk) (tV hc.1) ha hb (by rw[O7,hc.2]) e
          omega
        · cases hf
      · cases hf
theorem KM (l:List I3) (n:Nat):(yd l (kept l) n).Pairwise iz:=by
  induction n with
  |zero=>exact aeR
  |succ n ih=>
    rw[wX,aez]
    refine⟨ih,?_,fun x hx y hy=>?_⟩
    · rw [aeC]
      exact(ND l.length).imp fun{a b} h hh=>h hh.2
    · obtain ⟨v, k, a, hv, _, _, _, rfl⟩ := z0 hx
      obtain⟨e,he,rfl⟩:=adf.1 hy
      rintro⟨h1,_⟩
      have:(v:Int)=(n:Int):=h1
      omega
theorem Ky {ls W4:List I5} (h:ls.Perm W4) (hp:W4.Pairwise iz):ls.Pairwise iz:=(h.pairwise_iff fun{x y} Mb Xa=>Mb ⟨Xa.1.symm,Xa.2.symm⟩).2 hp
theorem ze.start {n:Nat} {l:List I3} {rk:List Int} {ls:List I5} {ks:List Int} (hl:∀a∈l,FQ n a) (Va:ks=kept l) (hp:ls.Perm (yd l ks n)) (hr:rk=acY n 0):ze n l 0 rk [] (acY n 1) ls:=by
  subst Va
  have hm:∀x∈ls,∃(v k:Nat) (a:I3),v<n∧l[k]?=some a∧jZ l k∧a.1=(v:Int)∧x=((v:Int),a.2.1,a.2.2,-1,(k:Int)):=fun x hx=>by
    obtain⟨v,k,a,h1,h2,h3,h4,h5⟩:=z0 (hp.mem_iff.1 hx)
    exact⟨v,k,a,h1,h2,tV h3,h4,h5⟩
  refine⟨⟨ac7,fun x hx=>?_⟩,by rw[hr,ac7],?_,fun x hx=>absurd hx acV,ac3 _,fun x hx=>by rw[hr]at hx;rw[afc hx];omega,
    fun x hx=>.inr (afc hx),fun x hx=>?_,Ky hp (KM l n),fun x hx=>?_,fun x hx=>absurd hx acV,aeR,fun x hx=>absurd hx acV,fun k hk=>absurd hk (agj _),fun v hv=>hv.rep.elim⟩
  · obtain ⟨v, k, a, Xc, ha, _, _, rfl⟩ := hm x hx
    obtain⟨h3,h4,h5,h6,h7,h8⟩:=hl a (acy ha)
    exact⟨adU v,by show(v:Int)<n;omega,h5,h6,h7,by show a.2.2≤iY 0;exact afw h8 (by decide)⟩
  · unfold vE
    rw[List.filter_eq_self.2 fun x hx=>by rw[afc hx];decide,ac7];omega
  · obtain ⟨v, k, a, Xc, ha, hc, O7, rfl⟩ := hm x hx
    obtain⟨h3,h4,h5,h6,h7,h8⟩:=hl a (acy ha)
    obtain⟨a',E8,dY,_⟩:=hc
    rw[ha]at E8
    cases E8
    exact⟨z9 (adU v) (by show(v:Int)<n;omega),z9 h5 h6,by show(v:Int)≠a.2.1;rw[←O7];exact dY⟩
  · obtain ⟨v, k, a, Xc, ha, hc, O7, rfl⟩ := hm x hx
    exact .inl ⟨rfl,adU k,by show l[((k:Nat):Int).toNat]?=some ((v:Int),a.2.1,a.2.2);rw[aee,ha,←O7]⟩
theorem ze.left {n:Nat} {l:List I3} {r:Nat} {rk ins:List Int} {ways ls:List I5} (h:ze n l r rk ways ins ls) (hr:r<n):∃x,fZ n ins x:=G6 h.tok.ins (by have:=h.Jy;omega)
theorem Hb {n:Nat} {M:Int} {ins:List Int} {ls:List I5} (h:Bf n M ins ls) {v:Int} {x:I5} (hx:x∈(cv ls v n).map (sP ls v)∨x∈(dj ls v n).map (JI ls v)):0≤x.1∧x.1<n∧0≤x.2.1∧x.2.1<n∧0≤x.2.2.1∧x.2.2.1≤M:=by
  rcases hx with hx|hx
  · obtain ⟨a, ha, rfl⟩ := adf.1 hx
    obtain⟨y,hy⟩:=(pA ha).2.2.some
    unfold sP
    rw[hy]
    exact h.ws _ (dU hy)
  · obtain ⟨a, ha, rfl⟩ := adf.1 hx
    obtain⟨y,hy⟩:=(sB ha).2.2.some
    unfold JI
    rw[hy]
    exact h.ws _ (dU hy)
theorem D9 (n:Nat) (ls:List I5) (v:Int) (ways:List I5):(qT n ls v ways).length≤ways.length+2*n:=by
  have h1:(cv ls v n).length≤n:=eh _ n
  have h2:(dj ls v n).length≤n:=eh _ n
  unfold qT
  simp only[acw,ac4];omega
theorem Hc {n:Nat} {ins:List Int} {ls:List I5} {u v w mid:Int} {x:I5} (h:x∈jL n ins ls u v w mid):x∈ls∨(x=(u,v,w,mid,-1)∧fZ n ins u∧fZ n ins v∧u≠v):=by
  unfold jL at h
  split at h
  · exact .inl h
  · rename_i hn
    rcases adl.1 h with h1|h1
    · exact .inl (adK.1 h1).1
    · rw [ade] at h1
      exact .inr ⟨h1,aeN fun h=>hn (.inl h),aeN fun h=>hn (.inr (.inl h)),fun h=>hn (.inr (.inr (.inl h)))⟩
theorem Er {n:Nat} {ins:List Int} {ls:List I5} {u v w mid:Int} {x:I5} (h:x∈ls) (dY:¬(x.1=u∧x.2.1=v)):x∈jL n ins ls u v w mid:=by
  unfold jL
  split
  · exact h
  · refine ad9 _ (adK.2 ⟨h, ?_⟩)
    simp only[decide_eq_true_eq]
    by_cases h1:x.1=u
    · exact .inr fun h2=>dY ⟨h1,h2⟩
    · exact .inl h1
theorem Kz {n:Nat} {ins:List Int} {ls:List I5} {u v w mid:Int} (h:ls.Pairwise iz):(jL n ins ls u v w mid).Pairwise iz:=by
  unfold jL
  split
  · exact h
  · rw [aez]
    refine⟨h.filter _,afT _ _,fun x hx y hy=>?_⟩
    rw[ade]at hy
    subst hy
    have:=(adK.1 hx).2
    simp only[decide_eq_true_eq]at this
    rintro⟨h1,h2⟩
    rcases this with h3|h3
    · exact h3 h1
    · exact h3 h2
def To (s:I5):I5:=(s.1,s.2.1,s.2.2.1,s.2.2.2.1,-1)
theorem BS {n:Nat} {ins:List Int} {v:Int} {out:List I5}:∀{ls:List I5},(∀s∈out,s.1≠v∧s.2.1≠v)→ls.Pairwise iz→
    (∀x∈bg n ins ls out,x∈ls∨∃s∈out,x=To s∧fZ n ins s.1∧fZ n ins s.2.1∧s.1≠s.2.1)∧(∀x∈ls,x.1=v∨x.2.1=v→x∈bg n ins ls out)∧(bg n ins ls out).Pairwise iz:=by
  induction out with
  |nil=>intro ls _ hp;exact⟨fun x hx=>.inl hx,fun x hx _=>hx,hp⟩
  |cons s r ih=>
    intro ls hs hp
    obtain⟨h1,h2,h3⟩:=ih (ls:=jL n ins ls s.1 s.2.1 s.2.2.1 s.2.2.2.1) (fun t ht=>hs t (adv _ ht)) (Kz hp)
    have y7:=hs s (adH ..)
    refine⟨fun x hx=>?_,fun x hx hv=>?_,h3⟩
    · rcases h1 x hx with h | ⟨t, ht, h⟩
      · rcases Hc h with h | ⟨h, g1, g2, g3⟩
        · exact .inl h
        · exact .inr ⟨s,adH ..,h,g1,g2,g3⟩
      · exact .inr ⟨t,adv _ ht,h⟩
    · refine h2 x (Er hx ?_) hv
      rintro⟨e1,e2⟩
      rcases hv with h|h
      · exact y7.1 (e1.symm.trans h)
      · exact y7.2 (e2.symm.trans h)
theorem QY {ls:List I5} (hp:ls.Pairwise iz) {x y:I5} (hx:x∈ls) (hy:y∈ls) (dY:x≠y):iz x y:=by
  induction ls with
  |nil=>cases hx
  |cons a r ih=>
    rw[List.pairwise_cons]at hp
    rcases ac1.1 hx with rfl|Xb<;>rcases ac1.1 hy with rfl|TB
    · exact absurd rfl dY
    · exact hp.1 y TB
    · exact fun h=>hp.1 x Xb ⟨h.1.symm,h.2.symm⟩
    · exact ih hp.2 Xb TB
theorem F9 {ls:List I5} (hp:ls.Pairwise iz) {x:I5} (h:x∈ls):bC ls x.1 x.2.1=some x.2.2:=by
  cases hw:bC ls x.1 x.2.1 with
  |none=>
    unfold bC at hw
    rw[Option.map_eq_none_iff,agG]at hw
    have:=hw x h
    simp at this
  |some y=>
    have hm:=dU hw
    by_cases e:(x.1,x.2.1,y)=x
    · rw[←e]
    · exfalso
      exact(QY hp hm h e) ⟨rfl,rfl⟩
theorem GI {n:Nat} {ins:List Int} {v e:Int} (h:fZ n ins e) (dY:e≠v) (hv:0≤v):fZ n (ins.set v.toNat 0) e:=⟨h.1,h.2.1,by rw[adi,if_neg (by have:=h.1;omega)];exact h.2.2⟩
theorem NC {n:Nat} {ins:List Int} {v e:Int} (h:Tk n ins e) (hv:fZ n ins v):Tk n (ins.set v.toNat 0) e:=by
  refine⟨h.1,h.2.1,?_⟩
  rw[adi]
  split
  · rw[if_pos (by have:=(acA.1 hv.2.2).1;exact this)]
  · exact h.2.2
theorem pk {n:Nat} {ins:List Int} {v:Int} (hv:fZ n ins v):Tk n (ins.set v.toNat 0) v:=⟨hv.1,hv.2.1,by rw[adi,if_pos rfl,if_pos (acA.1 hv.2.2).1]⟩
theorem Gj {n:Nat} {ins:List Int} {v e:Int} (h:Tk n (ins.set v.toNat 0) e) (hv:0≤v) (dY:e≠v):Tk n ins e:=by
  refine⟨h.1,h.2.1,?_⟩
  have:=h.2.2
  rw[adi,if_neg (by have:=h.1;omega)]at this
  exact this
theorem Rt.mono {n:Nat} {l:List I3} {ins Rc:List Int} {ways LP:List I5} {x:I5} (h:Rt n l ins ways x) (ht:∀v,Tk n ins v→Tk n Rc v) (hw:∀y∈ways,y∈LP):Rt n l Rc LP x:=by
  rcases h with h|⟨h1,h2,a,b,ha,hb,h3⟩
  · exact .inl h
  · exact .inr ⟨ht _ h1,h2,a,b,hw a ha,hw b hb,h3⟩
theorem tM {n:Nat} {ins:List Int} {ls:List I5} {v:Int} {x:I5} (h:x∈(cv ls v n).map (sP ls v)++(dj ls v n).map (JI ls v)):x∈ls∧(x.1=v∨x.2.1=v):=by
  rcases adl.1 h with h|h
  · obtain ⟨a, ha, rfl⟩ := adf.1 h
    obtain⟨y,hy⟩:=(pA ha).2.2.some
    have hm:=dU hy
    unfold sP
    rw[hy]
    exact⟨hm,.inl rfl⟩
  · obtain ⟨a, ha, rfl⟩ := adf.1 h
    obtain⟨y,hy⟩:=(sB ha).2.2.some
    have hm:=dU hy
    unfold JI
    rw[hy]
    exact⟨hm,.inr rfl⟩
theorem GZ {ls:List I5} {v x:Int} {k:Nat} (h0:0≤x) (h1:x<k) (h:cQ ls v x):x∈cv ls v k:=by
  unfold cv
  refine adf.2 ⟨x.toNat,adK.2 ⟨adQ.2 (by omega),?_⟩,aer h0⟩
  simp only[decide_eq_true_eq]
  rw[aer h0];exact h
theorem K3 {ls:List I5} {v x:Int} {k:Nat} (h0:0≤x) (h1:x<k) (h:cQ ls x v):x∈dj ls v k:=by
  unfold dj
  refine adf.2 ⟨x.toNat,adK.2 ⟨adQ.2 (by omega),?_⟩,aer h0⟩
  simp only[decide_eq_true_eq]
  rw[aer h0];exact h
theorem G9 {n:Nat} {M:Int} {ins:List Int} {ls:List I5} {v:Int} {x:I5} (ht:Bf n M ins ls) (hp:ls.Pairwise iz) (hx:x∈ls) (hv:x.1=v∨x.2.1=v):x∈(cv ls v n).map (sP ls v)++(dj ls v n).map (JI ls v):=by
  have hw:=F9 hp hx
  obtain⟨h1,h2,h3,h4,_,_⟩:=ht.ws x hx
  rcases hv with rfl|rfl
  · refine ad9 _ (adf.2 ⟨x.2.1, GZ h3 h4 (by unfold cQ; rw [hw]; rfl), ?_⟩)
    unfold sP;rw[hw];rfl
  · refine aeI _ (adf.2 ⟨x.1, K3 h1 h2 (by unfold cQ; rw [hw]; rfl), ?_⟩)
    unfold JI;rw[hw];rfl
theorem KL {n:Nat} {ls:List I5} {v:Int} (dY:∀x∈ls,x.1≠x.2.1):((cv ls v n).map (sP ls v)++(dj ls v n).map (JI ls v)).Pairwise iz:=by
  have r1:(cv ls v n).Pairwise fun e f=>e<f:=by
    unfold cv
    rw[aeC]
    exact(afp.filter _).imp fun{a b} h=>by show(a:Int)<(b:Int);omega
  have r2:(dj ls v n).Pairwise fun e f=>e<f:=by
    unfold dj
    rw[aeC]
    exact(afp.filter _).imp fun{a b} h=>by show(a:Int)<(b:Int);omega
  rw[aez]
  refine⟨?_,?_,fun x hx y hy=>?_⟩
  · rw [aeC]
    exact r1.imp fun{a b} h hh=>by have:a=b:=hh.2;omega
  · rw [aeC]
    exact r2.imp fun{a b} h hh=>by have:a=b:=hh.1;omega
  · obtain ⟨a, ha, rfl⟩ := adf.1 hx
    obtain⟨b,hb,rfl⟩:=adf.1 hy
    rintro⟨h1,h2⟩
    have S9:v=b:=h1
    have Wk:a=v:=h2
    obtain⟨y,TB⟩:=(sB hb).2.2.some
    exact dY _ (dU TB) S9.symm
theorem ze.step {n:Nat} {l:List I3} {r:Nat} {rk ins:List Int} {ways ls out:List I5} {v:Int} (h:ze n l r rk ways ins ls) (hr:r<n) (hn:n≤12) (hv:fZ n ins v) (ho:∀s∈out,oX n ls v s):
    ze n l (r+1) (rk.set v.toNat r) (qT n (bg n ins ls out) v ways) (ins.set v.toNat 0) (wz (bg n ins ls out) v):=by
  have ht:Bf n (iY (r+1)) ins (bg n ins ls out):=BQ (h.tok.more (qd (by omega))) fun s hs=>by rw[qc];exact(ho s hs).le h.tok
  have u1:=hv.1
  have UQ:∀s∈out,s.1≠v∧s.2.1≠v:=fun s hs=>by
    obtain⟨x,y,hx,hy,_⟩:=(ho s hs).T2
    exact⟨(h.Ul _ (dU hx)).2.2,fun e=>(h.Ul _ (dU hy)).2.2 e.symm⟩
  obtain⟨We,Yk,Yj⟩:=BS (n:=n) (ins:=ins) UQ h.Y7
  generalize MC:bg n ins ls out=p7 at*
  have HS:∀x∈p7,fZ n ins x.1∧fZ n ins x.2.1∧x.1≠x.2.1:=fun x hx=>by
    rcases We x hx with h1|⟨s,hs,rfl,g1,g2,g3⟩
    · exact h.Ul x h1
    · exact⟨g1,g2,g3⟩
  have hold:∀x∈p7,x.1=v∨x.2.1=v→x∈ls:=fun x hx Rg=>by
    rcases We x hx with h1|⟨s,hs,rfl,_⟩
    · exact h1
    · exact absurd Rg (by rintro(e|e);exact(UQ s hs).1 e;exact(UQ s hs).2 e)
  have ic:qT n p7 v ways=ways++((cv p7 v n).map (sP p7 v)++(dj p7 v n).map (JI p7 v)):=by unfold qT;rw[adk]
  have Ac:∀y∈ways,y∈qT n p7 v ways:=fun y hy=>by rw[ic];exact ad9 _ hy
  have K9:∀x∈p7,x.1=v∨x.2.1=v→x∈qT n p7 v ways:=fun x hx Rg=>by rw[ic];exact aeI _ (G9 ht Yj hx Rg)
  have JT:∀u,Tk n ins u→Tk n (ins.set v.toNat 0) u:=fun u hu=>NC hu hv
  have Ai:v.toNat<rk.length:=by rw[h.BN];have:=hv.2.1;omega
  have UJ:(rk.set v.toNat (r:Int))[v.toNat]?=some (r:Int):=by rw[adi,if_pos rfl,if_pos Ai]
  have Of:∀u,0≤u→u≠v→(rk.set v.toNat (r:Int))[u.toNat]?=rk[u.toNat]?:=fun u h0 dY=>by rw[adi,if_neg (by omega)]
  have Qj:∀m e,Tk n ins m→(Tk n ins e→∃p q,rk[m.toNat]?=some p∧rk[e.toNat]?=some q∧p<q)→Rk n (rk.set v.toNat (r:Int)) (ins.set v.toNat 0) m e:=fun m e hm Z3 Qh=>by
    have Xx:m≠v:=fun e=>(hm.no (e▸hv)).elim
    by_cases E4:e=v
    · subst E4
      obtain⟨q,hq,_,Aq⟩:=h.W2 m hm
      exact⟨q,(r:Int),by rw[Of m hm.1 Xx];exact hq,UJ,Aq⟩
    · obtain ⟨p, q, h1, h2, h3⟩ := Z3 (Gj Qh u1 E4)
      exact⟨p,q,by rw[Of m hm.1 Xx];exact h1,by rw[Of e Qh.1 E4];exact h2,h3⟩
  refine⟨D3 ht v,by rw[adG];exact h.BN,by have:=G5 hv.2.2;have:=h.Jy;omega,fun x hx=>?_,by have:=D9 n p7 v ways;have:=h.Tu;omega,fun x hx=>?_,fun x hx=>?_,fun x hx=>?_,Yj.filter _,fun x hx=>?_,fun x hx=>?_,?_,fun x hx=>?_,fun k hk=>?_,fun u hu=>?_⟩
  · rw [ic] at hx
    rcases adl.1 hx with h1|h1
    · exact h.ws x h1
    · obtain ⟨h1, h2, h3, h4, h5, h6⟩ := Hb ht (adl.1 h1)
      exact⟨h1,h2,h3,h4,h5,afw h6 (qd (by omega))⟩
  · rcases agR hx with h1 | h1
    · exact h.Ty x h1
    · subst h1;omega
  · rcases agR hx with h1 | h1
    · exact h.bit x h1
    · exact .inl h1
  · obtain ⟨h1, h2⟩ := adK.1 hx
    simp only[decide_eq_true_eq]at h2
    obtain⟨g1,g2,g3⟩:=HS x h1
    exact⟨GI g1 h2.1 u1,GI g2 h2.2 u1,g3⟩
  · obtain ⟨h1, h2⟩ := adK.1 hx
    rcases We x h1 with h3|⟨s,hs,rfl,_⟩
    · exact(h.W5 x h3).mono JT Ac
    · have hN := ho s hs
      obtain⟨a,b,ha,hb,e⟩:=hN.T2
      refine .inr ⟨by show Tk n _ s.2.2.2.1;rw[hN.ends.2.1];exact pk hv,rfl,_,_,K9 _ (Yk _ (dU ha) (.inr rfl)) (.inr rfl),K9 _ (Yk _ (dU hb) (.inl rfl)) (.inl rfl),rfl,hN.ends.2.1.symm,hN.ends.2.1.symm,rfl,?_⟩
      exact e.symm
  · rw [ic] at hx
    rcases adl.1 hx with h1|h1
    · obtain ⟨g1, g2⟩ := h.T1 x h1
      exact⟨g1,g2.imp (JT _) (JT _)⟩
    · obtain ⟨g1, g2⟩ := tM (ins := ins) h1
      exact⟨(HS x g1).2.2,g2.imp (fun e=>by rw[e];exact pk hv) (fun e=>by rw[e];exact pk hv)⟩
  · rw [ic, aez]
    refine⟨h.Tv,KL fun x hx=>(HS x hx).2.2,fun x hx y hy=>?_⟩
    obtain⟨g1,_⟩:=tM (ins:=ins) hy
    obtain⟨k1,k2,_⟩:=HS y g1
    rintro⟨e1,e2⟩
    rcases(h.T1 x hx).2 with h2|h2
    · rw[e1]at h2;exact h2.no k1
    · rw[e2]at h2;exact h2.no k2
  · rw [ic] at hx
    rcases adl.1 hx with h1|h1
    · obtain ⟨g1, g2⟩ := h.T0 x h1
      refine⟨g1.mono JT Ac,fun h0=>?_⟩
      rcases g1 with g|⟨g,_⟩
      · rw[g.1]at h0;omega
      · exact⟨Qj _ _ g (g2 h0).1,Qj _ _ g (g2 h0).2⟩
    · obtain ⟨g1, g2⟩ := tM (ins := ins) h1
      have g3:=h.W5 x (hold x g1 g2)
      obtain⟨k1,k2,_⟩:=HS x g1
      refine⟨g3.mono JT Ac,fun h0=>?_⟩
      rcases g3 with g|⟨g,_⟩
      · rw[g.1]at h0;omega
      · exact⟨Qj _ _ g fun Qh=>(Qh.no k1).elim,Qj _ _ g fun Qh=>(Qh.no k2).elim⟩
  · by_cases hkr : k = r
    · subst hkr;exact⟨v,pk hv,UJ⟩
    · obtain ⟨u, h1, h2⟩ := h.QU k (by omega)
      exact⟨u,JT u h1,by rw[Of u h1.1 (fun e=>(h1.no (e▸hv)).elim)];exact h2⟩
  · by_cases UB : u = v
    · subst UB;exact⟨(r:Int),UJ,by omega,by omega⟩
    · obtain ⟨q, h1, h2, h3⟩ := h.W2 u (Gj hu u1 UB)
      exact⟨q,by rw[Of u hu.1 UB];exact h1,h2,by omega⟩
end Go.Gr
namespace Go.Gr
open Go.Rl
structure CX (n:Nat) (rk:List Int) (ways:List I5):Prop where
  len:rk.length=n
  ws:∀x∈ways,0≤x.1∧x.1<n∧0≤x.2.1∧x.2.1<n∧0≤x.2.2.1∧x.2.2.1≤iY 12
  Ty:∀x∈rk,0≤x∧x<max n 1
theorem ze.fU {n:Nat} {l:List I3} {r:Nat} {rk ins:List Int} {ways ls:List I5} (h:ze n l r rk ways ins ls):CX n rk ways:=⟨h.BN,h.ws,h.Ty⟩
theorem nQ {d:List Int} {v b:Nat} {x y:Int} (h:d[v]?=some 0) (hb:d[b]?=some y) (hx:0≤x) (hc:y<0∨x<y):(d.set b x)[v]?=some 0:=by
  rw[adi]
  split
  · rename_i e; subst e
    rw[h]at hb;cases hb;omega
  · exact h
def iE (rk d:List Int) (lo hi:Int) (v:Nat):List I2:=match d[v]?,rk[v]? with
  |some x,some q=>if 0≤x∧lo≤q∧q<hi then[((v:Int),x)]else[]
  |_,_=>[]
def rowsOf (rk d:List Int) (lo hi:Int) (k:Nat):List I2:=(adz k).flatMap (iE rk d lo hi)
theorem iP (rk d:List Int) (lo hi:Int) (k:Nat):rowsOf rk d lo hi (k+1)=rowsOf rk d lo hi k++iE rk d lo hi k:=by unfold rowsOf;rw[aeF,afg];simp
theorem oJ {rk d:List Int} {lo hi:Int} {v:Nat} {e:I2}:e∈iE rk d lo hi v↔∃x q,d[v]?=some x∧rk[v]?=some q∧0≤x∧lo≤q∧q<hi∧e=((v:Int),x):=by
  unfold iE
  constructor
  · intro h
    split at h
    · split at h
      · rename_i x q h1 h2 h3
        rw[ade]at h
        exact⟨x,q,h1,h2,h3.1,h3.2.1,h3.2.2,h⟩
      · cases h
    · cases h
  · rintro ⟨x, q, h1, h2, h3, h4, h5, rfl⟩
    simp only[h1,h2]
    rw[if_pos ⟨h3,h4,h5⟩]
    exact ade.2 rfl
theorem mh {rk d:List Int} {lo hi:Int} {k:Nat} {e:I2}:e∈rowsOf rk d lo hi k↔∃(v:Nat) (x q:Int),v<k∧d[v]?=some x∧rk[v]?=some q∧0≤x∧lo≤q∧q<hi∧e=((v:Int),x):=by
  unfold rowsOf
  rw[af8]
  constructor
  · rintro ⟨v, hv, he⟩
    obtain⟨x,q,h⟩:=oJ.1 he
    exact⟨v,x,q,adQ.1 hv,h⟩
  · rintro ⟨v, x, q, hv, h⟩
    exact⟨v,adQ.2 hv,oJ.2 ⟨x,q,h⟩⟩
theorem tz (rk d:List Int) (lo hi:Int) (v:Nat):(iE rk d lo hi v).length≤1:=by
  unfold iE
  split
  · split<;>simp
  · simp
theorem tm (rk d:List Int) (lo hi:Int) (k:Nat):(rowsOf rk d lo hi k).length≤k:=by
  induction k with
  |zero=>exact ac3 _
  |succ k ih=>rw[iP,acw];have:=tz rk d lo hi k;omega
def Bg (n:Nat) (out:List I2):Prop:=∀e∈out,0≤e.1∧e.1<n∧0≤e.2∧e.2≤105553116266496
theorem lf.QL {n:Nat} {d:List Int} (h:lf n (iY 12) d) (hn:n≤12) {x:Int} (hx:x∈d):x≤105553116266496:=by
  have h1:=h.top (gC 12) hx
  have h2:=o6 (r:=12) (by omega)
  have h3:(n:Int)*iY 12≤12*iY 12:=aeu (by omega) (gC 12)
  omega
theorem Da {n:Nat} {rk d:List Int} {lo hi:Int} (h:lf n (iY 12) d) (hn:n≤12):Bg n (rowsOf rk d lo hi d.length):=by
  intro e he
  obtain⟨v,x,q,hv,hx,hq,h0,_,_,rfl⟩:=mh.1 he
  have hl:=h.len
  exact⟨adU v,by show(v:Int)<n;omega,h0,h.QL hn (acy hx)⟩
theorem Eh {n:Nat} {rk d:List Int} {ways:List I5} {v:Int} (hH:CX n rk ways) (hl:d.length=n) (h0:0≤v) (h1:v<n) (hz:d[v.toNat]?=some 0):(v,0)∈rowsOf rk d 0 (rk.length:Int) d.length:=by
  have cD:v.toNat<rk.length:=by rw[hH.len];omega
  have hr:=hH.Ty rk[v.toNat] (agZ cD)
  refine mh.2 ⟨v.toNat,0,rk[v.toNat],by omega,hz,acE cD,by omega,hr.1,by rw[hH.len];omega,?_⟩
  rw[aer h0]
def gW (a b:List I2) (i q:Nat) (z y:Int):Prop:=∀(i' k':Nat) e f,a[i']?=some e→b[k']?=some f→e.1=f.1→(i'<i∨i'=i∧k'<q)→0≤y∧z≤e.2+f.2
theorem gW.row {a b:List I2} {i q:Nat} {z y:Int} (h:gW a b i q z y) (hq:b.length≤q):gW a b (i+1) 0 z y:=fun i' k' e f he hf Qp cD=>by
  have:=(acA.1 hf).1
  exact h i' k' e f he hf Qp (by omega)
theorem gW.skip {a b:List I2} {i q:Nat} {z y:Int} {p r:I2} (h:gW a b i q z y) (hp:a[i]?=some p) (hr:b[q]?=some r) (hs:p.1=r.1→0≤y∧z≤p.2+r.2):gW a b i (q+1) z y:=fun i' k' e f he hf Qp cD=>by
  by_cases hn:i'=i∧k'=q
  · obtain ⟨rfl, rfl⟩ := hn
    rw[hp]at he;rw[hr]at hf;cases he;cases hf
    exact hs Qp
  · exact h i' k' e f he hf Qp (by omega)
theorem gW.dw {a b:List I2} {i q:Nat} {z y:Int} {p r:I2} (h:gW a b i q z y) (hp:a[i]?=some p) (hr:b[q]?=some r) (h0:0≤p.1) (hc:y<0∨p.2+r.2≤z):gW a b i (q+1) (p.2+r.2) p.1:=fun i' k' e f he hf Qp cD=>by
  by_cases hn:i'=i∧k'=q
  · obtain ⟨rfl, rfl⟩ := hn
    rw[hp]at he;rw[hr]at hf;cases he;cases hf
    exact⟨h0,ahp _⟩
  · have := h i' k' e f he hf Qp (by omega)
    exact⟨h0,by omega⟩
theorem meet_self {n:Nat} {a b:List I2} {i:Nat} {z y v:Int} (h:gW a b i 0 z y) (hi:a.length≤i) (hz:(y= -1∧z= -1)∨(0≤y∧0≤z∧z≤211106232532992)) (h1:(v,(0:Int))∈a) (h2:(v,(0:Int))∈b):z=0:=by
  obtain⟨i',JV⟩:=ac9 h1
  obtain⟨k',jb⟩:=ac9 h2
  have:=(acA.1 JV).1
  have hh:=h i' k' _ _ JV jb rfl (by omega)
  have h3:z≤(0:Int)+0:=hh.2
  have:=hh.1
  omega
theorem EG {ts acc:List Int} {i:Nat} {s p z:Int} (ir:acc.length=i) (h:∀j,j<i→ts[j]?=some s→acc[j]?=some 0) (hp:ts[i]?=some p) (hz:s=p→z=0):∀j,j<i+1→ts[j]?=some s→(acc++[z])[j]?=some 0:=by
  intro j hj hs
  rcases adh j i with h1|h1
  · rw[ads (by omega)];exact h j h1 hs
  · have e : j = i := by omega
    subst e
    rw[hp]at hs
    rw[adp (by omega),ir,Nat.sub_self,hz (ac2 hs).symm];rfl
end Go.Gr
namespace Go.Gr
open Go.Rl
def cb (n k:Int):Int:=n-max 0 (min k n)
def oY (rk:List Int) (lo:Int) (v:Nat):Prop:=∃q,rk[v]?=some q∧lo≤q
def DP (rk d:List Int) (lo:Int) (v:Nat):Prop:=(∃x,d[v]?=some x∧0≤x)∧∃q,rk[v]?=some q∧q<lo
noncomputable instance (rk:List Int) (lo:Int) (v:Nat):Decidable (oY rk lo v):=adt _
noncomputable instance (rk d:List Int) (lo:Int) (v:Nat):Decidable (DP rk d lo v):=adt _
noncomputable def bN (rk:List Int) (lo:Int) (k:Nat):List Int:=((adz k).filter fun v:Nat=>decide (oY rk lo v)).map afl
noncomputable def tR (rk d:List Int) (lo:Int) (k:Nat):List Int:=((adz k).filter fun v:Nat=>decide (DP rk d lo v)).map afl
structure iC (n:Nat) (rk:List Int) (lo:Int) (out:List I2):Prop where
  ok:Bg n out
  high:∀e∈out,oY rk lo e.1.toNat
  Ku:out.Pairwise fun e f=>e.1<f.1
structure mJ (n:Nat) (rk:List Int) (lo:Int) (out:List Int):Prop where
  ok:∀x∈out,0≤x∧x<n
  low:∀x∈out,¬oY rk lo x.toNat
  Ku:out.Pairwise fun e f=>e<f
theorem iC.sub {n:Nat} {rk:List Int} {lo:Int} {out Eu:List I2} (h:iC n rk lo out) (hs:Eu.Sublist out):iC n rk lo Eu:=⟨fun e he=>h.ok e (hs.subset he),fun e he=>h.high e (hs.subset he),h.Ku.sublist hs⟩
theorem zz (rk d:List Int) (lo hi:Int) (k:Nat):(rowsOf rk d lo hi k).Pairwise fun e f=>e.1<f.1:=by
  induction k with
  |zero=>exact aeR
  |succ k ih=>
    rw[iP,aez]
    refine⟨ih,?_,fun e he f hf=>?_⟩
    · have h1 := tz rk d lo hi k
      match hq:iE rk d lo hi k,h1 with
      |[],_=>exact aeR
      |[x],_=>exact afT _ _
    · obtain ⟨v, x, q, hv, _, _, _, _, _, rfl⟩ := mh.1 he
      obtain⟨x2,q2,_,_,_,_,_,rfl⟩:=oJ.1 hf
      show(v:Int)<(k:Int)
      omega
theorem GQ {n:Nat} {rk d:List Int} {lo hi:Int} (h:lf n (iY 12) d) (hn:n≤12):iC n rk lo (rowsOf rk d lo hi d.length):=by
  refine⟨Da h hn,fun e he=>?_,zz ..⟩
  obtain⟨v,x,q,hv,hx,hq,h0,h1,_,rfl⟩:=mh.1 he
  exact⟨q,hq,h1⟩
theorem kU (p:Nat→Bool) (k:Nat):(((adz k).filter p).map afl).Pairwise fun e f=>e<f:=by
  rw[aeC]
  exact(afp.filter _).imp fun{a b} h=>by show(a:Int)<(b:Int);omega
theorem EM {n:Nat} {rk d:List Int} {lo:Int}:mJ n rk lo (tR rk d lo n):=by
  refine⟨fun x hx=>?_,fun x hx=>?_,kU ..⟩
  · obtain ⟨y, hy, rfl⟩ := adf.1 hx
    have:=adQ.1 (adK.1 hy).1
    exact⟨adU y,by show(y:Int)<n;omega⟩
  · obtain ⟨y, hy, rfl⟩ := adf.1 hx
    have h1:DP rk d lo y:=of_decide_eq_true (adK.1 hy).2
    obtain⟨_,q,hq,UN⟩:=h1
    rintro⟨q2,Aq,h2⟩
    have e:(afl y).toNat=y:=rfl
    rw[e,hq]at Aq
    cases Aq;omega
theorem Gt {α:Type} {acc l:List α} {i:Nat} {a:α} (h:acc.Sublist (l.take i)) (ha:l[i]?=some a):acc.Sublist (l.take (i+1)):=by rw[dM ha];exact h.trans (List.sublist_append_left ..)
theorem Gs {α:Type} {acc l:List α} {i:Nat} {a:α} (h:acc.Sublist (l.take i)) (ha:l[i]?=some a):(acc++[a]).Sublist (l.take (i+1)):=by rw[dM ha];exact h.append (aiI _)
def pY (ss ts:List Int) (ls:List (List Int)):Prop:=(∀row∈ls,row.length=ts.length∧∀z∈row,-1≤z∧z≤211106232532992)∧∀(i:Nat) s row,ss[i]?=some s→ls[i]?=some row→∀j:Nat,ts[j]?=some s→row[j]?=some 0
theorem pY.nil (ss ts:List Int):pY ss ts []:=⟨fun row h=>absurd h acV,fun i s row _ h=>by simp at h⟩
theorem pY.snoc {ss ts:List Int} {ls:List (List Int)} {s:Int} {row:List Int} (h:pY ss ts ls) (hs:ss[ls.length]?=some s) (hl:row.length=ts.length) (hz:∀z∈row,-1≤z∧z≤211106232532992) (h0:∀j:Nat,ts[j]?=some s→row[j]?=some 0):pY ss ts (ls++[row]):=by
  refine⟨fun r hr=>?_,fun i s' r hi hr=>?_⟩
  · rcases adl.1 hr with h1 | h1
    · exact h.1 r h1
    · rw[ade]at h1;subst h1;exact⟨hl,hz⟩
  · rcases adh i ls.length with h1 | h1
    · rw[ads h1]at hr;exact h.2 i s' r hi hr
    · rw [adp h1] at hr
      have e:i=ls.length:=by
        rcases aeH (i-ls.length)with e|e
        · omega
        · rw[ad2 (by simp;omega)]at hr;cases hr
      subst e
      rw[Nat.sub_self]at hr
      cases hr
      rw[hs]at hi;cases hi
      exact h0
theorem nu {rk:List Int} {lo x:Int} {k:Nat} (h:x∈bN rk lo k):0≤x∧x<k∧oY rk lo x.toNat:=by
  unfold bN at h
  obtain⟨y,hy,rfl⟩:=adf.1 h
  have h1:=adK.1 hy
  exact⟨adU y,by have:=adQ.1 h1.1;show(y:Int)<k;omega,of_decide_eq_true h1.2⟩
structure mI (n:Nat) (rk:List Int) (lo:Int) (g:List Int) (far:List (List Int)) (outs ins:List (List I2)) (so si:List (List Int)):Prop where
  Dp:g=bN rk lo n
  Ht:pY g g far
  CL:far.length=g.length
  Hs:∀r∈outs,iC n rk lo r∧r.length≤n
  Ma:∀r∈ins,iC n rk lo r∧r.length≤n
  Ra:∀r∈so,mJ n rk lo r∧r.length≤n
  Rb:∀r∈si,mJ n rk lo r∧r.length≤n
  lens:outs.length=n∧ins.length=n∧so.length=n∧si.length=n
theorem pX {α:Type} {P:α→Prop} {l:List α} {a:α} (h:∀r∈l,P r) (ha:P a):∀r∈l++[a],P r:=fun r hr=>(adl.1 hr).elim (h r) fun e=>by rw[ade]at e;rw[e];exact ha
end Go.Gr
namespace Go.Gr
open Go.Rl Go.dn Go.jJ
theorem DD {β:Type} (f:β→List UInt8) (M:Nat):∀(l:List β),(∀x∈l,(f x).length≤M)→((l.map f).flatten).length≤l.length*M:=by
  intro l
  induction l with
  |nil=>intro _;simp
  |cons a r ih=>
    intro h
    have h1:=h a (adH ..)
    have h2:=ih fun x hx=>h x (adv _ hx)
    simp only[adb,ac6,acw,acF,Nat.add_mul];omega
theorem tp {ls:List (List Int)} {M:Nat} (h:∀r∈ls,r.length≤M):(dW ls).flatten.length≤12+ls.length*(4+8*M):=by
  unfold dW
  have:=DD bE (4+8*M) ls fun r hr=>by rw[ck];have:=h r hr;omega
  simp only[ac6,acw,ck,acF,acN];omega
theorem wI {ls:List (List I2)} {M:Nat} (h:∀r∈ls,r.length≤M):(eC ls).flatten.length≤12+ls.length*(8+16*M):=by
  unfold eC
  have e:(ls.flatMap eN).flatten=(ls.map fun r=>(eN r).flatten).flatten:=by
    rw[afE,ae5,aem];rfl
  have:=DD (fun r=>(eN r).flatten) (8+16*M) ls fun r hr=>by
    have:=h r hr
    simp only[eN,ac6,aew,acw,acN,ck,ac4];omega
  simp only[ac6,acw,ck,acF,acN,e];omega
theorem pB (n:Int) (ar:List I3):(j6 n ar).flatten.length=24+24*ar.length:=by
  simp only[j6,ac6,aew,acw,acN,ck,ac4,acF];omega
theorem nZ (rk:List Int) (ws:List I5):(ig rk ws).flatten.length=24+8*rk.length+40*ws.length:=by
  simp only[ig,ac6,aew,acw,acN,ck,ac4];omega
structure yZ (A R K:Nat) (ar:List I3) (rk:List Int) (ws:List I5) (g:List Int) (far:List (List Int)) (outs ins:List (List I2)) (so si:List (List Int)):Prop where
  ar:ar.length≤A
  rk:rk.length≤R
  ws:ws.length≤A
  g:g.length≤K
  far:far.length≤K∧∀r∈far,r.length≤K
  outs:outs.length≤K∧∀r∈outs,r.length≤K
  ins:ins.length≤K∧∀r∈ins,r.length≤K
  so:so.length≤K∧∀r∈so,r.length≤K
  si:si.length≤K∧∀r∈si,r.length≤K
theorem yZ.fX {A R K:Nat} {n:Int} {ar:List I3} {rk:List Int} {ws:List I5} {g:List Int} {far:List (List Int)} {outs ins:List (List I2)} {so si:List (List Int)} (h:yZ A R K ar rk ws g far outs ins so si):
    dX (dA n ar rk ws g far outs ins so si)≤159+24*A+8*R+40*A+8*K+3*(K*(4+8*K))+2*(K*(8+16*K)):=by
  have h1:=tp h.far.2
  have h2:=wI h.outs.2
  have h3:=wI h.ins.2
  have h4:=tp h.so.2
  have h5:=tp h.si.2
  have m1:=ae6 (4+8*K) h.far.1
  have m2:=ae6 (8+16*K) h.outs.1
  have m3:=ae6 (8+16*K) h.ins.1
  have m4:=ae6 (4+8*K) h.so.1
  have m5:=ae6 (4+8*K) h.si.1
  have:=h.ar
  have:=h.rk
  have:=h.ws
  have:=h.g
  have e:dX (dA n ar rk ws g far outs ins so si)=32+(kR n ar).length+(j6 n ar).flatten.length+(ig rk ws).flatten.length+(fB g far outs ins so si).flatten.length:=by
    simp only[dA,dX,adb,ad6,ad4,ajA];omega
  rw[e,xk,pB,nZ]
  unfold fB
  simp only[ac6,aeq,acw,ck]
  omega
theorem mI.size {n:Nat} {l:List I3} {rk:List Int} {ways:List I5} {lo:Int} {far:List (List Int)} {outs ins:List (List I2)} {so si:List (List Int)} {g:List Int} (hl:l.length≤40) (hr:rk.length≤12) (hw:ways.length≤288) (hn:n≤12) (h:mI n rk lo g far outs ins so si):
    yZ 288 12 12 l rk ways g far outs ins so si:=by
  have hg:g.length≤n:=by rw[h.Dp];exact eh _ n
  have hL:=h.lens
  have hf:=h.CL
  exact⟨by omega,hr,hw,by omega,⟨by omega,fun r hr=>by have:=(h.Ht.1 r hr).1;omega⟩,⟨by omega,fun r hr=>by have:=(h.Hs r hr).2;omega⟩,⟨by omega,fun r hr=>by have:=(h.Ma r hr).2;omega⟩,⟨by omega,fun r hr=>by have:=(h.Ra r hr).2;omega⟩,⟨by omega,fun r hr=>by have:=(h.Rb r hr).2;omega⟩⟩
end Go.Gr
namespace Go.Gr
open Go.Rl Go.dn Go.jJ
def kG (l:List Int):Prop:=l.length<4294967296∧∀x∈l,Fit x
theorem fa {l m:List Int} {a b:List UInt8} (hl:kG l) (hm:kG m) (h:bE l++a=bE m++b):l=m∧a=b:=by
  have h1:=qu l a 4294967296 hl.2 (by have:=hl.1;omega) hl.1
  have h2:=qu m b 4294967296 hm.2 (by have:=hm.1;omega) hm.1
  rw[h,h2]at h1
  have h3:=congrArg Prod.fst h1
  have h4:=congrArg adT h1
  exact⟨h4.symm,(congrArg Prod.fst h3).symm⟩
theorem Ei:∀{ls ms:List (List Int)} {a b:List UInt8},ls.length=ms.length→(∀r∈ls,kG r)→(∀r∈ms,kG r)→(ls.map bE).flatten++a=(ms.map bE).flatten++b→ls=ms∧a=b:=by
  intro ls
  induction ls with
  |nil=>intro ms a b hl _ _ h;cases ms with
    |nil=>exact⟨rfl,h⟩
    |cons _ _=>cases hl
  |cons l r ih=>
    intro ms a b hl h1 h2 h
    cases ms with
    |nil=>cases hl
    |cons m s=>
      simp only[adb,ac6,adk]at h
      obtain⟨e1,e2⟩:=fa (h1 l (adH ..)) (h2 m (adH ..)) h
      obtain⟨e3,e4⟩:=ih (by simpa using hl) (fun r hr=>h1 r (adv _ hr)) (fun r hr=>h2 r (adv _ hr)) e2
      exact⟨by rw[e1,e3],e4⟩
theorem pP {n:Nat} (h:n<4294967296):kG [(n:Int)]:=⟨ac8 (ac3 1) (by omega),fun x hx=>by rw[ade]at hx;subst hx;exact⟨by omega,by omega⟩⟩
def oZ (ls:List (List Int)):Prop:=ls.length<4294967296∧∀r∈ls,kG r
theorem tk {ls ms:List (List Int)} {a b:List UInt8} (hl:oZ ls) (hm:oZ ms) (h:(dW ls).flatten++a=(dW ms).flatten++b):ls=ms∧a=b:=by
  unfold dW at h
  simp only[ac6,adk]at h
  obtain⟨e1,e2⟩:=fa (pP hl.1) (pP hm.1) h
  have e3:ls.length=ms.length:=by have:(ls.length:Int)=ms.length:=(ajr e1).1;omega
  exact Ei e3 hl.2 hm.2 e2
def oy (r:List I2):Prop:=r.length<4294967296∧∀x∈r,Fz x
def nP (ls:List (List I2)):Prop:=ls.length<4294967296∧∀r∈ls,oy r
theorem oy.one {r:List I2} (h:oy r):kG (r.map fun a=>a.1):=⟨by rw[ac4];exact h.1,fun x hx=>by obtain⟨a,ha,rfl⟩:=adf.1 hx;exact(h.2 a ha).1⟩
theorem oy.two {r:List I2} (h:oy r):kG (r.map fun a=>a.2):=⟨by rw[ac4];exact h.1,fun x hx=>by obtain⟨a,ha,rfl⟩:=adf.1 hx;exact(h.2 a ha).2⟩
theorem Ge {r s:List I2} (h1:r.map (fun a=>a.1)=s.map fun a=>a.1) (h2:r.map (fun a=>a.2)=s.map fun a=>a.2):r=s:=by
  have hl:r.length=s.length:=by simpa using congrArg adg h1
  refine aeT hl fun i hi hj=>?_
  have g1:(r.map fun a=>a.1)[i]?=(s.map fun a=>a.1)[i]?:=by rw[h1]
  have g2:(r.map fun a=>a.2)[i]?=(s.map fun a=>a.2)[i]?:=by rw[h2]
  simp only[adE,acE hi,acE hj,aet,aeo]at g1 g2
  exact adL g1 g2
theorem Ek {r s:List I2} {a b:List UInt8} (hr:oy r) (hs:oy s) (h:(eN r).flatten++a=(eN s).flatten++b):r=s∧a=b:=by
  unfold eN at h
  simp only[ac6,aew,adj,adk]at h
  obtain⟨e1,e2⟩:=fa hr.one hs.one h
  obtain⟨e3,e4⟩:=fa hr.two hs.two e2
  exact⟨Ge e1 e3,e4⟩
theorem BK:∀{ls ms:List (List I2)} {a b:List UInt8},ls.length=ms.length→(∀r∈ls,oy r)→(∀r∈ms,oy r)→(ls.flatMap eN).flatten++a=(ms.flatMap eN).flatten++b→ls=ms∧a=b:=by
  intro ls
  induction ls with
  |nil=>intro ms a b hl _ _ h;cases ms with
    |nil=>exact⟨rfl,h⟩
    |cons _ _=>cases hl
  |cons l r ih=>
    intro ms a b hl h1 h2 h
    cases ms with
    |nil=>cases hl
    |cons m s=>
      simp only[ae0,aeq,adk]at h
      obtain⟨e1,e2⟩:=Ek (h1 l (adH ..)) (h2 m (adH ..)) h
      obtain⟨e3,e4⟩:=ih (by simpa using hl) (fun r hr=>h1 r (adv _ hr)) (fun r hr=>h2 r (adv _ hr)) e2
      exact⟨by rw[e1,e3],e4⟩
theorem wK {ls ms:List (List I2)} {a b:List UInt8} (hl:nP ls) (hm:nP ms) (h:(eC ls).flatten++a=(eC ms).flatten++b):ls=ms∧a=b:=by
  unfold eC at h
  simp only[ac6,adk]at h
  obtain⟨e1,e2⟩:=fa (pP hl.1) (pP hm.1) h
  have e3:ls.length=ms.length:=by have:(ls.length:Int)=ms.length:=(ajr e1).1;omega
  exact BK e3 hl.2 hm.2 e2
def DR (r:List I3):Prop:=r.length<4294967296∧∀x∈r,LN x
def DQ (r:List I5):Prop:=r.length<4294967296∧∀x∈r,PU x
theorem ek {α:Type} {r:List α} {f:α→Int} (hl:r.length<4294967296) (h:∀x∈r,Fit (f x)):kG (r.map f):=⟨by rw[ac4];exact hl,fun x hx=>by obtain⟨a,ha,rfl⟩:=adf.1 hx;exact h a ha⟩
theorem nJ {α:Type} {r s:List α} {f:α→Int} (h:r.map f=s.map f) {i:Nat} (hi:i<r.length) (hj:i<s.length):f r[i]=f s[i]:=by
  have g:(r.map f)[i]?=(s.map f)[i]?:=by rw[h]
  simpa[acE hi,acE hj]using g
theorem map_inj {n m:Int} {r s:List I3} (hn:Fit n) (hm:Fit m) (hr:DR r) (hs:DR s) (h:(j6 n r).flatten=(j6 m s).flatten):n=m∧r=s:=by
  have h:(j6 n r).flatten++[]=(j6 m s).flatten++[]:=by rw[h]
  unfold j6 at h
  simp only[ac6,aew,adj]at h
  have f1:∀{x:Int},Fit x→kG [x]:=fun{x} hx=>⟨by simp,fun y hy=>by rw[ade]at hy;subst hy;exact hx⟩
  obtain⟨e1,h⟩:=fa (f1 hn) (f1 hm) h
  obtain⟨e2,h⟩:=fa (ek hr.1 fun x hx=>(hr.2 x hx).1) (ek hs.1 fun x hx=>(hs.2 x hx).1) h
  obtain⟨e3,h⟩:=fa (ek hr.1 fun x hx=>(hr.2 x hx).2.1) (ek hs.1 fun x hx=>(hs.2 x hx).2.1) h
  have h:bE (r.map fun a=>a.2.2)++[]=bE (s.map fun a=>a.2.2)++[]:=by rw[h]
  obtain⟨e4,_⟩:=fa (ek hr.1 fun x hx=>(hr.2 x hx).2.2) (ek hs.1 fun x hx=>(hs.2 x hx).2.2) h
  refine⟨by simpa using e1,?_⟩
  have hl:r.length=s.length:=by simpa using congrArg adg e2
  exact aeT hl fun i hi hj=>adL (nJ e2 hi hj) (adL (nJ e3 hi hj) (nJ e4 hi hj))
theorem HX {rk vy:List Int} {r s:List I5} (hk:kG rk) (Sy:kG vy) (hr:DQ r) (hs:DQ s) (h:(ig rk r).flatten=(ig vy s).flatten):rk=vy∧r=s:=by
  unfold ig at h
  simp only[ac6,aew,adj]at h
  obtain⟨e1,h⟩:=fa hk Sy h
  obtain⟨e2,h⟩:=fa (ek hr.1 fun x hx=>(hr.2 x hx).1) (ek hs.1 fun x hx=>(hs.2 x hx).1) h
  obtain⟨e3,h⟩:=fa (ek hr.1 fun x hx=>(hr.2 x hx).2.1) (ek hs.1 fun x hx=>(hs.2 x hx).2.1) h
  obtain⟨e4,h⟩:=fa (ek hr.1 fun x hx=>(hr.2 x hx).2.2.1) (ek hs.1 fun x hx=>(hs.2 x hx).2.2.1) h
  obtain⟨e5,h⟩:=fa (ek hr.1 fun x hx=>(hr.2 x hx).2.2.2.1) (ek hs.1 fun x hx=>(hs.2 x hx).2.2.2.1) h
  have h:bE (r.map fun a=>a.2.2.2.2)++[]=bE (s.map fun a=>a.2.2.2.2)++[]:=by rw[h]
  obtain⟨e6,_⟩:=fa (ek hr.1 fun x hx=>(hr.2 x hx).2.2.2.2) (ek hs.1 fun x hx=>(hs.2 x hx).2.2.2.2) h
  refine⟨e1,?_⟩
  have hl:r.length=s.length:=by simpa using congrArg adg e2
  exact aeT hl fun i hi hj=>adL (nJ e2 hi hj) (adL (nJ e3 hi hj) (adL (nJ e4 hi hj) (adL (nJ e5 hi hj) (nJ e6 hi hj))))
structure PT (n:Int) (ar:List I3) (rk:List Int) (ws:List I5) (g:List Int) (far:List (List Int)) (outs ins:List (List I2)) (so si:List (List Int)):Prop where
  n:Fit n
  ar:DR ar
  rk:kG rk
  ws:DQ ws
  g:kG g
  far:oZ far
  outs:nP outs
  ins:nP ins
  so:oZ so
  si:oZ si
theorem Gm {g g2 : List Int} {far AQ so LZ si Kp : List (List Int)} {o o2 i i2 : List (List I2)} (hg : kG g) (SF : kG g2) (hf : oZ far) (SJ : oZ AQ) (ho : nP o) (EY : nP o2) (hi : nP i) (xi : nP i2) (hs : oZ so) (nX : oZ LZ) (ht : oZ si) (Rr : oZ Kp)
    (h:(fB g far o i so si).flatten=(fB g2 AQ o2 i2 LZ Kp).flatten):g=g2∧far=AQ∧o=o2∧i=i2∧so=LZ∧si=Kp:=by
  unfold fB at h
  simp only[ac6,aeq]at h
  obtain⟨e1,h⟩:=fa hg SF h
  obtain⟨e2,h⟩:=tk hf SJ h
  obtain⟨e3,h⟩:=wK ho EY h
  obtain⟨e4,h⟩:=wK hi xi h
  obtain⟨e5,h⟩:=tk hs nX h
  have h:(dW si).flatten++[]=(dW Kp).flatten++[]:=by rw[h]
  obtain⟨e6,_⟩:=tk ht Rr h
  exact⟨e1,e2,e3,e4,e5,e6⟩
theorem LC {n n2 : Int} {ar TX : List I3} {rk vy : List Int} {ws Bj : List I5} {g g2 : List Int} {far AQ so LZ si Kp : List (List Int)} {o o2 i i2 : List (List I2)} (h1 : PT n ar rk ws g far o i so si) (h2 : PT n2 TX vy Bj g2 AQ o2 i2 LZ Kp)
    (m1:dX (dA n ar rk ws g far o i so si)<4294967296) (m2:dX (dA n2 TX vy Bj g2 AQ o2 i2 LZ Kp)<4294967296):
    cP (dA n ar rk ws g far o i so si)=cP (dA n2 TX vy Bj g2 AQ o2 i2 LZ Kp)↔(n=n2∧ar=TX)∧(rk=vy∧ws=Bj)∧g=g2∧far=AQ∧o=o2∧i=i2∧so=LZ∧si=Kp:=by
  constructor
  · intro h
    have e1:=gP _ (by rw[dZ];exact m1)
    have e2:=gP _ (by rw[dZ];exact m2)
    rw[h,e2]at e1
    unfold dA at e1
    simp only[ai9,and_true]at e1
    obtain⟨_,q2,q3,q4⟩:=e1
    exact⟨map_inj h1.n h2.n h1.ar h2.ar q2.symm,HX h1.rk h2.rk h1.ws h2.ws q3.symm,Gm h1.g h2.g h1.far h2.far h1.outs h2.outs h1.ins h2.ins h1.so h2.so h1.si h2.si q4.symm⟩
  · rintro ⟨⟨rfl, rfl⟩, ⟨rfl, rfl⟩, rfl, rfl, rfl, rfl, rfl, rfl⟩
    rfl
end Go.Gr
namespace Go.Gr
open Go.Rl
def kV {α:Type} (p:α→Prop) [DecidablePred p] (l:List α):Int:=match l.findIdx? fun x=>decide (p x)with|some i=>(i:Int)|none=> -1
theorem nH {α:Type} {p:α→Prop} [DecidablePred p] {l:List α} {i:Nat} {x:α} (hb:∀y∈l.take i,¬p y) (h:l[i]?=some x) (hp:p x):kV p l=(i:Int):=by
  have hi:=(acA.1 h)
  obtain⟨hi,he⟩:=hi
  have e:l.findIdx? (fun x=>decide (p x))=some i:=by
    rw[af1]
    refine⟨hi,by rw[he];exact decide_eq_true hp,fun j hj=>?_⟩
    have:l[j]∈l.take i:=by
      rw[ae7]
      exact⟨j,by omega,rfl⟩
    simpa using hb _ this
  unfold kV;rw[e]
theorem qI {α:Type} {p:α→Prop} [DecidablePred p] {l:List α} (hb:∀y∈l,¬p y):kV p l= -1:=by
  have e:l.findIdx? (fun x=>decide (p x))=none:=by
    rw[agS]
    intro x hx;simpa using hb x hx
  unfold kV;rw[e]
theorem fw {α:Type} (p:α→Prop) [DecidablePred p] (l:List α):(kV p l= -1∧∀y∈l,¬p y)∨∃(i:Nat) (x:α),kV p l=(i:Int)∧l[i]?=some x∧p x∧∀y∈l.take i,¬p y:=by
  cases h:l.findIdx? fun x=>decide (p x)with
  |none=>
    left
    have hb:∀y∈l,¬p y:=fun y hy=>by
      have:=(agS.1 h) y hy
      simpa using this
    exact⟨qI hb,hb⟩
  |some i=>
    right
    obtain⟨hi,h1,h2⟩:=af1.1 h
    have hb:∀y∈l.take i,¬p y:=fun y hy=>by
      obtain⟨j,hj,rfl⟩:=ae7.1 hy
      have:=h2 j (by omega)
      simpa using this
    exact⟨i,l[i],nH hb (acE hi) (of_decide_eq_true h1),acE hi,of_decide_eq_true h1,hb⟩
abbrev gM (u v:Int) (x:I5):Prop:=x.1=u∧x.2.1=v
def Bh (rk:List Int) (ws:List I5) (x:I5):Prop:=
  x.2.2.2.2= -1∧(0≤x.2.2.2.1∧x.2.2.2.1<rk.length)∧(∀p q,rk[x.2.2.2.1.toNat]?=some p→rk[x.1.toNat]?=some q→p<q)∧(∀p q,rk[x.2.2.2.1.toNat]?=some p→rk[x.2.1.toNat]?=some q→p<q)∧
    ∃(a b:Nat) (y z:I5),kV (gM x.1 x.2.2.2.1) ws=(a:Int)∧ws[a]?=some y∧kV (gM x.2.2.2.1 x.2.1) ws=(b:Int)∧ws[b]?=some z∧adC.wrap (y.2.2.1+z.2.2.1)=x.2.2.1
def y0 (rk:List Int) (ws:List I5) (i:Nat) (x:I5):Prop:=(0≤x.1∧x.1<rk.length)∧(0≤x.2.1∧x.2.1<rk.length)∧x.1≠x.2.1∧0≤x.2.2.1∧x.2.2.1≤1152921504606846976∧kV (gM x.1 x.2.1) ws=(i:Int)
def TY (rk:List Int) (ws:List I5) (i:Nat) (x:I5):Prop:=y0 rk ws i x∧if x.2.2.2.1= -1 then 0≤x.2.2.2.2∧x.2.2.2.2<67108864 else Bh rk ws x
def ld (rk:List Int) (ws:List I5):Prop:=(∀k:Nat,k<rk.length→(k:Int)∈rk)∧∀(i:Nat) (x:I5),ws[i]?=some x→TY rk ws i x
noncomputable instance (rk:List Int) (ws:List I5) (x:I5):Decidable (Bh rk ws x):=adt _
noncomputable instance (rk:List Int) (ws:List I5) (i:Nat) (x:I5):Decidable (TY rk ws i x):=adt _
noncomputable instance (rk:List Int) (ws:List I5):Decidable (ld rk ws):=adt _
noncomputable def ec (rk:List Int) (ws:List I5):Int:=if 16777216<rk.length∨67108864<ws.length then 3 else if ld rk ws then 0 else 2
def js (n:Int) (P:Int→Prop) (l:List Int):Prop:=(∀x∈l,(0≤x∧x<n)∧P x)∧∀(i:Nat) (x y:Int),l[i]?=some x→l[i+1]?=some y→x<y
def p8 (g:List Int) (gr x:Int):Prop:=gr<2→(if x∈g then 1 else 0:Int)=gr
def dp (least d:Int):Prop:=least≤d∧d≤1152921504606846976
def jI (n:Int) (g:List Int) (ls:List (List I2)):Prop:=(∀r∈ls,(∀x∈r,dp 0 x.2)∧js n (p8 g 1) (r.map fun x=>x.1))∧(ls.length:Int)=n
def p4 (n:Int) (g:List Int) (ls:List (List Int)):Prop:=(∀r∈ls,js n (p8 g 0) r)∧(ls.length:Int)=n
def p6 (g:List Int) (far:List (List Int)):Prop:=far.length=g.length∧∀(i:Nat) r,far[i]?=some r→r.length=g.length∧r[i]?=some 0∧∀x∈r,dp (-1) x
def qQ (n:Int) (g:List Int) (far:List (List Int)) (outs ins:List (List I2)) (so si:List (List Int)):Prop:=
  0≤n∧js n (p8 g 2) g∧p6 g far∧jI n g outs∧jI n g ins∧p4 n g so∧p4 n g si
noncomputable instance (n:Int) (P:Int→Prop) (l:List Int):Decidable (js n P l):=adt _
noncomputable instance (n:Int) (g:List Int) (ls:List (List I2)):Decidable (jI n g ls):=adt _
noncomputable instance (n:Int) (g:List Int) (ls:List (List Int)):Decidable (p4 n g ls):=adt _
noncomputable instance (g:List Int) (far:List (List Int)):Decidable (p6 g far):=adt _
noncomputable instance (n:Int) (g:List Int) (far:List (List Int)) (outs ins:List (List I2)) (so si:List (List Int)):Decidable (qQ n g far outs ins so si):=adt _
instance (least d:Int):Decidable (dp least d):=inferInstanceAs (Decidable (_∧_))
noncomputable def dH (n:Int) (g:List Int) (far:List (List Int)) (outs ins:List (List I2)) (so si:List (List Int)):Int:=if 16777216<n then 3 else if qQ n g far outs ins so si then 0 else 2
def lg (ar:List I3) (ws:List I5):Prop:=∀x∈ws,x.2.2.2.1= -1→ar[x.2.2.2.2.toNat]?=some (x.1,x.2.1,x.2.2.1)
noncomputable instance (ar:List I3) (ws:List I5):Decidable (lg ar ws):=adt _
noncomputable def dC (n:Int) (ar:List I3) (rk:List Int) (ws:List I5) (g:List Int) (far:List (List Int)) (outs ins:List (List I2)) (so si:List (List Int)):Int:=
  if ee n ar≠0 then ee n ar else if ec rk ws≠0 then ec rk ws else if dH n g far outs ins so si≠0 then dH n g far outs ins so si else if(rk.length:Int)=n∧lg ar ws then 0 else 2
theorem jM {n:Int} {P:Int→Prop} {l:List Int} {i:Nat} {x:Int} (h:js n P (l.take i)) (hx:l[i]?=some x) (h1:0≤x∧x<n) (h2:P x) (h3:∀y,0<i→l[i-1]?=some y→y<x):js n P (l.take (i+1)):=by
  refine⟨fun y hy=>?_,fun j a b ha hb=>?_⟩
  · rw [dM hx, adl, ade] at hy
    rcases hy with hy|rfl
    · exact h.1 y hy
    · exact⟨h1,h2⟩
  · rw [ad8] at ha hb
    split at ha
    · split at hb
      · by_cases hj : j + 1 < i
        · exact h.2 j a b (by rw[ad8,if_pos (by omega)];exact ha) (by rw[ad8,if_pos hj];exact hb)
        · have e : j + 1 = i := by omega
          subst e
          rw[hx]at hb;cases hb
          exact h3 a (by omega) (by simpa using ha)
      · cases hb
    · cases ha
theorem KK (n:Int) (P:Int→Prop):js n P []:=⟨fun x h=>absurd h (acV),fun i x y h=>by cases h⟩
theorem dq {g:List Int} {x:Int}:0≤kV (fun y=>y=x) g↔x∈g:=by
  rcases fw (fun y=>y=x) g with⟨h1,h2⟩|⟨i,y,h1,h2,h3,_⟩
  · rw[h1];exact⟨fun h=>by omega,fun h=>absurd rfl (h2 x h)⟩
  · rw[h1];exact⟨fun _=>h3▸acy h2,fun _=>by omega⟩
end Go.Gr
namespace Go.Gr
open Go.Rl Go.dn Go.jJ
abbrev RS:=St×Bool
def en (m:Int) (s:RS):RS×List Int:=(((de s.1 m).1,s.2),(de s.1 m).2)
def rH (m:Int) (l:List Int):Option Nat:=match l with
  |[x]=>if x<0∨m<x then none else some x.toNat
  |_=>none
def fD (m:Int) (s:RS):RS×Nat:=match rH m (en m s).2 with
  |some n=>((en m s).1,n)
  |none=>(((en m s).1.1,true),0)
def F2 {α:Type} (f:List Int→α) (a:List Int) (rest:List (List Int)):List α:=(adz a.length).map fun i=>f ((a::rest).map fun r=>(r[i]?).getD 0)
def uS {α:Type} (f:List Int→α) (a:List Int) (rest:List (List Int)) (bad:Bool):List α×Bool:=if a=[]then([],bad)else if ∀r∈rest,r.length=a.length then(F2 f a rest,bad)else([],true)
def j4 (m : Int) : Nat → RS → RS × List (List Int)
  |0,s=>(s,[])
  |n+1,s=>((j4 m n (en m s).1).1,(en m s).2::(j4 m n (en m s).1).2)
def cS {α:Type} (f:List Int→α) (m:Int) (n:Nat) (s:RS):RS×List α:=
  let q:=j4 m (n+1) s
  let c:=uS f (q.2.headD []) q.2.tail q.1.2
  ((q.1.1,c.2),c.1)
def oQ {β : Type} (one : RS → RS × β) : Nat → RS → RS × List β
  |0,s=>(s,[])
  |n+1,s=>if s.1.2≠0 then(s,[])else((oQ one n (one s).1).1,(one s).2::(oQ one n (one s).1).2)
def dV {β:Type} (m:Int) (one:RS→RS×β) (s:RS):RS×List β:=oQ one (fD m s).2 (fD m s).1
def pr (l:List Int):I3:=((l[0]?).getD 0,(l[1]?).getD 0,(l[2]?).getD 0)
def mc (l:List Int):I5:=((l[0]?).getD 0,(l[1]?).getD 0,(l[2]?).getD 0,(l[3]?).getD 0,(l[4]?).getD 0)
def j0 (l:List Int):I2:=((l[0]?).getD 0,(l[1]?).getD 0)
def mW (m:Int) (s:RS):RS×(Int×List I3):=match (en m s).2 with
  |[n]=>((cS pr m 2 (en m s).1).1,(n,(cS pr m 2 (en m s).1).2))
  |_=>(((en m s).1.1,true),(0,[]))
def j1 (m:Int) (s:RS):RS×(List Int×List I5):=((cS mc m 4 (en m s).1).1,((en m s).2,(cS mc m 4 (en m s).1).2))
abbrev Tr:=List Int×List (List Int)×List (List I2)×List (List I2)×List (List Int)×List (List Int)
def iL (m:Int) (s:RS):RS×Tr:=
  let g:=en m s
  let far:=dV m (en m) g.1
  let outs:=dV m (cS j0 m 1) far.1
  let ins:=dV m (cS j0 m 1) outs.1
  let so:=dV m (en m) ins.1
  let si:=dV m (en m) so.1
  (si.1,(g.2,far.2,outs.2,ins.2,so.2,si.2))
def Km (b:List UInt8):RS:=((b,0),false)
def Jb (s:RS):Prop:=s.2=false∧oa s.1=0
instance (s:RS):Decidable (Jb s):=inferInstanceAs (Decidable (_∧_))
theorem qj (m:Int):∀(i:Nat) (s:RS),j4 m (i+1) s=((en m (j4 m i s).1).1,(j4 m i s).2++[(en m (j4 m i s).1).2]):=by
  intro i
  induction i with
  |zero=>intro s;rfl
  |succ i ih=>
    intro s
    show((j4 m (i+1) (en m s).1).1,(en m s).2::(j4 m (i+1) (en m s).1).2)=_
    rw[ih (en m s).1]
    rfl
theorem sZ (m:Int):∀(i:Nat) (s:RS),(j4 m i s).2.length=i:=by
  intro i
  induction i with
  |zero=>intro s;rfl
  |succ i ih=>intro s;simp only[j4,acF,ih]
theorem oS {α:Type} {f:List Int→α} {m:Int} {n:Nat} {s:St} {bd:Bool} {st:St} {ls:List (List Int)} {a:List Int} (h:j4 m (n+1) (s,bd)=((st,bd),ls)) (ha:ls[0]?=some a) (E4:0<a.length→∀r∈ls,r.length=a.length):
    cS f m n (s,bd)=((st,bd),(adz a.length).map fun q=>f (ls.map fun r=>(r[q]?).getD 0)):=by
  cases ls with
  |nil=>cases ha
  |cons b rest=>
    cases ha
    unfold cS
    rw[h]
    simp only[ahl,ahK]
    unfold uS
    by_cases e:a=[]
    · subst e;rfl
    · rw [if_neg e, if_pos (fun r hr => E4 (agw.2 e) r (adv _ hr))]
      rfl
theorem qO {α:Type} {f:List Int→α} {m:Int} {n:Nat} {s:St} {bd:Bool} {st:St} {ls:List (List Int)} {a r:List Int} {p:Nat} (h:j4 m (n+1) (s,bd)=((st,bd),ls)) (ha:ls[0]?=some a) (h0:0<a.length) (hr:ls[p]?=some r) (dY:¬r.length=a.length):
    cS f m n (s,bd)=((st,true),[]):=by
  cases ls with
  |nil=>cases ha
  |cons b rest=>
    cases ha
    cases p with
    |zero=>cases hr;exact absurd rfl dY
    |succ p=>
      unfold cS
      rw[h]
      simp only[ahl,ahK]
      unfold uS
      rw[if_neg (agw.1 h0),if_neg (fun fY=>dY (fY r (acy (by simpa using hr))))]
theorem Jc {β:Type} {one:RS→RS×β} {n:Nat} {s:RS} (h:s.1.2≠0):oQ one n s=(s,[]):=by
  cases n with
  |zero=>rfl
  |succ n=>simp only[oQ];rw[if_pos h]
theorem F1 {α:Type} (f:List Int→α) (a:List Int) (rest:List (List Int)):(F2 f a rest).length=a.length:=by unfold F2;simp
theorem zC (s:St) (most:Int) (size:Nat):(lZ s most size).1.1.length≤s.1.length:=by
  have h1:=(gH s 4).1
  unfold lZ
  split
  · exact h1
  · split
    · exact adO _
    · exact acR (gH _ _).1 h1
theorem eT (s:St) (most:Int):(de s most).1.1.length≤s.1.length:=zC s most 8
theorem GO (s:St) (most:Int) (size:Nat):(lZ s most size).2.length≤s.1.length:=by
  unfold lZ
  split
  · exact adO _
  · split
    · exact adO _
    · exact acR (gH _ _).2 (gH s 4).1
theorem EP:∀(n:Nat) (l:List UInt8),(jN n l).length=n:=by
  intro n
  induction n with
  |zero=>intro l;rfl
  |succ n ih=>intro l;simp only[jN,acF,ih]
theorem lL (s:St) (most:Int):(de s most).2.length≤s.1.length:=by
  have h:=GO s most 8
  show(jN _ _).length≤_
  rw[EP]
  omega
theorem lA {l:List Int} (y:List UInt8) {m:Int} (bd:Bool) (hl:kG l) (hm:(l.length:Int)≤m):en m ((bE l++y,0),bd)=(((y,0),bd),l):=by
  unfold en
  simp only[qu l y m hl.2 hm hl.1]
theorem EH (n:Nat) (y:List UInt8) {m:Int} (bd:Bool) (hn:n<4294967296) (h1:1≤m) (hm:(n:Int)≤m):fD m ((bE [(n:Int)]++y,0),bd)=(((y,0),bd),n):=by
  unfold fD
  rw[lA y bd (pP hn) (by simpa using h1)]
  unfold rH
  simp only
  rw[if_neg (by omega)]
  simp
theorem GK {m:Int}:∀(ls:List (List Int)) (y:List UInt8) (bd:Bool),(∀r∈ls,kG r∧(r.length:Int)≤m)→j4 m ls.length (((ls.map bE).flatten++y,0),bd)=(((y,0),bd),ls):=by
  intro ls
  induction ls with
  |nil=>intro y bd _;rfl
  |cons l r ih=>
    intro y bd h
    obtain⟨h1,h2⟩:=h l (adH ..)
    simp only[adb,ac6,acF,j4,adk]
    rw[lA _ bd h1 h2]
    simp only[ih y bd fun x hx=>h x (adv _ hx)]
theorem Lw {β:Type} {one:RS→RS×β} {bs:β→List UInt8}:∀(ls:List β) (y:List UInt8) (bd:Bool),(∀x∈ls,∀y,one ((bs x++y,0),bd)=(((y,0),bd),x))→oQ one ls.length (((ls.map bs).flatten++y,0),bd)=(((y,0),bd),ls):=by
  intro ls
  induction ls with
  |nil=>intro y bd _;rfl
  |cons l r ih=>
    intro y bd h
    simp only[adb,ac6,acF,oQ,adk]
    rw[if_neg (by simp),h l (adH ..)]
    simp only[ih y bd fun x hx=>h x (adv _ hx)]
theorem wH {β:Type} {one:RS→RS×β} {bs:β→List UInt8} (ls:List β) (y:List UInt8) {m:Int} (bd:Bool) (Yr:ls.length<4294967296) (h1:1≤m) (hm:(ls.length:Int)≤m) (h:∀x∈ls,∀y,one ((bs x++y,0),bd)=(((y,0),bd),x)):
    dV m one ((bE [(ls.length:Int)]++((ls.map bs).flatten++y),0),bd)=(((y,0),bd),ls):=by
  unfold dV
  rw[EH ls.length _ bd Yr h1 hm]
  exact Lw ls y bd h
theorem DS {α:Type} {f:List Int→α} {l:List α} {c:α→Int} {cs:List (α→Int)} (h:∀x∈l,f ((c::cs).map fun g=>g x)=x):F2 f (l.map c) (cs.map fun g=>l.map g)=l:=by
  unfold F2
  refine aeT (by simp) fun i hi hj=>?_
  simp only[ag1,afM]
  have hx:=h l[i] (agZ hj)
  rw[←hx]
  congr 1
  simp only[adb,aem]
  congr 1
  · rw[adE,acE hj];simp[hx]
  · apply afh
    intro g _
    simp only[ajq]
    rw[adE,acE hj];simp[hx]
theorem CR {α:Type} {f:List Int→α} {l:List α} {c:α→Int} {cs:List (α→Int)} (bd:Bool) (h:∀x∈l,f ((c::cs).map fun g=>g x)=x):uS f (l.map c) (cs.map fun g=>l.map g) bd=(l,bd):=by
  unfold uS
  by_cases e:l=[]
  · subst e;simp
  · rw[if_neg (by simpa using e),if_pos (by intro r hr;obtain⟨g,_,rfl⟩:=adf.1 hr;simp),DS h]
theorem qN {α:Type} {f:List Int→α} {l:List α} {c:α→Int} {cs:List (α→Int)} (y:List UInt8) {m:Int} (bd:Bool) (h:∀x∈l,f ((c::cs).map fun g=>g x)=x) (hf:∀g∈c::cs,kG (l.map g)) (hm:(l.length:Int)≤m):
    cS f m cs.length (((((c::cs).map fun g=>bE (l.map g)).flatten)++y,0),bd)=(((y,0),bd),l):=by
  have h1:=GK (m:=m) ((c::cs).map fun g=>l.map g) y bd fun r hr=>by
    obtain⟨g,hg,rfl⟩:=adf.1 hr
    exact⟨hf g hg,by rw[ac4];exact hm⟩
  rw[aem,ac4]at h1
  have e:((c::cs).map ((bE)∘fun g=>l.map g))=(c::cs).map fun g=>bE (l.map g):=rfl
  rw[e,acF]at h1
  unfold cS
  rw[h1]
  simp only[adb,ahl,ahK,CR bd h]
theorem Lz {x:Int} (h:Fit x):kG [x]:=⟨ac8 (ac3 1) (by omega),fun y hy=>by rw[ade]at hy;subst hy;exact h⟩
theorem Hg {n:Int} {ar:List I3} (y:List UInt8) {m:Int} (bd:Bool) (hn:Fit n) (ha:DR ar) (h1:1≤m) (hm:(ar.length:Int)≤m):mW m (((j6 n ar).flatten++y,0),bd)=(((y,0),bd),(n,ar)):=by
  have hc:cS pr m 2 ((([bE (ar.map fun a=>a.1),bE (ar.map fun a=>a.2.1),bE (ar.map fun a=>a.2.2)].flatten++y,0),bd))=(((y,0),bd),ar):=
    qN (f:=pr) (c:=fun a:I3=>a.1) (cs:=[fun a=>a.2.1,fun a=>a.2.2]) y bd (fun x _=>rfl) (fun g hg=>by
      simp only[ac1,acV,or_false]at hg
      rcases hg with rfl|rfl|rfl
      · exact ek ha.1 fun x hx=>(ha.2 x hx).1
      · exact ek ha.1 fun x hx=>(ha.2 x hx).2.1
      · exact ek ha.1 fun x hx=>(ha.2 x hx).2.2) hm
  unfold j6
  rw[ac6,adk]
  unfold mW
  rw[lA _ bd (Lz hn) (by simpa using h1)]
  simp only[hc]
theorem E3 {rk:List Int} {ws:List I5} (y:List UInt8) {m:Int} (bd:Bool) (hk:kG rk) (hw:DQ ws) (h1:(rk.length:Int)≤m) (hm:(ws.length:Int)≤m):j1 m (((ig rk ws).flatten++y,0),bd)=(((y,0),bd),(rk,ws)):=by
  have hc:cS mc m 4 ((([bE (ws.map fun a=>a.1),bE (ws.map fun a=>a.2.1),bE (ws.map fun a=>a.2.2.1),bE (ws.map fun a=>a.2.2.2.1),bE (ws.map fun a=>a.2.2.2.2)].flatten++y,0),bd))=(((y,0),bd),ws):=
    qN (f:=mc) (c:=fun a:I5=>a.1) (cs:=[fun a=>a.2.1,fun a=>a.2.2.1,fun a=>a.2.2.2.1,fun a=>a.2.2.2.2]) y bd (fun x _=>rfl) (fun g hg=>by
      simp only[ac1,acV,or_false]at hg
      rcases hg with rfl|rfl|rfl|rfl|rfl
      · exact ek hw.1 fun x hx=>(hw.2 x hx).1
      · exact ek hw.1 fun x hx=>(hw.2 x hx).2.1
      · exact ek hw.1 fun x hx=>(hw.2 x hx).2.2.1
      · exact ek hw.1 fun x hx=>(hw.2 x hx).2.2.2.1
      · exact ek hw.1 fun x hx=>(hw.2 x hx).2.2.2.2) hm
  unfold ig
  rw[ac6,adk]
  unfold j1
  rw[lA _ bd hk h1]
  simp only[hc]
theorem qk {ls:List (List Int)} (y:List UInt8) {m:Int} (bd:Bool) (hl:oZ ls) (h1:1≤m) (hm:(ls.length:Int)≤m) (hr:∀r∈ls,(r.length:Int)≤m):dV m (en m) (((dW ls).flatten++y,0),bd)=(((y,0),bd),ls):=by
  unfold dW
  rw[ac6,adk]
  exact wH (bs:=bE) ls y bd hl.1 h1 hm fun x hx y=>lA y bd (hl.2 x hx) (hr x hx)
theorem Ej {r:List I2} (y:List UInt8) {m:Int} (bd:Bool) (hr:oy r) (hm:(r.length:Int)≤m):cS j0 m 1 (((eN r).flatten++y,0),bd)=(((y,0),bd),r):=
  qN (f:=j0) (c:=fun a:I2=>a.1) (cs:=[fun a=>a.2]) y bd (fun x _=>rfl) (fun g hg=>by
    simp only[ac1,acV,or_false]at hg
    rcases hg with rfl|rfl
    · exact hr.one
    · exact hr.two) hm
theorem tr {ls:List (List I2)} (y:List UInt8) {m:Int} (bd:Bool) (hl:nP ls) (h1:1≤m) (hm:(ls.length:Int)≤m) (hr:∀r∈ls,(r.length:Int)≤m):dV m (cS j0 m 1) (((eC ls).flatten++y,0),bd)=(((y,0),bd),ls):=by
  have e:(ls.flatMap eN).flatten=(ls.map fun r=>(eN r).flatten).flatten:=by
    rw[afE,ae5,aem];rfl
  unfold eC
  rw[ac6,adk,e]
  exact wH (bs:=fun r=>(eN r).flatten) ls y bd hl.1 h1 hm fun x hx y=>Ej y bd (hl.2 x hx) (hr x hx)
theorem D6 {g : List Int} {far so si : List (List Int)} {o i : List (List I2)} (y : List UInt8) {m : Int} (bd : Bool) (h1 : 1 ≤ m) (hg : kG g) (hf : oZ far) (ho : nP o) (hi : nP i) (hs : oZ so) (ht : oZ si)
    (mg:(g.length:Int)≤m) (mf:(far.length:Int)≤m∧∀r∈far,(r.length:Int)≤m) (mo:(o.length:Int)≤m∧∀r∈o,(r.length:Int)≤m) (mi:(i.length:Int)≤m∧∀r∈i,(r.length:Int)≤m) (ms:(so.length:Int)≤m∧∀r∈so,(r.length:Int)≤m) (mt:(si.length:Int)≤m∧∀r∈si,(r.length:Int)≤m):
    iL m (((fB g far o i so si).flatten++y,0),bd)=(((y,0),bd),(g,far,o,i,so,si)):=by
  unfold fB
  simp only[ac6,aeq,adk]
  unfold iL
  simp only[lA _ bd hg mg,qk _ bd hf h1 mf.1 mf.2,tr _ bd ho h1 mo.1 mo.2,tr _ bd hi h1 mi.1 mi.2,qk _ bd hs h1 ms.1 ms.2,qk _ bd ht h1 mt.1 mt.2]
end Go.Gr
namespace Go.Gr
open Go.Rl Go.dn Go.jJ
structure nf where
  n:Int
  ar:List I3
  rk:List Int
  ws:List I5
  g:List Int
  far:List (List Int)
  outs:List (List I2)
  ins:List (List I2)
  so:List (List Int)
  si:List (List Int)
def dR (x:nf):List (List UInt8):=dA x.n x.ar x.rk x.ws x.g x.far x.outs x.ins x.so x.si
noncomputable def mP (x:nf):Int:=dC x.n x.ar x.rk x.ws x.g x.far x.outs x.ins x.so x.si
def CK (x:nf):Prop:=PT x.n x.ar x.rk x.ws x.g x.far x.outs x.ins x.so x.si
def pq (p1 p2 p3:List UInt8):Option nf:=
  let m:=mW (p1.length:Int) (Km p1)
  let h:=j1 (p2.length:Int) (Km p2)
  let t:=iL (p3.length:Int) (Km p3)
  if Jb m.1∧Jb h.1∧Jb t.1 then some ⟨m.2.1,m.2.2,h.2.1,h.2.2,t.2.1,t.2.2.1,t.2.2.2.1,t.2.2.2.2.1,t.2.2.2.2.2.1,t.2.2.2.2.2.2⟩else none
noncomputable def mB (b:List UInt8):Option nf:=match dd b with
  |[_,p1,p2,p3]=>(pq p1 p2 p3).bind fun x=>if mP x=0∧cP (dR x)=b then some x else none
  |_=>none
theorem xx {b:List UInt8} {x:nf} (h:mB b=some x):mP x=0∧cP (dR x)=b:=by
  unfold mB at h
  split at h
  · rw [Option.bind_eq_some_iff] at h
    obtain⟨y,_,hy⟩:=h
    split at hy
    · rename_i hc
      cases hy
      exact hc
    · cases hy
  · cases h
theorem sG {β:Type} (f:β→List UInt8):∀(l:List β) (x:β),x∈l→(f x).length≤((l.map f).flatten).length:=by
  intro l
  induction l with
  |nil=>intro x h;cases h
  |cons a r ih=>
    intro x h
    simp only[adb,ac6,acw]
    rcases ac1.1 h with rfl|h
    · omega
    · have:=ih x h;omega
theorem AP {β:Type} (f:β→List UInt8):∀(l:List β),(∀x∈l,1≤(f x).length)→l.length≤((l.map f).flatten).length:=by
  intro l
  induction l with
  |nil=>intro _;exact ac3 _
  |cons a r ih=>
    intro h
    have h1:=h a (adH ..)
    have h2:=ih fun x hx=>h x (adv _ hx)
    simp only[adb,ac6,acw,acF];omega
theorem tq (ls:List (List Int)):ls.length≤(dW ls).flatten.length∧∀r∈ls,r.length≤(dW ls).flatten.length:=by
  unfold dW
  have h1:=AP bE ls fun x _=>by rw[ck];omega
  simp only[ac6,acw]
  refine⟨by omega,fun r hr=>?_⟩
  have h2:=sG bE ls r hr
  rw[ck]at h2;omega
theorem wJ (ls:List (List I2)):ls.length≤(eC ls).flatten.length∧∀r∈ls,r.length≤(eC ls).flatten.length:=by
  have e:(ls.flatMap eN).flatten=(ls.map fun r=>(eN r).flatten).flatten:=by
    rw[afE,ae5,aem];rfl
  unfold eC
  have hl:∀r:List I2,(eN r).flatten.length=8+16*r.length:=fun r=>by simp only[eN,ac6,aew,acw,acN,ck,ac4];omega
  have h1:=AP (fun r=>(eN r).flatten) ls fun x _=>by rw[hl];omega
  simp only[ac6,acw,e]
  refine⟨by omega,fun r hr=>?_⟩
  have h2:=sG (fun r=>(eN r).flatten) ls r hr
  simp only[hl]at h2;omega
theorem uL (bd:Bool) (h:bd=false):Jb ((([]:List UInt8),0),bd):=⟨h,show oa ([],0)=0 by decide⟩
theorem Em {x:nf} (hx:CK x):pq (j6 x.n x.ar).flatten (ig x.rk x.ws).flatten (fB x.g x.far x.outs x.ins x.so x.si).flatten=some x:=by
  have m1:mW ((j6 x.n x.ar).flatten.length:Int) (Km (j6 x.n x.ar).flatten)=((([],0),false),(x.n,x.ar)):=by
    have:=Hg (n:=x.n) (ar:=x.ar) [] (m:=((j6 x.n x.ar).flatten.length:Int)) false hx.n hx.ar (by rw[pB];omega) (by rw[pB];omega)
    rwa [adj]at this
  have m2:j1 ((ig x.rk x.ws).flatten.length:Int) (Km (ig x.rk x.ws).flatten)=((([],0),false),(x.rk,x.ws)):=by
    have:=E3 (rk:=x.rk) (ws:=x.ws) [] (m:=((ig x.rk x.ws).flatten.length:Int)) false hx.rk hx.ws (by rw[nZ];omega) (by rw[nZ];omega)
    rwa [adj]at this
  have hL:(fB x.g x.far x.outs x.ins x.so x.si).flatten.length=4+8*x.g.length+((dW x.far).flatten.length+((eC x.outs).flatten.length+((eC x.ins).flatten.length+((dW x.so).flatten.length+(dW x.si).flatten.length)))):=by
    unfold fB
    simp only[ac6,aeq,acw,ck]
  have a1:=tq x.far
  have a2:=wJ x.outs
  have a3:=wJ x.ins
  have a4:=tq x.so
  have a5:=tq x.si
  have m3:iL ((fB x.g x.far x.outs x.ins x.so x.si).flatten.length:Int) (Km (fB x.g x.far x.outs x.ins x.so x.si).flatten)=((([],0),false),(x.g,x.far,x.outs,x.ins,x.so,x.si)):=by
    have := D6 (g := x.g) (far := x.far) (so := x.so) (si := x.si) (o := x.outs) (i := x.ins) [] (m := ((fB x.g x.far x.outs x.ins x.so x.si).flatten.length : Int)) false (by rw [hL]; omega) hx.g hx.far hx.outs hx.ins hx.so hx.si (by rw [hL]; omega)
      ⟨by rw[hL];omega,fun r hr=>by rw[hL];have:=a1.2 r hr;omega⟩ ⟨by rw[hL];omega,fun r hr=>by rw[hL];have:=a2.2 r hr;omega⟩ ⟨by rw[hL];omega,fun r hr=>by rw[hL];have:=a3.2 r hr;omega⟩ ⟨by rw[hL];omega,fun r hr=>by rw[hL];have:=a4.2 r hr;omega⟩ ⟨by rw[hL];omega,fun r hr=>by rw[hL];have:=a5.2 r hr;omega⟩
    rwa [adj]at this
  unfold pq
  simp only[m1,m2,m3]
  rw[if_pos ⟨uL _ rfl,uL _ rfl,uL _ rfl⟩]
theorem A7 {x:nf} (hx:CK x) (hm:dX (dR x)<4294967296) (hc:mP x=0):mB (cP (dR x))=some x:=by
  have e1:=gP (dR x) (by rw[dZ];exact hm)
  unfold mB
  rw[e1]
  show(pq (j6 x.n x.ar).flatten (ig x.rk x.ws).flatten (fB x.g x.far x.outs x.ins x.so x.si).flatten).bind _=_
  rw[Em hx]
  rw[aiY,if_pos ⟨hc,rfl⟩]
end Go.Gr
namespace Go.Gr
open Go.Rl Go.dn Go.jJ
theorem KH {m:Int} {l:List Int} {n:Nat} (h:rH m l=some n):(n:Int)≤m:=by
  unfold rH at h
  split at h
  · split at h
    · cases h
    · cases h;omega
  · cases h
theorem tP {m:Int} {s:RS} {s1:RS} {n:Nat} (h0:0≤m) (h:fD m s=(s1,n)):(n:Int)≤m:=by
  unfold fD at h
  split at h
  · rename_i k hk
    cases h;exact KH hk
  · cases h;exact h0
theorem qs {m:Int} {s:RS} {s1:RS} {n:Nat} (h:fD m s=(s1,n)):s1.1.1.length≤s.1.1.length:=by
  unfold fD at h
  have h1:(en m s).1.1.1.length≤s.1.1.length:=eT s.1 m
  split at h<;>cases h<;>exact h1
theorem GJ (m:Int):∀(i:Nat) (s:RS),(j4 m i s).1.1.1.length≤s.1.1.length∧∀r∈(j4 m i s).2,r.length≤s.1.1.length:=by
  intro i
  induction i with
  |zero=>intro s;exact⟨ac3 _,fun r hr=>by cases hr⟩
  |succ i ih=>
    intro s
    have h1:(en m s).1.1.1.length≤s.1.1.length:=eT s.1 m
    have h2:(en m s).2.length≤s.1.1.length:=lL s.1 m
    have h3:=ih (en m s).1
    refine⟨acR h3.1 h1,fun r hr=>?_⟩
    rcases ac1.1 hr with rfl|hr
    · exact h2
    · exact acR (h3.2 r hr) h1
theorem Fs {α:Type} (f:List Int→α) (a:List Int) (rest:List (List Int)) (b:Bool):(uS f a rest b).1.length≤a.length:=by
  unfold uS
  split
  · exact adO _
  · split
    · rw[F1];exact ac3 _
    · exact adO _
theorem gJ {α:Type} {f:List Int→α} {m:Int} {n:Nat} {s s1:RS} {l:List α} (h:cS f m n s=(s1,l)):s1.1.1.length≤s.1.1.length∧l.length≤s.1.1.length:=by
  have h1:=GJ m (n+1) s
  have h2:=Fs f ((j4 m (n+1) s).2.headD []) (j4 m (n+1) s).2.tail (j4 m (n+1) s).1.2
  unfold cS at h
  cases h
  refine⟨h1.1,acR h2 ?_⟩
  cases hq:(j4 m (n+1) s).2 with
  |nil=>exact adO _
  |cons a r=>exact h1.2 a (by rw[hq];exact adH ..)
theorem Jd {β:Type} {one:RS→RS×β} {N j:Nat} {s0 cur:RS} {ls:List β} {nx:RS} {x:β} (h:oQ one N s0=((oQ one j cur).1,ls++(oQ one j cur).2)) (hj:0<j) (hc:cur.1.2=0) (hx:one cur=(nx,x)):
    oQ one N s0=((oQ one (j-1) nx).1,(ls++[x])++(oQ one (j-1) nx).2):=by
  obtain⟨i,rfl⟩:∃i,j=i+1:=⟨j-1,by omega⟩
  rw[h]
  simp only[oQ,Nat.add_sub_cancel]
  rw[if_neg (by rw[hc];decide),hx]
  simp
theorem sF {β:Type} {one:RS→RS×β} {N j:Nat} {s0 cur:RS} {ls:List β} (h:oQ one N s0=((oQ one j cur).1,ls++(oQ one j cur).2)) (hs:j=0∨cur.1.2≠0):oQ one N s0=(cur,ls):=by
  rw[h]
  rcases hs with rfl|hs
  · simp[oQ]
  · rw[Jc hs];simp
theorem pn {β:Type} {m:Int} {one:RS→RS×β} {s s1 fin:RS} {n:Nat} {ls:List β} (hM:fD m s=(s1,n)) (h:oQ one n s1=(fin,ls)):dV m one s=(fin,ls):=by
  unfold dV
  rw[hM]
  exact h
theorem Lv {β:Type} {one:RS→RS×β} (h1:∀s,(one s).1.1.1.length≤s.1.1.length):∀(n:Nat) (s:RS),(oQ one n s).1.1.1.length≤s.1.1.length∧(oQ one n s).2.length≤n:=by
  intro n
  induction n with
  |zero=>intro s;exact⟨ac3 _,ac3 _⟩
  |succ n ih=>
    intro s
    simp only[oQ]
    split
    · exact⟨ac3 _,adO _⟩
    · have := ih (one s).1
      exact⟨acR this.1 (h1 s),by simp only[acF];omega⟩
theorem Lx {β:Type} {one:RS→RS×β} {p:β→Nat} {B:Nat} (h1:∀s,(one s).1.1.1.length≤s.1.1.length) (h2:∀s,p (one s).2≤s.1.1.length):∀(n:Nat) (s:RS),s.1.1.length≤B→∀r∈(oQ one n s).2,p r≤B:=by
  intro n
  induction n with
  |zero=>intro s _ r hr;cases hr
  |succ n ih=>
    intro s hs r hr
    simp only[oQ]at hr
    split at hr
    · cases hr
    · rcases ac1.1 hr with rfl | hr
      · exact acR (h2 s) hs
      · exact ih (one s).1 (acR (h1 s) hs) r hr
theorem gU (m:Int) (s:RS):(en m s).1.1.1.length≤s.1.1.length:=eT s.1 m
theorem iR (m:Int) (s:RS):(en m s).2.length≤s.1.1.length:=lL s.1 m
theorem mE {α:Type} (f:List Int→α) (m:Int) (n:Nat) (s:RS):(cS f m n s).1.1.1.length≤s.1.1.length:=(gJ (s1:=(cS f m n s).1) (l:=(cS f m n s).2) rfl).1
theorem jC {α:Type} (f:List Int→α) (m:Int) (n:Nat) (s:RS):(cS f m n s).2.length≤s.1.1.length:=(gJ (s1:=(cS f m n s).1) (l:=(cS f m n s).2) rfl).2
theorem gI {β:Type} {m:Int} {one:RS→RS×β} {p:β→Nat} (h0:0≤m) (h1:∀s,(one s).1.1.1.length≤s.1.1.length) (h2:∀s,p (one s).2≤s.1.1.length) (s:RS):(dV m one s).1.1.1.length≤s.1.1.length∧(((dV m one s).2.length:Int)≤m∧∀r∈(dV m one s).2,p r≤s.1.1.length):=by
  have a:=tP (s:=s) (s1:=(fD m s).1) (n:=(fD m s).2) h0 rfl
  have b:=qs (m:=m) (s:=s) (s1:=(fD m s).1) (n:=(fD m s).2) rfl
  have c:=Lv h1 (fD m s).2 (fD m s).1
  refine⟨acR c.1 b,?_,Lx h1 h2 _ _ b⟩
  have d:(dV m one s).2.length≤(fD m s).2:=c.2
  omega
theorem KP {m:Int} {s:St} {bd:Bool} {x:Int} {s1:St} {b1:Bool} {l1:List I3} (hl:(de s m).2.length=1) (hx:(de s m).2[0]?=some x) (hM:cS pr m 2 ((de s m).1,bd)=((s1,b1),l1)):mW m (s,bd)=((s1,b1),(x,l1)):=by
  have h:(en m (s,bd)).2=[x]:=by
    show(de s m).2=[x]
    match h:(de s m).2,hl,hx with
    |[y],_,hx=>cases hx;rfl
  have h2:(en m (s,bd)).1=((de s m).1,bd):=rfl
  unfold mW
  rw[h,h2,hM]
theorem Hh {m:Int} {s:St} {bd:Bool} (hl:¬(de s m).2.length=1):mW m (s,bd)=(((de s m).1,true),(0,[])):=by
  unfold mW
  split
  · rename_i h
    exact absurd (congrArg adg (show(de s m).2=_ from h)) hl
  · rfl
theorem HY {m:Int} {s:St} {bd:Bool} {s1:St} {b1:Bool} {l1:List I5} (hM:cS mc m 4 ((de s m).1,bd)=((s1,b1),l1)):j1 m (s,bd)=((s1,b1),((de s m).2,l1)):=by
  have h2:(en m (s,bd)).1=((de s m).1,bd):=rfl
  unfold j1
  rw[h2,hM];rfl
theorem Gn {m:Int} {s:St} {bd:Bool} {s1 s2 s3 s4 s5:RS} {far so si:List (List Int)} {outs ins:List (List I2)} (h1:dV m (en m) ((de s m).1,bd)=(s1,far)) (h2:dV m (cS j0 m 1) s1=(s2,outs)) (h3:dV m (cS j0 m 1) s2=(s3,ins)) (h4:dV m (en m) s3=(s4,so)) (h5:dV m (en m) s4=(s5,si)):
    iL m (s,bd)=(s5,((de s m).2,far,outs,ins,so,si)):=by
  have h0:(en m (s,bd)).1=((de s m).1,bd):=rfl
  unfold iL
  simp only[h0,h1,h2,h3,h4,h5]
  rfl
end Go.Gr
namespace Go.Gr
open Go.Rl Go.dn Go.jJ
theorem zL {most:Int}:∀(k:Nat) (b:List UInt8) (ls:List (List UInt8)),iF most k b=some ls→∀r∈ls,r.length≤b.length:=by
  intro k
  induction k with
  |zero=>
    intro b ls h r hr
    unfold iF at h
    split at h
    · cases h;cases hr
    · cases h
  |succ k ih=>
    intro b ls h r hr
    unfold iF at h
    split at h
    · cases h;cases hr
    · split at h
      · cases h
      · cases hq:iF most k (ep (b,0) most).1.1 with
        |none=>rw[hq]at h;cases h
        |some l2=>
          rw[hq]at h
          cases h
          rcases ac1.1 hr with rfl|hr
          · have := zl (b, 0) most
            rw[ac5];dsimp only at this;omega
          · exact acR (ih _ _ hq r hr) (zC (b,0) most 1)
theorem oG {b r:List UInt8} (h:r∈dd b):r.length≤b.length:=by
  unfold dd at h
  cases hq:parts b with
  |none=>rw[hq]at h;cases h
  |some ls=>rw[hq]at h;exact zL _ _ _ hq r h
theorem KO {m:Int} {s s1:RS} {n:Int} {ar:List I3} (h:mW m s=(s1,(n,ar))):ar.length≤s.1.1.length:=by
  unfold mW at h
  split at h
  · cases h
    exact acR (jC _ _ _ _) (gU m s)
  · cases h;exact adO _
theorem HW {m:Int} {s s1:RS} {rk:List Int} {ws:List I5} (h:j1 m s=(s1,(rk,ws))):rk.length≤s.1.1.length∧ws.length≤s.1.1.length:=by
  unfold j1 at h
  cases h
  exact⟨iR m s,acR (jC _ _ _ _) (gU m s)⟩
theorem Gl {m:Int} {s s1:RS} {g:List Int} {far so si:List (List Int)} {outs ins:List (List I2)} {B:Nat} (h:iL m s=(s1,(g,far,outs,ins,so,si))) (h0:0≤m) (hm:m≤(B:Int)) (hs:s.1.1.length≤B):
    g.length≤B∧(far.length≤B∧∀r∈far,r.length≤B)∧(outs.length≤B∧∀r∈outs,r.length≤B)∧(ins.length≤B∧∀r∈ins,r.length≤B)∧(so.length≤B∧∀r∈so,r.length≤B)∧(si.length≤B∧∀r∈si,r.length≤B):=by
  unfold iL at h
  cases h
  have a0:=gU m s
  have a1:=gI (p:=adg) h0 (gU m) (iR m) (en m s).1
  have a2:=gI (p:=adg) h0 (mE j0 m 1) (jC j0 m 1) (dV m (en m) (en m s).1).1
  have a3:=gI (p:=adg) h0 (mE j0 m 1) (jC j0 m 1) (dV m (cS j0 m 1) (dV m (en m) (en m s).1).1).1
  have a4:=gI (p:=adg) h0 (gU m) (iR m) (dV m (cS j0 m 1) (dV m (cS j0 m 1) (dV m (en m) (en m s).1).1).1).1
  have a5:=gI (p:=adg) h0 (gU m) (iR m) (dV m (en m) (dV m (cS j0 m 1) (dV m (cS j0 m 1) (dV m (en m) (en m s).1).1).1).1).1
  obtain⟨b1,c1,d1⟩:=a1
  obtain⟨b2,c2,d2⟩:=a2
  obtain⟨b3,c3,d3⟩:=a3
  obtain⟨b4,c4,d4⟩:=a4
  obtain⟨b5,c5,d5⟩:=a5
  refine⟨acR (iR m s) hs,⟨by omega,fun r hr=>acR (d1 r hr) (by omega)⟩,⟨by omega,fun r hr=>acR (d2 r hr) (by omega)⟩,⟨by omega,fun r hr=>acR (d3 r hr) (by omega)⟩,⟨by omega,fun r hr=>acR (d4 r hr) (by omega)⟩,⟨by omega,fun r hr=>acR (d5 r hr) (by omega)⟩⟩
theorem El {p1 p2 p3 : List UInt8} {s1 s2 s3 : RS} {n : Int} {ar : List I3} {rk : List Int} {ws : List I5} {g : List Int} {far so si : List (List Int)} {outs ins : List (List I2)} {B : Nat} (hm : mW (p1.length : Int) ((p1, 0), false) = (s1, (n, ar))) (hh : j1 (p2.length : Int) ((p2, 0), false) = (s2, (rk, ws))) (ht : iL (p3.length : Int) ((p3, 0), false) = (s3, (g, far, outs, ins, so, si)))
    (h1:p1.length≤B) (h2:p2.length≤B) (h3:p3.length≤B):yZ B B B ar rk ws g far outs ins so si:=by
  have a:=KO hm
  have b:=HW hh
  have c:=Gl (B:=B) ht (by omega) (by omega) h3
  exact⟨acR a h1,acR b.1 h2,acR b.2 h2,c.1,c.2.1,c.2.2.1,c.2.2.2.1,c.2.2.2.2.1,c.2.2.2.2.2⟩
theorem mb {p1 p2 p3:List UInt8} {s1 s2 s3:St} {b1 b2 b3:Bool} {n:Int} {ar:List I3} {rk:List Int} {ws:List I5} {g:List Int} {far so si:List (List Int)} {outs ins:List (List I2)} (hm:mW (p1.length:Int) ((p1,0),false)=((s1,b1),(n,ar))) (hh:j1 (p2.length:Int) ((p2,0),false)=((s2,b2),(rk,ws))) (ht:iL (p3.length:Int) ((p3,0),false)=((s3,b3),(g,far,outs,ins,so,si))):
    pq p1 p2 p3=if(b1=false∧oa s1=0)∧(b2=false∧oa s2=0)∧(b3=false∧oa s3=0)then some ⟨n,ar,rk,ws,g,far,outs,ins,so,si⟩else none:=by
  have e1:Km p1=((p1,0),false):=rfl
  have e2:Km p2=((p2,0),false):=rfl
  have e3:Km p3=((p3,0),false):=rfl
  unfold pq
  simp only[e1,e2,e3,hm,hh,ht]
  rfl
theorem Fq {b:List UInt8} (h:¬(dd b).length=4):mB b=none:=by
  unfold mB
  split
  · rename_i hq;rw[hq]at h;exact absurd rfl h
  · rfl
theorem A6 {b p1 p2 p3:List UInt8} (h4:(dd b).length=4) (h1:(dd b)[1]?=some p1) (h2:(dd b)[2]?=some p2) (h3:(dd b)[3]?=some p3):mB b=(pq p1 p2 p3).bind fun x=>if mP x=0∧cP (dR x)=b then some x else none:=by
  unfold mB
  split
  · rename_i hq
    rw[hq]at h1 h2 h3
    cases h1;cases h2;cases h3;rfl
  · rename_i hq
    match hp:dd b,h4,h1,h2,h3 with
    |[a,c,d,e],_,_,_,_=>exact absurd hp (hq a c d e)
theorem lP {b p1 p2 p3:List UInt8} (h4:(dd b).length=4) (h1:(dd b)[1]?=some p1) (h2:(dd b)[2]?=some p2) (h3:(dd b)[3]?=some p3) (hr:pq p1 p2 p3=none):mB b=none:=by
  rw[A6 h4 h1 h2 h3,hr];rfl
theorem Ju {b p1 p2 p3:List UInt8} {x:nf} (h4:(dd b).length=4) (h1:(dd b)[1]?=some p1) (h2:(dd b)[2]?=some p2) (h3:(dd b)[3]?=some p3) (hr:pq p1 p2 p3=some x):mB b=if mP x=0∧cP (dR x)=b then some x else none:=by
  rw[A6 h4 h1 h2 h3,hr];rfl
end Go.Gr
namespace Go.Gr
open Go.Rl Go.dn Go.jJ
abbrev RT:=St×Int
def Te (ls:List (List Int)):Prop:=∀r∈ls,r.length=(ls.headD []).length
instance (ls:List (List Int)):Decidable (Te ls):=inferInstanceAs (Decidable (∀r∈ls,r.length=(ls.headD []).length))
def Tc (t:RT):Prop:=t.2=0∧oa t.1=0
instance (t:RT):Decidable (Tc t):=inferInstanceAs (Decidable (_∧_))
end Go.Gr
namespace Go.Gr
open Go.Rl Go.dn Go.jJ
theorem qm (ls:List (List Int)):12+4*ls.length≤(dW ls).flatten.length∧∀r∈ls,12+8*r.length≤(dW ls).flatten.length:=by
  have hc:∀l:List (List Int),4*l.length≤((l.map bE).flatten).length:=by
    intro l
    induction l with
    |nil=>exact ac3 _
    |cons a r ih=>simp only[adb,ac6,acw,acF,ck];omega
  unfold dW
  simp only[ac6,acw,ck,acF,acN]
  have h1:=hc ls
  refine⟨by omega,fun r hr=>?_⟩
  have h2:=sG bE ls r hr
  rw[ck]at h2;omega
theorem tw (ls:List (List I2)):12+8*ls.length≤(eC ls).flatten.length∧∀r∈ls,12+16*r.length≤(eC ls).flatten.length:=by
  have e:(ls.flatMap eN).flatten=(ls.map fun r=>(eN r).flatten).flatten:=by
    rw[afE,ae5,aem];rfl
  have hl:∀r:List I2,(eN r).flatten.length=8+16*r.length:=fun r=>by simp only[eN,ac6,aew,acw,acN,ck,ac4];omega
  have hc:∀l:List (List I2),8*l.length≤((l.map fun r=>(eN r).flatten).flatten).length:=by
    intro l
    induction l with
    |nil=>exact ac3 _
    |cons a r ih=>simp only[adb,ac6,acw,acF,hl];omega
  unfold eC
  simp only[ac6,acw,ck,acF,acN,e]
  have h1:=hc ls
  refine⟨by omega,fun r hr=>?_⟩
  have h2:=sG (fun r=>(eN r).flatten) ls r hr
  simp only[hl]at h2;omega
theorem Dm (x:nf):dX (dR x)=95+24*x.ar.length+8*x.rk.length+40*x.ws.length+8*x.g.length+((dW x.far).flatten.length+((eC x.outs).flatten.length+((eC x.ins).flatten.length+((dW x.so).flatten.length+(dW x.si).flatten.length)))):=by
  have e:dX (dR x)=32+(kR x.n x.ar).length+(j6 x.n x.ar).flatten.length+(ig x.rk x.ws).flatten.length+(fB x.g x.far x.outs x.ins x.so x.si).flatten.length:=by
    simp only[dR,dA,dX,adb,ad6,ad4,ajA];omega
  rw[e,xk,pB,nZ]
  unfold fB
  simp only[ac6,aeq,acw,ck]
  omega
theorem wG {x:nf} {B:Nat} (h:dX (dR x)≤B):yZ B B B x.ar x.rk x.ws x.g x.far x.outs x.ins x.so x.si:=by
  have e:=Dm x
  have a1:=qm x.far
  have a2:=tw x.outs
  have a3:=tw x.ins
  have a4:=qm x.so
  have a5:=qm x.si
  refine⟨by omega,by omega,by omega,by omega,⟨by omega,fun r hr=>?_⟩,⟨by omega,fun r hr=>?_⟩,⟨by omega,fun r hr=>?_⟩,⟨by omega,fun r hr=>?_⟩,⟨by omega,fun r hr=>?_⟩⟩
  · have:=a1.2 r hr;omega
  · have:=a2.2 r hr;omega
  · have:=a3.2 r hr;omega
  · have:=a4.2 r hr;omega
  · have:=a5.2 r hr;omega
theorem PO:∀(n:Nat) (l:List Int),l.length=n→(∀k:Nat,k<n→(k:Int)∈l)→∀x∈l,0≤x∧x<n:=by
  intro n
  induction n with
  |zero=>intro l hl _ x hx;rw[afi.1 hl]at hx;cases hx
  |succ n ih=>
    intro l hl h x hx
    have hm:=h n (by omega)
    have hlen:(l.erase (n:Int)).length=n:=by rw[afd hm];omega
    by_cases e:x=(n:Int)
    · omega
    · have := ih (l.erase (n : Int)) hlen (fun k hk => (agm (by omega)).2 (h k (by omega))) x ((agm e).2 hx)
      omega
theorem ya {n:Int} {P:Int→Prop} {l:List Int} (hn:n≤16777216) (h:js n P l):∀x∈l,Fit x:=fun x hx=>by
  have:=(h.1 x hx).1
  exact⟨by omega,by omega⟩
theorem K5 {x:nf} (h:mP x=0):ee x.n x.ar=0∧x.rk.length≤16777216∧ld x.rk x.ws∧x.n≤16777216∧qQ x.n x.g x.far x.outs x.ins x.so x.si∧(x.rk.length:Int)=x.n∧lg x.ar x.ws:=by
  unfold mP dC at h
  by_cases h1:ee x.n x.ar≠0
  · rw[if_pos h1]at h;exact absurd h h1
  rw[if_neg h1]at h
  by_cases h2:ec x.rk x.ws≠0
  · rw[if_pos h2]at h;exact absurd h h2
  rw[if_neg h2]at h
  by_cases h3:dH x.n x.g x.far x.outs x.ins x.so x.si≠0
  · rw[if_pos h3]at h;exact absurd h h3
  rw[if_neg h3]at h
  have h1:=acU.1 h1
  have h2:=acU.1 h2
  have h3:=acU.1 h3
  have h4:(x.rk.length:Int)=x.n∧lg x.ar x.ws:=by
    by_cases h4:(x.rk.length:Int)=x.n∧lg x.ar x.ws
    · exact h4
    · rw[if_neg h4]at h;cases h
  unfold ec at h2
  unfold dH at h3
  have h5:x.rk.length≤16777216∧ld x.rk x.ws:=by
    by_cases q:16777216<x.rk.length∨67108864<x.ws.length
    · rw[if_pos q]at h2;cases h2
    · rw [if_neg q] at h2
      by_cases q2:ld x.rk x.ws
      · exact⟨by omega,q2⟩
      · rw[if_neg q2]at h2;cases h2
  have h6:x.n≤16777216∧qQ x.n x.g x.far x.outs x.ins x.so x.si:=by
    by_cases q:16777216<x.n
    · rw[if_pos q]at h3;cases h3
    · rw [if_neg q] at h3
      by_cases q2:qQ x.n x.g x.far x.outs x.ins x.so x.si
      · exact⟨by omega,q2⟩
      · rw[if_neg q2]at h3;cases h3
  exact⟨h1,h5.1,h5.2,h6.1,h6.2,h4⟩
theorem DK {x:nf} {B:Nat} (h:mP x=0) (hs:yZ B B B x.ar x.rk x.ws x.g x.far x.outs x.ins x.so x.si) (hB:B<4294967296):CK x:=by
  obtain⟨hm,hr,hH,hn,hT,hrn,hA⟩:=K5 h
  obtain⟨m0,m1,_,ma⟩:=nV hm
  obtain⟨t0,tg,tf,to,ti,ts,tu⟩:=hT
  refine⟨⟨by omega,by omega⟩,⟨ac8 hs.ar hB,fun a ha=>?_⟩,⟨ac8 hs.rk hB,fun a ha=>?_⟩,⟨ac8 hs.ws hB,fun a ha=>?_⟩,⟨ac8 hs.g hB,ya hn tg⟩,⟨ac8 hs.far.1 hB,fun r hr=>⟨ac8 (hs.far.2 r hr) hB,fun a ha=>?_⟩⟩,⟨ac8 hs.outs.1 hB,fun r hr=>⟨ac8 (hs.outs.2 r hr) hB,fun a ha=>?_⟩⟩,⟨ac8 hs.ins.1 hB,fun r hr=>⟨ac8 (hs.ins.2 r hr) hB,fun a ha=>?_⟩⟩,⟨ac8 hs.so.1 hB,fun r hr=>⟨ac8 (hs.so.2 r hr) hB,ya hn (ts.1 r hr)⟩⟩,⟨ac8 hs.si.1 hB,fun r hr=>⟨ac8 (hs.si.2 r hr) hB,ya hn (tu.1 r hr)⟩⟩⟩
  · have := ma a ha
    unfold FQ at this
    exact⟨⟨by omega,by omega⟩,⟨by omega,by omega⟩,⟨by omega,by omega⟩⟩
  · have := PO _ x.rk rfl hH.1 a ha
    exact⟨by omega,by omega⟩
  · obtain ⟨i, hi⟩ := ac9 ha
    obtain⟨hE,hW⟩:=hH.2 i a hi
    unfold y0 at hE
    have hw:Fit a.2.2.2.1∧Fit a.2.2.2.2:=by
      by_cases q:a.2.2.2.1= -1
      · rw [if_pos q] at hW
        exact⟨⟨by omega,by omega⟩,⟨by omega,by omega⟩⟩
      · rw [if_neg q] at hW
        unfold Bh at hW
        exact⟨⟨by omega,by omega⟩,⟨by omega,by omega⟩⟩
    exact⟨⟨by omega,by omega⟩,⟨by omega,by omega⟩,⟨by omega,by omega⟩,hw.1,hw.2⟩
  · obtain ⟨i, hi⟩ := ac9 hr
    have:=(tf.2 i r hi).2.2 a ha
    unfold dp at this
    exact⟨by omega,by omega⟩
  · have h1 := (to.1 r hr).1 a ha
    have h2:=((to.1 r hr).2.1 a.1 (adf.2 ⟨a,ha,rfl⟩)).1
    unfold dp at h1
    exact⟨⟨by omega,by omega⟩,⟨by omega,by omega⟩⟩
  · have h1 := (ti.1 r hr).1 a ha
    have h2:=((ti.1 r hr).2.1 a.1 (adf.2 ⟨a,ha,rfl⟩)).1
    unfold dp at h1
    exact⟨⟨by omega,by omega⟩,⟨by omega,by omega⟩⟩
end Go.Gr
namespace Go.Gr
open Go.Rl Go.dn Go.jJ
end Go.Gr
namespace Go.Rl
section
variable {P:Program} {n:Nat} {Q:fQ} {R:Nat→Value} {w:World} {K:Value→World→Prop} {dst:Option Tmp} {ty:TypeId} {pos:String} {af:Array Edge} {gd:Option (Nat×Bool)}
theorem mu {f:FuncId} {first:Array Operand} {xs:List Operand} {vs:List Value} (hx:first=xs.toArray) (h:xs.map (ev R)=vs):Ev P ⟨dst,.makeFunc (.func f) first #[],ty,pos,af,gd⟩ R w (.func (.func f) vs.toArray #[]):=by
  subst hx h
  simp[Ev,execOp,ajf]
end
section
variable {w:World} {F:Nat→Prop} {α:Type} {enc:α→Value}
end
end Go.Rl
namespace Go.Rl
open Go.ChangeShapes Go.WideShapes
section
variable {H:Type} {enc:TypeId×Value→H} {P:Program} {w:World} {base:Nat} {spare:Nat→Bool} {held:Bool}
end
end Go.Rl
namespace Go.Gr
open Go.Rl Go.ChangeShapes Go.WideShapes
abbrev Q6:Sh:=.cons (.int .i64) (.cons (.sl qi) .nil)
abbrev OK:Sh:=.cons (.sl (.int .i64)) (.cons (.sl vc) .nil)
abbrev BJ:Sh:=.sl (.sl (.int .i64))
abbrev Db:Sh:=.sl (.sl jU)
abbrev QM:Sh:=.cons (.sl (.int .i64)) (.cons BJ (.cons Db (.cons Db (.cons BJ (.cons BJ .nil)))))
abbrev qX:Sh:=.cons Q6 (.cons OK (.cons QM .nil))
def sy (l:List (List jU.ty)):List (List I2):=l.map fun r=>r.map N0
def ix (a:qX.ty):nf:=⟨a.1.1,(show List qi.ty from a.1.2.1).map TA,a.2.1.1,(show List vc.ty from a.2.1.2.1).map Uh,a.2.2.1.1,a.2.2.1.2.1,sy a.2.2.1.2.2.1,sy a.2.2.1.2.2.2.1,a.2.2.1.2.2.2.2.1,a.2.2.1.2.2.2.2.2.1⟩
structure JH (x:nf):Prop where
  n:Fit x.n
  ar:∀a∈x.ar,LN a
  rk:∀a∈x.rk,Fit a
  ws:∀a∈x.ws,PU a
  g:∀a∈x.g,Fit a
  far:∀r∈x.far,∀a∈r,Fit a
  outs:∀r∈x.outs,∀a∈r,Fz a
  ins:∀r∈x.ins,∀a∈r,Fz a
  so:∀r∈x.so,∀a∈r,Fit a
  si:∀r∈x.si,∀a∈r,Fit a
theorem JH.fit {x:nf} {A R K:Nat} (h:JH x) (hs:yZ A R K x.ar x.rk x.ws x.g x.far x.outs x.ins x.so x.si) (hA:A<4294967296) (hR:R<4294967296) (hK:K<4294967296):CK x:=
  ⟨h.n,⟨ac8 hs.ar hA,h.ar⟩,⟨ac8 hs.rk hR,h.rk⟩,⟨ac8 hs.ws hA,h.ws⟩,⟨ac8 hs.g hK,h.g⟩,⟨ac8 hs.far.1 hK,fun r hr=>⟨ac8 (hs.far.2 r hr) hK,h.far r hr⟩⟩,⟨ac8 hs.outs.1 hK,fun r hr=>⟨ac8 (hs.outs.2 r hr) hK,h.outs r hr⟩⟩,
    ⟨ac8 hs.ins.1 hK,fun r hr=>⟨ac8 (hs.ins.2 r hr) hK,h.ins r hr⟩⟩,⟨ac8 hs.so.1 hK,fun r hr=>⟨ac8 (hs.so.2 r hr) hK,h.so r hr⟩⟩,⟨ac8 hs.si.1 hK,fun r hr=>⟨ac8 (hs.si.2 r hr) hK,h.si r hr⟩⟩⟩
def Ts (w:World) (cs:List Value) (x:nf):Prop:=∃(v rv wv gv fv ov iv db dc:Value) (hf ho hi gV gQ:List Hd),cs=[.int .i64 x.n,v,rv,wv,gv,fv,ov,iv,db,dc]∧Sm bJ w v x.ar∧Sl vI w rv x.rk∧Sm aV w wv x.ws∧pZ none_ w gv x.g fv hf x.far ov ho x.outs iv hi x.ins db gV x.so dc gQ x.si
theorem N7 {w:World} {cs:List Value} {a:qX.ty} (h:qX.rd w cs a):Ts w cs (ix a)∧JH (ix a):=by
  have hlen:=qX.nq h
  match cs,hlen with
  |[c1,c2,c3,c4,c5,c6,c7,c8,c9,c10],_=>
    obtain⟨⟨h1,h2,_⟩,⟨h3,h4,_⟩,⟨h5,h6,h7,h8,h9,lT,_⟩,_⟩:=h
    have e1:=nB h1
    have e2:=pj (fun _ _=>C6) rfl bf h2
    have e3:=yk h3
    have e4:=pj (fun _ _=>QN) rfl aH h4
    have e5:=yk h5
    obtain⟨hf,f1,f2,f3⟩:=xK h6
    obtain⟨ho,o1,o2,o3⟩:=zB h7
    obtain⟨hi,i1,i2,i3⟩:=zB h8
    obtain⟨gV,s1,s2,s3⟩:=xK h9
    obtain⟨gQ,t1,t2,t3⟩:=xK lT
    exact⟨⟨_,_,_,_,_,_,_,_,_,hf,ho,hi,gV,gQ,by rw[e1.1];rfl,e2.1,e3.1,e4.1,⟨e5.1.o,f1.o,f2,o1.o,o2,i1.o,i2,s1.o,s2,t1.o,t2⟩⟩,⟨e1.2,e2.2,e3.2,e4.2,e5.2,f3,o3,i3,s3,t3⟩⟩
def bQ {α:Type} (l:List (List α)):Nat:=(l.map adg).sum
def kj (x:nf):Nat:=x.g.length+x.far.length+x.outs.length+x.ins.length+x.so.length+x.si.length+(bQ x.far+bQ x.outs+bQ x.ins+bQ x.so+bQ x.si)
theorem nv (e:Sh) (h:∀a,1≤e.fX a) (l:List e.ty):adg (α:=e.ty) l+1≤(Sh.sl e).fX l:=by
  show _≤(agy (fun x:e.ty=>e.fX x) l).sum+1
  have:adg (α:=e.ty) l≤(agy (fun x:e.ty=>e.fX x) l).sum:=by
    induction l with
    |nil=>exact ac3 _
    |cons a r ih=>
      simp only[acF,adb,ad4]
      have:=h a
      omega
  omega
theorem lI (e:Sh) (h:∀a,1≤e.fX a) (l:List (List e.ty)):bQ (α:=e.ty) l+adg (α:=List e.ty) l+1≤(Sh.sl (.sl e)).fX l:=by
  show _≤(agy (fun x:List e.ty=>(Sh.sl e).fX x) l).sum+1
  unfold bQ
  have:(agy (fun x:List e.ty=>x.length) l).sum+adg (α:=List e.ty) l≤(agy (fun x:List e.ty=>(Sh.sl e).fX x) l).sum:=by
    induction l with
    |nil=>exact ac3 _
    |cons a r ih=>
      simp only[acF,adb,ad4]
      have:=nv e h a
      omega
  exact Nat.add_le_add_right this 1
theorem xa (l:List (List jU.ty)):bQ (sy l)=bQ (α:=jU.ty) l:=by
  unfold bQ sy
  rw[aem]
  congr 1
  apply afh
  intro r _
  exact ac4 _
theorem Hv (a:qX.ty):(ix a).ar.length+(ix a).rk.length+(ix a).ws.length+kj (ix a)≤qX.fX a:=by
  have p1:∀b,1≤(Sh.int .i64).fX b:=fun _=>ac3 _
  have p3:∀b,1≤qi.fX b:=fun _=>by show 1≤1+_;omega
  have p5:∀b,1≤vc.fX b:=fun _=>by show 1≤1+_;omega
  have p2:∀b,1≤jU.fX b:=fun _=>by show 1≤1+_;omega
  have m1:=nv qi p3 a.1.2.1
  have m2:=nv (.int .i64) p1 a.2.1.1
  have m3:=nv vc p5 a.2.1.2.1
  have m4:=nv (.int .i64) p1 a.2.2.1.1
  have m5:=lI (.int .i64) p1 a.2.2.1.2.1
  have m6:=lI jU p2 a.2.2.1.2.2.1
  have m7:=lI jU p2 a.2.2.1.2.2.2.1
  have m8:=lI (.int .i64) p1 a.2.2.1.2.2.2.2.1
  have m9:=lI (.int .i64) p1 a.2.2.1.2.2.2.2.2.1
  have e:qX.fX a=(1+((Sh.sl qi).fX a.1.2.1+0))+(((Sh.sl (.int .i64)).fX a.2.1.1+((Sh.sl vc).fX a.2.1.2.1+0))+(((Sh.sl (.int .i64)).fX a.2.2.1.1+((Sh.sl (.sl (.int .i64))).fX a.2.2.1.2.1+((Sh.sl (.sl jU)).fX a.2.2.1.2.2.1+((Sh.sl (.sl jU)).fX a.2.2.1.2.2.2.1+((Sh.sl (.sl (.int .i64))).fX a.2.2.1.2.2.2.2.1+((Sh.sl (.sl (.int .i64))).fX a.2.2.1.2.2.2.2.2.1+0))))))+0)):=rfl
  have l1:(ix a).ar.length=adg (α:=qi.ty) a.1.2.1:=ac4 _
  have l3:(ix a).ws.length=adg (α:=vc.ty) a.2.1.2.1:=ac4 _
  have l6:(ix a).outs.length=adg (α:=List jU.ty) a.2.2.1.2.2.1:=ac4 _
  have l7:(ix a).ins.length=adg (α:=List jU.ty) a.2.2.1.2.2.2.1:=ac4 _
  have r6:bQ (ix a).outs=bQ (α:=jU.ty) a.2.2.1.2.2.1:=xa _
  have r7:bQ (ix a).ins=bQ (α:=jU.ty) a.2.2.1.2.2.2.1:=xa _
  have l2:(ix a).rk.length=adg (α:=Int) a.2.1.1:=rfl
  have l4:(ix a).g.length=adg (α:=Int) a.2.2.1.1:=rfl
  have l5:(ix a).far.length=adg (α:=List Int) a.2.2.1.2.1:=rfl
  have l8:(ix a).so.length=adg (α:=List Int) a.2.2.1.2.2.2.2.1:=rfl
  have l9:(ix a).si.length=adg (α:=List Int) a.2.2.1.2.2.2.2.2.1:=rfl
  have r5:bQ (ix a).far=bQ (α:=Int) a.2.2.1.2.1:=rfl
  have r8:bQ (ix a).so=bQ (α:=Int) a.2.2.1.2.2.2.2.1:=rfl
  have r9:bQ (ix a).si=bQ (α:=Int) a.2.2.1.2.2.2.2.2.1:=rfl
  unfold kj
  rw[e,l1,l2,l3,l4,l5,l6,l7,l8,l9,r5,r6,r7,r8,r9]
  change adg (α:=Int) _+1≤_ at m2
  change adg (α:=Int) _+1≤_ at m4
  change bQ (α:=Int) _+adg (α:=List Int) _+1≤_ at m5
  change bQ (α:=Int) _+adg (α:=List Int) _+1≤_ at m8
  change bQ (α:=Int) _+adg (α:=List Int) _+1≤_ at m9
  omega
theorem lJ {α:Type} {l:List (List α)} {r:List α} (h:r∈l):r.length≤bQ l:=by
  unfold bQ
  induction l with
  |nil=>cases h
  |cons a t ih=>
    simp only[adb,ad4]
    rcases ac1.1 h with rfl|h
    · omega
    · have:=ih h;omega
theorem Ed {x:nf} {A R K:Nat} (h1:x.ar.length≤A) (h2:x.rk.length≤R) (h3:x.ws.length≤A) (h4:kj x≤K):yZ A R K x.ar x.rk x.ws x.g x.far x.outs x.ins x.so x.si:=by
  unfold kj at h4
  refine⟨h1,h2,h3,by omega,⟨by omega,fun r hr=>?_⟩,⟨by omega,fun r hr=>?_⟩,⟨by omega,fun r hr=>?_⟩,⟨by omega,fun r hr=>?_⟩,⟨by omega,fun r hr=>?_⟩⟩
  · have:=lJ hr;omega
  · have:=lJ hr;omega
  · have:=lJ hr;omega
  · have:=lJ hr;omega
  · have:=lJ hr;omega
section
variable {H:Type} {enc:TypeId×Value→H} {P:Program} {W:World} {base:Nat} {held:Bool} {t:TypeId} {d:DataW H} {ps:List MemPlace} {v:Value} {ts:List TypeId} {ds:List (DataW H)} {j:Nat} {fs:Array Field}
theorem Hw (B:FB H) (hu:P.underlying t=some (.struct fs)) (hf:qX.fit P (.inl t)=true) (hv:aif P W .any base t v) (h:ahP enc P W 0 (fun _=>true) held t v d ps):
    ∃(x:nf) (cs:List Value),v=.agg cs.toArray∧Ts W cs x∧JH x∧x.ar.length+x.rk.length+x.ws.length+kj x≤B.one d:=by
  obtain⟨cs,rfl,_⟩:=okWide_struct hu hv
  obtain⟨a,hr,hm⟩:=KG B hf h
  have h1:=N7 hr
  exact⟨ix a,cs.toList,by simp,h1.1,h1.2,acR (Hv a) hm⟩
end
end Go.Gr
namespace Go.Proofs.YtngkdkbpgoddlaaGreat
theorem bK:(acx.info? 3).map (·.size)=some 1:=by kernel_rfl
theorem gz:(acx.info? 3).map (fun i=>(i.zero,i.size,i.bytes))=some (some (.int .i64 0),1,8):=by kernel_rfl
theorem mU:((acx.info? 3).bind (·.zero)).isSome=true:=by kernel_rfl
theorem oE:(acx.info? 4).map (·.size)=some 1:=by kernel_rfl
theorem Un:(acx.info? 4).map (fun i=>(i.zero,i.size,i.bytes))=some (some (.bool false),1,1):=by kernel_rfl
theorem vd:(acx.info? 5).map (·.size)=some 1:=by kernel_rfl
theorem rL:(acx.info? 5).map (fun i=>(i.zero,i.size,i.bytes))=some (some (.int .u8 0),1,1):=by kernel_rfl
theorem Tt:((acx.info? 5).bind (·.zero)).isSome=true:=by kernel_rfl
theorem fz:(acx.info? 22).map (·.size)=some 1:=by kernel_rfl
theorem dN:(acx.info? 24).map (·.size)=some 2:=by kernel_rfl
theorem cj:(acx.info? 25).map (·.size)=some 1:=by kernel_rfl
theorem tW:(acx.info? 25).map (fun i=>(i.zero,i.size,i.bytes))=some (some (vN),1,24):=by kernel_rfl
theorem zf:((acx.info? 25).bind (·.zero)).isSome=true:=by kernel_rfl
theorem eM:(acx.info? 26).map (·.size)=some 1:=by kernel_rfl
theorem dy:(acx.info? 28).map (·.size)=some 2:=by kernel_rfl
theorem fP:(acx.info? 29).map (·.size)=some 1:=by kernel_rfl
theorem jf:(acx.info? 30).map (·.size)=some 1:=by kernel_rfl
theorem iD:(acx.info? 32).map (·.size)=some 6:=by kernel_rfl
theorem fg:(acx.info? 34).map (·.size)=some 10:=by kernel_rfl
theorem jK:(acx.info? 38).map (·.size)=some 1:=by kernel_rfl
theorem Re:(acx.info? 38).map (fun i=>(i.zero,i.size,i.bytes))=some (some (vN),1,24):=by kernel_rfl
theorem Nf:((acx.info? 38).bind (·.zero)).isSome=true:=by kernel_rfl
theorem vf:(acx.info? 47).map (·.size)=some 1:=by kernel_rfl
theorem NA:(acx.info? 57).map (·.size)=some 1:=by kernel_rfl
theorem D8:(acx.info? 75).map (·.size)=some 1:=by kernel_rfl
theorem Kk:(acx.info? 82).map (·.size)=some 1:=by kernel_rfl
theorem cU:(acx.info? 96).map (·.size)=some 3:=by kernel_rfl
theorem er:(acx.info? 98).map (·.size)=some 5:=by kernel_rfl
theorem dr:(acx.info? 100).map (·.size)=some 3:=by kernel_rfl
theorem qS:(acx.info? 111).map (·.size)=some 3:=by kernel_rfl
theorem lr:(acx.info? 118).map (·.size)=some 1:=by kernel_rfl
theorem Ci:(acx.info? 118).map (fun i=>(i.zero,i.size,i.bytes))=some (some (vN),1,24):=by kernel_rfl
theorem F0:((acx.info? 118).bind (·.zero)).isSome=true:=by kernel_rfl
theorem ef:(acx.info? 135).map (·.size)=some 2:=by kernel_rfl
theorem Gq:(acx.info? 144).map (·.size)=some 1:=by kernel_rfl
theorem fC:(acx.info? 192).map (·.size)=some 1:=by kernel_rfl
theorem cK:(acx.info? 194).map (·.size)=some 4:=by kernel_rfl
theorem wC:(acx.info? 206).map (·.size)=some 1:=by kernel_rfl
theorem Gp:(acx.info? 207).map (·.size)=some 1:=by kernel_rfl
theorem qR:(acx.info? 209).map (·.size)=some 2:=by kernel_rfl
theorem QP:(acx.info? 228).map (·.size)=some 1:=by kernel_rfl
theorem od:(acx.info? 246).map (·.size)=some 3:=by kernel_rfl
theorem hO:(acx.info? 248).map (·.size)=some 5:=by kernel_rfl
theorem C7:(acx.info? 257).map (·.size)=some 256:=by kernel_rfl
theorem CY:(acx.info? 3).map (·.zero)=some (some (.int .i64 (0))):=by kernel_rfl
theorem oA:(acx.info? 24).map (·.zero)=some (some (.agg #[.int .i64 (0),vN])):=by kernel_rfl
theorem F3:(acx.info? 25).map (·.zero)=some (some (vN)):=by kernel_rfl
theorem oz:(acx.info? 28).map (·.zero)=some (some (.agg #[vN,vN])):=by kernel_rfl
theorem qb:(acx.info? 32).map (·.zero)=some (some (.agg #[vN,vN,vN,vN,vN,vN])):=by kernel_rfl
theorem fx:(acx.info? 34).map (·.zero)=some (some (.agg #[.int .i64 (0),vN,vN,vN,vN,vN,vN,vN,vN,vN])):=by kernel_rfl
theorem Nk:(acx.info? 38).map (·.zero)=some (some (vN)):=by kernel_rfl
theorem Nj:(acx.info? 57).map (·.zero)=some (some (.int .u64 (0))):=by kernel_rfl
theorem Ni:(acx.info? 87).map (·.zero)=some (some (.agg #[.pointer none,.pointer none,.pointer none])):=by kernel_rfl
theorem Nh:(acx.info? 89).map (·.zero)=some (some (.agg #[.pointer none,.int .i64 (0),.bool false])):=by kernel_rfl
theorem eV:(acx.info? 96).map (·.zero)=some (some (.agg #[.int .i64 (0),.int .i64 (0),.int .i64 (0)])):=by kernel_rfl
theorem jx:(acx.info? 98).map (fun i=>(i.zero,i.size,i.bytes))=some (some (.agg #[.int .i64 (0),.int .i64 (0),.int .i64 (0),.int .i64 (0),.int .i64 (0)]),5,40):=by kernel_rfl
theorem gu:(acx.info? 98).map (·.zero)=some (some (.agg #[.int .i64 (0),.int .i64 (0),.int .i64 (0),.int .i64 (0),.int .i64 (0)])):=by kernel_rfl
theorem tX:(acx.info? 100).map (fun i=>(i.zero,i.size,i.bytes))=some (some (.agg #[.int .i64 (0),.int .i64 (0),.int .i64 (0)]),3,24):=by kernel_rfl
theorem fS:(acx.info? 100).map (·.zero)=some (some (.agg #[.int .i64 (0),.int .i64 (0),.int .i64 (0)])):=by kernel_rfl
theorem sr:(acx.info? 111).map (·.zero)=some (some (.agg #[.int .i64 (0),vN,vN])):=by kernel_rfl
theorem J9:(acx.info? 132).map (·.zero)=some (some (.agg #[vN,vN])):=by kernel_rfl
theorem qw:(acx.info? 135).map (fun i=>(i.zero,i.size,i.bytes))=some (some (.agg #[.int .i64 (0),.int .i64 (0)]),2,16):=by kernel_rfl
theorem o4:(acx.info? 135).map (·.zero)=some (some (.agg #[.int .i64 (0),.int .i64 (0)])):=by kernel_rfl
theorem J8:(acx.info? 161).map (·.zero)=some (some (.agg #[.int .i64 (0),.int .i64 (0),.int .i64 (0)])):=by kernel_rfl
theorem jc:(acx.info? 194).map (·.zero)=some (some (.agg #[.int .i64 (0),vN,vN,vN])):=by kernel_rfl
theorem xD:(acx.info? 209).map (·.zero)=some (some (.agg #[vN,vN])):=by kernel_rfl
theorem J7:(acx.info? 211).map (·.zero)=some (some (.agg #[.int .i64 (0),vN,vN,vN,vN,vN,vN])):=by kernel_rfl
theorem J6:(acx.info? 228).map (·.zero)=some (some (.nilFunc)):=by kernel_rfl
theorem k7:(acx.info? 246).map (fun i=>(i.zero,i.size,i.bytes))=some (some (.agg #[.int .i64 (0),.int .i64 (0),.int .i64 (0)]),3,24):=by kernel_rfl
theorem CZ:(acx.info? 246).map (·.zero)=some (some (.agg #[.int .i64 (0),.int .i64 (0),.int .i64 (0)])):=by kernel_rfl
theorem ik:(acx.info? 248).map (fun i=>(i.zero,i.size,i.bytes))=some (some (.agg #[.int .i64 (0),.int .i64 (0),.int .i64 (0),.int .i64 (0),.int .i64 (0)]),5,40):=by kernel_rfl
theorem sn:(acx.info? 248).map (·.zero)=some (some (.agg #[.int .i64 (0),.int .i64 (0),.int .i64 (0),.int .i64 (0),.int .i64 (0)])):=by kernel_rfl
theorem J5:(acx.info? 269).map (·.zero)=some (some (.agg #[vN,vN,vN,.map none,vN,vN])):=by kernel_rfl
theorem j2:(acx.info? 282).map (·.zero)=some (some (.agg #[.int .i64 (0),.int .i64 (0)])):=by kernel_rfl
end Go.Proofs.YtngkdkbpgoddlaaGreat
namespace Go.Proofs.YtngkdkbpgoddlaaGreat
open Go.RowKit Go.Rl
open Go.Gr Go.dn Go.jJ
def wr (x:Int):Int:=adC.wrap x
theorem lV (a b:Int):adC.wrap (wr a+b)=wr (a+b):=by
  unfold wr aeg
  have e1:(2:Int)^64=18446744073709551616:=by decide
  have e2:(2:Int)^(64-1)=9223372036854775808:=by decide
  simp only[adR,adS,agK,decide_eq_true_eq,e1,e2]
  split<;>split<;>split<;>omega
theorem QF {x:Int} (h0: -9223372036854775808≤x) (h1:x≤9223372036854775807):wr x=x:=sJ h0 h1
theorem km {α:Type} {l:List (List α)} {i:Nat} {r:List α} (h:l[i]?=some r):bQ (l.take (i+1))=bQ (l.take i)+r.length:=by
  unfold bQ;rw[dM h];simp
theorem yi (gv fv ov iv db dc:Value) (g:List Int) (far:List (List Int)) (outs ins:List (List I2)) (so si:List (List Int)) (hf ho hi gV gQ:List Hd) (w:World) (hT:pZ none_ w gv g fv hf far ov ho outs iv hi ins db gV so dc gQ si):aM acx 47 #[.agg #[gv,fv,ov,iv,db,dc]] w fun r w'=>r=.int .i64 (wr ((g.length+far.length+outs.length+ins.length+so.length+si.length+(bQ far+bQ outs+bQ ins+bQ so+bQ si):Nat):Int))∧Ext w w':=by
 refine aM.aZ Tryz.func47 ?_
 rw[cM]
 have hN:=aI.nil w none_
 have Zn:hf.length=far.length:=hT.JN.1
 have Zm:ho.length=outs.length:=hT.D0.1
 have Qc:hi.length=ins.length:=hT.tie.1
 have Ut:gV.length=so.length:=hT.u7.1
 have Us:gQ.length=si.length:=hT.u9.1
 refine RW.aN ?_
 refine RL.aK (bL (cs:=[gv,fv,ov,iv,db,dc]) rfl rfl hN ?_)
 clear hN
 intro g1 w1 (hN:aI w none_ w1 [_])
 refine RL.ag (v:=.int .i64 (0)) ai (RL.b6 (RL.ag (ah acK rfl cj) (RL.ag (aj acu (hN.aJ 0 rfl)) ?_)))
 have jm:=(hT.tg.now hN).bw
 refine RL.ag (aQ acu (hT.tg.now hN)) (RL.ag (ah acK rfl fP) (RL.ag (aj acJ (hN.aJ 0 rfl)) ?_))
 have k9:=(hT.tf.now hN).bw
 refine RL.ag (aQ acJ (hT.tf.now hN)) (RL.ag (aD rfl rfl rfl (show arith .add .i64 (g.length:Int) (hf.length:Int)=wr ((g.length:Int)+far.length)from by rw[Zn];rfl)) (RL.ag (ah acK rfl jf) (RL.ag (aj ac0 (hN.aJ 0 rfl)) ?_)))
 have uJ:=(hT.to.now hN).bw
 refine RL.ag (aQ ac0 (hT.to.now hN)) (RL.ag (aD rfl rfl rfl (show arith .add .i64 (wr ((g.length:Int)+far.length)) (ho.length:Int)=wr ((g.length:Int)+far.length+outs.length)from by rw[Zm];exact lV _ _)) (RL.ag (ah acK rfl jf) (RL.ag (aj ac0 (hN.aJ 0 rfl)) ?_)))
 have qG:=(hT.ti.now hN).bw
 refine RL.ag (aQ ac0 (hT.ti.now hN)) (RL.ag (aD rfl rfl rfl (show arith .add .i64 (wr ((g.length:Int)+far.length+outs.length)) (hi.length:Int)=wr ((g.length:Int)+far.length+outs.length+ins.length)from by rw[Qc];exact lV _ _)) (RL.ag (ah acK rfl fP) (RL.ag (aj acJ (hN.aJ 0 rfl)) ?_)))
 have AD:=(hT.Gf.now hN).bw
 refine RL.ag (aQ acJ (hT.Gf.now hN)) (RL.ag (aD rfl rfl rfl (show arith .add .i64 (wr ((g.length:Int)+far.length+outs.length+ins.length)) (gV.length:Int)=wr ((g.length:Int)+far.length+outs.length+ins.length+so.length)from by rw[Ut];exact lV _ _)) (RL.ag (ah acK rfl fP) (RL.ag (aj acJ (hN.aJ 0 rfl)) ?_)))
 have Fb:=(hT.Gg.now hN).bw
 refine RL.ag (aQ acJ (hT.Gg.now hN)) (RL.ag (aD rfl rfl rfl (show arith .add .i64 (wr ((g.length:Int)+far.length+outs.length+ins.length+so.length)) (gQ.length:Int)=wr ((g.length:Int)+far.length+outs.length+ins.length+so.length+si.length)from by rw[Us];exact lV _ _)) (RL.ag (v:=.int .i64 ((wr ((g.length:Int)+far.length+outs.length+ins.length+so.length+si.length)))) ai (RL.ak ?_)))
 iterate 2 refine RW.seq ?_
 have UO:(wr ((g.length:Int)+far.length+outs.length+ins.length+so.length+si.length))=wr (((g.length:Int)+far.length+outs.length+ins.length+so.length+si.length)+(bQ (far.take 0):Int)):=congrArg wr (by rw[afb];simp[bQ])
 rw[UO]
 refine RW.region (RL.ag (v:=.int .i64 (0)) ai (RL.ak (RW.block ?_)))
 refine RW.loop (fun k0 R0 cz=>∃i0:Nat,R0 1=vP g1∧R0 3=.int .i64 ((wr (((g.length:Int)+far.length+outs.length+ins.length+so.length+si.length)+(bQ (far.take i0):Int))))∧R0 4=vJ i0∧aI w none_ cz [.aJ g1 [gv,fv,ov,iv,db,dc] 32]∧(i0+k0=hf.length)) (hf.length) ?_ ?_
 exact⟨0,rfl,rfl,rfl,hN,by omega⟩
 clear hN
 rintro k0 R0 cz ⟨i0,bP,cd,cA,hN,aas⟩
 have cB:=ln bP cd cA
 obtain⟨gF,rfl⟩:=cB
 clear bP cd cA
 iterate 2 refine RW.seq ?_
 refine RW.region (RL.ag (v:=vJ i0) U (RL.ag (ah acK rfl fP) (RL.ag (aj acJ (hN.aJ 0 rfl)) (RL.ag (aQ acJ (hT.tf.now hN)) (RL.ag (aL) (RL.ak ?_))))))
 refine RW.aG _ (fun U2=>?_) (fun U2=>?_)
 refine RW.skip (aw (RW.seq (RW.block (RW.region (RL.ag (v:=.int .i64 ((wr (((g.length:Int)+far.length+outs.length+ins.length+so.length+si.length)+(bQ (far.take i0):Int))))) U (RL.ag (ah acK rfl fP) (RL.ag (aj acJ (hN.aJ 0 rfl)) (RL.ag (v:=vJ i0) U (RL.ag (aC acJ cj (hT.tf.now hN)) ?_)))))))))
 have aO:=da (hf) i0
 obtain⟨ap0,CB⟩:=aO
 have aO:∃l_,(far)[i0]?=some l_:=⟨_,acE (by have:=hT.JN.1;omega)⟩
 obtain⟨Y9,Oy⟩:=aO
 refine RL.ag (aF (m:=i0) (a:=ap0) acu (hT.tf.now hN) CB) ?_
 have Pj:=((hT.JN.iq CB Oy).now hN).bw
 refine RL.ag (aQ acu ((hT.JN.iq CB Oy).now hN)) (RL.ag (aD rfl rfl rfl (show arith .add .i64 (wr (((g.length:Int)+far.length+outs.length+ins.length+so.length+si.length)+(bQ (far.take i0):Int))) (Y9.length:Int)=wr (((g.length:Int)+far.length+outs.length+ins.length+so.length+si.length)+(bQ (far.take (i0+1)):Int))from(lV _ _).trans (congrArg wr (by rw[km Oy];omega)))) (RL.ag (v:=.int .i64 ((wr (((g.length:Int)+far.length+outs.length+ins.length+so.length+si.length)+(bQ (far.take (i0+1)):Int))))) ai (RL.nil (aY (aw (RW.region (RL.ag (v:=vJ i0) U (RL.ag (aD rfl rfl rfl (bh (by omega) (by omega))) (RL.ag (v:=.int .i64 ((i0:Int)+1)) ai ?_)))))))))
 refine RL.ak ?_
 exact⟨k0-1,by omega,i0+1,rfl,rfl,rfl,hN,by omega⟩
 refine RW.exit ?_
 iterate 2 refine bS ?_
 refine ba (aw ?_)
 iterate 2 refine RW.seq ?_
 have vR:(wr (((g.length:Int)+far.length+outs.length+ins.length+so.length+si.length)+(bQ (far.take i0):Int)))=wr (((g.length:Int)+far.length+outs.length+ins.length+so.length+si.length)+(bQ far:Int)+(bQ (outs.take 0):Int)):=congrArg wr (by rw[afb,acX (by omega:far.length≤i0)];simp[bQ])
 rw[vR]
 refine RW.region (RL.ag (v:=.int .i64 (0)) ai (RL.ak (RW.block ?_)))
 refine RW.loop (fun k1 R1 eW=>∃i1:Nat,R1 1=vP g1∧R1 3=.int .i64 ((wr (((g.length:Int)+far.length+outs.length+ins.length+so.length+si.length)+(bQ far:Int)+(bQ (outs.take i1):Int))))∧R1 5=vJ i1∧aI w none_ eW [.aJ g1 [gv,fv,ov,iv,db,dc] 32]∧(i1+k1=ho.length)) (ho.length) ?_ ?_
 exact⟨0,rfl,rfl,rfl,hN,by omega⟩
 clear hN
 rintro k1 R1 eW ⟨i1,bP,cd,cx,hN,aar⟩
 have cB:=ln bP cd cx
 obtain⟨sk,rfl⟩:=cB
 clear bP cd cx
 iterate 2 refine RW.seq ?_
 refine RW.region (RL.ag (v:=vJ i1) U (RL.ag (ah acK rfl jf) (RL.ag (aj ac0 (hN.aJ 0 rfl)) (RL.ag (aQ ac0 (hT.to.now hN)) (RL.ag (aL) (RL.ak ?_))))))
 refine RW.aG _ (fun vT=>?_) (fun vT=>?_)
 refine RW.skip (aw (RW.seq (RW.block (RW.region (RL.ag (v:=.int .i64 ((wr (((g.length:Int)+far.length+outs.length+ins.length+so.length+si.length)+(bQ far:Int)+(bQ (outs.take i1):Int))))) U (RL.ag (ah acK rfl jf) (RL.ag (aj ac0 (hN.aJ 0 rfl)) (RL.ag (v:=vJ i1) U (RL.ag (aC ac0 lr (hT.to.now hN)) ?_)))))))))
 have aO:=da (ho) i1
 obtain⟨WC,vX⟩:=aO
 have aO:∃l_,(outs)[i1]?=some l_:=⟨_,acE (by have:=hT.D0.1;omega)⟩
 obtain⟨KT,qA⟩:=aO
 refine RL.ag (aF (m:=i1) (a:=WC) acW (hT.to.now hN) vX) ?_
 have I4:=((hT.D0.iq vX qA).now hN).bw
 refine RL.ag (bO acW ((hT.D0.iq vX qA).now hN)) (RL.ag (aD rfl rfl rfl (show arith .add .i64 (wr (((g.length:Int)+far.length+outs.length+ins.length+so.length+si.length)+(bQ far:Int)+(bQ (outs.take i1):Int))) (KT.length:Int)=wr (((g.length:Int)+far.length+outs.length+ins.length+so.length+si.length)+(bQ far:Int)+(bQ (outs.take (i1+1)):Int))from(lV _ _).trans (congrArg wr (by rw[km qA];omega)))) (RL.ag (v:=.int .i64 ((wr (((g.length:Int)+far.length+outs.length+ins.length+so.length+si.length)+(bQ far:Int)+(bQ (outs.take (i1+1)):Int))))) ai (RL.nil (aY (aw (RW.region (RL.ag (v:=vJ i1) U (RL.ag (aD rfl rfl rfl (bh (by omega) (by omega))) (RL.ag (v:=.int .i64 ((i1:Int)+1)) ai ?_)))))))))
 refine RL.ak ?_
 exact⟨k1-1,by omega,i1+1,rfl,rfl,rfl,hN,by omega⟩
 refine RW.exit ?_
 iterate 2 refine bS ?_
 refine ba (aw ?_)
 iterate 2 refine RW.seq ?_
 have Aq:(wr (((g.length:Int)+far.length+outs.length+ins.length+so.length+si.length)+(bQ far:Int)+(bQ (outs.take i1):Int)))=wr (((g.length:Int)+far.length+outs.length+ins.length+so.length+si.length)+(bQ far:Int)+(bQ outs:Int)+(bQ (ins.take 0):Int)):=congrArg wr (by rw[afb,acX (by omega:outs.length≤i1)];simp[bQ])
 rw[Aq]
 refine RW.region (RL.ag (v:=.int .i64 (0)) ai (RL.ak (RW.block ?_)))
 refine RW.loop (fun k2 R2 ij=>∃i2:Nat,R2 1=vP g1∧R2 3=.int .i64 ((wr (((g.length:Int)+far.length+outs.length+ins.length+so.length+si.length)+(bQ far:Int)+(bQ outs:Int)+(bQ (ins.take i2):Int))))∧R2 6=vJ i2∧aI w none_ ij [.aJ g1 [gv,fv,ov,iv,db,dc] 32]∧(i2+k2=hi.length)) (hi.length) ?_ ?_
 exact⟨0,rfl,rfl,rfl,hN,by omega⟩
 clear hN
 rintro k2 R2 ij ⟨i2,bP,cd,cW,hN,Vj⟩
 have cB:=ln bP cd cW
 obtain⟨PR,rfl⟩:=cB
 clear bP cd cW
 iterate 2 refine RW.seq ?_
 refine RW.region (RL.ag (v:=vJ i2) U (RL.ag (ah acK rfl jf) (RL.ag (aj ac0 (hN.aJ 0 rfl)) (RL.ag (aQ ac0 (hT.ti.now hN)) (RL.ag (aL) (RL.ak ?_))))))
 refine RW.aG _ (fun eD=>?_) (fun eD=>?_)
 refine RW.skip (aw (RW.seq (RW.block (RW.region (RL.ag (v:=.int .i64 ((wr (((g.length:Int)+far.length+outs.length+ins.length+so.length+si.length)+(bQ far:Int)+(bQ outs:Int)+(bQ (ins.take i2):Int))))) U (RL.ag (ah acK rfl jf) (RL.ag (aj ac0 (hN.aJ 0 rfl)) (RL.ag (v:=vJ i2) U (RL.ag (aC ac0 lr (hT.ti.now hN)) ?_)))))))))
 have aO:=da (hi) i2
 obtain⟨sH,jB⟩:=aO
 have aO:∃l_,(ins)[i2]?=some l_:=⟨_,acE (by have:=hT.tie.1;omega)⟩
 obtain⟨KS,qz⟩:=aO
 refine RL.ag (aF (m:=i2) (a:=sH) acW (hT.ti.now hN) jB) ?_
 have I6:=((hT.tie.iq jB qz).now hN).bw
 refine RL.ag (bO acW ((hT.tie.iq jB qz).now hN)) (RL.ag (aD rfl rfl rfl (show arith .add .i64 (wr (((g.length:Int)+far.length+outs.length+ins.length+so.length+si.length)+(bQ far:Int)+(bQ outs:Int)+(bQ (ins.take i2):Int))) (KS.length:Int)=wr (((g.length:Int)+far.length+outs.length+ins.length+so.length+si.length)+(bQ far:Int)+(bQ outs:Int)+(bQ (ins.take (i2+1)):Int))from(lV _ _).trans (congrArg wr (by rw[km qz];omega)))) (RL.ag (v:=.int .i64 ((wr (((g.length:Int)+far.length+outs.length+ins.length+so.length+si.length)+(bQ far:Int)+(bQ outs:Int)+(bQ (ins.take (i2+1)):Int))))) ai (RL.nil (aY (aw (RW.region (RL.ag (v:=vJ i2) U (RL.ag (aD rfl rfl rfl (bh (by omega) (by omega))) (RL.ag (v:=.int .i64 ((i2:Int)+1)) ai ?_)))))))))
 refine RL.ak ?_
 exact⟨k2-1,by omega,i2+1,rfl,rfl,rfl,hN,by omega⟩
 refine RW.exit ?_
 iterate 2 refine bS ?_
 refine ba (aw ?_)
 iterate 2 refine RW.seq ?_
 have u3:(wr (((g.length:Int)+far.length+outs.length+ins.length+so.length+si.length)+(bQ far:Int)+(bQ outs:Int)+(bQ (ins.take i2):Int)))=wr (((g.length:Int)+far.length+outs.length+ins.length+so.length+si.length)+(bQ far:Int)+(bQ outs:Int)+(bQ ins:Int)+(bQ (so.take 0):Int)):=congrArg wr (by rw[afb,acX (by omega:ins.length≤i2)];simp[bQ])
 rw[u3]
 refine RW.region (RL.ag (v:=.int .i64 (0)) ai (RL.ak (RW.block ?_)))
 refine RW.loop (fun k3 R3 P2=>∃i3:Nat,R3 1=vP g1∧R3 3=.int .i64 ((wr (((g.length:Int)+far.length+outs.length+ins.length+so.length+si.length)+(bQ far:Int)+(bQ outs:Int)+(bQ ins:Int)+(bQ (so.take i3):Int))))∧R3 7=vJ i3∧aI w none_ P2 [.aJ g1 [gv,fv,ov,iv,db,dc] 32]∧(i3+k3=gV.length)) (gV.length) ?_ ?_
 exact⟨0,rfl,rfl,rfl,hN,by omega⟩
 clear hN
 rintro k3 R3 P2 ⟨i3,bP,cd,cF,hN,aaq⟩
 have cB:=ln bP cd cF
 obtain⟨R3_,rfl⟩:=cB
 clear bP cd cF
 iterate 2 refine RW.seq ?_
 refine RW.region (RL.ag (v:=vJ i3) U (RL.ag (ah acK rfl fP) (RL.ag (aj acJ (hN.aJ 0 rfl)) (RL.ag (aQ acJ (hT.Gf.now hN)) (RL.ag (aL) (RL.ak ?_))))))
 refine RW.aG _ (fun yu=>?_) (fun yu=>?_)
 refine RW.skip (aw (RW.seq (RW.block (RW.region (RL.ag (v:=.int .i64 ((wr (((g.length:Int)+far.length+outs.length+ins.length+so.length+si.length)+(bQ far:Int)+(bQ outs:Int)+(bQ ins:Int)+(bQ (so.take i3):Int))))) U (RL.ag (ah acK rfl fP) (RL.ag (aj acJ (hN.aJ 0 rfl)) (RL.ag (v:=vJ i3) U (RL.ag (aC acJ cj (hT.Gf.now hN)) ?_)))))))))
 have aO:=da (gV) i3
 obtain⟨WB,E7⟩:=aO
 have aO:∃l_,(so)[i3]?=some l_:=⟨_,acE (by have:=hT.u7.1;omega)⟩
 obtain⟨KR,qy⟩:=aO
 refine RL.ag (aF (m:=i3) (a:=WB) acu (hT.Gf.now hN) E7) ?_
 have S5:=((hT.u7.iq E7 qy).now hN).bw
 refine RL.ag (aQ acu ((hT.u7.iq E7 qy).now hN)) (RL.ag (aD rfl rfl rfl (show arith .add .i64 (wr (((g.length:Int)+far.length+outs.length+ins.length+so.length+si.length)+(bQ far:Int)+(bQ outs:Int)+(bQ ins:Int)+(bQ (so.take i3):Int))) (KR.length:Int)=wr (((g.length:Int)+far.length+outs.length+ins.length+so.length+si.length)+(bQ far:Int)+(bQ outs:Int)+(bQ ins:Int)+(bQ (so.take (i3+1)):Int))from(lV _ _).trans (congrArg wr (by rw[km qy];omega)))) (RL.ag (v:=.int .i64 ((wr (((g.length:Int)+far.length+outs.length+ins.length+so.length+si.length)+(bQ far:Int)+(bQ outs:Int)+(bQ ins:Int)+(bQ (so.take (i3+1)):Int))))) ai (RL.nil (aY (aw (RW.region (RL.ag (v:=vJ i3) U (RL.ag (aD rfl rfl rfl (bh (by omega) (by omega))) (RL.ag (v:=.int .i64 ((i3:Int)+1)) ai ?_)))))))))
 refine RL.ak ?_
 exact⟨k3-1,by omega,i3+1,rfl,rfl,rfl,hN,by omega⟩
 refine RW.exit ?_
 iterate 2 refine bS ?_
 refine ba (aw ?_)
 iterate 2 refine RW.seq ?_
 have u2:(wr (((g.length:Int)+far.length+outs.length+ins.length+so.length+si.length)+(bQ far:Int)+(bQ outs:Int)+(bQ ins:Int)+(bQ (so.take i3):Int)))=wr (((g.length:Int)+far.length+outs.length+ins.length+so.length+si.length)+(bQ far:Int)+(bQ outs:Int)+(bQ ins:Int)+(bQ so:Int)+(bQ (si.take 0):Int)):=congrArg wr (by rw[afb,acX (by omega:so.length≤i3)];simp[bQ])
 rw[u2]
 refine RW.region (RL.ag (v:=.int .i64 (0)) ai (RL.ak (RW.block ?_)))
 refine RW.loop (fun k4 R4 P1=>∃i4:Nat,R4 1=vP g1∧R4 3=.int .i64 ((wr (((g.length:Int)+far.length+outs.length+ins.length+so.length+si.length)+(bQ far:Int)+(bQ outs:Int)+(bQ ins:Int)+(bQ so:Int)+(bQ (si.take i4):Int))))∧R4 8=vJ i4∧aI w none_ P1 [.aJ g1 [gv,fv,ov,iv,db,dc] 32]∧(i4+k4=gQ.length)) (gQ.length) ?_ ?_
 exact⟨0,rfl,rfl,rfl,hN,by omega⟩
 clear hN
 rintro k4 R4 P1 ⟨i4,bP,cd,cR,hN,aap⟩
 have cB:=ln bP cd cR
 obtain⟨R4_,rfl⟩:=cB
 clear bP cd cR
 iterate 2 refine RW.seq ?_
 refine RW.region (RL.ag (v:=vJ i4) U (RL.ag (ah acK rfl fP) (RL.ag (aj acJ (hN.aJ 0 rfl)) (RL.ag (aQ acJ (hT.Gg.now hN)) (RL.ag (aL) (RL.ak ?_))))))
 refine RW.aG _ (fun Ow=>?_) (fun Ow=>?_)
 refine RW.skip (aw (RW.seq (RW.block (RW.region (RL.ag (v:=.int .i64 ((wr (((g.length:Int)+far.length+outs.length+ins.length+so.length+si.length)+(bQ far:Int)+(bQ outs:Int)+(bQ ins:Int)+(bQ so:Int)+(bQ (si.take i4):Int))))) U (RL.ag (ah acK rfl fP) (RL.ag (aj acJ (hN.aJ 0 rfl)) (RL.ag (v:=vJ i4) U (RL.ag (aC acJ cj (hT.Gg.now hN)) ?_)))))))))
 have aO:=da (gQ) i4
 obtain⟨ap4,O8⟩:=aO
 have aO:∃l_,(si)[i4]?=some l_:=⟨_,acE (by have:=hT.u9.1;omega)⟩
 obtain⟨Y8,Ox⟩:=aO
 refine RL.ag (aF (m:=i4) (a:=ap4) acu (hT.Gg.now hN) O8) ?_
 have MZ:=((hT.u9.iq O8 Ox).now hN).bw
 refine RL.ag (aQ acu ((hT.u9.iq O8 Ox).now hN)) (RL.ag (aD rfl rfl rfl (show arith .add .i64 (wr (((g.length:Int)+far.length+outs.length+ins.length+so.length+si.length)+(bQ far:Int)+(bQ outs:Int)+(bQ ins:Int)+(bQ so:Int)+(bQ (si.take i4):Int))) (Y8.length:Int)=wr (((g.length:Int)+far.length+outs.length+ins.length+so.length+si.length)+(bQ far:Int)+(bQ outs:Int)+(bQ ins:Int)+(bQ so:Int)+(bQ (si.take (i4+1)):Int))from(lV _ _).trans (congrArg wr (by rw[km Ox];omega)))) (RL.ag (v:=.int .i64 ((wr (((g.length:Int)+far.length+outs.length+ins.length+so.length+si.length)+(bQ far:Int)+(bQ outs:Int)+(bQ ins:Int)+(bQ so:Int)+(bQ (si.take (i4+1)):Int))))) ai (RL.nil (aY (aw (RW.region (RL.ag (v:=vJ i4) U (RL.ag (aD rfl rfl rfl (bh (by omega) (by omega))) (RL.ag (v:=.int .i64 ((i4:Int)+1)) ai ?_)))))))))
 refine RL.ak ?_
 exact⟨k4-1,by omega,i4+1,rfl,rfl,rfl,hN,by omega⟩
 refine RW.exit ?_
 iterate 2 refine bS ?_
 refine ba (aw (RW.aN (RL.ag (v:=.int .i64 ((wr (((g.length:Int)+far.length+outs.length+ins.length+so.length+si.length)+(bQ far:Int)+(bQ outs:Int)+(bQ ins:Int)+(bQ so:Int)+(bQ (si.take i4):Int))))) U (RL.ag (v:=.int .i64 ((wr (((g.length:Int)+far.length+outs.length+ins.length+so.length+si.length)+(bQ far:Int)+(bQ outs:Int)+(bQ ins:Int)+(bQ so:Int)+(bQ (si.take i4):Int))))) ai (RL.ak (RW.ret (bb (RV.tmp rfl) ?_)))))))
 exact⟨congrArg (acZ .i64) (congrArg wr (by rw[acX (by omega:si.length≤i4)];omega)),hN.bc⟩
end Go.Proofs.YtngkdkbpgoddlaaGreat
namespace Go.Gr
open Go.Rl
def jn : List I5 → Nat → List (J4 I2)
  |[],_=>[]
  |x::r,k=>((x.1,x.2.1),.int .i64 (k:Int),k)::jn r (k+1)
theorem Fg (x:I5):∀(l:List I5) (k:Nat),jn (l++[x]) k=jn l k++[((x.1,x.2.1),.int .i64 ((k+l.length:Nat):Int),k+l.length)]:=by
  intro l
  induction l with
  |nil=>intro k;rfl
  |cons a r ih=>intro k;simp only[ag0,jn,ih,acF];rw[show k+1+r.length=k+(r.length+1) by omega]
theorem Ji {ws:List I5} {i:Nat} {x:I5} (h:ws[i]?=some x):jn (ws.take (i+1)) 0=jn (ws.take i) 0++[((x.1,x.2.1),.int .i64 (i:Int),i)]:=by
  have hi:=(acA.1 h).1
  rw[dM h,Fg,ac5,ahi (by omega),aeQ]
theorem kn {u v:Int}:∀{l:List I5} {k:Nat},(∀y∈l,¬gM u v y)→kM (u,v) (jn l k) k=none:=by
  intro l
  induction l with
  |nil=>intro k _;rfl
  |cons a r ih=>
    intro k h
    simp only[jn,kM]
    rw[if_neg (fun e=>h a (adH ..) (by simp only[ah0]at e;exact⟨e.1.symm,e.2.symm⟩))]
    exact ih fun y hy=>h y (adv _ hy)
theorem mj {u v:Int}:∀{l:List I5} {k i:Nat} {x:I5},l[i]?=some x→gM u v x→(∀y∈l.take i,¬gM u v y)→kM (u,v) (jn l k) k=some (k+i,.int .i64 ((k+i:Nat):Int)):=by
  intro l
  induction l with
  |nil=>intro k i x h;cases h
  |cons a r ih=>
    intro k i x h hp hb
    simp only[jn,kM]
    cases i with
    |zero=>
      cases h
      rw[if_pos (by rw[←hp.1,←hp.2])];rfl
    |succ i=>
      rw[if_neg (fun e=>hb a (adH ..) (by simp only[ah0]at e;exact⟨e.1.symm,e.2.symm⟩))]
      rw[ih h hp fun y hy=>hb y (adv _ hy),show k+1+i=k+(i+1) by omega]
def kc (rk:List Int) (ws:List I5):Prop:=∀(i:Nat) (x:I5),ws[i]?=some x→y0 rk ws i x
theorem lN {rk:List Int} {ws:List I5} {i j:Nat} {x y:I5} (hx:ws[i]?=some x) (hy:(ws.take i)[j]?=some y) (hp:gM x.1 x.2.1 y):¬kc rk ws:=fun h=>by
  have h1:=(h i x hx).2.2.2.2.2
  have yv:=(acA.1 hy).1
  rw[ac5]at yv
  rcases fw (gM x.1 x.2.1) ws with⟨e,_⟩|⟨q,z,e,_,_,hb⟩
  · omega
  · have : q = i := by omega
    subst this
    exact hb y (acy hy) hp
def mH (rk:List Int):Prop:=∀k:Nat,k<rk.length→(k:Int)∈rk
theorem A8:∀(n:Nat) (l:List Int),(∀k:Nat,k<n→(k:Int)∈l)→n≤l.length:=by
  intro n
  induction n with
  |zero=>intro l _;omega
  |succ n ih=>
    intro l h
    have hm:=h n (by omega)
    have h1:=ih (l.erase (n:Int)) fun k hk=>(agm (by omega)).2 (h k (by omega))
    rw[afd hm]at h1
    have:=af2 hm
    omega
theorem mO {l:List Int} {j:Nat} {x y:Int} (hx:x∈l) (hj:l[j]?=some y) (dY:x≠y):x∈l.eraseIdx j:=by
  obtain⟨q,hq⟩:=ac9 hx
  have hqj:q≠j:=fun e=>by subst e;rw[hq]at hj;cases hj;exact dY rfl
  refine acy (i:=if q<j then q else q-1) ?_
  rw[ahq]
  by_cases h:q<j
  · rw[if_pos h,if_pos h];exact hq
  · rw[if_neg h,if_neg (by omega),show q-1+1=q by omega];exact hq
theorem tC {rk:List Int} {i:Nat} {x:Int} (hx:rk[i]?=some x) (h:x<0∨(rk.length:Int)≤x):¬mH rk:=fun hr=>by
  have hi:=(acA.1 hx).1
  have h1:=A8 rk.length (rk.eraseIdx i) fun k hk=>mO (hr k hk) hx (by omega)
  rw[ahU,if_pos hi]at h1
  omega
theorem GR {rk:List Int} {i j:Nat} {x:Int} (hx:rk[i]?=some x) (hy:rk[j]?=some x) (dY:j<i):¬mH rk:=fun hr=>by
  have hi:=(acA.1 hx).1
  have h1:=A8 rk.length (rk.eraseIdx i) fun k hk=>by
    by_cases e:(k:Int)=x
    · rw [e]
      refine acy (i:=j) ?_
      rw[ahq,if_pos dY];exact hy
    · exact mO (hr k hk) hx e
  rw[ahU,if_pos hi]at h1
  omega
structure jr (rk pl:List Int) (i:Nat):Prop where
  len:pl.length=rk.length
  is:∀(k:Nat) v,pl[k]?=some v→v= -1∨(0≤v∧v<i∧rk[v.toNat]?=some (k:Int))
  Jy:pl.count (-1)+i=rk.length
theorem jr.start (rk:List Int):jr rk (acY rk.length (-1)) 0:=
  ⟨ac7,fun k v h=>.inl (by rw[aeA]at h;split at h<;>simp_all),by rw[List.count_replicate_self];rfl⟩
theorem jr.step {rk pl:List Int} {i:Nat} {k:Int} (h:jr rk pl i) (hk:rk[i]?=some k) (h0:0≤k) (h1:k<rk.length) (hf:pl[k.toNat]?=some (-1)):jr rk (pl.set k.toNat (i:Int)) (i+1):=by
  have hl:=h.len
  refine⟨by rw[adG];exact hl,fun q v hq=>?_,?_⟩
  · rw [adi] at hq
    split at hq
    · rename_i e; subst e
      rw[if_pos (by omega)]at hq
      cases hq
      exact .inr ⟨by omega,by omega,by rw[aee,aer h0];exact hk⟩
    · rcases h.is q v hq with e | ⟨e1, e2, e3⟩
      · exact .inl e
      · exact .inr ⟨e1,by omega,e3⟩
  · have cD : k.toNat < pl.length := by omega
    have he:pl[k.toNat]= -1:=(acA.1 hf).2
    have hc:=h.Jy
    have hp:0<pl.count (-1):=List.count_pos_iff.2 (acy hf)
    rw[List.count_set cD,he]
    have:((i:Int) == -1)=false:=by simp
    simp only[beq_self_eq_true,if_true,this]
    simp only[adP,if_false]
    omega
theorem jr.all {rk pl:List Int} (h:jr rk pl rk.length):mH rk:=fun k hk=>by
  have hc:=h.Jy
  have h0:pl.count (-1)=0:=by omega
  rw[List.count_eq_zero]at h0
  have hl:=h.len
  obtain⟨v,hv⟩:∃v,pl[k]?=some v:=⟨_,acE (by omega)⟩
  rcases h.is k v hv with e|⟨_,_,e3⟩
  · subst e;exact absurd (acy hv) h0
  · exact acy e3
theorem jr.dup {rk pl:List Int} {i:Nat} {k v:Int} (h:jr rk pl i) (hk:rk[i]?=some k) (h0:0≤k) (hv:pl[k.toNat]?=some v) (dY:¬v= -1):¬mH rk:=by
  rcases h.is _ v hv with e|⟨e1,e2,e3⟩
  · exact absurd e dY
  · rw [aer h0] at e3
    exact GR hk e3 (by omega)
theorem kq {rk:List Int} {ws:List I5}:ld rk ws↔mH rk∧kc rk ws∧∀(i:Nat) (x:I5),ws[i]?=some x→if x.2.2.2.1= -1 then 0≤x.2.2.2.2∧x.2.2.2.2<67108864 else Bh rk ws x:=
  ⟨fun h=>⟨h.1,fun i x hx=>(h.2 i x hx).1,fun i x hx=>(h.2 i x hx).2⟩,fun h=>⟨h.1,fun i x hx=>⟨h.2.1 i x hx,h.2.2 i x hx⟩⟩⟩
def gK (a b:Int):Value:=.tuple #[.int .i64 (max 0 a),.int .i64 (max 0 b),.bool (decide (0≤a∧0≤b))]
theorem uE (a b:Nat):gK a b=.tuple #[.int .i64 (a:Int),.int .i64 (b:Int),.bool true]:=by unfold gK;rw[aga (by omega),aga (by omega),decide_eq_true (by omega)]
theorem uF (a:Nat):gK a (-1)=.tuple #[.int .i64 (a:Int),.int .i64 0,.bool false]:=by unfold gK;rw[aga (by omega),ahm (by omega),decide_eq_false (by omega)]
theorem uG (b:Nat):gK (-1) b=.tuple #[.int .i64 0,.int .i64 (b:Int),.bool false]:=by unfold gK;rw[ahm (by omega),aga (by omega),decide_eq_false (by omega)]
theorem uH:gK (-1) (-1)=.tuple #[.int .i64 0,.int .i64 0,.bool false]:=by unfold gK;rw[ahm (by omega),decide_eq_false (by omega)]
def gB (rk:List Int) (ws:List I5) (x:I5):Prop:=if x.2.2.2.1= -1 then 0≤x.2.2.2.2∧x.2.2.2.2<67108864 else Bh rk ws x
noncomputable instance (rk:List Int) (ws:List I5) (x:I5):Decidable (gB rk ws x):=adt _
theorem k6 {κ:Type} [DecidableEq κ] {ke:κ→Value} {l:List (J4 κ)} {m c:Nat} {w w':World} (h:w.heap[m]?=some (.map (kA ke l) c)) (he:Ext w w'):w'.heap[m]?=some (.map (kA ke l) c):=by
  rw[he.block m (ado.1 h).1 (fun e=>e)];exact h
theorem xm {rk:List Int} {ws:List I5} (h:16777216<rk.length∨67108864<ws.length):ec rk ws=3:=by unfold ec;rw[if_pos h]
theorem pM {rk:List Int} {ws:List I5} (h:¬(16777216<rk.length∨67108864<ws.length)) (h2:¬ld rk ws):ec rk ws=2:=by unfold ec;rw[if_neg h,if_neg h2]
theorem xl {rk:List Int} {ws:List I5} (h:¬(16777216<rk.length∨67108864<ws.length)) (h2:ld rk ws):ec rk ws=0:=by unfold ec;rw[if_neg h,if_pos h2]
end Go.Gr
namespace Go.Gr
open Go.Rl
theorem CW {ws:List I5} (h:ws.Pairwise iz) {i:Nat} {x:I5} (hx:ws[i]?=some x):∀y∈ws.take i,¬gM x.1 x.2.1 y:=by
  intro y hy hp
  obtain⟨j,hj,he⟩:=ae7.1 hy
  obtain⟨hi,Qd⟩:=acA.1 hx
  have:=ae4.1 h j i (by omega) hi (by omega)
  rw[he,Qd]at this
  exact this hp
theorem uM {ws:List I5} (h:ws.Pairwise iz) {i:Nat} {x:I5} (hx:ws[i]?=some x):kV (gM x.1 x.2.1) ws=(i:Int):=nH (CW h hx) hx ⟨rfl,rfl⟩
theorem tA {l:List Int} (h:l.Pairwise fun e f=>e<f):∀(i:Nat) (x y:Int),l[i]?=some x→l[i+1]?=some y→x<y:=by
  intro i x y hx hy
  obtain⟨h1,e1⟩:=acA.1 hx
  obtain⟨h2,e2⟩:=acA.1 hy
  have:=ae4.1 h i (i+1) h1 h2 (by omega)
  rw[e1,e2]at this
  exact this
theorem Ja {rk:List Int} {lo x:Int} {n:Nat} (h0:0≤x) (h1:x<n) (h:oY rk lo x.toNat):x∈bN rk lo n:=by
  unfold bN
  refine adf.2 ⟨x.toNat,adK.2 ⟨adQ.2 (by omega),decide_eq_true h⟩,?_⟩
  show(x.toNat:Int)=x
  omega
theorem xA {n:Nat} {l:List I3} {rk ins:List Int} {ways ls:List I5} (h:ze n l n rk ways ins ls) {v:Int} (h0:0≤v) (h1:v<n):Tk n ins v:=by
  have hl:=h.tok.ins
  have hc:=h.Jy
  refine⟨h0,h1,?_⟩
  obtain⟨x,hx⟩:∃x,ins[v.toNat]?=some x:=⟨_,acE (by omega)⟩
  rcases h.bit x (acy hx)with e|e
  · rw[hx,e]
  · have:0<vE ins:=by
      unfold vE
      exact af2 (adK.2 ⟨acy hx,decide_eq_true e⟩)
    omega
theorem Ns:iY 12=8796093022208:=by decide
theorem EJ {n:Nat} {l:List I3} {rk ins:List Int} {ways ls:List I5} (h:ze n l n rk ways ins ls) (hl:l.length≤67108864):ld rk ways:=by
  have hr:=h.BN
  refine⟨fun k hk=>?_,fun i x hx=>?_⟩
  · obtain ⟨v, _, hv⟩ := h.QU k (by omega)
    exact acy hv
  have hm:=acy hx
  obtain⟨a1,a2,a3,a4,a5,a6⟩:=h.ws x hm
  rw[Ns]at a6
  obtain⟨b1,b2⟩:=h.T1 x hm
  obtain⟨c1,c2⟩:=h.T0 x hm
  refine⟨⟨⟨a1,by omega⟩,⟨a3,by omega⟩,b1,a5,by omega,uM h.Tv hx⟩,?_⟩
  by_cases hq:x.2.2.2.1= -1
  · rw [if_pos hq]
    rcases c1 with⟨_,d2,d3⟩|⟨d1,_⟩
    · have := (acA.1 d3).1
      exact⟨d2,by omega⟩
    · have:=d1.1;omega
  · rw [if_neg hq]
    rcases c1 with⟨d1,_⟩|⟨d1,d2,a,b,ha,hb,e1,e2,e3,e4,e5⟩
    · exact absurd d1 hq
    · obtain ⟨k1, k2⟩ := c2 d1.1
      refine⟨d2,⟨d1.1,by have:=d1.2.1;omega⟩,fun p q hp hq=>?_,fun p q hp hq=>?_,?_⟩
      · obtain ⟨p', q', h1, h2, h3⟩ := k1 (xA h a1 a2)
        rw[h1]at hp;rw[h2]at hq;cases hp;cases hq;exact h3
      · obtain ⟨p', q', h1, h2, h3⟩ := k2 (xA h a3 a4)
        rw[h1]at hp;rw[h2]at hq;cases hp;cases hq;exact h3
      · obtain ⟨i1, h1⟩ := ac9 ha
        obtain⟨i2,h2⟩:=ac9 hb
        refine⟨i1,i2,a,b,?_,h1,?_,h2,?_⟩
        · rw[←e1,←e2];exact uM h.Tv h1
        · rw[←e3,←e4];exact uM h.Tv h2
        · rw[sJ (by omega) (by omega)];exact e5
theorem EI {n:Nat} {rk:List Int} {lo:Int} {far so si:List (List Int)} {outs ins:List (List I2)} (h:mI n rk lo (bN rk lo n) far outs ins so si):qQ n (bN rk lo n) far outs ins so si:=by
  have HL:∀(r:List I2),iC n rk lo r→(∀x∈r,dp 0 x.2)∧js n (p8 (bN rk lo n) 1) (r.map fun x=>x.1):=fun r hr=>by
    refine⟨fun x hx=>?_,⟨fun x hx=>?_,tA ?_⟩⟩
    · have := hr.ok x hx
      exact⟨by omega,by omega⟩
    · obtain ⟨e, he, rfl⟩ := adf.1 hx
      have h1:=hr.ok e he
      have h2:=hr.high e he
      refine⟨⟨by omega,by omega⟩,fun _=>?_⟩
      rw[if_pos (Ja (by omega) (by omega) h2)]
    · rw[aeC];exact hr.Ku
  have Sb:∀(r:List Int),mJ n rk lo r→js n (p8 (bN rk lo n) 0) r:=fun r hr=>⟨fun x hx=>⟨hr.ok x hx,fun _=>by rw[if_neg (fun hm=>hr.low x hx (nu hm).2.2)]⟩,tA hr.Ku⟩
  obtain⟨l1,l2,l3,l4⟩:=h.lens
  refine⟨by omega,⟨fun x hx=>⟨?_,fun hc=>absurd hc (by decide)⟩,tA (kU ..)⟩,⟨h.CL,fun i r hr=>?_⟩,⟨fun r hr=>HL r (h.Hs r hr).1,by omega⟩,⟨fun r hr=>HL r (h.Ma r hr).1,by omega⟩,⟨fun r hr=>Sb r (h.Ra r hr).1,by omega⟩,⟨fun r hr=>Sb r (h.Rb r hr).1,by omega⟩⟩
  · obtain ⟨h1, h2, _⟩ := nu hx
    exact⟨h1,h2⟩
  · obtain ⟨h1, h2⟩ := h.Ht.1 r (acy hr)
    have hi:=(acA.1 hr).1
    have hl:=h.CL
    obtain⟨s,hs⟩:∃s,(bN rk lo n)[i]?=some s:=⟨_,acE (by omega)⟩
    refine⟨h1,h.Ht.2 i s r hs hr i hs,fun x hx=>?_⟩
    have:=h2 x hx
    exact⟨this.1,by omega⟩
theorem Hi {n:Nat} {l:List I3} {rk ins:List Int} {ways ls:List I5} {lo:Int} {far so si:List (List Int)} {outs jA:List (List I2)} (hm:ee n l=0) (hn:n≤12) (h:ze n l n rk ways ins ls) (hT:mI n rk lo (bN rk lo n) far outs jA so si):
    dC n l rk ways (bN rk lo n) far outs jA so si=0:=by
  obtain⟨_,_,m2,_⟩:=nV hm
  have hr:=h.BN
  have hw:=h.Tu
  unfold dC
  have h1:ec rk ways=0:=xl (by omega) (EJ h m2)
  have h2:dH n (bN rk lo n) far outs jA so si=0:=by
    unfold dH
    rw[if_neg (by omega),if_pos (EI hT)]
  rw[if_neg (by rw[hm];decide),if_neg (by rw[h1];decide),if_neg (by rw[h2];decide),if_pos]
  refine⟨by omega,fun x hx hq=>?_⟩
  rcases(h.T0 x hx).1 with⟨_,_,d3⟩|⟨d1,_⟩
  · exact d3
  · have:=d1.1;omega
end Go.Gr
namespace Go.Gr
open Go.Rl Go.dn Go.jJ
theorem EK {n:Nat} {l:List I3} {rk ins:List Int} {ways ls:List I5} {lo:Int} {g:List Int} {far so si:List (List Int)} {outs jA:List (List I2)} (hm:ee n l=0) (hn:n≤12) (h:ze n l n rk ways ins ls) (hT:mI n rk lo g far outs jA so si):dC n l rk ways g far outs jA so si=0:=by
  have e:=hT.Dp
  subst e
  exact Hi hm hn h hT
theorem Jv {x:nf} {A R K:Nat} (h:mP x=0) (hs:yZ A R K x.ar x.rk x.ws x.g x.far x.outs x.ins x.so x.si) (hA:A≤300) (hR:R≤300) (hK:K≤1000):mB (cP (dR x))=some x:=by
  have hm:=hs.fX (n:=x.n)
  have h1:K*(4+8*K)≤1000*8004:=afS hK (by omega)
  have h2:K*(8+16*K)≤1000*16008:=afS hK (by omega)
  have As:dX (dR x)≤4000000000:=by
    refine acR hm ?_
    omega
  exact A7 (DK h (wG As) (by decide)) (by omega) h
end Go.Gr
