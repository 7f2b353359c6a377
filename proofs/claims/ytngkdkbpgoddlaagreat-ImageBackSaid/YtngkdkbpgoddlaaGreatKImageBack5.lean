/- The law ImageBack: texts that its row leans on (5). -/
import Derived.Test.YtngkdkbpgoddlaaGreatKImageBack4
set_option linter.unusedVariables false
set_option linter.unusedSimpArgs false
set_option linter.unusedSectionVars false
set_option maxHeartbeats 4000000
set_option maxRecDepth 100000
open Bool renaming and_eq_true → adk
open Decidable renaming not_not → acX
open Go.IntKind renaming i64 → adE
open Go.Proofs.Tryz renaming underlying3 → acy, underlying25 → acz, prog → acD, underlying28 → acE, underlying98 → acG, underlying24 → acJ, underlying26 → acL, underlying96 → acN, underlying34 → acO, underlying22 → acP, underlying29 → acQ, underlying32 → acR, underlying100 → acT, underlying38 → acW, underlying135 → acY, underlying118 → ac1, underlying30 → ac5, underlying111 → adt, underlying5 → ady, underlying89 → adz, underlying282 → adF, underlying45 → adL, underlying75 → aec, underlying82 → ael, underlying263 → aep, underlying9 → aeq, underlying4 → aeJ, underlying47 → aeS, underlying161 → afS, underlying87 → afY, func10 → af6, func14 → af7, func197 → agw, func211 → agx, func36 → agF, func57 → agG, func15 → agI, func12 → agJ, func105 → ahb, func111 → ahf, func24 → ahz, func45 → ahB, func41 → ahH, func89 → ahI, func112 → aiu, func114 → aiv, func113 → aiw, func196 → aix, func58 → aiP, func51 → aiV, func19 → aiW, func21 → aiX, func17 → aiY, func23 → aiZ, func90 → ai0, func107 → aka, func172 → akd, func198 → ake, func159 → akf, func106 → akg, func108 → akh, func154 → aki
open Go.Value renaming bool → acV, int → ac4
open Int renaming toNat_natCast → aek
open List renaming length_append → acB, mem_of_getElem? → acC, getElem?_eq_some_iff → acF, length_singleton → acH, length_cons → acK, getElem?_eq_getElem → acM, length_nil → acS, not_mem_nil → ac0, take_of_length_le → ac2, replicate → ac3, mem_cons → ac6, length_replicate → adb, getElem?_of_mem → ade, length_drop → adj, take_length → adm, length_set → adO, length → adQ, map_append → ad7
open Nat renaming le_of_ble_eq_true → acA, le_trans → acU, lt_or_ge → adi, zero_add → aeY, mod_eq_of_lt → afG, le_of_eq → ag3
open Option.some renaming inj → ac7
open Prod renaming ext → ad1
namespace Go.Proofs.YtngkdkbpgoddlaaGreat
open Go.RowKit Go.Rl
open Go.Gr
theorem vA (gv fv ov iv cW cX:Value) (g:List Int) (w:World) (hg:Sl vI w gv g) (x:Int):aM acD 172 #[.agg #[gv,fv,ov,iv,cW,cX],.int .i64 x] w fun r w'=>r=.int .i64 (kV (fun y=>y=x) g)∧Ext w w':=by
 refine aM.aZ akd ?_
 rw[cS]
 have hN:=aH.nil w none_
 refine RW.aN ?_
 refine RL.aL (bJ (cs:=[gv,fv,ov,iv,cW,cX]) rfl rfl hN ?_)
 clear hN
 intro g1 w1 (hN:aH w none_ w1 [_])
 refine RL.ag (v:=.int .i64 (0)) ai (RL.ak ?_)
 iterate 2 refine RW.seq ?_
 refine RW.region (RL.ag (v:=.int .i64 (0)) ai (RL.ak (RW.block ?_)))
 refine RW.loop (fun k R0 cv=>∃i:Nat,R0 1=.int .i64 (x)∧R0 2=vP g1∧R0 5=vJ i∧aH w none_ cv [.aJ g1 [gv,fv,ov,iv,cW,cX] 32]∧(i+k=g.length)∧(∀y∈g.take i,¬(y=x))) (g.length) ?_ ?_
 exact⟨0,rfl,rfl,rfl,hN,by omega,fun x hx=>by cases hx⟩
 clear hN
 rintro k R0 cv ⟨i,bN,bQ,cy,hN,fP,fA⟩
 have cz:=k5 bN bQ cy
 obtain⟨fV,rfl⟩:=cz
 clear bN bQ cy
 iterate 2 refine RW.seq ?_
 refine RW.region (RL.ag (v:=vJ i) U (RL.ag (ah acR rfl cc) (RL.ag (aj acz (hN.aJ 0 rfl)) ?_)))
 have iH:=(hg.o.now hN).bw
 refine RL.ag (aQ acz (hg.o.now hN)) (RL.ag (aK) (RL.ak ?_))
 refine RW.aG _ (fun cD=>?_) (fun cD=>?_)
 refine RW.skip (aA (RW.seq (RW.block (RW.aN (RL.ag (ah acR rfl cc) (RL.ag (aj acz (hN.aJ 0 rfl)) (RL.ag (v:=vJ i) U (RL.ag (aC acz bI (hg.o.now hN)) ?_))))))))
 have aO:=cQ (g) i
 obtain⟨ap,bV⟩:=aO
 refine RL.ag (aF (m:=i) (a:=ap) acy (hg.o.now hN) bV) (RL.ag (v:=.int .i64 (x)) U (RL.ag (ca) (RL.ak ?_)))
 refine RW.aG _ (fun CR=>?_) (fun CR=>?_)
 refine RW.aN (RL.ag (v:=vJ i) U (RL.ag (v:=vJ i) ai (RL.ak (RW.ret (bb ?_)))))
 iterate 2 refine aU ?_
 refine bb (aU (bc (RV.tmp rfl) ?_))
 exact⟨congrArg (ac4 .i64) (nK fA bV CR).symm,hN.aX⟩
 refine RW.skip (ba (aA (RW.region (RL.ag (v:=vJ i) U (RL.ag (aD rfl rfl rfl (bg (by omega) (by omega))) (RL.ag (v:=.int .i64 ((i:Int)+1)) ai (RL.ak ?_)))))))
 exact⟨k-1,by omega,i+1,rfl,rfl,rfl,hN,by omega,fun x hx=>(dk bV hx).elim (fA x) (fun e=>e▸CR)⟩
 refine RW.exit ?_
 iterate 2 refine bP ?_
 refine aY (aA (RW.aN (RL.ag (v:=.int .i64 (-1)) ai (RL.ak (RW.ret (bc (RV.tmp rfl) ?_))))))
 rw[ac2 (by omega)]at fA
 exact⟨congrArg (ac4 .i64) (qR fA).symm,hN.aX⟩
theorem nw (d least:Int) (w:World):aM acD 112 #[.int .i64 d,.int .i64 least] w fun r w'=>r=.bool (decide (dh least d))∧Ext w w':=by
 refine aM.aZ aiu ?_
 rw[cS]
 have hN:=aH.nil w none_
 refine RW.aN (RL.ag (v:=.bool false) ai (RL.bY (RL.ag (v:=.int .i64 (d)) U (RL.ag (v:=.int .i64 (least)) U (RL.ag (ck) ?_)))))
 refine RL.ag (v:=.bool (decide (least≤d))) U ?_
 by_cases kP:least≤d
 rw[decide_eq_true kP]
 refine RL.aw (v:=.int .i64 (d)) U (RL.aw (mu rfl rfl) (RL.ag (v:=.bool (decide (d≤1152921504606846976))) (al) (RL.ag (v:=.bool (decide (d≤1152921504606846976))) ai (RL.ak (RW.ret (bc (RV.tmp rfl) ?_))))))
 exact⟨congrArg acV (decide_eq_decide.2 ⟨fun h=>⟨by omega,h⟩,fun h=>h.2⟩),hN.aX⟩
 rw[decide_eq_false kP]
 iterate 2 refine RL.bH ?_
 refine RL.ag (v:=.bool false) (aB) (RL.ag (v:=.bool false) ai (RL.ak (RW.ret (bc (RV.tmp rfl) ?_))))
 exact⟨congrArg acV (decide_eq_false (fun h=>by have:=h.1;omega)).symm,hN.aX⟩
theorem k9 (n:Int) (gv fv ov iv cW cX:Value) (g:List Int) (w:World) (hg:Sl vI w gv g) (lv:Value) (l:List Int) (hl:Sl vI w lv l) (gr:Int):aM acD 111 #[.int .i64 n,.agg #[gv,fv,ov,iv,cW,cX],lv,.int .i64 gr] w fun r w'=>r=.bool (decide (iw n (qj g gr) l))∧Ext w w':=by
 refine aM.aZ ahf ?_
 rw[kE]
 have hN:=aH.nil w none_
 refine RW.aN ?_
 refine RL.aL (bJ (cs:=[gv,fv,ov,iv,cW,cX]) rfl rfl hN ?_)
 clear hN
 intro g1 w1 (hN:aH w none_ w1 [_])
 refine RL.ag (v:=.bool false) ai (RL.ak ?_)
 iterate 2 refine RW.seq ?_
 refine RW.region (RL.ag (v:=.int .i64 (0)) ai (RL.ak (RW.block ?_)))
 refine RW.loop (fun k R0 cv=>∃i:Nat,R0 0=.int .i64 (n)∧R0 2=lv∧R0 3=.int .i64 (gr)∧R0 5=vP g1∧R0 9=vJ i∧aH w none_ cv [.aJ g1 [gv,fv,ov,iv,cW,cX] 32]∧(i+k=l.length)∧(iw n (qj g gr) (l.take i))) (l.length) ?_ ?_
 exact⟨0,rfl,rfl,rfl,rfl,rfl,hN,by omega,KV _ _⟩
 clear hN
 rintro k R0 cv ⟨i,cF,bQ,cb,cy,dN,hN,fP,r6⟩
 have cz:=hC cF bQ cb cy dN
 obtain⟨fV,rfl⟩:=cz
 clear cF bQ cb cy dN
 iterate 2 refine RW.seq ?_
 refine RW.region (RL.ag (v:=vJ i) U (RL.ag (v:=lv) U ?_))
 have iH:=(hl.o.now hN).bw
 refine RL.ag (aQ acz (hl.o.now hN)) (RL.ag (aK) (RL.ak ?_))
 refine RW.aG _ (fun cD=>?_) (fun cD=>?_)
 refine RW.skip (aA (RW.seq (RW.block (RW.aN (RL.ag (v:=.int .i64 (0)) ai (RL.ak ?_))))))
 iterate 2 refine RW.seq ?_
 have aO:=cQ l i
 obtain⟨ap,bV⟩:=aO
 obtain⟨sM,jD⟩:∃y,l[i-1]?=some y:=⟨_,acM (by omega)⟩
 replace hN:=hN.ext (Ext.drew cv)
 refine RW.bA (fun u=>aH w none_ u [.aJ g1 [gv,fv,ov,iv,cW,cX] 32]) 7 [(0,0),(1,0),(2,0),(3,0),(4,0),(5,1),(6,0)] (by intro _ _ _ h;exact h) hN (RQ.an rfl (fun w hS=>(aE (cs:=[gv,fv,ov,iv,cW,cX]) acR iA (hS.aJ 0 rfl))) (RQ.an (v:=lv) rfl (fun w hS=>U) (RQ.an (v:=vJ i) rfl (fun w hS=>U) (RQ.an rfl (fun w hS=>(aC acz bI (hl.o.now hS))) (RQ.an rfl (fun w hS=>(aF (m:=i) (a:=ap) acy (hl.o.now hS) bV)) ?_)))))
 refine RQ.bW rfl (bu akd rfl rfl rfl rfl ((vA _ _ _ _ _ _ g _ (hg.o.now hN) (ap)).mono ?_))
 rintro _ w4 ⟨rfl,bl⟩
 replace hN:=hN.ext bl
 clear bl
 refine⟨hN,?_⟩
 refine RQ.an rfl (fun w hS=>(ck)) (RQ.bq (aA ?_))
 refine RW.aG _ (fun VZ=>?_) (fun VZ=>?_)
 refine RW.region (RL.ag (v:=.int .i64 (1)) ai (RL.ak (RW.seq ?_)))
 replace hN:=hN.ext (Ext.drew w4)
 refine RW.bA (fun u=>aH w none_ u [.aJ g1 [gv,fv,ov,iv,cW,cX] 32]) 38 [(0,0),(1,0),(2,0),(3,0),(4,0),(5,0),(6,0),(7,0),(8,0),(9,0),(10,0),(11,0),(12,0),(13,0),(14,0),(15,0),(16,0),(17,0),(18,0),(19,0),(20,0),(21,0),(22,0),(23,0),(24,0),(25,0),(26,0),(27,0),(28,0),(29,0),(30,0),(31,0),(32,0),(33,0),(34,0),(35,0),(36,0),(37,0)] (by intro _ _ _ h;exact h) hN (RQ.an (v:=lv) rfl (fun w hS=>U) (RQ.an (v:=vJ i) rfl (fun w hS=>U) (RQ.an rfl (fun w hS=>(aC acz bI (hl.o.now hS))) (RQ.an rfl (fun w hS=>(aF (m:=i) (a:=ap) acy (hl.o.now hS) bV)) (RQ.an rfl (fun w hS=>(aK)) (RQ.an (v:=.bool (decide (ap<0))) rfl (fun w hS=>U) ?_))))))
 by_cases nG:ap<0
 rw[decide_eq_true nG]
 iterate 6 refine RQ.bU rfl ?_
 refine RQ.an (v:=.bool true) rfl (fun w hS=>(al)) (RQ.an (v:=.bool true) rfl (fun w hS=>U) ?_)
 iterate 3 refine RQ.bU rfl ?_
 iterate 10 refine RQ.dP rfl ?_
 refine RQ.bU rfl (RQ.an (v:=.bool true) rfl (fun w hS=>(al)) (RQ.an (v:=.bool true) rfl (fun w hS=>U) ?_))
 iterate 3 refine RQ.bU rfl ?_
 iterate 3 refine RQ.dP rfl ?_
 refine RQ.bU rfl (RQ.an (v:=.bool true) rfl (fun w hS=>(al)) (RQ.bq (aA (RW.bD (RW.aN (RL.ag (v:=.bool false) ai (RL.ak ?_)))))))
 refine RW.ret (bb ?_)
 iterate 2 refine aU ?_
 refine bb (aU (bc (RV.tmp rfl) ?_))
 exact⟨congrArg acV (decide_eq_false (fun h=>by
  have h1:=h.1 _ (acC bV)
  have h2:=h1.2
  unfold qj at h2
  first
  |omega
  |(rw[if_pos (di.1 (by omega))]at h2;omega)
  |(rw[if_neg (fun h=>absurd (di.2 h) (by omega))]at h2;omega)
  |(have h3:=h.2 (i-1) sM ap jD (by rw[show i-1+1=i by omega];exact bV);omega))).symm,hN.aX⟩
 rw[decide_eq_false nG]
 refine RQ.aR (v:=lv) rfl (fun w hS=>U) (RQ.aR (v:=vJ i) rfl (fun w hS=>U) (RQ.aR rfl (fun w hS=>(aC acz bI (hl.o.now hS))) (RQ.aR rfl (fun w hS=>(aF (m:=i) (a:=ap) acy (hl.o.now hS) bV)) (RQ.aR (v:=.int .i64 (n)) rfl (fun w hS=>U) (RQ.aR rfl (fun w hS=>(ck)) (RQ.an (v:=.bool (decide (n≤ap))) rfl (fun w hS=>(aB)) (RQ.an (v:=.bool (decide (n≤ap))) rfl (fun w hS=>U) ?_)))))))
 by_cases uq:n≤ap
 rw[decide_eq_true uq]
 iterate 3 refine RQ.bU rfl ?_
 iterate 10 refine RQ.dP rfl ?_
 refine RQ.bU rfl (RQ.an (v:=.bool true) rfl (fun w hS=>(al)) (RQ.an (v:=.bool true) rfl (fun w hS=>U) ?_))
 iterate 3 refine RQ.bU rfl ?_
 iterate 3 refine RQ.dP rfl ?_
 refine RQ.bU rfl (RQ.an (v:=.bool true) rfl (fun w hS=>(al)) (RQ.bq (aA (RW.bD (RW.aN (RL.ag (v:=.bool false) ai (RL.ak ?_)))))))
 refine RW.ret (bb ?_)
 iterate 2 refine aU ?_
 refine bb (aU (bc (RV.tmp rfl) ?_))
 exact⟨congrArg acV (decide_eq_false (fun h=>by
  have h1:=h.1 _ (acC bV)
  have h2:=h1.2
  unfold qj at h2
  first
  |omega
  |(rw[if_pos (di.1 (by omega))]at h2;omega)
  |(rw[if_neg (fun h=>absurd (di.2 h) (by omega))]at h2;omega)
  |(have h3:=h.2 (i-1) sM ap jD (by rw[show i-1+1=i by omega];exact bV);omega))).symm,hN.aX⟩
 rw[decide_eq_false uq]
 refine RQ.aR (v:=vJ i) rfl (fun w hS=>U) (RQ.aR rfl (fun w hS=>(cq)) (RQ.aR (v:=.bool (decide (0<(i:Int)))) rfl (fun w hS=>U) ?_))
 by_cases uo:0<(i:Int)
 rw[decide_eq_true uo]
 refine RQ.aR (v:=lv) rfl (fun w hS=>U) (RQ.aR (v:=vJ i) rfl (fun w hS=>U) (RQ.aR rfl (fun w hS=>(aC acz bI (hl.o.now hS))) (RQ.aR rfl (fun w hS=>(aF (m:=i) (a:=ap) acy (hl.o.now hS) bV)) (RQ.aR (v:=lv) rfl (fun w hS=>U) (RQ.aR (v:=vJ i) rfl (fun w hS=>U) (RQ.aR rfl (fun w hS=>(aD rfl rfl rfl (pn (by omega) (by omega)))) (RQ.aR rfl (fun w hS=>(aC acz bI (hl.o.now hS))) (RQ.aR rfl (fun w hS=>(aF (m:=((i:Int)-1).toNat) (a:=sM) acy (hl.o.now hS) (by rw[show((i:Int)-1).toNat=i-1 by omega];exact jD))) (RQ.aR rfl (fun w hS=>(mu rfl rfl)) ?_)))))))))
 refine RQ.aR (v:=.bool (decide (ap≤sM))) rfl (fun w hS=>(al)) (RQ.an (v:=.bool (decide (ap≤sM))) rfl (fun w hS=>(aB)) (RQ.an (v:=.bool (decide (ap≤sM))) rfl (fun w hS=>U) ?_))
 by_cases um:ap≤sM
 rw[decide_eq_true um]
 iterate 3 refine RQ.bU rfl ?_
 iterate 3 refine RQ.dP rfl ?_
 refine RQ.bU rfl (RQ.an (v:=.bool true) rfl (fun w hS=>(al)) (RQ.bq (aA (RW.bD (RW.aN (RL.ag (v:=.bool false) ai (RL.ak ?_)))))))
 refine RW.ret (bb ?_)
 iterate 2 refine aU ?_
 refine bb (aU (bc (RV.tmp rfl) ?_))
 exact⟨congrArg acV (decide_eq_false (fun h=>by
  have h1:=h.1 _ (acC bV)
  have h2:=h1.2
  unfold qj at h2
  first
  |omega
  |(rw[if_pos (di.1 (by omega))]at h2;omega)
  |(rw[if_neg (fun h=>absurd (di.2 h) (by omega))]at h2;omega)
  |(have h3:=h.2 (i-1) sM ap jD (by rw[show i-1+1=i by omega];exact bV);omega))).symm,hN.aX⟩
 rw[decide_eq_false um]
 refine RQ.aR (v:=.int .i64 (gr)) rfl (fun w hS=>U) (RQ.aR rfl (fun w hS=>(aK)) (RQ.aR (v:=.bool (decide (gr<2))) rfl (fun w hS=>U) ?_))
 by_cases kr:gr<2
 rw[decide_eq_true kr]
 refine RQ.aR (v:=.int .i64 (1)) rfl (fun w hS=>U) (RQ.aR (v:=.int .i64 (gr)) rfl (fun w hS=>U) (RQ.aR rfl (fun w hS=>(bj)) (RQ.aR (v:=.bool (decide (¬1=gr))) rfl (fun w hS=>(al)) (RQ.an (v:=.bool (decide (¬1=gr))) rfl (fun w hS=>(aB)) (RQ.bq (aA ?_))))))
 refine RW.aG _ (fun CQ=>?_) (fun CQ=>?_)
 refine RW.aN (RL.ag (v:=.bool false) ai (RL.ak (RW.ret (bb ?_))))
 iterate 2 refine aU ?_
 refine bb (aU (bc (RV.tmp rfl) ?_))
 exact⟨congrArg acV (decide_eq_false (fun h=>by
  have h1:=h.1 _ (acC bV)
  have h2:=h1.2
  unfold qj at h2
  first
  |omega
  |(rw[if_pos (di.1 (by omega))]at h2;omega)
  |(rw[if_neg (fun h=>absurd (di.2 h) (by omega))]at h2;omega)
  |(have h3:=h.2 (i-1) sM ap jD (by rw[show i-1+1=i by omega];exact bV);omega))).symm,hN.aX⟩
 refine RW.skip (ba (aA (RW.region (RL.ag (v:=vJ i) U (RL.ag (aD rfl rfl rfl (bg (by omega) (by omega))) (RL.ag (v:=.int .i64 ((i:Int)+1)) ai (RL.ak ?_)))))))
 exact⟨k-1,by omega,i+1,rfl,rfl,rfl,rfl,rfl,hN,by omega,jL r6 bV (by omega) (fun OT=>by first|omega|(rw[if_pos (di.1 (by omega))];omega)|(rw[if_neg (fun h=>absurd (di.2 h) (by omega))];omega)) (fun y hi hy=>by first|omega|(rw[jD]at hy;cases hy;omega))⟩
 rw[decide_eq_false kr]
 iterate 3 refine RQ.bU rfl ?_
 refine RQ.aR (v:=.bool false) rfl (fun w hS=>(aB)) (RQ.an (v:=.bool false) rfl (fun w hS=>(aB)) (RQ.bq (aA (RW.cj (RW.skip (ba (aA (RW.region (RL.ag (v:=vJ i) U ?_)))))))))
 refine RL.ag (aD rfl rfl rfl (bg (by omega) (by omega))) (RL.ag (v:=.int .i64 ((i:Int)+1)) ai (RL.ak ?_))
 exact⟨k-1,by omega,i+1,rfl,rfl,rfl,rfl,rfl,hN,by omega,jL r6 bV (by omega) (fun OT=>by first|omega|(rw[if_pos (di.1 (by omega))];omega)|(rw[if_neg (fun h=>absurd (di.2 h) (by omega))];omega)) (fun y hi hy=>by first|omega|(rw[jD]at hy;cases hy;omega))⟩
 rw[decide_eq_false uo]
 iterate 10 refine RQ.bU rfl ?_
 refine RQ.aR (v:=.bool false) rfl (fun w hS=>(aB)) (RQ.an (v:=.bool false) rfl (fun w hS=>(aB)) (RQ.an (v:=.bool false) rfl (fun w hS=>U) (RQ.aR (v:=.int .i64 (gr)) rfl (fun w hS=>U) (RQ.aR rfl (fun w hS=>(aK)) (RQ.aR (v:=.bool (decide (gr<2))) rfl (fun w hS=>U) ?_)))))
 by_cases kr:gr<2
 rw[decide_eq_true kr]
 refine RQ.aR (v:=.int .i64 (1)) rfl (fun w hS=>U) (RQ.aR (v:=.int .i64 (gr)) rfl (fun w hS=>U) (RQ.aR rfl (fun w hS=>(bj)) (RQ.aR (v:=.bool (decide (¬1=gr))) rfl (fun w hS=>(al)) (RQ.an (v:=.bool (decide (¬1=gr))) rfl (fun w hS=>(aB)) (RQ.bq (aA ?_))))))
 refine RW.aG _ (fun CQ=>?_) (fun CQ=>?_)
 refine RW.aN (RL.ag (v:=.bool false) ai (RL.ak (RW.ret (bb ?_))))
 iterate 2 refine aU ?_
 refine bb (aU (bc (RV.tmp rfl) ?_))
 exact⟨congrArg acV (decide_eq_false (fun h=>by
  have h1:=h.1 _ (acC bV)
  have h2:=h1.2
  unfold qj at h2
  first
  |omega
  |(rw[if_pos (di.1 (by omega))]at h2;omega)
  |(rw[if_neg (fun h=>absurd (di.2 h) (by omega))]at h2;omega)
  |(have h3:=h.2 (i-1) sM ap jD (by rw[show i-1+1=i by omega];exact bV);omega))).symm,hN.aX⟩
 refine RW.skip (ba (aA (RW.region (RL.ag (v:=vJ i) U (RL.ag (aD rfl rfl rfl (bg (by omega) (by omega))) (RL.ag (v:=.int .i64 ((i:Int)+1)) ai (RL.ak ?_)))))))
 exact⟨k-1,by omega,i+1,rfl,rfl,rfl,rfl,rfl,hN,by omega,jL r6 bV (by omega) (fun OT=>by first|omega|(rw[if_pos (di.1 (by omega))];omega)|(rw[if_neg (fun h=>absurd (di.2 h) (by omega))];omega)) (fun y hi hy=>by first|omega|(rw[jD]at hy;cases hy;omega))⟩
 rw[decide_eq_false kr]
 iterate 3 refine RQ.bU rfl ?_
 refine RQ.aR (v:=.bool false) rfl (fun w hS=>(aB)) (RQ.an (v:=.bool false) rfl (fun w hS=>(aB)) (RQ.bq (aA (RW.cj (RW.skip (ba (aA (RW.region (RL.ag (v:=vJ i) U ?_)))))))))
 refine RL.ag (aD rfl rfl rfl (bg (by omega) (by omega))) (RL.ag (v:=.int .i64 ((i:Int)+1)) ai (RL.ak ?_))
 exact⟨k-1,by omega,i+1,rfl,rfl,rfl,rfl,rfl,hN,by omega,jL r6 bV (by omega) (fun OT=>by first|omega|(rw[if_pos (di.1 (by omega))];omega)|(rw[if_neg (fun h=>absurd (di.2 h) (by omega))];omega)) (fun y hi hy=>by first|omega|(rw[jD]at hy;cases hy;omega))⟩
 refine RW.skip (aA (RW.seq ?_))
 replace hN:=hN.ext (Ext.drew w4)
 refine RW.bA (fun u=>aH w none_ u [.aJ g1 [gv,fv,ov,iv,cW,cX] 32]) 38 [(0,0),(1,0),(2,0),(3,0),(4,0),(5,0),(6,0),(7,0),(8,0),(9,0),(10,0),(11,0),(12,0),(13,0),(14,0),(15,0),(16,0),(17,0),(18,0),(19,0),(20,0),(21,0),(22,0),(23,0),(24,0),(25,0),(26,0),(27,0),(28,0),(29,0),(30,0),(31,0),(32,0),(33,0),(34,0),(35,0),(36,0),(37,0)] (by intro _ _ _ h;exact h) hN (RQ.an (v:=lv) rfl (fun w hS=>U) (RQ.an (v:=vJ i) rfl (fun w hS=>U) (RQ.an rfl (fun w hS=>(aC acz bI (hl.o.now hS))) (RQ.an rfl (fun w hS=>(aF (m:=i) (a:=ap) acy (hl.o.now hS) bV)) (RQ.an rfl (fun w hS=>(aK)) (RQ.an (v:=.bool (decide (ap<0))) rfl (fun w hS=>U) ?_))))))
 by_cases nG:ap<0
 rw[decide_eq_true nG]
 iterate 6 refine RQ.bU rfl ?_
 refine RQ.an (v:=.bool true) rfl (fun w hS=>(al)) (RQ.an (v:=.bool true) rfl (fun w hS=>U) ?_)
 iterate 3 refine RQ.bU rfl ?_
 iterate 10 refine RQ.dP rfl ?_
 refine RQ.bU rfl (RQ.an (v:=.bool true) rfl (fun w hS=>(al)) (RQ.an (v:=.bool true) rfl (fun w hS=>U) ?_))
 iterate 3 refine RQ.bU rfl ?_
 iterate 3 refine RQ.dP rfl ?_
 refine RQ.bU rfl (RQ.an (v:=.bool true) rfl (fun w hS=>(al)) (RQ.bq (aA (RW.bD (RW.aN (RL.ag (v:=.bool false) ai (RL.ak ?_)))))))
 refine RW.ret (bb ?_)
 iterate 2 refine aU ?_
 refine bb (aU (bc (RV.tmp rfl) ?_))
 exact⟨congrArg acV (decide_eq_false (fun h=>by
  have h1:=h.1 _ (acC bV)
  have h2:=h1.2
  unfold qj at h2
  first
  |omega
  |(rw[if_pos (di.1 (by omega))]at h2;omega)
  |(rw[if_neg (fun h=>absurd (di.2 h) (by omega))]at h2;omega)
  |(have h3:=h.2 (i-1) sM ap jD (by rw[show i-1+1=i by omega];exact bV);omega))).symm,hN.aX⟩
 rw[decide_eq_false nG]
 refine RQ.aR (v:=lv) rfl (fun w hS=>U) (RQ.aR (v:=vJ i) rfl (fun w hS=>U) (RQ.aR rfl (fun w hS=>(aC acz bI (hl.o.now hS))) (RQ.aR rfl (fun w hS=>(aF (m:=i) (a:=ap) acy (hl.o.now hS) bV)) (RQ.aR (v:=.int .i64 (n)) rfl (fun w hS=>U) (RQ.aR rfl (fun w hS=>(ck)) (RQ.an (v:=.bool (decide (n≤ap))) rfl (fun w hS=>(aB)) (RQ.an (v:=.bool (decide (n≤ap))) rfl (fun w hS=>U) ?_)))))))
 by_cases uq:n≤ap
 rw[decide_eq_true uq]
 iterate 3 refine RQ.bU rfl ?_
 iterate 10 refine RQ.dP rfl ?_
 refine RQ.bU rfl (RQ.an (v:=.bool true) rfl (fun w hS=>(al)) (RQ.an (v:=.bool true) rfl (fun w hS=>U) ?_))
 iterate 3 refine RQ.bU rfl ?_
 iterate 3 refine RQ.dP rfl ?_
 refine RQ.bU rfl (RQ.an (v:=.bool true) rfl (fun w hS=>(al)) (RQ.bq (aA (RW.bD (RW.aN (RL.ag (v:=.bool false) ai (RL.ak ?_)))))))
 refine RW.ret (bb ?_)
 iterate 2 refine aU ?_
 refine bb (aU (bc (RV.tmp rfl) ?_))
 exact⟨congrArg acV (decide_eq_false (fun h=>by
  have h1:=h.1 _ (acC bV)
  have h2:=h1.2
  unfold qj at h2
  first
  |omega
  |(rw[if_pos (di.1 (by omega))]at h2;omega)
  |(rw[if_neg (fun h=>absurd (di.2 h) (by omega))]at h2;omega)
  |(have h3:=h.2 (i-1) sM ap jD (by rw[show i-1+1=i by omega];exact bV);omega))).symm,hN.aX⟩
 rw[decide_eq_false uq]
 refine RQ.aR (v:=vJ i) rfl (fun w hS=>U) (RQ.aR rfl (fun w hS=>(cq)) (RQ.aR (v:=.bool (decide (0<(i:Int)))) rfl (fun w hS=>U) ?_))
 by_cases uo:0<(i:Int)
 rw[decide_eq_true uo]
 refine RQ.aR (v:=lv) rfl (fun w hS=>U) (RQ.aR (v:=vJ i) rfl (fun w hS=>U) (RQ.aR rfl (fun w hS=>(aC acz bI (hl.o.now hS))) (RQ.aR rfl (fun w hS=>(aF (m:=i) (a:=ap) acy (hl.o.now hS) bV)) (RQ.aR (v:=lv) rfl (fun w hS=>U) (RQ.aR (v:=vJ i) rfl (fun w hS=>U) (RQ.aR rfl (fun w hS=>(aD rfl rfl rfl (pn (by omega) (by omega)))) (RQ.aR rfl (fun w hS=>(aC acz bI (hl.o.now hS))) (RQ.aR rfl (fun w hS=>(aF (m:=((i:Int)-1).toNat) (a:=sM) acy (hl.o.now hS) (by rw[show((i:Int)-1).toNat=i-1 by omega];exact jD))) (RQ.aR rfl (fun w hS=>(mu rfl rfl)) ?_)))))))))
 refine RQ.aR (v:=.bool (decide (ap≤sM))) rfl (fun w hS=>(al)) (RQ.an (v:=.bool (decide (ap≤sM))) rfl (fun w hS=>(aB)) (RQ.an (v:=.bool (decide (ap≤sM))) rfl (fun w hS=>U) ?_))
 by_cases um:ap≤sM
 rw[decide_eq_true um]
 iterate 3 refine RQ.bU rfl ?_
 iterate 3 refine RQ.dP rfl ?_
 refine RQ.bU rfl (RQ.an (v:=.bool true) rfl (fun w hS=>(al)) (RQ.bq (aA (RW.bD (RW.aN (RL.ag (v:=.bool false) ai (RL.ak ?_)))))))
 refine RW.ret (bb ?_)
 iterate 2 refine aU ?_
 refine bb (aU (bc (RV.tmp rfl) ?_))
 exact⟨congrArg acV (decide_eq_false (fun h=>by
  have h1:=h.1 _ (acC bV)
  have h2:=h1.2
  unfold qj at h2
  first
  |omega
  |(rw[if_pos (di.1 (by omega))]at h2;omega)
  |(rw[if_neg (fun h=>absurd (di.2 h) (by omega))]at h2;omega)
  |(have h3:=h.2 (i-1) sM ap jD (by rw[show i-1+1=i by omega];exact bV);omega))).symm,hN.aX⟩
 rw[decide_eq_false um]
 refine RQ.aR (v:=.int .i64 (gr)) rfl (fun w hS=>U) (RQ.aR rfl (fun w hS=>(aK)) (RQ.aR (v:=.bool (decide (gr<2))) rfl (fun w hS=>U) ?_))
 by_cases kr:gr<2
 rw[decide_eq_true kr]
 refine RQ.aR (v:=.int .i64 (0)) rfl (fun w hS=>U) (RQ.aR (v:=.int .i64 (gr)) rfl (fun w hS=>U) (RQ.aR rfl (fun w hS=>(bj)) (RQ.aR (v:=.bool (decide (¬0=gr))) rfl (fun w hS=>(al)) (RQ.an (v:=.bool (decide (¬0=gr))) rfl (fun w hS=>(aB)) (RQ.bq (aA ?_))))))
 refine RW.aG _ (fun CQ=>?_) (fun CQ=>?_)
 refine RW.aN (RL.ag (v:=.bool false) ai (RL.ak (RW.ret (bb ?_))))
 iterate 2 refine aU ?_
 refine bb (aU (bc (RV.tmp rfl) ?_))
 exact⟨congrArg acV (decide_eq_false (fun h=>by
  have h1:=h.1 _ (acC bV)
  have h2:=h1.2
  unfold qj at h2
  first
  |omega
  |(rw[if_pos (di.1 (by omega))]at h2;omega)
  |(rw[if_neg (fun h=>absurd (di.2 h) (by omega))]at h2;omega)
  |(have h3:=h.2 (i-1) sM ap jD (by rw[show i-1+1=i by omega];exact bV);omega))).symm,hN.aX⟩
 refine RW.skip (ba (aA (RW.region (RL.ag (v:=vJ i) U (RL.ag (aD rfl rfl rfl (bg (by omega) (by omega))) (RL.ag (v:=.int .i64 ((i:Int)+1)) ai (RL.ak ?_)))))))
 exact⟨k-1,by omega,i+1,rfl,rfl,rfl,rfl,rfl,hN,by omega,jL r6 bV (by omega) (fun OT=>by first|omega|(rw[if_pos (di.1 (by omega))];omega)|(rw[if_neg (fun h=>absurd (di.2 h) (by omega))];omega)) (fun y hi hy=>by first|omega|(rw[jD]at hy;cases hy;omega))⟩
 rw[decide_eq_false kr]
 iterate 3 refine RQ.bU rfl ?_
 refine RQ.aR (v:=.bool false) rfl (fun w hS=>(aB)) (RQ.an (v:=.bool false) rfl (fun w hS=>(aB)) (RQ.bq (aA (RW.cj (RW.skip (ba (aA (RW.region (RL.ag (v:=vJ i) U ?_)))))))))
 refine RL.ag (aD rfl rfl rfl (bg (by omega) (by omega))) (RL.ag (v:=.int .i64 ((i:Int)+1)) ai (RL.ak ?_))
 exact⟨k-1,by omega,i+1,rfl,rfl,rfl,rfl,rfl,hN,by omega,jL r6 bV (by omega) (fun OT=>by first|omega|(rw[if_pos (di.1 (by omega))];omega)|(rw[if_neg (fun h=>absurd (di.2 h) (by omega))];omega)) (fun y hi hy=>by first|omega|(rw[jD]at hy;cases hy;omega))⟩
 rw[decide_eq_false uo]
 iterate 10 refine RQ.bU rfl ?_
 refine RQ.aR (v:=.bool false) rfl (fun w hS=>(aB)) (RQ.an (v:=.bool false) rfl (fun w hS=>(aB)) (RQ.an (v:=.bool false) rfl (fun w hS=>U) (RQ.aR (v:=.int .i64 (gr)) rfl (fun w hS=>U) (RQ.aR rfl (fun w hS=>(aK)) (RQ.aR (v:=.bool (decide (gr<2))) rfl (fun w hS=>U) ?_)))))
 by_cases kr:gr<2
 rw[decide_eq_true kr]
 refine RQ.aR (v:=.int .i64 (0)) rfl (fun w hS=>U) (RQ.aR (v:=.int .i64 (gr)) rfl (fun w hS=>U) (RQ.aR rfl (fun w hS=>(bj)) (RQ.aR (v:=.bool (decide (¬0=gr))) rfl (fun w hS=>(al)) (RQ.an (v:=.bool (decide (¬0=gr))) rfl (fun w hS=>(aB)) (RQ.bq (aA ?_))))))
 refine RW.aG _ (fun CQ=>?_) (fun CQ=>?_)
 refine RW.aN (RL.ag (v:=.bool false) ai (RL.ak (RW.ret (bb ?_))))
 iterate 2 refine aU ?_
 refine bb (aU (bc (RV.tmp rfl) ?_))
 exact⟨congrArg acV (decide_eq_false (fun h=>by
  have h1:=h.1 _ (acC bV)
  have h2:=h1.2
  unfold qj at h2
  first
  |omega
  |(rw[if_pos (di.1 (by omega))]at h2;omega)
  |(rw[if_neg (fun h=>absurd (di.2 h) (by omega))]at h2;omega)
  |(have h3:=h.2 (i-1) sM ap jD (by rw[show i-1+1=i by omega];exact bV);omega))).symm,hN.aX⟩
 refine RW.skip (ba (aA (RW.region (RL.ag (v:=vJ i) U (RL.ag (aD rfl rfl rfl (bg (by omega) (by omega))) (RL.ag (v:=.int .i64 ((i:Int)+1)) ai (RL.ak ?_)))))))
 exact⟨k-1,by omega,i+1,rfl,rfl,rfl,rfl,rfl,hN,by omega,jL r6 bV (by omega) (fun OT=>by first|omega|(rw[if_pos (di.1 (by omega))];omega)|(rw[if_neg (fun h=>absurd (di.2 h) (by omega))];omega)) (fun y hi hy=>by first|omega|(rw[jD]at hy;cases hy;omega))⟩
 rw[decide_eq_false kr]
 iterate 3 refine RQ.bU rfl ?_
 refine RQ.aR (v:=.bool false) rfl (fun w hS=>(aB)) (RQ.an (v:=.bool false) rfl (fun w hS=>(aB)) (RQ.bq (aA (RW.cj (RW.skip (ba (aA (RW.region (RL.ag (v:=vJ i) U ?_)))))))))
 refine RL.ag (aD rfl rfl rfl (bg (by omega) (by omega))) (RL.ag (v:=.int .i64 ((i:Int)+1)) ai (RL.ak ?_))
 exact⟨k-1,by omega,i+1,rfl,rfl,rfl,rfl,rfl,hN,by omega,jL r6 bV (by omega) (fun OT=>by first|omega|(rw[if_pos (di.1 (by omega))];omega)|(rw[if_neg (fun h=>absurd (di.2 h) (by omega))];omega)) (fun y hi hy=>by first|omega|(rw[jD]at hy;cases hy;omega))⟩
 refine RW.exit ?_
 iterate 2 refine bP ?_
 refine aY (aA (RW.aN (RL.ag (v:=.bool true) ai (RL.ak (RW.ret (bc (RV.tmp rfl) ?_))))))
 rw[ac2 (by omega)]at r6
 exact⟨congrArg acV (decide_eq_true r6).symm,hN.aX⟩
end Go.Proofs.YtngkdkbpgoddlaaGreat
namespace Go.Proofs.YtngkdkbpgoddlaaGreat
open Go.RowKit Go.Rl
open Go.Gr
theorem pI (n:Int) (gv fv ov iv cW cX:Value) (g:List Int) (w:World) (hg:Sl vI w gv g) (lv:Value) (hs:List Hd) (ls:List (List Int)) (hl:Sl vh w lv hs) (iX:gG none_ vI w hs ls):aM acD 114 #[.int .i64 n,.agg #[gv,fv,ov,iv,cW,cX],lv] w fun r w'=>r=.bool (decide (qf n g ls))∧Ext w w':=by
 refine aM.aZ aiv ?_
 rw[iu]
 have hN:=aH.nil w none_
 have E9:=iX.1
 refine RW.aN ?_
 refine RL.aL (bJ (cs:=[gv,fv,ov,iv,cW,cX]) rfl rfl hN ?_)
 clear hN
 intro g1 w1 (hN:aH w none_ w1 [_])
 refine RL.ag (v:=.bool false) ai (RL.ak ?_)
 iterate 2 refine RW.seq ?_
 refine RW.region (RL.ag (v:=.int .i64 (0)) ai (RL.ak (RW.block ?_)))
 refine RW.loop (fun k R0 cv=>∃i:Nat,R0 0=.int .i64 (n)∧R0 2=lv∧R0 4=vP g1∧R0 7=vJ i∧aH w none_ cv [.aJ g1 [gv,fv,ov,iv,cW,cX] 32]∧(i+k=hs.length)∧(∀m r,m<i→ls[m]?=some r→iw n (qj g 0) r)) (hs.length) ?_ ?_
 exact⟨0,rfl,rfl,rfl,rfl,hN,by omega,fun m r hm=>absurd hm (by omega)⟩
 clear hN
 rintro k R0 cv ⟨i,cF,bQ,cu,cC,hN,fP,r6⟩
 have cz:=iV cF bQ cu cC
 obtain⟨fV,rfl⟩:=cz
 clear cF bQ cu cC
 iterate 2 refine RW.seq ?_
 refine RW.region (RL.ag (v:=vJ i) U (RL.ag (v:=lv) U ?_))
 have iH:=(hl.o.now hN).bw
 refine RL.ag (aQ acQ (hl.o.now hN)) (RL.ag (aK) (RL.ak ?_))
 refine RW.aG _ (fun cD=>?_) (fun cD=>?_)
 refine RW.skip (aA (RW.seq (RW.block (RW.seq ?_))))
 have CI:=iX.1
 have aO:=cQ hs i
 obtain⟨ap,bV⟩:=aO
 have aO:=cQ ls i
 obtain⟨lp,eN⟩:=aO
 have Ib:=acC eN
 replace hN:=hN.ext (Ext.drew cv)
 refine RW.bA (fun u=>aH w none_ u [.aJ g1 [gv,fv,ov,iv,cW,cX] 32]) 8 [(0,0),(1,0),(2,0),(3,0),(4,0),(5,0),(6,1),(7,0)] (by intro _ _ _ h;exact h) hN (RQ.an (v:=.int .i64 (n)) rfl (fun w hS=>U) (RQ.an rfl (fun w hS=>(aE (cs:=[gv,fv,ov,iv,cW,cX]) acR iA (hS.aJ 0 rfl))) (RQ.an (v:=lv) rfl (fun w hS=>U) (RQ.an (v:=vJ i) rfl (fun w hS=>U) (RQ.an rfl (fun w hS=>(aC acQ cc (hl.o.now hS))) (RQ.an rfl (fun w hS=>(aF (m:=i) (a:=ap) acz (hl.o.now hS) bV)) ?_))))))
 refine RQ.bW rfl (dH ahf rfl rfl rfl rfl rfl rfl ((k9 (n) _ _ _ _ _ _ g _ (hg.o.now hN) _ lp ((iX.ik bV eN).now hN) (0)).mono ?_))
 rintro _ w4 ⟨rfl,bl⟩
 replace hN:=hN.ext bl
 clear bl
 refine⟨hN,?_⟩
 refine RQ.an rfl (fun w hS=>(cU rfl)) (RQ.bq (aA ?_))
 refine RW.aG _ (fun fA=>?_) (fun fA=>?_)
 refine RW.aN (RL.ag (v:=.bool false) ai (RL.ak (RW.ret (bb ?_))))
 iterate 2 refine aU ?_
 refine bb (aU (bc (RV.tmp rfl) ?_))
 exact⟨congrArg acV (decide_eq_false (fun h=>fA (h.1 lp Ib))).symm,hN.aX⟩
 refine RW.skip (ba (aA (RW.region (RL.ag (v:=vJ i) U (RL.ag (aD rfl rfl rfl (bg (by omega) (by omega))) (RL.ag (v:=.int .i64 ((i:Int)+1)) ai (RL.ak ?_)))))))
 exact⟨k-1,by omega,i+1,rfl,rfl,rfl,rfl,hN,by omega,fun m r hm hr=>(adi m i).elim (fun e=>r6 m r e hr) (fun e=>have e2:m=i:=(by omega);have e3:r=lp:=ac7 (hr.symm.trans (e2▸eN));e3▸acX.1 fA)⟩
 refine RW.exit ?_
 iterate 2 refine bP ?_
 refine aY (aA (RW.aN (RL.ag (v:=lv) U (RL.ag (aQ acQ (hl.o.now hN)) (RL.ag (v:=.int .i64 (n)) U (RL.ag (ca) (RL.ag (v:=.bool (decide ((hs.length:Int)=n))) ai (RL.nil ?_))))))))
 refine aA (RW.ret (bc (RV.tmp rfl) ?_))
 exact⟨congrArg acV (decide_eq_decide.2 ⟨fun h=>⟨fun r hr=>by
  have aO:=ade hr
  obtain⟨m,hm⟩:=aO
  exact r6 m r (by have:=(acF.1 hm).1;have:=iX.1;omega) hm,by have:=iX.1;omega⟩,fun h=>by have:=h.2;have:=iX.1;omega⟩),hN.aX⟩
theorem mH (n:Int) (gv fv ov iv cW cX:Value) (g:List Int) (w:World) (hg:Sl vI w gv g) (lv:Value) (hs:List Hd) (ls:List (List I2)) (hl:Sl vh w lv hs) (iX:gJ none_ bG w hs ls) (Jg:∀r∈ls,r.length≤8796093021952):aM acD 113 #[.int .i64 n,.agg #[gv,fv,ov,iv,cW,cX],lv] w fun r w'=>r=.bool (decide (jI n g ls))∧Ext w w':=by
 refine aM.aZ aiw ?_
 rw[iu]
 have hN:=aH.nil w none_
 have E9:=iX.1
 refine RW.aN ?_
 refine RL.aL (bJ (cs:=[gv,fv,ov,iv,cW,cX]) rfl rfl hN ?_)
 clear hN
 intro g1 w1 (hN:aH w none_ w1 [_])
 refine RL.ag (v:=.bool false) ai (RL.ak ?_)
 iterate 2 refine RW.seq ?_
 refine RW.region (RL.ag (v:=.int .i64 (0)) ai (RL.ak (RW.block ?_)))
 refine RW.loop (fun k R0 cv=>∃i:Nat,R0 0=.int .i64 (n)∧R0 2=lv∧R0 4=vP g1∧R0 7=vJ i∧aH w none_ cv [.aJ g1 [gv,fv,ov,iv,cW,cX] 32]∧(i+k=hs.length)∧(∀m r,m<i→ls[m]?=some r→(∀x∈r,dh 0 x.2)∧iw n (qj g 1) (r.map fun x=>x.1))) (hs.length) ?_ ?_
 exact⟨0,rfl,rfl,rfl,rfl,hN,by omega,fun m r hm=>absurd hm (by omega)⟩
 clear hN
 rintro k R0 cv ⟨i,cF,bQ,cu,cC,hN,fP,r6⟩
 have cz:=iV cF bQ cu cC
 obtain⟨fV,rfl⟩:=cz
 clear cF bQ cu cC
 iterate 2 refine RW.seq ?_
 refine RW.region (RL.ag (v:=vJ i) U (RL.ag (v:=lv) U ?_))
 have iH:=(hl.o.now hN).bw
 refine RL.ag (aQ ac5 (hl.o.now hN)) (RL.ag (aK) (RL.ak ?_))
 refine RW.aG _ (fun cD=>?_) (fun cD=>?_)
 refine RW.skip (aA (RW.seq (RW.block (RW.seq ?_))))
 have CI:=iX.1
 have aO:=cQ hs i
 obtain⟨ap,bV⟩:=aO
 have aO:=cQ ls i
 obtain⟨lp,eN⟩:=aO
 have Ib:=acC eN
 have Qo:=Jg lp Ib
 refine RW.region (RL.ag (v:=vN) ai (RL.ak ?_))
 iterate 2 refine RW.seq ?_
 refine RW.region (RL.ag (v:=.int .i64 (0)) ai (RL.ak (RW.block ?_)))
 replace hN:=hN.dy vI 3
 refine RW.loop (fun k2 R1 ez=>∃va:Value,∃acc:List Int,∃q:Nat,R1 0=.int .i64 (n)∧R1 2=lv∧R1 4=vP g1∧R1 7=vJ i∧R1 8=va∧R1 9=vJ q∧aH w none_ ez [.own vI 3 (va) (acc),.aJ g1 [gv,fv,ov,iv,cW,cX] 32]∧(q+k2=lp.length)∧(acc=(lp.take q).map fun x=>x.1)∧(acc.length=q)∧(∀x∈lp.take q,dh 0 x.2)) (lp.length) ?_ ?_
 exact⟨vN,[],0,rfl,rfl,rfl,rfl,rfl,rfl,hN,by omega,rfl,rfl,fun x hx=>by cases hx⟩
 clear hN
 rintro k2 R1 ez ⟨va,acc,q,cF,bQ,cu,cC,cM,dN,hN,yl,mT,im,mJ⟩
 have cz:=oK cF bQ cu cC cM dN
 obtain⟨re,rfl⟩:=cz
 clear cF bQ cu cC cM dN
 iterate 2 refine RW.seq ?_
 refine RW.region (RL.ag (v:=vJ q) U (RL.ag (v:=lv) U (RL.ag (v:=vJ i) U (RL.ag (aC ac5 lx (hl.o.now hN)) (RL.ag (aF (m:=i) (a:=ap) ac1 (hl.o.now hN) bV) ?_)))))
 have qP:=((iX.ik bV eN).now hN).bw
 refine RL.ag (bO ac1 ((iX.ik bV eN).now hN)) (RL.ag (aK) (RL.ak ?_))
 refine RW.aG _ (fun ep=>?_) (fun ep=>?_)
 refine RW.skip (aA (RW.seq (RW.block (RW.aN (RL.ag (v:=va) U (RL.ag (v:=lv) U (RL.ag (v:=vJ i) U (RL.ag (aC ac5 lx (hl.o.now hN)) ?_))))))))
 refine RL.ag (aF (m:=i) (a:=ap) ac1 (hl.o.now hN) bV) (RL.ag (v:=vJ q) U (RL.ag (aT ac1 dY bp ((iX.ik bV eN).now hN)) ?_))
 have aO:=cQ (lp) q
 obtain⟨ac,ja⟩:=aO
 refine RL.ag (bm (m:=q) (b:=0) acY rfl bI bp ((iX.ik bV eN).now hN) ja) (RL.ag (bB (m:=q) (j:=0) (a:=ac) acy bp ((iX.ik bV eN).now hN) ja) ?_)
 refine RL.aL (cx (enc:=vI) (l:=[ac.1]) (xs:=[.tmp 33]) acz bI mN rfl rfl (fun _=>rfl) rfl (by decide) (by decide) hN ?_)
 clear hN
 intro g7 w7 (hN:aH w none_ w7 [_,_,_])
 refine RL.aL (b9 acz fI rfl (fun _=>rfl) hN 1 rfl rfl (hN.sl 0 rfl) rfl (by(try simp only[acB,acH,acK,acS]);omega) (by decide) ?_)
 clear hN
 intro v8 w8 (hN:aH w none_ w8 [_,_,_])
 refine RL.ag (v:=v8) ai (RL.bY (RL.ag (v:=lv) U (RL.ag (v:=vJ i) U (RL.ag (aC ac5 lx (hl.o.now hN)) (RL.ag (aF (m:=i) (a:=ap) ac1 (hl.o.now hN) bV) (RL.ag (v:=vJ q) U ?_))))))
 refine RL.ag (aT ac1 dY bp ((iX.ik bV eN).now hN)) (RL.ag (bm (m:=q) (b:=0) acY rfl bI bp ((iX.ik bV eN).now hN) ja) (RL.ag (bB (m:=q) (j:=1) (a:=ac) acy bp ((iX.ik bV eN).now hN) ja) ?_))
 refine RL.aL (bu aiu rfl rfl rfl rfl ((nw (ac.2) (0) _).mono ?_))
 rintro _ lR ⟨rfl,bl⟩
 replace hN:=hN.ext bl
 clear bl
 refine RL.ag (cU rfl) (RL.ak ?_)
 refine RW.aG _ (fun fA=>?_) (fun fA=>?_)
 refine RW.aN (RL.ag (v:=.bool false) ai (RL.ak (RW.ret (bb ?_))))
 iterate 2 refine aU ?_
 refine bb (aU (bb ?_))
 iterate 2 refine aU ?_
 refine bb (aU (bc (RV.tmp rfl) ?_))
 exact⟨congrArg acV (decide_eq_false (fun h=>by first|exact fA ((h.1 lp Ib).1 _ (acC ja))|exact vM (by rw[mT];exact(h.1 lp Ib).2))).symm,hN.aX⟩
 refine RW.skip (ba (aA (RW.region (RL.ag (v:=vJ q) U (RL.ag (aD rfl rfl rfl (bg (by omega) (by omega))) (RL.ag (v:=.int .i64 ((q:Int)+1)) ai (RL.ak ?_)))))))
 exact⟨k2-1,by omega,v8,acc++[ac.1],q+1,rfl,rfl,rfl,rfl,rfl,rfl,(hN.sb [1,2]),by omega,by rw[dJ ja,ad7,mT];rfl,by(try simp only[acB,acH]);omega,fun x hx=>(dk ja hx).elim (mJ x) (fun e=>e▸acX.1 fA)⟩
 refine RW.exit ?_
 iterate 2 refine bP ?_
 refine aY (aA (RW.seq ?_))
 rw[show q=lp.length by omega,adm]at mJ mT
 refine RW.region (RL.ag (v:=.int .i64 (n)) U (RL.ag (aE (cs:=[gv,fv,ov,iv,cW,cX]) acR iA (hN.aJ 1 rfl)) (RL.ag (v:=va) U ?_)))
 refine RL.aL (dH ahf rfl rfl rfl rfl rfl rfl ((k9 (n) _ _ _ _ _ _ g _ (hg.o.now hN) _ acc (hN.sl 0 rfl) (1)).mono ?_))
 rintro _ kY ⟨rfl,bl⟩
 replace hN:=hN.ext bl
 clear bl
 refine RL.ag (cU rfl) (RL.ak ?_)
 refine RW.aG _ (fun vM=>?_) (fun vM=>?_)
 refine RW.aN (RL.ag (v:=.bool false) ai (RL.ak (RW.ret (bb ?_))))
 iterate 2 refine aU ?_
 refine bb (aU (bc (RV.tmp rfl) ?_))
 exact⟨congrArg acV (decide_eq_false (fun h=>by first|exact fA ((h.1 lp Ib).1 _ (acC ja))|exact vM (by rw[mT];exact(h.1 lp Ib).2))).symm,hN.aX⟩
 refine RW.skip (ba (aA (RW.region (RL.ag (v:=vJ i) U (RL.ag (aD rfl rfl rfl (bg (by omega) (by omega))) (RL.ag (v:=.int .i64 ((i:Int)+1)) ai (RL.ak ?_)))))))
 exact⟨k-1,by omega,i+1,rfl,rfl,rfl,rfl,(hN.sb [1]),by omega,fun m r hm hr=>(adi m i).elim (fun e=>r6 m r e hr) (fun e=>have e2:m=i:=(by omega);have e3:r=lp:=ac7 (hr.symm.trans (e2▸eN));e3▸⟨mJ,by rw[←mT];exact acX.1 vM⟩)⟩
 refine RW.exit ?_
 iterate 2 refine bP ?_
 refine aY (aA (RW.aN (RL.ag (v:=lv) U (RL.ag (aQ ac5 (hl.o.now hN)) (RL.ag (v:=.int .i64 (n)) U (RL.ag (ca) (RL.ag (v:=.bool (decide ((hs.length:Int)=n))) ai (RL.nil ?_))))))))
 refine aA (RW.ret (bc (RV.tmp rfl) ?_))
 exact⟨congrArg acV (decide_eq_decide.2 ⟨fun h=>⟨fun r hr=>by
  have aO:=ade hr
  obtain⟨m,hm⟩:=aO
  exact r6 m r (by have:=(acF.1 hm).1;have:=iX.1;omega) hm,by have:=iX.1;omega⟩,fun h=>by have:=h.2;have:=iX.1;omega⟩),hN.aX⟩
end Go.Proofs.YtngkdkbpgoddlaaGreat
namespace Go.Proofs.YtngkdkbpgoddlaaGreat
open Go.RowKit Go.Rl
open Go.Gr
theorem oC (n:Int) (w:World) (gv:Value) (gl:List Int) (hg:Sl vI w gv gl) (fv:Value) (fh:List Hd) (fl:List (List Int)) (hf:Sl vh w fv fh) (o9:gG none_ vI w fh fl) (ov:Value) (oh:List Hd) (ol:List (List I2)) (ho:Sl vh w ov oh) (F2:gJ none_ bG w oh ol) (iv:Value) (ih:List Hd) (il:List (List I2)) (hi:Sl vh w iv ih) (uj:gJ none_ bG w ih il) (cW:Value) (sC:List Hd) (eM:List (List Int)) (gM:Sl vh w cW sC) (rZ:gG none_ vI w sC eM) (cX:Value) (sD:List Hd) (eS:List (List Int)) (gI:Sl vh w cX sD) (r4:gG none_ vI w sD eS) (V1:∀r∈ol,r.length≤8796093021952) (O9:∀r∈il,r.length≤8796093021952):aM acD 51 #[.int .i64 n,.agg #[gv,fv,ov,iv,cW,cX]] w fun r w'=>r=.int .i64 (dD n gl fl ol il eM eS)∧Ext w w':=by
 refine aM.aZ aiV ?_
 rw[cS]
 have hN:=aH.nil w none_
 have E9:=o9.1
 refine RW.aN ?_
 refine RL.aL (bJ (cs:=[gv,fv,ov,iv,cW,cX]) rfl rfl hN ?_)
 clear hN
 intro g1 w1 (hN:aH w none_ w1 [_])
 refine RL.ag (v:=.int .i64 (0)) ai (RL.ak ?_)
 iterate 2 refine RW.seq ?_
 refine RW.region (RL.ag (v:=.int .i64 (n)) U (RL.ag (cq) (RL.ak ?_)))
 refine RW.aG _ (fun Z7=>?_) (fun Z7=>?_)
 refine RW.aN (RL.ag (v:=.int .i64 (3)) ai (RL.ak (RW.ret (aU (bc (RV.tmp rfl) ?_)))))
 exact⟨congrArg (ac4 .i64) (show dD n gl fl ol il eM eS=3 by
  unfold dD
  rw[if_pos (by omega)]).symm,hN.aX⟩
 refine RW.skip (aA ?_)
 iterate 2 refine RW.seq ?_
 refine RW.region (RL.ag (v:=.int .i64 (n)) U (RL.ag (aK) (RL.ag (v:=.bool (decide (n<0))) U ?_)))
 by_cases MH:n<0
 rw[decide_eq_true MH]
 iterate 6 refine RL.bH ?_
 refine RL.ag (v:=.bool true) (al) (RL.ag (v:=.bool true) U ?_)
 iterate 7 refine RL.bH ?_
 refine RL.ag (v:=.bool true) (al) (RL.ak (RW.bD (RW.aN (RL.ag (v:=.int .i64 (2)) ai (RL.ak (RW.ret ?_))))))
 refine aU (bc (RV.tmp rfl) ?_)
 exact⟨congrArg (ac4 .i64) (show dD n gl fl ol il eM eS=2 by
  unfold dD
  rw[if_neg (by omega),if_neg (fun h=>by
  obtain⟨q1,q2,q3,q4,q5,q6,q7⟩:=h
  have EC:=q3.1
  first
  |omega
  |contradiction
  |(obtain⟨b1,b2,b3⟩:=q3.2 i lp eN;first|omega|(rw[lT]at b2;cases b2;contradiction)|exact absurd (b3 _ (acC ja)) (by assumption)))]).symm,hN.aX⟩
 rw[decide_eq_false MH]
 refine RL.aw (v:=.int .i64 (n)) U (RL.aw (aE (cs:=[gv,fv,ov,iv,cW,cX]) acR iA (hN.aJ 0 rfl)) (RL.aw (ah acR rfl cc) (RL.aw (aj acz (hN.aJ 0 rfl)) ?_)))
 refine RL.er (dH ahf rfl rfl rfl rfl rfl rfl ((k9 (n) _ _ _ _ _ _ gl _ (hg.o.now hN) _ gl (hg.o.now hN) (2)).mono ?_))
 rintro _ w2 ⟨rfl,bl⟩
 replace hN:=hN.ext bl
 clear bl
 refine RL.aw (cU rfl) (RL.ag (v:=.bool (decide (¬(iw (n) (qj gl (2)) gl)))) (aB) (RL.ag (v:=.bool (decide (¬(iw (n) (qj gl (2)) gl)))) U ?_))
 by_cases uu:¬(iw (n) (qj gl (2)) gl)
 rw[decide_eq_true uu]
 iterate 7 refine RL.bH ?_
 refine RL.ag (v:=.bool true) (al) (RL.ak (RW.bD (RW.aN (RL.ag (v:=.int .i64 (2)) ai (RL.ak (RW.ret ?_))))))
 refine aU (bc (RV.tmp rfl) ?_)
 exact⟨congrArg (ac4 .i64) (show dD n gl fl ol il eM eS=2 by
  unfold dD
  rw[if_neg (by omega),if_neg (fun h=>by
  obtain⟨q1,q2,q3,q4,q5,q6,q7⟩:=h
  have EC:=q3.1
  first
  |omega
  |contradiction
  |(obtain⟨b1,b2,b3⟩:=q3.2 i lp eN;first|omega|(rw[lT]at b2;cases b2;contradiction)|exact absurd (b3 _ (acC ja)) (by assumption)))]).symm,hN.aX⟩
 rw[decide_eq_false uu]
 refine RL.aw (ah acR rfl fH) (RL.aw (aj acQ (hN.aJ 0 rfl)) ?_)
 have kH:=(hf.o.now hN).bw
 refine RL.aw (aQ acQ (hf.o.now hN)) (RL.aw (ah acR rfl cc) (RL.aw (aj acz (hN.aJ 0 rfl)) ?_))
 have r7:=(hg.o.now hN).bw
 refine RL.aw (aQ acz (hg.o.now hN)) (RL.aw (bj) (RL.ag (v:=.bool (decide (¬(fh.length:Int)=(gl.length:Int)))) (aB) (RL.ak ?_)))
 refine RW.aG _ (fun hlen=>?_) (fun hlen=>?_)
 refine RW.aN (RL.ag (v:=.int .i64 (2)) ai (RL.ak (RW.ret (aU (bc (RV.tmp rfl) ?_)))))
 exact⟨congrArg (ac4 .i64) (show dD n gl fl ol il eM eS=2 by
  unfold dD
  rw[if_neg (by omega),if_neg (fun h=>by
  obtain⟨q1,q2,q3,q4,q5,q6,q7⟩:=h
  have EC:=q3.1
  first
  |omega
  |contradiction
  |(obtain⟨b1,b2,b3⟩:=q3.2 i lp eN;first|omega|(rw[lT]at b2;cases b2;contradiction)|exact absurd (b3 _ (acC ja)) (by assumption)))]).symm,hN.aX⟩
 refine RW.skip (aA ?_)
 iterate 2 refine RW.seq ?_
 refine RW.region (RL.ag (v:=.int .i64 (0)) ai (RL.ak (RW.block ?_)))
 refine RW.loop (fun k R0 cv=>∃i:Nat,R0 0=.int .i64 (n)∧R0 3=vP g1∧R0 5=vJ i∧aH w none_ cv [.aJ g1 [gv,fv,ov,iv,cW,cX] 32]∧(i+k=fh.length)∧(∀m r,m<i→fl[m]?=some r→r.length=gl.length∧r[m]?=some 0∧∀x∈r,dh (-1) x)) (fh.length) ?_ ?_
 exact⟨0,rfl,rfl,rfl,hN,by omega,fun m r hm=>absurd hm (by omega)⟩
 clear hN
 rintro k R0 cv ⟨i,cF,cb,cy,hN,fP,Js⟩
 have cz:=k5 cF cb cy
 obtain⟨fV,rfl⟩:=cz
 clear cF cb cy
 iterate 2 refine RW.seq ?_
 refine RW.region (RL.ag (v:=vJ i) U (RL.ag (ah acR rfl fH) (RL.ag (aj acQ (hN.aJ 0 rfl)) (RL.ag (aQ acQ (hf.o.now hN)) (RL.ag (aK) (RL.ak ?_))))))
 refine RW.aG _ (fun cD=>?_) (fun cD=>?_)
 refine RW.skip (aA (RW.seq (RW.block ?_)))
 iterate 2 refine RW.seq ?_
 have Lo:=o9.1
 have aO:=cQ fh i
 obtain⟨ap,bV⟩:=aO
 have aO:=cQ fl i
 obtain⟨lp,eN⟩:=aO
 have kG:=acC eN
 replace hN:=hN.ext (Ext.drew cv)
 refine RW.bA (fun u=>aH w none_ u [.aJ g1 [gv,fv,ov,iv,cW,cX] 32]) 21 [(0,0),(1,0),(2,0),(3,0),(4,0),(5,0),(6,0),(7,0),(8,0),(9,0),(10,0),(11,0),(12,0),(13,0),(14,0),(15,0),(16,0),(17,0),(18,0),(19,0),(20,0)] (by intro _ _ _ h;exact h) hN (RQ.an rfl (fun w hS=>(ah acR rfl fH)) (RQ.an rfl (fun w hS=>(aj acQ (hS.aJ 0 rfl))) (RQ.an (v:=vJ i) rfl (fun w hS=>U) (RQ.an rfl (fun w hS=>(aC acQ cc (hf.o.now hS))) (RQ.an rfl (fun w hS=>(aF (m:=i) (a:=ap) acz (hf.o.now hS) bV)) ?_)))))
 have AK:=((o9.ik bV eN).now hN).bw
 refine RQ.an rfl (fun w hS=>(aQ acz ((o9.ik bV eN).now hS))) (RQ.an rfl (fun w hS=>(ah acR rfl cc)) (RQ.an rfl (fun w hS=>(aj acz (hS.aJ 0 rfl))) (RQ.an rfl (fun w hS=>(aQ acz (hg.o.now hS))) (RQ.an rfl (fun w hS=>(bj)) (RQ.an (v:=.bool (decide (¬(lp.length:Int)=(gl.length:Int)))) rfl (fun w hS=>U) ?_)))))
 by_cases IB:¬(lp.length:Int)=(gl.length:Int)
 rw[decide_eq_true IB]
 iterate 9 refine RQ.bU rfl ?_
 refine RQ.an (v:=.bool true) rfl (fun w hS=>(al)) (RQ.bq (aA (RW.bD (RW.aN (RL.ag (v:=.int .i64 (2)) ai (RL.ak (RW.ret ?_)))))))
 refine aU (bb ?_)
 iterate 2 refine aU ?_
 refine bb (aU (bc (RV.tmp rfl) ?_))
 exact⟨congrArg (ac4 .i64) (show dD n gl fl ol il eM eS=2 by
  unfold dD
  rw[if_neg (by omega),if_neg (fun h=>by
  obtain⟨q1,q2,q3,q4,q5,q6,q7⟩:=h
  have EC:=q3.1
  first
  |omega
  |contradiction
  |(obtain⟨b1,b2,b3⟩:=q3.2 i lp eN;first|omega|(rw[lT]at b2;cases b2;contradiction)|exact absurd (b3 _ (acC ja)) (by assumption)))]).symm,hN.aX⟩
 rw[decide_eq_false IB]
 refine RQ.aR rfl (fun w hS=>(ah acR rfl fH)) (RQ.aR rfl (fun w hS=>(aj acQ (hS.aJ 0 rfl))) (RQ.aR (v:=vJ i) rfl (fun w hS=>U) (RQ.aR rfl (fun w hS=>(aC acQ cc (hf.o.now hS))) (RQ.aR rfl (fun w hS=>(aF (m:=i) (a:=ap) acz (hf.o.now hS) bV)) (RQ.aR (v:=vJ i) rfl (fun w hS=>U) (RQ.aR rfl (fun w hS=>(aC acz bI ((o9.ik bV eN).now hS))) ?_))))))
 have aO:=cQ (lp) i
 obtain⟨az,lT⟩:=aO
 refine RQ.aR rfl (fun w hS=>(aF (m:=i) (a:=az) acy ((o9.ik bV eN).now hS) lT)) (RQ.aR rfl (fun w hS=>(bj)) (RQ.an (v:=.bool (decide (¬az=0))) rfl (fun w hS=>(aB)) (RQ.bq (aA ?_))))
 refine RW.aG _ (fun fA=>?_) (fun fA=>?_)
 refine RW.aN (RL.ag (v:=.int .i64 (2)) ai (RL.ak (RW.ret (aU (bb ?_)))))
 iterate 2 refine aU ?_
 refine bb (aU (bc (RV.tmp rfl) ?_))
 exact⟨congrArg (ac4 .i64) (show dD n gl fl ol il eM eS=2 by
  unfold dD
  rw[if_neg (by omega),if_neg (fun h=>by
  obtain⟨q1,q2,q3,q4,q5,q6,q7⟩:=h
  have EC:=q3.1
  first
  |omega
  |contradiction
  |(obtain⟨b1,b2,b3⟩:=q3.2 i lp eN;first|omega|(rw[lT]at b2;cases b2;contradiction)|exact absurd (b3 _ (acC ja)) (by assumption)))]).symm,hN.aX⟩
 refine RW.skip (aA (RW.aN (RL.ag (v:=.int .i64 (0)) ai (RL.ak (RW.block ?_)))))
 refine RW.loop (fun k2 R1 ez=>∃q:Nat,R1 0=.int .i64 (n)∧R1 3=vP g1∧R1 5=vJ i∧R1 6=vJ q∧aH w none_ ez [.aJ g1 [gv,fv,ov,iv,cW,cX] 32]∧(q+k2=lp.length)∧(∀x∈lp.take q,dh (-1) x)) (lp.length) ?_ ?_
 exact⟨0,rfl,rfl,rfl,rfl,hN,by omega,fun x hx=>by cases hx⟩
 clear hN
 rintro k2 R1 ez ⟨q,cF,cb,cy,cV,hN,yl,mJ⟩
 have cz:=iV cF cb cy cV
 obtain⟨re,rfl⟩:=cz
 clear cF cb cy cV
 iterate 2 refine RW.seq ?_
 refine RW.region (RL.ag (v:=vJ q) U (RL.ag (ah acR rfl fH) (RL.ag (aj acQ (hN.aJ 0 rfl)) (RL.ag (v:=vJ i) U (RL.ag (aC acQ cc (hf.o.now hN)) (RL.ag (aF (m:=i) (a:=ap) acz (hf.o.now hN) bV) (RL.ag (aQ acz ((o9.ik bV eN).now hN)) (RL.ag (aK) (RL.nil ?_)))))))))
 refine aA ?_
 refine RW.aG _ (fun ep=>?_) (fun ep=>?_)
 refine RW.skip (aA (RW.seq (RW.block (RW.aN (RL.ag (ah acR rfl fH) (RL.ag (aj acQ (hN.aJ 0 rfl)) (RL.ag (v:=vJ i) U (RL.ag (aC acQ cc (hf.o.now hN)) ?_))))))))
 refine RL.ag (aF (m:=i) (a:=ap) acz (hf.o.now hN) bV) (RL.ag (v:=vJ q) U (RL.ag (aC acz bI ((o9.ik bV eN).now hN)) ?_))
 have aO:=cQ (lp) q
 obtain⟨ac,ja⟩:=aO
 refine RL.ag (aF (m:=q) (a:=ac) acy ((o9.ik bV eN).now hN) ja) ?_
 refine RL.aL (bu aiu rfl rfl rfl rfl ((nw (ac) (-1) _).mono ?_))
 rintro _ lR ⟨rfl,bl⟩
 replace hN:=hN.ext bl
 clear bl
 refine RL.ag (cU rfl) (RL.ak ?_)
 refine RW.aG _ (fun vM=>?_) (fun vM=>?_)
 refine RW.aN (RL.ag (v:=.int .i64 (2)) ai (RL.ak (RW.ret (bb ?_))))
 iterate 2 refine aU ?_
 iterate 2 refine bb ?_
 iterate 2 refine aU ?_
 refine bb (aU (bc (RV.tmp rfl) ?_))
 exact⟨congrArg (ac4 .i64) (show dD n gl fl ol il eM eS=2 by
  unfold dD
  rw[if_neg (by omega),if_neg (fun h=>by
  obtain⟨q1,q2,q3,q4,q5,q6,q7⟩:=h
  have EC:=q3.1
  first
  |omega
  |contradiction
  |(obtain⟨b1,b2,b3⟩:=q3.2 i lp eN;first|omega|(rw[lT]at b2;cases b2;contradiction)|exact absurd (b3 _ (acC ja)) (by assumption)))]).symm,hN.aX⟩
 refine RW.skip (ba (aA (RW.region (RL.ag (v:=vJ q) U (RL.ag (aD rfl rfl rfl (bg (by omega) (by omega))) (RL.ag (v:=.int .i64 ((q:Int)+1)) ai (RL.ak ?_)))))))
 exact⟨k2-1,by omega,q+1,rfl,rfl,rfl,rfl,hN,by omega,fun x hx=>(dk ja hx).elim (mJ x) (fun e=>e▸acX.1 vM)⟩
 refine RW.exit ?_
 iterate 2 refine bP ?_
 refine aY (ba (aA ?_))
 rw[show q=lp.length by omega,adm]at mJ
 refine RW.region (RL.ag (v:=vJ i) U (RL.ag (aD rfl rfl rfl (bg (by omega) (by omega))) (RL.ag (v:=.int .i64 ((i:Int)+1)) ai (RL.ak ?_))))
 exact⟨k-1,by omega,i+1,rfl,rfl,rfl,hN,by omega,fun m r hm hr=>(adi m i).elim (fun e=>Js m r e hr) (fun e=>have e2:m=i:=(by omega);have e3:r=lp:=ac7 (hr.symm.trans (e2▸eN));e2▸e3▸⟨by omega,by rw[lT];exact congrArg some (acX.1 fA),mJ⟩)⟩
 refine RW.exit ?_
 iterate 2 refine bP ?_
 refine aY (aA ?_)
 iterate 2 refine RW.seq ?_
 refine RW.region (RL.ag (v:=.int .i64 (n)) U (RL.ag (aE (cs:=[gv,fv,ov,iv,cW,cX]) acR iA (hN.aJ 0 rfl)) (RL.ag (ah acR rfl je) (RL.ag (aj ac5 (hN.aJ 0 rfl)) ?_))))
 refine RL.aL (cn aiw rfl rfl rfl rfl rfl ((mH (n) _ _ _ _ _ _ gl _ (hg.o.now hN) _ oh ol (ho.o.now hN) (F2.ext hN.aX) (by assumption)).mono ?_))
 rintro _ kY ⟨rfl,bl⟩
 replace hN:=hN.ext bl
 clear bl
 refine RL.ag (cU rfl) (RL.ag (v:=.bool (decide (¬(jI (n) gl ol)))) U ?_)
 by_cases IY:¬(jI (n) gl ol)
 rw[decide_eq_true IY]
 iterate 6 refine RL.bH ?_
 refine RL.ag (v:=.bool true) (al) (RL.ag (v:=.bool true) U ?_)
 iterate 6 refine RL.bH ?_
 refine RL.ag (v:=.bool true) (al) (RL.ag (v:=.bool true) U ?_)
 iterate 6 refine RL.bH ?_
 refine RL.ag (v:=.bool true) (al) (RL.ak (RW.bD (RW.aN (RL.ag (v:=.int .i64 (2)) ai (RL.ak (RW.ret ?_))))))
 refine aU (bc (RV.tmp rfl) ?_)
 exact⟨congrArg (ac4 .i64) (show dD n gl fl ol il eM eS=2 by
  unfold dD
  rw[if_neg (by omega),if_neg (fun h=>by
  obtain⟨q1,q2,q3,q4,q5,q6,q7⟩:=h
  have EC:=q3.1
  first
  |omega
  |contradiction
  |(obtain⟨b1,b2,b3⟩:=q3.2 i lp eN;first|omega|(rw[lT]at b2;cases b2;contradiction)|exact absurd (b3 _ (acC ja)) (by assumption)))]).symm,hN.aX⟩
 rw[decide_eq_false IY]
 refine RL.aw (v:=.int .i64 (n)) U (RL.aw (aE (cs:=[gv,fv,ov,iv,cW,cX]) acR iA (hN.aJ 0 rfl)) (RL.aw (ah acR rfl je) (RL.aw (aj ac5 (hN.aJ 0 rfl)) ?_)))
 refine RL.er (cn aiw rfl rfl rfl rfl rfl ((mH (n) _ _ _ _ _ _ gl _ (hg.o.now hN) _ ih il (hi.o.now hN) (uj.ext hN.aX) (by assumption)).mono ?_))
 rintro _ kI ⟨rfl,bl⟩
 replace hN:=hN.ext bl
 clear bl
 refine RL.aw (cU rfl) (RL.ag (v:=.bool (decide (¬(jI (n) gl il)))) (aB) (RL.ag (v:=.bool (decide (¬(jI (n) gl il)))) U ?_))
 by_cases DS:¬(jI (n) gl il)
 rw[decide_eq_true DS]
 iterate 6 refine RL.bH ?_
 refine RL.ag (v:=.bool true) (al) (RL.ag (v:=.bool true) U ?_)
 iterate 6 refine RL.bH ?_
 refine RL.ag (v:=.bool true) (al) (RL.ak (RW.bD (RW.aN (RL.ag (v:=.int .i64 (2)) ai (RL.ak (RW.ret ?_))))))
 refine aU (bc (RV.tmp rfl) ?_)
 exact⟨congrArg (ac4 .i64) (show dD n gl fl ol il eM eS=2 by
  unfold dD
  rw[if_neg (by omega),if_neg (fun h=>by
  obtain⟨q1,q2,q3,q4,q5,q6,q7⟩:=h
  have EC:=q3.1
  first
  |omega
  |contradiction
  |(obtain⟨b1,b2,b3⟩:=q3.2 i lp eN;first|omega|(rw[lT]at b2;cases b2;contradiction)|exact absurd (b3 _ (acC ja)) (by assumption)))]).symm,hN.aX⟩
 rw[decide_eq_false DS]
 refine RL.aw (v:=.int .i64 (n)) U (RL.aw (aE (cs:=[gv,fv,ov,iv,cW,cX]) acR iA (hN.aJ 0 rfl)) (RL.aw (ah acR rfl fH) (RL.aw (aj acQ (hN.aJ 0 rfl)) ?_)))
 refine RL.er (cn aiv rfl rfl rfl rfl rfl ((pI (n) _ _ _ _ _ _ gl _ (hg.o.now hN) _ sC eM (gM.o.now hN) (rZ.fm hN)).mono ?_))
 rintro _ lX ⟨rfl,bl⟩
 replace hN:=hN.ext bl
 clear bl
 refine RL.aw (cU rfl) (RL.ag (v:=.bool (decide (¬(qf (n) gl eM)))) (aB) (RL.ag (v:=.bool (decide (¬(qf (n) gl eM)))) U ?_))
 by_cases DR:¬(qf (n) gl eM)
 rw[decide_eq_true DR]
 iterate 6 refine RL.bH ?_
 refine RL.ag (v:=.bool true) (al) (RL.ak (RW.bD (RW.aN (RL.ag (v:=.int .i64 (2)) ai (RL.ak (RW.ret ?_))))))
 refine aU (bc (RV.tmp rfl) ?_)
 exact⟨congrArg (ac4 .i64) (show dD n gl fl ol il eM eS=2 by
  unfold dD
  rw[if_neg (by omega),if_neg (fun h=>by
  obtain⟨q1,q2,q3,q4,q5,q6,q7⟩:=h
  have EC:=q3.1
  first
  |omega
  |contradiction
  |(obtain⟨b1,b2,b3⟩:=q3.2 i lp eN;first|omega|(rw[lT]at b2;cases b2;contradiction)|exact absurd (b3 _ (acC ja)) (by assumption)))]).symm,hN.aX⟩
 rw[decide_eq_false DR]
 refine RL.aw (v:=.int .i64 (n)) U (RL.aw (aE (cs:=[gv,fv,ov,iv,cW,cX]) acR iA (hN.aJ 0 rfl)) (RL.aw (ah acR rfl fH) (RL.aw (aj acQ (hN.aJ 0 rfl)) ?_)))
 refine RL.er (cn aiv rfl rfl rfl rfl rfl ((pI (n) _ _ _ _ _ _ gl _ (hg.o.now hN) _ sD eS (gI.o.now hN) (r4.fm hN)).mono ?_))
 rintro _ oI ⟨rfl,bl⟩
 replace hN:=hN.ext bl
 clear bl
 refine RL.aw (cU rfl) (RL.ag (v:=.bool (decide (¬(qf (n) gl eS)))) (aB) (RL.ak ?_))
 refine RW.aG _ (fun SN=>?_) (fun SN=>?_)
 refine RW.aN (RL.ag (v:=.int .i64 (2)) ai (RL.ak (RW.ret (aU (bc (RV.tmp rfl) ?_)))))
 exact⟨congrArg (ac4 .i64) (show dD n gl fl ol il eM eS=2 by
  unfold dD
  rw[if_neg (by omega),if_neg (fun h=>by
  obtain⟨q1,q2,q3,q4,q5,q6,q7⟩:=h
  have EC:=q3.1
  first
  |omega
  |contradiction
  |(obtain⟨b1,b2,b3⟩:=q3.2 i lp eN;first|omega|(rw[lT]at b2;cases b2;contradiction)|exact absurd (b3 _ (acC ja)) (by assumption)))]).symm,hN.aX⟩
 refine RW.skip (aA (RW.aN (RL.ag (v:=.int .i64 (0)) ai (RL.ak (RW.ret (bc (RV.tmp rfl) ?_))))))
 exact⟨congrArg (ac4 .i64) (show dD n gl fl ol il eM eS=0 by
  unfold dD
  rw[if_neg (by omega),if_pos ⟨by omega,acX.1 (by assumption),⟨by omega,fun m r hm=>Js m r (by have:=(acF.1 hm).1;omega) hm⟩,acX.1 (by assumption),acX.1 (by assumption),acX.1 (by assumption),acX.1 (by assumption)⟩]).symm,hN.aX⟩
end Go.Proofs.YtngkdkbpgoddlaaGreat
namespace Go.Proofs.YtngkdkbpgoddlaaGreat
open Go.RowKit Go.Rl
open Go.Gr
theorem pX {rk:List Int} {ws:List I5} (h:dV rk ws=0):lg rk ws:=by
  unfold dV at h
  split at h
  · omega
  · split at h
    · assumption
    · omega
theorem oB (n:Int) (av rv wv:Value) (l:List I3) (rk:List Int) (ws:List I5) (w:World) (ha:Sm bC w av l) (hr:Sl vI w rv rk) (hw:Sm aV w wv ws) (gv:Value) (gl:List Int) (hg:Sl vI w gv gl) (fv:Value) (fh:List Hd) (fl:List (List Int)) (hf:Sl vh w fv fh) (o9:gG none_ vI w fh fl) (ov:Value) (oh:List Hd) (ol:List (List I2)) (ho:Sl vh w ov oh) (F2:gJ none_ bG w oh ol) (iv:Value) (ih:List Hd) (il:List (List I2)) (hi:Sl vh w iv ih) (uj:gJ none_ bG w ih il) (cW:Value) (sC:List Hd) (eM:List (List Int)) (gM:Sl vh w cW sC) (rZ:gG none_ vI w sC eM) (cX:Value) (sD:List Hd) (eS:List (List Int)) (gI:Sl vh w cX sD) (r4:gG none_ vI w sD eS) (V1:∀r∈ol,r.length≤8796093021952) (O9:∀r∈il,r.length≤8796093021952):aM acD 19 #[.agg #[.int .i64 n,av,rv,wv,gv,fv,ov,iv,cW,cX]] w fun r w'=>r=.int .i64 (dx n l rk ws gl fl ol il eM eS)∧Ext w w':=by
 refine aM.aZ aiW ?_
 rw[cH]
 have hN:=aH.nil w none_
 refine RW.aN ?_
 refine RL.aL (bJ (cs:=[.int .i64 (n),av,rv,wv,gv,fv,ov,iv,cW,cX]) rfl rfl hN ?_)
 clear hN
 intro g1 w1 (hN:aH w none_ w1 [_])
 refine RL.ag (v:=.int .i64 (0)) ai (RL.bY (RL.ag (ah acO rfl dw) (RL.ag (du (cs:=[.int .i64 (n),av,rv,wv,gv,fv,ov,iv,cW,cX]) (j:=0) (m:=2) acJ rfl dw rfl (hN.aJ 0 rfl) (acA rfl)) ?_)))
 refine RL.aL (bo ahz rfl rfl rfl ((tO (n) _ l _ (ha.o.now hN)).mono ?_))
 rintro _ w2 ⟨rfl,bl⟩
 replace hN:=hN.ext bl
 clear bl
 refine RL.ag (v:=.int .i64 ((dU (n) l))) ai (RL.ak ?_)
 iterate 2 refine RW.seq ?_
 refine RW.region (RL.ag (v:=.int .i64 ((dU (n) l))) U (RL.ag (ca) (RL.ak ?_)))
 refine RW.aG _ (fun kF=>?_) (fun kF=>?_)
 refine RW.region (RL.ag (ah acO rfl dq) (RL.ag (du (cs:=[.int .i64 (n),av,rv,wv,gv,fv,ov,iv,cW,cX]) (j:=2) (m:=2) acE rfl dq rfl (hN.aJ 0 rfl) (acA rfl)) ?_))
 refine RL.aL (bo Tryz.func50 rfl rfl rfl ((we _ _ rk ws _ (hr.o.now hN) (hw.o.now hN)).mono ?_))
 rintro _ w3 ⟨rfl,bl⟩
 replace hN:=hN.ext bl
 clear bl
 refine RL.ag (v:=.int .i64 ((dV rk ws))) ai (RL.ak ?_)
 iterate 2 refine RW.seq ?_
 refine RW.region (RL.ag (v:=.int .i64 ((dV rk ws))) U (RL.ag (ca) (RL.ak ?_)))
 refine RW.aG _ (fun Fc=>?_) (fun Fc=>?_)
 refine RW.region (RL.ag (ah acO rfl dw) (RL.ag (ah acJ rfl bI) (RL.ag (aj acy (hN.aJ 0 rfl)) (RL.ag (ah acO rfl iA) (RL.ag (du (cs:=[.int .i64 (n),av,rv,wv,gv,fv,ov,iv,cW,cX]) (j:=4) (m:=6) acR rfl iA rfl (hN.aJ 0 rfl) (acA rfl)) ?_)))))
 refine RL.aL (bu aiV rfl rfl rfl rfl ((oC (n) _ _ gl (hg.o.now hN) _ fh fl (hf.o.now hN) (o9.fm hN) _ oh ol (ho.o.now hN) (F2.ext hN.aX) _ ih il (hi.o.now hN) (uj.ext hN.aX) _ sC eM (gM.o.now hN) (rZ.fm hN) _ sD eS (gI.o.now hN) (r4.fm hN) V1 O9).mono ?_))
 rintro _ w4 ⟨rfl,bl⟩
 replace hN:=hN.ext bl
 clear bl
 refine RL.ag (v:=.int .i64 ((dD (n) gl fl ol il eM eS))) ai (RL.ak ?_)
 iterate 2 refine RW.seq ?_
 refine RW.region (RL.ag (v:=.int .i64 ((dD (n) gl fl ol il eM eS))) U (RL.ag (bj) (RL.ak ?_)))
 refine RW.aG _ (fun he=>?_) (fun he=>?_)
 refine RW.aN (RL.ag (v:=.int .i64 ((dD (n) gl fl ol il eM eS))) U (RL.ag (v:=.int .i64 ((dD (n) gl fl ol il eM eS))) ai (RL.ak (RW.ret (aU (bc (RV.tmp rfl) ?_))))))
 exact⟨congrArg (ac4 .i64) (show dx n l rk ws gl fl ol il eM eS=(dD (n) gl fl ol il eM eS) by
  unfold dx
  rw[if_neg (by omega),if_neg (by omega),if_pos (by omega)]).symm,hN.aX⟩
 refine RW.skip (aA ?_)
 iterate 2 refine RW.seq ?_
 have hm:dU n l=0:=by omega
 have hh:dV rk ws=0:=by omega
 refine RW.region (RL.ag (ah acO rfl dq) (RL.ag (ah acE rfl cc) (RL.ag (aj acz (hN.aJ 0 rfl)) ?_)))
 have qP:=(hr.o.now hN).bw
 refine RL.ag (aQ acz (hr.o.now hN)) (RL.ag (ah acO rfl dw) (RL.ag (ah acJ rfl bI) (RL.ag (aj acy (hN.aJ 0 rfl)) (RL.ag (bj) (RL.ak ?_)))))
 refine RW.aG _ (fun hlen=>?_) (fun hlen=>?_)
 refine RW.aN (RL.ag (v:=.int .i64 (2)) ai (RL.ak (RW.ret (aU (bc (RV.tmp rfl) ?_)))))
 exact⟨congrArg (ac4 .i64) (show dx n l rk ws gl fl ol il eM eS=2 by
  unfold dx
  rw[if_neg (by omega),if_neg (by omega),if_neg (by omega),if_neg (fun h=>by
  first
  |omega
  | (have h2 := h.2 x (acC hx) (by omega)
     first
     |(have:=(acF.1 h2).1;omega)
     |(rw[hy]at h2;cases h2;omega)
     |(rw[hy]at h2;cases h2;simp_all)))]).symm,hN.aX⟩
 refine RW.skip (aA ?_)
 iterate 2 refine RW.seq ?_
 refine RW.region (RL.ag (v:=.int .i64 (0)) ai (RL.ak (RW.block ?_)))
 refine RW.loop (fun k R0 cv=>∃i:Nat,R0 1=vP g1∧R0 4=vJ i∧aH w none_ cv [.aJ g1 [.int .i64 (n),av,rv,wv,gv,fv,ov,iv,cW,cX] 34]∧(i+k=ws.length)∧(∀(m:Nat) (y:I5),m<i→ws[m]?=some y→y.2.2.2.1= -1→l[y.2.2.2.2.toNat]?=some (y.1,y.2.1,y.2.2.1))) (ws.length) ?_ ?_
 exact⟨0,rfl,rfl,hN,by omega,fun m r hm=>absurd hm (by omega)⟩
 clear hN
 rintro k R0 cv ⟨i,bN,cu,hN,fP,yw⟩
 have cz:=BE bN cu
 obtain⟨fV,rfl⟩:=cz
 clear bN cu
 iterate 2 refine RW.seq ?_
 refine RW.region (RL.ag (v:=vJ i) U (RL.ag (ah acO rfl dq) (RL.ag (ah acE rfl eF) (RL.ag (aj acL (hN.aJ 0 rfl)) ?_))))
 have AK:=(hw.o.now hN).bw
 refine RL.ag (bO acL (hw.o.now hN)) (RL.ag (aK) (RL.ak ?_))
 refine RW.aG _ (fun cD=>?_) (fun cD=>?_)
 refine RW.skip (aA (RW.seq (RW.block (RW.seq ?_))))
 have aO:=cQ ws i
 obtain⟨x,hx⟩:=aO
 have J7:=(pX hh).2 i x hx
 refine RW.region (RL.ag (ah acO rfl dq) (RL.ag (ah acE rfl eF) (RL.ag (aj acL (hN.aJ 0 rfl)) (RL.ag (v:=vJ i) U (RL.ag (aT acL eh aI (hw.o.now hN)) (RL.ag (b0 (m:=i) (a:=x) acG eh aI (hw.o.now hN) hx (cs:=[.int .i64 (x.1),.int .i64 (x.2.1),.int .i64 (x.2.2.1),.int .i64 (x.2.2.2.1),.int .i64 (x.2.2.2.2)])) ?_))))))
 refine RL.aL (bz (cs:=[.int .i64 (0),.int .i64 (0),.int .i64 (0),.int .i64 (0),.int .i64 (0)]) fW rfl hN ?_)
 clear hN
 intro g7 w7 (hN:aH w none_ w7 [_,_])
 refine RL.aL (aS (vs:=[.int .i64 (x.1),.int .i64 (x.2.1),.int .i64 (x.2.2.1),.int .i64 (x.2.2.2.1),.int .i64 (x.2.2.2.2)]) eh rfl rfl rfl (bh (bh (bh (bh (bh cZ))))) hN 0 rfl rfl ?_)
 clear hN
 intro w8 (hN:aH w none_ w8 [_,_])
 refine RL.ak ?_
 iterate 2 refine RW.seq ?_
 refine RW.region (RL.ag (ah acG rfl cT) (RL.ag (ah acN rfl bI) (RL.ag (aj acy (hN.aJ 0 rfl)) (RL.ag (bj) (RL.ak ?_)))))
 refine RW.aG _ (fun lf=>?_) (fun lf=>?_)
 refine RW.exit (bP (aY (aA (RW.region (RL.ag (v:=vJ i) U (RL.ag (aD rfl rfl rfl (bg (by omega) (by omega))) (RL.ag (v:=.int .i64 ((i:Int)+1)) ai (RL.ak ?_))))))))
 exact⟨k-1,by omega,i+1,rfl,rfl,(hN.sb [1]),by omega,fun m z hm hz=>(adi m i).elim (fun e=>yw m z e hz) (fun e=>have e2:m=i:=(by omega);have e3:z=x:=ac7 (hz.symm.trans (e2▸hx));e3▸fun h0=>by first|exact absurd h0 lf|exact hy.trans (congrArg some (ad1 (by show y.1=x.1;omega) (ad1 (by show y.2.1=x.2.1;omega) (by show y.2.2=x.2.2.1;omega)))))⟩
 refine RW.skip (aA ?_)
 iterate 2 refine RW.seq ?_
 refine RW.region (RL.ag (ah acG rfl cT) (RL.ag (ah acN rfl bI) (RL.ag (aj acy (hN.aJ 0 rfl)) (RL.ag (ah acO rfl dw) (RL.ag (ah acJ rfl eZ) (RL.ag (aj acP (hN.aJ 1 rfl)) ?_))))))
 have Jp:=(ha.o.now hN).bw
 refine RL.ag (bO acP (ha.o.now hN)) (RL.ag (ck) (RL.ak ?_))
 refine RW.aG _ (fun im=>?_) (fun im=>?_)
 refine RW.aN (RL.ag (v:=.int .i64 (2)) ai (RL.ak (RW.ret (aU (bb ?_)))))
 iterate 2 refine aU ?_
 refine bb (aU (bc (RV.tmp rfl) ?_))
 exact⟨congrArg (ac4 .i64) (show dx n l rk ws gl fl ol il eM eS=2 by
  unfold dx
  rw[if_neg (by omega),if_neg (by omega),if_neg (by omega),if_neg (fun h=>by
  first
  |omega
  | (have h2 := h.2 x (acC hx) (by omega)
     first
     |(have:=(acF.1 h2).1;omega)
     |(rw[hy]at h2;cases h2;omega)
     |(rw[hy]at h2;cases h2;simp_all)))]).symm,hN.aX⟩
 refine RW.skip (aA (RW.seq ?_))
 have jS:=J7.2
 rw[if_pos (by omega)]at jS
 have aO:=cQ l (x.2.2.2.2.toNat)
 obtain⟨y,hy⟩:=aO
 refine RW.region (RL.ag (ah acO rfl dw) (RL.ag (ah acJ rfl eZ) (RL.ag (aj acP (hN.aJ 1 rfl)) (RL.ag (ah acG rfl cT) (RL.ag (ah acN rfl bI) (RL.ag (aj acy (hN.aJ 0 rfl)) (RL.ag (aT acP cY aW (ha.o.now hN)) (RL.ag (b0 (m:=(x.2.2.2.2).toNat) (a:=y) acT cY aW (ha.o.now hN) hy (cs:=[.int .i64 (y.1),.int .i64 (y.2.1),.int .i64 (y.2.2)])) ?_))))))))
 refine RL.aL (bz (cs:=[.int .i64 (0),.int .i64 (0),.int .i64 (0)]) fu rfl hN ?_)
 clear hN
 intro AS lR (hN:aH w none_ lR [_,_,_])
 refine RL.aL (aS (vs:=[.int .i64 (y.1),.int .i64 (y.2.1),.int .i64 (y.2.2)]) cY rfl rfl rfl (bh (bh (bh cZ))) hN 0 rfl rfl ?_)
 clear hN
 intro kY (hN:aH w none_ kY [_,_,_])
 refine RL.bY (RL.ag (ah acT rfl bI) (RL.ag (aj acy (hN.aJ 0 rfl)) (RL.ag (ah acG rfl bI) (RL.ag (aj acy (hN.aJ 1 rfl)) (RL.ag (bj) (RL.ag (v:=.bool (decide (¬y.1=x.1))) U ?_))))))
 by_cases ku:¬y.1=x.1
 rw[decide_eq_true ku]
 iterate 5 refine RL.bH ?_
 refine RL.ag (v:=.bool true) (al) (RL.ag (v:=.bool true) U ?_)
 iterate 6 refine RL.bH ?_
 refine RL.ag (v:=.bool true) (al) (RL.ak (RW.bD (RW.aN (RL.ag (v:=.int .i64 (2)) ai (RL.ak (RW.ret ?_))))))
 refine bb ?_
 iterate 2 refine aU ?_
 refine bb (aU (bc (RV.tmp rfl) ?_))
 exact⟨congrArg (ac4 .i64) (show dx n l rk ws gl fl ol il eM eS=2 by
  unfold dx
  rw[if_neg (by omega),if_neg (by omega),if_neg (by omega),if_neg (fun h=>by
  first
  |omega
  | (have h2 := h.2 x (acC hx) (by omega)
     first
     |(have:=(acF.1 h2).1;omega)
     |(rw[hy]at h2;cases h2;omega)
     |(rw[hy]at h2;cases h2;simp_all)))]).symm,hN.aX⟩
 rw[decide_eq_false ku]
 refine RL.aw (ah acT rfl bI) (RL.aw (aj acy (hN.aJ 0 rfl)) (RL.aw (ah acG rfl bI) (RL.aw (aj acy (hN.aJ 1 rfl)) (RL.aw (bj) (RL.ag (v:=.bool (decide (¬y.2.1=x.2.1))) (aB) (RL.ag (v:=.bool (decide (¬y.2.1=x.2.1))) U ?_))))))
 by_cases jl:¬y.2.1=x.2.1
 rw[decide_eq_true jl]
 iterate 6 refine RL.bH ?_
 refine RL.ag (v:=.bool true) (al) (RL.ak (RW.bD (RW.aN (RL.ag (v:=.int .i64 (2)) ai (RL.ak (RW.ret ?_))))))
 refine bb ?_
 iterate 2 refine aU ?_
 refine bb (aU (bc (RV.tmp rfl) ?_))
 exact⟨congrArg (ac4 .i64) (show dx n l rk ws gl fl ol il eM eS=2 by
  unfold dx
  rw[if_neg (by omega),if_neg (by omega),if_neg (by omega),if_neg (fun h=>by
  first
  |omega
  | (have h2 := h.2 x (acC hx) (by omega)
     first
     |(have:=(acF.1 h2).1;omega)
     |(rw[hy]at h2;cases h2;omega)
     |(rw[hy]at h2;cases h2;simp_all)))]).symm,hN.aX⟩
 rw[decide_eq_false jl]
 refine RL.aw (ah acT rfl bI) (RL.aw (aj acy (hN.aJ 0 rfl)) (RL.aw (ah acG rfl cT) (RL.aw (ah acN rfl bI) (RL.aw (aj acy (hN.aJ 1 rfl)) (RL.aw (bj) (RL.ag (v:=.bool (decide (¬y.2.2=x.2.2.1))) (aB) (RL.ak ?_)))))))
 refine RW.aG _ (fun fA=>?_) (fun fA=>?_)
 refine RW.aN (RL.ag (v:=.int .i64 (2)) ai (RL.ak (RW.ret (bb ?_))))
 iterate 2 refine aU ?_
 refine bb (aU (bc (RV.tmp rfl) ?_))
 exact⟨congrArg (ac4 .i64) (show dx n l rk ws gl fl ol il eM eS=2 by
  unfold dx
  rw[if_neg (by omega),if_neg (by omega),if_neg (by omega),if_neg (fun h=>by
  first
  |omega
  | (have h2 := h.2 x (acC hx) (by omega)
     first
     |(have:=(acF.1 h2).1;omega)
     |(rw[hy]at h2;cases h2;omega)
     |(rw[hy]at h2;cases h2;simp_all)))]).symm,hN.aX⟩
 refine RW.skip (ba (aA (RW.region (RL.ag (v:=vJ i) U (RL.ag (aD rfl rfl rfl (bg (by omega) (by omega))) (RL.ag (v:=.int .i64 ((i:Int)+1)) ai (RL.ak ?_)))))))
 exact⟨k-1,by omega,i+1,rfl,rfl,(hN.sb [2]),by omega,fun m z hm hz=>(adi m i).elim (fun e=>yw m z e hz) (fun e=>have e2:m=i:=(by omega);have e3:z=x:=ac7 (hz.symm.trans (e2▸hx));e3▸fun h0=>by first|exact absurd h0 lf|exact hy.trans (congrArg some (ad1 (by show y.1=x.1;omega) (ad1 (by show y.2.1=x.2.1;omega) (by show y.2.2=x.2.2.1;omega)))))⟩
 refine RW.exit ?_
 iterate 2 refine bP ?_
 refine aY (aA (RW.aN (RL.ag (v:=.int .i64 (0)) ai (RL.ak (RW.ret (bc (RV.tmp rfl) ?_))))))
 exact⟨congrArg (ac4 .i64) (show dx n l rk ws gl fl ol il eM eS=0 by
  unfold dx
  rw[if_neg (by omega),if_neg (by omega),if_neg (by omega),if_pos ⟨by omega,fun x hx=>by
  have aO:=ade hx
  obtain⟨m,hm⟩:=aO
  exact yw m x (by have:=(acF.1 hm).1;omega) hm⟩]).symm,hN.aX⟩
 refine RW.skip (aA ?_)
 iterate 2 refine RW.seq ?_
 refine RW.region (RL.ag (v:=.int .i64 ((dV rk ws))) U (RL.ag (bj) (RL.ak ?_)))
 refine RW.aG _ (fun he=>?_) (fun he=>?_)
 refine RW.aN (RL.ag (v:=.int .i64 ((dV rk ws))) U (RL.ag (v:=.int .i64 ((dV rk ws))) ai (RL.ak (RW.ret (aU (bc (RV.tmp rfl) ?_))))))
 exact⟨congrArg (ac4 .i64) (show dx n l rk ws gl fl ol il eM eS=(dV rk ws) by
  unfold dx
  rw[if_neg (by omega),if_pos (by omega)]).symm,hN.aX⟩
 refine RW.skip (aA ?_)
 iterate 2 refine RW.seq ?_
 have hm:dU n l=0:=by omega
 have hh:dV rk ws=0:=by omega
 refine RW.region (RL.ag (ah acO rfl dq) (RL.ag (ah acE rfl cc) (RL.ag (aj acz (hN.aJ 0 rfl)) ?_)))
 have MT:=(hr.o.now hN).bw
 refine RL.ag (aQ acz (hr.o.now hN)) (RL.ag (ah acO rfl dw) (RL.ag (ah acJ rfl bI) (RL.ag (aj acy (hN.aJ 0 rfl)) (RL.ag (bj) (RL.ak ?_)))))
 refine RW.aG _ (fun hlen=>?_) (fun hlen=>?_)
 refine RW.aN (RL.ag (v:=.int .i64 (2)) ai (RL.ak (RW.ret (aU (bc (RV.tmp rfl) ?_)))))
 exact⟨congrArg (ac4 .i64) (show dx n l rk ws gl fl ol il eM eS=2 by
  unfold dx
  rw[if_neg (by omega),if_neg (by omega),if_neg (by omega),if_neg (fun h=>by
  first
  |omega
  | (have h2 := h.2 x (acC hx) (by omega)
     first
     |(have:=(acF.1 h2).1;omega)
     |(rw[hy]at h2;cases h2;omega)
     |(rw[hy]at h2;cases h2;simp_all)))]).symm,hN.aX⟩
 refine RW.skip (aA ?_)
 iterate 2 refine RW.seq ?_
 refine RW.region (RL.ag (v:=.int .i64 (0)) ai (RL.ak (RW.block ?_)))
 refine RW.loop (fun k R0 cv=>∃i:Nat,R0 1=vP g1∧R0 4=vJ i∧aH w none_ cv [.aJ g1 [.int .i64 (n),av,rv,wv,gv,fv,ov,iv,cW,cX] 34]∧(i+k=ws.length)∧(∀(m:Nat) (y:I5),m<i→ws[m]?=some y→y.2.2.2.1= -1→l[y.2.2.2.2.toNat]?=some (y.1,y.2.1,y.2.2.1))) (ws.length) ?_ ?_
 exact⟨0,rfl,rfl,hN,by omega,fun m r hm=>absurd hm (by omega)⟩
 clear hN
 rintro k R0 cv ⟨i,bN,cu,hN,fP,yw⟩
 have cz:=BE bN cu
 obtain⟨fV,rfl⟩:=cz
 clear bN cu
 iterate 2 refine RW.seq ?_
 refine RW.region (RL.ag (v:=vJ i) U (RL.ag (ah acO rfl dq) (RL.ag (ah acE rfl eF) (RL.ag (aj acL (hN.aJ 0 rfl)) ?_))))
 have S0:=(hw.o.now hN).bw
 refine RL.ag (bO acL (hw.o.now hN)) (RL.ag (aK) (RL.ak ?_))
 refine RW.aG _ (fun cD=>?_) (fun cD=>?_)
 refine RW.skip (aA (RW.seq (RW.block (RW.seq ?_))))
 have aO:=cQ ws i
 obtain⟨x,hx⟩:=aO
 have J7:=(pX hh).2 i x hx
 refine RW.region (RL.ag (ah acO rfl dq) (RL.ag (ah acE rfl eF) (RL.ag (aj acL (hN.aJ 0 rfl)) (RL.ag (v:=vJ i) U (RL.ag (aT acL eh aI (hw.o.now hN)) (RL.ag (b0 (m:=i) (a:=x) acG eh aI (hw.o.now hN) hx (cs:=[.int .i64 (x.1),.int .i64 (x.2.1),.int .i64 (x.2.2.1),.int .i64 (x.2.2.2.1),.int .i64 (x.2.2.2.2)])) ?_))))))
 refine RL.aL (bz (cs:=[.int .i64 (0),.int .i64 (0),.int .i64 (0),.int .i64 (0),.int .i64 (0)]) fW rfl hN ?_)
 clear hN
 intro MV oI (hN:aH w none_ oI [_,_])
 refine RL.aL (aS (vs:=[.int .i64 (x.1),.int .i64 (x.2.1),.int .i64 (x.2.2.1),.int .i64 (x.2.2.2.1),.int .i64 (x.2.2.2.2)]) eh rfl rfl rfl (bh (bh (bh (bh (bh cZ))))) hN 0 rfl rfl ?_)
 clear hN
 intro ph (hN:aH w none_ ph [_,_])
 refine RL.ak ?_
 iterate 2 refine RW.seq ?_
 refine RW.region (RL.ag (ah acG rfl cT) (RL.ag (ah acN rfl bI) (RL.ag (aj acy (hN.aJ 0 rfl)) (RL.ag (bj) (RL.ak ?_)))))
 refine RW.aG _ (fun lf=>?_) (fun lf=>?_)
 refine RW.exit (bP (aY (aA (RW.region (RL.ag (v:=vJ i) U (RL.ag (aD rfl rfl rfl (bg (by omega) (by omega))) (RL.ag (v:=.int .i64 ((i:Int)+1)) ai (RL.ak ?_))))))))
 exact⟨k-1,by omega,i+1,rfl,rfl,(hN.sb [1]),by omega,fun m z hm hz=>(adi m i).elim (fun e=>yw m z e hz) (fun e=>have e2:m=i:=(by omega);have e3:z=x:=ac7 (hz.symm.trans (e2▸hx));e3▸fun h0=>by first|exact absurd h0 lf|exact hy.trans (congrArg some (ad1 (by show y.1=x.1;omega) (ad1 (by show y.2.1=x.2.1;omega) (by show y.2.2=x.2.2.1;omega)))))⟩
 refine RW.skip (aA ?_)
 iterate 2 refine RW.seq ?_
 refine RW.region (RL.ag (ah acG rfl cT) (RL.ag (ah acN rfl bI) (RL.ag (aj acy (hN.aJ 0 rfl)) (RL.ag (ah acO rfl dw) (RL.ag (ah acJ rfl eZ) (RL.ag (aj acP (hN.aJ 1 rfl)) ?_))))))
 have SZ:=(ha.o.now hN).bw
 refine RL.ag (bO acP (ha.o.now hN)) (RL.ag (ck) (RL.ak ?_))
 refine RW.aG _ (fun im=>?_) (fun im=>?_)
 refine RW.aN (RL.ag (v:=.int .i64 (2)) ai (RL.ak (RW.ret (aU (bb ?_)))))
 iterate 2 refine aU ?_
 refine bb (aU (bc (RV.tmp rfl) ?_))
 exact⟨congrArg (ac4 .i64) (show dx n l rk ws gl fl ol il eM eS=2 by
  unfold dx
  rw[if_neg (by omega),if_neg (by omega),if_neg (by omega),if_neg (fun h=>by
  first
  |omega
  | (have h2 := h.2 x (acC hx) (by omega)
     first
     |(have:=(acF.1 h2).1;omega)
     |(rw[hy]at h2;cases h2;omega)
     |(rw[hy]at h2;cases h2;simp_all)))]).symm,hN.aX⟩
 refine RW.skip (aA (RW.seq ?_))
 have jS:=J7.2
 rw[if_pos (by omega)]at jS
 have aO:=cQ l (x.2.2.2.2.toNat)
 obtain⟨y,hy⟩:=aO
 refine RW.region (RL.ag (ah acO rfl dw) (RL.ag (ah acJ rfl eZ) (RL.ag (aj acP (hN.aJ 1 rfl)) (RL.ag (ah acG rfl cT) (RL.ag (ah acN rfl bI) (RL.ag (aj acy (hN.aJ 0 rfl)) (RL.ag (aT acP cY aW (ha.o.now hN)) (RL.ag (b0 (m:=(x.2.2.2.2).toNat) (a:=y) acT cY aW (ha.o.now hN) hy (cs:=[.int .i64 (y.1),.int .i64 (y.2.1),.int .i64 (y.2.2)])) ?_))))))))
 refine RL.aL (bz (cs:=[.int .i64 (0),.int .i64 (0),.int .i64 (0)]) fu rfl hN ?_)
 clear hN
 intro g17 u3 (hN:aH w none_ u3 [_,_,_])
 refine RL.aL (aS (vs:=[.int .i64 (y.1),.int .i64 (y.2.1),.int .i64 (y.2.2)]) cY rfl rfl rfl (bh (bh (bh cZ))) hN 0 rfl rfl ?_)
 clear hN
 intro vd (hN:aH w none_ vd [_,_,_])
 refine RL.bY (RL.ag (ah acT rfl bI) (RL.ag (aj acy (hN.aJ 0 rfl)) (RL.ag (ah acG rfl bI) (RL.ag (aj acy (hN.aJ 1 rfl)) (RL.ag (bj) (RL.ag (v:=.bool (decide (¬y.1=x.1))) U ?_))))))
 by_cases ku:¬y.1=x.1
 rw[decide_eq_true ku]
 iterate 5 refine RL.bH ?_
 refine RL.ag (v:=.bool true) (al) (RL.ag (v:=.bool true) U ?_)
 iterate 6 refine RL.bH ?_
 refine RL.ag (v:=.bool true) (al) (RL.ak (RW.bD (RW.aN (RL.ag (v:=.int .i64 (2)) ai (RL.ak (RW.ret ?_))))))
 refine bb ?_
 iterate 2 refine aU ?_
 refine bb (aU (bc (RV.tmp rfl) ?_))
 exact⟨congrArg (ac4 .i64) (show dx n l rk ws gl fl ol il eM eS=2 by
  unfold dx
  rw[if_neg (by omega),if_neg (by omega),if_neg (by omega),if_neg (fun h=>by
  first
  |omega
  | (have h2 := h.2 x (acC hx) (by omega)
     first
     |(have:=(acF.1 h2).1;omega)
     |(rw[hy]at h2;cases h2;omega)
     |(rw[hy]at h2;cases h2;simp_all)))]).symm,hN.aX⟩
 rw[decide_eq_false ku]
 refine RL.aw (ah acT rfl bI) (RL.aw (aj acy (hN.aJ 0 rfl)) (RL.aw (ah acG rfl bI) (RL.aw (aj acy (hN.aJ 1 rfl)) (RL.aw (bj) (RL.ag (v:=.bool (decide (¬y.2.1=x.2.1))) (aB) (RL.ag (v:=.bool (decide (¬y.2.1=x.2.1))) U ?_))))))
 by_cases jl:¬y.2.1=x.2.1
 rw[decide_eq_true jl]
 iterate 6 refine RL.bH ?_
 refine RL.ag (v:=.bool true) (al) (RL.ak (RW.bD (RW.aN (RL.ag (v:=.int .i64 (2)) ai (RL.ak (RW.ret ?_))))))
 refine bb ?_
 iterate 2 refine aU ?_
 refine bb (aU (bc (RV.tmp rfl) ?_))
 exact⟨congrArg (ac4 .i64) (show dx n l rk ws gl fl ol il eM eS=2 by
  unfold dx
  rw[if_neg (by omega),if_neg (by omega),if_neg (by omega),if_neg (fun h=>by
  first
  |omega
  | (have h2 := h.2 x (acC hx) (by omega)
     first
     |(have:=(acF.1 h2).1;omega)
     |(rw[hy]at h2;cases h2;omega)
     |(rw[hy]at h2;cases h2;simp_all)))]).symm,hN.aX⟩
 rw[decide_eq_false jl]
 refine RL.aw (ah acT rfl bI) (RL.aw (aj acy (hN.aJ 0 rfl)) (RL.aw (ah acG rfl cT) (RL.aw (ah acN rfl bI) (RL.aw (aj acy (hN.aJ 1 rfl)) (RL.aw (bj) (RL.ag (v:=.bool (decide (¬y.2.2=x.2.2.1))) (aB) (RL.ak ?_)))))))
 refine RW.aG _ (fun fA=>?_) (fun fA=>?_)
 refine RW.aN (RL.ag (v:=.int .i64 (2)) ai (RL.ak (RW.ret (bb ?_))))
 iterate 2 refine aU ?_
 refine bb (aU (bc (RV.tmp rfl) ?_))
 exact⟨congrArg (ac4 .i64) (show dx n l rk ws gl fl ol il eM eS=2 by
  unfold dx
  rw[if_neg (by omega),if_neg (by omega),if_neg (by omega),if_neg (fun h=>by
  first
  |omega
  | (have h2 := h.2 x (acC hx) (by omega)
     first
     |(have:=(acF.1 h2).1;omega)
     |(rw[hy]at h2;cases h2;omega)
     |(rw[hy]at h2;cases h2;simp_all)))]).symm,hN.aX⟩
 refine RW.skip (ba (aA (RW.region (RL.ag (v:=vJ i) U (RL.ag (aD rfl rfl rfl (bg (by omega) (by omega))) (RL.ag (v:=.int .i64 ((i:Int)+1)) ai (RL.ak ?_)))))))
 exact⟨k-1,by omega,i+1,rfl,rfl,(hN.sb [2]),by omega,fun m z hm hz=>(adi m i).elim (fun e=>yw m z e hz) (fun e=>have e2:m=i:=(by omega);have e3:z=x:=ac7 (hz.symm.trans (e2▸hx));e3▸fun h0=>by first|exact absurd h0 lf|exact hy.trans (congrArg some (ad1 (by show y.1=x.1;omega) (ad1 (by show y.2.1=x.2.1;omega) (by show y.2.2=x.2.2.1;omega)))))⟩
 refine RW.exit ?_
 iterate 2 refine bP ?_
 refine aY (aA (RW.aN (RL.ag (v:=.int .i64 (0)) ai (RL.ak (RW.ret (bc (RV.tmp rfl) ?_))))))
 exact⟨congrArg (ac4 .i64) (show dx n l rk ws gl fl ol il eM eS=0 by
  unfold dx
  rw[if_neg (by omega),if_neg (by omega),if_neg (by omega),if_pos ⟨by omega,fun x hx=>by
  have aO:=ade hx
  obtain⟨m,hm⟩:=aO
  exact yw m x (by have:=(acF.1 hm).1;omega) hm⟩]).symm,hN.aX⟩
 refine RW.skip (aA ?_)
 iterate 2 refine RW.seq ?_
 refine RW.region (RL.ag (v:=.int .i64 ((dU (n) l))) U (RL.ag (ca) (RL.ak ?_)))
 refine RW.aG _ (fun Fc=>?_) (fun Fc=>?_)
 refine RW.region (RL.ag (ah acO rfl dw) (RL.ag (ah acJ rfl bI) (RL.ag (aj acy (hN.aJ 0 rfl)) (RL.ag (ah acO rfl iA) (RL.ag (du (cs:=[.int .i64 (n),av,rv,wv,gv,fv,ov,iv,cW,cX]) (j:=4) (m:=6) acR rfl iA rfl (hN.aJ 0 rfl) (acA rfl)) ?_)))))
 refine RL.aL (bu aiV rfl rfl rfl rfl ((oC (n) _ _ gl (hg.o.now hN) _ fh fl (hf.o.now hN) (o9.fm hN) _ oh ol (ho.o.now hN) (F2.ext hN.aX) _ ih il (hi.o.now hN) (uj.ext hN.aX) _ sC eM (gM.o.now hN) (rZ.fm hN) _ sD eS (gI.o.now hN) (r4.fm hN) V1 O9).mono ?_))
 rintro _ zo ⟨rfl,bl⟩
 replace hN:=hN.ext bl
 clear bl
 refine RL.ag (v:=.int .i64 ((dD (n) gl fl ol il eM eS))) ai (RL.ak ?_)
 iterate 2 refine RW.seq ?_
 refine RW.region (RL.ag (v:=.int .i64 ((dD (n) gl fl ol il eM eS))) U (RL.ag (bj) (RL.ak ?_)))
 refine RW.aG _ (fun he=>?_) (fun he=>?_)
 refine RW.aN (RL.ag (v:=.int .i64 ((dD (n) gl fl ol il eM eS))) U (RL.ag (v:=.int .i64 ((dD (n) gl fl ol il eM eS))) ai (RL.ak (RW.ret (aU (bc (RV.tmp rfl) ?_))))))
 exact⟨congrArg (ac4 .i64) (show dx n l rk ws gl fl ol il eM eS=(dD (n) gl fl ol il eM eS) by
  unfold dx
  rw[if_neg (by omega),if_neg (by omega),if_pos (by omega)]).symm,hN.aX⟩
 refine RW.skip (aA ?_)
 iterate 2 refine RW.seq ?_
 have hm:dU n l=0:=by omega
 have hh:dV rk ws=0:=by omega
 refine RW.region (RL.ag (ah acO rfl dq) (RL.ag (ah acE rfl cc) (RL.ag (aj acz (hN.aJ 0 rfl)) ?_)))
 have SY:=(hr.o.now hN).bw
 refine RL.ag (aQ acz (hr.o.now hN)) (RL.ag (ah acO rfl dw) (RL.ag (ah acJ rfl bI) (RL.ag (aj acy (hN.aJ 0 rfl)) (RL.ag (bj) (RL.ak ?_)))))
 refine RW.aG _ (fun hlen=>?_) (fun hlen=>?_)
 refine RW.aN (RL.ag (v:=.int .i64 (2)) ai (RL.ak (RW.ret (aU (bc (RV.tmp rfl) ?_)))))
 exact⟨congrArg (ac4 .i64) (show dx n l rk ws gl fl ol il eM eS=2 by
  unfold dx
  rw[if_neg (by omega),if_neg (by omega),if_neg (by omega),if_neg (fun h=>by
  first
  |omega
  | (have h2 := h.2 x (acC hx) (by omega)
     first
     |(have:=(acF.1 h2).1;omega)
     |(rw[hy]at h2;cases h2;omega)
     |(rw[hy]at h2;cases h2;simp_all)))]).symm,hN.aX⟩
 refine RW.skip (aA ?_)
 iterate 2 refine RW.seq ?_
 refine RW.region (RL.ag (v:=.int .i64 (0)) ai (RL.ak (RW.block ?_)))
 refine RW.loop (fun k R0 cv=>∃i:Nat,R0 1=vP g1∧R0 4=vJ i∧aH w none_ cv [.aJ g1 [.int .i64 (n),av,rv,wv,gv,fv,ov,iv,cW,cX] 34]∧(i+k=ws.length)∧(∀(m:Nat) (y:I5),m<i→ws[m]?=some y→y.2.2.2.1= -1→l[y.2.2.2.2.toNat]?=some (y.1,y.2.1,y.2.2.1))) (ws.length) ?_ ?_
 exact⟨0,rfl,rfl,hN,by omega,fun m r hm=>absurd hm (by omega)⟩
 clear hN
 rintro k R0 cv ⟨i,bN,cu,hN,fP,yw⟩
 have cz:=BE bN cu
 obtain⟨fV,rfl⟩:=cz
 clear bN cu
 iterate 2 refine RW.seq ?_
 refine RW.region (RL.ag (v:=vJ i) U (RL.ag (ah acO rfl dq) (RL.ag (ah acE rfl eF) (RL.ag (aj acL (hN.aJ 0 rfl)) ?_))))
 have Yx:=(hw.o.now hN).bw
 refine RL.ag (bO acL (hw.o.now hN)) (RL.ag (aK) (RL.ak ?_))
 refine RW.aG _ (fun cD=>?_) (fun cD=>?_)
 refine RW.skip (aA (RW.seq (RW.block (RW.seq ?_))))
 have aO:=cQ ws i
 obtain⟨x,hx⟩:=aO
 have J7:=(pX hh).2 i x hx
 refine RW.region (RL.ag (ah acO rfl dq) (RL.ag (ah acE rfl eF) (RL.ag (aj acL (hN.aJ 0 rfl)) (RL.ag (v:=vJ i) U (RL.ag (aT acL eh aI (hw.o.now hN)) (RL.ag (b0 (m:=i) (a:=x) acG eh aI (hw.o.now hN) hx (cs:=[.int .i64 (x.1),.int .i64 (x.2.1),.int .i64 (x.2.2.1),.int .i64 (x.2.2.2.1),.int .i64 (x.2.2.2.2)])) ?_))))))
 refine RL.aL (bz (cs:=[.int .i64 (0),.int .i64 (0),.int .i64 (0),.int .i64 (0),.int .i64 (0)]) fW rfl hN ?_)
 clear hN
 intro g22 yY (hN:aH w none_ yY [_,_])
 refine RL.aL (aS (vs:=[.int .i64 (x.1),.int .i64 (x.2.1),.int .i64 (x.2.2.1),.int .i64 (x.2.2.2.1),.int .i64 (x.2.2.2.2)]) eh rfl rfl rfl (bh (bh (bh (bh (bh cZ))))) hN 0 rfl rfl ?_)
 clear hN
 intro zn (hN:aH w none_ zn [_,_])
 refine RL.ak ?_
 iterate 2 refine RW.seq ?_
 refine RW.region (RL.ag (ah acG rfl cT) (RL.ag (ah acN rfl bI) (RL.ag (aj acy (hN.aJ 0 rfl)) (RL.ag (bj) (RL.ak ?_)))))
 refine RW.aG _ (fun lf=>?_) (fun lf=>?_)
 refine RW.exit (bP (aY (aA (RW.region (RL.ag (v:=vJ i) U (RL.ag (aD rfl rfl rfl (bg (by omega) (by omega))) (RL.ag (v:=.int .i64 ((i:Int)+1)) ai (RL.ak ?_))))))))
 exact⟨k-1,by omega,i+1,rfl,rfl,(hN.sb [1]),by omega,fun m z hm hz=>(adi m i).elim (fun e=>yw m z e hz) (fun e=>have e2:m=i:=(by omega);have e3:z=x:=ac7 (hz.symm.trans (e2▸hx));e3▸fun h0=>by first|exact absurd h0 lf|exact hy.trans (congrArg some (ad1 (by show y.1=x.1;omega) (ad1 (by show y.2.1=x.2.1;omega) (by show y.2.2=x.2.2.1;omega)))))⟩
 refine RW.skip (aA ?_)
 iterate 2 refine RW.seq ?_
 refine RW.region (RL.ag (ah acG rfl cT) (RL.ag (ah acN rfl bI) (RL.ag (aj acy (hN.aJ 0 rfl)) (RL.ag (ah acO rfl dw) (RL.ag (ah acJ rfl eZ) (RL.ag (aj acP (hN.aJ 1 rfl)) ?_))))))
 have Yw:=(ha.o.now hN).bw
 refine RL.ag (bO acP (ha.o.now hN)) (RL.ag (ck) (RL.ak ?_))
 refine RW.aG _ (fun im=>?_) (fun im=>?_)
 refine RW.aN (RL.ag (v:=.int .i64 (2)) ai (RL.ak (RW.ret (aU (bb ?_)))))
 iterate 2 refine aU ?_
 refine bb (aU (bc (RV.tmp rfl) ?_))
 exact⟨congrArg (ac4 .i64) (show dx n l rk ws gl fl ol il eM eS=2 by
  unfold dx
  rw[if_neg (by omega),if_neg (by omega),if_neg (by omega),if_neg (fun h=>by
  first
  |omega
  | (have h2 := h.2 x (acC hx) (by omega)
     first
     |(have:=(acF.1 h2).1;omega)
     |(rw[hy]at h2;cases h2;omega)
     |(rw[hy]at h2;cases h2;simp_all)))]).symm,hN.aX⟩
 refine RW.skip (aA (RW.seq ?_))
 have jS:=J7.2
 rw[if_pos (by omega)]at jS
 have aO:=cQ l (x.2.2.2.2.toNat)
 obtain⟨y,hy⟩:=aO
 refine RW.region (RL.ag (ah acO rfl dw) (RL.ag (ah acJ rfl eZ) (RL.ag (aj acP (hN.aJ 1 rfl)) (RL.ag (ah acG rfl cT) (RL.ag (ah acN rfl bI) (RL.ag (aj acy (hN.aJ 0 rfl)) (RL.ag (aT acP cY aW (ha.o.now hN)) (RL.ag (b0 (m:=(x.2.2.2.2).toNat) (a:=y) acT cY aW (ha.o.now hN) hy (cs:=[.int .i64 (y.1),.int .i64 (y.2.1),.int .i64 (y.2.2)])) ?_))))))))
 refine RL.aL (bz (cs:=[.int .i64 (0),.int .i64 (0),.int .i64 (0)]) fu rfl hN ?_)
 clear hN
 intro g25 L7 (hN:aH w none_ L7 [_,_,_])
 refine RL.aL (aS (vs:=[.int .i64 (y.1),.int .i64 (y.2.1),.int .i64 (y.2.2)]) cY rfl rfl rfl (bh (bh (bh cZ))) hN 0 rfl rfl ?_)
 clear hN
 intro FO (hN:aH w none_ FO [_,_,_])
 refine RL.bY (RL.ag (ah acT rfl bI) (RL.ag (aj acy (hN.aJ 0 rfl)) (RL.ag (ah acG rfl bI) (RL.ag (aj acy (hN.aJ 1 rfl)) (RL.ag (bj) (RL.ag (v:=.bool (decide (¬y.1=x.1))) U ?_))))))
 by_cases ku:¬y.1=x.1
 rw[decide_eq_true ku]
 iterate 5 refine RL.bH ?_
 refine RL.ag (v:=.bool true) (al) (RL.ag (v:=.bool true) U ?_)
 iterate 6 refine RL.bH ?_
 refine RL.ag (v:=.bool true) (al) (RL.ak (RW.bD (RW.aN (RL.ag (v:=.int .i64 (2)) ai (RL.ak (RW.ret ?_))))))
 refine bb ?_
 iterate 2 refine aU ?_
 refine bb (aU (bc (RV.tmp rfl) ?_))
 exact⟨congrArg (ac4 .i64) (show dx n l rk ws gl fl ol il eM eS=2 by
  unfold dx
  rw[if_neg (by omega),if_neg (by omega),if_neg (by omega),if_neg (fun h=>by
  first
  |omega
  | (have h2 := h.2 x (acC hx) (by omega)
     first
     |(have:=(acF.1 h2).1;omega)
     |(rw[hy]at h2;cases h2;omega)
     |(rw[hy]at h2;cases h2;simp_all)))]).symm,hN.aX⟩
 rw[decide_eq_false ku]
 refine RL.aw (ah acT rfl bI) (RL.aw (aj acy (hN.aJ 0 rfl)) (RL.aw (ah acG rfl bI) (RL.aw (aj acy (hN.aJ 1 rfl)) (RL.aw (bj) (RL.ag (v:=.bool (decide (¬y.2.1=x.2.1))) (aB) (RL.ag (v:=.bool (decide (¬y.2.1=x.2.1))) U ?_))))))
 by_cases jl:¬y.2.1=x.2.1
 rw[decide_eq_true jl]
 iterate 6 refine RL.bH ?_
 refine RL.ag (v:=.bool true) (al) (RL.ak (RW.bD (RW.aN (RL.ag (v:=.int .i64 (2)) ai (RL.ak (RW.ret ?_))))))
 refine bb ?_
 iterate 2 refine aU ?_
 refine bb (aU (bc (RV.tmp rfl) ?_))
 exact⟨congrArg (ac4 .i64) (show dx n l rk ws gl fl ol il eM eS=2 by
  unfold dx
  rw[if_neg (by omega),if_neg (by omega),if_neg (by omega),if_neg (fun h=>by
  first
  |omega
  | (have h2 := h.2 x (acC hx) (by omega)
     first
     |(have:=(acF.1 h2).1;omega)
     |(rw[hy]at h2;cases h2;omega)
     |(rw[hy]at h2;cases h2;simp_all)))]).symm,hN.aX⟩
 rw[decide_eq_false jl]
 refine RL.aw (ah acT rfl bI) (RL.aw (aj acy (hN.aJ 0 rfl)) (RL.aw (ah acG rfl cT) (RL.aw (ah acN rfl bI) (RL.aw (aj acy (hN.aJ 1 rfl)) (RL.aw (bj) (RL.ag (v:=.bool (decide (¬y.2.2=x.2.2.1))) (aB) (RL.ak ?_)))))))
 refine RW.aG _ (fun fA=>?_) (fun fA=>?_)
 refine RW.aN (RL.ag (v:=.int .i64 (2)) ai (RL.ak (RW.ret (bb ?_))))
 iterate 2 refine aU ?_
 refine bb (aU (bc (RV.tmp rfl) ?_))
 exact⟨congrArg (ac4 .i64) (show dx n l rk ws gl fl ol il eM eS=2 by
  unfold dx
  rw[if_neg (by omega),if_neg (by omega),if_neg (by omega),if_neg (fun h=>by
  first
  |omega
  | (have h2 := h.2 x (acC hx) (by omega)
     first
     |(have:=(acF.1 h2).1;omega)
     |(rw[hy]at h2;cases h2;omega)
     |(rw[hy]at h2;cases h2;simp_all)))]).symm,hN.aX⟩
 refine RW.skip (ba (aA (RW.region (RL.ag (v:=vJ i) U (RL.ag (aD rfl rfl rfl (bg (by omega) (by omega))) (RL.ag (v:=.int .i64 ((i:Int)+1)) ai (RL.ak ?_)))))))
 exact⟨k-1,by omega,i+1,rfl,rfl,(hN.sb [2]),by omega,fun m z hm hz=>(adi m i).elim (fun e=>yw m z e hz) (fun e=>have e2:m=i:=(by omega);have e3:z=x:=ac7 (hz.symm.trans (e2▸hx));e3▸fun h0=>by first|exact absurd h0 lf|exact hy.trans (congrArg some (ad1 (by show y.1=x.1;omega) (ad1 (by show y.2.1=x.2.1;omega) (by show y.2.2=x.2.2.1;omega)))))⟩
 refine RW.exit ?_
 iterate 2 refine bP ?_
 refine aY (aA (RW.aN (RL.ag (v:=.int .i64 (0)) ai (RL.ak (RW.ret (bc (RV.tmp rfl) ?_))))))
 exact⟨congrArg (ac4 .i64) (show dx n l rk ws gl fl ol il eM eS=0 by
  unfold dx
  rw[if_neg (by omega),if_neg (by omega),if_neg (by omega),if_pos ⟨by omega,fun x hx=>by
  have aO:=ade hx
  obtain⟨m,hm⟩:=aO
  exact yw m x (by have:=(acF.1 hm).1;omega) hm⟩]).symm,hN.aX⟩
 refine RW.skip (aA ?_)
 iterate 2 refine RW.seq ?_
 refine RW.region (RL.ag (v:=.int .i64 ((dU (n) l))) U (RL.ag (bj) (RL.ak ?_)))
 refine RW.aG _ (fun he=>?_) (fun he=>?_)
 refine RW.aN (RL.ag (v:=.int .i64 ((dU (n) l))) U (RL.ag (v:=.int .i64 ((dU (n) l))) ai (RL.ak (RW.ret (aU (bc (RV.tmp rfl) ?_))))))
 exact⟨congrArg (ac4 .i64) (show dx n l rk ws gl fl ol il eM eS=(dU (n) l) by
  unfold dx
  rw[if_pos (by omega)]).symm,hN.aX⟩
 refine RW.skip (aA ?_)
 iterate 2 refine RW.seq ?_
 have hm:dU n l=0:=by omega
 have hh:dV rk ws=0:=by omega
 refine RW.region (RL.ag (ah acO rfl dq) (RL.ag (ah acE rfl cc) (RL.ag (aj acz (hN.aJ 0 rfl)) ?_)))
 have Yu:=(hr.o.now hN).bw
 refine RL.ag (aQ acz (hr.o.now hN)) (RL.ag (ah acO rfl dw) (RL.ag (ah acJ rfl bI) (RL.ag (aj acy (hN.aJ 0 rfl)) (RL.ag (bj) (RL.ak ?_)))))
 refine RW.aG _ (fun hlen=>?_) (fun hlen=>?_)
 refine RW.aN (RL.ag (v:=.int .i64 (2)) ai (RL.ak (RW.ret (aU (bc (RV.tmp rfl) ?_)))))
 exact⟨congrArg (ac4 .i64) (show dx n l rk ws gl fl ol il eM eS=2 by
  unfold dx
  rw[if_neg (by omega),if_neg (by omega),if_neg (by omega),if_neg (fun h=>by
  first
  |omega
  | (have h2 := h.2 x (acC hx) (by omega)
     first
     |(have:=(acF.1 h2).1;omega)
     |(rw[hy]at h2;cases h2;omega)
     |(rw[hy]at h2;cases h2;simp_all)))]).symm,hN.aX⟩
 refine RW.skip (aA ?_)
 iterate 2 refine RW.seq ?_
 refine RW.region (RL.ag (v:=.int .i64 (0)) ai (RL.ak (RW.block ?_)))
 refine RW.loop (fun k R0 cv=>∃i:Nat,R0 1=vP g1∧R0 4=vJ i∧aH w none_ cv [.aJ g1 [.int .i64 (n),av,rv,wv,gv,fv,ov,iv,cW,cX] 34]∧(i+k=ws.length)∧(∀(m:Nat) (y:I5),m<i→ws[m]?=some y→y.2.2.2.1= -1→l[y.2.2.2.2.toNat]?=some (y.1,y.2.1,y.2.2.1))) (ws.length) ?_ ?_
 exact⟨0,rfl,rfl,hN,by omega,fun m r hm=>absurd hm (by omega)⟩
 clear hN
 rintro k R0 cv ⟨i,bN,cu,hN,fP,yw⟩
 have cz:=BE bN cu
 obtain⟨fV,rfl⟩:=cz
 clear bN cu
 iterate 2 refine RW.seq ?_
 refine RW.region (RL.ag (v:=vJ i) U (RL.ag (ah acO rfl dq) (RL.ag (ah acE rfl eF) (RL.ag (aj acL (hN.aJ 0 rfl)) ?_))))
 have Yt:=(hw.o.now hN).bw
 refine RL.ag (bO acL (hw.o.now hN)) (RL.ag (aK) (RL.ak ?_))
 refine RW.aG _ (fun cD=>?_) (fun cD=>?_)
 refine RW.skip (aA (RW.seq (RW.block (RW.seq ?_))))
 have aO:=cQ ws i
 obtain⟨x,hx⟩:=aO
 have J7:=(pX hh).2 i x hx
 refine RW.region (RL.ag (ah acO rfl dq) (RL.ag (ah acE rfl eF) (RL.ag (aj acL (hN.aJ 0 rfl)) (RL.ag (v:=vJ i) U (RL.ag (aT acL eh aI (hw.o.now hN)) (RL.ag (b0 (m:=i) (a:=x) acG eh aI (hw.o.now hN) hx (cs:=[.int .i64 (x.1),.int .i64 (x.2.1),.int .i64 (x.2.2.1),.int .i64 (x.2.2.2.1),.int .i64 (x.2.2.2.2)])) ?_))))))
 refine RL.aL (bz (cs:=[.int .i64 (0),.int .i64 (0),.int .i64 (0),.int .i64 (0),.int .i64 (0)]) fW rfl hN ?_)
 clear hN
 intro g29 L6 (hN:aH w none_ L6 [_,_])
 refine RL.aL (aS (vs:=[.int .i64 (x.1),.int .i64 (x.2.1),.int .i64 (x.2.2.1),.int .i64 (x.2.2.2.1),.int .i64 (x.2.2.2.2)]) eh rfl rfl rfl (bh (bh (bh (bh (bh cZ))))) hN 0 rfl rfl ?_)
 clear hN
 intro L5 (hN:aH w none_ L5 [_,_])
 refine RL.ak ?_
 iterate 2 refine RW.seq ?_
 refine RW.region (RL.ag (ah acG rfl cT) (RL.ag (ah acN rfl bI) (RL.ag (aj acy (hN.aJ 0 rfl)) (RL.ag (bj) (RL.ak ?_)))))
 refine RW.aG _ (fun lf=>?_) (fun lf=>?_)
 refine RW.exit (bP (aY (aA (RW.region (RL.ag (v:=vJ i) U (RL.ag (aD rfl rfl rfl (bg (by omega) (by omega))) (RL.ag (v:=.int .i64 ((i:Int)+1)) ai (RL.ak ?_))))))))
 exact⟨k-1,by omega,i+1,rfl,rfl,(hN.sb [1]),by omega,fun m z hm hz=>(adi m i).elim (fun e=>yw m z e hz) (fun e=>have e2:m=i:=(by omega);have e3:z=x:=ac7 (hz.symm.trans (e2▸hx));e3▸fun h0=>by first|exact absurd h0 lf|exact hy.trans (congrArg some (ad1 (by show y.1=x.1;omega) (ad1 (by show y.2.1=x.2.1;omega) (by show y.2.2=x.2.2.1;omega)))))⟩
 refine RW.skip (aA ?_)
 iterate 2 refine RW.seq ?_
 refine RW.region (RL.ag (ah acG rfl cT) (RL.ag (ah acN rfl bI) (RL.ag (aj acy (hN.aJ 0 rfl)) (RL.ag (ah acO rfl dw) (RL.ag (ah acJ rfl eZ) (RL.ag (aj acP (hN.aJ 1 rfl)) ?_))))))
 have Yr:=(ha.o.now hN).bw
 refine RL.ag (bO acP (ha.o.now hN)) (RL.ag (ck) (RL.ak ?_))
 refine RW.aG _ (fun im=>?_) (fun im=>?_)
 refine RW.aN (RL.ag (v:=.int .i64 (2)) ai (RL.ak (RW.ret (aU (bb ?_)))))
 iterate 2 refine aU ?_
 refine bb (aU (bc (RV.tmp rfl) ?_))
 exact⟨congrArg (ac4 .i64) (show dx n l rk ws gl fl ol il eM eS=2 by
  unfold dx
  rw[if_neg (by omega),if_neg (by omega),if_neg (by omega),if_neg (fun h=>by
  first
  |omega
  | (have h2 := h.2 x (acC hx) (by omega)
     first
     |(have:=(acF.1 h2).1;omega)
     |(rw[hy]at h2;cases h2;omega)
     |(rw[hy]at h2;cases h2;simp_all)))]).symm,hN.aX⟩
 refine RW.skip (aA (RW.seq ?_))
 have jS:=J7.2
 rw[if_pos (by omega)]at jS
 have aO:=cQ l (x.2.2.2.2.toNat)
 obtain⟨y,hy⟩:=aO
 refine RW.region (RL.ag (ah acO rfl dw) (RL.ag (ah acJ rfl eZ) (RL.ag (aj acP (hN.aJ 1 rfl)) (RL.ag (ah acG rfl cT) (RL.ag (ah acN rfl bI) (RL.ag (aj acy (hN.aJ 0 rfl)) (RL.ag (aT acP cY aW (ha.o.now hN)) (RL.ag (b0 (m:=(x.2.2.2.2).toNat) (a:=y) acT cY aW (ha.o.now hN) hy (cs:=[.int .i64 (y.1),.int .i64 (y.2.1),.int .i64 (y.2.2)])) ?_))))))))
 refine RL.aL (bz (cs:=[.int .i64 (0),.int .i64 (0),.int .i64 (0)]) fu rfl hN ?_)
 clear hN
 intro g32 FN (hN:aH w none_ FN [_,_,_])
 refine RL.aL (aS (vs:=[.int .i64 (y.1),.int .i64 (y.2.1),.int .i64 (y.2.2)]) cY rfl rfl rfl (bh (bh (bh cZ))) hN 0 rfl rfl ?_)
 clear hN
 intro Gm (hN:aH w none_ Gm [_,_,_])
 refine RL.bY (RL.ag (ah acT rfl bI) (RL.ag (aj acy (hN.aJ 0 rfl)) (RL.ag (ah acG rfl bI) (RL.ag (aj acy (hN.aJ 1 rfl)) (RL.ag (bj) (RL.ag (v:=.bool (decide (¬y.1=x.1))) U ?_))))))
 by_cases ku:¬y.1=x.1
 rw[decide_eq_true ku]
 iterate 5 refine RL.bH ?_
 refine RL.ag (v:=.bool true) (al) (RL.ag (v:=.bool true) U ?_)
 iterate 6 refine RL.bH ?_
 refine RL.ag (v:=.bool true) (al) (RL.ak (RW.bD (RW.aN (RL.ag (v:=.int .i64 (2)) ai (RL.ak (RW.ret ?_))))))
 refine bb ?_
 iterate 2 refine aU ?_
 refine bb (aU (bc (RV.tmp rfl) ?_))
 exact⟨congrArg (ac4 .i64) (show dx n l rk ws gl fl ol il eM eS=2 by
  unfold dx
  rw[if_neg (by omega),if_neg (by omega),if_neg (by omega),if_neg (fun h=>by
  first
  |omega
  | (have h2 := h.2 x (acC hx) (by omega)
     first
     |(have:=(acF.1 h2).1;omega)
     |(rw[hy]at h2;cases h2;omega)
     |(rw[hy]at h2;cases h2;simp_all)))]).symm,hN.aX⟩
 rw[decide_eq_false ku]
 refine RL.aw (ah acT rfl bI) (RL.aw (aj acy (hN.aJ 0 rfl)) (RL.aw (ah acG rfl bI) (RL.aw (aj acy (hN.aJ 1 rfl)) (RL.aw (bj) (RL.ag (v:=.bool (decide (¬y.2.1=x.2.1))) (aB) (RL.ag (v:=.bool (decide (¬y.2.1=x.2.1))) U ?_))))))
 by_cases jl:¬y.2.1=x.2.1
 rw[decide_eq_true jl]
 iterate 6 refine RL.bH ?_
 refine RL.ag (v:=.bool true) (al) (RL.ak (RW.bD (RW.aN (RL.ag (v:=.int .i64 (2)) ai (RL.ak (RW.ret ?_))))))
 refine bb ?_
 iterate 2 refine aU ?_
 refine bb (aU (bc (RV.tmp rfl) ?_))
 exact⟨congrArg (ac4 .i64) (show dx n l rk ws gl fl ol il eM eS=2 by
  unfold dx
  rw[if_neg (by omega),if_neg (by omega),if_neg (by omega),if_neg (fun h=>by
  first
  |omega
  | (have h2 := h.2 x (acC hx) (by omega)
     first
     |(have:=(acF.1 h2).1;omega)
     |(rw[hy]at h2;cases h2;omega)
     |(rw[hy]at h2;cases h2;simp_all)))]).symm,hN.aX⟩
 rw[decide_eq_false jl]
 refine RL.aw (ah acT rfl bI) (RL.aw (aj acy (hN.aJ 0 rfl)) (RL.aw (ah acG rfl cT) (RL.aw (ah acN rfl bI) (RL.aw (aj acy (hN.aJ 1 rfl)) (RL.aw (bj) (RL.ag (v:=.bool (decide (¬y.2.2=x.2.2.1))) (aB) (RL.ak ?_)))))))
 refine RW.aG _ (fun fA=>?_) (fun fA=>?_)
 refine RW.aN (RL.ag (v:=.int .i64 (2)) ai (RL.ak (RW.ret (bb ?_))))
 iterate 2 refine aU ?_
 refine bb (aU (bc (RV.tmp rfl) ?_))
 exact⟨congrArg (ac4 .i64) (show dx n l rk ws gl fl ol il eM eS=2 by
  unfold dx
  rw[if_neg (by omega),if_neg (by omega),if_neg (by omega),if_neg (fun h=>by
  first
  |omega
  | (have h2 := h.2 x (acC hx) (by omega)
     first
     |(have:=(acF.1 h2).1;omega)
     |(rw[hy]at h2;cases h2;omega)
     |(rw[hy]at h2;cases h2;simp_all)))]).symm,hN.aX⟩
 refine RW.skip (ba (aA (RW.region (RL.ag (v:=vJ i) U (RL.ag (aD rfl rfl rfl (bg (by omega) (by omega))) (RL.ag (v:=.int .i64 ((i:Int)+1)) ai (RL.ak ?_)))))))
 exact⟨k-1,by omega,i+1,rfl,rfl,(hN.sb [2]),by omega,fun m z hm hz=>(adi m i).elim (fun e=>yw m z e hz) (fun e=>have e2:m=i:=(by omega);have e3:z=x:=ac7 (hz.symm.trans (e2▸hx));e3▸fun h0=>by first|exact absurd h0 lf|exact hy.trans (congrArg some (ad1 (by show y.1=x.1;omega) (ad1 (by show y.2.1=x.2.1;omega) (by show y.2.2=x.2.2.1;omega)))))⟩
 refine RW.exit ?_
 iterate 2 refine bP ?_
 refine aY (aA (RW.aN (RL.ag (v:=.int .i64 (0)) ai (RL.ak (RW.ret (bc (RV.tmp rfl) ?_))))))
 exact⟨congrArg (ac4 .i64) (show dx n l rk ws gl fl ol il eM eS=0 by
  unfold dx
  rw[if_neg (by omega),if_neg (by omega),if_neg (by omega),if_pos ⟨by omega,fun x hx=>by
  have aO:=ade hx
  obtain⟨m,hm⟩:=aO
  exact yw m x (by have:=(acF.1 hm).1;omega) hm⟩]).symm,hN.aX⟩
end Go.Proofs.YtngkdkbpgoddlaaGreat
namespace Go.Proofs.YtngkdkbpgoddlaaGreat
open Go.RowKit Go.Rl
open Go.Gr
theorem pA (rv:Value) (rk:List Int) (w:World) (hr:Sl vI w rv rk) (Aj:rk.length≤16777216):aM acD 196 #[rv] w fun r w'=>(∃pv pl,r=.tuple #[pv,.bool true]∧jt rk pl rk.length∧aH w none_ w' [.own vI 3 pv pl])∨(¬mA rk∧r=.tuple #[vN,.bool false]∧Ext w w'):=by
 refine aM.aZ aix ?_
 rw[cH]
 have hN:=aH.nil w none_
 refine RW.aN (RL.ag (v:=vN) ai (RL.ag (v:=.bool false) ai (RL.bY (RL.ag (v:=rv) U ?_))))
 have nJ:=(hr.o.now hN).bw
 refine RL.ag (aQ acz (hr.o.now hN)) ?_
 refine RL.aL (iq (enc:=vI) (z:=0) acz fI rfl hN rfl (by omega) (by omega) (by omega) ?_)
 clear hN
 intro v2 w2 (hN:aH w none_ w2 [_])
 refine RL.ag (v:=v2) ai ?_
 replace hN:=hN.l7 0 rfl (show _=ac3 rk.length (0:Int)from by rw[aek])
 replace hN:aH w none_ w2 [_]:=hN
 refine RL.ak ?_
 iterate 2 refine RW.seq ?_
 refine RW.region (RL.ag (v:=v2) U ?_)
 have kH:=(hN.sl 0 rfl).bw
 refine RL.ag (aQ acz (hN.sl 0 rfl)) ?_
 have UM:=adb (n:=rk.length) (a:=(0:Int))
 refine RL.ag (v:=.int .i64 (0)) U (RL.ak (RW.block ?_))
 refine RW.loop (fun k R0 cv=>∃cs:List Int,∃j:Nat,R0 0=rv∧R0 4=v2∧R0 12=.int .i64 (((ac3 rk.length (0:Int)).length:Int))∧R0 13=vJ j∧aH w none_ cv [.own vI 3 (v2) (cs)]∧(j+k=rk.length)∧(cs.length=rk.length)∧(∀q,q<j→cs[q]?=some (-1))) (rk.length) ?_ ?_
 exact⟨ac3 rk.length (0:Int),0,rfl,rfl,rfl,rfl,hN,by omega,adb,fun q hq=>absurd hq (by omega)⟩
 clear hN
 rintro k R0 cv ⟨cs,j,cF,cu,eK,fe,hN,DM,F6,oz⟩
 have cz:=iV cF cu eK fe
 obtain⟨fV,rfl⟩:=cz
 clear cF cu eK fe
 refine RW.aN (RL.ag (aK) (RL.ak (RW.seq ?_)))
 refine RW.aG _ (fun cD=>?_) (fun cD=>?_)
 refine RW.skip (aA (RW.seq (RW.block (RW.aN (RL.ag (v:=vJ j) U (RL.ag (v:=vJ j) ai (RL.ak ?_)))))))
 refine RW.region (RL.ag (v:=v2) U (RL.ag (v:=vJ j) U (RL.ag (aC acz bI (hN.sl 0 rfl)) ?_)))
 refine RL.aL (cm (m:=j) (a:=(-1)) bI hN 0 rfl rfl (by omega) rfl rfl rfl rfl ?_)
 clear hN
 intro w4 (hN:aH w none_ w4 [_])
 refine RL.nil (ba (aA (RW.region (RL.ag (aD rfl rfl rfl (bg (by omega) (by omega))) (RL.ag (v:=.int .i64 ((j:Int)+1)) U (RL.ak ?_))))))
 exact⟨k-1,by omega,(cs).set j ((-1)),j+1,rfl,rfl,rfl,rfl,hN,by omega,by rw[adO];exact F6,yS (by omega) oz⟩
 refine RW.exit ?_
 iterate 2 refine bP ?_
 refine aY (aA ?_)
 iterate 2 refine RW.seq ?_
 refine RW.region (RL.ag (v:=rv) U (RL.ag (aQ acz (hr.o.now hN)) (RL.ag (v:=.int .i64 (0)) U (RL.ak (RW.block ?_)))))
 refine RW.loop (fun k2 R1 ez=>∃pl:List Int,∃i:Nat,R1 4=v2∧R1 20=rv∧R1 21=.int .i64 ((rk.length:Int))∧R1 22=vJ i∧aH w none_ ez [.own vI 3 (v2) (pl)]∧(i+k2=rk.length)∧(jt rk pl i)) (rk.length) ?_ ?_
 have hce:cs=ac3 rk.length (-1):=yT F6 fun q hq=>oz q (by omega)
 exact⟨cs,0,rfl,rfl,rfl,rfl,hN,by omega,by rw[hce];exact jt.start rk⟩
 clear hN
 rintro k2 R1 ez ⟨pl,i,cu,Av,Au,kO,hN,fP,hP⟩
 have cz:=iV cu Av Au kO
 obtain⟨re,rfl⟩:=cz
 clear cu Av Au kO
 refine RW.aN (RL.ag (aK) (RL.ak (RW.seq ?_)))
 refine RW.aG _ (fun ep=>?_) (fun ep=>?_)
 refine RW.skip (aA (RW.seq (RW.block (RW.aN (RL.ag (v:=vJ i) U (RL.ag (aC acz bI (hr.o.now hN)) ?_))))))
 have aO:=cQ (rk) i
 obtain⟨ap,bV⟩:=aO
 refine RL.ag (aF (m:=i) (a:=ap) acy (hr.o.now hN) bV) (RL.ag (v:=vJ i) ai (RL.ag (v:=.int .i64 (ap)) ai (RL.ak ?_)))
 iterate 2 refine RW.seq ?_
 have Oj:=hP.len
 refine RW.region (RL.ag (v:=.int .i64 (ap)) U (RL.ag (aK) (RL.ag (v:=.bool (decide (ap<0))) U ?_)))
 by_cases I1:ap<0
 rw[decide_eq_true I1]
 iterate 4 refine RL.bH ?_
 refine RL.ag (v:=.bool true) (al) (RL.ag (v:=.bool true) U ?_)
 iterate 5 refine RL.bH ?_
 refine RL.ag (v:=.bool true) (al) (RL.ak (RW.bD (RW.aN (RL.ag (v:=vN) ai (RL.ag (v:=.bool false) ai (RL.ak ?_))))))
 refine RW.ret (aU (bb ?_))
 iterate 2 refine aU ?_
 refine bb (aU (bc (RV.ju rfl) ?_))
 refine .inr ⟨?_,rfl,hN.aX⟩
 first
 |exact tC bV (by omega)
 |(obtain hz:=hP.dup bV (by omega) lT (by assumption);exact hz)
 rw[decide_eq_false I1]
 refine RL.aw (v:=.int .i64 (ap)) U (RL.aw (v:=v2) U ?_)
 have qP:=(hN.sl 0 rfl).bw
 refine RL.aw (aQ acz (hN.sl 0 rfl)) (RL.aw (ck) (RL.ag (v:=.bool (decide ((pl.length:Int)≤ap))) (aB) (RL.ag (v:=.bool (decide ((pl.length:Int)≤ap))) U ?_)))
 by_cases I0:(pl.length:Int)≤ap
 rw[decide_eq_true I0]
 iterate 5 refine RL.bH ?_
 refine RL.ag (v:=.bool true) (al) (RL.ak (RW.bD (RW.aN (RL.ag (v:=vN) ai (RL.ag (v:=.bool false) ai (RL.ak ?_))))))
 refine RW.ret (aU (bb ?_))
 iterate 2 refine aU ?_
 refine bb (aU (bc (RV.ju rfl) ?_))
 refine .inr ⟨?_,rfl,hN.aX⟩
 first
 |exact tC bV (by omega)
 |(obtain hz:=hP.dup bV (by omega) lT (by assumption);exact hz)
 rw[decide_eq_false I0]
 refine RL.aw (v:=v2) U (RL.aw (v:=.int .i64 (ap)) U (RL.aw (aC acz bI (hN.sl 0 rfl)) ?_))
 have aO:=cQ (pl) ((ap).toNat)
 obtain⟨az,lT⟩:=aO
 refine RL.aw (aF (m:=(ap).toNat) (a:=az) acy (hN.sl 0 rfl) lT) (RL.aw (bj) (RL.ag (v:=.bool (decide (¬az= -1))) (aB) (RL.ak ?_)))
 refine RW.aG _ (fun Lx=>?_) (fun Lx=>?_)
 refine RW.aN (RL.ag (v:=vN) ai (RL.ag (v:=.bool false) ai (RL.ak (RW.ret (aU (bb ?_))))))
 iterate 2 refine aU ?_
 refine bb (aU (bc (RV.ju rfl) ?_))
 refine .inr ⟨?_,rfl,hN.aX⟩
 first
 |exact tC bV (by omega)
 |(obtain hz:=hP.dup bV (by omega) lT (by assumption);exact hz)
 refine RW.skip (aA (RW.region (RL.ag (v:=v2) U (RL.ag (v:=.int .i64 (ap)) U (RL.ag (v:=vJ i) U (RL.ag (aC acz bI (hN.sl 0 rfl)) ?_))))))
 refine RL.aL (cm (m:=(ap).toNat) (a:=(i:Int)) bI hN 0 rfl rfl (by omega) rfl rfl rfl rfl ?_)
 clear hN
 intro w6 (hN:aH w none_ w6 [_])
 refine RL.nil (ba (aA (RW.region (RL.ag (aD rfl rfl rfl (bg (by omega) (by omega))) (RL.ag (v:=.int .i64 ((i:Int)+1)) U (RL.ak ?_))))))
 exact⟨k2-1,by omega,(pl).set (ap).toNat ((i:Int)),i+1,rfl,rfl,rfl,rfl,hN,by omega,hP.step bV (by omega) (by omega) (by rw[lT];exact congrArg some (acX.1 Lx))⟩
 refine RW.exit ?_
 iterate 2 refine bP ?_
 refine aY (aA (RW.aN (RL.ag (v:=v2) U (RL.ag (v:=v2) ai (RL.ag (v:=.bool true) ai (RL.ak (RW.ret ?_)))))))
 refine bc (RV.ju rfl) ?_
 have ic:i=rk.length:=by omega
 subst ic
 exact .inl ⟨_,_,rfl,hP,hN.sb [0]⟩
end Go.Proofs.YtngkdkbpgoddlaaGreat
namespace Go.Proofs.YtngkdkbpgoddlaaGreat
open Go.RowKit Go.Rl
open Go.Gr
theorem rH (rv wv:Value) (rk:List Int) (ws:List I5) (w:World) (hr:Sl vI w rv rk) (hw:Sm aV w wv ws):aM acD 197 #[.agg #[rv,wv]] w fun r w'=>(∃m,r=.tuple #[.map (some m),.bool true]∧kd rk ws∧aH w none_ w' [.mp rV m (jo ws 0) ws.length])∨(¬kd rk ws∧r=.tuple #[.map none,.bool false]∧Ext w w'):=by
 refine aM.aZ agw ?_
 rw[cH]
 have hN:=aH.nil w none_
 refine RW.aN ?_
 refine RL.aL (bJ (cs:=[rv,wv]) rfl rfl hN ?_)
 clear hN
 intro g1 w1 (hN:aH w none_ w1 [_])
 refine RL.ag ai (RL.ag (v:=.bool false) ai (RL.bY (RL.ag (ah acE rfl cc) (RL.ag (aj acz (hN.aJ 0 rfl)) ?_))))
 have iH:=(hr.o.now hN).bw
 refine RL.ag (aQ acz (hr.o.now hN)) (RL.ag (v:=.int .i64 ((rk.length:Int))) ai (RL.ak (RW.aN ?_)))
 refine RL.aL (zZ (t:=263) (kt:=282) (et:=3) (rV) hN ?_)
 clear hN
 intro m3 w3 (hN:aH w none_ w3 [_,_])
 refine RL.ag (v:=.map (some m3)) ai (RL.ak ?_)
 iterate 2 refine RW.seq ?_
 refine RW.region (RL.ag (ah acE rfl eF) (RL.ag (aj acL (hN.aJ 1 rfl)) ?_))
 have r7:=(hw.o.now hN).bw
 refine RL.ag (bO acL (hw.o.now hN)) (RL.ag (v:=.int .i64 (0)) U (RL.ak (RW.block ?_)))
 refine RW.loop (fun k R0 cv=>∃i:Nat,R0 4=.int .i64 ((rk.length:Int))∧R0 5=.map (some m3)∧R0 15=wv∧R0 16=.int .i64 ((ws.length:Int))∧R0 17=vJ i∧aH w none_ cv [.mp rV m3 ((jo (ws.take i) 0)) (i),.aJ g1 [rv,wv] 28]∧(i+k=ws.length)∧(∀(m:Nat) (y:I5),m<i→ws[m]?=some y→yV rk ws m y)) (ws.length) ?_ ?_
 exact⟨0,rfl,rfl,rfl,rfl,rfl,hN,by omega,fun m y hm=>absurd hm (by omega)⟩
 clear hN
 rintro k R0 cv ⟨i,cu,cy,nF,Ax,eJ,hN,fP,YE⟩
 have cz:=hC cu cy nF Ax eJ
 obtain⟨fV,rfl⟩:=cz
 clear cu cy nF Ax eJ
 refine RW.aN (RL.ag (aK) (RL.ak (RW.seq ?_)))
 refine RW.aG _ (fun cD=>?_) (fun cD=>?_)
 refine RW.skip (aA (RW.seq (RW.block (RW.seq ?_))))
 have aO:=cQ ws i
 obtain⟨x,hx⟩:=aO
 refine RW.region (RL.ag (v:=vJ i) U (RL.ag (aT acL eh aI (hw.o.now hN)) (RL.ag (b0 (m:=i) (a:=x) acG eh aI (hw.o.now hN) hx (cs:=[.int .i64 (x.1),.int .i64 (x.2.1),.int .i64 (x.2.2.1),.int .i64 (x.2.2.2.1),.int .i64 (x.2.2.2.2)])) ?_)))
 refine RL.aL (bz (cs:=[.int .i64 (0),.int .i64 (0),.int .i64 (0),.int .i64 (0),.int .i64 (0)]) fW rfl hN ?_)
 clear hN
 intro g5 w5 (hN:aH w none_ w5 [_,_,_])
 refine RL.ag (v:=vJ i) ai ?_
 refine RL.aL (aS (vs:=[.int .i64 (x.1),.int .i64 (x.2.1),.int .i64 (x.2.2.1),.int .i64 (x.2.2.2.1),.int .i64 (x.2.2.2.2)]) eh rfl rfl rfl (bh (bh (bh (bh (bh cZ))))) hN 0 rfl rfl ?_)
 clear hN
 intro w6 (hN:aH w none_ w6 [_,_,_])
 refine RL.ak ?_
 iterate 2 refine RW.seq ?_
 rcases fg (gH x.1 x.2.1) (ws.take i)with⟨o9,fA⟩|⟨j,y,o9,hy,hp,fA⟩
 refine RW.region (RL.ag (v:=.map (some m3)) U (RL.ag (ah acG rfl bI) (RL.ag (aj acy (hN.aJ 0 rfl)) (RL.ag (ah acG rfl bI) (RL.ag (aj acy (hN.aJ 0 rfl)) (RL.ag (bR (cs:=[.int .i64 (x.1),.int .i64 (x.2.1)]) adF j4 (places:=#[(0,1),(1,1)]) (by intro w;kernel_rfl) (pl:=[(0,.tmp 25),(1,.tmp 27)]) rfl (ps:=[(0,.int .i64 (x.1)),(1,.int .i64 (x.2.1))]) rfl (zc:=[.int .i64 (0),.int .i64 (0)]) rfl (aP (vs:=[.int .i64 (x.1)]) rfl rfl (acA rfl) (aP (vs:=[.int .i64 (x.2.1)]) rfl rfl (acA rfl) rfl))) (RL.ag (p7 aep (ml (t1:=0) (t2:=0) adF (by kernel_rfl) ⟨by decide,rfl⟩ ⟨by decide,rfl⟩ acy acy) Dg (hN.mp 1 rfl) rfl rfl (ko fA)) (RL.ag (v:=.tuple #[.int .i64 (0),.bool false]) U ?_))))))))
 iterate 2 refine RL.ag (bE) ?_
 refine RL.ag (v:=.int .i64 (0)) ai (RL.ag (v:=.bool false) ai (RL.ak (RW.block ?_)))
 iterate 2 refine RW.seq ?_
 refine RW.region (RL.ag (v:=.bool false) U (RL.ag (v:=.bool false) ai (RL.ak (RW.cj (RW.aN (RL.ag (ah acG rfl bI) (RL.ag (aj acy (hN.aJ 0 rfl)) ?_)))))))
 refine RL.ag (ah acG rfl bI) (RL.ag (aj acy (hN.aJ 0 rfl)) (RL.ag (ca) (RL.ag (v:=.bool (decide (x.1=x.2.1))) ai (RL.ak ?_))))
 refine RW.aG _ (fun oV=>?_) (fun oV=>?_)
 refine RW.skip (aA (RW.oZ _ rfl oV (RW.aN (RL.ag ai (RL.ag (v:=.bool false) ai (RL.ak (RW.ret ?_)))))))
 refine bb (aU (bb ?_))
 iterate 2 refine aU ?_
 refine bb (aU (bc (RV.ju rfl) ?_))
 refine .inr ⟨?_,rfl,hN.aX⟩
 first
 |exact lN hx hy hp
 |exact fun h=>by
    have aO:=h i x hx
    obtain⟨e1,e2,e3,e4,e5,e6⟩:=aO
    omega
 refine RW.aN (RL.ag (ah acG rfl bI) (RL.ag (aj acy (hN.aJ 0 rfl)) (RL.ag (ah acG rfl bI) (RL.ag (aj acy (hN.aJ 0 rfl)) (RL.ag (ah acG rfl cT) (RL.ag (ah acN rfl bI) (RL.ag (aj acy (hN.aJ 0 rfl)) (RL.ag (DY rfl rfl rfl) ?_))))))))
 refine RL.ag (aK) (RL.ag (v:=.bool (decide ((min (min (x.1) (x.2.1)) (x.2.2.1))<0))) ai (RL.ak ?_))
 refine RW.aG _ (fun oV=>?_) (fun oV=>?_)
 refine RW.skip (aA (RW.oZ _ rfl oV (RW.aN (RL.ag ai (RL.ag (v:=.bool false) ai (RL.ak (RW.ret ?_)))))))
 refine bb (aU (bb ?_))
 iterate 2 refine aU ?_
 refine bb (aU (bc (RV.ju rfl) ?_))
 refine .inr ⟨?_,rfl,hN.aX⟩
 first
 |exact lN hx hy hp
 |exact fun h=>by
    have aO:=h i x hx
    obtain⟨e1,e2,e3,e4,e5,e6⟩:=aO
    omega
 refine RW.aN (RL.ag (ah acG rfl bI) (RL.ag (aj acy (hN.aJ 0 rfl)) (RL.ag (ah acG rfl bI) (RL.ag (aj acy (hN.aJ 0 rfl)) (RL.ag (uS rfl rfl) (RL.ag (v:=.int .i64 ((rk.length:Int))) U (RL.ag (ck) (RL.ag (v:=.bool (decide ((rk.length:Int)≤(max (x.1) (x.2.1))))) ai ?_))))))))
 refine RL.ak ?_
 refine RW.aG _ (fun oV=>?_) (fun oV=>?_)
 refine RW.skip (aA (RW.oZ _ rfl oV (RW.aN (RL.ag ai (RL.ag (v:=.bool false) ai (RL.ak (RW.ret ?_)))))))
 refine bb (aU (bb ?_))
 iterate 2 refine aU ?_
 refine bb (aU (bc (RV.ju rfl) ?_))
 refine .inr ⟨?_,rfl,hN.aX⟩
 first
 |exact lN hx hy hp
 |exact fun h=>by
    have aO:=h i x hx
    obtain⟨e1,e2,e3,e4,e5,e6⟩:=aO
    omega
 refine RW.region (RL.ag (ah acG rfl cT) (RL.ag (ah acN rfl bI) (RL.ag (aj acy (hN.aJ 0 rfl)) (RL.ag (cq) (RL.ag (v:=.bool (decide (1152921504606846976<x.2.2.1))) ai (RL.ak ?_))))))
 refine RW.aG _ (fun oV=>?_) (fun oV=>?_)
 refine RW.aN (RL.ag ai (RL.ag (v:=.bool false) ai (RL.ak (RW.ret (bb (aU (bb ?_)))))))
 iterate 2 refine aU ?_
 refine bb (aU (bc (RV.ju rfl) ?_))
 refine .inr ⟨?_,rfl,hN.aX⟩
 first
 |exact lN hx hy hp
 |exact fun h=>by
    have aO:=h i x hx
    obtain⟨e1,e2,e3,e4,e5,e6⟩:=aO
    omega
 refine RW.skip (ba (aA (RW.region (RL.ag (v:=.map (some m3)) U (RL.ag (ah acG rfl bI) (RL.ag (aj acy (hN.aJ 0 rfl)) (RL.ag (ah acG rfl bI) (RL.ag (aj acy (hN.aJ 0 rfl)) (RL.ag (bR (cs:=[.int .i64 (x.1),.int .i64 (x.2.1)]) adF j4 (places:=#[(0,1),(1,1)]) (by intro w;kernel_rfl) (pl:=[(0,.tmp 61),(1,.tmp 63)]) rfl (ps:=[(0,.int .i64 (x.1)),(1,.int .i64 (x.2.1))]) rfl (zc:=[.int .i64 (0),.int .i64 (0)]) rfl (aP (vs:=[.int .i64 (x.1)]) rfl rfl (acA rfl) (aP (vs:=[.int .i64 (x.2.1)]) rfl rfl (acA rfl) rfl))) ?_)))))))))
 refine RL.ag (v:=vJ i) U ?_
 refine RL.aL (Ca (a:=(x.1,x.2.1)) (v:=vJ i) aep (ml (t1:=0) (t2:=0) adF (by kernel_rfl) ⟨by decide,rfl⟩ ⟨by decide,rfl⟩ acy acy) hN 1 rfl rfl rfl rfl (ko fA) ?_)
 clear hN
 intro w7 (hN:aH w none_ w7 [_,_,_])
 rw[←JD hx]at hN
 replace hN:aH w none_ w7 [.aJ g5 [.int .i64 (x.1),.int .i64 (x.2.1),.int .i64 (x.2.2.1),.int .i64 (x.2.2.2.1),.int .i64 (x.2.2.2.2)] 98,.mp rV m3 ((jo (ws.take (i+1)) 0)) (i+1),.aJ g1 [rv,wv] 28]:=hN
 refine RL.nil (ba (aA (RW.region (RL.ag (aD rfl rfl rfl (bg (by omega) (by omega))) (RL.ag (v:=.int .i64 ((i:Int)+1)) U (RL.ak ?_))))))
 exact⟨k-1,by omega,i+1,rfl,rfl,rfl,rfl,rfl,(hN.sb [1,2]),by omega,fun m z hm hz=>(adi m i).elim (fun e=>YE m z e hz) (fun e=>have e2:m=i:=(by omega);have e3:z=x:=ac7 (hz.symm.trans (e2▸hx));e2▸e3▸⟨by omega,by omega,by omega,by omega,by omega,nK fA hx ⟨rfl,rfl⟩⟩)⟩
 refine RW.region (RL.ag (v:=.map (some m3)) U (RL.ag (ah acG rfl bI) (RL.ag (aj acy (hN.aJ 0 rfl)) (RL.ag (ah acG rfl bI) (RL.ag (aj acy (hN.aJ 0 rfl)) (RL.ag (bR (cs:=[.int .i64 (x.1),.int .i64 (x.2.1)]) adF j4 (places:=#[(0,1),(1,1)]) (by intro w;kernel_rfl) (pl:=[(0,.tmp 25),(1,.tmp 27)]) rfl (ps:=[(0,.int .i64 (x.1)),(1,.int .i64 (x.2.1))]) rfl (zc:=[.int .i64 (0),.int .i64 (0)]) rfl (aP (vs:=[.int .i64 (x.1)]) rfl rfl (acA rfl) (aP (vs:=[.int .i64 (x.2.1)]) rfl rfl (acA rfl) rfl))) (RL.ag (p6 (v:=vJ j) aep (ml (t1:=0) (t2:=0) adF (by kernel_rfl) ⟨by decide,rfl⟩ ⟨by decide,rfl⟩ acy acy) (hN.mp 1 rfl) rfl rfl ((mj hy hp fA).trans (by rw[aeY]))) (RL.ag (v:=.tuple #[vJ j,.bool true]) U ?_))))))))
 iterate 2 refine RL.ag (bE) ?_
 refine RL.ag (v:=vJ j) ai (RL.ag (v:=.bool true) ai (RL.ak (RW.block ?_)))
 iterate 2 refine RW.seq ?_
 refine RW.region (RL.ag (v:=.bool true) U (RL.ag (v:=.bool true) ai (RL.ak (RW.bD (RW.skip (aA (RW.bD (RW.seq ?_))))))))
 refine RW.region (RL.ag ai (RL.ag (v:=.bool false) ai (RL.ak (RW.ret (bb (aU (bb ?_)))))))
 iterate 2 refine aU ?_
 refine bb (aU (bc (RV.ju rfl) ?_))
 refine .inr ⟨?_,rfl,hN.aX⟩
 first
 |exact lN hx hy hp
 |exact fun h=>by
    have aO:=h i x hx
    obtain⟨e1,e2,e3,e4,e5,e6⟩:=aO
    omega
 refine RW.exit ?_
 iterate 2 refine bP ?_
 refine aY (aA (RW.seq ?_))
 have hF:kd rk ws:=fun m y hy=>YE m y (by have:=(acF.1 hy).1;omega) hy
 refine RW.region (RL.ag (v:=.map (some m3)) U (RL.ag (v:=.map (some m3)) ai (RL.ag (v:=.bool true) ai (RL.ak (RW.ret (bc (RV.ju rfl) ?_))))))
 have ic:i=ws.length:=by omega
 subst ic
 rw[adm]at hN
 exact .inl ⟨_,rfl,hF,hN.sb [0]⟩
theorem EE (rv:Value) (rk:List Int) (w:World) (hr:Sl vI w rv rk) (Aj:rk.length≤16777216) (h:mA rk):aM acD 196 #[rv] w fun r w'=>∃pv pl,r=.tuple #[pv,.bool true]∧jt rk pl rk.length∧aH w none_ w' [.own vI 3 pv pl]:=(pA rv rk w hr Aj).mono fun r w' hq=>hq.elim id fun e=>absurd h e.1
theorem B6 (rv:Value) (rk:List Int) (w:World) (hr:Sl vI w rv rk) (Aj:rk.length≤16777216) (h:¬mA rk):aM acD 196 #[rv] w fun r w'=>r=.tuple #[vN,.bool false]∧Ext w w':=(pA rv rk w hr Aj).mono fun r w' hq=>hq.elim (fun⟨_,_,_,hP,_⟩=>absurd hP.all h) fun e=>e.2
theorem AW (rv wv:Value) (rk:List Int) (ws:List I5) (w:World) (hr:Sl vI w rv rk) (hw:Sm aV w wv ws) (h:kd rk ws):aM acD 197 #[.agg #[rv,wv]] w fun r w'=>∃m,r=.tuple #[.map (some m),.bool true]∧aH w none_ w' [.mp rV m (jo ws 0) ws.length]:=(rH rv wv rk ws w hr hw).mono fun r w' hq=>hq.elim (fun⟨m,e1,_,e3⟩=>⟨m,e1,e3⟩) fun e=>absurd h e.1
theorem xh (rv wv:Value) (rk:List Int) (ws:List I5) (w:World) (hr:Sl vI w rv rk) (hw:Sm aV w wv ws) (h:¬kd rk ws):aM acD 197 #[.agg #[rv,wv]] w fun r w'=>r=.tuple #[.map none,.bool false]∧Ext w w':=(rH rv wv rk ws w hr hw).mono fun r w' hq=>hq.elim (fun⟨_,_,h2,_⟩=>absurd h2 h) fun e=>e.2
end Go.Proofs.YtngkdkbpgoddlaaGreat
namespace Go.Proofs.YtngkdkbpgoddlaaGreat
open Go.RowKit Go.Rl
open Go.Gr
theorem yr (rv wv:Value) (rk:List Int) (ws:List I5) (w:World) (hr:Sl vI w rv rk) (hw:Sm aV w wv ws) (x:I5) (m c:Nat) (hb:w.heap[m]?=some (.map (kC rV (jo ws 0)) c)):aM acD 211 #[.agg #[rv,wv],.map (some m),.agg #[.int .i64 x.1,.int .i64 x.2.1,.int .i64 x.2.2.1,.int .i64 x.2.2.2.1,.int .i64 x.2.2.2.2]] w fun r w'=>r=gD (kV (gH x.1 x.2.2.2.1) ws) (kV (gH x.2.2.2.1 x.2.1) ws)∧Ext w w':=by
 refine aM.aZ agx ?_
 rw[iu]
 have hN:=aH.nil w none_
 refine RW.aN ?_
 refine RL.aL (bJ (cs:=[rv,wv]) rfl rfl hN ?_)
 clear hN
 intro g1 w1 (hN:aH w none_ w1 [_])
 refine RL.aL (bJ (cs:=[.int .i64 (x.1),.int .i64 (x.2.1),.int .i64 (x.2.2.1),.int .i64 (x.2.2.2.1),.int .i64 (x.2.2.2.2)]) rfl rfl hN ?_)
 clear hN
 intro g2 w2 (hN:aH w none_ w2 [_,_])
 iterate 2 refine RL.ag (v:=.int .i64 (0)) ai ?_
 refine RL.ag (v:=.bool false) ai (RL.ak (RW.seq ?_))
 rcases fg (gH x.1 x.2.2.2.1) ws with⟨ea,Sb⟩|⟨a,y,ea,Cx,R7,SP⟩
 refine RW.region (RL.ag (v:=.map (some m)) U (RL.ag (ah acG rfl bI) (RL.ag (aj acy (hN.aJ 0 rfl)) (RL.ag (ah acG rfl cT) (RL.ag (ah acN rfl bI) (RL.ag (aj acy (hN.aJ 0 rfl)) (RL.ag (bR (cs:=[.int .i64 (x.1),.int .i64 (x.2.2.2.1)]) adF j4 (places:=#[(0,1),(1,1)]) (by intro w;kernel_rfl) (pl:=[(0,.tmp 16),(1,.tmp 19)]) rfl (ps:=[(0,.int .i64 (x.1)),(1,.int .i64 (x.2.2.2.1))]) rfl (zc:=[.int .i64 (0),.int .i64 (0)]) rfl (aP (vs:=[.int .i64 (x.1)]) rfl rfl (acA rfl) (aP (vs:=[.int .i64 (x.2.2.2.1)]) rfl rfl (acA rfl) rfl))) (RL.ag (p7 aep (ml (t1:=0) (t2:=0) adF (by kernel_rfl) ⟨by decide,rfl⟩ ⟨by decide,rfl⟩ acy acy) Dg (ld hb hN.aX) rfl rfl (ko Sb)) (RL.ag (v:=.tuple #[.int .i64 (0),.bool false]) U ?_)))))))))
 iterate 2 refine RL.ag (bE) ?_
 refine RL.ag (v:=.int .i64 (0)) ai (RL.ag (v:=.bool false) ai (RL.ak (RW.seq ?_)))
 rcases fg (gH x.2.2.2.1 x.2.1) ws with⟨eb,H9⟩|⟨b,z,eb,y7,H4,Jh⟩
 refine RW.region (RL.ag (v:=.map (some m)) U (RL.ag (ah acG rfl cT) (RL.ag (ah acN rfl bI) (RL.ag (aj acy (hN.aJ 0 rfl)) (RL.ag (ah acG rfl bI) (RL.ag (aj acy (hN.aJ 0 rfl)) (RL.ag (bR (cs:=[.int .i64 (x.2.2.2.1),.int .i64 (x.2.1)]) adF j4 (places:=#[(0,1),(1,1)]) (by intro w;kernel_rfl) (pl:=[(0,.tmp 28),(1,.tmp 30)]) rfl (ps:=[(0,.int .i64 (x.2.2.2.1)),(1,.int .i64 (x.2.1))]) rfl (zc:=[.int .i64 (0),.int .i64 (0)]) rfl (aP (vs:=[.int .i64 (x.2.2.2.1)]) rfl rfl (acA rfl) (aP (vs:=[.int .i64 (x.2.1)]) rfl rfl (acA rfl) rfl))) (RL.ag (p7 aep (ml (t1:=0) (t2:=0) adF (by kernel_rfl) ⟨by decide,rfl⟩ ⟨by decide,rfl⟩ acy acy) Dg (ld hb hN.aX) rfl rfl (ko H9)) (RL.ag (v:=.tuple #[.int .i64 (0),.bool false]) U ?_)))))))))
 iterate 2 refine RL.ag (bE) ?_
 refine RL.ag (v:=.int .i64 (0)) ai (RL.ag (v:=.bool false) ai (RL.ak (RW.aN ?_)))
 iterate 2 refine RL.ag (v:=.int .i64 (0)) U ?_
 iterate 2 refine RL.ag (v:=.bool false) U ?_
 refine RL.bH (RL.ag (v:=.bool false) (aB) ?_)
 iterate 2 refine RL.ag (v:=.int .i64 (0)) ai ?_
 refine RL.ag (v:=.bool false) ai (RL.ak (RW.ret (bc (RV.Kx rfl) ?_)))
 exact⟨(show gD (kV (gH x.1 x.2.2.2.1) ws) (kV (gH x.2.2.2.1 x.2.1) ws)=_ by rw[ea,eb];exact uK).symm,hN.aX⟩
 refine RW.region (RL.ag (v:=.map (some m)) U (RL.ag (ah acG rfl cT) (RL.ag (ah acN rfl bI) (RL.ag (aj acy (hN.aJ 0 rfl)) (RL.ag (ah acG rfl bI) (RL.ag (aj acy (hN.aJ 0 rfl)) (RL.ag (bR (cs:=[.int .i64 (x.2.2.2.1),.int .i64 (x.2.1)]) adF j4 (places:=#[(0,1),(1,1)]) (by intro w;kernel_rfl) (pl:=[(0,.tmp 28),(1,.tmp 30)]) rfl (ps:=[(0,.int .i64 (x.2.2.2.1)),(1,.int .i64 (x.2.1))]) rfl (zc:=[.int .i64 (0),.int .i64 (0)]) rfl (aP (vs:=[.int .i64 (x.2.2.2.1)]) rfl rfl (acA rfl) (aP (vs:=[.int .i64 (x.2.1)]) rfl rfl (acA rfl) rfl))) (RL.ag (p6 (v:=vJ b) aep (ml (t1:=0) (t2:=0) adF (by kernel_rfl) ⟨by decide,rfl⟩ ⟨by decide,rfl⟩ acy acy) (ld hb hN.aX) rfl rfl ((mj y7 H4 Jh).trans (by rw[aeY]))) (RL.ag (v:=.tuple #[vJ b,.bool true]) U ?_)))))))))
 iterate 2 refine RL.ag (bE) ?_
 refine RL.ag (v:=vJ b) ai (RL.ag (v:=.bool true) ai (RL.bY (RL.ag (v:=.int .i64 (0)) U (RL.ag (v:=vJ b) U ?_))))
 iterate 2 refine RL.ag (v:=.bool false) U ?_
 refine RL.bH (RL.ag (v:=.bool false) (aB) (RL.ag (v:=.int .i64 (0)) ai (RL.ag (v:=vJ b) ai (RL.ag (v:=.bool false) ai (RL.ak (RW.ret (bc (RV.Kx rfl) ?_)))))))
 exact⟨(show gD (kV (gH x.1 x.2.2.2.1) ws) (kV (gH x.2.2.2.1 x.2.1) ws)=_ by rw[ea,eb];exact uJ b).symm,hN.aX⟩
 refine RW.region (RL.ag (v:=.map (some m)) U (RL.ag (ah acG rfl bI) (RL.ag (aj acy (hN.aJ 0 rfl)) (RL.ag (ah acG rfl cT) (RL.ag (ah acN rfl bI) (RL.ag (aj acy (hN.aJ 0 rfl)) (RL.ag (bR (cs:=[.int .i64 (x.1),.int .i64 (x.2.2.2.1)]) adF j4 (places:=#[(0,1),(1,1)]) (by intro w;kernel_rfl) (pl:=[(0,.tmp 16),(1,.tmp 19)]) rfl (ps:=[(0,.int .i64 (x.1)),(1,.int .i64 (x.2.2.2.1))]) rfl (zc:=[.int .i64 (0),.int .i64 (0)]) rfl (aP (vs:=[.int .i64 (x.1)]) rfl rfl (acA rfl) (aP (vs:=[.int .i64 (x.2.2.2.1)]) rfl rfl (acA rfl) rfl))) (RL.ag (p6 (v:=vJ a) aep (ml (t1:=0) (t2:=0) adF (by kernel_rfl) ⟨by decide,rfl⟩ ⟨by decide,rfl⟩ acy acy) (ld hb hN.aX) rfl rfl ((mj Cx R7 SP).trans (by rw[aeY]))) (RL.ag (v:=.tuple #[vJ a,.bool true]) U ?_)))))))))
 iterate 2 refine RL.ag (bE) ?_
 refine RL.ag (v:=vJ a) ai (RL.ag (v:=.bool true) ai (RL.ak (RW.seq ?_)))
 rcases fg (gH x.2.2.2.1 x.2.1) ws with⟨eb,H9⟩|⟨b,z,eb,y7,H4,Jh⟩
 refine RW.region (RL.ag (v:=.map (some m)) U (RL.ag (ah acG rfl cT) (RL.ag (ah acN rfl bI) (RL.ag (aj acy (hN.aJ 0 rfl)) (RL.ag (ah acG rfl bI) (RL.ag (aj acy (hN.aJ 0 rfl)) (RL.ag (bR (cs:=[.int .i64 (x.2.2.2.1),.int .i64 (x.2.1)]) adF j4 (places:=#[(0,1),(1,1)]) (by intro w;kernel_rfl) (pl:=[(0,.tmp 28),(1,.tmp 30)]) rfl (ps:=[(0,.int .i64 (x.2.2.2.1)),(1,.int .i64 (x.2.1))]) rfl (zc:=[.int .i64 (0),.int .i64 (0)]) rfl (aP (vs:=[.int .i64 (x.2.2.2.1)]) rfl rfl (acA rfl) (aP (vs:=[.int .i64 (x.2.1)]) rfl rfl (acA rfl) rfl))) (RL.ag (p7 aep (ml (t1:=0) (t2:=0) adF (by kernel_rfl) ⟨by decide,rfl⟩ ⟨by decide,rfl⟩ acy acy) Dg (ld hb hN.aX) rfl rfl (ko H9)) (RL.ag (v:=.tuple #[.int .i64 (0),.bool false]) U ?_)))))))))
 iterate 2 refine RL.ag (bE) ?_
 refine RL.ag (v:=.int .i64 (0)) ai (RL.ag (v:=.bool false) ai (RL.bY (RL.ag (v:=vJ a) U (RL.ag (v:=.int .i64 (0)) U ?_))))
 iterate 2 refine RL.ag (v:=.bool true) U ?_
 refine RL.aw (v:=.bool false) U (RL.ag (v:=.bool false) (al) (RL.ag (v:=vJ a) ai (RL.ag (v:=.int .i64 (0)) ai (RL.ag (v:=.bool false) ai (RL.ak (RW.ret (bc (RV.Kx rfl) ?_)))))))
 exact⟨(show gD (kV (gH x.1 x.2.2.2.1) ws) (kV (gH x.2.2.2.1 x.2.1) ws)=_ by rw[ea,eb];exact uI a).symm,hN.aX⟩
 refine RW.region (RL.ag (v:=.map (some m)) U (RL.ag (ah acG rfl cT) (RL.ag (ah acN rfl bI) (RL.ag (aj acy (hN.aJ 0 rfl)) (RL.ag (ah acG rfl bI) (RL.ag (aj acy (hN.aJ 0 rfl)) (RL.ag (bR (cs:=[.int .i64 (x.2.2.2.1),.int .i64 (x.2.1)]) adF j4 (places:=#[(0,1),(1,1)]) (by intro w;kernel_rfl) (pl:=[(0,.tmp 28),(1,.tmp 30)]) rfl (ps:=[(0,.int .i64 (x.2.2.2.1)),(1,.int .i64 (x.2.1))]) rfl (zc:=[.int .i64 (0),.int .i64 (0)]) rfl (aP (vs:=[.int .i64 (x.2.2.2.1)]) rfl rfl (acA rfl) (aP (vs:=[.int .i64 (x.2.1)]) rfl rfl (acA rfl) rfl))) (RL.ag (p6 (v:=vJ b) aep (ml (t1:=0) (t2:=0) adF (by kernel_rfl) ⟨by decide,rfl⟩ ⟨by decide,rfl⟩ acy acy) (ld hb hN.aX) rfl rfl ((mj y7 H4 Jh).trans (by rw[aeY]))) (RL.ag (v:=.tuple #[vJ b,.bool true]) U ?_)))))))))
 iterate 2 refine RL.ag (bE) ?_
 refine RL.ag (v:=vJ b) ai (RL.ag (v:=.bool true) ai (RL.bY (RL.ag (v:=vJ a) U (RL.ag (v:=vJ b) U ?_))))
 iterate 2 refine RL.ag (v:=.bool true) U ?_
 refine RL.aw (v:=.bool true) U (RL.ag (v:=.bool true) (al) (RL.ag (v:=vJ a) ai (RL.ag (v:=vJ b) ai (RL.ag (v:=.bool true) ai (RL.ak (RW.ret (bc (RV.Kx rfl) ?_)))))))
 exact⟨(show gD (kV (gH x.1 x.2.2.2.1) ws) (kV (gH x.2.2.2.1 x.2.1) ws)=_ by rw[ea,eb];exact uH a b).symm,hN.aX⟩
theorem n4 (rv wv:Value) (rk:List Int) (ws:List I5) (w:World) (hr:Sl vI w rv rk) (hw:Sm aV w wv ws) (x:I5) (m c:Nat) (hb:w.heap[m]?=some (.map (kC rV (jo ws 0)) c)) (za zb:Int) (v:Value) (ea:kV (gH x.1 x.2.2.2.1) ws=za) (eb:kV (gH x.2.2.2.1 x.2.1) ws=zb) (hv:gD za zb=v):aM acD 211 #[.agg #[rv,wv],.map (some m),.agg #[.int .i64 x.1,.int .i64 x.2.1,.int .i64 x.2.2.1,.int .i64 x.2.2.2.1,.int .i64 x.2.2.2.2]] w fun r w'=>r=v∧Ext w w':=(yr rv wv rk ws w hr hw x m c hb).mono fun r w' hq=>⟨by rw[hq.1,ea,eb];exact hv,hq.2⟩
theorem zM (rv wv:Value) (rk:List Int) (ws:List I5) (w:World) (hr:Sl vI w rv rk) (hw:Sm aV w wv ws) (x:I5) (m c:Nat) (hb:w.heap[m]?=some (.map (kC rV (jo ws 0)) c)) (h1:0≤x.1∧x.1<rk.length) (h2:0≤x.2.1∧x.2.1<rk.length):aM acD 198 #[.agg #[rv,wv],.map (some m),.agg #[.int .i64 x.1,.int .i64 x.2.1,.int .i64 x.2.2.1,.int .i64 x.2.2.2.1,.int .i64 x.2.2.2.2]] w fun r w'=>r=.bool (decide (gg rk ws x))∧Ext w w':=by
 refine aM.aZ ake ?_
 rw[iu]
 have hN:=aH.nil w none_
 refine RW.aN ?_
 refine RL.aL (bJ (cs:=[rv,wv]) rfl rfl hN ?_)
 clear hN
 intro g1 w1 (hN:aH w none_ w1 [_])
 refine RL.aL (bJ (cs:=[.int .i64 (x.1),.int .i64 (x.2.1),.int .i64 (x.2.2.1),.int .i64 (x.2.2.2.1),.int .i64 (x.2.2.2.2)]) rfl rfl hN ?_)
 clear hN
 intro g2 w2 (hN:aH w none_ w2 [_,_])
 refine RL.ag (v:=.bool false) ai (RL.ak ?_)
 iterate 2 refine RW.seq ?_
 refine RW.region (RL.ag (ah acG rfl cT) (RL.ag (ah acN rfl bI) (RL.ag (aj acy (hN.aJ 0 rfl)) (RL.ag (ca) (RL.ak ?_)))))
 refine RW.aG _ (fun j9=>?_) (fun j9=>?_)
 refine RW.aN (RL.ag (ah acG rfl cT) (RL.ag (ah acN rfl bI) (RL.ag (aj acy (hN.aJ 0 rfl)) (RL.ag (ck) (RL.ag (v:=.bool (decide (0≤x.2.2.2.2))) U ?_)))))
 by_cases AF:0≤x.2.2.2.2
 rw[decide_eq_true AF]
 refine RL.aw (ah acG rfl cT) (RL.aw (ah acN rfl bI) (RL.aw (aj acy (hN.aJ 0 rfl)) (RL.aw (aK) (RL.ag (v:=.bool (decide (x.2.2.2.2<67108864))) (al) (RL.ag (v:=.bool (decide (x.2.2.2.2<67108864))) ai (RL.ak (RW.ret (aU ?_))))))))
 refine bc (RV.tmp rfl) ?_
 exact⟨congrArg acV (decide_eq_decide.2 ⟨fun h=>by unfold gg;rw[if_pos j9];exact⟨by omega,h⟩,fun h=>by unfold gg at h;rw[if_pos j9]at h;exact h.2⟩),hN.aX⟩
 rw[decide_eq_false AF]
 iterate 4 refine RL.bH ?_
 refine RL.ag (v:=.bool false) (aB) (RL.ag (v:=.bool false) ai (RL.ak (RW.ret (aU (bc (RV.tmp rfl) ?_)))))
 exact⟨congrArg acV (decide_eq_false (fun h=>by
  unfold gg at h
  first
  |(rw[if_pos j9]at h;omega)
  | (rw [if_neg j9] at h
     obtain⟨m1,⟨m2,m3⟩,m4,m5,a_,b_,y_,z_,m6,m7,m8,m9,EX⟩:=h
     first|omega|(have k1:=m4 _ _ (by assumption) (by assumption);have k2:=m5 _ _ (by assumption) (by assumption);omega)))).symm,hN.aX⟩
 refine RW.skip (aA ?_)
 iterate 2 refine RW.seq ?_
 replace hN:=hN.ext (Ext.drew w2)
 refine RW.bA (fun u=>aH w none_ u [.aJ g2 [.int .i64 (x.1),.int .i64 (x.2.1),.int .i64 (x.2.2.1),.int .i64 (x.2.2.2.1),.int .i64 (x.2.2.2.2)] 98,.aJ g1 [rv,wv] 28]) 42 [(0,0),(1,0),(2,0),(3,0),(4,0),(5,0),(6,0),(7,0),(8,0),(9,0),(10,0),(11,0),(12,0),(13,0),(14,0),(15,0),(16,0),(17,0),(18,0),(19,0),(20,0),(21,0),(22,0),(23,0),(24,0),(25,0),(26,0),(27,0),(28,0),(29,0),(30,0),(31,0),(32,0),(33,0),(34,0),(35,0),(36,0),(37,0),(38,0),(39,0),(40,0),(41,0)] (by intro _ _ _ h;exact h) hN (RQ.an rfl (fun w hS=>(ah acG rfl cT)) (RQ.an rfl (fun w hS=>(ah acN rfl bI)) (RQ.an rfl (fun w hS=>(aj acy (hS.aJ 0 rfl))) (RQ.an rfl (fun w hS=>(bj)) (RQ.an (v:=.bool (decide (¬x.2.2.2.2= -1))) rfl (fun w hS=>U) ?_)))))
 by_cases MG:¬x.2.2.2.2= -1
 rw[decide_eq_true MG]
 iterate 4 refine RQ.bU rfl ?_
 refine RQ.an (v:=.bool true) rfl (fun w hS=>(al)) (RQ.an (v:=.bool true) rfl (fun w hS=>U) ?_)
 iterate 7 refine RQ.bU rfl ?_
 refine RQ.an (v:=.bool true) rfl (fun w hS=>(al)) (RQ.an (v:=.bool true) rfl (fun w hS=>U) ?_)
 iterate 21 refine RQ.bU rfl ?_
 refine RQ.an (v:=.bool true) rfl (fun w hS=>(al)) (RQ.bq (aA (RW.bD (RW.aN (RL.ag (v:=.bool false) ai (RL.ak (RW.ret ?_)))))))
 refine aU (bc (RV.tmp rfl) ?_)
 exact⟨congrArg acV (decide_eq_false (fun h=>by
  unfold gg at h
  first
  |(rw[if_pos j9]at h;omega)
  | (rw [if_neg j9] at h
     obtain⟨m1,⟨m2,m3⟩,m4,m5,a_,b_,y_,z_,m6,m7,m8,m9,EX⟩:=h
     first|omega|(have k1:=m4 _ _ (by assumption) (by assumption);have k2:=m5 _ _ (by assumption) (by assumption);omega)))).symm,hN.aX⟩
 rw[decide_eq_false MG]
 refine RQ.aR rfl (fun w hS=>(ah acG rfl cT)) (RQ.aR rfl (fun w hS=>(ah acN rfl bI)) (RQ.aR rfl (fun w hS=>(aj acy (hS.aJ 0 rfl))) (RQ.aR rfl (fun w hS=>(aK)) (RQ.an (v:=.bool (decide (x.2.2.2.1<0))) rfl (fun w hS=>(aB)) (RQ.an (v:=.bool (decide (x.2.2.2.1<0))) rfl (fun w hS=>U) ?_)))))
 by_cases uu:x.2.2.2.1<0
 rw[decide_eq_true uu]
 iterate 7 refine RQ.bU rfl ?_
 refine RQ.an (v:=.bool true) rfl (fun w hS=>(al)) (RQ.an (v:=.bool true) rfl (fun w hS=>U) ?_)
 iterate 21 refine RQ.bU rfl ?_
 refine RQ.an (v:=.bool true) rfl (fun w hS=>(al)) (RQ.bq (aA (RW.bD (RW.aN (RL.ag (v:=.bool false) ai (RL.ak (RW.ret ?_)))))))
 refine aU (bc (RV.tmp rfl) ?_)
 exact⟨congrArg acV (decide_eq_false (fun h=>by
  unfold gg at h
  first
  |(rw[if_pos j9]at h;omega)
  | (rw [if_neg j9] at h
     obtain⟨m1,⟨m2,m3⟩,m4,m5,a_,b_,y_,z_,m6,m7,m8,m9,EX⟩:=h
     first|omega|(have k1:=m4 _ _ (by assumption) (by assumption);have k2:=m5 _ _ (by assumption) (by assumption);omega)))).symm,hN.aX⟩
 rw[decide_eq_false uu]
 refine RQ.aR rfl (fun w hS=>(ah acG rfl cT)) (RQ.aR rfl (fun w hS=>(ah acN rfl bI)) (RQ.aR rfl (fun w hS=>(aj acy (hS.aJ 0 rfl))) (RQ.aR rfl (fun w hS=>(ah acE rfl cc)) (RQ.aR rfl (fun w hS=>(aj acz (hS.aJ 1 rfl))) ?_))))
 have kH:=(hr.o.now hN).bw
 refine RQ.aR rfl (fun w hS=>(aQ acz (hr.o.now hS))) (RQ.aR rfl (fun w hS=>(ck)) (RQ.an (v:=.bool (decide ((rk.length:Int)≤x.2.2.2.1))) rfl (fun w hS=>(aB)) (RQ.an (v:=.bool (decide ((rk.length:Int)≤x.2.2.2.1))) rfl (fun w hS=>U) ?_)))
 by_cases IG:(rk.length:Int)≤x.2.2.2.1
 rw[decide_eq_true IG]
 iterate 21 refine RQ.bU rfl ?_
 refine RQ.an (v:=.bool true) rfl (fun w hS=>(al)) (RQ.bq (aA (RW.bD (RW.aN (RL.ag (v:=.bool false) ai (RL.ak (RW.ret ?_)))))))
 refine aU (bc (RV.tmp rfl) ?_)
 exact⟨congrArg acV (decide_eq_false (fun h=>by
  unfold gg at h
  first
  |(rw[if_pos j9]at h;omega)
  | (rw [if_neg j9] at h
     obtain⟨m1,⟨m2,m3⟩,m4,m5,a_,b_,y_,z_,m6,m7,m8,m9,EX⟩:=h
     first|omega|(have k1:=m4 _ _ (by assumption) (by assumption);have k2:=m5 _ _ (by assumption) (by assumption);omega)))).symm,hN.aX⟩
 rw[decide_eq_false IG]
 refine RQ.aR rfl (fun w hS=>(ah acE rfl cc)) (RQ.aR rfl (fun w hS=>(aj acz (hS.aJ 1 rfl))) (RQ.aR rfl (fun w hS=>(ah acG rfl cT)) (RQ.aR rfl (fun w hS=>(ah acN rfl bI)) (RQ.aR rfl (fun w hS=>(aj acy (hS.aJ 0 rfl))) (RQ.aR rfl (fun w hS=>(aC acz bI (hr.o.now hS))) ?_)))))
 have aO:=cQ (rk) ((x.2.2.2.1).toNat)
 obtain⟨a4,ha4⟩:=aO
 refine RQ.aR rfl (fun w hS=>(aF (m:=(x.2.2.2.1).toNat) (a:=a4) acy (hr.o.now hS) ha4)) (RQ.aR rfl (fun w hS=>(ah acE rfl cc)) (RQ.aR rfl (fun w hS=>(aj acz (hS.aJ 1 rfl))) (RQ.aR rfl (fun w hS=>(ah acG rfl bI)) (RQ.aR rfl (fun w hS=>(aj acy (hS.aJ 0 rfl))) (RQ.aR rfl (fun w hS=>(aC acz bI (hr.o.now hS))) ?_)))))
 have aO:=cQ (rk) ((x.1).toNat)
 obtain⟨a5,V5⟩:=aO
 refine RQ.aR rfl (fun w hS=>(aF (m:=(x.1).toNat) (a:=a5) acy (hr.o.now hS) V5)) (RQ.aR rfl (fun w hS=>(ah acE rfl cc)) (RQ.aR rfl (fun w hS=>(aj acz (hS.aJ 1 rfl))) (RQ.aR rfl (fun w hS=>(ah acG rfl bI)) (RQ.aR rfl (fun w hS=>(aj acy (hS.aJ 0 rfl))) (RQ.aR rfl (fun w hS=>(aC acz bI (hr.o.now hS))) ?_)))))
 have aO:=cQ (rk) ((x.2.1).toNat)
 obtain⟨a6,ha6⟩:=aO
 refine RQ.aR rfl (fun w hS=>(aF (m:=(x.2.1).toNat) (a:=a6) acy (hr.o.now hS) ha6)) (RQ.aR rfl (fun w hS=>(yD rfl rfl)) (RQ.aR rfl (fun w hS=>(ck)) (RQ.an (v:=.bool (decide ((min (a5) (a6))≤a4))) rfl (fun w hS=>(aB)) (RQ.bq (aA ?_)))))
 refine RW.aG _ (fun VQ=>?_) (fun VQ=>?_)
 refine RW.aN (RL.ag (v:=.bool false) ai (RL.ak (RW.ret (aU (bc (RV.tmp rfl) ?_)))))
 exact⟨congrArg acV (decide_eq_false (fun h=>by
  unfold gg at h
  first
  |(rw[if_pos j9]at h;omega)
  | (rw [if_neg j9] at h
     obtain⟨m1,⟨m2,m3⟩,m4,m5,a_,b_,y_,z_,m6,m7,m8,m9,EX⟩:=h
     first|omega|(have k1:=m4 _ _ (by assumption) (by assumption);have k2:=m5 _ _ (by assumption) (by assumption);omega)))).symm,hN.aX⟩
 refine RW.skip (aA (RW.seq ?_))
 rcases fg (gH x.1 x.2.2.2.1) ws with⟨ea,Sb⟩|⟨a,y,ea,Cx,R7,SP⟩
 refine RW.region ?_
 rcases fg (gH x.2.2.2.1 x.2.1) ws with⟨eb,H9⟩|⟨b,z,eb,y7,H4,Jh⟩
 refine RL.ag (aE (cs:=[rv,wv]) acE dq (hN.aJ 1 rfl)) (RL.ag (v:=.map (some m)) U (RL.ag (aE (cs:=[.int .i64 (x.1),.int .i64 (x.2.1),.int .i64 (x.2.2.1),.int .i64 (x.2.2.2.1),.int .i64 (x.2.2.2.2)]) acG eh (hN.aJ 0 rfl)) ?_))
 refine RL.aL (cn agx rfl rfl rfl rfl rfl ((n4 _ _ rk ws _ (hr.o.now hN) (hw.o.now hN) x _ _ (ld hb hN.aX) (-1) (-1) _ ea eb uK).mono ?_))
 rintro _ w7 ⟨rfl,bl⟩
 replace hN:=hN.ext bl
 clear bl
 refine RL.ag (v:=.tuple #[.int .i64 (0),.int .i64 (0),.bool false]) U ?_
 iterate 3 refine RL.ag (bE) ?_
 iterate 2 refine RL.ag (v:=.int .i64 (0)) ai ?_
 refine RL.ag (v:=.bool false) ai (RL.ak (RW.seq ?_))
 replace hN:=hN.ext (Ext.drew w7)
 refine RW.bA (fun u=>aH w none_ u [.aJ g2 [.int .i64 (x.1),.int .i64 (x.2.1),.int .i64 (x.2.2.1),.int .i64 (x.2.2.2.1),.int .i64 (x.2.2.2.2)] 98,.aJ g1 [rv,wv] 28]) 23 [(0,0),(1,0),(2,0),(3,0),(4,0),(5,0),(6,0),(7,0),(8,0),(9,0),(10,0),(11,0),(12,0),(13,0),(14,0),(15,0),(16,0),(17,0),(18,0),(19,0),(20,0),(21,0),(22,0)] (by intro _ _ _ h;exact h) hN ?_
 iterate 2 refine RQ.an (v:=.bool false) rfl (fun w hS=>U) ?_
 iterate 19 refine RQ.bU rfl ?_
 refine RQ.an (v:=.bool false) rfl (fun w hS=>(aB)) (RQ.an (v:=.bool false) rfl (fun w hS=>ai) (RQ.bq (aA (RW.ret (bc (RV.tmp rfl) ?_)))))
 exact⟨congrArg acV (decide_eq_false (fun h=>by
  unfold gg at h
  rw[if_neg j9]at h
  obtain⟨m1,⟨m2,m3⟩,m4,m5,a_,b_,y_,z_,m6,m7,m8,m9,EX⟩:=h
  omega)).symm,hN.aX⟩
 refine RL.ag (aE (cs:=[rv,wv]) acE dq (hN.aJ 1 rfl)) (RL.ag (v:=.map (some m)) U (RL.ag (aE (cs:=[.int .i64 (x.1),.int .i64 (x.2.1),.int .i64 (x.2.2.1),.int .i64 (x.2.2.2.1),.int .i64 (x.2.2.2.2)]) acG eh (hN.aJ 0 rfl)) ?_))
 refine RL.aL (cn agx rfl rfl rfl rfl rfl ((n4 _ _ rk ws _ (hr.o.now hN) (hw.o.now hN) x _ _ (ld hb hN.aX) (-1) (b:Int) _ ea eb (uJ b)).mono ?_))
 rintro _ w8 ⟨rfl,bl⟩
 replace hN:=hN.ext bl
 clear bl
 refine RL.ag (v:=.tuple #[.int .i64 (0),vJ b,.bool false]) U ?_
 iterate 3 refine RL.ag (bE) ?_
 refine RL.ag (v:=.int .i64 (0)) ai (RL.ag (v:=vJ b) ai (RL.ag (v:=.bool false) ai (RL.ak (RW.seq ?_))))
 replace hN:=hN.ext (Ext.drew w8)
 refine RW.bA (fun u=>aH w none_ u [.aJ g2 [.int .i64 (x.1),.int .i64 (x.2.1),.int .i64 (x.2.2.1),.int .i64 (x.2.2.2.1),.int .i64 (x.2.2.2.2)] 98,.aJ g1 [rv,wv] 28]) 23 [(0,0),(1,0),(2,0),(3,0),(4,0),(5,0),(6,0),(7,0),(8,0),(9,0),(10,0),(11,0),(12,0),(13,0),(14,0),(15,0),(16,0),(17,0),(18,0),(19,0),(20,0),(21,0),(22,0)] (by intro _ _ _ h;exact h) hN ?_
 iterate 2 refine RQ.an (v:=.bool false) rfl (fun w hS=>U) ?_
 iterate 19 refine RQ.bU rfl ?_
 refine RQ.an (v:=.bool false) rfl (fun w hS=>(aB)) (RQ.an (v:=.bool false) rfl (fun w hS=>ai) (RQ.bq (aA (RW.ret (bc (RV.tmp rfl) ?_)))))
 exact⟨congrArg acV (decide_eq_false (fun h=>by
  unfold gg at h
  rw[if_neg j9]at h
  obtain⟨m1,⟨m2,m3⟩,m4,m5,a_,b_,y_,z_,m6,m7,m8,m9,EX⟩:=h
  omega)).symm,hN.aX⟩
 have im:=(acF.1 Cx).1
 refine RW.region ?_
 rcases fg (gH x.2.2.2.1 x.2.1) ws with⟨eb,H9⟩|⟨b,z,eb,y7,H4,Jh⟩
 refine RL.ag (aE (cs:=[rv,wv]) acE dq (hN.aJ 1 rfl)) (RL.ag (v:=.map (some m)) U (RL.ag (aE (cs:=[.int .i64 (x.1),.int .i64 (x.2.1),.int .i64 (x.2.2.1),.int .i64 (x.2.2.2.1),.int .i64 (x.2.2.2.2)]) acG eh (hN.aJ 0 rfl)) ?_))
 refine RL.aL (cn agx rfl rfl rfl rfl rfl ((n4 _ _ rk ws _ (hr.o.now hN) (hw.o.now hN) x _ _ (ld hb hN.aX) (a:Int) (-1) _ ea eb (uI a)).mono ?_))
 rintro _ w9 ⟨rfl,bl⟩
 replace hN:=hN.ext bl
 clear bl
 refine RL.ag (v:=.tuple #[vJ a,.int .i64 (0),.bool false]) U ?_
 iterate 3 refine RL.ag (bE) ?_
 refine RL.ag (v:=vJ a) ai (RL.ag (v:=.int .i64 (0)) ai (RL.ag (v:=.bool false) ai (RL.ak (RW.seq ?_))))
 replace hN:=hN.ext (Ext.drew w9)
 refine RW.bA (fun u=>aH w none_ u [.aJ g2 [.int .i64 (x.1),.int .i64 (x.2.1),.int .i64 (x.2.2.1),.int .i64 (x.2.2.2.1),.int .i64 (x.2.2.2.2)] 98,.aJ g1 [rv,wv] 28]) 23 [(0,0),(1,0),(2,0),(3,0),(4,0),(5,0),(6,0),(7,0),(8,0),(9,0),(10,0),(11,0),(12,0),(13,0),(14,0),(15,0),(16,0),(17,0),(18,0),(19,0),(20,0),(21,0),(22,0)] (by intro _ _ _ h;exact h) hN ?_
 iterate 2 refine RQ.an (v:=.bool false) rfl (fun w hS=>U) ?_
 iterate 19 refine RQ.bU rfl ?_
 refine RQ.an (v:=.bool false) rfl (fun w hS=>(aB)) (RQ.an (v:=.bool false) rfl (fun w hS=>ai) (RQ.bq (aA (RW.ret (bc (RV.tmp rfl) ?_)))))
 exact⟨congrArg acV (decide_eq_false (fun h=>by
  unfold gg at h
  rw[if_neg j9]at h
  obtain⟨m1,⟨m2,m3⟩,m4,m5,a_,b_,y_,z_,m6,m7,m8,m9,EX⟩:=h
  omega)).symm,hN.aX⟩
 have Qo:=(acF.1 y7).1
 refine RL.ag (aE (cs:=[rv,wv]) acE dq (hN.aJ 1 rfl)) (RL.ag (v:=.map (some m)) U (RL.ag (aE (cs:=[.int .i64 (x.1),.int .i64 (x.2.1),.int .i64 (x.2.2.1),.int .i64 (x.2.2.2.1),.int .i64 (x.2.2.2.2)]) acG eh (hN.aJ 0 rfl)) ?_))
 refine RL.aL (cn agx rfl rfl rfl rfl rfl ((n4 _ _ rk ws _ (hr.o.now hN) (hw.o.now hN) x _ _ (ld hb hN.aX) (a:Int) (b:Int) _ ea eb (uH a b)).mono ?_))
 rintro _ lR ⟨rfl,bl⟩
 replace hN:=hN.ext bl
 clear bl
 refine RL.ag (v:=.tuple #[vJ a,vJ b,.bool true]) U ?_
 iterate 3 refine RL.ag (bE) ?_
 refine RL.ag (v:=vJ a) ai (RL.ag (v:=vJ b) ai (RL.ag (v:=.bool true) ai (RL.ak (RW.seq ?_))))
 replace hN:=hN.ext (Ext.drew lR)
 refine RW.bA (fun u=>aH w none_ u [.aJ g2 [.int .i64 (x.1),.int .i64 (x.2.1),.int .i64 (x.2.2.1),.int .i64 (x.2.2.2.1),.int .i64 (x.2.2.2.2)] 98,.aJ g1 [rv,wv] 28]) 23 [(0,0),(1,0),(2,0),(3,0),(4,0),(5,0),(6,0),(7,0),(8,0),(9,0),(10,0),(11,0),(12,0),(13,0),(14,0),(15,0),(16,0),(17,0),(18,0),(19,0),(20,0),(21,0),(22,0)] (by intro _ _ _ h;exact h) hN ?_
 iterate 2 refine RQ.an (v:=.bool true) rfl (fun w hS=>U) ?_
 refine RQ.aR rfl (fun w hS=>(ah acE rfl eF)) (RQ.aR rfl (fun w hS=>(aj acL (hS.aJ 1 rfl))) (RQ.aR (v:=vJ a) rfl (fun w hS=>U) (RQ.aR rfl (fun w hS=>(aT acL eh aI (hw.o.now hS))) (RQ.aR rfl (fun w hS=>(bm (m:=a) (b:=0) acG rfl cT aI (hw.o.now hS) Cx)) (RQ.aR rfl (fun w hS=>(bm (m:=a) (b:=2) acN rfl bI aI (hw.o.now hS) Cx)) (RQ.aR rfl (fun w hS=>(bB (m:=a) (j:=2) (a:=y) acy aI (hw.o.now hS) Cx)) (RQ.aR rfl (fun w hS=>(ah acE rfl eF)) (RQ.aR rfl (fun w hS=>(aj acL (hS.aJ 1 rfl))) (RQ.aR (v:=vJ b) rfl (fun w hS=>U) ?_)))))))))
 refine RQ.aR rfl (fun w hS=>(aT acL eh aI (hw.o.now hS))) (RQ.aR rfl (fun w hS=>(bm (m:=b) (b:=0) acG rfl cT aI (hw.o.now hS) y7)) (RQ.aR rfl (fun w hS=>(bm (m:=b) (b:=2) acN rfl bI aI (hw.o.now hS) y7)) (RQ.aR rfl (fun w hS=>(bB (m:=b) (j:=2) (a:=z) acy aI (hw.o.now hS) y7)) (RQ.aR rfl (fun w hS=>(aD rfl rfl rfl rfl)) (RQ.aR rfl (fun w hS=>(ah acG rfl cT)) (RQ.aR rfl (fun w hS=>(ah acN rfl bI)) (RQ.aR rfl (fun w hS=>(aj acy (hS.aJ 0 rfl))) (RQ.aR rfl (fun w hS=>(ca)) (RQ.an (v:=.bool (decide ((adE.wrap (y.2.2.1+z.2.2.1))=x.2.2.1))) rfl (fun w hS=>(al)) ?_)))))))))
 refine RQ.an (v:=.bool (decide ((adE.wrap (y.2.2.1+z.2.2.1))=x.2.2.1))) rfl (fun w hS=>ai) (RQ.bq (aA (RW.ret (bc (RV.tmp rfl) ?_))))
 exact⟨congrArg acV (decide_eq_decide.2 ⟨fun h=>by
  unfold gg
  rw[if_neg j9]
  exact⟨by omega,⟨by omega,by omega⟩,fun p q hp hq=>by simp_all<;>omega,fun p q hp hq=>by simp_all<;>omega,a,b,y,z,ea,Cx,eb,y7,h⟩,fun h=>by
  unfold gg at h
  rw[if_neg j9]at h
  obtain⟨m1,⟨m2,m3⟩,m4,m5,a_,b_,y_,z_,m6,m7,m8,m9,EX⟩:=h
  have ia:a=a_:=by omega
  have ib:b=b_:=by omega
  subst ia ib
  rw[Cx]at m7
  rw[y7]at m9
  cases m7
  cases m9
  exact EX⟩),hN.aX⟩
end Go.Proofs.YtngkdkbpgoddlaaGreat
namespace Go.Proofs.YtngkdkbpgoddlaaGreat
open Go.RowKit Go.Rl
open Go.Gr
theorem yq (rv wv:Value) (rk:List Int) (ws:List I5) (w:World) (hr:Sl vI w rv rk) (hw:Sm aV w wv ws):aM acD 159 #[.agg #[rv,wv]] w fun r w'=>(dV rk ws=0∧∃g m pv pl,r=.tuple #[vP g,.int .i64 0]∧jt rk pl rk.length∧aH w none_ w' [.aJ g [rv,wv,pv,.map (some m),vN,vN] 269,.mp rV m (jo ws 0) ws.length,.own vI 3 pv pl])∨(¬dV rk ws=0∧r=.tuple #[.pointer none,.int .i64 (dV rk ws)]∧Ext w w'):=by
 refine aM.aZ akf ?_
 rw[cH]
 have hN:=aH.nil w none_
 refine RW.aN ?_
 refine RL.aL (bJ (cs:=[rv,wv]) rfl rfl hN ?_)
 clear hN
 intro g1 w1 (hN:aH w none_ w1 [_])
 refine RL.ag (v:=.pointer none) ai (RL.ag (v:=.int .i64 (0)) ai (RL.ak ?_))
 iterate 2 refine RW.seq ?_
 refine RW.region (RL.ag (ah acE rfl cc) (RL.ag (aj acz (hN.aJ 0 rfl)) ?_))
 have iH:=(hr.o.now hN).bw
 refine RL.ag (aQ acz (hr.o.now hN)) (RL.ag (cq) (RL.ag (v:=.bool (decide (16777216<(rk.length:Int)))) U ?_))
 by_cases pU:16777216<(rk.length:Int)
 rw[decide_eq_true pU]
 iterate 4 refine RL.bH ?_
 refine RL.ag (v:=.bool true) (al) (RL.ak (RW.bD (RW.aN (RL.ag (v:=.pointer none) ai (RL.ag (v:=.int .i64 (3)) ai (RL.ak ?_))))))
 refine RW.ret (aU (bc (RV.ju rfl) ?_))
 have fF:dV rk ws=3:=xe (by omega)
 exact .inr ⟨by omega,by rw[fF];rfl,hN.aX⟩
 rw[decide_eq_false pU]
 refine RL.aw (ah acE rfl eF) (RL.aw (aj acL (hN.aJ 0 rfl)) ?_)
 have kH:=(hw.o.now hN).bw
 refine RL.aw (bO acL (hw.o.now hN)) (RL.aw (cq) (RL.ag (v:=.bool (decide (67108864<(ws.length:Int)))) (aB) (RL.ak ?_)))
 refine RW.aG _ (fun pQ=>?_) (fun pQ=>?_)
 refine RW.aN (RL.ag (v:=.pointer none) ai (RL.ag (v:=.int .i64 (3)) ai (RL.ak (RW.ret (aU (bc (RV.ju rfl) ?_))))))
 have fF:dV rk ws=3:=xe (by omega)
 exact .inr ⟨by omega,by rw[fF];rfl,hN.aX⟩
 refine RW.skip (aA (RW.seq ?_))
 by_cases hR:mA rk
 refine RW.region (RL.ag (ah acE rfl cc) (RL.ag (aj acz (hN.aJ 0 rfl)) ?_))
 refine RL.aL (bo aix rfl rfl rfl ((EE _ rk _ (hr.o.now hN) (by omega) hR).mono ?_))
 rintro _ w4 ⟨pv,pl,rfl,hP,cE⟩
 replace hN:aH w none_ w4 [_,_]:=hN.fG cE
 clear cE
 refine RL.ag (v:=.tuple #[pv,.bool true]) U ?_
 iterate 2 refine RL.ag (bE) ?_
 refine RL.ag (v:=pv) ai (RL.ag (v:=.bool true) ai (RL.ak (RW.seq ?_)))
 by_cases hF:kd rk ws
 refine RW.region (RL.ag (aE (cs:=[rv,wv]) acE dq (hN.aJ 1 rfl)) ?_)
 refine RL.aL (bo agw rfl rfl rfl ((AW _ _ rk ws _ (hr.o.now hN) (hw.o.now hN) hF).mono ?_))
 rintro _ w5 ⟨mf,rfl,cE⟩
 replace hN:aH w none_ w5 [_,_,_]:=hN.fG cE
 clear cE
 refine RL.ag (v:=.tuple #[.map (some mf),.bool true]) U ?_
 iterate 2 refine RL.ag (bE) ?_
 refine RL.ag (v:=.map (some mf)) ai (RL.ag (v:=.bool true) ai (RL.ak ?_))
 iterate 2 refine RW.seq ?_
 refine RW.region (RL.ag (v:=.bool true) U (RL.ag (jY rfl) (RL.ag (v:=.bool false) U (RL.aw (v:=.bool true) U (RL.aw (jY rfl) (RL.ag (v:=.bool false) (aB) (RL.ak (RW.cj ?_))))))))
 refine RW.skip (aA ?_)
 iterate 2 refine RW.seq ?_
 refine RW.region (RL.ag (ah acE rfl eF) (RL.ag (aj acL (hN.aJ 2 rfl)) (RL.ag (bO acL (hw.o.now hN)) (RL.ag (v:=.int .i64 (0)) U (RL.ak (RW.block ?_))))))
 refine RW.loop (fun k R0 cv=>∃i:Nat,R0 1=vP g1∧R0 4=pv∧R0 6=.map (some mf)∧R0 38=wv∧R0 39=.int .i64 ((ws.length:Int))∧R0 40=vJ i∧aH w none_ cv [.mp rV mf ((jo ws 0)) (ws.length),.own vI 3 (pv) (pl),.aJ g1 [rv,wv] 28]∧(i+k=ws.length)∧(∀(m:Nat) (y:I5),m<i→ws[m]?=some y→gg rk ws y)) (ws.length) ?_ ?_
 exact⟨0,rfl,rfl,rfl,rfl,rfl,rfl,hN,by omega,fun m y hm=>absurd hm (by omega)⟩
 clear hN
 rintro k R0 cv ⟨i,bN,cu,cV,Ms,Aq,Ap,hN,fP,Ym⟩
 have cz:=oK bN cu cV Ms Aq Ap
 obtain⟨fV,rfl⟩:=cz
 clear bN cu cV Ms Aq Ap
 refine RW.aN (RL.ag (aK) (RL.ak (RW.seq ?_)))
 refine RW.aG _ (fun cD=>?_) (fun cD=>?_)
 refine RW.skip (aA (RW.seq (RW.block (RW.seq ?_))))
 have aO:=cQ ws i
 obtain⟨x,hx⟩:=aO
 have Mm:=hF i x hx
 refine RW.region (RL.ag (aT acL eh aI (hw.o.now hN)) (RL.ag (b0 (m:=i) (a:=x) acG eh aI (hw.o.now hN) hx (cs:=[.int .i64 (x.1),.int .i64 (x.2.1),.int .i64 (x.2.2.1),.int .i64 (x.2.2.2.1),.int .i64 (x.2.2.2.2)])) ?_))
 refine RL.aL (bz (cs:=[.int .i64 (0),.int .i64 (0),.int .i64 (0),.int .i64 (0),.int .i64 (0)]) fW rfl hN ?_)
 clear hN
 intro g6 w6 (hN:aH w none_ w6 [_,_,_,_])
 refine RL.aL (aS (vs:=[.int .i64 (x.1),.int .i64 (x.2.1),.int .i64 (x.2.2.1),.int .i64 (x.2.2.2.1),.int .i64 (x.2.2.2.2)]) eh rfl rfl rfl (bh (bh (bh (bh (bh cZ))))) hN 0 rfl rfl ?_)
 clear hN
 intro w7 (hN:aH w none_ w7 [_,_,_,_])
 refine RL.bY (RL.ag (aE (cs:=[rv,wv]) acE dq (hN.aJ 3 rfl)) (RL.ag (v:=.map (some mf)) U (RL.ag (aE (cs:=[.int .i64 (x.1),.int .i64 (x.2.1),.int .i64 (x.2.2.1),.int .i64 (x.2.2.2.1),.int .i64 (x.2.2.2.2)]) acG eh (hN.aJ 0 rfl)) ?_)))
 refine RL.aL (cn ake rfl rfl rfl rfl rfl ((zM _ _ rk ws _ (hr.o.now hN) (hw.o.now hN) x _ _ (hN.mp 1 rfl) Mm.1 Mm.2.1).mono ?_))
 rintro _ w8 ⟨rfl,bl⟩
 replace hN:=hN.ext bl
 clear bl
 refine RL.ag (cU rfl) (RL.ak ?_)
 refine RW.aG _ (fun fA=>?_) (fun fA=>?_)
 refine RW.aN (RL.ag (v:=.pointer none) ai (RL.ag (v:=.int .i64 (2)) ai (RL.ak (RW.ret (bb ?_)))))
 iterate 2 refine aU ?_
 refine bb (aU (bc (RV.ju rfl) ?_))
 have fF:dV rk ws=2:=pW (by omega) (fun h=>by
  have h:=kq.1 h
  first
  |exact absurd h.1 hR
  |exact absurd h.2.1 hF
  |exact absurd (h.2.2 i x hx) fA)
 exact .inr ⟨by omega,by rw[fF];rfl,hN.aX⟩
 refine RW.skip (ba (aA (RW.region (RL.ag (aD rfl rfl rfl (bg (by omega) (by omega))) (RL.ag (v:=.int .i64 ((i:Int)+1)) U (RL.ak ?_))))))
 exact⟨k-1,by omega,i+1,rfl,rfl,rfl,rfl,rfl,rfl,(hN.sb [1,2,3]),by omega,fun m z hm hz=>(adi m i).elim (fun e=>Ym m z e hz) (fun e=>have e2:m=i:=(by omega);have e3:z=x:=ac7 (hz.symm.trans (e2▸hx));e3▸acX.1 fA)⟩
 refine RW.exit ?_
 iterate 2 refine bP ?_
 refine aY (aA (RW.aN (RL.ag (aE (cs:=[rv,wv]) acE dq (hN.aJ 2 rfl)) (RL.ag (v:=pv) U (RL.ag (v:=.map (some mf)) U (RL.ag (bR (cs:=[rv,wv,pv,.map (some mf),vN,vN]) Tryz.underlying269 Kl (places:=#[(0,2),(2,1),(3,1),(4,1),(5,1)]) (by intro w;kernel_rfl) (pl:=[(0,.tmp 50),(1,.tmp 51),(2,.tmp 52)]) rfl (ps:=[(0,.agg #[rv,wv]),(1,pv),(2,.map (some mf))]) rfl (zc:=[vN,vN,vN,.map none,vN,vN]) rfl (aP (vs:=[rv,wv]) rfl rfl (acA rfl) (aP (vs:=[pv]) (hN.sl 1 rfl).cK rfl (acA rfl) (aP (vs:=[.map (some mf)]) rfl rfl (acA rfl) rfl)))) ?_))))))
 refine RL.aL (bJ (cs:=[rv,wv,pv,.map (some mf),vN,vN]) rfl rfl hN ?_)
 clear hN
 intro g9 w9 (hN:aH w none_ w9 [_,_,_,_])
 refine RL.ag (v:=vP g9) ai (RL.ag (v:=.int .i64 (0)) ai (RL.ak (RW.ret (bc (RV.ju rfl) ?_))))
 have fF:dV rk ws=0:=xd (by omega) (kq.2 ⟨hR,hF,fun m y hy=>Ym m y (by have:=(acF.1 hy).1;omega) hy⟩)
 exact .inl ⟨fF,_,_,_,_,rfl,hP,hN.sb [0,1,2]⟩
 refine RW.region (RL.ag (aE (cs:=[rv,wv]) acE dq (hN.aJ 1 rfl)) ?_)
 refine RL.aL (bo agw rfl rfl rfl ((xh _ _ rk ws _ (hr.o.now hN) (hw.o.now hN) hF).mono ?_))
 rintro _ lR ⟨rfl,bl⟩
 replace hN:=hN.ext bl
 clear bl
 refine RL.ag (v:=.tuple #[.map none,.bool false]) U ?_
 iterate 2 refine RL.ag (bE) ?_
 refine RL.ag (v:=.map none) ai (RL.ag (v:=.bool false) ai (RL.ak ?_))
 iterate 2 refine RW.seq ?_
 refine RW.region (RL.ag (v:=.bool true) U (RL.ag (jY rfl) (RL.ag (v:=.bool false) U (RL.aw (v:=.bool false) U (RL.aw (jY rfl) (RL.ag (v:=.bool true) (aB) (RL.ak (RW.bD ?_))))))))
 refine RW.aN (RL.ag (v:=.pointer none) ai (RL.ag (v:=.int .i64 (2)) ai (RL.ak (RW.ret (aU (bc (RV.ju rfl) ?_))))))
 have fF:dV rk ws=2:=pW (by omega) (fun h=>by
  have h:=kq.1 h
  first
  |exact absurd h.1 hR
  |exact absurd h.2.1 hF
  |exact absurd (h.2.2 i x hx) fA)
 exact .inr ⟨by omega,by rw[fF];rfl,hN.aX⟩
 refine RW.region (RL.ag (ah acE rfl cc) (RL.ag (aj acz (hN.aJ 0 rfl)) ?_))
 refine RL.aL (bo aix rfl rfl rfl ((B6 _ rk _ (hr.o.now hN) (by omega) hR).mono ?_))
 rintro _ kY ⟨rfl,bl⟩
 replace hN:=hN.ext bl
 clear bl
 refine RL.ag (v:=.tuple #[vN,.bool false]) U ?_
 iterate 2 refine RL.ag (bE) ?_
 refine RL.ag (v:=vN) ai (RL.ag (v:=.bool false) ai (RL.ak (RW.seq ?_)))
 by_cases hF:kd rk ws
 refine RW.region (RL.ag (aE (cs:=[rv,wv]) acE dq (hN.aJ 0 rfl)) ?_)
 refine RL.aL (bo agw rfl rfl rfl ((AW _ _ rk ws _ (hr.o.now hN) (hw.o.now hN) hF).mono ?_))
 rintro _ kI ⟨mf,rfl,cE⟩
 replace hN:aH w none_ kI [_,_]:=hN.fG cE
 clear cE
 refine RL.ag (v:=.tuple #[.map (some mf),.bool true]) U ?_
 iterate 2 refine RL.ag (bE) ?_
 refine RL.ag (v:=.map (some mf)) ai (RL.ag (v:=.bool true) ai (RL.ak ?_))
 iterate 2 refine RW.seq ?_
 refine RW.region (RL.ag (v:=.bool false) U (RL.ag (jY rfl) (RL.ag (v:=.bool true) U ?_)))
 iterate 2 refine RL.bH ?_
 refine RL.ag (v:=.bool true) (al) (RL.ak (RW.bD (RW.aN (RL.ag (v:=.pointer none) ai (RL.ag (v:=.int .i64 (2)) ai (RL.ak ?_))))))
 refine RW.ret (aU (bc (RV.ju rfl) ?_))
 have fF:dV rk ws=2:=pW (by omega) (fun h=>by
  have h:=kq.1 h
  first
  |exact absurd h.1 hR
  |exact absurd h.2.1 hF
  |exact absurd (h.2.2 i x hx) fA)
 exact .inr ⟨by omega,by rw[fF];rfl,hN.aX⟩
 refine RW.region (RL.ag (aE (cs:=[rv,wv]) acE dq (hN.aJ 0 rfl)) ?_)
 refine RL.aL (bo agw rfl rfl rfl ((xh _ _ rk ws _ (hr.o.now hN) (hw.o.now hN) hF).mono ?_))
 rintro _ lX ⟨rfl,bl⟩
 replace hN:=hN.ext bl
 clear bl
 refine RL.ag (v:=.tuple #[.map none,.bool false]) U ?_
 iterate 2 refine RL.ag (bE) ?_
 refine RL.ag (v:=.map none) ai (RL.ag (v:=.bool false) ai (RL.ak ?_))
 iterate 2 refine RW.seq ?_
 refine RW.region (RL.ag (v:=.bool false) U (RL.ag (jY rfl) (RL.ag (v:=.bool true) U ?_)))
 iterate 2 refine RL.bH ?_
 refine RL.ag (v:=.bool true) (al) (RL.ak (RW.bD (RW.aN (RL.ag (v:=.pointer none) ai (RL.ag (v:=.int .i64 (2)) ai (RL.ak ?_))))))
 refine RW.ret (aU (bc (RV.ju rfl) ?_))
 have fF:dV rk ws=2:=pW (by omega) (fun h=>by
  have h:=kq.1 h
  first
  |exact absurd h.1 hR
  |exact absurd h.2.1 hF
  |exact absurd (h.2.2 i x hx) fA)
 exact .inr ⟨by omega,by rw[fF];rfl,hN.aX⟩
theorem Jb (rv wv:Value) (rk:List Int) (ws:List I5) (w:World) (hr:Sl vI w rv rk) (hw:Sm aV w wv ws):aM acD 159 #[.agg #[rv,wv]] w fun r w'=>∃v,r=.tuple #[v,.int .i64 (dV rk ws)]∧Ext w w':=(yq rv wv rk ws w hr hw).mono fun r w' hq=>hq.elim (fun⟨e,g,m,pv,pl,e1,_,e2⟩=>⟨_,by rw[e];exact e1,e2.aX⟩) fun e=>⟨_,e.2.1,e.2.2⟩
theorem yv (rv wv:Value) (rk:List Int) (ws:List I5) (w:World) (hr:Sl vI w rv rk) (hw:Sm aV w wv ws):aM acD 106 #[.agg #[rv,wv]] w fun r w'=>r=.int .i64 (dV rk ws)∧Ext w w':=by
 refine aM.aZ akg ?_
 rw[cH]
 have hN:=aH.nil w none_
 refine RW.aN ?_
 refine RL.aL (bJ (cs:=[rv,wv]) rfl rfl hN ?_)
 clear hN
 intro g1 w1 (hN:aH w none_ w1 [_])
 refine RL.ag (v:=.int .i64 (0)) ai (RL.bY (RL.ag (aE (cs:=[rv,wv]) acE dq (hN.aJ 0 rfl)) ?_))
 refine RL.aL (bo akf rfl rfl rfl ((Jb _ _ rk ws _ (hr.o.now hN) (hw.o.now hN)).mono ?_))
 rintro _ w2 ⟨ev2,rfl,bl⟩
 replace hN:aH w none_ w2 [_]:=hN.ext bl
 clear bl
 refine RL.ag (v:=.tuple #[ev2,.int .i64 ((dV rk ws))]) U ?_
 iterate 2 refine RL.ag (bE) ?_
 refine RL.ag ai (RL.ag (v:=.int .i64 ((dV rk ws))) ai (RL.bY (RL.ag (v:=.int .i64 ((dV rk ws))) U (RL.ag (v:=.int .i64 ((dV rk ws))) ai (RL.ak ?_)))))
 refine RW.ret (bc (RV.tmp rfl) ?_)
 exact⟨rfl,hN.aX⟩
end Go.Proofs.YtngkdkbpgoddlaaGreat
namespace Go.Proofs.YtngkdkbpgoddlaaGreat
open Go.RowKit Go.Rl
open Go.Gr
theorem yQ (n:Int) (av rv wv:Value) (l:List I3) (rk:List Int) (ws:List I5) (w:World) (ha:Sm bC w av l) (hr:Sl vI w rv rk) (hw:Sm aV w wv ws) (gv:Value) (gl:List Int) (hg:Sl vI w gv gl) (fv:Value) (fh:List Hd) (fl:List (List Int)) (hf:Sl vh w fv fh) (o9:gG none_ vI w fh fl) (ov:Value) (oh:List Hd) (ol:List (List I2)) (ho:Sl vh w ov oh) (F2:gJ none_ bG w oh ol) (iv:Value) (ih:List Hd) (il:List (List I2)) (hi:Sl vh w iv ih) (uj:gJ none_ bG w ih il) (cW:Value) (sC:List Hd) (eM:List (List Int)) (gM:Sl vh w cW sC) (rZ:gG none_ vI w sC eM) (cX:Value) (sD:List Hd) (eS:List (List Int)) (gI:Sl vh w cX sD) (r4:gG none_ vI w sD eS) (hh:dV rk ws=0):aM acD 108 #[.agg #[.int .i64 n,av,rv,wv,gv,fv,ov,iv,cW,cX]] w fun r w'=>r=.bool (decide (lj l ws))∧Ext w w':=by
 refine aM.aZ akh ?_
 rw[cH]
 have hN:=aH.nil w none_
 refine RW.aN ?_
 refine RL.aL (bJ (cs:=[.int .i64 (n),av,rv,wv,gv,fv,ov,iv,cW,cX]) rfl rfl hN ?_)
 clear hN
 intro g1 w1 (hN:aH w none_ w1 [_])
 refine RL.ag (v:=.bool false) ai (RL.ak ?_)
 iterate 2 refine RW.seq ?_
 refine RW.region (RL.ag (ah acO rfl dq) (RL.ag (ah acE rfl eF) (RL.ag (aj acL (hN.aJ 0 rfl)) ?_)))
 have iH:=(hw.o.now hN).bw
 refine RL.ag (bO acL (hw.o.now hN)) (RL.ag (v:=.int .i64 (0)) U (RL.ak (RW.block ?_)))
 refine RW.loop (fun k R0 cv=>∃i:Nat,R0 1=vP g1∧R0 7=wv∧R0 8=.int .i64 ((ws.length:Int))∧R0 9=vJ i∧aH w none_ cv [.aJ g1 [.int .i64 (n),av,rv,wv,gv,fv,ov,iv,cW,cX] 34]∧(i+k=ws.length)∧(∀(m:Nat) (y:I5),m<i→ws[m]?=some y→y.2.2.2.1= -1→l[y.2.2.2.2.toNat]?=some (y.1,y.2.1,y.2.2.1))) (ws.length) ?_ ?_
 exact⟨0,rfl,rfl,rfl,rfl,hN,by omega,fun m r hm=>absurd hm (by omega)⟩
 clear hN
 rintro k R0 cv ⟨i,bN,cC,cM,dN,hN,fP,yw⟩
 have cz:=iV bN cC cM dN
 obtain⟨fV,rfl⟩:=cz
 clear bN cC cM dN
 refine RW.aN (RL.ag (aK) (RL.ak (RW.seq ?_)))
 refine RW.aG _ (fun cD=>?_) (fun cD=>?_)
 refine RW.skip (aA (RW.seq (RW.block (RW.seq ?_))))
 have aO:=cQ ws i
 obtain⟨x,hx⟩:=aO
 have J7:=(pX hh).2 i x hx
 refine RW.region (RL.ag (aT acL eh aI (hw.o.now hN)) (RL.ag (b0 (m:=i) (a:=x) acG eh aI (hw.o.now hN) hx (cs:=[.int .i64 (x.1),.int .i64 (x.2.1),.int .i64 (x.2.2.1),.int .i64 (x.2.2.2.1),.int .i64 (x.2.2.2.2)])) ?_))
 refine RL.aL (bz (cs:=[.int .i64 (0),.int .i64 (0),.int .i64 (0),.int .i64 (0),.int .i64 (0)]) fW rfl hN ?_)
 clear hN
 intro g3 w3 (hN:aH w none_ w3 [_,_])
 refine RL.aL (aS (vs:=[.int .i64 (x.1),.int .i64 (x.2.1),.int .i64 (x.2.2.1),.int .i64 (x.2.2.2.1),.int .i64 (x.2.2.2.2)]) eh rfl rfl rfl (bh (bh (bh (bh (bh cZ))))) hN 0 rfl rfl ?_)
 clear hN
 intro w4 (hN:aH w none_ w4 [_,_])
 refine RL.ak ?_
 iterate 2 refine RW.seq ?_
 refine RW.region (RL.ag (ah acG rfl cT) (RL.ag (ah acN rfl bI) (RL.ag (aj acy (hN.aJ 0 rfl)) (RL.ag (bj) (RL.ak ?_)))))
 refine RW.aG _ (fun lf=>?_) (fun lf=>?_)
 refine RW.exit (bP (aY (aA (RW.region (RL.ag (aD rfl rfl rfl (bg (by omega) (by omega))) (RL.ag (v:=.int .i64 ((i:Int)+1)) U (RL.ak ?_)))))))
 exact⟨k-1,by omega,i+1,rfl,rfl,rfl,rfl,(hN.sb [1]),by omega,fun m z hm hz=>(adi m i).elim (fun e=>yw m z e hz) (fun e=>have e2:m=i:=(by omega);have e3:z=x:=ac7 (hz.symm.trans (e2▸hx));e3▸fun h0=>by first|exact absurd h0 lf|exact hy.trans (congrArg some (ad1 (by show y.1=x.1;omega) (ad1 (by show y.2.1=x.2.1;omega) (by show y.2.2=x.2.2.1;omega)))))⟩
 refine RW.skip (aA (RW.seq ?_))
 by_cases im:(l.length:Int)≤x.2.2.2.2
 have jS:=J7.2
 rw[if_pos (by omega)]at jS
 replace hN:=hN.ext (Ext.drew w4)
 refine RW.bA (fun u=>aH w none_ u [.aJ g3 [.int .i64 (x.1),.int .i64 (x.2.1),.int .i64 (x.2.2.1),.int .i64 (x.2.2.2.1),.int .i64 (x.2.2.2.2)] 98,.aJ g1 [.int .i64 (n),av,rv,wv,gv,fv,ov,iv,cW,cX] 34]) 27 [(0,0),(1,0),(2,0),(3,0),(4,0),(5,0),(6,0),(7,0),(8,0),(9,0),(10,0),(11,0),(12,0),(13,0),(14,0),(15,0),(16,0),(17,0),(18,0),(19,0),(20,0),(21,0),(22,0),(23,0),(24,0),(25,0),(26,0)] (by intro _ _ _ h;exact h) hN (RQ.an rfl (fun w hS=>(ah acG rfl cT)) (RQ.an rfl (fun w hS=>(ah acN rfl bI)) (RQ.an rfl (fun w hS=>(aj acy (hS.aJ 0 rfl))) (RQ.an rfl (fun w hS=>(ah acO rfl dw)) (RQ.an rfl (fun w hS=>(ah acJ rfl eZ)) (RQ.an rfl (fun w hS=>(aj acP (hS.aJ 1 rfl))) ?_))))))
 have qP:=(ha.o.now hN).bw
 refine RQ.an rfl (fun w hS=>(bO acP (ha.o.now hS))) (RQ.an rfl (fun w hS=>(dB (ck) im)) (RQ.an (v:=.bool true) rfl (fun w hS=>U) ?_))
 iterate 17 refine RQ.bU rfl ?_
 refine RQ.an (v:=.bool true) rfl (fun w hS=>(al)) (RQ.bq (aA (RW.bD (RW.aN (RL.ag (v:=.bool false) ai (RL.ak (RW.ret ?_)))))))
 refine bb ?_
 iterate 2 refine aU ?_
 refine bb (aU (bc (RV.tmp rfl) ?_))
 exact⟨congrArg acV (decide_eq_false (fun h:lj l ws=>by
  have h2:=h x (acC hx) (by omega)
  first
  |(have:=(acF.1 h2).1;omega)
  |(rw[hy]at h2;cases h2;simp_all))).symm,hN.aX⟩
 have jS:=J7.2
 rw[if_pos (by omega)]at jS
 have aO:=cQ l (x.2.2.2.2.toNat)
 obtain⟨y,hy⟩:=aO
 replace hN:=hN.ext (Ext.drew w4)
 refine RW.bA (fun u=>aH w none_ u [.aJ g3 [.int .i64 (x.1),.int .i64 (x.2.1),.int .i64 (x.2.2.1),.int .i64 (x.2.2.2.1),.int .i64 (x.2.2.2.2)] 98,.aJ g1 [.int .i64 (n),av,rv,wv,gv,fv,ov,iv,cW,cX] 34]) 27 [(0,0),(1,0),(2,0),(3,0),(4,0),(5,0),(6,0),(7,0),(8,0),(9,0),(10,0),(11,0),(12,0),(13,0),(14,0),(15,0),(16,0),(17,0),(18,0),(19,0),(20,0),(21,0),(22,0),(23,0),(24,0),(25,0),(26,0)] (by intro _ _ _ h;exact h) hN (RQ.an rfl (fun w hS=>(ah acG rfl cT)) (RQ.an rfl (fun w hS=>(ah acN rfl bI)) (RQ.an rfl (fun w hS=>(aj acy (hS.aJ 0 rfl))) (RQ.an rfl (fun w hS=>(ah acO rfl dw)) (RQ.an rfl (fun w hS=>(ah acJ rfl eZ)) (RQ.an rfl (fun w hS=>(aj acP (hS.aJ 1 rfl))) ?_))))))
 have AK:=(ha.o.now hN).bw
 refine RQ.an rfl (fun w hS=>(bO acP (ha.o.now hS))) (RQ.an rfl (fun w hS=>(cG (ck) im)) (RQ.an (v:=.bool false) rfl (fun w hS=>U) (RQ.aR rfl (fun w hS=>(ah acO rfl dw)) (RQ.aR rfl (fun w hS=>(ah acJ rfl eZ)) (RQ.aR rfl (fun w hS=>(aj acP (hS.aJ 1 rfl))) (RQ.aR rfl (fun w hS=>(ah acG rfl cT)) (RQ.aR rfl (fun w hS=>(ah acN rfl bI)) (RQ.aR rfl (fun w hS=>(aj acy (hS.aJ 0 rfl))) (RQ.aR rfl (fun w hS=>(aT acP cY aW (ha.o.now hS))) ?_)))))))))
 refine RQ.aR rfl (fun w hS=>(b0 (m:=(x.2.2.2.2).toNat) (a:=y) acT cY aW (ha.o.now hS) hy (cs:=[.int .i64 (y.1),.int .i64 (y.2.1),.int .i64 (y.2.2)]))) (RQ.aR rfl (fun w hS=>(ah acG rfl bI)) (RQ.aR rfl (fun w hS=>(aj acy (hS.aJ 0 rfl))) (RQ.aR rfl (fun w hS=>(ah acG rfl bI)) (RQ.aR rfl (fun w hS=>(aj acy (hS.aJ 0 rfl))) (RQ.aR rfl (fun w hS=>(ah acG rfl cT)) (RQ.aR rfl (fun w hS=>(ah acN rfl bI)) (RQ.aR rfl (fun w hS=>(aj acy (hS.aJ 0 rfl))) (RQ.aR rfl (fun w hS=>(bR (cs:=[.int .i64 (x.1),.int .i64 (x.2.1),.int .i64 (x.2.2.1)]) acT fu (places:=#[(0,1),(1,1),(2,1)]) (by intro w;kernel_rfl) (pl:=[(0,.tmp 35),(1,.tmp 37),(2,.tmp 40)]) rfl (ps:=[(0,.int .i64 (x.1)),(1,.int .i64 (x.2.1)),(2,.int .i64 (x.2.2.1))]) rfl (zc:=[.int .i64 (0),.int .i64 (0),.int .i64 (0)]) rfl (aP (vs:=[.int .i64 (x.1)]) rfl rfl (acA rfl) (aP (vs:=[.int .i64 (x.2.1)]) rfl rfl (acA rfl) (aP (vs:=[.int .i64 (x.2.2.1)]) rfl rfl (acA rfl) rfl))))) (RQ.aR rfl (fun w hS=>(p8 (p:=y.1=x.1∧y.2.1=x.2.1∧y.2.2=x.2.2.1) rfl rfl (by kernel_rfl) (mW.iff (mW.struct acT (by kernel_rfl) rfl (qm.cons (by decide) (dz.leaf acy rfl) (dz.leaf acy rfl) (mW.int acy) (qm.cons (by decide) (dz.leaf acy rfl) (dz.leaf acy rfl) (mW.int acy) (qm.cons (by decide) (dz.leaf acy rfl) (dz.leaf acy rfl) (mW.int acy) qm.nil)))) (by simp only[adk,decide_eq_true_eq,and_true])))) ?_)))))))))
 refine RQ.an (v:=.bool (decide (¬(y.1=x.1∧y.2.1=x.2.1∧y.2.2=x.2.2.1)))) rfl (fun w hS=>(aB)) (RQ.bq (aA ?_))
 refine RW.aG _ (fun fA=>?_) (fun fA=>?_)
 refine RW.aN (RL.ag (v:=.bool false) ai (RL.ak (RW.ret (bb ?_))))
 iterate 2 refine aU ?_
 refine bb (aU (bc (RV.tmp rfl) ?_))
 exact⟨congrArg acV (decide_eq_false (fun h:lj l ws=>by
  have h2:=h x (acC hx) (by omega)
  first
  |(have:=(acF.1 h2).1;omega)
  |(rw[hy]at h2;cases h2;simp_all))).symm,hN.aX⟩
 refine RW.skip (ba (aA (RW.region (RL.ag (aD rfl rfl rfl (bg (by omega) (by omega))) (RL.ag (v:=.int .i64 ((i:Int)+1)) U (RL.ak ?_))))))
 exact⟨k-1,by omega,i+1,rfl,rfl,rfl,rfl,(hN.sb [1]),by omega,fun m z hm hz=>(adi m i).elim (fun e=>yw m z e hz) (fun e=>have e2:m=i:=(by omega);have e3:z=x:=ac7 (hz.symm.trans (e2▸hx));e3▸fun h0=>by first|exact absurd h0 lf|exact hy.trans (congrArg some (ad1 (by show y.1=x.1;omega) (ad1 (by show y.2.1=x.2.1;omega) (by show y.2.2=x.2.2.1;omega)))))⟩
 refine RW.exit ?_
 iterate 2 refine bP ?_
 refine aY (aA (RW.aN (RL.ag (v:=.bool true) ai (RL.ak (RW.ret (bc (RV.tmp rfl) ?_))))))
 exact⟨congrArg acV (decide_eq_true (show lj l ws from fun x hx=>by
  have aO:=ade hx
  obtain⟨m,hm⟩:=aO
  exact yw m x (by have:=(acF.1 hm).1;omega) hm)).symm,hN.aX⟩
theorem yj (n:Int) (av rv wv:Value) (l:List I3) (rk:List Int) (ws:List I5) (w:World) (ha:Sm bC w av l) (hr:Sl vI w rv rk) (hw:Sm aV w wv ws) (gv:Value) (gl:List Int) (hg:Sl vI w gv gl) (fv:Value) (fh:List Hd) (fl:List (List Int)) (hf:Sl vh w fv fh) (o9:gG none_ vI w fh fl) (ov:Value) (oh:List Hd) (ol:List (List I2)) (ho:Sl vh w ov oh) (F2:gJ none_ bG w oh ol) (iv:Value) (ih:List Hd) (il:List (List I2)) (hi:Sl vh w iv ih) (uj:gJ none_ bG w ih il) (cW:Value) (sC:List Hd) (eM:List (List Int)) (gM:Sl vh w cW sC) (rZ:gG none_ vI w sC eM) (cX:Value) (sD:List Hd) (eS:List (List Int)) (gI:Sl vh w cX sD) (r4:gG none_ vI w sD eS) (sH:gl.length≤16777216):aM acD 46 #[.agg #[.int .i64 n,av,rv,wv,gv,fv,ov,iv,cW,cX]] w fun r w'=>r=.int .i64 (dx n l rk ws gl fl ol il eM eS)∧Ext w w':=by
 refine aM.aZ Tryz.func46 ?_
 rw[cH]
 have hN:=aH.nil w none_
 refine RW.aN ?_
 refine RL.aL (bJ (cs:=[.int .i64 (n),av,rv,wv,gv,fv,ov,iv,cW,cX]) rfl rfl hN ?_)
 clear hN
 intro g1 w1 (hN:aH w none_ w1 [_])
 refine RL.ag (v:=.int .i64 (0)) ai (RL.ak ?_)
 iterate 2 refine RW.seq ?_
 replace hN:=hN.ext (Ext.drew w1)
 refine RW.bA (fun u=>aH w none_ u [.aJ g1 [.int .i64 (n),av,rv,wv,gv,fv,ov,iv,cW,cX] 34]) 14 [(0,0),(1,0),(3,0),(4,0),(6,0),(7,0),(8,0),(9,0),(10,0),(13,0),(2,1),(5,1),(11,1),(12,0)] (by intro _ _ _ h;exact h) hN (RQ.an rfl (fun w hS=>(ah acO rfl dw)) (RQ.an rfl (fun w hS=>(du (cs:=[.int .i64 (n),av,rv,wv,gv,fv,ov,iv,cW,cX]) (j:=0) (m:=2) acJ rfl dw rfl (hS.aJ 0 rfl) (acA rfl))) (RQ.an rfl (fun w hS=>(ah acO rfl dq)) (RQ.an rfl (fun w hS=>(du (cs:=[.int .i64 (n),av,rv,wv,gv,fv,ov,iv,cW,cX]) (j:=2) (m:=2) acE rfl dq rfl (hS.aJ 0 rfl) (acA rfl))) (RQ.an rfl (fun w hS=>(ah acO rfl dw)) (RQ.an rfl (fun w hS=>(ah acJ rfl bI)) (RQ.an rfl (fun w hS=>(aj acy (hS.aJ 0 rfl))) (RQ.an rfl (fun w hS=>(ah acO rfl iA)) (RQ.an rfl (fun w hS=>(du (cs:=[.int .i64 (n),av,rv,wv,gv,fv,ov,iv,cW,cX]) (j:=4) (m:=6) acR rfl iA rfl (hS.aJ 0 rfl) (acA rfl))) ?_)))))))))
 refine RQ.an (v:=.int .i64 (0)) rfl (fun w hS=>U) ?_
 refine RQ.bW rfl (bo ahb rfl rfl rfl ((mn (n) _ l _ (ha.o.now hN)).mono ?_))
 rintro _ w2 ⟨rfl,bl⟩
 replace hN:=hN.ext bl
 clear bl
 refine⟨hN,?_⟩
 refine RQ.bW rfl (bo akg rfl rfl rfl ((yv _ _ rk ws _ (hr.o.now hN) (hw.o.now hN)).mono ?_))
 rintro _ w3 ⟨rfl,bl⟩
 replace hN:=hN.ext bl
 clear bl
 refine⟨hN,?_⟩
 refine RQ.bW rfl (bu aka rfl rfl rfl rfl ((xA (n) _ _ gl (hg.o.now hN) _ fh fl (hf.o.now hN) (o9.fm hN) _ oh ol (ho.o.now hN) (F2.ext hN.aX) _ ih il (hi.o.now hN) (uj.ext hN.aX) _ sC eM (gM.o.now hN) (rZ.fm hN) _ sD eS (gI.o.now hN) (r4.fm hN) sH).mono ?_))
 rintro _ w4 ⟨rfl,bl⟩
 replace hN:=hN.ext bl
 clear bl
 refine⟨hN,?_⟩
 refine RQ.an rfl (fun w hS=>(qU (cs:=[.int .i64 ((dU (n) l)),.int .i64 ((dV rk ws)),.int .i64 ((dD (n) gl fl ol il eM eS))]) afS vf Ko (pl:=[(0,.tmp 7),(1,.tmp 10),(2,.tmp 16)]) rfl (ps:=[(0,.int .i64 ((dU (n) l))),(1,.int .i64 ((dV rk ws))),(2,.int .i64 ((dD (n) gl fl ol il eM eS)))]) rfl (zc:=[.int .i64 (0),.int .i64 (0),.int .i64 (0)]) rfl (aP (vs:=[.int .i64 ((dU (n) l))]) rfl rfl (acA rfl) (aP (vs:=[.int .i64 ((dV rk ws))]) rfl rfl (acA rfl) (aP (vs:=[.int .i64 ((dD (n) gl fl ol il eM eS))]) rfl rfl (acA rfl) rfl))))) (RQ.bq (aA (RW.block ?_)))
 refine RW.loop (fun k R0 cv=>∃i:Nat,R0 1=vP g1∧R0 17=.agg #[.int .i64 ((dU (n) l)),.int .i64 ((dV rk ws)),.int .i64 ((dD (n) gl fl ol il eM eS))]∧R0 18=vJ i∧aH w none_ cv [.aJ g1 [.int .i64 (n),av,rv,wv,gv,fv,ov,iv,cW,cX] 34]∧(i+k=3)∧(0<i→dU n l=0)∧(1<i→dV rk ws=0)∧(2<i→dD n gl fl ol il eM eS=0)) (3) ?_ ?_
 exact⟨0,rfl,rfl,rfl,hN,rfl,fun h=>absurd h (by omega),fun h=>absurd h (by omega),fun h=>absurd h (by omega)⟩
 clear hN
 rintro k R0 cv ⟨i,bN,eJ,fc,hN,fP,h0,h1,h2⟩
 have cz:=k5 bN eJ fc
 obtain⟨fV,rfl⟩:=cz
 clear bN eJ fc
 refine RW.aN (RL.ag (aK) (RL.ak (RW.seq ?_)))
 refine RW.aG _ (fun cD=>?_) (fun cD=>?_)
 refine RW.skip (aA (RW.seq (RW.block (RW.seq ?_))))
 obtain rfl|rfl|rfl:i=0∨i=1∨i=2:=by omega
 refine RW.region (RL.ag (iT (cs:=[.int .i64 ((dU (n) l)),.int .i64 ((dV rk ws)),.int .i64 ((dD (n) gl fl ol il eM eS))]) afS aeS rfl vf rfl rfl (by omega) (by omega) rfl) (RL.ag (v:=.int .i64 ((dU (n) l))) ai (RL.bY (RL.ag (v:=.int .i64 ((dU (n) l))) U (RL.ag (bj) (RL.nil ?_))))))
 refine aA ?_
 refine RW.aG _ (fun hc=>?_) (fun hc=>?_)
 refine RW.aN (RL.ag (v:=.int .i64 ((dU (n) l))) U (RL.ag (v:=.int .i64 ((dU (n) l))) ai (RL.ak (RW.ret (bb ?_)))))
 iterate 2 refine aU ?_
 refine bb (aU (bc (RV.tmp rfl) ?_))
 exact⟨congrArg (ac4 .i64) (show dx n l rk ws gl fl ol il eM eS=(dU (n) l) by
  unfold dx
  rw[if_pos (by omega)]).symm,hN.aX⟩
 refine RW.skip (ba (aA (RW.region (RL.ag (aD rfl rfl rfl (bg (by omega) (by omega))) (RL.ag (v:=.int .i64 (((0:Nat):Int)+1)) U (RL.ak ?_))))))
 exact⟨k-1,by omega,(0+1),rfl,rfl,rfl,hN,by omega,fun _=>by omega,fun _=>by omega,fun _=>by omega⟩
 refine RW.region (RL.ag (iT (cs:=[.int .i64 ((dU (n) l)),.int .i64 ((dV rk ws)),.int .i64 ((dD (n) gl fl ol il eM eS))]) afS aeS rfl vf rfl rfl (by omega) (by omega) rfl) (RL.ag (v:=.int .i64 ((dV rk ws))) ai (RL.bY (RL.ag (v:=.int .i64 ((dV rk ws))) U (RL.ag (bj) (RL.nil ?_))))))
 refine aA ?_
 refine RW.aG _ (fun hc=>?_) (fun hc=>?_)
 refine RW.aN (RL.ag (v:=.int .i64 ((dV rk ws))) U (RL.ag (v:=.int .i64 ((dV rk ws))) ai (RL.ak (RW.ret (bb ?_)))))
 iterate 2 refine aU ?_
 refine bb (aU (bc (RV.tmp rfl) ?_))
 exact⟨congrArg (ac4 .i64) (show dx n l rk ws gl fl ol il eM eS=(dV rk ws) by
  unfold dx
  rw[if_neg (by omega),if_pos (by omega)]).symm,hN.aX⟩
 refine RW.skip (ba (aA (RW.region (RL.ag (aD rfl rfl rfl (bg (by omega) (by omega))) (RL.ag (v:=.int .i64 (((1:Nat):Int)+1)) U (RL.ak ?_))))))
 exact⟨k-1,by omega,(1+1),rfl,rfl,rfl,hN,by omega,fun _=>by omega,fun _=>by omega,fun _=>by omega⟩
 refine RW.region (RL.ag (iT (cs:=[.int .i64 ((dU (n) l)),.int .i64 ((dV rk ws)),.int .i64 ((dD (n) gl fl ol il eM eS))]) afS aeS rfl vf rfl rfl (by omega) (by omega) rfl) (RL.ag (v:=.int .i64 ((dD (n) gl fl ol il eM eS))) ai (RL.bY (RL.ag (v:=.int .i64 ((dD (n) gl fl ol il eM eS))) U (RL.ag (bj) (RL.nil ?_))))))
 refine aA ?_
 refine RW.aG _ (fun hc=>?_) (fun hc=>?_)
 refine RW.aN (RL.ag (v:=.int .i64 ((dD (n) gl fl ol il eM eS))) U (RL.ag (v:=.int .i64 ((dD (n) gl fl ol il eM eS))) ai (RL.ak (RW.ret (bb ?_)))))
 iterate 2 refine aU ?_
 refine bb (aU (bc (RV.tmp rfl) ?_))
 exact⟨congrArg (ac4 .i64) (show dx n l rk ws gl fl ol il eM eS=(dD (n) gl fl ol il eM eS) by
  unfold dx
  rw[if_neg (by omega),if_neg (by omega),if_pos (by omega)]).symm,hN.aX⟩
 refine RW.skip (ba (aA (RW.region (RL.ag (aD rfl rfl rfl (bg (by omega) (by omega))) (RL.ag (v:=.int .i64 (((2:Nat):Int)+1)) U (RL.ak ?_))))))
 exact⟨k-1,by omega,(2+1),rfl,rfl,rfl,hN,by omega,fun _=>by omega,fun _=>by omega,fun _=>by omega⟩
 refine RW.exit ?_
 iterate 2 refine bP ?_
 refine aY (aA ?_)
 iterate 2 refine RW.seq ?_
 have kF:=h0 (by omega)
 have hh:=h1 (by omega)
 have TI:=h2 (by omega)
 refine RW.region (RL.ag (ah acO rfl dq) (RL.ag (ah acE rfl cc) (RL.ag (aj acz (hN.aJ 0 rfl)) ?_)))
 have qP:=(hr.o.now hN).bw
 refine RL.ag (aQ acz (hr.o.now hN)) (RL.ag (ah acO rfl dw) (RL.ag (ah acJ rfl bI) (RL.ag (aj acy (hN.aJ 0 rfl)) (RL.ag (bj) (RL.ag (v:=.bool (decide (¬(rk.length:Int)=n))) U ?_)))))
 by_cases MB:¬(rk.length:Int)=n
 rw[decide_eq_true MB]
 iterate 3 refine RL.bH ?_
 refine RL.ag (v:=.bool true) (al) (RL.ak (RW.bD (RW.aN (RL.ag (v:=.int .i64 (2)) ai (RL.ak (RW.ret ?_))))))
 refine aU (bc (RV.tmp rfl) ?_)
 exact⟨congrArg (ac4 .i64) (show dx n l rk ws gl fl ol il eM eS=2 by
  unfold dx
  rw[if_neg (by omega),if_neg (by omega),if_neg (by omega),if_neg (fun h=>by
  first
  |omega
  |exact absurd h.2 (by assumption))]).symm,hN.aX⟩
 rw[decide_eq_false MB]
 refine RL.aw (aE (cs:=[.int .i64 (n),av,rv,wv,gv,fv,ov,iv,cW,cX]) acO eR (hN.aJ 0 rfl)) ?_
 refine RL.er (bo akh rfl rfl rfl ((yQ (n) _ _ _ l rk ws _ (ha.o.now hN) (hr.o.now hN) (hw.o.now hN) _ gl (hg.o.now hN) _ fh fl (hf.o.now hN) (o9.fm hN) _ oh ol (ho.o.now hN) (F2.ext hN.aX) _ ih il (hi.o.now hN) (uj.ext hN.aX) _ sC eM (gM.o.now hN) (rZ.fm hN) _ sD eS (gI.o.now hN) (r4.fm hN) hh).mono ?_))
 rintro _ w6 ⟨rfl,bl⟩
 replace hN:=hN.ext bl
 clear bl
 refine RL.aw (cU rfl) (RL.ag (v:=.bool (decide (¬(lj l ws)))) (aB) (RL.ak ?_))
 refine RW.aG _ (fun VV=>?_) (fun VV=>?_)
 refine RW.aN (RL.ag (v:=.int .i64 (2)) ai (RL.ak (RW.ret (aU (bc (RV.tmp rfl) ?_)))))
 exact⟨congrArg (ac4 .i64) (show dx n l rk ws gl fl ol il eM eS=2 by
  unfold dx
  rw[if_neg (by omega),if_neg (by omega),if_neg (by omega),if_neg (fun h=>by
  first
  |omega
  |exact absurd h.2 (by assumption))]).symm,hN.aX⟩
 refine RW.skip (aA (RW.aN (RL.ag (v:=.int .i64 (0)) ai (RL.ak (RW.ret (bc (RV.tmp rfl) ?_))))))
 exact⟨congrArg (ac4 .i64) (show dx n l rk ws gl fl ol il eM eS=0 by
  unfold dx
  rw[if_neg (by omega),if_neg (by omega),if_neg (by omega),if_pos ⟨by omega,acX.1 (by assumption)⟩]).symm,hN.aX⟩
end Go.Proofs.YtngkdkbpgoddlaaGreat
namespace Go.Proofs.YtngkdkbpgoddlaaGreat
open Go.RowKit Go.Rl
open Go.Gr Go.dj Go.jR
theorem BX (lo hi g gr:Nat) (m:Int) (bd:Bool) (s:St) (w:World) (hN:aH w (b6 [.aJ gr [vP g,.int .i64 (m),.bool (bd)] 89,dF 142 lo hi g s]) w [.aJ gr [vP g,.int .i64 (m),.bool (bd)] 89,dF 142 lo hi g s]) (kF:0≤m) (jv:m≤1048576) (kN:s.1.length≤1048576) {s1:St} {b1:Bool} {n1:Int} {a1:List I3} (e:mQ m (s,bd)=((s1,b1),(n1,a1))):aM acD 42 #[vP gr] w fun r w'=>∃v,r=.agg #[.int .i64 n1,v]∧aH w (b6 [.aJ gr [vP g,.int .i64 (m),.bool (bd)] 89,dF 142 lo hi g s]) w' [.cd bC 3 100 v a1,.aJ gr [vP g,.int .i64 (m),.bool (b1)] 89,dF 142 lo hi g s1]:=
  (vz lo hi g gr m bd s w hN kF jv kN).mono fun _ _ h=>by rw[e]at h;exact h
theorem zN (lo hi g gr:Nat) (m:Int) (bd:Bool) (s:St) (w:World) (hN:aH w (b6 [.aJ gr [vP g,.int .i64 (m),.bool (bd)] 89,dF 142 lo hi g s]) w [.aJ gr [vP g,.int .i64 (m),.bool (bd)] 89,dF 142 lo hi g s]) (kF:0≤m) (jv:m≤1048576) (kN:s.1.length≤1048576) {s1:St} {b1:Bool} {k1:List Int} {a1:List I5} (e:j2 m (s,bd)=((s1,b1),(k1,a1))):aM acD 43 #[vP gr] w fun r w'=>∃rv wv,r=.agg #[rv,wv]∧aH w (b6 [.aJ gr [vP g,.int .i64 (m),.bool (bd)] 89,dF 142 lo hi g s]) w' [.own vI 3 rv k1,.cd aV 5 98 wv a1,.aJ gr [vP g,.int .i64 (m),.bool (b1)] 89,dF 142 lo hi g s1]:=
  (tB lo hi g gr m bd s w hN kF jv kN).mono fun _ _ h=>by rw[e]at h;exact h
theorem vy (lo hi g gr:Nat) (m:Int) (bd:Bool) (s:St) (w:World) (hN:aH w (b6 [.aJ gr [vP g,.int .i64 (m),.bool (bd)] 89,dF 142 lo hi g s]) w [.aJ gr [vP g,.int .i64 (m),.bool (bd)] 89,dF 142 lo hi g s]) (kF:0≤m) (jv:m≤1048576) (kN:s.1.length≤1048576) {s1:St} {b1:Bool} {q:Tn} (e:iL m (s,bd)=((s1,b1),q)):aM acD 44 #[vP gr] w fun r w'=>∃gv fv ov iv cW cX hf ho ic gM gI,r=.agg #[gv,fv,ov,iv,cW,cX]∧aH w (b6 [.aJ gr [vP g,.int .i64 (m),.bool (bd)] 89,dF 142 lo hi g s]) w' [.own vI 3 gv q.1,.own vh 25 fv hf,.eD vI hf q.2.1,.own vh 118 ov ho,.ed bG ho q.2.2.1,.own vh 118 iv ic,.ed bG ic q.2.2.2.1,.own vh 25 cW gM,.eD vI gM q.2.2.2.2.1,.own vh 25 cX gI,.eD vI gI q.2.2.2.2.2,.aJ gr [vP g,.int .i64 (m),.bool (b1)] 89,dF 142 lo hi g s1]:=
  (qz lo hi g gr m bd s w hN kF jv kN).mono fun _ _ h=>by rw[e]at h;exact h
def WK (w w' : World) (r : Value) : Option qg → Prop
  |none=>r=.tuple #[.agg #[.int .i64 (0),vN,vN,vN,vN,vN,vN,vN,vN,vN],.int .i64 5]∧Ext w w'
  |some x=>∃v rv wv gv fv ov iv cW cX hf ho ic gM gI,r=.tuple #[.agg #[.int .i64 x.n,v,rv,wv,gv,fv,ov,iv,cW,cX],.int .i64 0]∧aH w none_ w' [.cd bC 3 100 v x.ar,.own vI 3 rv x.rk,.cd aV 5 98 wv x.ws,.own vI 3 gv x.g,.own vh 25 fv hf,.eD vI hf x.far,.own vh 118 ov ho,.ed bG ho x.outs,.own vh 118 iv ic,.ed bG ic x.ins,.own vh 25 cW gM,.eD vI gM x.so,.own vh 25 cX gI,.eD vI gI x.si]
theorem yG (v:Value) (l:List UInt8) (w:World) (hv:Sl vb w v l) (hl:l.length≤1048576):aM acD 15 #[v] w fun r w'=>WK w w' r (uU l):=by
 refine aM.aZ agI ?_
 rw[cH]
 have hN:=aH.nil w none_
 refine RW.aN ?_
 refine RL.aL (bz (cs:=[.int .i64 (0),vN,vN,vN,vN,vN,vN,vN,vN,vN]) fM rfl hN ?_)
 clear hN
 intro g1 w1 (hN:aH w none_ w1 [_])
 refine RL.ag (v:=.int .i64 (0)) ai (RL.bY (RL.ag (v:=v) U ?_))
 refine RL.aL (bo af7 rfl rfl rfl ((jK _ l _ (hv.ext hN.aX) hl).mono ?_))
 rintro v2 w2 ⟨ow,cE⟩
 replace hN:aH w none_ w2 [_,_,_]:=hN.fG cE
 clear cE
 refine RL.ag (v:=v2) ai (RL.ak ?_)
 iterate 2 refine RW.seq ?_
 refine RW.region (RL.ag (v:=v2) U ?_)
 have kH:=(hN.sl 0 rfl).bw
 refine RL.ag (aQ adL (hN.sl 0 rfl)) (RL.ag (bj) (RL.ak ?_))
 refine RW.aG _ (fun hlen=>?_) (fun hlen=>?_)
 refine RW.aN (RL.ag (bR (cs:=[.int .i64 (0),vN,vN,vN,vN,vN,vN,vN,vN,vN]) acO fM (places:=#[(0,2),(2,2),(4,6)]) (by intro w;kernel_rfl) (pl:=[]) rfl (ps:=[]) rfl (zc:=[.int .i64 (0),vN,vN,vN,vN,vN,vN,vN,vN,vN]) rfl rfl) ?_)
 refine RL.aL (aS (vs:=[.int .i64 (0),vN,vN,vN,vN,vN,vN,vN,vN,vN]) eR rfl rfl rfl (bh (bh (bh (bh (bh (bh (bh (bh (bh (bh cZ)))))))))) hN 2 rfl rfl ?_)
 clear hN
 intro w4 (hN:aH w none_ w4 [_,_,_])
 refine RL.ag (v:=.int .i64 (5)) ai (RL.ak (RW.ret (aU (bc (RV.eo rfl rfl (dG (hN.aJ 2 rfl) acO rfl eR)) ?_))))
 rw[FB (fun h_=>hlen (by have:=(hN.fR 1 rfl).1;omega))]
 exact⟨rfl,hN.aX⟩
 refine RW.skip (aA (RW.seq ?_))
 have Pf:(cP l).length=4:=by have:=(hN.fR 1 rfl).1;omega
 replace hN:=hN.ext (Ext.drew w2)
 refine RW.bA (fun u=>aH w none_ u [.own vh 38 (v2) (ow),.eD vb (ow) (cP l),.aJ g1 [.int .i64 (0),vN,vN,vN,vN,vN,vN,vN,vN,vN] 34]) 15 [(0,0),(1,0),(2,0),(4,0),(5,0),(6,0),(8,0),(9,0),(10,0),(3,1),(7,1),(11,1),(12,0),(13,0),(14,0)] (by intro _ _ _ h;exact h) hN (RQ.an (v:=v2) rfl (fun w hS=>U) (RQ.an rfl (fun w hS=>(aC adL lY (hS.sl 0 rfl))) ?_))
 have aO:=cQ (ow) 1
 obtain⟨WE,vT⟩:=aO
 have aO:∃l_,(cP l)[1]?=some l_:=⟨_,acM (by have:=(hN.fR 1 rfl).1;omega)⟩
 obtain⟨K5,qI⟩:=aO
 refine RQ.an rfl (fun w hS=>(aF (m:=1) (a:=WE) acW (hS.sl 0 rfl) vT)) ?_
 have Z2:=mb (acC qI)
 refine RQ.an (v:=v2) rfl (fun w hS=>U) (RQ.an rfl (fun w hS=>(aC adL lY (hS.sl 0 rfl))) ?_)
 have aO:=cQ (ow) 2
 obtain⟨sM,jD⟩:=aO
 have aO:∃l_,(cP l)[2]?=some l_:=⟨_,acM (by have:=(hN.fR 1 rfl).1;omega)⟩
 obtain⟨K4,qH⟩:=aO
 refine RQ.an rfl (fun w hS=>(aF (m:=2) (a:=sM) acW (hS.sl 0 rfl) jD)) ?_
 have Z1:=mb (acC qH)
 refine RQ.an (v:=v2) rfl (fun w hS=>U) (RQ.an rfl (fun w hS=>(aC adL lY (hS.sl 0 rfl))) ?_)
 have aO:=cQ (ow) 3
 obtain⟨WD,Fi⟩:=aO
 have aO:∃l_,(cP l)[3]?=some l_:=⟨_,acM (by have:=(hN.fR 1 rfl).1;omega)⟩
 obtain⟨K3,qG⟩:=aO
 refine RQ.an rfl (fun w hS=>(aF (m:=3) (a:=WD) acW (hS.sl 0 rfl) Fi)) ?_
 have Z0:=mb (acC qG)
 refine RQ.bW rfl (bo ahH rfl rfl rfl ((nz _ K5 _ ((hN.fR 1 rfl).2 _ _ _ vT qI).1 (by omega)).mono ?_))
 rintro _ w5 ⟨AQ,Ub,Vs,g5,rfl,cE⟩
 replace hN:aH w none_ w5 [_,_,_,_,_]:=hN.fG cE
 clear cE
 refine⟨(hN.sb [2,3,4]),?_⟩
 refine RQ.bW rfl (bo ahH rfl rfl rfl ((nz _ K4 _ ((hN.fR 3 rfl).2 _ _ _ jD qH).1 (by omega)).mono ?_))
 rintro _ w6 ⟨AP,Ua,Vr,g6,rfl,cE⟩
 replace hN:aH w none_ w6 [_,_,_,_,_,_,_]:=hN.fG cE
 clear cE
 refine⟨(hN.sb [4,5,6]),?_⟩
 refine RQ.bW rfl (bo ahH rfl rfl rfl ((nz _ K3 _ ((hN.fR 5 rfl).2 _ _ _ Fi qG).1 (by omega)).mono ?_))
 rintro _ w7 ⟨AO,Tz,TL,g7,rfl,cE⟩
 replace hN:aH w none_ w7 [_,_,_,_,_,_,_,_,_]:=hN.fG cE
 clear cE
 refine⟨(hN.sb [6,7,8]),?_⟩
 refine RQ.an (v:=vP AQ) rfl (fun w hS=>ai) (RQ.an (v:=vP AP) rfl (fun w hS=>ai) (RQ.an (v:=vP AO) rfl (fun w hS=>ai) (RQ.bq (aA (RW.aN (RL.ag (v:=vP AQ) U ?_))))))
 have qN:∃s1 b1 n ar,mQ (K5.length:Int) ((K5,0),(false))=((s1,b1),(n,ar)):=⟨_,_,_,_,rfl⟩
 obtain⟨J3,JW,n8,M6,Fl⟩:=qN
 refine RL.aL (bo Tryz.func42 rfl rfl rfl ((BX Ub Vs g5 AQ (K5.length:Int) (false) (K5,0) _ (hN.de (M:=[_,_]) [4,5] (by decide) rfl) (by omega) (by omega) (by dsimp only;omega) Fl).mono ?_))
 rintro _ w8 ⟨v8,rfl,cE⟩
 replace hN:aH w none_ w8 [_,_,_,_,_,_,_,_,_,_]:=aH.dd (M:=[_,_]) (N:=[_,_,_,_,_,_,_]) (hN.sb [4,5,0,1,2,3,6,7,8]) cE
 clear cE
 refine RL.ag (v:=vP AP) U ?_
 have qN:∃s1 b1 rk ws,j2 (K4.length:Int) ((K4,0),(false))=((s1,b1),(rk,ws)):=⟨_,_,_,_,rfl⟩
 obtain⟨QN,TV,Md,L2,LH⟩:=qN
 refine RL.aL (bo Tryz.func43 rfl rfl rfl ((zN Ua Vr g6 AP (K4.length:Int) (false) (K4,0) _ (hN.de (M:=[_,_]) [5,6] (by decide) rfl) (by omega) (by omega) (by dsimp only;omega) LH).mono ?_))
 rintro _ w9 ⟨y5,yX,rfl,cE⟩
 replace hN:aH w none_ w9 [_,_,_,_,_,_,_,_,_,_,_,_]:=aH.dd (M:=[_,_]) (N:=[_,_,_,_,_,_,_,_]) (hN.sb [5,6,0,1,2,3,4,7,8,9]) cE
 clear cE
 refine RL.ag (v:=vP AO) U ?_
 have qN:∃s1 b1 g far outs ins so si,iL (K3.length:Int) ((K3,0),(false))=((s1,b1),(g,far,outs,ins,so,si)):=⟨_,_,_,_,_,_,_,_,rfl⟩
 obtain⟨xD,Bh,AS,rI,nr,rp,zw,zz,qO⟩:=qN
 refine RL.aL (bo Tryz.func44 rfl rfl rfl ((vy Tz TL g7 AO (K3.length:Int) (false) (K3,0) _ (hN.de (M:=[_,_]) [7,8] (by decide) rfl) (by omega) (by omega) (by dsimp only;omega) qO).mono ?_))
 rintro _ lR ⟨r8,r9,rS,rW,mF,mG,I6,H7,Iq,Ah,Ai,rfl,cE⟩
 replace hN:aH w none_ lR [_,_,_,_,_,_,_,_,_,_,_,_,_,_,_,_,_,_,_,_,_,_,_]:=aH.dd (M:=[_,_]) (N:=[_,_,_,_,_,_,_,_,_,_]) (hN.sb [7,8,0,1,2,3,4,5,6,9,10,11]) cE
 clear cE
 refine RL.ag (bR (cs:=[.int .i64 (n8),v8,y5,yX,r8,r9,rS,rW,mF,mG]) acO fM (places:=#[(0,2),(2,2),(4,6)]) (by intro w;kernel_rfl) (pl:=[(0,.tmp 30),(1,.tmp 32),(2,.tmp 34)]) rfl (ps:=[(0,.agg #[.int .i64 (n8),v8]),(1,.agg #[y5,yX]),(2,.agg #[r8,r9,rS,rW,mF,mG])]) rfl (zc:=[.int .i64 (0),vN,vN,vN,vN,vN,vN,vN,vN,vN]) rfl (aP (vs:=[.int .i64 (n8),v8]) rfl rfl (acA rfl) (aP (vs:=[y5,yX]) rfl rfl (acA rfl) (aP (vs:=[r8,r9,rS,rW,mF,mG]) rfl rfl (acA rfl) rfl)))) ?_
 refine RL.aL (bz (cs:=[.int .i64 (0),vN,vN,vN,vN,vN,vN,vN,vN,vN]) fM rfl hN ?_)
 clear hN
 intro MW kY (hN:aH w none_ kY [_,_,_,_,_,_,_,_,_,_,_,_,_,_,_,_,_,_,_,_,_,_,_,_])
 refine RL.aL (aS (vs:=[.int .i64 (n8),v8,y5,yX,r8,r9,rS,rW,mF,mG]) eR rfl rfl rfl (by intro u hu;simp only[ac6,ac0,or_false]at hu;rcases hu with rfl|rfl|rfl|rfl|rfl|rfl|rfl|rfl|rfl|rfl<;>first|rfl|exact(hN.sl 1 rfl).bT|exact(hN.sl 10 rfl).bT|exact(hN.sl 14 rfl).bT|exact(hN.sl 2 rfl).bT|exact(hN.sl 4 rfl).bT|exact(hN.sl 6 rfl).bT|exact(hN.sl 8 rfl).bT|exact(hN.sm 15 rfl).bT|exact(hN.sm 18 rfl).bT) hN 0 rfl rfl ?_)
 clear hN
 intro kI (hN:aH w none_ kI [_,_,_,_,_,_,_,_,_,_,_,_,_,_,_,_,_,_,_,_,_,_,_,_])
 refine RL.ak ?_
 iterate 2 refine RW.seq ?_
 refine RW.region (RL.ag (v:=vP AQ) U (RL.ag (v:=vP AP) U (RL.ag (v:=vP AO) U (RL.ag (qU (cs:=[vP AQ,vP AP,vP AO]) afY KA Ng (pl:=[(0,.tmp 36),(1,.tmp 37),(2,.tmp 38)]) rfl (ps:=[(0,vP AQ),(1,vP AP),(2,vP AO)]) rfl (zc:=[.pointer none,.pointer none,.pointer none]) rfl (aP (vs:=[vP AQ]) rfl rfl (acA rfl) (aP (vs:=[vP AP]) rfl rfl (acA rfl) (aP (vs:=[vP AO]) rfl rfl (acA rfl) rfl)))) (RL.ag (v:=.int .i64 (0)) U (RL.ak (RW.block ?_)))))))
 refine RW.loop (fun k R0 cv=>∃i:Nat,R0 0=v∧R0 2=vP g1∧R0 8=vP MW∧R0 39=.agg #[vP AQ,vP AP,vP AO]∧R0 40=vJ i∧aH w none_ cv [.aJ MW [.int .i64 (n8),v8,y5,yX,r8,r9,rS,rW,mF,mG] 34,.own vI 3 (r8) (AS),.own vh 25 (r9) (I6),.eD vI (I6) (rI),.own vh 118 (rS) (H7),.ed bG (H7) (nr),.own vh 118 (rW) (Iq),.ed bG (Iq) (rp),.own vh 25 (mF) (Ah),.eD vI (Ah) (zw),.own vh 25 (mG) (Ai),.eD vI (Ai) (zz),.aJ AO [vP g7,.int .i64 ((K3.length:Int)),.bool (Bh)] 89,dF 142 Tz TL g7 xD,.own vI 3 (y5) (Md),.cd aV 5 98 (yX) (L2),.aJ AP [vP g6,.int .i64 ((K4.length:Int)),.bool (TV)] 89,dF 142 Ua Vr g6 QN,.cd bC 3 100 (v8) (M6),.aJ AQ [vP g5,.int .i64 ((K5.length:Int)),.bool (JW)] 89,dF 142 Ub Vs g5 J3,.own vh 38 (v2) (ow),.eD vb (ow) (cP l),.aJ g1 [.int .i64 (0),vN,vN,vN,vN,vN,vN,vN,vN,vN] 34]∧(i+k=3)∧((0<i→JW=false∧oe J3=0)∧(1<i→TV=false∧oe QN=0)∧(2<i→Bh=false∧oe xD=0))) (3) ?_ ?_
 exact⟨0,rfl,rfl,rfl,rfl,rfl,hN,by omega,⟨fun h=>absurd h (by omega),fun h=>absurd h (by omega),fun h=>absurd h (by omega)⟩⟩
 clear hN
 rintro k R0 cv ⟨i,cF,bQ,cM,Aq,Ap,hN,fP,Qm⟩
 have cz:=hC cF bQ cM Aq Ap
 obtain⟨fV,rfl⟩:=cz
 clear cF bQ cM Aq Ap
 refine RW.aN (RL.ag (aK) (RL.ak (RW.seq ?_)))
 refine RW.aG _ (fun Lx=>?_) (fun Lx=>?_)
 refine RW.skip (aA (RW.seq (RW.block (RW.seq ?_))))
 have y9:i=0∨i=1∨i=2:=by omega
 rcases y9 with rfl|rfl|rfl
 refine RW.region (RL.ag (iT (cs:=[vP AQ,vP AP,vP AO]) afY ael rfl KA rfl rfl (by omega) (by omega) rfl) (RL.ag (v:=vP AQ) ai (RL.ak (RW.seq ?_))))
 cases JW
 refine RW.region (RL.ag (v:=vP AQ) U (RL.ag (bM) (RL.ag (ah adz rfl oM) (RL.ag (aj aeJ (hN.aJ 19 rfl)) (RL.ag (v:=.bool false) U (RL.aw (v:=vP AQ) U (RL.aw (bM) (RL.aw (ah adz rfl El) (RL.aw (aj aec (hN.aJ 19 rfl)) ?_)))))))))
 refine RL.er (bo ahB rfl rfl rfl ((qV _ _ _ J3 _ (dF.says hN 20 rfl)).mono ?_))
 rintro _ _ ⟨rfl,rfl⟩
 refine RL.aw (bj) (RL.ag (v:=.bool (decide (¬(oe J3)=0))) (aB) (RL.ak ?_))
 refine RW.aG _ (fun dX=>?_) (fun dX=>?_)
 refine RW.aN (RL.ag (bR (cs:=[.int .i64 (0),vN,vN,vN,vN,vN,vN,vN,vN,vN]) acO fM (places:=#[(0,2),(2,2),(4,6)]) (by intro w;kernel_rfl) (pl:=[]) rfl (ps:=[]) rfl (zc:=[.int .i64 (0),vN,vN,vN,vN,vN,vN,vN,vN,vN]) rfl rfl) ?_)
 refine RL.aL (aS (vs:=[.int .i64 (0),vN,vN,vN,vN,vN,vN,vN,vN,vN]) eR rfl rfl rfl (bh (bh (bh (bh (bh (bh (bh (bh (bh (bh cZ)))))))))) hN 23 rfl rfl ?_)
 clear hN
 intro oI (hN:aH w none_ oI [_,_,_,_,_,_,_,_,_,_,_,_,_,_,_,_,_,_,_,_,_,_,_,_])
 refine RL.ag (v:=.int .i64 (5)) ai (RL.ak (RW.ret (bb ?_)))
 iterate 2 refine aU ?_
 refine bb (aU (bc (RV.eo rfl rfl (dG (hN.aJ 23 rfl) acO rfl eR)) ?_))
 have lS:=l8 Fl LH qO
 rw[if_neg (fun h_=>dX h_.1.2)]at lS
 rw[lQ Pf qI qH qG lS]
 exact⟨rfl,hN.aX⟩
 refine RW.skip (ba (aA (RW.region (RL.ag (aD rfl rfl rfl (bg (by omega) (by omega))) (RL.ag (v:=.int .i64 (((0:Nat):Int)+1)) U (RL.ak ?_))))))
 exact⟨k-1,by omega,0+1,rfl,rfl,rfl,rfl,rfl,hN,by omega,⟨fun _=>⟨rfl,acX.1 dX⟩,fun h=>absurd h (by omega),fun h=>absurd h (by omega)⟩⟩
 refine RW.region (RL.ag (v:=vP AQ) U (RL.ag (bM) (RL.ag (ah adz rfl oM) (RL.ag (aj aeJ (hN.aJ 19 rfl)) (RL.ag (v:=.bool true) U ?_)))))
 iterate 6 refine RL.bH ?_
 refine RL.ag (v:=.bool true) (al) (RL.ak (RW.bD (RW.aN (RL.ag (bR (cs:=[.int .i64 (0),vN,vN,vN,vN,vN,vN,vN,vN,vN]) acO fM (places:=#[(0,2),(2,2),(4,6)]) (by intro w;kernel_rfl) (pl:=[]) rfl (ps:=[]) rfl (zc:=[.int .i64 (0),vN,vN,vN,vN,vN,vN,vN,vN,vN]) rfl rfl) ?_))))
 refine RL.aL (aS (vs:=[.int .i64 (0),vN,vN,vN,vN,vN,vN,vN,vN,vN]) eR rfl rfl rfl (bh (bh (bh (bh (bh (bh (bh (bh (bh (bh cZ)))))))))) hN 23 rfl rfl ?_)
 clear hN
 intro ph (hN:aH w none_ ph [_,_,_,_,_,_,_,_,_,_,_,_,_,_,_,_,_,_,_,_,_,_,_,_])
 refine RL.ag (v:=.int .i64 (5)) ai (RL.ak (RW.ret (bb ?_)))
 iterate 2 refine aU ?_
 refine bb (aU (bc (RV.eo rfl rfl (dG (hN.aJ 23 rfl) acO rfl eR)) ?_))
 have lS:=l8 Fl LH qO
 rw[if_neg (fun h_=>absurd h_.1.1 (by decide))]at lS
 rw[lQ Pf qI qH qG lS]
 exact⟨rfl,hN.aX⟩
 refine RW.region (RL.ag (iT (cs:=[vP AQ,vP AP,vP AO]) afY ael rfl KA rfl rfl (by omega) (by omega) rfl) (RL.ag (v:=vP AP) ai (RL.ak (RW.seq ?_))))
 cases TV
 refine RW.region (RL.ag (v:=vP AP) U (RL.ag (bM) (RL.ag (ah adz rfl oM) (RL.ag (aj aeJ (hN.aJ 16 rfl)) (RL.ag (v:=.bool false) U (RL.aw (v:=vP AP) U (RL.aw (bM) (RL.aw (ah adz rfl El) (RL.aw (aj aec (hN.aJ 16 rfl)) ?_)))))))))
 refine RL.er (bo ahB rfl rfl rfl ((qV _ _ _ QN _ (dF.says hN 17 rfl)).mono ?_))
 rintro _ _ ⟨rfl,rfl⟩
 refine RL.aw (bj) (RL.ag (v:=.bool (decide (¬(oe QN)=0))) (aB) (RL.ak ?_))
 refine RW.aG _ (fun dX=>?_) (fun dX=>?_)
 refine RW.aN (RL.ag (bR (cs:=[.int .i64 (0),vN,vN,vN,vN,vN,vN,vN,vN,vN]) acO fM (places:=#[(0,2),(2,2),(4,6)]) (by intro w;kernel_rfl) (pl:=[]) rfl (ps:=[]) rfl (zc:=[.int .i64 (0),vN,vN,vN,vN,vN,vN,vN,vN,vN]) rfl rfl) ?_)
 refine RL.aL (aS (vs:=[.int .i64 (0),vN,vN,vN,vN,vN,vN,vN,vN,vN]) eR rfl rfl rfl (bh (bh (bh (bh (bh (bh (bh (bh (bh (bh cZ)))))))))) hN 23 rfl rfl ?_)
 clear hN
 intro u3 (hN:aH w none_ u3 [_,_,_,_,_,_,_,_,_,_,_,_,_,_,_,_,_,_,_,_,_,_,_,_])
 refine RL.ag (v:=.int .i64 (5)) ai (RL.ak (RW.ret (bb ?_)))
 iterate 2 refine aU ?_
 refine bb (aU (bc (RV.eo rfl rfl (dG (hN.aJ 23 rfl) acO rfl eR)) ?_))
 have lS:=l8 Fl LH qO
 rw[if_neg (fun h_=>dX h_.2.1.2)]at lS
 rw[lQ Pf qI qH qG lS]
 exact⟨rfl,hN.aX⟩
 refine RW.skip (ba (aA (RW.region (RL.ag (aD rfl rfl rfl (bg (by omega) (by omega))) (RL.ag (v:=.int .i64 (((1:Nat):Int)+1)) U (RL.ak ?_))))))
 exact⟨k-1,by omega,1+1,rfl,rfl,rfl,rfl,rfl,hN,by omega,⟨fun _=>Qm.1 (by omega),fun _=>⟨rfl,acX.1 dX⟩,fun h=>absurd h (by omega)⟩⟩
 refine RW.region (RL.ag (v:=vP AP) U (RL.ag (bM) (RL.ag (ah adz rfl oM) (RL.ag (aj aeJ (hN.aJ 16 rfl)) (RL.ag (v:=.bool true) U ?_)))))
 iterate 6 refine RL.bH ?_
 refine RL.ag (v:=.bool true) (al) (RL.ak (RW.bD (RW.aN (RL.ag (bR (cs:=[.int .i64 (0),vN,vN,vN,vN,vN,vN,vN,vN,vN]) acO fM (places:=#[(0,2),(2,2),(4,6)]) (by intro w;kernel_rfl) (pl:=[]) rfl (ps:=[]) rfl (zc:=[.int .i64 (0),vN,vN,vN,vN,vN,vN,vN,vN,vN]) rfl rfl) ?_))))
 refine RL.aL (aS (vs:=[.int .i64 (0),vN,vN,vN,vN,vN,vN,vN,vN,vN]) eR rfl rfl rfl (bh (bh (bh (bh (bh (bh (bh (bh (bh (bh cZ)))))))))) hN 23 rfl rfl ?_)
 clear hN
 intro vd (hN:aH w none_ vd [_,_,_,_,_,_,_,_,_,_,_,_,_,_,_,_,_,_,_,_,_,_,_,_])
 refine RL.ag (v:=.int .i64 (5)) ai (RL.ak (RW.ret (bb ?_)))
 iterate 2 refine aU ?_
 refine bb (aU (bc (RV.eo rfl rfl (dG (hN.aJ 23 rfl) acO rfl eR)) ?_))
 have lS:=l8 Fl LH qO
 rw[if_neg (fun h_=>absurd h_.2.1.1 (by decide))]at lS
 rw[lQ Pf qI qH qG lS]
 exact⟨rfl,hN.aX⟩
 refine RW.region (RL.ag (iT (cs:=[vP AQ,vP AP,vP AO]) afY ael rfl KA rfl rfl (by omega) (by omega) rfl) (RL.ag (v:=vP AO) ai (RL.ak (RW.seq ?_))))
 cases Bh
 refine RW.region (RL.ag (v:=vP AO) U (RL.ag (bM) (RL.ag (ah adz rfl oM) (RL.ag (aj aeJ (hN.aJ 12 rfl)) (RL.ag (v:=.bool false) U (RL.aw (v:=vP AO) U (RL.aw (bM) (RL.aw (ah adz rfl El) (RL.aw (aj aec (hN.aJ 12 rfl)) ?_)))))))))
 refine RL.er (bo ahB rfl rfl rfl ((qV _ _ _ xD _ (dF.says hN 13 rfl)).mono ?_))
 rintro _ _ ⟨rfl,rfl⟩
 refine RL.aw (bj) (RL.ag (v:=.bool (decide (¬(oe xD)=0))) (aB) (RL.ak ?_))
 refine RW.aG _ (fun dX=>?_) (fun dX=>?_)
 refine RW.aN (RL.ag (bR (cs:=[.int .i64 (0),vN,vN,vN,vN,vN,vN,vN,vN,vN]) acO fM (places:=#[(0,2),(2,2),(4,6)]) (by intro w;kernel_rfl) (pl:=[]) rfl (ps:=[]) rfl (zc:=[.int .i64 (0),vN,vN,vN,vN,vN,vN,vN,vN,vN]) rfl rfl) ?_)
 refine RL.aL (aS (vs:=[.int .i64 (0),vN,vN,vN,vN,vN,vN,vN,vN,vN]) eR rfl rfl rfl (bh (bh (bh (bh (bh (bh (bh (bh (bh (bh cZ)))))))))) hN 23 rfl rfl ?_)
 clear hN
 intro Bp (hN:aH w none_ Bp [_,_,_,_,_,_,_,_,_,_,_,_,_,_,_,_,_,_,_,_,_,_,_,_])
 refine RL.ag (v:=.int .i64 (5)) ai (RL.ak (RW.ret (bb ?_)))
 iterate 2 refine aU ?_
 refine bb (aU (bc (RV.eo rfl rfl (dG (hN.aJ 23 rfl) acO rfl eR)) ?_))
 have lS:=l8 Fl LH qO
 rw[if_neg (fun h_=>dX h_.2.2.2)]at lS
 rw[lQ Pf qI qH qG lS]
 exact⟨rfl,hN.aX⟩
 refine RW.skip (ba (aA (RW.region (RL.ag (aD rfl rfl rfl (bg (by omega) (by omega))) (RL.ag (v:=.int .i64 (((2:Nat):Int)+1)) U (RL.ak ?_))))))
 exact⟨k-1,by omega,2+1,rfl,rfl,rfl,rfl,rfl,hN,by omega,⟨fun _=>Qm.1 (by omega),fun _=>Qm.2.1 (by omega),fun _=>⟨rfl,acX.1 dX⟩⟩⟩
 refine RW.region (RL.ag (v:=vP AO) U (RL.ag (bM) (RL.ag (ah adz rfl oM) (RL.ag (aj aeJ (hN.aJ 12 rfl)) (RL.ag (v:=.bool true) U ?_)))))
 iterate 6 refine RL.bH ?_
 refine RL.ag (v:=.bool true) (al) (RL.ak (RW.bD (RW.aN (RL.ag (bR (cs:=[.int .i64 (0),vN,vN,vN,vN,vN,vN,vN,vN,vN]) acO fM (places:=#[(0,2),(2,2),(4,6)]) (by intro w;kernel_rfl) (pl:=[]) rfl (ps:=[]) rfl (zc:=[.int .i64 (0),vN,vN,vN,vN,vN,vN,vN,vN,vN]) rfl rfl) ?_))))
 refine RL.aL (aS (vs:=[.int .i64 (0),vN,vN,vN,vN,vN,vN,vN,vN,vN]) eR rfl rfl rfl (bh (bh (bh (bh (bh (bh (bh (bh (bh (bh cZ)))))))))) hN 23 rfl rfl ?_)
 clear hN
 intro BB (hN:aH w none_ BB [_,_,_,_,_,_,_,_,_,_,_,_,_,_,_,_,_,_,_,_,_,_,_,_])
 refine RL.ag (v:=.int .i64 (5)) ai (RL.ak (RW.ret (bb ?_)))
 iterate 2 refine aU ?_
 refine bb (aU (bc (RV.eo rfl rfl (dG (hN.aJ 23 rfl) acO rfl eR)) ?_))
 have lS:=l8 Fl LH qO
 rw[if_neg (fun h_=>absurd h_.2.2.1 (by decide))]at lS
 rw[lQ Pf qI qH qG lS]
 exact⟨rfl,hN.aX⟩
 refine RW.exit ?_
 iterate 2 refine bP ?_
 refine aY (aA ?_)
 iterate 2 refine RW.seq ?_
 have lS:=l8 Fl LH qO
 rw[if_pos ⟨Qm.1 (by omega),Qm.2.1 (by omega),Qm.2.2 (by omega)⟩]at lS
 have VJ:=JO Pf qI qH qG lS
 have ob:=Ey (B:=1048576) Fl LH qO (by omega) (by omega) (by omega)
 have Vw:=ob.g
 have aaa:=ob.ES (n:=n8)
 replace hN:=hN.ext (Ext.drew cv)
 refine RW.bA (fun u=>aH w none_ u [.aJ MW [.int .i64 (n8),v8,y5,yX,r8,r9,rS,rW,mF,mG] 34,.own vI 3 (r8) (AS),.own vh 25 (r9) (I6),.eD vI (I6) (rI),.own vh 118 (rS) (H7),.ed bG (H7) (nr),.own vh 118 (rW) (Iq),.ed bG (Iq) (rp),.own vh 25 (mF) (Ah),.eD vI (Ah) (zw),.own vh 25 (mG) (Ai),.eD vI (Ai) (zz),.aJ AO [vP g7,.int .i64 ((K3.length:Int)),.bool (Bh)] 89,dF 142 Tz TL g7 xD,.own vI 3 (y5) (Md),.cd aV 5 98 (yX) (L2),.aJ AP [vP g6,.int .i64 ((K4.length:Int)),.bool (TV)] 89,dF 142 Ua Vr g6 QN,.cd bC 3 100 (v8) (M6),.aJ AQ [vP g5,.int .i64 ((K5.length:Int)),.bool (JW)] 89,dF 142 Ub Vs g5 J3,.own vh 38 (v2) (ow),.eD vb (ow) (cP l),.aJ g1 [.int .i64 (0),vN,vN,vN,vN,vN,vN,vN,vN,vN] 34]) 11 [(0,0),(1,1),(2,0),(3,0),(4,0),(7,0),(8,0),(5,1),(6,1),(9,0),(10,0)] (by intro _ _ _ h;exact h) hN (RQ.an rfl (fun w hS=>(aE (cs:=[.int .i64 (n8),v8,y5,yX,r8,r9,rS,rW,mF,mG]) acO eR (hS.aJ 0 rfl))) ?_)
 refine RQ.bW rfl (bo Tryz.func46 rfl rfl rfl ((yj (n8) _ _ _ M6 Md L2 _ (hN.sm 18 rfl) (hN.sl 14 rfl) (hN.sm 15 rfl) _ AS (hN.sl 1 rfl) _ I6 rI (hN.sl 2 rfl) (hN.fR 3 rfl) _ H7 nr (hN.sl 4 rfl) (hN.lP 5 rfl) _ Iq rp (hN.sl 6 rfl) (hN.lP 7 rfl) _ Ah zw (hN.sl 8 rfl) (hN.fR 9 rfl) _ Ai zz (hN.sl 10 rfl) (hN.fR 11 rfl) (acU Vw (by decide))).mono ?_))
 rintro _ yY ⟨rfl,bl⟩
 replace hN:=hN.ext bl
 clear bl
 refine⟨hN,?_⟩
 refine RQ.an rfl (fun w hS=>(bj)) (RQ.an (v:=.bool (decide (¬(dx n8 M6 Md L2 AS rI nr rp zw zz)=0))) rfl (fun w hS=>U) ?_)
 by_cases Kb:¬(dx n8 M6 Md L2 AS rI nr rp zw zz)=0
 rw[decide_eq_true Kb]
 iterate 6 refine RQ.bU rfl ?_
 refine RQ.an (v:=.bool true) rfl (fun w hS=>(al)) (RQ.bq (aA (RW.bD (RW.aN (RL.ag (bR (cs:=[.int .i64 (0),vN,vN,vN,vN,vN,vN,vN,vN,vN]) acO fM (places:=#[(0,2),(2,2),(4,6)]) (by intro w;kernel_rfl) (pl:=[]) rfl (ps:=[]) rfl (zc:=[.int .i64 (0),vN,vN,vN,vN,vN,vN,vN,vN,vN]) rfl rfl) ?_)))))
 refine RL.aL (aS (vs:=[.int .i64 (0),vN,vN,vN,vN,vN,vN,vN,vN,vN]) eR rfl rfl rfl (bh (bh (bh (bh (bh (bh (bh (bh (bh (bh cZ)))))))))) hN 23 rfl rfl ?_)
 clear hN
 intro zn (hN:aH w none_ zn [_,_,_,_,_,_,_,_,_,_,_,_,_,_,_,_,_,_,_,_,_,_,_,_])
 refine RL.ag (v:=.int .i64 (5)) ai (RL.ak (RW.ret (aU (bc (RV.eo rfl rfl (dG (hN.aJ 23 rfl) acO rfl eR)) ?_))))
 rw[VJ,if_neg (fun h_=>Kb h_.1)]
 exact⟨rfl,hN.aX⟩
 rw[decide_eq_false Kb]
 refine RQ.aR rfl (fun w hS=>(aE (cs:=[.int .i64 (n8),v8,y5,yX,r8,r9,rS,rW,mF,mG]) acO eR (hS.aJ 0 rfl))) (RQ.aR (v:=v) rfl (fun w hS=>U) (RQ.aR rfl (fun w hS=>(kz acW ady aeq (hv.ext hS.aX) rfl)) ?_))
 refine RQ.dQ rfl (bo af6 rfl rfl rfl ((jr n8 M6 Md L2 AS rI nr rp zw zz _ _ _ _ _ _ _ _ _ _ _ _ _ _ _ (hN.sm 18 rfl) (hN.sl 14 rfl) (hN.sm 15 rfl) ⟨(hN.sl 1 rfl).o,(hN.sl 2 rfl).o,(hN.fR 3 rfl),(hN.sl 4 rfl).o,(hN.lP 5 rfl),(hN.sl 6 rfl).o,(hN.lP 7 rfl),(hN.sl 8 rfl).o,(hN.fR 9 rfl),(hN.sl 10 rfl).o,(hN.fR 11 rfl)⟩ (acU ob.ar (by omega)) (acU ob.rk (by omega)) (acU ob.ws (by omega)) (acU ob.g (by omega)) ⟨acU ob.far.1 (by omega),fun r hr=>acU (ob.far.2 r hr) (by omega)⟩ ⟨acU ob.outs.1 (by omega),fun r hr=>acU (ob.outs.2 r hr) (by omega)⟩ ⟨acU ob.ins.1 (by omega),fun r hr=>acU (ob.ins.2 r hr) (by omega)⟩ ⟨acU ob.so.1 (by omega),fun r hr=>acU (ob.so.2 r hr) (by omega)⟩ ⟨acU ob.si.1 (by omega),fun r hr=>acU (ob.si.2 r hr) (by omega)⟩ (by omega)).mono ?_))
 rintro v24 Dk ⟨cL,bl⟩
 replace hN:aH w none_ Dk [_,_,_,_,_,_,_,_,_,_,_,_,_,_,_,_,_,_,_,_,_,_,_,_,_]:=hN.cl (l:=dC (gT n8 M6 Md L2 AS rI nr rp zw zz)) cL bl
 clear cL bl
 refine⟨(hN.sb [1,2,3,4,5,6,7,8,9,10,11,12,13,14,15,16,17,18,19,20,21,22,23,24]),?_⟩
 refine RQ.dQ rfl (ey.ev (kz acW ady aeq (hN.sl 0 rfl) rfl) ⟨(hN.sb [1,2,3,4,5,6,7,8,9,10,11,12,13,14,15,16,17,18,19,20,21,22,23,24]),?_⟩)
 refine RQ.aR rfl (fun w hS=>(uR rfl rfl)) (RQ.an (v:=.bool (decide (¬(dC (gT n8 M6 Md L2 AS rI nr rp zw zz))=l))) rfl (fun w hS=>(aB)) (RQ.bq (aA ?_)))
 refine RW.aG _ (fun fx=>?_) (fun fx=>?_)
 refine RW.aN (RL.ag (bR (cs:=[.int .i64 (0),vN,vN,vN,vN,vN,vN,vN,vN,vN]) acO fM (places:=#[(0,2),(2,2),(4,6)]) (by intro w;kernel_rfl) (pl:=[]) rfl (ps:=[]) rfl (zc:=[.int .i64 (0),vN,vN,vN,vN,vN,vN,vN,vN,vN]) rfl rfl) ?_)
 refine RL.aL (aS (vs:=[.int .i64 (0),vN,vN,vN,vN,vN,vN,vN,vN,vN]) eR rfl rfl rfl (bh (bh (bh (bh (bh (bh (bh (bh (bh (bh cZ)))))))))) hN 24 rfl rfl ?_)
 clear hN
 intro L7 (hN:aH w none_ L7 [_,_,_,_,_,_,_,_,_,_,_,_,_,_,_,_,_,_,_,_,_,_,_,_,_])
 refine RL.ag (v:=.int .i64 (5)) ai (RL.ak (RW.ret (aU (bc (RV.eo rfl rfl (dG (hN.aJ 24 rfl) acO rfl eR)) ?_))))
 rw[VJ,if_neg (fun h_=>fx h_.2)]
 exact⟨rfl,hN.aX⟩
 refine RW.skip (aA (RW.aN (RL.ag (aE (cs:=[.int .i64 (n8),v8,y5,yX,r8,r9,rS,rW,mF,mG]) acO eR (hN.aJ 1 rfl)) ?_)))
 refine RL.aL (aS (vs:=[.int .i64 (n8),v8,y5,yX,r8,r9,rS,rW,mF,mG]) eR rfl rfl rfl (by intro u hu;simp only[ac6,ac0,or_false]at hu;rcases hu with rfl|rfl|rfl|rfl|rfl|rfl|rfl|rfl|rfl|rfl<;>first|rfl|exact(hN.sl 11 rfl).bT|exact(hN.sl 15 rfl).bT|exact(hN.sl 2 rfl).bT|exact(hN.sl 3 rfl).bT|exact(hN.sl 5 rfl).bT|exact(hN.sl 7 rfl).bT|exact(hN.sl 9 rfl).bT|exact(hN.sm 16 rfl).bT|exact(hN.sm 19 rfl).bT) hN 24 rfl rfl ?_)
 clear hN
 intro FO (hN:aH w none_ FO [_,_,_,_,_,_,_,_,_,_,_,_,_,_,_,_,_,_,_,_,_,_,_,_,_])
 refine RL.ag (v:=.int .i64 (0)) ai (RL.ak (RW.ret (bc (RV.eo rfl rfl (dG (hN.aJ 24 rfl) acO rfl eR)) ?_)))
 rw[VJ,if_pos ⟨acX.1 Kb,acX.1 fx⟩]
 exact⟨_,_,_,_,_,_,_,_,_,_,_,_,_,_,rfl,hN.sb [19,15,16,2,3,4,5,6,7,8,9,10,11,12]⟩
end Go.Proofs.YtngkdkbpgoddlaaGreat
namespace Go.Proofs.YtngkdkbpgoddlaaGreat
open Go.RowKit Go.Rl
open Go.Gr Go.dj Go.jR
end Go.Proofs.YtngkdkbpgoddlaaGreat
namespace Go.Proofs.YtngkdkbpgoddlaaGreat
open Go.RowKit Go.Rl
open Go.Gr Go.dj Go.jR
end Go.Proofs.YtngkdkbpgoddlaaGreat
namespace Go.Proofs.YtngkdkbpgoddlaaGreat
open Go.RowKit Go.Rl
open Go.Gr Go.dj Go.jR
end Go.Proofs.YtngkdkbpgoddlaaGreat
namespace Go.Proofs.YtngkdkbpgoddlaaGreat
open Go.RowKit Go.Rl
open Go.Gr Go.dj Go.jR
end Go.Proofs.YtngkdkbpgoddlaaGreat
namespace Go.Proofs.YtngkdkbpgoddlaaGreat
open Go.RowKit Go.Rl
open Go.Gr Go.dj Go.jR
end Go.Proofs.YtngkdkbpgoddlaaGreat
namespace Go.Gr
open Go.Rl Go.dj Go.jR
end Go.Gr
namespace Go.Proofs.YtngkdkbpgoddlaaGreat
open Go.RowKit Go.Rl
open Go.Gr Go.dj Go.jR
end Go.Proofs.YtngkdkbpgoddlaaGreat
namespace Go.Proofs.YtngkdkbpgoddlaaGreat
open Go.RowKit Go.Rl
open Go.Gr Go.dj Go.jR
end Go.Proofs.YtngkdkbpgoddlaaGreat
namespace Go.Proofs.YtngkdkbpgoddlaaGreat
open Go.RowKit Go.Rl
open Go.Gr Go.dj Go.jR
end Go.Proofs.YtngkdkbpgoddlaaGreat
namespace Go.Proofs.YtngkdkbpgoddlaaGreat
open Go.RowKit Go.Rl
open Go.Gr Go.dj Go.jR
end Go.Proofs.YtngkdkbpgoddlaaGreat
namespace Go.Proofs.YtngkdkbpgoddlaaGreat
open Go.RowKit Go.Rl
open Go.Gr Go.dj Go.jR
def oU (b:List UInt8):List UInt8:=(cP b).headD []
def pz (b:List UInt8):Prop:=(cP b).length=4∧(oU b).length=11∧(oU b).take 3=[80,82,49]
instance (b:List UInt8):Decidable (pz b):=inferInstanceAs (Decidable (_∧_))
def nq (b:List UInt8):Nat:=if pz b then le ((oU b).drop 3)else 0
theorem qA {b:List UInt8} (h:¬pz b):nq b=0:=if_neg h
theorem wJ {b p:List UInt8} (h4:(cP b).length=4) (h0:(cP b)[0]?=some p) (hl:p.length=11) (ht:p.take 3=[80,82,49]):nq b=le (p.drop 3):=by
  have e:oU b=p:=by
    unfold oU
    match hq:cP b,h0 with
    |a::r,h0=>cases h0;rfl
  unfold nq
  rw[if_pos (show pz b from by unfold pz;rw[e];exact⟨h4,hl,ht⟩),e]
theorem Ls {b p:List UInt8} (h0:(cP b)[0]?=some p):oU b=p:=by
  unfold oU
  match hq:cP b,h0 with
  |a::r,h0=>cases h0;rfl
theorem NW {p:List UInt8} (h:p.length=11):(jM ((p.drop 3),0) 8).2=le (p.drop 3):=by
  have hl:(p.drop 3).length=8:=by rw[adj,h]
  show le (fj ((p.drop 3),0) 8).2=_
  rw[ng rfl (ag3 hl.symm)]
  rw[ac2 (ag3 hl)]
theorem ye (v:Value) (l:List UInt8) (w:World) (hv:Sl vb w v l) (hl:l.length≤1048576):aM acD 21 #[v] w fun r w'=>r=.int .u64 ((nq l:Nat):Int)∧Ext w w':=by
 refine aM.aZ aiX ?_
 rw[cH]
 have hN:=aH.nil w none_
 refine RW.aN (RL.ag (v:=.int .u64 (0)) ai (RL.bY (RL.ag (v:=v) U ?_)))
 refine RL.aL (bo af7 rfl rfl rfl ((jK _ l _ (hv.ext hN.aX) hl).mono ?_))
 rintro v1 w1 ⟨lk,cE⟩
 replace hN:aH w none_ w1 [_,_]:=hN.fG cE
 clear cE
 refine RL.ag (v:=v1) ai ?_
 have OZ:=(hN.fR 1 rfl).1
 refine RL.ak ?_
 iterate 2 refine RW.seq ?_
 refine RW.region (RL.ag (v:=v1) U ?_)
 have iH:=(hN.sl 0 rfl).bw
 refine RL.ag (aQ adL (hN.sl 0 rfl)) (RL.ag (bj) (RL.ag (v:=.bool (decide (¬(lk.length:Int)=4))) U ?_))
 by_cases h4:¬(lk.length:Int)=4
 rw[decide_eq_true h4]
 iterate 5 refine RL.bH ?_
 refine RL.ag (v:=.bool true) (al) (RL.ag (v:=.bool true) U ?_)
 iterate 6 refine RL.bH ?_
 refine RL.ag (v:=.bool true) (al) (RL.ak (RW.bD (RW.aN (RL.ag (v:=.int .u64 (0)) ai (RL.ak (RW.ret ?_))))))
 refine aU (bc (RV.tmp rfl) ?_)
 rw[qA (fun h_=>h4 (by have:=h_.1;omega))]
 exact⟨rfl,hN.aX⟩
 rw[decide_eq_false h4]
 have aO:=cQ lk 0
 obtain⟨h0,Fc⟩:=aO
 have aO:=cQ (cP l) 0
 obtain⟨p,hp⟩:=aO
 have Oj:=mb (acC hp)
 have Ql:=Ls hp
 refine RL.aw (v:=v1) U (RL.aw (aC adL lY (hN.sl 0 rfl)) (RL.aw (aF (m:=0) (a:=h0) acW (hN.sl 0 rfl) Fc) ?_))
 have r7:=((hN.fR 1 rfl).2 _ _ _ Fc hp).1.bw
 refine RL.aw (jq acW ((hN.fR 1 rfl).2 _ _ _ Fc hp).1 rfl) (RL.aw (bj) (RL.ag (v:=.bool (decide (¬(p.length:Int)=11))) (aB) (RL.ag (v:=.bool (decide (¬(p.length:Int)=11))) U ?_)))
 by_cases yy:¬(p.length:Int)=11
 rw[decide_eq_true yy]
 iterate 6 refine RL.bH ?_
 refine RL.ag (v:=.bool true) (al) (RL.ak (RW.bD (RW.aN (RL.ag (v:=.int .u64 (0)) ai (RL.ak (RW.ret ?_))))))
 refine aU (bc (RV.tmp rfl) ?_)
 rw[qA (fun h_=>yy (by have:=h_.2.1;rw[Ql]at this;omega))]
 exact⟨rfl,hN.aX⟩
 rw[decide_eq_false yy]
 refine RL.aw (v:=v1) U (RL.aw (aC adL lY (hN.sl 0 rfl)) (RL.aw (aF (m:=0) (a:=h0) acW (hN.sl 0 rfl) Fc) (RL.aw (nM acW sX ((hN.fR 1 rfl).2 _ _ _ Fc hp).1 rfl rfl (by omega) (by omega)) (RL.aw (kz acW ady aeq (((hN.fR 1 rfl).2 _ _ _ Fc hp).1.rL (by omega)) rfl) (RL.aw (uR rfl rfl) (RL.ag (v:=.bool (decide (¬(p.take 3)=[80,82,49]))) (aB) (RL.ak ?_)))))))
 refine RW.aG _ (fun UY=>?_) (fun UY=>?_)
 refine RW.aN (RL.ag (v:=.int .u64 (0)) ai (RL.ak (RW.ret (aU (bc (RV.tmp rfl) ?_)))))
 rw[qA (fun h_=>UY (by have:=h_.2.2;rw[Ql]at this;exact this))]
 exact⟨rfl,hN.aX⟩
 refine RW.skip (aA (RW.seq ?_))
 have aaP:(p.drop 3).length=8:=by rw[adj];omega
 refine RW.region (RL.ag (v:=v1) U (RL.ag (aC adL lY (hN.sl 0 rfl)) (RL.ag (aF (m:=0) (a:=h0) acW (hN.sl 0 rfl) Fc) (RL.ag (kB acW sX ((hN.fR 1 rfl).2 _ _ _ Fc hp).1 rfl rfl (by omega) (by omega)) ?_))))
 refine RL.aL (bo agF rfl rfl rfl ((nY _ (p.drop 3) _ (((hN.fR 1 rfl).2 _ _ _ Fc hp).1.kX (by omega)) (by omega)).mono ?_))
 rintro _ w7 ⟨g7,rfl,lS,bl⟩
 have DV:=xL hN lS bl
 clear lS bl
 generalize aag:(w1).heap.size=Tz at DV
 generalize aaH:(w7).heap.size=TL at DV
 clear hN
 have hN:aH w none_ w7 [_,_,_]:=DV
 clear DV
 refine RL.aL (bu agG rfl rfl rfl rfl ((NT (dF.says hN 0 rfl) (show clip 8=8 from rfl) (eta (jM ((p.drop 3),0) 8))).mono ?_))
 rintro _ w8 ⟨rfl,lS,Mv,_⟩
 replace hN:aH w none_ w8 [_,_,_]:=Dt hN 0 rfl lS Mv
 clear lS Mv
 refine RL.ag (v:=.int .u64 (((jM ((p.drop 3),0) 8).2:Int))) ai (RL.ak (RW.ret (bc (RV.tmp rfl) ?_)))
 rw[wJ (by omega) hp (by omega) (acX.1 UY),←NW (by omega)]
 exact⟨rfl,hN.aX⟩
end Go.Proofs.YtngkdkbpgoddlaaGreat
namespace Go.Proofs.YtngkdkbpgoddlaaGreat
open Go.RowKit Go.Rl
open Go.Gr Go.dj Go.jR
def oF (x:qg):Prop:=60<x.ar.length∨14<x.rk.length∨90<x.ws.length∨900<wr (DE x:Int)
instance (x:qg):Decidable (oF x):=inferInstanceAs (Decidable (_∨_))
theorem tV {x:qg} (h:60<x.ar.length∨14<x.rk.length∨90<x.ws.length):oF x:=h.elim .inl fun h=>h.elim (fun h=>.inr (.inl h)) fun h=>.inr (.inr (.inl h))
theorem EZ {x:qg} (h1:¬60<x.ar.length) (h2:¬14<x.rk.length) (h3:¬90<x.ws.length):900<wr (DE x:Int)↔oF x:=
  ⟨fun h=>.inr (.inr (.inr h)),fun h=>h.elim (fun h=>absurd h h1) fun h=>h.elim (fun h=>absurd h h2) fun h=>h.elim (fun h=>absurd h h3) id⟩
theorem pK (x:qg) (v rv wv gv fv ov iv cW cX:Value) (hf ho hi gM gI:List Hd) (w:World) (hv:Sm bC w v x.ar) (hr:Sl vI w rv x.rk) (hw:Sm aV w wv x.ws) (hT:qe none_ w gv x.g fv hf x.far ov ho x.outs iv hi x.ins cW gM x.so cX gI x.si):aM acD 17 #[.agg #[.int .i64 x.n,v,rv,wv,gv,fv,ov,iv,cW,cX]] w fun r w'=>r=.bool (decide (oF x))∧Ext w w':=by
 refine aM.aZ aiY ?_
 rw[cH]
 have hN:=aH.nil w none_
 refine RW.aN ?_
 refine RL.aL (bJ (cs:=[.int .i64 (x.n),v,rv,wv,gv,fv,ov,iv,cW,cX]) rfl rfl hN ?_)
 clear hN
 intro g1 w1 (hN:aH w none_ w1 [_])
 refine RL.ag (v:=.bool false) ai (RL.bY (RL.ag (ah acO rfl dw) (RL.ag (ah acJ rfl eZ) (RL.ag (aj acP (hN.aJ 0 rfl)) ?_))))
 have iH:=(hv.o.now hN).bw
 refine RL.ag (bO acP (hv.o.now hN)) (RL.ag (cq) (RL.ag (v:=.bool (decide (60<(x.ar.length:Int)))) U ?_))
 by_cases ha:60<(x.ar.length:Int)
 rw[decide_eq_true ha]
 iterate 5 refine RL.bH ?_
 refine RL.ag (v:=.bool true) (al) (RL.ag (v:=.bool true) U ?_)
 iterate 5 refine RL.bH ?_
 refine RL.ag (v:=.bool true) (al) (RL.ag (v:=.bool true) U ?_)
 iterate 4 refine RL.bH ?_
 refine RL.ag (v:=.bool true) (al) (RL.ag (v:=.bool true) ai (RL.ak (RW.ret (bc (RV.tmp rfl) ?_))))
 exact⟨congrArg acV (decide_eq_true (tV (by omega))).symm,hN.aX⟩
 rw[decide_eq_false ha]
 refine RL.aw (ah acO rfl dq) (RL.aw (ah acE rfl cc) (RL.aw (aj acz (hN.aJ 0 rfl)) ?_))
 have kH:=(hr.o.now hN).bw
 refine RL.aw (aQ acz (hr.o.now hN)) (RL.aw (cq) (RL.ag (v:=.bool (decide (14<(x.rk.length:Int)))) (aB) (RL.ag (v:=.bool (decide (14<(x.rk.length:Int)))) U ?_)))
 by_cases hb:14<(x.rk.length:Int)
 rw[decide_eq_true hb]
 iterate 5 refine RL.bH ?_
 refine RL.ag (v:=.bool true) (al) (RL.ag (v:=.bool true) U ?_)
 iterate 4 refine RL.bH ?_
 refine RL.ag (v:=.bool true) (al) (RL.ag (v:=.bool true) ai (RL.ak (RW.ret (bc (RV.tmp rfl) ?_))))
 exact⟨congrArg acV (decide_eq_true (tV (by omega))).symm,hN.aX⟩
 rw[decide_eq_false hb]
 refine RL.aw (ah acO rfl dq) (RL.aw (ah acE rfl eF) (RL.aw (aj acL (hN.aJ 0 rfl)) ?_))
 have r7:=(hw.o.now hN).bw
 refine RL.aw (bO acL (hw.o.now hN)) (RL.aw (cq) (RL.ag (v:=.bool (decide (90<(x.ws.length:Int)))) (aB) (RL.ag (v:=.bool (decide (90<(x.ws.length:Int)))) U ?_)))
 by_cases hc:90<(x.ws.length:Int)
 rw[decide_eq_true hc]
 iterate 4 refine RL.bH ?_
 refine RL.ag (v:=.bool true) (al) (RL.ag (v:=.bool true) ai (RL.ak (RW.ret (bc (RV.tmp rfl) ?_))))
 exact⟨congrArg acV (decide_eq_true (tV (by omega))).symm,hN.aX⟩
 rw[decide_eq_false hc]
 refine RL.aw (ah acO rfl iA) (RL.aw (du (cs:=[.int .i64 (x.n),v,rv,wv,gv,fv,ov,iv,cW,cX]) (j:=4) (m:=6) acR rfl iA rfl (hN.aJ 0 rfl) (acA rfl)) ?_)
 refine RL.er (bo Tryz.func47 rfl rfl rfl ((yd _ _ _ _ _ _ x.g x.far x.outs x.ins x.so x.si _ _ _ _ _ _ (hT.ext hN.aX)).mono ?_))
 rintro _ w5 ⟨rfl,bl⟩
 replace hN:=hN.ext bl
 clear bl
 refine RL.aw (cq) (RL.ag (v:=.bool (decide (900<(wr (DE x:Int))))) (aB) (RL.ag (v:=.bool (decide (900<(wr (DE x:Int))))) ai (RL.ak (RW.ret (bc (RV.tmp rfl) ?_)))))
 exact⟨congrArg acV (decide_eq_decide.2 (EZ (by omega) (by omega) (by omega))),hN.aX⟩
theorem ot (n:Int) (ar:List I3) (v rv wv gv fv ov iv cW cX:Value) (w:World) (hv:Sm bC w v ar) (ff:dU n ar=0):aM acD 23 #[.agg #[.int .i64 n,v,rv,wv,gv,fv,ov,iv,cW,cX]] w fun r w'=>r=.int .u64 ((jg n ar).toNat:Int)∧Ext w w':=by
 refine aM.aZ aiZ ?_
 rw[cH]
 have hN:=aH.nil w none_
 refine RW.aN ?_
 refine RL.aL (bJ (cs:=[.int .i64 (n),v,rv,wv,gv,fv,ov,iv,cW,cX]) rfl rfl hN ?_)
 clear hN
 intro g1 w1 (hN:aH w none_ w1 [_])
 refine RL.ag (v:=.int .u64 (0)) ai (RL.bY (RL.ag (ah acO rfl dw) (RL.ag (du (cs:=[.int .i64 (n),v,rv,wv,gv,fv,ov,iv,cW,cX]) (j:=0) (m:=2) acJ rfl dw rfl (hN.aJ 0 rfl) (acA rfl)) ?_)))
 refine RL.aL (bo aiP rfl rfl rfl ((uO (n) _ ar _ (hv.o.now hN) ff).mono ?_))
 rintro _ w2 ⟨Ue,rfl,cL,bl⟩
 replace hN:aH w none_ w2 [_,_]:=hN.cl cL bl
 clear cL bl
 refine RL.ag (v:=.tuple #[.agg #[.int .i64 (n),v,Ue],.bool true]) U ?_
 iterate 2 refine RL.ag (bE) ?_
 refine RL.aL (bz (cs:=[.int .i64 (0),vN,vN]) pd rfl hN ?_)
 clear hN
 intro g3 w3 (hN:aH w none_ w3 [_,_,_])
 refine RL.aL (aS (vs:=[.int .i64 (n),v,Ue]) oo rfl rfl rfl (by intro u hu;simp only[ac6,ac0,or_false]at hu;rcases hu with rfl|rfl|rfl<;>first|rfl|exact(hN.sl 1 rfl).bT|exact(hv.o.now hN).bT) hN 0 rfl rfl ?_)
 clear hN
 intro w4 (hN:aH w none_ w4 [_,_,_])
 refine RL.ag (v:=.bool true) ai (RL.bY (RL.ag (aE (cs:=[.int .i64 (n),v,Ue]) adt oo (hN.aJ 0 rfl)) ?_))
 refine RL.aL (bo Tryz.func59 rfl rfl rfl ((yA (n) _ _ ar _ (hv.o.now hN)).mono ?_))
 rintro _ w5 ⟨rfl,bl⟩
 replace hN:=hN.ext bl
 clear bl
 refine RL.ag (v:=.int .u64 (((jg (n) ar).toNat:Int))) ai (RL.ak (RW.ret (bc (RV.tmp rfl) ?_)))
 exact⟨rfl,hN.aX⟩
theorem tF {x:qg} (hm:fO (iJ x)<4294967296) (ff:dU x.n x.ar=0):nq (dC (iJ x))=(jg x.n x.ar).toNat:=by
  have e1:=km (iJ x) (by rw[fZ];exact hm)
  have hl:=(jg x.n x.ar).isLt
  have e:j3 x.n x.ar=[80,82,49]++put (jg x.n x.ar).toNat 8:=AH ff
  rw[wJ (p:=j3 x.n x.ar) (by rw[e1];rfl) (by rw[e1];rfl) (qJ _ _) (by rw[e];rfl),e]
  show le (put (jg x.n x.ar).toNat 8)=_
  rw[Co]
  exact afG (by omega)
theorem wY (v:Value) (l:List UInt8) (w:World) (hv:Sl vb w v l) (hl:l.length≤1048576) {m:Nat} (h:nq l=m):aM acD 21 #[v] w fun r w'=>r=.int .u64 (m:Int)∧Ext w w':=(ye v l w hv hl).mono fun _ _ k=>by rw[h]at k;exact k
end Go.Proofs.YtngkdkbpgoddlaaGreat
namespace Go.Proofs.YtngkdkbpgoddlaaGreat
open Go.RowKit Go.Rl
open Go.Gr
theorem HG {a b:I2}:(a.1=b.1∧a.2=b.2)↔a=b:=⟨fun h=>ad1 h.1 h.2,fun h=>by rw[h];exact⟨rfl,rfl⟩⟩
theorem HF {a b:I3}:(a.1=b.1∧a.2.1=b.2.1∧a.2.2=b.2.2)↔a=b:=⟨fun h=>ad1 h.1 (ad1 h.2.1 h.2.2),fun h=>by rw[h];exact⟨rfl,rfl,rfl⟩⟩
theorem HE {a b:I5}:(a.1=b.1∧a.2.1=b.2.1∧a.2.2.1=b.2.2.1∧a.2.2.2.1=b.2.2.2.1∧a.2.2.2.2=b.2.2.2.2)↔a=b:=⟨fun h=>ad1 h.1 (ad1 h.2.1 (ad1 h.2.2.1 (ad1 h.2.2.2.1 h.2.2.2.2))),fun h=>by rw[h];exact⟨rfl,rfl,rfl,rfl,rfl⟩⟩
theorem vq (av bv:Value) (a b:List I2) (w:World) (ha:Sm bG w av a) (hb:Sm bG w bv b):aM acD 154 #[av,bv] w fun r w'=>r=.bool (decide (a=b))∧Ext w w':=by
 refine aM.aZ aki ?_
 rw[cS]
 have hN:=aH.nil w none_
 refine RW.aN (RL.ag (v:=.bool false) ai (RL.ak ?_))
 iterate 2 refine RW.seq ?_
 refine RW.region (RL.ag (v:=av) U ?_)
 have nJ:=(ha.o.now hN).bw
 refine RL.ag (bO ac1 (ha.o.now hN)) (RL.ag (v:=bv) U ?_)
 have iH:=(hb.o.now hN).bw
 refine RL.ag (bO ac1 (hb.o.now hN)) (RL.ag (bj) (RL.ak ?_))
 refine RW.aG _ (fun dX=>?_) (fun dX=>?_)
 refine RW.aN (RL.ag (v:=.bool false) ai (RL.ak (RW.ret (aU (bc (RV.tmp rfl) ?_)))))
 exact⟨congrArg acV (decide_eq_false (fun e:a=b=>dX (by rw[e]))).symm,hN.aX⟩
 refine RW.skip (aA ?_)
 iterate 2 refine RW.seq ?_
 refine RW.region (RL.ag (v:=.int .i64 (0)) ai (RL.ak (RW.block ?_)))
 refine RW.loop (fun k R0 cv=>∃i:Nat,R0 0=av∧R0 1=bv∧R0 5=vJ i∧aH w none_ cv []∧(i+k=a.length)∧(a.length=b.length)∧(a.take i=b.take i)) (a.length) ?_ ?_
 exact⟨0,rfl,rfl,rfl,hN,by omega,by omega,rfl⟩
 clear hN
 rintro k R0 cv ⟨i,cF,bN,cy,hN,fP,Mk,ht⟩
 have cz:=k5 cF bN cy
 obtain⟨fV,rfl⟩:=cz
 clear cF bN cy
 iterate 2 refine RW.seq ?_
 refine RW.region (RL.ag (v:=vJ i) U (RL.ag (v:=av) U (RL.ag (bO ac1 (ha.o.now hN)) (RL.ag (aK) (RL.ak ?_)))))
 refine RW.aG _ (fun cD=>?_) (fun cD=>?_)
 refine RW.skip (aA (RW.seq (RW.block (RW.seq ?_))))
 replace hN:=hN.ext (Ext.drew cv)
 refine RW.bA (fun u=>aH w none_ u []) 9 [(0,0),(1,0),(2,0),(3,0),(4,0),(5,0),(6,0),(7,0),(8,0)] (by intro _ _ _ h;exact h) hN (RQ.an (v:=av) rfl (fun w hS=>U) (RQ.an (v:=vJ i) rfl (fun w hS=>U) (RQ.an rfl (fun w hS=>(aT ac1 dY bp (ha.o.now hS))) ?_)))
 have aO:=cQ (a) i
 obtain⟨ap,bV⟩:=aO
 refine RQ.an rfl (fun w hS=>(b0 (m:=i) (a:=ap) acY dY bp (ha.o.now hS) bV (cs:=[.int .i64 (ap.1),.int .i64 (ap.2)]))) (RQ.an (v:=bv) rfl (fun w hS=>U) (RQ.an (v:=vJ i) rfl (fun w hS=>U) (RQ.an rfl (fun w hS=>(aT ac1 dY bp (hb.o.now hS))) ?_)))
 have aO:=cQ (b) i
 obtain⟨aq,ir⟩:=aO
 refine RQ.an rfl (fun w hS=>(b0 (m:=i) (a:=aq) acY dY bp (hb.o.now hS) ir (cs:=[.int .i64 (aq.1),.int .i64 (aq.2)]))) (RQ.an rfl (fun w hS=>(p8 (p:=ap.1=aq.1∧ap.2=aq.2) rfl rfl (by kernel_rfl) (mW.iff (mW.struct acY (by kernel_rfl) rfl (qm.cons (by decide) (dz.leaf acy rfl) (dz.leaf acy rfl) (mW.int acy) (qm.cons (by decide) (dz.leaf acy rfl) (dz.leaf acy rfl) (mW.int acy) qm.nil))) (by simp only[adk,decide_eq_true_eq,and_true])))) (RQ.bq (aA ?_)))
 refine RW.aG _ (fun j8=>?_) (fun j8=>?_)
 refine RW.aN (RL.ag (v:=.bool false) ai (RL.ak (RW.ret (bb ?_))))
 iterate 2 refine aU ?_
 refine bb (aU (bc (RV.tmp rfl) ?_))
 exact⟨congrArg acV (decide_eq_false (fun e:a=b=>j8 (by subst e;rw[bV]at ir;exact HG.2 (ac7 ir)))).symm,hN.aX⟩
 refine RW.skip (ba (aA (RW.region (RL.ag (v:=vJ i) U (RL.ag (aD rfl rfl rfl (bg (by omega) (by omega))) (RL.ag (v:=.int .i64 ((i:Int)+1)) ai (RL.ak ?_)))))))
 exact⟨k-1,by omega,i+1,rfl,rfl,rfl,hN,by omega,by omega,by rw[dJ bV,dJ ir,ht,HG.1 (acX.1 j8)]⟩
 refine RW.exit ?_
 iterate 2 refine bP ?_
 refine aY (aA (RW.aN (RL.ag (v:=.bool true) ai (RL.ak (RW.ret (bc (RV.tmp rfl) ?_))))))
 rw[show i=a.length by omega,adm,ac2 (by omega)]at ht
 exact⟨congrArg acV (decide_eq_true ht).symm,hN.aX⟩
theorem th (av bv:Value) (a b:List I5) (w:World) (ha:Sm aV w av a) (hb:Sm aV w bv b):aM acD 87 #[av,bv] w fun r w'=>r=.bool (decide (a=b))∧Ext w w':=by
 refine aM.aZ Tryz.func87 ?_
 rw[cS]
 have hN:=aH.nil w none_
 refine RW.aN (RL.ag (v:=.bool false) ai (RL.ak ?_))
 iterate 2 refine RW.seq ?_
 refine RW.region (RL.ag (v:=av) U ?_)
 have nJ:=(ha.o.now hN).bw
 refine RL.ag (bO acL (ha.o.now hN)) (RL.ag (v:=bv) U ?_)
 have iH:=(hb.o.now hN).bw
 refine RL.ag (bO acL (hb.o.now hN)) (RL.ag (bj) (RL.ak ?_))
 refine RW.aG _ (fun dX=>?_) (fun dX=>?_)
 refine RW.aN (RL.ag (v:=.bool false) ai (RL.ak (RW.ret (aU (bc (RV.tmp rfl) ?_)))))
 exact⟨congrArg acV (decide_eq_false (fun e:a=b=>dX (by rw[e]))).symm,hN.aX⟩
 refine RW.skip (aA ?_)
 iterate 2 refine RW.seq ?_
 refine RW.region (RL.ag (v:=.int .i64 (0)) ai (RL.ak (RW.block ?_)))
 refine RW.loop (fun k R0 cv=>∃i:Nat,R0 0=av∧R0 1=bv∧R0 5=vJ i∧aH w none_ cv []∧(i+k=a.length)∧(a.length=b.length)∧(a.take i=b.take i)) (a.length) ?_ ?_
 exact⟨0,rfl,rfl,rfl,hN,by omega,by omega,rfl⟩
 clear hN
 rintro k R0 cv ⟨i,cF,bN,cy,hN,fP,Mk,ht⟩
 have cz:=k5 cF bN cy
 obtain⟨fV,rfl⟩:=cz
 clear cF bN cy
 iterate 2 refine RW.seq ?_
 refine RW.region (RL.ag (v:=vJ i) U (RL.ag (v:=av) U (RL.ag (bO acL (ha.o.now hN)) (RL.ag (aK) (RL.ak ?_)))))
 refine RW.aG _ (fun cD=>?_) (fun cD=>?_)
 refine RW.skip (aA (RW.seq (RW.block (RW.seq ?_))))
 replace hN:=hN.ext (Ext.drew cv)
 refine RW.bA (fun u=>aH w none_ u []) 9 [(0,0),(1,0),(2,0),(3,0),(4,0),(5,0),(6,0),(7,0),(8,0)] (by intro _ _ _ h;exact h) hN (RQ.an (v:=av) rfl (fun w hS=>U) (RQ.an (v:=vJ i) rfl (fun w hS=>U) (RQ.an rfl (fun w hS=>(aT acL eh aI (ha.o.now hS))) ?_)))
 have aO:=cQ (a) i
 obtain⟨ap,bV⟩:=aO
 refine RQ.an rfl (fun w hS=>(b0 (m:=i) (a:=ap) acG eh aI (ha.o.now hS) bV (cs:=[.int .i64 (ap.1),.int .i64 (ap.2.1),.int .i64 (ap.2.2.1),.int .i64 (ap.2.2.2.1),.int .i64 (ap.2.2.2.2)]))) (RQ.an (v:=bv) rfl (fun w hS=>U) (RQ.an (v:=vJ i) rfl (fun w hS=>U) (RQ.an rfl (fun w hS=>(aT acL eh aI (hb.o.now hS))) ?_)))
 have aO:=cQ (b) i
 obtain⟨aq,ir⟩:=aO
 refine RQ.an rfl (fun w hS=>(b0 (m:=i) (a:=aq) acG eh aI (hb.o.now hS) ir (cs:=[.int .i64 (aq.1),.int .i64 (aq.2.1),.int .i64 (aq.2.2.1),.int .i64 (aq.2.2.2.1),.int .i64 (aq.2.2.2.2)]))) (RQ.an rfl (fun w hS=>(p8 (p:=ap.1=aq.1∧ap.2.1=aq.2.1∧ap.2.2.1=aq.2.2.1∧ap.2.2.2.1=aq.2.2.2.1∧ap.2.2.2.2=aq.2.2.2.2) rfl rfl (by kernel_rfl) (mW.iff (mW.struct acG (by kernel_rfl) rfl (qm.cons (by decide) (dz.leaf acy rfl) (dz.leaf acy rfl) (mW.int acy) (qm.cons (by decide) (dz.leaf acy rfl) (dz.leaf acy rfl) (mW.int acy) (qm.cons (by decide) (dz.agg acN cT rfl) (dz.agg acN cT rfl) (mW.struct acN (by kernel_rfl) rfl (qm.cons (by decide) (dz.leaf acy rfl) (dz.leaf acy rfl) (mW.int acy) (qm.cons (by decide) (dz.leaf acy rfl) (dz.leaf acy rfl) (mW.int acy) (qm.cons (by decide) (dz.leaf acy rfl) (dz.leaf acy rfl) (mW.int acy) qm.nil)))) qm.nil)))) (by simp only[adk,decide_eq_true_eq,and_true])))) (RQ.bq (aA ?_)))
 refine RW.aG _ (fun j8=>?_) (fun j8=>?_)
 refine RW.aN (RL.ag (v:=.bool false) ai (RL.ak (RW.ret (bb ?_))))
 iterate 2 refine aU ?_
 refine bb (aU (bc (RV.tmp rfl) ?_))
 exact⟨congrArg acV (decide_eq_false (fun e:a=b=>j8 (by subst e;rw[bV]at ir;exact HE.2 (ac7 ir)))).symm,hN.aX⟩
 refine RW.skip (ba (aA (RW.region (RL.ag (v:=vJ i) U (RL.ag (aD rfl rfl rfl (bg (by omega) (by omega))) (RL.ag (v:=.int .i64 ((i:Int)+1)) ai (RL.ak ?_)))))))
 exact⟨k-1,by omega,i+1,rfl,rfl,rfl,hN,by omega,by omega,by rw[dJ bV,dJ ir,ht,HE.1 (acX.1 j8)]⟩
 refine RW.exit ?_
 iterate 2 refine bP ?_
 refine aY (aA (RW.aN (RL.ag (v:=.bool true) ai (RL.ak (RW.ret (bc (RV.tmp rfl) ?_))))))
 rw[show i=a.length by omega,adm,ac2 (by omega)]at ht
 exact⟨congrArg acV (decide_eq_true ht).symm,hN.aX⟩
theorem vu (n m:Int) (av bv:Value) (a b:List I3) (w:World) (ha:Sm bC w av a) (hb:Sm bC w bv b):aM acD 33 #[.agg #[.int .i64 n,av],.agg #[.int .i64 m,bv]] w fun r w'=>r=.bool (decide (n=m∧a=b))∧Ext w w':=by
 refine aM.aZ Tryz.func33 ?_
 rw[cS]
 have hN:=aH.nil w none_
 refine RW.aN ?_
 refine RL.aL (bJ (cs:=[.int .i64 (n),av]) rfl rfl hN ?_)
 clear hN
 intro g1 w1 (hN:aH w none_ w1 [_])
 refine RL.aL (bJ (cs:=[.int .i64 (m),bv]) rfl rfl hN ?_)
 clear hN
 intro g2 w2 (hN:aH w none_ w2 [_,_])
 refine RL.ag (v:=.bool false) ai (RL.ak ?_)
 iterate 2 refine RW.seq ?_
 refine RW.region (RL.ag (ah acJ rfl bI) (RL.ag (aj acy (hN.aJ 1 rfl)) (RL.ag (ah acJ rfl bI) (RL.ag (aj acy (hN.aJ 0 rfl)) (RL.ag (bj) (RL.ag (v:=.bool (decide (¬n=m))) U ?_))))))
 by_cases rE:¬n=m
 rw[decide_eq_true rE]
 iterate 7 refine RL.bH ?_
 refine RL.ag (v:=.bool true) (al) (RL.ak (RW.bD (RW.aN (RL.ag (v:=.bool false) ai (RL.ak (RW.ret ?_))))))
 refine aU (bc (RV.tmp rfl) ?_)
 exact⟨congrArg acV (decide_eq_false (fun e:n=m∧a=b=>by obtain⟨e1,e2⟩:=e;have e3:=congrArg adQ e2;first|contradiction|omega)).symm,hN.aX⟩
 rw[decide_eq_false rE]
 refine RL.aw (ah acJ rfl eZ) (RL.aw (aj acP (hN.aJ 1 rfl)) ?_)
 have kH:=(ha.o.now hN).bw
 refine RL.aw (bO acP (ha.o.now hN)) (RL.aw (ah acJ rfl eZ) (RL.aw (aj acP (hN.aJ 0 rfl)) ?_))
 have r7:=(hb.o.now hN).bw
 refine RL.aw (bO acP (hb.o.now hN)) (RL.aw (bj) (RL.ag (v:=.bool (decide (¬(a.length:Int)=(b.length:Int)))) (aB) (RL.ak ?_)))
 refine RW.aG _ (fun dX=>?_) (fun dX=>?_)
 refine RW.aN (RL.ag (v:=.bool false) ai (RL.ak (RW.ret (aU (bc (RV.tmp rfl) ?_)))))
 exact⟨congrArg acV (decide_eq_false (fun e:n=m∧a=b=>by obtain⟨e1,e2⟩:=e;have e3:=congrArg adQ e2;first|contradiction|omega)).symm,hN.aX⟩
 refine RW.skip (aA ?_)
 iterate 2 refine RW.seq ?_
 refine RW.region (RL.ag (v:=.int .i64 (0)) ai (RL.ak (RW.block ?_)))
 refine RW.loop (fun k R0 cv=>∃i:Nat,R0 2=vP g1∧R0 3=vP g2∧R0 5=vJ i∧aH w none_ cv [.aJ g2 [.int .i64 (m),bv] 24,.aJ g1 [.int .i64 (n),av] 24]∧(i+k=a.length)∧(a.length=b.length)∧(a.take i=b.take i)) (a.length) ?_ ?_
 exact⟨0,rfl,rfl,rfl,hN,by omega,by omega,rfl⟩
 clear hN
 rintro k R0 cv ⟨i,bQ,cb,cy,hN,fP,Mk,ht⟩
 have cz:=k5 bQ cb cy
 obtain⟨fV,rfl⟩:=cz
 clear bQ cb cy
 iterate 2 refine RW.seq ?_
 refine RW.region (RL.ag (v:=vJ i) U (RL.ag (ah acJ rfl eZ) (RL.ag (aj acP (hN.aJ 1 rfl)) (RL.ag (bO acP (ha.o.now hN)) (RL.ag (aK) (RL.ak ?_))))))
 refine RW.aG _ (fun cD=>?_) (fun cD=>?_)
 refine RW.skip (aA (RW.seq (RW.block (RW.seq ?_))))
 replace hN:=hN.ext (Ext.drew cv)
 refine RW.bA (fun u=>aH w none_ u [.aJ g2 [.int .i64 (m),bv] 24,.aJ g1 [.int .i64 (n),av] 24]) 11 [(0,0),(1,0),(2,0),(3,0),(4,0),(5,0),(6,0),(7,0),(8,0),(9,0),(10,0)] (by intro _ _ _ h;exact h) hN (RQ.an rfl (fun w hS=>(ah acJ rfl eZ)) (RQ.an rfl (fun w hS=>(aj acP (hS.aJ 1 rfl))) (RQ.an (v:=vJ i) rfl (fun w hS=>U) (RQ.an rfl (fun w hS=>(aT acP cY aW (ha.o.now hS))) ?_))))
 have aO:=cQ (a) i
 obtain⟨ap,bV⟩:=aO
 refine RQ.an rfl (fun w hS=>(b0 (m:=i) (a:=ap) acT cY aW (ha.o.now hS) bV (cs:=[.int .i64 (ap.1),.int .i64 (ap.2.1),.int .i64 (ap.2.2)]))) (RQ.an rfl (fun w hS=>(ah acJ rfl eZ)) (RQ.an rfl (fun w hS=>(aj acP (hS.aJ 0 rfl))) (RQ.an (v:=vJ i) rfl (fun w hS=>U) (RQ.an rfl (fun w hS=>(aT acP cY aW (hb.o.now hS))) ?_))))
 have aO:=cQ (b) i
 obtain⟨aq,ir⟩:=aO
 refine RQ.an rfl (fun w hS=>(b0 (m:=i) (a:=aq) acT cY aW (hb.o.now hS) ir (cs:=[.int .i64 (aq.1),.int .i64 (aq.2.1),.int .i64 (aq.2.2)]))) (RQ.an rfl (fun w hS=>(p8 (p:=ap.1=aq.1∧ap.2.1=aq.2.1∧ap.2.2=aq.2.2) rfl rfl (by kernel_rfl) (mW.iff (mW.struct acT (by kernel_rfl) rfl (qm.cons (by decide) (dz.leaf acy rfl) (dz.leaf acy rfl) (mW.int acy) (qm.cons (by decide) (dz.leaf acy rfl) (dz.leaf acy rfl) (mW.int acy) (qm.cons (by decide) (dz.leaf acy rfl) (dz.leaf acy rfl) (mW.int acy) qm.nil)))) (by simp only[adk,decide_eq_true_eq,and_true])))) (RQ.bq (aA ?_)))
 refine RW.aG _ (fun j8=>?_) (fun j8=>?_)
 refine RW.aN (RL.ag (v:=.bool false) ai (RL.ak (RW.ret (bb ?_))))
 iterate 2 refine aU ?_
 refine bb (aU (bc (RV.tmp rfl) ?_))
 exact⟨congrArg acV (decide_eq_false (fun e:n=m∧a=b=>j8 (by have e:=e.2;subst e;rw[bV]at ir;exact HF.2 (ac7 ir)))).symm,hN.aX⟩
 refine RW.skip (ba (aA (RW.region (RL.ag (v:=vJ i) U (RL.ag (aD rfl rfl rfl (bg (by omega) (by omega))) (RL.ag (v:=.int .i64 ((i:Int)+1)) ai (RL.ak ?_)))))))
 exact⟨k-1,by omega,i+1,rfl,rfl,rfl,hN,by omega,by omega,by rw[dJ bV,dJ ir,ht,HF.1 (acX.1 j8)]⟩
 refine RW.exit ?_
 iterate 2 refine bP ?_
 refine aY (aA (RW.aN (RL.ag (v:=.bool true) ai (RL.ak (RW.ret (bc (RV.tmp rfl) ?_))))))
 rw[show i=a.length by omega,adm,ac2 (by omega)]at ht
 exact⟨congrArg acV (decide_eq_true ⟨by omega,ht⟩).symm,hN.aX⟩
end Go.Proofs.YtngkdkbpgoddlaaGreat
namespace Go.Proofs.YtngkdkbpgoddlaaGreat
open Go.RowKit Go.Rl
open Go.Gr Go.dj
theorem tk (rv wv FW FM:Value) (rk FX:List Int) (ws Gg:List I5) (w:World) (h1:Sl vI w rv rk) (h2:Sm aV w wv ws) (h3:Sl vI w FW FX) (h4:Sm aV w FM Gg):aM acD 34 #[.agg #[rv,wv],.agg #[FW,FM]] w fun r w'=>r=.bool (decide (rk=FX∧ws=Gg))∧Ext w w':=by
 refine aM.aZ Tryz.func34 ?_
 rw[cS]
 have hN:=aH.nil w none_
 refine RW.aN ?_
 refine RL.aL (bJ (cs:=[rv,wv]) rfl rfl hN ?_)
 clear hN
 intro g1 w1 (hN:aH w none_ w1 [_])
 refine RL.aL (bJ (cs:=[FW,FM]) rfl rfl hN ?_)
 clear hN
 intro g2 w2 (hN:aH w none_ w2 [_,_])
 refine RL.ag (v:=.bool false) ai (RL.ak ?_)
 iterate 2 refine RW.seq ?_
 refine RW.region (RL.ag (ah acE rfl cc) (RL.ag (aj acz (hN.aJ 1 rfl)) ?_))
 have kH:=(h1.o.now hN).bw
 refine RL.ag (aQ acz (h1.o.now hN)) (RL.ag (ah acE rfl cc) (RL.ag (aj acz (hN.aJ 0 rfl)) ?_))
 have r7:=(h3.o.now hN).bw
 refine RL.ag (aQ acz (h3.o.now hN)) (RL.ag (bj) (RL.ak ?_))
 refine RW.aG _ (fun dX=>?_) (fun dX=>?_)
 refine RW.aN (RL.ag (v:=.bool false) ai (RL.ak (RW.ret (aU (bc (RV.tmp rfl) ?_)))))
 exact⟨congrArg acV (decide_eq_false (fun e=>dX (by rw[e.1]))).symm,hN.aX⟩
 refine RW.skip (aA ?_)
 iterate 2 refine RW.seq ?_
 refine RW.region (RL.ag (v:=.int .i64 (0)) ai (RL.ak (RW.block ?_)))
 refine RW.loop (fun k R0 cv=>∃i:Nat,R0 2=vP g1∧R0 3=vP g2∧R0 5=vJ i∧aH w none_ cv [.aJ g2 [FW,FM] 28,.aJ g1 [rv,wv] 28]∧(i+k=rk.length)∧(rk.length=FX.length)∧(rk.take i=FX.take i)) (rk.length) ?_ ?_
 exact⟨0,rfl,rfl,rfl,hN,by omega,by omega,rfl⟩
 clear hN
 rintro k R0 cv ⟨i,bQ,cb,cy,hN,fP,Mk,ht⟩
 have cz:=k5 bQ cb cy
 obtain⟨fV,rfl⟩:=cz
 clear bQ cb cy
 iterate 2 refine RW.seq ?_
 refine RW.region (RL.ag (v:=vJ i) U (RL.ag (ah acE rfl cc) (RL.ag (aj acz (hN.aJ 1 rfl)) (RL.ag (aQ acz (h1.o.now hN)) (RL.ag (aK) (RL.ak ?_))))))
 refine RW.aG _ (fun cD=>?_) (fun cD=>?_)
 refine RW.skip (aA (RW.seq (RW.block (RW.seq ?_))))
 replace hN:=hN.ext (Ext.drew cv)
 refine RW.bA (fun u=>aH w none_ u [.aJ g2 [FW,FM] 28,.aJ g1 [rv,wv] 28]) 11 [(0,0),(1,0),(2,0),(3,0),(4,0),(5,0),(6,0),(7,0),(8,0),(9,0),(10,0)] (by intro _ _ _ h;exact h) hN (RQ.an rfl (fun w hS=>(ah acE rfl cc)) (RQ.an rfl (fun w hS=>(aj acz (hS.aJ 1 rfl))) (RQ.an (v:=vJ i) rfl (fun w hS=>U) (RQ.an rfl (fun w hS=>(aC acz bI (h1.o.now hS))) ?_))))
 have aO:=cQ (rk) i
 obtain⟨ap,bV⟩:=aO
 refine RQ.an rfl (fun w hS=>(aF (m:=i) (a:=ap) acy (h1.o.now hS) bV)) (RQ.an rfl (fun w hS=>(ah acE rfl cc)) (RQ.an rfl (fun w hS=>(aj acz (hS.aJ 0 rfl))) (RQ.an (v:=vJ i) rfl (fun w hS=>U) (RQ.an rfl (fun w hS=>(aC acz bI (h3.o.now hS))) ?_))))
 have aO:=cQ (FX) i
 obtain⟨aq,ir⟩:=aO
 refine RQ.an rfl (fun w hS=>(aF (m:=i) (a:=aq) acy (h3.o.now hS) ir)) (RQ.an rfl (fun w hS=>(bj)) (RQ.bq (aA ?_)))
 refine RW.aG _ (fun j8=>?_) (fun j8=>?_)
 refine RW.aN (RL.ag (v:=.bool false) ai (RL.ak (RW.ret (bb ?_))))
 iterate 2 refine aU ?_
 refine bb (aU (bc (RV.tmp rfl) ?_))
 exact⟨congrArg acV (decide_eq_false (fun e=>j8 (by have e:=e.1;subst e;rw[bV]at ir;exact ac7 ir))).symm,hN.aX⟩
 refine RW.skip (ba (aA (RW.region (RL.ag (v:=vJ i) U (RL.ag (aD rfl rfl rfl (bg (by omega) (by omega))) (RL.ag (v:=.int .i64 ((i:Int)+1)) ai (RL.ak ?_)))))))
 exact⟨k-1,by omega,i+1,rfl,rfl,rfl,hN,by omega,by omega,by rw[dJ bV,dJ ir,ht,acX.1 j8]⟩
 refine RW.exit ?_
 iterate 2 refine bP ?_
 refine aY (aA (RW.aN (RL.ag (ah acE rfl eF) (RL.ag (aj acL (hN.aJ 1 rfl)) (RL.ag (ah acE rfl eF) (RL.ag (aj acL (hN.aJ 0 rfl)) ?_))))))
 refine RL.aL (bu Tryz.func87 rfl rfl rfl rfl ((th _ _ ws Gg _ (h2.o.now hN) (h4.o.now hN)).mono ?_))
 rintro _ w5 ⟨rfl,bl⟩
 replace hN:=hN.ext bl
 clear bl
 refine RL.ag (v:=.bool (decide (ws=Gg))) ai (RL.ak (RW.ret (bc (RV.tmp rfl) ?_)))
 rw[show i=rk.length by omega,adm,ac2 (by omega)]at ht
 exact⟨congrArg acV (decide_eq_decide.2 ⟨fun h=>⟨ht,h⟩,fun h=>h.2⟩),hN.aX⟩
theorem kJ (av bv:Value) (lk ow:List Hd) (qi cN:List (List I2)) (w:World) (ha:Sl vh w av lk) (hb:Sl vh w bv ow) (Lt:gJ none_ bG w lk qi) (ML:gJ none_ bG w ow cN):aM acD 90 #[av,bv] w fun r w'=>r=.bool (decide (qi=cN))∧Ext w w':=by
 refine aM.aZ ai0 ?_
 rw[cS]
 have hN:=aH.nil w none_
 have CI:=Lt.1
 have F3:=ML.1
 refine RW.aN (RL.ag (v:=.bool false) ai (RL.ak ?_))
 iterate 2 refine RW.seq ?_
 refine RW.region (RL.ag (v:=av) U ?_)
 have nJ:=(ha.o.now hN).bw
 refine RL.ag (aQ ac5 (ha.o.now hN)) (RL.ag (v:=bv) U ?_)
 have iH:=(hb.o.now hN).bw
 refine RL.ag (aQ ac5 (hb.o.now hN)) (RL.ag (bj) (RL.ak ?_))
 refine RW.aG _ (fun dX=>?_) (fun dX=>?_)
 refine RW.aN (RL.ag (v:=.bool false) ai (RL.ak (RW.ret (aU (bc (RV.tmp rfl) ?_)))))
 exact⟨congrArg acV (decide_eq_false (fun e:qi=cN=>dX (by rw[CI,F3,e]))).symm,hN.aX⟩
 refine RW.skip (aA ?_)
 iterate 2 refine RW.seq ?_
 refine RW.region (RL.ag (v:=.int .i64 (0)) ai (RL.ak (RW.block ?_)))
 refine RW.loop (fun k R0 cv=>∃i:Nat,R0 0=av∧R0 1=bv∧R0 5=vJ i∧aH w none_ cv []∧(i+k=lk.length)∧(lk.length=ow.length)∧(qi.take i=cN.take i)) (lk.length) ?_ ?_
 exact⟨0,rfl,rfl,rfl,hN,by omega,by omega,rfl⟩
 clear hN
 rintro k R0 cv ⟨i,cF,bN,cy,hN,fP,Mk,ht⟩
 have cz:=k5 cF bN cy
 obtain⟨fV,rfl⟩:=cz
 clear cF bN cy
 iterate 2 refine RW.seq ?_
 refine RW.region (RL.ag (v:=vJ i) U (RL.ag (v:=av) U (RL.ag (aQ ac5 (ha.o.now hN)) (RL.ag (aK) (RL.ak ?_)))))
 refine RW.aG _ (fun cD=>?_) (fun cD=>?_)
 refine RW.skip (aA (RW.seq (RW.block (RW.seq ?_))))
 have aO:=cQ lk i
 obtain⟨ap,bV⟩:=aO
 have aO:=cQ ow i
 obtain⟨aq,ir⟩:=aO
 have aO:=cQ qi i
 obtain⟨lp,eN⟩:=aO
 have aO:=cQ cN i
 obtain⟨lq,DL⟩:=aO
 replace hN:=hN.ext (Ext.drew cv)
 refine RW.bA (fun u=>aH w none_ u []) 10 [(0,0),(1,0),(2,0),(3,0),(4,0),(5,0),(6,0),(7,0),(8,1),(9,0)] (by intro _ _ _ h;exact h) hN (RQ.an (v:=av) rfl (fun w hS=>U) (RQ.an (v:=vJ i) rfl (fun w hS=>U) (RQ.an rfl (fun w hS=>(aC ac5 lx (ha.o.now hS))) (RQ.an rfl (fun w hS=>(aF (m:=i) (a:=ap) ac1 (ha.o.now hS) bV)) (RQ.an (v:=bv) rfl (fun w hS=>U) (RQ.an (v:=vJ i) rfl (fun w hS=>U) (RQ.an rfl (fun w hS=>(aC ac5 lx (hb.o.now hS))) (RQ.an rfl (fun w hS=>(aF (m:=i) (a:=aq) ac1 (hb.o.now hS) ir)) ?_))))))))
 refine RQ.bW rfl (bu aki rfl rfl rfl rfl ((vq _ _ lp lq _ ((Lt.ik bV eN).now hN) ((ML.ik ir DL).now hN)).mono ?_))
 rintro _ w5 ⟨rfl,bl⟩
 replace hN:=hN.ext bl
 clear bl
 refine⟨hN,?_⟩
 refine RQ.an rfl (fun w hS=>(cU rfl)) (RQ.bq (aA ?_))
 refine RW.aG _ (fun j8=>?_) (fun j8=>?_)
 refine RW.aN (RL.ag (v:=.bool false) ai (RL.ak (RW.ret (bb ?_))))
 iterate 2 refine aU ?_
 refine bb (aU (bc (RV.tmp rfl) ?_))
 exact⟨congrArg acV (decide_eq_false (fun e:qi=cN=>j8 (by subst e;rw[eN]at DL;exact ac7 DL))).symm,hN.aX⟩
 refine RW.skip (ba (aA (RW.region (RL.ag (v:=vJ i) U (RL.ag (aD rfl rfl rfl (bg (by omega) (by omega))) (RL.ag (v:=.int .i64 ((i:Int)+1)) ai (RL.ak ?_)))))))
 exact⟨k-1,by omega,i+1,rfl,rfl,rfl,hN,by omega,by omega,by rw[dJ eN,dJ DL,ht,acX.1 j8]⟩
 refine RW.exit ?_
 iterate 2 refine bP ?_
 refine aY (aA (RW.aN (RL.ag (v:=.bool true) ai (RL.ak (RW.ret (bc (RV.tmp rfl) ?_))))))
 rw[show i=qi.length by omega,adm,ac2 (by omega)]at ht
 exact⟨congrArg acV (decide_eq_true ht).symm,hN.aX⟩
theorem jU (av bv:Value) (lk ow:List Hd) (qi cN:List (List Int)) (w:World) (ha:Sl vh w av lk) (hb:Sl vh w bv ow) (Lt:gG none_ vI w lk qi) (ML:gG none_ vI w ow cN):aM acD 89 #[av,bv] w fun r w'=>r=.bool (decide (qi=cN))∧Ext w w':=by
 refine aM.aZ ahI ?_
 rw[cS]
 have hN:=aH.nil w none_
 have CI:=Lt.1
 have F3:=ML.1
 refine RW.aN (RL.ag (v:=.bool false) ai (RL.ak ?_))
 iterate 2 refine RW.seq ?_
 refine RW.region (RL.ag (v:=av) U ?_)
 have nJ:=(ha.o.now hN).bw
 refine RL.ag (aQ acQ (ha.o.now hN)) (RL.ag (v:=bv) U ?_)
 have iH:=(hb.o.now hN).bw
 refine RL.ag (aQ acQ (hb.o.now hN)) (RL.ag (bj) (RL.ak ?_))
 refine RW.aG _ (fun dX=>?_) (fun dX=>?_)
 refine RW.aN (RL.ag (v:=.bool false) ai (RL.ak (RW.ret (aU (bc (RV.tmp rfl) ?_)))))
 exact⟨congrArg acV (decide_eq_false (fun e:qi=cN=>dX (by rw[CI,F3,e]))).symm,hN.aX⟩
 refine RW.skip (aA ?_)
 iterate 2 refine RW.seq ?_
 refine RW.region (RL.ag (v:=.int .i64 (0)) ai (RL.ak (RW.block ?_)))
 refine RW.loop (fun k R0 cv=>∃i:Nat,R0 0=av∧R0 1=bv∧R0 5=vJ i∧aH w none_ cv []∧(i+k=lk.length)∧(lk.length=ow.length)∧(qi.take i=cN.take i)) (lk.length) ?_ ?_
 exact⟨0,rfl,rfl,rfl,hN,by omega,by omega,rfl⟩
 clear hN
 rintro k R0 cv ⟨i,cF,bN,cy,hN,fP,Mk,ht⟩
 have cz:=k5 cF bN cy
 obtain⟨fV,rfl⟩:=cz
 clear cF bN cy
 iterate 2 refine RW.seq ?_
 refine RW.region (RL.ag (v:=vJ i) U (RL.ag (v:=av) U (RL.ag (aQ acQ (ha.o.now hN)) (RL.ag (aK) (RL.ak ?_)))))
 refine RW.aG _ (fun cD=>?_) (fun cD=>?_)
 refine RW.skip (aA (RW.seq (RW.block ?_)))
 iterate 2 refine RW.seq ?_
 have aO:=cQ lk i
 obtain⟨ap,bV⟩:=aO
 have aO:=cQ ow i
 obtain⟨aq,ir⟩:=aO
 have aO:=cQ qi i
 obtain⟨lp,eN⟩:=aO
 have aO:=cQ cN i
 obtain⟨lq,DL⟩:=aO
 replace hN:=hN.ext (Ext.drew cv)
 refine RW.bA (fun u=>aH w none_ u []) 11 [(0,0),(1,0),(2,0),(3,0),(4,0),(5,0),(6,0),(7,0),(8,0),(9,0),(10,0)] (by intro _ _ _ h;exact h) hN (RQ.an (v:=av) rfl (fun w hS=>U) (RQ.an (v:=vJ i) rfl (fun w hS=>U) (RQ.an rfl (fun w hS=>(aC acQ cc (ha.o.now hS))) (RQ.an rfl (fun w hS=>(aF (m:=i) (a:=ap) acz (ha.o.now hS) bV)) ?_))))
 have r7:=((Lt.ik bV eN).now hN).bw
 refine RQ.an rfl (fun w hS=>(aQ acz ((Lt.ik bV eN).now hS))) (RQ.an (v:=bv) rfl (fun w hS=>U) (RQ.an (v:=vJ i) rfl (fun w hS=>U) (RQ.an rfl (fun w hS=>(aC acQ cc (hb.o.now hS))) (RQ.an rfl (fun w hS=>(aF (m:=i) (a:=aq) acz (hb.o.now hS) ir)) ?_))))
 have AK:=((ML.ik ir DL).now hN).bw
 refine RQ.an rfl (fun w hS=>(aQ acz ((ML.ik ir DL).now hS))) (RQ.an rfl (fun w hS=>(bj)) (RQ.bq (aA ?_)))
 refine RW.aG _ (fun Sc=>?_) (fun Sc=>?_)
 refine RW.aN (RL.ag (v:=.bool false) ai (RL.ak (RW.ret (aU (bb ?_)))))
 iterate 2 refine aU ?_
 refine bb (aU (bc (RV.tmp rfl) ?_))
 exact⟨congrArg acV (decide_eq_false (fun e:qi=cN=>Sc (by subst e;rw[eN]at DL;rw[ac7 DL]))).symm,hN.aX⟩
 refine RW.skip (aA (RW.aN (RL.ag (v:=.int .i64 (0)) ai (RL.ak (RW.block ?_)))))
 refine RW.loop (fun k2 R1 ez=>∃q:Nat,R1 0=av∧R1 1=bv∧R1 5=vJ i∧R1 6=vJ q∧aH w none_ ez []∧(q+k2=lp.length)∧(lp.length=lq.length)∧(lp.take q=lq.take q)) (lp.length) ?_ ?_
 exact⟨0,rfl,rfl,rfl,rfl,hN,by omega,by omega,rfl⟩
 clear hN
 rintro k2 R1 ez ⟨q,cF,bN,cy,cV,hN,yl,hpq,UC⟩
 have cz:=iV cF bN cy cV
 obtain⟨re,rfl⟩:=cz
 clear cF bN cy cV
 iterate 2 refine RW.seq ?_
 refine RW.region (RL.ag (v:=vJ q) U (RL.ag (v:=av) U (RL.ag (v:=vJ i) U (RL.ag (aC acQ cc (ha.o.now hN)) (RL.ag (aF (m:=i) (a:=ap) acz (ha.o.now hN) bV) (RL.ag (aQ acz ((Lt.ik bV eN).now hN)) (RL.ag (aK) (RL.ak ?_))))))))
 refine RW.aG _ (fun ep=>?_) (fun ep=>?_)
 refine RW.skip (aA (RW.seq (RW.block (RW.seq ?_))))
 replace hN:=hN.ext (Ext.drew ez)
 refine RW.bA (fun u=>aH w none_ u []) 15 [(0,0),(1,0),(2,0),(3,0),(4,0),(5,0),(6,0),(7,0),(8,0),(9,0),(10,0),(11,0),(12,0),(13,0),(14,0)] (by intro _ _ _ h;exact h) hN (RQ.an (v:=av) rfl (fun w hS=>U) (RQ.an (v:=vJ i) rfl (fun w hS=>U) (RQ.an rfl (fun w hS=>(aC acQ cc (ha.o.now hS))) (RQ.an rfl (fun w hS=>(aF (m:=i) (a:=ap) acz (ha.o.now hS) bV)) (RQ.an (v:=vJ q) rfl (fun w hS=>U) (RQ.an rfl (fun w hS=>(aC acz bI ((Lt.ik bV eN).now hS))) ?_))))))
 have aO:=cQ (lp) q
 obtain⟨ac,ja⟩:=aO
 refine RQ.an rfl (fun w hS=>(aF (m:=q) (a:=ac) acy ((Lt.ik bV eN).now hS) ja)) (RQ.an (v:=bv) rfl (fun w hS=>U) (RQ.an (v:=vJ i) rfl (fun w hS=>U) (RQ.an rfl (fun w hS=>(aC acQ cc (hb.o.now hS))) (RQ.an rfl (fun w hS=>(aF (m:=i) (a:=aq) acz (hb.o.now hS) ir)) (RQ.an (v:=vJ q) rfl (fun w hS=>U) (RQ.an rfl (fun w hS=>(aC acz bI ((ML.ik ir DL).now hS))) ?_))))))
 have aO:=cQ (lq) q
 obtain⟨ad,ze⟩:=aO
 refine RQ.an rfl (fun w hS=>(aF (m:=q) (a:=ad) acy ((ML.ik ir DL).now hS) ze)) (RQ.an rfl (fun w hS=>(bj)) (RQ.bq (aA ?_)))
 refine RW.aG _ (fun Ow=>?_) (fun Ow=>?_)
 refine RW.aN (RL.ag (v:=.bool false) ai (RL.ak (RW.ret (bb ?_))))
 iterate 2 refine aU ?_
 iterate 2 refine bb ?_
 iterate 2 refine aU ?_
 refine bb (aU (bc (RV.tmp rfl) ?_))
 exact⟨congrArg acV (decide_eq_false (fun e:qi=cN=>Ow (by subst e;rw[eN]at DL;cases DL;rw[ja]at ze;exact ac7 ze))).symm,hN.aX⟩
 refine RW.skip (ba (aA (RW.region (RL.ag (v:=vJ q) U (RL.ag (aD rfl rfl rfl (bg (by omega) (by omega))) (RL.ag (v:=.int .i64 ((q:Int)+1)) ai (RL.ak ?_)))))))
 exact⟨k2-1,by omega,q+1,rfl,rfl,rfl,rfl,hN,by omega,by omega,by rw[dJ ja,dJ ze,UC,acX.1 Ow]⟩
 refine RW.exit ?_
 iterate 2 refine bP ?_
 refine aY (ba (aA (RW.region (RL.ag (v:=vJ i) U (RL.ag (aD rfl rfl rfl (bg (by omega) (by omega))) (RL.ag (v:=.int .i64 ((i:Int)+1)) ai (RL.ak ?_)))))))
 exact⟨k-1,by omega,i+1,rfl,rfl,rfl,hN,by omega,by omega,by rw[show q=lp.length by omega,adm,ac2 (by omega)]at UC;rw[dJ eN,dJ DL,ht,UC]⟩
 refine RW.exit ?_
 iterate 2 refine bP ?_
 refine aY (aA (RW.aN (RL.ag (v:=.bool true) ai (RL.ak (RW.ret (bc (RV.tmp rfl) ?_))))))
 rw[show i=qi.length by omega,adm,ac2 (by omega)]at ht
 exact⟨congrArg acV (decide_eq_true ht).symm,hN.aX⟩
end Go.Proofs.YtngkdkbpgoddlaaGreat
namespace Go.Proofs.YtngkdkbpgoddlaaGreat
open Go.RowKit Go.Rl
open Go.Gr Go.dj
theorem vp (w:World) (Ke:Value) (JA:List Int) (Vy:Sl vI w Ke JA) (Kh:Value) (Pz:List Hd) (F9:List (List Int)) (VE:Sl vh w Kh Pz) (OV:gG none_ vI w Pz F9) (J4:Value) (NQ:List Hd) (FZ:List (List I2)) (pO:Sl vh w J4 NQ) (Oq:gJ none_ bG w NQ FZ) (J6:Value) (N5:List Hd) (F1:List (List I2)) (DN:Sl vh w J6 N5) (OO:gJ none_ bG w N5 F1) (vk:Value) (BO:List Hd) (rQ:List (List Int)) (N9:Sl vh w vk BO) (HP:gG none_ vI w BO rQ) (vm:Value) (BR:List Hd) (tb:List (List Int)) (Oe:Sl vh w vm BR) (HT:gG none_ vI w BR tb) (Kd:Value) (Jz:List Int) (Vx:Sl vI w Kd Jz) (Kg:Value) (Py:List Hd) (F8:List (List Int)) (VD:Sl vh w Kg Py) (OU:gG none_ vI w Py F8) (iD:Value) (NP:List Hd) (FY:List (List I2)) (H6:Sl vh w iD NP) (Oo:gJ none_ bG w NP FY) (iE:Value) (N4:List Hd) (F0:List (List I2)) (y9:Sl vh w iE N4) (ON:gJ none_ bG w N4 F0) (vj:Value) (BN:List Hd) (rP:List (List Int)) (N8:Sl vh w vj BN) (HO:gG none_ vI w BN rP) (vl:Value) (BQ:List Hd) (ta:List (List Int)) (Od:Sl vh w vl BQ) (HS:gG none_ vI w BQ ta):aM acD 35 #[.agg #[Ke,Kh,J4,J6,vk,vm],.agg #[Kd,Kg,iD,iE,vj,vl]] w fun r w'=>r=.bool (decide (JA=Jz∧F9=F8∧FZ=FY∧F1=F0∧rQ=rP∧tb=ta))∧Ext w w':=by
 refine aM.aZ Tryz.func35 ?_
 rw[cS]
 have hN:=aH.nil w none_
 refine RW.aN ?_
 refine RL.aL (bJ (cs:=[Ke,Kh,J4,J6,vk,vm]) rfl rfl hN ?_)
 clear hN
 intro g1 w1 (hN:aH w none_ w1 [_])
 refine RL.aL (bJ (cs:=[Kd,Kg,iD,iE,vj,vl]) rfl rfl hN ?_)
 clear hN
 intro g2 w2 (hN:aH w none_ w2 [_,_])
 refine RL.ag (v:=.bool false) ai (RL.bY (RL.ag (ah acR rfl cc) (RL.ag (aj acz (hN.aJ 1 rfl)) (RL.ag (ah acR rfl cc) (RL.ag (aj acz (hN.aJ 0 rfl)) ?_)))))
 refine RL.aL (bu Tryz.func88 rfl rfl rfl rfl ((tj _ _ JA Jz _ (Vy.o.now hN) (Vx.o.now hN)).mono ?_))
 rintro _ w3 ⟨rfl,bl⟩
 replace hN:=hN.ext bl
 clear bl
 refine RL.ag (v:=.bool (decide (JA=Jz))) U ?_
 by_cases rE:JA=Jz
 rw[decide_eq_true rE]
 refine RL.aw (ah acR rfl fH) (RL.aw (aj acQ (hN.aJ 1 rfl)) (RL.aw (ah acR rfl fH) (RL.aw (aj acQ (hN.aJ 0 rfl)) ?_)))
 refine RL.er (bu ahI rfl rfl rfl rfl ((jU _ _ Pz Py F9 F8 _ (VE.o.now hN) (VD.o.now hN) (OV.fm hN) (OU.fm hN)).mono ?_))
 rintro _ w4 ⟨rfl,bl⟩
 replace hN:=hN.ext bl
 clear bl
 refine RL.ag (v:=.bool (decide (F9=F8))) (al) (RL.ag (v:=.bool (decide (F9=F8))) U ?_)
 by_cases uz:F9=F8
 rw[decide_eq_true uz]
 refine RL.aw (ah acR rfl je) (RL.aw (aj ac5 (hN.aJ 1 rfl)) (RL.aw (ah acR rfl je) (RL.aw (aj ac5 (hN.aJ 0 rfl)) ?_)))
 refine RL.er (bu ai0 rfl rfl rfl rfl ((kJ _ _ NQ NP FZ FY _ (pO.o.now hN) (H6.o.now hN) (Oq.ext hN.aX) (Oo.ext hN.aX)).mono ?_))
 rintro _ w5 ⟨rfl,bl⟩
 replace hN:=hN.ext bl
 clear bl
 refine RL.ag (v:=.bool (decide (FZ=FY))) (al) (RL.ag (v:=.bool (decide (FZ=FY))) U ?_)
 by_cases IU:FZ=FY
 rw[decide_eq_true IU]
 refine RL.aw (ah acR rfl je) (RL.aw (aj ac5 (hN.aJ 1 rfl)) (RL.aw (ah acR rfl je) (RL.aw (aj ac5 (hN.aJ 0 rfl)) ?_)))
 refine RL.er (bu ai0 rfl rfl rfl rfl ((kJ _ _ N5 N4 F1 F0 _ (DN.o.now hN) (y9.o.now hN) (OO.ext hN.aX) (ON.ext hN.aX)).mono ?_))
 rintro _ w6 ⟨rfl,bl⟩
 replace hN:=hN.ext bl
 clear bl
 refine RL.ag (v:=.bool (decide (F1=F0))) (al) (RL.ag (v:=.bool (decide (F1=F0))) U ?_)
 by_cases IQ:F1=F0
 rw[decide_eq_true IQ]
 refine RL.aw (ah acR rfl fH) (RL.aw (aj acQ (hN.aJ 1 rfl)) (RL.aw (ah acR rfl fH) (RL.aw (aj acQ (hN.aJ 0 rfl)) ?_)))
 refine RL.er (bu ahI rfl rfl rfl rfl ((jU _ _ BO BN rQ rP _ (N9.o.now hN) (N8.o.now hN) (HP.fm hN) (HO.fm hN)).mono ?_))
 rintro _ w7 ⟨rfl,bl⟩
 replace hN:=hN.ext bl
 clear bl
 refine RL.ag (v:=.bool (decide (rQ=rP))) (al) (RL.ag (v:=.bool (decide (rQ=rP))) U ?_)
 by_cases IP:rQ=rP
 rw[decide_eq_true IP]
 refine RL.aw (ah acR rfl fH) (RL.aw (aj acQ (hN.aJ 1 rfl)) (RL.aw (ah acR rfl fH) (RL.aw (aj acQ (hN.aJ 0 rfl)) ?_)))
 refine RL.er (bu ahI rfl rfl rfl rfl ((jU _ _ BR BQ tb ta _ (Oe.o.now hN) (Od.o.now hN) (HT.fm hN) (HS.fm hN)).mono ?_))
 rintro _ w8 ⟨rfl,bl⟩
 replace hN:=hN.ext bl
 clear bl
 refine RL.ag (v:=.bool (decide (tb=ta))) (al) (RL.ag (v:=.bool (decide (tb=ta))) ai (RL.ak (RW.ret (bc (RV.tmp rfl) ?_))))
 exact⟨congrArg acV (decide_eq_decide.2 ⟨fun h=>by refine⟨?_,?_,?_,?_,?_,?_⟩<;>first|exact h|assumption,fun e=>by obtain⟨e0,e1,e2,e3,e4,e5⟩:=e;assumption⟩),hN.aX⟩
 rw[decide_eq_false IP]
 iterate 5 refine RL.bH ?_
 refine RL.ag (v:=.bool false) (aB) (RL.ag (v:=.bool false) ai (RL.ak (RW.ret (bc (RV.tmp rfl) ?_))))
 exact⟨congrArg acV (decide_eq_false (fun e=>by obtain⟨e0,e1,e2,e3,e4,e5⟩:=e;contradiction)).symm,hN.aX⟩
 rw[decide_eq_false IQ]
 iterate 5 refine RL.bH ?_
 refine RL.ag (v:=.bool false) (aB) (RL.ag (v:=.bool false) U ?_)
 iterate 5 refine RL.bH ?_
 refine RL.ag (v:=.bool false) (aB) (RL.ag (v:=.bool false) ai (RL.ak (RW.ret (bc (RV.tmp rfl) ?_))))
 exact⟨congrArg acV (decide_eq_false (fun e=>by obtain⟨e0,e1,e2,e3,e4,e5⟩:=e;contradiction)).symm,hN.aX⟩
 rw[decide_eq_false IU]
 iterate 5 refine RL.bH ?_
 refine RL.ag (v:=.bool false) (aB) (RL.ag (v:=.bool false) U ?_)
 iterate 5 refine RL.bH ?_
 refine RL.ag (v:=.bool false) (aB) (RL.ag (v:=.bool false) U ?_)
 iterate 5 refine RL.bH ?_
 refine RL.ag (v:=.bool false) (aB) (RL.ag (v:=.bool false) ai (RL.ak (RW.ret (bc (RV.tmp rfl) ?_))))
 exact⟨congrArg acV (decide_eq_false (fun e=>by obtain⟨e0,e1,e2,e3,e4,e5⟩:=e;contradiction)).symm,hN.aX⟩
 rw[decide_eq_false uz]
 iterate 5 refine RL.bH ?_
 refine RL.ag (v:=.bool false) (aB) (RL.ag (v:=.bool false) U ?_)
 iterate 5 refine RL.bH ?_
 refine RL.ag (v:=.bool false) (aB) (RL.ag (v:=.bool false) U ?_)
 iterate 5 refine RL.bH ?_
 refine RL.ag (v:=.bool false) (aB) (RL.ag (v:=.bool false) U ?_)
 iterate 5 refine RL.bH ?_
 refine RL.ag (v:=.bool false) (aB) (RL.ag (v:=.bool false) ai (RL.ak (RW.ret (bc (RV.tmp rfl) ?_))))
 exact⟨congrArg acV (decide_eq_false (fun e=>by obtain⟨e0,e1,e2,e3,e4,e5⟩:=e;contradiction)).symm,hN.aX⟩
 rw[decide_eq_false rE]
 iterate 5 refine RL.bH ?_
 refine RL.ag (v:=.bool false) (aB) (RL.ag (v:=.bool false) U ?_)
 iterate 5 refine RL.bH ?_
 refine RL.ag (v:=.bool false) (aB) (RL.ag (v:=.bool false) U ?_)
 iterate 5 refine RL.bH ?_
 refine RL.ag (v:=.bool false) (aB) (RL.ag (v:=.bool false) U ?_)
 iterate 5 refine RL.bH ?_
 refine RL.ag (v:=.bool false) (aB) (RL.ag (v:=.bool false) U ?_)
 iterate 5 refine RL.bH ?_
 refine RL.ag (v:=.bool false) (aB) (RL.ag (v:=.bool false) ai (RL.ak (RW.ret (bc (RV.tmp rfl) ?_))))
 exact⟨congrArg acV (decide_eq_false (fun e=>by obtain⟨e0,e1,e2,e3,e4,e5⟩:=e;contradiction)).symm,hN.aX⟩
theorem jF (w:World) (n1:Int) (Qx P9 PV:Value) (l1:List I3) (Qc:List Int) (PW:List I5) (MO:Sm bC w Qx l1) (pN:Sl vI w P9 Qc) (ZJ:Sm aV w PV PW) (Ke:Value) (JA:List Int) (Vy:Sl vI w Ke JA) (Kh:Value) (Pz:List Hd) (F9:List (List Int)) (VE:Sl vh w Kh Pz) (OV:gG none_ vI w Pz F9) (J4:Value) (NQ:List Hd) (FZ:List (List I2)) (pO:Sl vh w J4 NQ) (Oq:gJ none_ bG w NQ FZ) (J6:Value) (N5:List Hd) (F1:List (List I2)) (DN:Sl vh w J6 N5) (OO:gJ none_ bG w N5 F1) (vk:Value) (BO:List Hd) (rQ:List (List Int)) (N9:Sl vh w vk BO) (HP:gG none_ vI w BO rQ) (vm:Value) (BR:List Hd) (tb:List (List Int)) (Oe:Sl vh w vm BR) (HT:gG none_ vI w BR tb) (n2:Int) (Qw FW FM:Value) (l2:List I3) (FX:List Int) (Gg:List I5) (Yd:Sm bC w Qw l2) (Aw:Sl vI w FW FX) (ZI:Sm aV w FM Gg) (Kd:Value) (Jz:List Int) (Vx:Sl vI w Kd Jz) (Kg:Value) (Py:List Hd) (F8:List (List Int)) (VD:Sl vh w Kg Py) (OU:gG none_ vI w Py F8) (iD:Value) (NP:List Hd) (FY:List (List I2)) (H6:Sl vh w iD NP) (Oo:gJ none_ bG w NP FY) (iE:Value) (N4:List Hd) (F0:List (List I2)) (y9:Sl vh w iE N4) (ON:gJ none_ bG w N4 F0) (vj:Value) (BN:List Hd) (rP:List (List Int)) (N8:Sl vh w vj BN) (HO:gG none_ vI w BN rP) (vl:Value) (BQ:List Hd) (ta:List (List Int)) (Od:Sl vh w vl BQ) (HS:gG none_ vI w BQ ta):aM acD 12 #[.agg #[.int .i64 n1,Qx,P9,PV,Ke,Kh,J4,J6,vk,vm],.agg #[.int .i64 n2,Qw,FW,FM,Kd,Kg,iD,iE,vj,vl]] w fun r w'=>r=.bool (decide ((n1=n2∧l1=l2)∧(Qc=FX∧PW=Gg)∧JA=Jz∧F9=F8∧FZ=FY∧F1=F0∧rQ=rP∧tb=ta))∧Ext w w':=by
 refine aM.aZ agJ ?_
 rw[cS]
 have hN:=aH.nil w none_
 refine RW.aN ?_
 refine RL.aL (bJ (cs:=[.int .i64 (n1),Qx,P9,PV,Ke,Kh,J4,J6,vk,vm]) rfl rfl hN ?_)
 clear hN
 intro g1 w1 (hN:aH w none_ w1 [_])
 refine RL.aL (bJ (cs:=[.int .i64 (n2),Qw,FW,FM,Kd,Kg,iD,iE,vj,vl]) rfl rfl hN ?_)
 clear hN
 intro g2 w2 (hN:aH w none_ w2 [_,_])
 refine RL.ag (v:=.bool false) ai (RL.bY (RL.ag (ah acO rfl dw) (RL.ag (du (cs:=[.int .i64 (n1),Qx,P9,PV,Ke,Kh,J4,J6,vk,vm]) (j:=0) (m:=2) acJ rfl dw rfl (hN.aJ 1 rfl) (acA rfl)) (RL.ag (ah acO rfl dw) (RL.ag (du (cs:=[.int .i64 (n2),Qw,FW,FM,Kd,Kg,iD,iE,vj,vl]) (j:=0) (m:=2) acJ rfl dw rfl (hN.aJ 0 rfl) (acA rfl)) ?_)))))
 refine RL.aL (bu Tryz.func33 rfl rfl rfl rfl ((vu (n1) (n2) _ _ l1 l2 _ (MO.o.now hN) (Yd.o.now hN)).mono ?_))
 rintro _ w3 ⟨rfl,bl⟩
 replace hN:=hN.ext bl
 clear bl
 refine RL.ag (v:=.bool (decide (n1=n2∧l1=l2))) U ?_
 by_cases rE:n1=n2∧l1=l2
 rw[decide_eq_true rE]
 refine RL.aw (ah acO rfl dq) (RL.aw (du (cs:=[.int .i64 (n1),Qx,P9,PV,Ke,Kh,J4,J6,vk,vm]) (j:=2) (m:=2) acE rfl dq rfl (hN.aJ 1 rfl) (acA rfl)) (RL.aw (ah acO rfl dq) (RL.aw (du (cs:=[.int .i64 (n2),Qw,FW,FM,Kd,Kg,iD,iE,vj,vl]) (j:=2) (m:=2) acE rfl dq rfl (hN.aJ 0 rfl) (acA rfl)) ?_)))
 refine RL.er (bu Tryz.func34 rfl rfl rfl rfl ((tk _ _ _ _ Qc FX PW Gg _ (pN.o.now hN) (ZJ.o.now hN) (Aw.o.now hN) (ZI.o.now hN)).mono ?_))
 rintro _ w4 ⟨rfl,bl⟩
 replace hN:=hN.ext bl
 clear bl
 refine RL.ag (v:=.bool (decide (Qc=FX∧PW=Gg))) (al) (RL.ag (v:=.bool (decide (Qc=FX∧PW=Gg))) U ?_)
 by_cases uz:Qc=FX∧PW=Gg
 rw[decide_eq_true uz]
 refine RL.aw (ah acO rfl iA) (RL.aw (du (cs:=[.int .i64 (n1),Qx,P9,PV,Ke,Kh,J4,J6,vk,vm]) (j:=4) (m:=6) acR rfl iA rfl (hN.aJ 1 rfl) (acA rfl)) (RL.aw (ah acO rfl iA) (RL.aw (du (cs:=[.int .i64 (n2),Qw,FW,FM,Kd,Kg,iD,iE,vj,vl]) (j:=4) (m:=6) acR rfl iA rfl (hN.aJ 0 rfl) (acA rfl)) ?_)))
 refine RL.er (bu Tryz.func35 rfl rfl rfl rfl ((vp _ _ JA (Vy.o.now hN) _ Pz F9 (VE.o.now hN) (OV.fm hN) _ NQ FZ (pO.o.now hN) (Oq.ext hN.aX) _ N5 F1 (DN.o.now hN) (OO.ext hN.aX) _ BO rQ (N9.o.now hN) (HP.fm hN) _ BR tb (Oe.o.now hN) (HT.fm hN) _ Jz (Vx.o.now hN) _ Py F8 (VD.o.now hN) (OU.fm hN) _ NP FY (H6.o.now hN) (Oo.ext hN.aX) _ N4 F0 (y9.o.now hN) (ON.ext hN.aX) _ BN rP (N8.o.now hN) (HO.fm hN) _ BQ ta (Od.o.now hN) (HS.fm hN)).mono ?_))
 rintro _ w5 ⟨rfl,bl⟩
 replace hN:=hN.ext bl
 clear bl
 refine RL.ag (v:=.bool (decide (JA=Jz∧F9=F8∧FZ=FY∧F1=F0∧rQ=rP∧tb=ta))) (al) (RL.ag (v:=.bool (decide (JA=Jz∧F9=F8∧FZ=FY∧F1=F0∧rQ=rP∧tb=ta))) ai (RL.ak (RW.ret (bc (RV.tmp rfl) ?_))))
 exact⟨congrArg acV (decide_eq_decide.2 ⟨fun h=>by refine⟨?_,?_,?_⟩<;>first|exact h|assumption,fun e=>by obtain⟨e0,e1,e2⟩:=e;assumption⟩),hN.aX⟩
 rw[decide_eq_false uz]
 iterate 5 refine RL.bH ?_
 refine RL.ag (v:=.bool false) (aB) (RL.ag (v:=.bool false) ai (RL.ak (RW.ret (bc (RV.tmp rfl) ?_))))
 exact⟨congrArg acV (decide_eq_false (fun e=>by obtain⟨e0,e1,e2⟩:=e;contradiction)).symm,hN.aX⟩
 rw[decide_eq_false rE]
 iterate 5 refine RL.bH ?_
 refine RL.ag (v:=.bool false) (aB) (RL.ag (v:=.bool false) U ?_)
 iterate 5 refine RL.bH ?_
 refine RL.ag (v:=.bool false) (aB) (RL.ag (v:=.bool false) ai (RL.ak (RW.ret (bc (RV.tmp rfl) ?_))))
 exact⟨congrArg acV (decide_eq_false (fun e=>by obtain⟨e0,e1,e2⟩:=e;contradiction)).symm,hN.aX⟩
end Go.Proofs.YtngkdkbpgoddlaaGreat
