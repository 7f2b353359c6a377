/- The law ImageDecodes: texts that its row leans on (5). -/
import Derived.Test.YtngkdkbpgoddlaaGreatKImageDecodes4
set_option linter.unusedVariables false
set_option linter.unusedSimpArgs false
set_option linter.unusedSectionVars false
set_option maxHeartbeats 4000000
set_option maxRecDepth 100000
open Array renaming getElem?_eq_some_iff → VD
open Bool renaming false_eq_true → VS, and_eq_true → VZ
open Classical renaming propDecidable → VG
open Decidable renaming not_not → Vi
open Go.IntKind renaming i64 → Xb
open Go.Proofs.Tryz renaming underlying3 → UU, underlying25 → UW, prog → UY, underlying98 → U0, underlying24 → U4, underlying29 → U7, underlying34 → U8, underlying22 → Va, underlying28 → Vb, underlying100 → Ve, underlying26 → Vg, underlying32 → Vh, underlying96 → Vj, underlying30 → Vr, underlying118 → Vy, underlying135 → VE, underlying282 → VN, underlying263 → Wx, underlying47 → WX, underlying161 → XO, func197 → Yu, func211 → Yv, func24 → YC, func105 → Y2, func111 → Y6, func112 → aat, func114 → aau, func113 → aav, func196 → aaw, func51 → aaM, func107 → ab7, func172 → aca, func198 → acb, func159 → acd, func106 → ace, func108 → acf
open Go.Value renaming bool → Vd, int → Vn
open Int renaming toNat_natCast → WN, max_eq_right → Yf, max_eq_left → Zl, toNat_of_nonneg → Z4
open List renaming getElem?_eq_getElem → UT, length_append → UX, mem_of_getElem? → UZ, not_mem_nil → U2, length_singleton → U3, getElem?_eq_some_iff → U5, length_cons → U6, mem_cons → U9, length_nil → Vc, replicate → Vm, take_of_length_le → Vo, length_take → Vs, length_replicate → Vw, take_length → Vz, getElem?_of_mem → VK, mem_cons_of_mem → VX, mem_cons_self → V2, map_append → V5, length_set → Wb, getElem?_set → Wu, length_erase_of_mem → Xd, getElem?_replicate → XX, cons_append → Yc, mem_erase_of_ne → Yt, getElem?_eraseIdx → Zy, length_eraseIdx → ZR
open Nat renaming le_of_ble_eq_true → US, lt_or_ge → VH, zero_add → W3, min_eq_left → Yl
open Option.some renaming inj → Vq
open Prod renaming ext → V7
open Prod.mk renaming injEq → ZY
namespace Go.Proofs.YtngkdkbpgoddlaaGreat
open Go.RowKit Go.Rl
open Go.Gr
theorem tK (gv fv ov iv cD cE:Value) (g:List Int) (w:World) (hg:Sl vI w gv g) (x:Int):al UY 172 #[.agg #[gv,fv,ov,iv,cD,cE],.int .i64 x] w fun r w'=>r=.int .i64 (j7 (fun y=>y=x) g)∧Ext w w':=by
 refine al.start aca rfl (US rfl) ?_
 rw[cc]
 have hN:=ak.nil w none_
 refine RW.seq (RW.region ?_)
 refine RL.op rfl rfl (bq (cs:=[gv,fv,ov,iv,cD,cE]) rfl rfl hN ?_)
 clear hN
 intro g1 w1 (hN:ak w none_ w1 [_])
 refine RL.ev (v:=.int .i64 (0)) rfl rfl aa (RL.nil (ag ?_))
 iterate 2 refine RW.seq ?_
 refine RW.region (RL.ev (v:=.int .i64 (0)) rfl rfl aa (RL.nil (ag (RW.block ?_))))
 refine RW.loop (fun k R0 bT=>∃i:Nat,R0 1=.int .i64 (x)∧R0 2=.pointer (some ⟨g1,0,none⟩)∧R0 5=.int .i64 ((i:Int))∧ak w none_ bT [.aA g1 [gv,fv,ov,iv,cD,cE] 32]∧(i+k=g.length)∧(∀y∈g.take i,¬(y=x))) (g.length) ?_ ?_
 exact⟨0,rfl,rfl,rfl,hN,by omega,fun x hx=>by cases hx⟩
 clear hN
 rintro k R0 bT ⟨i,bw,bF,bM,hN,eR,eQ⟩
 have bY:∃b6,R0=(aZ (aZ (aZ b6 1 _) 2 _) 5 _):=⟨R0,by rw[ai bw,ai bF,ai bM]⟩
 obtain⟨b6,rfl⟩:=bY
 clear bw bF bM
 iterate 2 refine RW.seq ?_
 refine RW.region (RL.ev (v:=.int .i64 ((i:Int))) rfl rfl U (RL.ev rfl rfl (ah Vh rfl b7 (by decide) rfl) (RL.ev rfl rfl (aj UW rfl rfl (hN.aA 0 rfl) rfl) ?_)))
 have jb:=(hg.o.now hN).aY
 refine RL.ev rfl rfl (aQ UW (hg.o.now hN) rfl) (RL.ev rfl rfl (aV rfl rfl) (RL.nil (ag ?_)))
 refine RW.aN _ rfl (fun bW=>?_) (fun bW=>?_)
 refine RW.skip (ag (RW.seq (RW.block (RW.seq (RW.region (RL.ev rfl rfl (ah Vh rfl b7 (by decide) rfl) (RL.ev rfl rfl (aj UW rfl rfl (hN.aA 0 rfl) rfl) (RL.ev (v:=.int .i64 ((i:Int))) rfl rfl U (RL.ev rfl rfl (aB UW bu (hg.o.now hN) rfl rfl (by omega) (by omega)) ?_)))))))))
 have aw:∃a_,(g)[i]?=some a_:=⟨_,UT (by omega)⟩
 obtain⟨ap,bG⟩:=aw
 refine RL.ev rfl rfl (aF (m:=i) (a:=ap) UU rfl (hg.o.now hN) rfl bG) (RL.ev (v:=.int .i64 (x)) rfl rfl U (RL.ev rfl rfl (cI rfl rfl) (RL.nil (ag ?_))))
 refine RW.aN _ rfl (fun Az=>?_) (fun Az=>?_)
 refine RW.seq (RW.region (RL.ev (v:=.int .i64 ((i:Int))) rfl rfl U (RL.ev (v:=.int .i64 ((i:Int))) rfl rfl aa (RL.nil (ag (RW.ret (aJ ?_)))))))
 iterate 2 refine aD ?_
 refine aJ (aD (aL (RV.tmp rfl) ?_))
 exact⟨congrArg (Vn .i64) (nE eQ bG Az).symm,hN.aE⟩
 refine RW.skip (a7 (ag (RW.region (RL.ev (v:=.int .i64 ((i:Int))) rfl rfl U (RL.ev rfl rfl (an rfl rfl rfl (bc (by omega) (by omega))) (RL.ev (v:=.int .i64 ((i:Int)+1)) rfl rfl aa (RL.nil (ag ?_))))))))
 exact⟨k-1,by omega,i+1,rfl,rfl,rfl,hN,by omega,fun x hx=>(cT bG hx).elim (eQ x) (fun e=>e▸Az)⟩
 refine RW.exit ?_
 iterate 2 refine bm ?_
 refine aO (ag (RW.seq (RW.region (RL.ev (v:=.int .i64 (-1)) rfl rfl aa (RL.nil (ag (RW.ret (aL (RV.tmp rfl) ?_))))))))
 rw[Vo (by omega)]at eQ
 exact⟨congrArg (Vn .i64) (pg eQ).symm,hN.aE⟩
theorem lX (d least:Int) (w:World):al UY 112 #[.int .i64 d,.int .i64 least] w fun r w'=>r=.bool (decide (cG least d))∧Ext w w':=by
 refine al.start aat rfl (US rfl) ?_
 rw[cc]
 have hN:=ak.nil w none_
 refine RW.seq (RW.region (RL.ev (v:=.bool false) rfl rfl aa (RL.nil (ag (RW.seq (RW.region (RL.ev (v:=.int .i64 (d)) rfl rfl U (RL.ev (v:=.int .i64 (least)) rfl rfl U (RL.ev rfl rfl (da rfl rfl) ?_)))))))))
 refine RL.ev (v:=.bool (decide (least≤d))) rfl rfl U ?_
 by_cases jQ:least≤d
 rw[decide_eq_true jQ]
 refine RL.aI (v:=.int .i64 (d)) rfl rfl (by decide) rfl rfl U (RL.aI rfl rfl (by decide) rfl rfl (nF rfl rfl) (RL.ev (v:=.bool (decide (d≤1152921504606846976))) rfl rfl (ao rfl) (RL.ev (v:=.bool (decide (d≤1152921504606846976))) rfl rfl aa (RL.nil (ag (RW.ret (aL (RV.tmp rfl) ?_)))))))
 exact⟨congrArg Vd (decide_eq_decide.2 ⟨fun h=>⟨by omega,h⟩,fun h=>h.2⟩),hN.aE⟩
 rw[decide_eq_false jQ]
 iterate 2 refine RL.off rfl rfl (by decide) rfl rfl ?_
 refine RL.ev (v:=.bool false) rfl rfl (aH rfl) (RL.ev (v:=.bool false) rfl rfl aa (RL.nil (ag (RW.ret (aL (RV.tmp rfl) ?_)))))
 exact⟨congrArg Vd (decide_eq_false (fun h=>by have:=h.1;omega)).symm,hN.aE⟩
theorem j2 (n:Int) (gv fv ov iv cD cE:Value) (g:List Int) (w:World) (hg:Sl vI w gv g) (lv:Value) (l:List Int) (hl:Sl vI w lv l) (gr:Int):al UY 111 #[.int .i64 n,.agg #[gv,fv,ov,iv,cD,cE],lv,.int .i64 gr] w fun r w'=>r=.bool (decide (iJ n (pH g gr) l))∧Ext w w':=by
 refine al.start Y6 rfl (US rfl) ?_
 rw[p7]
 have hN:=ak.nil w none_
 refine RW.seq (RW.region ?_)
 refine RL.op rfl rfl (bq (cs:=[gv,fv,ov,iv,cD,cE]) rfl rfl hN ?_)
 clear hN
 intro g1 w1 (hN:ak w none_ w1 [_])
 refine RL.ev (v:=.bool false) rfl rfl aa (RL.nil (ag ?_))
 iterate 2 refine RW.seq ?_
 refine RW.region (RL.ev (v:=.int .i64 (0)) rfl rfl aa (RL.nil (ag (RW.block ?_))))
 refine RW.loop (fun k R0 bT=>∃i:Nat,R0 0=.int .i64 (n)∧R0 2=lv∧R0 3=.int .i64 (gr)∧R0 5=.pointer (some ⟨g1,0,none⟩)∧R0 9=.int .i64 ((i:Int))∧ak w none_ bT [.aA g1 [gv,fv,ov,iv,cD,cE] 32]∧(i+k=l.length)∧(iJ n (pH g gr) (l.take i))) (l.length) ?_ ?_
 exact⟨0,rfl,rfl,rfl,rfl,rfl,hN,by omega,Ho _ _⟩
 clear hN
 rintro k R0 bT ⟨i,bN,bF,ca,bM,dc,hN,eR,qm⟩
 have bY:∃b6,R0=(aZ (aZ (aZ (aZ (aZ b6 0 _) 2 _) 3 _) 5 _) 9 _):=⟨R0,by rw[ai bN,ai bF,ai ca,ai bM,ai dc]⟩
 obtain⟨b6,rfl⟩:=bY
 clear bN bF ca bM dc
 iterate 2 refine RW.seq ?_
 refine RW.region (RL.ev (v:=.int .i64 ((i:Int))) rfl rfl U (RL.ev (v:=lv) rfl rfl U ?_))
 have jb:=(hl.o.now hN).aY
 refine RL.ev rfl rfl (aQ UW (hl.o.now hN) rfl) (RL.ev rfl rfl (aV rfl rfl) (RL.nil (ag ?_)))
 refine RW.aN _ rfl (fun bW=>?_) (fun bW=>?_)
 refine RW.skip (ag (RW.seq (RW.block (RW.seq (RW.region (RL.ev (v:=.int .i64 (0)) rfl rfl aa (RL.nil (ag ?_))))))))
 iterate 2 refine RW.seq ?_
 have aw:∃a_,l[i]?=some a_:=⟨_,UT (by omega)⟩
 obtain⟨ap,bG⟩:=aw
 obtain⟨qY,iE⟩:∃y,l[i-1]?=some y:=⟨_,UT (by omega)⟩
 replace hN:=hN.ext (Ext.drew bT)
 refine RW.cb rfl (fun u=>ak w none_ u [.aA g1 [gv,fv,ov,iv,cD,cE] 32]) 7 [(0,0),(1,0),(2,0),(3,0),(4,0),(5,1),(6,0)] (by intro _ _ _ h;exact h) (by kernel_rfl) hN (RQ.ev rfl rfl (fun w hS=>(aG (cs:=[gv,fv,ov,iv,cD,cE]) Vh rfl ga rfl (hS.aA 0 rfl))) (RQ.ev (v:=lv) rfl rfl (fun w hS=>U) (RQ.ev (v:=.int .i64 ((i:Int))) rfl rfl (fun w hS=>U) (RQ.ev rfl rfl (fun w hS=>(aB UW bu (hl.o.now hS) rfl rfl (by omega) (by omega))) (RQ.ev rfl rfl (fun w hS=>(aF (m:=i) (a:=ap) UU rfl (hl.o.now hS) rfl bG)) ?_)))))
 refine RQ.do rfl rfl (aR aca rfl rfl rfl rfl ((tK _ _ _ _ _ _ g _ (hg.o.now hN) (ap)).mono ?_))
 rintro _ w4 ⟨rfl,aW⟩
 replace hN:=hN.ext aW
 clear aW
 refine⟨hN,?_⟩
 refine RQ.ev rfl rfl (fun w hS=>(da rfl rfl)) (RQ.done (by kernel_rfl) (ag ?_))
 refine RW.aN _ rfl (fun Qf=>?_) (fun Qf=>?_)
 refine RW.region (RL.ev (v:=.int .i64 (1)) rfl rfl aa (RL.nil (ag (RW.seq ?_))))
 replace hN:=hN.ext (Ext.drew w4)
 refine RW.cb rfl (fun u=>ak w none_ u [.aA g1 [gv,fv,ov,iv,cD,cE] 32]) 38 [(0,0),(1,0),(2,0),(3,0),(4,0),(5,0),(6,0),(7,0),(8,0),(9,0),(10,0),(11,0),(12,0),(13,0),(14,0),(15,0),(16,0),(17,0),(18,0),(19,0),(20,0),(21,0),(22,0),(23,0),(24,0),(25,0),(26,0),(27,0),(28,0),(29,0),(30,0),(31,0),(32,0),(33,0),(34,0),(35,0),(36,0),(37,0)] (by intro _ _ _ h;exact h) (by kernel_rfl) hN (RQ.ev (v:=lv) rfl rfl (fun w hS=>U) (RQ.ev (v:=.int .i64 ((i:Int))) rfl rfl (fun w hS=>U) (RQ.ev rfl rfl (fun w hS=>(aB UW bu (hl.o.now hS) rfl rfl (by omega) (by omega))) (RQ.ev rfl rfl (fun w hS=>(aF (m:=i) (a:=ap) UU rfl (hl.o.now hS) rfl bG)) (RQ.ev rfl rfl (fun w hS=>(aV rfl rfl)) (RQ.ev (v:=.bool (decide (ap<0))) rfl rfl (fun w hS=>U) ?_))))))
 by_cases yE:ap<0
 rw[decide_eq_true yE]
 iterate 6 refine RQ.off rfl rfl rfl rfl ?_
 refine RQ.ev (v:=.bool true) rfl rfl (fun w hS=>(ao rfl)) (RQ.ev (v:=.bool true) rfl rfl (fun w hS=>U) ?_)
 iterate 3 refine RQ.off rfl rfl rfl rfl ?_
 iterate 10 refine RQ.kK rfl rfl rfl rfl ?_
 refine RQ.off rfl rfl rfl rfl (RQ.ev (v:=.bool true) rfl rfl (fun w hS=>(ao rfl)) (RQ.ev (v:=.bool true) rfl rfl (fun w hS=>U) ?_))
 iterate 3 refine RQ.off rfl rfl rfl rfl ?_
 iterate 3 refine RQ.kK rfl rfl rfl rfl ?_
 refine RQ.off rfl rfl rfl rfl (RQ.ev (v:=.bool true) rfl rfl (fun w hS=>(ao rfl)) (RQ.done (by kernel_rfl) (ag (RW.bK rfl (RW.seq (RW.region (RL.ev (v:=.bool false) rfl rfl aa (RL.nil (ag ?_)))))))))
 refine RW.ret (aJ ?_)
 iterate 2 refine aD ?_
 refine aJ (aD (aL (RV.tmp rfl) ?_))
 exact⟨congrArg Vd (decide_eq_false (fun h=>by
  have h1:=h.1 _ (UZ bG)
  have h2:=h1.2
  unfold pH at h2
  first
  |omega
  |(rw[if_pos (cA.1 (by omega))]at h2;omega)
  |(rw[if_neg (fun h=>absurd (cA.2 h) (by omega))]at h2;omega)
  |(have h3:=h.2 (i-1) qY ap iE (by rw[show i-1+1=i by omega];exact bG);omega))).symm,hN.aE⟩
 rw[decide_eq_false yE]
 refine RQ.on (v:=lv) rfl rfl rfl rfl (fun w hS=>U) (RQ.on (v:=.int .i64 ((i:Int))) rfl rfl rfl rfl (fun w hS=>U) (RQ.on rfl rfl rfl rfl (fun w hS=>(aB UW bu (hl.o.now hS) rfl rfl (by omega) (by omega))) (RQ.on rfl rfl rfl rfl (fun w hS=>(aF (m:=i) (a:=ap) UU rfl (hl.o.now hS) rfl bG)) (RQ.on (v:=.int .i64 (n)) rfl rfl rfl rfl (fun w hS=>U) (RQ.on rfl rfl rfl rfl (fun w hS=>(da rfl rfl)) (RQ.ev (v:=.bool (decide (n≤ap))) rfl rfl (fun w hS=>(aH rfl)) (RQ.ev (v:=.bool (decide (n≤ap))) rfl rfl (fun w hS=>U) ?_)))))))
 by_cases sz:n≤ap
 rw[decide_eq_true sz]
 iterate 3 refine RQ.off rfl rfl rfl rfl ?_
 iterate 10 refine RQ.kK rfl rfl rfl rfl ?_
 refine RQ.off rfl rfl rfl rfl (RQ.ev (v:=.bool true) rfl rfl (fun w hS=>(ao rfl)) (RQ.ev (v:=.bool true) rfl rfl (fun w hS=>U) ?_))
 iterate 3 refine RQ.off rfl rfl rfl rfl ?_
 iterate 3 refine RQ.kK rfl rfl rfl rfl ?_
 refine RQ.off rfl rfl rfl rfl (RQ.ev (v:=.bool true) rfl rfl (fun w hS=>(ao rfl)) (RQ.done (by kernel_rfl) (ag (RW.bK rfl (RW.seq (RW.region (RL.ev (v:=.bool false) rfl rfl aa (RL.nil (ag ?_)))))))))
 refine RW.ret (aJ ?_)
 iterate 2 refine aD ?_
 refine aJ (aD (aL (RV.tmp rfl) ?_))
 exact⟨congrArg Vd (decide_eq_false (fun h=>by
  have h1:=h.1 _ (UZ bG)
  have h2:=h1.2
  unfold pH at h2
  first
  |omega
  |(rw[if_pos (cA.1 (by omega))]at h2;omega)
  |(rw[if_neg (fun h=>absurd (cA.2 h) (by omega))]at h2;omega)
  |(have h3:=h.2 (i-1) qY ap iE (by rw[show i-1+1=i by omega];exact bG);omega))).symm,hN.aE⟩
 rw[decide_eq_false sz]
 refine RQ.on (v:=.int .i64 ((i:Int))) rfl rfl rfl rfl (fun w hS=>U) (RQ.on rfl rfl rfl rfl (fun w hS=>(cN rfl rfl)) (RQ.on (v:=.bool (decide (0<(i:Int)))) rfl rfl rfl rfl (fun w hS=>U) ?_))
 by_cases sy:0<(i:Int)
 rw[decide_eq_true sy]
 refine RQ.on (v:=lv) rfl rfl rfl rfl (fun w hS=>U) (RQ.on (v:=.int .i64 ((i:Int))) rfl rfl rfl rfl (fun w hS=>U) (RQ.on rfl rfl rfl rfl (fun w hS=>(aB UW bu (hl.o.now hS) rfl rfl (by omega) (by omega))) (RQ.on rfl rfl rfl rfl (fun w hS=>(aF (m:=i) (a:=ap) UU rfl (hl.o.now hS) rfl bG)) (RQ.on (v:=lv) rfl rfl rfl rfl (fun w hS=>U) (RQ.on (v:=.int .i64 ((i:Int))) rfl rfl rfl rfl (fun w hS=>U) (RQ.on rfl rfl rfl rfl (fun w hS=>(an rfl rfl rfl (kc (by omega) (by omega)))) (RQ.on rfl rfl rfl rfl (fun w hS=>(aB UW bu (hl.o.now hS) rfl rfl (by omega) (by omega))) (RQ.on rfl rfl rfl rfl (fun w hS=>(aF (m:=((i:Int)-1).toNat) (a:=qY) UU rfl (hl.o.now hS) rfl (by rw[show((i:Int)-1).toNat=i-1 by omega];exact iE))) (RQ.on rfl rfl rfl rfl (fun w hS=>(nF rfl rfl)) ?_)))))))))
 refine RQ.on (v:=.bool (decide (ap≤qY))) rfl rfl rfl rfl (fun w hS=>(ao rfl)) (RQ.ev (v:=.bool (decide (ap≤qY))) rfl rfl (fun w hS=>(aH rfl)) (RQ.ev (v:=.bool (decide (ap≤qY))) rfl rfl (fun w hS=>U) ?_))
 by_cases sx:ap≤qY
 rw[decide_eq_true sx]
 iterate 3 refine RQ.off rfl rfl rfl rfl ?_
 iterate 3 refine RQ.kK rfl rfl rfl rfl ?_
 refine RQ.off rfl rfl rfl rfl (RQ.ev (v:=.bool true) rfl rfl (fun w hS=>(ao rfl)) (RQ.done (by kernel_rfl) (ag (RW.bK rfl (RW.seq (RW.region (RL.ev (v:=.bool false) rfl rfl aa (RL.nil (ag ?_)))))))))
 refine RW.ret (aJ ?_)
 iterate 2 refine aD ?_
 refine aJ (aD (aL (RV.tmp rfl) ?_))
 exact⟨congrArg Vd (decide_eq_false (fun h=>by
  have h1:=h.1 _ (UZ bG)
  have h2:=h1.2
  unfold pH at h2
  first
  |omega
  |(rw[if_pos (cA.1 (by omega))]at h2;omega)
  |(rw[if_neg (fun h=>absurd (cA.2 h) (by omega))]at h2;omega)
  |(have h3:=h.2 (i-1) qY ap iE (by rw[show i-1+1=i by omega];exact bG);omega))).symm,hN.aE⟩
 rw[decide_eq_false sx]
 refine RQ.on (v:=.int .i64 (gr)) rfl rfl rfl rfl (fun w hS=>U) (RQ.on rfl rfl rfl rfl (fun w hS=>(aV rfl rfl)) (RQ.on (v:=.bool (decide (gr<2))) rfl rfl rfl rfl (fun w hS=>U) ?_))
 by_cases js:gr<2
 rw[decide_eq_true js]
 refine RQ.on (v:=.int .i64 (1)) rfl rfl rfl rfl (fun w hS=>U) (RQ.on (v:=.int .i64 (gr)) rfl rfl rfl rfl (fun w hS=>U) (RQ.on rfl rfl rfl rfl (fun w hS=>(bp rfl rfl)) (RQ.on (v:=.bool (decide (¬1=gr))) rfl rfl rfl rfl (fun w hS=>(ao rfl)) (RQ.ev (v:=.bool (decide (¬1=gr))) rfl rfl (fun w hS=>(aH rfl)) (RQ.done (by kernel_rfl) (ag ?_))))))
 refine RW.aN _ rfl (fun Ay=>?_) (fun Ay=>?_)
 refine RW.seq (RW.region (RL.ev (v:=.bool false) rfl rfl aa (RL.nil (ag (RW.ret (aJ ?_))))))
 iterate 2 refine aD ?_
 refine aJ (aD (aL (RV.tmp rfl) ?_))
 exact⟨congrArg Vd (decide_eq_false (fun h=>by
  have h1:=h.1 _ (UZ bG)
  have h2:=h1.2
  unfold pH at h2
  first
  |omega
  |(rw[if_pos (cA.1 (by omega))]at h2;omega)
  |(rw[if_neg (fun h=>absurd (cA.2 h) (by omega))]at h2;omega)
  |(have h3:=h.2 (i-1) qY ap iE (by rw[show i-1+1=i by omega];exact bG);omega))).symm,hN.aE⟩
 refine RW.skip (a7 (ag (RW.region (RL.ev (v:=.int .i64 ((i:Int))) rfl rfl U (RL.ev rfl rfl (an rfl rfl rfl (bc (by omega) (by omega))) (RL.ev (v:=.int .i64 ((i:Int)+1)) rfl rfl aa (RL.nil (ag ?_))))))))
 exact⟨k-1,by omega,i+1,rfl,rfl,rfl,rfl,rfl,hN,by omega,iA qm bG (by omega) (fun Kz=>by first|omega|(rw[if_pos (cA.1 (by omega))];omega)|(rw[if_neg (fun h=>absurd (cA.2 h) (by omega))];omega)) (fun y hi hy=>by first|omega|(rw[iE]at hy;cases hy;omega))⟩
 rw[decide_eq_false js]
 iterate 3 refine RQ.off rfl rfl rfl rfl ?_
 refine RQ.on (v:=.bool false) rfl rfl rfl rfl (fun w hS=>(aH rfl)) (RQ.ev (v:=.bool false) rfl rfl (fun w hS=>(aH rfl)) (RQ.done (by kernel_rfl) (ag (RW.dD rfl (RW.skip (a7 (ag (RW.region (RL.ev (v:=.int .i64 ((i:Int))) rfl rfl U ?_)))))))))
 refine RL.ev rfl rfl (an rfl rfl rfl (bc (by omega) (by omega))) (RL.ev (v:=.int .i64 ((i:Int)+1)) rfl rfl aa (RL.nil (ag ?_)))
 exact⟨k-1,by omega,i+1,rfl,rfl,rfl,rfl,rfl,hN,by omega,iA qm bG (by omega) (fun Kz=>by first|omega|(rw[if_pos (cA.1 (by omega))];omega)|(rw[if_neg (fun h=>absurd (cA.2 h) (by omega))];omega)) (fun y hi hy=>by first|omega|(rw[iE]at hy;cases hy;omega))⟩
 rw[decide_eq_false sy]
 iterate 10 refine RQ.off rfl rfl rfl rfl ?_
 refine RQ.on (v:=.bool false) rfl rfl rfl rfl (fun w hS=>(aH rfl)) (RQ.ev (v:=.bool false) rfl rfl (fun w hS=>(aH rfl)) (RQ.ev (v:=.bool false) rfl rfl (fun w hS=>U) (RQ.on (v:=.int .i64 (gr)) rfl rfl rfl rfl (fun w hS=>U) (RQ.on rfl rfl rfl rfl (fun w hS=>(aV rfl rfl)) (RQ.on (v:=.bool (decide (gr<2))) rfl rfl rfl rfl (fun w hS=>U) ?_)))))
 by_cases js:gr<2
 rw[decide_eq_true js]
 refine RQ.on (v:=.int .i64 (1)) rfl rfl rfl rfl (fun w hS=>U) (RQ.on (v:=.int .i64 (gr)) rfl rfl rfl rfl (fun w hS=>U) (RQ.on rfl rfl rfl rfl (fun w hS=>(bp rfl rfl)) (RQ.on (v:=.bool (decide (¬1=gr))) rfl rfl rfl rfl (fun w hS=>(ao rfl)) (RQ.ev (v:=.bool (decide (¬1=gr))) rfl rfl (fun w hS=>(aH rfl)) (RQ.done (by kernel_rfl) (ag ?_))))))
 refine RW.aN _ rfl (fun Ay=>?_) (fun Ay=>?_)
 refine RW.seq (RW.region (RL.ev (v:=.bool false) rfl rfl aa (RL.nil (ag (RW.ret (aJ ?_))))))
 iterate 2 refine aD ?_
 refine aJ (aD (aL (RV.tmp rfl) ?_))
 exact⟨congrArg Vd (decide_eq_false (fun h=>by
  have h1:=h.1 _ (UZ bG)
  have h2:=h1.2
  unfold pH at h2
  first
  |omega
  |(rw[if_pos (cA.1 (by omega))]at h2;omega)
  |(rw[if_neg (fun h=>absurd (cA.2 h) (by omega))]at h2;omega)
  |(have h3:=h.2 (i-1) qY ap iE (by rw[show i-1+1=i by omega];exact bG);omega))).symm,hN.aE⟩
 refine RW.skip (a7 (ag (RW.region (RL.ev (v:=.int .i64 ((i:Int))) rfl rfl U (RL.ev rfl rfl (an rfl rfl rfl (bc (by omega) (by omega))) (RL.ev (v:=.int .i64 ((i:Int)+1)) rfl rfl aa (RL.nil (ag ?_))))))))
 exact⟨k-1,by omega,i+1,rfl,rfl,rfl,rfl,rfl,hN,by omega,iA qm bG (by omega) (fun Kz=>by first|omega|(rw[if_pos (cA.1 (by omega))];omega)|(rw[if_neg (fun h=>absurd (cA.2 h) (by omega))];omega)) (fun y hi hy=>by first|omega|(rw[iE]at hy;cases hy;omega))⟩
 rw[decide_eq_false js]
 iterate 3 refine RQ.off rfl rfl rfl rfl ?_
 refine RQ.on (v:=.bool false) rfl rfl rfl rfl (fun w hS=>(aH rfl)) (RQ.ev (v:=.bool false) rfl rfl (fun w hS=>(aH rfl)) (RQ.done (by kernel_rfl) (ag (RW.dD rfl (RW.skip (a7 (ag (RW.region (RL.ev (v:=.int .i64 ((i:Int))) rfl rfl U ?_)))))))))
 refine RL.ev rfl rfl (an rfl rfl rfl (bc (by omega) (by omega))) (RL.ev (v:=.int .i64 ((i:Int)+1)) rfl rfl aa (RL.nil (ag ?_)))
 exact⟨k-1,by omega,i+1,rfl,rfl,rfl,rfl,rfl,hN,by omega,iA qm bG (by omega) (fun Kz=>by first|omega|(rw[if_pos (cA.1 (by omega))];omega)|(rw[if_neg (fun h=>absurd (cA.2 h) (by omega))];omega)) (fun y hi hy=>by first|omega|(rw[iE]at hy;cases hy;omega))⟩
 refine RW.skip (ag (RW.seq ?_))
 replace hN:=hN.ext (Ext.drew w4)
 refine RW.cb rfl (fun u=>ak w none_ u [.aA g1 [gv,fv,ov,iv,cD,cE] 32]) 38 [(0,0),(1,0),(2,0),(3,0),(4,0),(5,0),(6,0),(7,0),(8,0),(9,0),(10,0),(11,0),(12,0),(13,0),(14,0),(15,0),(16,0),(17,0),(18,0),(19,0),(20,0),(21,0),(22,0),(23,0),(24,0),(25,0),(26,0),(27,0),(28,0),(29,0),(30,0),(31,0),(32,0),(33,0),(34,0),(35,0),(36,0),(37,0)] (by intro _ _ _ h;exact h) (by kernel_rfl) hN (RQ.ev (v:=lv) rfl rfl (fun w hS=>U) (RQ.ev (v:=.int .i64 ((i:Int))) rfl rfl (fun w hS=>U) (RQ.ev rfl rfl (fun w hS=>(aB UW bu (hl.o.now hS) rfl rfl (by omega) (by omega))) (RQ.ev rfl rfl (fun w hS=>(aF (m:=i) (a:=ap) UU rfl (hl.o.now hS) rfl bG)) (RQ.ev rfl rfl (fun w hS=>(aV rfl rfl)) (RQ.ev (v:=.bool (decide (ap<0))) rfl rfl (fun w hS=>U) ?_))))))
 by_cases yE:ap<0
 rw[decide_eq_true yE]
 iterate 6 refine RQ.off rfl rfl rfl rfl ?_
 refine RQ.ev (v:=.bool true) rfl rfl (fun w hS=>(ao rfl)) (RQ.ev (v:=.bool true) rfl rfl (fun w hS=>U) ?_)
 iterate 3 refine RQ.off rfl rfl rfl rfl ?_
 iterate 10 refine RQ.kK rfl rfl rfl rfl ?_
 refine RQ.off rfl rfl rfl rfl (RQ.ev (v:=.bool true) rfl rfl (fun w hS=>(ao rfl)) (RQ.ev (v:=.bool true) rfl rfl (fun w hS=>U) ?_))
 iterate 3 refine RQ.off rfl rfl rfl rfl ?_
 iterate 3 refine RQ.kK rfl rfl rfl rfl ?_
 refine RQ.off rfl rfl rfl rfl (RQ.ev (v:=.bool true) rfl rfl (fun w hS=>(ao rfl)) (RQ.done (by kernel_rfl) (ag (RW.bK rfl (RW.seq (RW.region (RL.ev (v:=.bool false) rfl rfl aa (RL.nil (ag ?_)))))))))
 refine RW.ret (aJ ?_)
 iterate 2 refine aD ?_
 refine aJ (aD (aL (RV.tmp rfl) ?_))
 exact⟨congrArg Vd (decide_eq_false (fun h=>by
  have h1:=h.1 _ (UZ bG)
  have h2:=h1.2
  unfold pH at h2
  first
  |omega
  |(rw[if_pos (cA.1 (by omega))]at h2;omega)
  |(rw[if_neg (fun h=>absurd (cA.2 h) (by omega))]at h2;omega)
  |(have h3:=h.2 (i-1) qY ap iE (by rw[show i-1+1=i by omega];exact bG);omega))).symm,hN.aE⟩
 rw[decide_eq_false yE]
 refine RQ.on (v:=lv) rfl rfl rfl rfl (fun w hS=>U) (RQ.on (v:=.int .i64 ((i:Int))) rfl rfl rfl rfl (fun w hS=>U) (RQ.on rfl rfl rfl rfl (fun w hS=>(aB UW bu (hl.o.now hS) rfl rfl (by omega) (by omega))) (RQ.on rfl rfl rfl rfl (fun w hS=>(aF (m:=i) (a:=ap) UU rfl (hl.o.now hS) rfl bG)) (RQ.on (v:=.int .i64 (n)) rfl rfl rfl rfl (fun w hS=>U) (RQ.on rfl rfl rfl rfl (fun w hS=>(da rfl rfl)) (RQ.ev (v:=.bool (decide (n≤ap))) rfl rfl (fun w hS=>(aH rfl)) (RQ.ev (v:=.bool (decide (n≤ap))) rfl rfl (fun w hS=>U) ?_)))))))
 by_cases sz:n≤ap
 rw[decide_eq_true sz]
 iterate 3 refine RQ.off rfl rfl rfl rfl ?_
 iterate 10 refine RQ.kK rfl rfl rfl rfl ?_
 refine RQ.off rfl rfl rfl rfl (RQ.ev (v:=.bool true) rfl rfl (fun w hS=>(ao rfl)) (RQ.ev (v:=.bool true) rfl rfl (fun w hS=>U) ?_))
 iterate 3 refine RQ.off rfl rfl rfl rfl ?_
 iterate 3 refine RQ.kK rfl rfl rfl rfl ?_
 refine RQ.off rfl rfl rfl rfl (RQ.ev (v:=.bool true) rfl rfl (fun w hS=>(ao rfl)) (RQ.done (by kernel_rfl) (ag (RW.bK rfl (RW.seq (RW.region (RL.ev (v:=.bool false) rfl rfl aa (RL.nil (ag ?_)))))))))
 refine RW.ret (aJ ?_)
 iterate 2 refine aD ?_
 refine aJ (aD (aL (RV.tmp rfl) ?_))
 exact⟨congrArg Vd (decide_eq_false (fun h=>by
  have h1:=h.1 _ (UZ bG)
  have h2:=h1.2
  unfold pH at h2
  first
  |omega
  |(rw[if_pos (cA.1 (by omega))]at h2;omega)
  |(rw[if_neg (fun h=>absurd (cA.2 h) (by omega))]at h2;omega)
  |(have h3:=h.2 (i-1) qY ap iE (by rw[show i-1+1=i by omega];exact bG);omega))).symm,hN.aE⟩
 rw[decide_eq_false sz]
 refine RQ.on (v:=.int .i64 ((i:Int))) rfl rfl rfl rfl (fun w hS=>U) (RQ.on rfl rfl rfl rfl (fun w hS=>(cN rfl rfl)) (RQ.on (v:=.bool (decide (0<(i:Int)))) rfl rfl rfl rfl (fun w hS=>U) ?_))
 by_cases sy:0<(i:Int)
 rw[decide_eq_true sy]
 refine RQ.on (v:=lv) rfl rfl rfl rfl (fun w hS=>U) (RQ.on (v:=.int .i64 ((i:Int))) rfl rfl rfl rfl (fun w hS=>U) (RQ.on rfl rfl rfl rfl (fun w hS=>(aB UW bu (hl.o.now hS) rfl rfl (by omega) (by omega))) (RQ.on rfl rfl rfl rfl (fun w hS=>(aF (m:=i) (a:=ap) UU rfl (hl.o.now hS) rfl bG)) (RQ.on (v:=lv) rfl rfl rfl rfl (fun w hS=>U) (RQ.on (v:=.int .i64 ((i:Int))) rfl rfl rfl rfl (fun w hS=>U) (RQ.on rfl rfl rfl rfl (fun w hS=>(an rfl rfl rfl (kc (by omega) (by omega)))) (RQ.on rfl rfl rfl rfl (fun w hS=>(aB UW bu (hl.o.now hS) rfl rfl (by omega) (by omega))) (RQ.on rfl rfl rfl rfl (fun w hS=>(aF (m:=((i:Int)-1).toNat) (a:=qY) UU rfl (hl.o.now hS) rfl (by rw[show((i:Int)-1).toNat=i-1 by omega];exact iE))) (RQ.on rfl rfl rfl rfl (fun w hS=>(nF rfl rfl)) ?_)))))))))
 refine RQ.on (v:=.bool (decide (ap≤qY))) rfl rfl rfl rfl (fun w hS=>(ao rfl)) (RQ.ev (v:=.bool (decide (ap≤qY))) rfl rfl (fun w hS=>(aH rfl)) (RQ.ev (v:=.bool (decide (ap≤qY))) rfl rfl (fun w hS=>U) ?_))
 by_cases sx:ap≤qY
 rw[decide_eq_true sx]
 iterate 3 refine RQ.off rfl rfl rfl rfl ?_
 iterate 3 refine RQ.kK rfl rfl rfl rfl ?_
 refine RQ.off rfl rfl rfl rfl (RQ.ev (v:=.bool true) rfl rfl (fun w hS=>(ao rfl)) (RQ.done (by kernel_rfl) (ag (RW.bK rfl (RW.seq (RW.region (RL.ev (v:=.bool false) rfl rfl aa (RL.nil (ag ?_)))))))))
 refine RW.ret (aJ ?_)
 iterate 2 refine aD ?_
 refine aJ (aD (aL (RV.tmp rfl) ?_))
 exact⟨congrArg Vd (decide_eq_false (fun h=>by
  have h1:=h.1 _ (UZ bG)
  have h2:=h1.2
  unfold pH at h2
  first
  |omega
  |(rw[if_pos (cA.1 (by omega))]at h2;omega)
  |(rw[if_neg (fun h=>absurd (cA.2 h) (by omega))]at h2;omega)
  |(have h3:=h.2 (i-1) qY ap iE (by rw[show i-1+1=i by omega];exact bG);omega))).symm,hN.aE⟩
 rw[decide_eq_false sx]
 refine RQ.on (v:=.int .i64 (gr)) rfl rfl rfl rfl (fun w hS=>U) (RQ.on rfl rfl rfl rfl (fun w hS=>(aV rfl rfl)) (RQ.on (v:=.bool (decide (gr<2))) rfl rfl rfl rfl (fun w hS=>U) ?_))
 by_cases js:gr<2
 rw[decide_eq_true js]
 refine RQ.on (v:=.int .i64 (0)) rfl rfl rfl rfl (fun w hS=>U) (RQ.on (v:=.int .i64 (gr)) rfl rfl rfl rfl (fun w hS=>U) (RQ.on rfl rfl rfl rfl (fun w hS=>(bp rfl rfl)) (RQ.on (v:=.bool (decide (¬0=gr))) rfl rfl rfl rfl (fun w hS=>(ao rfl)) (RQ.ev (v:=.bool (decide (¬0=gr))) rfl rfl (fun w hS=>(aH rfl)) (RQ.done (by kernel_rfl) (ag ?_))))))
 refine RW.aN _ rfl (fun Ay=>?_) (fun Ay=>?_)
 refine RW.seq (RW.region (RL.ev (v:=.bool false) rfl rfl aa (RL.nil (ag (RW.ret (aJ ?_))))))
 iterate 2 refine aD ?_
 refine aJ (aD (aL (RV.tmp rfl) ?_))
 exact⟨congrArg Vd (decide_eq_false (fun h=>by
  have h1:=h.1 _ (UZ bG)
  have h2:=h1.2
  unfold pH at h2
  first
  |omega
  |(rw[if_pos (cA.1 (by omega))]at h2;omega)
  |(rw[if_neg (fun h=>absurd (cA.2 h) (by omega))]at h2;omega)
  |(have h3:=h.2 (i-1) qY ap iE (by rw[show i-1+1=i by omega];exact bG);omega))).symm,hN.aE⟩
 refine RW.skip (a7 (ag (RW.region (RL.ev (v:=.int .i64 ((i:Int))) rfl rfl U (RL.ev rfl rfl (an rfl rfl rfl (bc (by omega) (by omega))) (RL.ev (v:=.int .i64 ((i:Int)+1)) rfl rfl aa (RL.nil (ag ?_))))))))
 exact⟨k-1,by omega,i+1,rfl,rfl,rfl,rfl,rfl,hN,by omega,iA qm bG (by omega) (fun Kz=>by first|omega|(rw[if_pos (cA.1 (by omega))];omega)|(rw[if_neg (fun h=>absurd (cA.2 h) (by omega))];omega)) (fun y hi hy=>by first|omega|(rw[iE]at hy;cases hy;omega))⟩
 rw[decide_eq_false js]
 iterate 3 refine RQ.off rfl rfl rfl rfl ?_
 refine RQ.on (v:=.bool false) rfl rfl rfl rfl (fun w hS=>(aH rfl)) (RQ.ev (v:=.bool false) rfl rfl (fun w hS=>(aH rfl)) (RQ.done (by kernel_rfl) (ag (RW.dD rfl (RW.skip (a7 (ag (RW.region (RL.ev (v:=.int .i64 ((i:Int))) rfl rfl U ?_)))))))))
 refine RL.ev rfl rfl (an rfl rfl rfl (bc (by omega) (by omega))) (RL.ev (v:=.int .i64 ((i:Int)+1)) rfl rfl aa (RL.nil (ag ?_)))
 exact⟨k-1,by omega,i+1,rfl,rfl,rfl,rfl,rfl,hN,by omega,iA qm bG (by omega) (fun Kz=>by first|omega|(rw[if_pos (cA.1 (by omega))];omega)|(rw[if_neg (fun h=>absurd (cA.2 h) (by omega))];omega)) (fun y hi hy=>by first|omega|(rw[iE]at hy;cases hy;omega))⟩
 rw[decide_eq_false sy]
 iterate 10 refine RQ.off rfl rfl rfl rfl ?_
 refine RQ.on (v:=.bool false) rfl rfl rfl rfl (fun w hS=>(aH rfl)) (RQ.ev (v:=.bool false) rfl rfl (fun w hS=>(aH rfl)) (RQ.ev (v:=.bool false) rfl rfl (fun w hS=>U) (RQ.on (v:=.int .i64 (gr)) rfl rfl rfl rfl (fun w hS=>U) (RQ.on rfl rfl rfl rfl (fun w hS=>(aV rfl rfl)) (RQ.on (v:=.bool (decide (gr<2))) rfl rfl rfl rfl (fun w hS=>U) ?_)))))
 by_cases js:gr<2
 rw[decide_eq_true js]
 refine RQ.on (v:=.int .i64 (0)) rfl rfl rfl rfl (fun w hS=>U) (RQ.on (v:=.int .i64 (gr)) rfl rfl rfl rfl (fun w hS=>U) (RQ.on rfl rfl rfl rfl (fun w hS=>(bp rfl rfl)) (RQ.on (v:=.bool (decide (¬0=gr))) rfl rfl rfl rfl (fun w hS=>(ao rfl)) (RQ.ev (v:=.bool (decide (¬0=gr))) rfl rfl (fun w hS=>(aH rfl)) (RQ.done (by kernel_rfl) (ag ?_))))))
 refine RW.aN _ rfl (fun Ay=>?_) (fun Ay=>?_)
 refine RW.seq (RW.region (RL.ev (v:=.bool false) rfl rfl aa (RL.nil (ag (RW.ret (aJ ?_))))))
 iterate 2 refine aD ?_
 refine aJ (aD (aL (RV.tmp rfl) ?_))
 exact⟨congrArg Vd (decide_eq_false (fun h=>by
  have h1:=h.1 _ (UZ bG)
  have h2:=h1.2
  unfold pH at h2
  first
  |omega
  |(rw[if_pos (cA.1 (by omega))]at h2;omega)
  |(rw[if_neg (fun h=>absurd (cA.2 h) (by omega))]at h2;omega)
  |(have h3:=h.2 (i-1) qY ap iE (by rw[show i-1+1=i by omega];exact bG);omega))).symm,hN.aE⟩
 refine RW.skip (a7 (ag (RW.region (RL.ev (v:=.int .i64 ((i:Int))) rfl rfl U (RL.ev rfl rfl (an rfl rfl rfl (bc (by omega) (by omega))) (RL.ev (v:=.int .i64 ((i:Int)+1)) rfl rfl aa (RL.nil (ag ?_))))))))
 exact⟨k-1,by omega,i+1,rfl,rfl,rfl,rfl,rfl,hN,by omega,iA qm bG (by omega) (fun Kz=>by first|omega|(rw[if_pos (cA.1 (by omega))];omega)|(rw[if_neg (fun h=>absurd (cA.2 h) (by omega))];omega)) (fun y hi hy=>by first|omega|(rw[iE]at hy;cases hy;omega))⟩
 rw[decide_eq_false js]
 iterate 3 refine RQ.off rfl rfl rfl rfl ?_
 refine RQ.on (v:=.bool false) rfl rfl rfl rfl (fun w hS=>(aH rfl)) (RQ.ev (v:=.bool false) rfl rfl (fun w hS=>(aH rfl)) (RQ.done (by kernel_rfl) (ag (RW.dD rfl (RW.skip (a7 (ag (RW.region (RL.ev (v:=.int .i64 ((i:Int))) rfl rfl U ?_)))))))))
 refine RL.ev rfl rfl (an rfl rfl rfl (bc (by omega) (by omega))) (RL.ev (v:=.int .i64 ((i:Int)+1)) rfl rfl aa (RL.nil (ag ?_)))
 exact⟨k-1,by omega,i+1,rfl,rfl,rfl,rfl,rfl,hN,by omega,iA qm bG (by omega) (fun Kz=>by first|omega|(rw[if_pos (cA.1 (by omega))];omega)|(rw[if_neg (fun h=>absurd (cA.2 h) (by omega))];omega)) (fun y hi hy=>by first|omega|(rw[iE]at hy;cases hy;omega))⟩
 refine RW.exit ?_
 iterate 2 refine bm ?_
 refine aO (ag (RW.seq (RW.region (RL.ev (v:=.bool true) rfl rfl aa (RL.nil (ag (RW.ret (aL (RV.tmp rfl) ?_))))))))
 rw[Vo (by omega)]at qm
 exact⟨congrArg Vd (decide_eq_true qm).symm,hN.aE⟩
end Go.Proofs.YtngkdkbpgoddlaaGreat
namespace Go.Proofs.YtngkdkbpgoddlaaGreat
open Go.RowKit Go.Rl
open Go.Gr
theorem oe (n:Int) (gv fv ov iv cD cE:Value) (g:List Int) (w:World) (hg:Sl vI w gv g) (lv:Value) (hs:List Hd) (ls:List (List Int)) (hl:Sl vh w lv hs) (ef:ep none_ vI w hs ls):al UY 114 #[.int .i64 n,.agg #[gv,fv,ov,iv,cD,cE],lv] w fun r w'=>r=.bool (decide (oJ n g ls))∧Ext w w':=by
 refine al.start aau rfl (US rfl) ?_
 rw[jB]
 have hN:=ak.nil w none_
 have Ct:=ef.1
 refine RW.seq (RW.region ?_)
 refine RL.op rfl rfl (bq (cs:=[gv,fv,ov,iv,cD,cE]) rfl rfl hN ?_)
 clear hN
 intro g1 w1 (hN:ak w none_ w1 [_])
 refine RL.ev (v:=.bool false) rfl rfl aa (RL.nil (ag ?_))
 iterate 2 refine RW.seq ?_
 refine RW.region (RL.ev (v:=.int .i64 (0)) rfl rfl aa (RL.nil (ag (RW.block ?_))))
 refine RW.loop (fun k R0 bT=>∃i:Nat,R0 0=.int .i64 (n)∧R0 2=lv∧R0 4=.pointer (some ⟨g1,0,none⟩)∧R0 7=.int .i64 ((i:Int))∧ak w none_ bT [.aA g1 [gv,fv,ov,iv,cD,cE] 32]∧(i+k=hs.length)∧(∀m r,m<i→ls[m]?=some r→iJ n (pH g 0) r)) (hs.length) ?_ ?_
 exact⟨0,rfl,rfl,rfl,rfl,hN,by omega,fun m r hm=>absurd hm (by omega)⟩
 clear hN
 rintro k R0 bT ⟨i,bN,bF,cg,cd,hN,eR,qm⟩
 have bY:∃b6,R0=(aZ (aZ (aZ (aZ b6 0 _) 2 _) 4 _) 7 _):=⟨R0,by rw[ai bN,ai bF,ai cg,ai cd]⟩
 obtain⟨b6,rfl⟩:=bY
 clear bN bF cg cd
 iterate 2 refine RW.seq ?_
 refine RW.region (RL.ev (v:=.int .i64 ((i:Int))) rfl rfl U (RL.ev (v:=lv) rfl rfl U ?_))
 have jb:=(hl.o.now hN).aY
 refine RL.ev rfl rfl (aQ U7 (hl.o.now hN) rfl) (RL.ev rfl rfl (aV rfl rfl) (RL.nil (ag ?_)))
 refine RW.aN _ rfl (fun bW=>?_) (fun bW=>?_)
 refine RW.skip (ag (RW.seq (RW.block (RW.seq ?_))))
 have wx:=ef.1
 have aw:∃a_,hs[i]?=some a_:=⟨_,UT (by omega)⟩
 obtain⟨ap,bG⟩:=aw
 have aw:∃a_,ls[i]?=some a_:=⟨_,UT (by omega)⟩
 obtain⟨lp,dp⟩:=aw
 have Km:=UZ dp
 replace hN:=hN.ext (Ext.drew bT)
 refine RW.cb rfl (fun u=>ak w none_ u [.aA g1 [gv,fv,ov,iv,cD,cE] 32]) 8 [(0,0),(1,0),(2,0),(3,0),(4,0),(5,0),(6,1),(7,0)] (by intro _ _ _ h;exact h) (by kernel_rfl) hN (RQ.ev (v:=.int .i64 (n)) rfl rfl (fun w hS=>U) (RQ.ev rfl rfl (fun w hS=>(aG (cs:=[gv,fv,ov,iv,cD,cE]) Vh rfl ga rfl (hS.aA 0 rfl))) (RQ.ev (v:=lv) rfl rfl (fun w hS=>U) (RQ.ev (v:=.int .i64 ((i:Int))) rfl rfl (fun w hS=>U) (RQ.ev rfl rfl (fun w hS=>(aB U7 b7 (hl.o.now hS) rfl rfl (by omega) (by omega))) (RQ.ev rfl rfl (fun w hS=>(aF (m:=i) (a:=ap) UW rfl (hl.o.now hS) rfl bG)) ?_))))))
 refine RQ.do rfl rfl (eZ Y6 rfl rfl rfl rfl rfl rfl ((j2 (n) _ _ _ _ _ _ g _ (hg.o.now hN) _ lp ((ef.fX bG dp).now hN) (0)).mono ?_))
 rintro _ w4 ⟨rfl,aW⟩
 replace hN:=hN.ext aW
 clear aW
 refine⟨hN,?_⟩
 refine RQ.ev rfl rfl (fun w hS=>(cM rfl)) (RQ.done (by kernel_rfl) (ag ?_))
 refine RW.aN _ rfl (fun eQ=>?_) (fun eQ=>?_)
 refine RW.seq (RW.region (RL.ev (v:=.bool false) rfl rfl aa (RL.nil (ag (RW.ret (aJ ?_))))))
 iterate 2 refine aD ?_
 refine aJ (aD (aL (RV.tmp rfl) ?_))
 exact⟨congrArg Vd (decide_eq_false (fun h=>eQ (h.1 lp Km))).symm,hN.aE⟩
 refine RW.skip (a7 (ag (RW.region (RL.ev (v:=.int .i64 ((i:Int))) rfl rfl U (RL.ev rfl rfl (an rfl rfl rfl (bc (by omega) (by omega))) (RL.ev (v:=.int .i64 ((i:Int)+1)) rfl rfl aa (RL.nil (ag ?_))))))))
 exact⟨k-1,by omega,i+1,rfl,rfl,rfl,rfl,hN,by omega,fun m r hm hr=>(VH m i).elim (fun e=>qm m r e hr) (fun e=>have e2:m=i:=(by omega);have e3:r=lp:=Vq (hr.symm.trans (e2▸dp));e3▸Vi.1 eQ)⟩
 refine RW.exit ?_
 iterate 2 refine bm ?_
 refine aO (ag (RW.seq (RW.region (RL.ev (v:=lv) rfl rfl U (RL.ev rfl rfl (aQ U7 (hl.o.now hN) rfl) (RL.ev (v:=.int .i64 (n)) rfl rfl U (RL.ev rfl rfl (cI rfl rfl) (RL.ev (v:=.bool (decide ((hs.length:Int)=n))) rfl rfl aa (RL.nil ?_)))))))))
 refine ag (RW.ret (aL (RV.tmp rfl) ?_))
 exact⟨congrArg Vd (decide_eq_decide.2 ⟨fun h=>⟨fun r hr=>by
  have aw:=VK hr
  obtain⟨m,hm⟩:=aw
  exact qm m r (by have:=(U5.1 hm).1;have:=ef.1;omega) hm,by have:=ef.1;omega⟩,fun h=>by have:=h.2;have:=ef.1;omega⟩),hN.aE⟩
theorem lk (n:Int) (gv fv ov iv cD cE:Value) (g:List Int) (w:World) (hg:Sl vI w gv g) (lv:Value) (hs:List Hd) (ls:List (List I2)) (hl:Sl vh w lv hs) (ef:dM none_ bk w hs ls) (AB:∀r∈ls,r.length≤4096):al UY 113 #[.int .i64 n,.agg #[gv,fv,ov,iv,cD,cE],lv] w fun r w'=>r=.bool (decide (iu n g ls))∧Ext w w':=by
 refine al.start aav rfl (US rfl) ?_
 rw[jB]
 have hN:=ak.nil w none_
 have Ct:=ef.1
 refine RW.seq (RW.region ?_)
 refine RL.op rfl rfl (bq (cs:=[gv,fv,ov,iv,cD,cE]) rfl rfl hN ?_)
 clear hN
 intro g1 w1 (hN:ak w none_ w1 [_])
 refine RL.ev (v:=.bool false) rfl rfl aa (RL.nil (ag ?_))
 iterate 2 refine RW.seq ?_
 refine RW.region (RL.ev (v:=.int .i64 (0)) rfl rfl aa (RL.nil (ag (RW.block ?_))))
 refine RW.loop (fun k R0 bT=>∃i:Nat,R0 0=.int .i64 (n)∧R0 2=lv∧R0 4=.pointer (some ⟨g1,0,none⟩)∧R0 7=.int .i64 ((i:Int))∧ak w none_ bT [.aA g1 [gv,fv,ov,iv,cD,cE] 32]∧(i+k=hs.length)∧(∀m r,m<i→ls[m]?=some r→(∀x∈r,cG 0 x.2)∧iJ n (pH g 1) (r.map fun x=>x.1))) (hs.length) ?_ ?_
 exact⟨0,rfl,rfl,rfl,rfl,hN,by omega,fun m r hm=>absurd hm (by omega)⟩
 clear hN
 rintro k R0 bT ⟨i,bN,bF,cg,cd,hN,eR,qm⟩
 have bY:∃b6,R0=(aZ (aZ (aZ (aZ b6 0 _) 2 _) 4 _) 7 _):=⟨R0,by rw[ai bN,ai bF,ai cg,ai cd]⟩
 obtain⟨b6,rfl⟩:=bY
 clear bN bF cg cd
 iterate 2 refine RW.seq ?_
 refine RW.region (RL.ev (v:=.int .i64 ((i:Int))) rfl rfl U (RL.ev (v:=lv) rfl rfl U ?_))
 have jb:=(hl.o.now hN).aY
 refine RL.ev rfl rfl (aQ Vr (hl.o.now hN) rfl) (RL.ev rfl rfl (aV rfl rfl) (RL.nil (ag ?_)))
 refine RW.aN _ rfl (fun bW=>?_) (fun bW=>?_)
 refine RW.skip (ag (RW.seq (RW.block (RW.seq ?_))))
 have wx:=ef.1
 have aw:∃a_,hs[i]?=some a_:=⟨_,UT (by omega)⟩
 obtain⟨ap,bG⟩:=aw
 have aw:∃a_,ls[i]?=some a_:=⟨_,UT (by omega)⟩
 obtain⟨lp,dp⟩:=aw
 have Km:=UZ dp
 have HQ:=AB lp Km
 refine RW.region (RL.ev (v:=.slice none 0 0) rfl rfl aa (RL.nil (ag ?_)))
 iterate 2 refine RW.seq ?_
 refine RW.region (RL.ev (v:=.int .i64 (0)) rfl rfl aa (RL.nil (ag (RW.block ?_))))
 replace hN:=hN.cj vI 3
 refine RW.loop (fun k2 R1 fI=>∃va:Value,∃acc:List Int,∃q:Nat,R1 0=.int .i64 (n)∧R1 2=lv∧R1 4=.pointer (some ⟨g1,0,none⟩)∧R1 7=.int .i64 ((i:Int))∧R1 8=va∧R1 9=.int .i64 ((q:Int))∧ak w none_ fI [.own vI 3 (va) (acc),.aA g1 [gv,fv,ov,iv,cD,cE] 32]∧(q+k2=lp.length)∧(acc=(lp.take q).map fun x=>x.1)∧(acc.length=q)∧(∀x∈lp.take q,cG 0 x.2)) (lp.length) ?_ ?_
 exact⟨.slice none 0 0,[],0,rfl,rfl,rfl,rfl,rfl,rfl,hN,by omega,rfl,rfl,fun x hx=>by cases hx⟩
 clear hN
 rintro k2 R1 fI ⟨va,acc,q,bN,bF,cg,cd,cl,dc,hN,J7,hJ,fG,nO⟩
 have bY:∃gY,R1=(aZ (aZ (aZ (aZ (aZ (aZ gY 0 _) 2 _) 4 _) 7 _) 8 _) 9 _):=⟨R1,by rw[ai bN,ai bF,ai cg,ai cd,ai cl,ai dc]⟩
 obtain⟨gY,rfl⟩:=bY
 clear bN bF cg cd cl dc
 iterate 2 refine RW.seq ?_
 refine RW.region (RL.ev (v:=.int .i64 ((q:Int))) rfl rfl U (RL.ev (v:=lv) rfl rfl U (RL.ev (v:=.int .i64 ((i:Int))) rfl rfl U (RL.ev rfl rfl (aB Vr jJ (hl.o.now hN) rfl rfl (by omega) (by omega)) (RL.ev rfl rfl (aF (m:=i) (a:=ap) Vy rfl (hl.o.now hN) rfl bG) ?_)))))
 have pd:=((ef.fX bG dp).now hN).aY
 refine RL.ev rfl rfl (bQ Vy ((ef.fX bG dp).now hN) rfl) (RL.ev rfl rfl (aV rfl rfl) (RL.nil (ag ?_)))
 refine RW.aN _ rfl (fun eI=>?_) (fun eI=>?_)
 refine RW.skip (ag (RW.seq (RW.block (RW.seq (RW.region (RL.ev (v:=va) rfl rfl U (RL.ev (v:=lv) rfl rfl U (RL.ev (v:=.int .i64 ((i:Int))) rfl rfl U (RL.ev rfl rfl (aB Vr jJ (hl.o.now hN) rfl rfl (by omega) (by omega)) ?_)))))))))
 refine RL.ev rfl rfl (aF (m:=i) (a:=ap) Vy rfl (hl.o.now hN) rfl bG) (RL.ev (v:=.int .i64 ((q:Int))) rfl rfl U (RL.ev rfl rfl (bn Vy eY bP (by decide) ((ef.fX bG dp).now hN) rfl rfl (by omega) (by omega)) ?_))
 have aw:∃a_,(lp)[q]?=some a_:=⟨_,UT (by omega)⟩
 obtain⟨ac,jC⟩:=aw
 refine RL.ev rfl rfl (cH (m:=q) (b:=0) VE rfl bu (by decide) bP ((ef.fX bG dp).now hN) jC rfl rfl) (RL.ev rfl rfl (c9 (m:=q) (j:=0) (a:=ac) UU rfl bP ((ef.fX bG dp).now hN) rfl jC rfl) ?_)
 refine RL.op rfl rfl (bS (enc:=vI) (l:=[ac.1]) (xs:=[.tmp 33]) UW bu mu rfl rfl (fun _=>rfl) rfl (by decide) (by decide) hN ?_)
 clear hN
 intro g7 w7 (hN:ak w none_ w7 [_,_,_])
 refine RL.op rfl rfl (bD UW fT rfl (fun _=>rfl) hN 1 rfl rfl (hN.sl 0 rfl) rfl (by(try simp only[UX,U3,U6,Vc]);omega) (by decide) ?_)
 clear hN
 intro v8 w8 (hN:ak w none_ w8 [_,_,_])
 refine RL.ev (v:=v8) rfl rfl aa (RL.nil (ag (RW.seq (RW.region (RL.ev (v:=lv) rfl rfl U (RL.ev (v:=.int .i64 ((i:Int))) rfl rfl U (RL.ev rfl rfl (aB Vr jJ (hl.o.now hN) rfl rfl (by omega) (by omega)) (RL.ev rfl rfl (aF (m:=i) (a:=ap) Vy rfl (hl.o.now hN) rfl bG) (RL.ev (v:=.int .i64 ((q:Int))) rfl rfl U ?_)))))))))
 refine RL.ev rfl rfl (bn Vy eY bP (by decide) ((ef.fX bG dp).now hN) rfl rfl (by omega) (by omega)) (RL.ev rfl rfl (cH (m:=q) (b:=0) VE rfl bu (by decide) bP ((ef.fX bG dp).now hN) jC rfl rfl) (RL.ev rfl rfl (c9 (m:=q) (j:=1) (a:=ac) UU rfl bP ((ef.fX bG dp).now hN) rfl jC rfl) ?_))
 refine RL.op rfl rfl (aR aat rfl rfl rfl rfl ((lX (ac.2) (0) _).mono ?_))
 rintro _ jH ⟨rfl,aW⟩
 replace hN:=hN.ext aW
 clear aW
 refine RL.ev rfl rfl (cM rfl) (RL.nil (ag ?_))
 refine RW.aN _ rfl (fun eQ=>?_) (fun eQ=>?_)
 refine RW.seq (RW.region (RL.ev (v:=.bool false) rfl rfl aa (RL.nil (ag (RW.ret (aJ ?_))))))
 iterate 2 refine aD ?_
 refine aJ (aD (aJ ?_))
 iterate 2 refine aD ?_
 refine aJ (aD (aL (RV.tmp rfl) ?_))
 exact⟨congrArg Vd (decide_eq_false (fun h=>by first|exact eQ ((h.1 lp Km).1 _ (UZ jC))|exact tS (by rw[hJ];exact(h.1 lp Km).2))).symm,hN.aE⟩
 refine RW.skip (a7 (ag (RW.region (RL.ev (v:=.int .i64 ((q:Int))) rfl rfl U (RL.ev rfl rfl (an rfl rfl rfl (bc (by omega) (by omega))) (RL.ev (v:=.int .i64 ((q:Int)+1)) rfl rfl aa (RL.nil (ag ?_))))))))
 exact⟨k2-1,by omega,v8,acc++[ac.1],q+1,rfl,rfl,rfl,rfl,rfl,rfl,(hN.sub [1,2] (by decide) rfl),by omega,by rw[dH jC,V5,hJ];rfl,by(try simp only[UX,U3]);omega,fun x hx=>(cT jC hx).elim (nO x) (fun e=>e▸Vi.1 eQ)⟩
 refine RW.exit ?_
 iterate 2 refine bm ?_
 refine aO (ag (RW.seq ?_))
 rw[show q=lp.length by omega,Vz]at nO hJ
 refine RW.region (RL.ev (v:=.int .i64 (n)) rfl rfl U (RL.ev rfl rfl (aG (cs:=[gv,fv,ov,iv,cD,cE]) Vh rfl ga rfl (hN.aA 1 rfl)) (RL.ev (v:=va) rfl rfl U ?_)))
 refine RL.op rfl rfl (eZ Y6 rfl rfl rfl rfl rfl rfl ((j2 (n) _ _ _ _ _ _ g _ (hg.o.now hN) _ acc (hN.sl 0 rfl) (1)).mono ?_))
 rintro _ jj ⟨rfl,aW⟩
 replace hN:=hN.ext aW
 clear aW
 refine RL.ev rfl rfl (cM rfl) (RL.nil (ag ?_))
 refine RW.aN _ rfl (fun tS=>?_) (fun tS=>?_)
 refine RW.seq (RW.region (RL.ev (v:=.bool false) rfl rfl aa (RL.nil (ag (RW.ret (aJ ?_))))))
 iterate 2 refine aD ?_
 refine aJ (aD (aL (RV.tmp rfl) ?_))
 exact⟨congrArg Vd (decide_eq_false (fun h=>by first|exact eQ ((h.1 lp Km).1 _ (UZ jC))|exact tS (by rw[hJ];exact(h.1 lp Km).2))).symm,hN.aE⟩
 refine RW.skip (a7 (ag (RW.region (RL.ev (v:=.int .i64 ((i:Int))) rfl rfl U (RL.ev rfl rfl (an rfl rfl rfl (bc (by omega) (by omega))) (RL.ev (v:=.int .i64 ((i:Int)+1)) rfl rfl aa (RL.nil (ag ?_))))))))
 exact⟨k-1,by omega,i+1,rfl,rfl,rfl,rfl,(hN.sub [1] (by decide) rfl),by omega,fun m r hm hr=>(VH m i).elim (fun e=>qm m r e hr) (fun e=>have e2:m=i:=(by omega);have e3:r=lp:=Vq (hr.symm.trans (e2▸dp));e3▸⟨nO,by rw[←hJ];exact Vi.1 tS⟩)⟩
 refine RW.exit ?_
 iterate 2 refine bm ?_
 refine aO (ag (RW.seq (RW.region (RL.ev (v:=lv) rfl rfl U (RL.ev rfl rfl (aQ Vr (hl.o.now hN) rfl) (RL.ev (v:=.int .i64 (n)) rfl rfl U (RL.ev rfl rfl (cI rfl rfl) (RL.ev (v:=.bool (decide ((hs.length:Int)=n))) rfl rfl aa (RL.nil ?_)))))))))
 refine ag (RW.ret (aL (RV.tmp rfl) ?_))
 exact⟨congrArg Vd (decide_eq_decide.2 ⟨fun h=>⟨fun r hr=>by
  have aw:=VK hr
  obtain⟨m,hm⟩:=aw
  exact qm m r (by have:=(U5.1 hm).1;have:=ef.1;omega) hm,by have:=ef.1;omega⟩,fun h=>by have:=h.2;have:=ef.1;omega⟩),hN.aE⟩
end Go.Proofs.YtngkdkbpgoddlaaGreat
namespace Go.Proofs.YtngkdkbpgoddlaaGreat
open Go.RowKit Go.Rl
open Go.Gr
theorem nd (n:Int) (w:World) (gv:Value) (gl:List Int) (hg:Sl vI w gv gl) (fv:Value) (fh:List Hd) (fl:List (List Int)) (hf:Sl vh w fv fh) (nP:ep none_ vI w fh fl) (ov:Value) (oh:List Hd) (ol:List (List I2)) (ho:Sl vh w ov oh) (Dd:dM none_ bk w oh ol) (iv:Value) (ih:List Hd) (il:List (List I2)) (hi:Sl vh w iv ih) (su:dM none_ bk w ih il) (cD:Value) (qK:List Hd) (dL:List (List Int)) (gL:Sl vh w cD qK) (qj:ep none_ vI w qK dL) (cE:Value) (qL:List Hd) (dP:List (List Int)) (gF:Sl vh w cE qL) (qk:ep none_ vI w qL dP) (yN:∀r∈ol,r.length≤4096) (KN:∀r∈il,r.length≤4096):al UY 51 #[.int .i64 n,.agg #[gv,fv,ov,iv,cD,cE]] w fun r w'=>r=.int .i64 (cW n gl fl ol il dL dP)∧Ext w w':=by
 refine al.start aaM rfl (US rfl) ?_
 rw[cc]
 have hN:=ak.nil w none_
 have Ct:=nP.1
 refine RW.seq (RW.region ?_)
 refine RL.op rfl rfl (bq (cs:=[gv,fv,ov,iv,cD,cE]) rfl rfl hN ?_)
 clear hN
 intro g1 w1 (hN:ak w none_ w1 [_])
 refine RL.ev (v:=.int .i64 (0)) rfl rfl aa (RL.nil (ag ?_))
 iterate 2 refine RW.seq ?_
 refine RW.region (RL.ev (v:=.int .i64 (n)) rfl rfl U (RL.ev rfl rfl (cN rfl rfl) (RL.nil (ag ?_))))
 refine RW.aN _ rfl (fun Rx=>?_) (fun Rx=>?_)
 refine RW.seq (RW.region (RL.ev (v:=.int .i64 (3)) rfl rfl aa (RL.nil (ag (RW.ret (aD (aL (RV.tmp rfl) ?_)))))))
 exact⟨congrArg (Vn .i64) (show cW n gl fl ol il dL dP=3 by
  unfold cW
  rw[if_pos (by omega)]).symm,hN.aE⟩
 refine RW.skip (ag ?_)
 iterate 2 refine RW.seq ?_
 refine RW.region (RL.ev (v:=.int .i64 (n)) rfl rfl U (RL.ev rfl rfl (aV rfl rfl) (RL.ev (v:=.bool (decide (n<0))) rfl rfl U ?_)))
 by_cases II:n<0
 rw[decide_eq_true II]
 iterate 6 refine RL.off rfl rfl (by decide) rfl rfl ?_
 refine RL.ev (v:=.bool true) rfl rfl (ao rfl) (RL.ev (v:=.bool true) rfl rfl U ?_)
 iterate 7 refine RL.off rfl rfl (by decide) rfl rfl ?_
 refine RL.ev (v:=.bool true) rfl rfl (ao rfl) (RL.nil (ag (RW.bK rfl (RW.seq (RW.region (RL.ev (v:=.int .i64 (2)) rfl rfl aa (RL.nil (ag (RW.ret ?_)))))))))
 refine aD (aL (RV.tmp rfl) ?_)
 exact⟨congrArg (Vn .i64) (show cW n gl fl ol il dL dP=2 by
  unfold cW
  rw[if_neg (by omega),if_neg (fun h=>by
  obtain⟨q1,q2,q3,q4,q5,q6,q7⟩:=h
  have B8:=q3.1
  first
  |omega
  |contradiction
  |(obtain⟨b1,b2,b3⟩:=q3.2 i lp dp;first|omega|(rw[jS]at b2;cases b2;contradiction)|exact absurd (b3 _ (UZ jC)) (by assumption)))]).symm,hN.aE⟩
 rw[decide_eq_false II]
 refine RL.aI (v:=.int .i64 (n)) rfl rfl (by decide) rfl rfl U (RL.aI rfl rfl (by decide) rfl rfl (aG (cs:=[gv,fv,ov,iv,cD,cE]) Vh rfl ga rfl (hN.aA 0 rfl)) (RL.aI rfl rfl (by decide) rfl rfl (ah Vh rfl b7 (by decide) rfl) (RL.aI rfl rfl (by decide) rfl rfl (aj UW rfl rfl (hN.aA 0 rfl) rfl) ?_)))
 refine RL.on rfl rfl (by decide) rfl rfl (eZ Y6 rfl rfl rfl rfl rfl rfl ((j2 (n) _ _ _ _ _ _ gl _ (hg.o.now hN) _ gl (hg.o.now hN) (2)).mono ?_))
 rintro _ w2 ⟨rfl,aW⟩
 replace hN:=hN.ext aW
 clear aW
 refine RL.aI rfl rfl (by decide) rfl rfl (cM rfl) (RL.ev (v:=.bool (decide (¬(iJ (n) (pH gl (2)) gl)))) rfl rfl (aH rfl) (RL.ev (v:=.bool (decide (¬(iJ (n) (pH gl (2)) gl)))) rfl rfl U ?_))
 by_cases sA:¬(iJ (n) (pH gl (2)) gl)
 rw[decide_eq_true sA]
 iterate 7 refine RL.off rfl rfl (by decide) rfl rfl ?_
 refine RL.ev (v:=.bool true) rfl rfl (ao rfl) (RL.nil (ag (RW.bK rfl (RW.seq (RW.region (RL.ev (v:=.int .i64 (2)) rfl rfl aa (RL.nil (ag (RW.ret ?_)))))))))
 refine aD (aL (RV.tmp rfl) ?_)
 exact⟨congrArg (Vn .i64) (show cW n gl fl ol il dL dP=2 by
  unfold cW
  rw[if_neg (by omega),if_neg (fun h=>by
  obtain⟨q1,q2,q3,q4,q5,q6,q7⟩:=h
  have B8:=q3.1
  first
  |omega
  |contradiction
  |(obtain⟨b1,b2,b3⟩:=q3.2 i lp dp;first|omega|(rw[jS]at b2;cases b2;contradiction)|exact absurd (b3 _ (UZ jC)) (by assumption)))]).symm,hN.aE⟩
 rw[decide_eq_false sA]
 refine RL.aI rfl rfl (by decide) rfl rfl (ah Vh rfl gK (by decide) rfl) (RL.aI rfl rfl (by decide) rfl rfl (aj U7 rfl rfl (hN.aA 0 rfl) rfl) ?_)
 have mQ:=(hf.o.now hN).aY
 refine RL.aI rfl rfl (by decide) rfl rfl (aQ U7 (hf.o.now hN) rfl) (RL.aI rfl rfl (by decide) rfl rfl (ah Vh rfl b7 (by decide) rfl) (RL.aI rfl rfl (by decide) rfl rfl (aj UW rfl rfl (hN.aA 0 rfl) rfl) ?_))
 have qn:=(hg.o.now hN).aY
 refine RL.aI rfl rfl (by decide) rfl rfl (aQ UW (hg.o.now hN) rfl) (RL.aI rfl rfl (by decide) rfl rfl (bp rfl rfl) (RL.ev (v:=.bool (decide (¬(fh.length:Int)=(gl.length:Int)))) rfl rfl (aH rfl) (RL.nil (ag ?_))))
 refine RW.aN _ rfl (fun hlen=>?_) (fun hlen=>?_)
 refine RW.seq (RW.region (RL.ev (v:=.int .i64 (2)) rfl rfl aa (RL.nil (ag (RW.ret (aD (aL (RV.tmp rfl) ?_)))))))
 exact⟨congrArg (Vn .i64) (show cW n gl fl ol il dL dP=2 by
  unfold cW
  rw[if_neg (by omega),if_neg (fun h=>by
  obtain⟨q1,q2,q3,q4,q5,q6,q7⟩:=h
  have B8:=q3.1
  first
  |omega
  |contradiction
  |(obtain⟨b1,b2,b3⟩:=q3.2 i lp dp;first|omega|(rw[jS]at b2;cases b2;contradiction)|exact absurd (b3 _ (UZ jC)) (by assumption)))]).symm,hN.aE⟩
 refine RW.skip (ag ?_)
 iterate 2 refine RW.seq ?_
 refine RW.region (RL.ev (v:=.int .i64 (0)) rfl rfl aa (RL.nil (ag (RW.block ?_))))
 refine RW.loop (fun k R0 bT=>∃i:Nat,R0 0=.int .i64 (n)∧R0 3=.pointer (some ⟨g1,0,none⟩)∧R0 5=.int .i64 ((i:Int))∧ak w none_ bT [.aA g1 [gv,fv,ov,iv,cD,cE] 32]∧(i+k=fh.length)∧(∀m r,m<i→fl[m]?=some r→r.length=gl.length∧r[m]?=some 0∧∀x∈r,cG (-1) x)) (fh.length) ?_ ?_
 exact⟨0,rfl,rfl,rfl,hN,by omega,fun m r hm=>absurd hm (by omega)⟩
 clear hN
 rintro k R0 bT ⟨i,bN,ca,bM,hN,eR,FN⟩
 have bY:∃b6,R0=(aZ (aZ (aZ b6 0 _) 3 _) 5 _):=⟨R0,by rw[ai bN,ai ca,ai bM]⟩
 obtain⟨b6,rfl⟩:=bY
 clear bN ca bM
 iterate 2 refine RW.seq ?_
 refine RW.region (RL.ev (v:=.int .i64 ((i:Int))) rfl rfl U (RL.ev rfl rfl (ah Vh rfl gK (by decide) rfl) (RL.ev rfl rfl (aj U7 rfl rfl (hN.aA 0 rfl) rfl) (RL.ev rfl rfl (aQ U7 (hf.o.now hN) rfl) (RL.ev rfl rfl (aV rfl rfl) (RL.nil (ag ?_)))))))
 refine RW.aN _ rfl (fun bW=>?_) (fun bW=>?_)
 refine RW.skip (ag (RW.seq (RW.block ?_)))
 iterate 2 refine RW.seq ?_
 have HH:=nP.1
 have aw:∃a_,fh[i]?=some a_:=⟨_,UT (by omega)⟩
 obtain⟨ap,bG⟩:=aw
 have aw:∃a_,fl[i]?=some a_:=⟨_,UT (by omega)⟩
 obtain⟨lp,dp⟩:=aw
 have jG:=UZ dp
 replace hN:=hN.ext (Ext.drew bT)
 refine RW.cb rfl (fun u=>ak w none_ u [.aA g1 [gv,fv,ov,iv,cD,cE] 32]) 21 [(0,0),(1,0),(2,0),(3,0),(4,0),(5,0),(6,0),(7,0),(8,0),(9,0),(10,0),(11,0),(12,0),(13,0),(14,0),(15,0),(16,0),(17,0),(18,0),(19,0),(20,0)] (by intro _ _ _ h;exact h) (by kernel_rfl) hN (RQ.ev rfl rfl (fun w hS=>(ah Vh rfl gK (by decide) rfl)) (RQ.ev rfl rfl (fun w hS=>(aj U7 rfl rfl (hS.aA 0 rfl) rfl)) (RQ.ev (v:=.int .i64 ((i:Int))) rfl rfl (fun w hS=>U) (RQ.ev rfl rfl (fun w hS=>(aB U7 b7 (hf.o.now hS) rfl rfl (by omega) (by omega))) (RQ.ev rfl rfl (fun w hS=>(aF (m:=i) (a:=ap) UW rfl (hf.o.now hS) rfl bG)) ?_)))))
 have CF:=((nP.fX bG dp).now hN).aY
 refine RQ.ev rfl rfl (fun w hS=>(aQ UW ((nP.fX bG dp).now hS) rfl)) (RQ.ev rfl rfl (fun w hS=>(ah Vh rfl b7 (by decide) rfl)) (RQ.ev rfl rfl (fun w hS=>(aj UW rfl rfl (hS.aA 0 rfl) rfl)) (RQ.ev rfl rfl (fun w hS=>(aQ UW (hg.o.now hS) rfl)) (RQ.ev rfl rfl (fun w hS=>(bp rfl rfl)) (RQ.ev (v:=.bool (decide (¬(lp.length:Int)=(gl.length:Int)))) rfl rfl (fun w hS=>U) ?_)))))
 by_cases E8:¬(lp.length:Int)=(gl.length:Int)
 rw[decide_eq_true E8]
 iterate 9 refine RQ.off rfl rfl rfl rfl ?_
 refine RQ.ev (v:=.bool true) rfl rfl (fun w hS=>(ao rfl)) (RQ.done (by kernel_rfl) (ag (RW.bK rfl (RW.seq (RW.region (RL.ev (v:=.int .i64 (2)) rfl rfl aa (RL.nil (ag (RW.ret ?_)))))))))
 refine aD (aJ ?_)
 iterate 2 refine aD ?_
 refine aJ (aD (aL (RV.tmp rfl) ?_))
 exact⟨congrArg (Vn .i64) (show cW n gl fl ol il dL dP=2 by
  unfold cW
  rw[if_neg (by omega),if_neg (fun h=>by
  obtain⟨q1,q2,q3,q4,q5,q6,q7⟩:=h
  have B8:=q3.1
  first
  |omega
  |contradiction
  |(obtain⟨b1,b2,b3⟩:=q3.2 i lp dp;first|omega|(rw[jS]at b2;cases b2;contradiction)|exact absurd (b3 _ (UZ jC)) (by assumption)))]).symm,hN.aE⟩
 rw[decide_eq_false E8]
 refine RQ.on rfl rfl rfl rfl (fun w hS=>(ah Vh rfl gK (by decide) rfl)) (RQ.on rfl rfl rfl rfl (fun w hS=>(aj U7 rfl rfl (hS.aA 0 rfl) rfl)) (RQ.on (v:=.int .i64 ((i:Int))) rfl rfl rfl rfl (fun w hS=>U) (RQ.on rfl rfl rfl rfl (fun w hS=>(aB U7 b7 (hf.o.now hS) rfl rfl (by omega) (by omega))) (RQ.on rfl rfl rfl rfl (fun w hS=>(aF (m:=i) (a:=ap) UW rfl (hf.o.now hS) rfl bG)) (RQ.on (v:=.int .i64 ((i:Int))) rfl rfl rfl rfl (fun w hS=>U) (RQ.on rfl rfl rfl rfl (fun w hS=>(aB UW bu ((nP.fX bG dp).now hS) rfl rfl (by omega) (by omega))) ?_))))))
 have aw:∃a_,(lp)[i]?=some a_:=⟨_,UT (by omega)⟩
 obtain⟨az,jS⟩:=aw
 refine RQ.on rfl rfl rfl rfl (fun w hS=>(aF (m:=i) (a:=az) UU rfl ((nP.fX bG dp).now hS) rfl jS)) (RQ.on rfl rfl rfl rfl (fun w hS=>(bp rfl rfl)) (RQ.ev (v:=.bool (decide (¬az=0))) rfl rfl (fun w hS=>(aH rfl)) (RQ.done (by kernel_rfl) (ag ?_))))
 refine RW.aN _ rfl (fun eQ=>?_) (fun eQ=>?_)
 refine RW.seq (RW.region (RL.ev (v:=.int .i64 (2)) rfl rfl aa (RL.nil (ag (RW.ret (aD (aJ ?_)))))))
 iterate 2 refine aD ?_
 refine aJ (aD (aL (RV.tmp rfl) ?_))
 exact⟨congrArg (Vn .i64) (show cW n gl fl ol il dL dP=2 by
  unfold cW
  rw[if_neg (by omega),if_neg (fun h=>by
  obtain⟨q1,q2,q3,q4,q5,q6,q7⟩:=h
  have B8:=q3.1
  first
  |omega
  |contradiction
  |(obtain⟨b1,b2,b3⟩:=q3.2 i lp dp;first|omega|(rw[jS]at b2;cases b2;contradiction)|exact absurd (b3 _ (UZ jC)) (by assumption)))]).symm,hN.aE⟩
 refine RW.skip (ag (RW.seq (RW.region (RL.ev (v:=.int .i64 (0)) rfl rfl aa (RL.nil (ag (RW.block ?_)))))))
 refine RW.loop (fun k2 R1 fI=>∃q:Nat,R1 0=.int .i64 (n)∧R1 3=.pointer (some ⟨g1,0,none⟩)∧R1 5=.int .i64 ((i:Int))∧R1 6=.int .i64 ((q:Int))∧ak w none_ fI [.aA g1 [gv,fv,ov,iv,cD,cE] 32]∧(q+k2=lp.length)∧(∀x∈lp.take q,cG (-1) x)) (lp.length) ?_ ?_
 exact⟨0,rfl,rfl,rfl,rfl,hN,by omega,fun x hx=>by cases hx⟩
 clear hN
 rintro k2 R1 fI ⟨q,bN,ca,bM,dd,hN,J7,nO⟩
 have bY:∃gY,R1=(aZ (aZ (aZ (aZ gY 0 _) 3 _) 5 _) 6 _):=⟨R1,by rw[ai bN,ai ca,ai bM,ai dd]⟩
 obtain⟨gY,rfl⟩:=bY
 clear bN ca bM dd
 iterate 2 refine RW.seq ?_
 refine RW.region (RL.ev (v:=.int .i64 ((q:Int))) rfl rfl U (RL.ev rfl rfl (ah Vh rfl gK (by decide) rfl) (RL.ev rfl rfl (aj U7 rfl rfl (hN.aA 0 rfl) rfl) (RL.ev (v:=.int .i64 ((i:Int))) rfl rfl U (RL.ev rfl rfl (aB U7 b7 (hf.o.now hN) rfl rfl (by omega) (by omega)) (RL.ev rfl rfl (aF (m:=i) (a:=ap) UW rfl (hf.o.now hN) rfl bG) (RL.ev rfl rfl (aQ UW ((nP.fX bG dp).now hN) rfl) (RL.ev rfl rfl (aV rfl rfl) (RL.nil ?_)))))))))
 refine ag ?_
 refine RW.aN _ rfl (fun eI=>?_) (fun eI=>?_)
 refine RW.skip (ag (RW.seq (RW.block (RW.seq (RW.region (RL.ev rfl rfl (ah Vh rfl gK (by decide) rfl) (RL.ev rfl rfl (aj U7 rfl rfl (hN.aA 0 rfl) rfl) (RL.ev (v:=.int .i64 ((i:Int))) rfl rfl U (RL.ev rfl rfl (aB U7 b7 (hf.o.now hN) rfl rfl (by omega) (by omega)) ?_)))))))))
 refine RL.ev rfl rfl (aF (m:=i) (a:=ap) UW rfl (hf.o.now hN) rfl bG) (RL.ev (v:=.int .i64 ((q:Int))) rfl rfl U (RL.ev rfl rfl (aB UW bu ((nP.fX bG dp).now hN) rfl rfl (by omega) (by omega)) ?_))
 have aw:∃a_,(lp)[q]?=some a_:=⟨_,UT (by omega)⟩
 obtain⟨ac,jC⟩:=aw
 refine RL.ev rfl rfl (aF (m:=q) (a:=ac) UU rfl ((nP.fX bG dp).now hN) rfl jC) ?_
 refine RL.op rfl rfl (aR aat rfl rfl rfl rfl ((lX (ac) (-1) _).mono ?_))
 rintro _ jH ⟨rfl,aW⟩
 replace hN:=hN.ext aW
 clear aW
 refine RL.ev rfl rfl (cM rfl) (RL.nil (ag ?_))
 refine RW.aN _ rfl (fun tS=>?_) (fun tS=>?_)
 refine RW.seq (RW.region (RL.ev (v:=.int .i64 (2)) rfl rfl aa (RL.nil (ag (RW.ret (aJ ?_))))))
 iterate 2 refine aD ?_
 iterate 2 refine aJ ?_
 iterate 2 refine aD ?_
 refine aJ (aD (aL (RV.tmp rfl) ?_))
 exact⟨congrArg (Vn .i64) (show cW n gl fl ol il dL dP=2 by
  unfold cW
  rw[if_neg (by omega),if_neg (fun h=>by
  obtain⟨q1,q2,q3,q4,q5,q6,q7⟩:=h
  have B8:=q3.1
  first
  |omega
  |contradiction
  |(obtain⟨b1,b2,b3⟩:=q3.2 i lp dp;first|omega|(rw[jS]at b2;cases b2;contradiction)|exact absurd (b3 _ (UZ jC)) (by assumption)))]).symm,hN.aE⟩
 refine RW.skip (a7 (ag (RW.region (RL.ev (v:=.int .i64 ((q:Int))) rfl rfl U (RL.ev rfl rfl (an rfl rfl rfl (bc (by omega) (by omega))) (RL.ev (v:=.int .i64 ((q:Int)+1)) rfl rfl aa (RL.nil (ag ?_))))))))
 exact⟨k2-1,by omega,q+1,rfl,rfl,rfl,rfl,hN,by omega,fun x hx=>(cT jC hx).elim (nO x) (fun e=>e▸Vi.1 tS)⟩
 refine RW.exit ?_
 iterate 2 refine bm ?_
 refine aO (a7 (ag ?_))
 rw[show q=lp.length by omega,Vz]at nO
 refine RW.region (RL.ev (v:=.int .i64 ((i:Int))) rfl rfl U (RL.ev rfl rfl (an rfl rfl rfl (bc (by omega) (by omega))) (RL.ev (v:=.int .i64 ((i:Int)+1)) rfl rfl aa (RL.nil (ag ?_)))))
 exact⟨k-1,by omega,i+1,rfl,rfl,rfl,hN,by omega,fun m r hm hr=>(VH m i).elim (fun e=>FN m r e hr) (fun e=>have e2:m=i:=(by omega);have e3:r=lp:=Vq (hr.symm.trans (e2▸dp));e2▸e3▸⟨by omega,by rw[jS];exact congrArg some (Vi.1 eQ),nO⟩)⟩
 refine RW.exit ?_
 iterate 2 refine bm ?_
 refine aO (ag ?_)
 iterate 2 refine RW.seq ?_
 refine RW.region (RL.ev (v:=.int .i64 (n)) rfl rfl U (RL.ev rfl rfl (aG (cs:=[gv,fv,ov,iv,cD,cE]) Vh rfl ga rfl (hN.aA 0 rfl)) (RL.ev rfl rfl (ah Vh rfl kD (by decide) rfl) (RL.ev rfl rfl (aj Vr rfl rfl (hN.aA 0 rfl) rfl) ?_))))
 refine RL.op rfl rfl (cF aav rfl rfl rfl rfl rfl ((lk (n) _ _ _ _ _ _ gl _ (hg.o.now hN) _ oh ol (ho.o.now hN) (Dd.ext hN.aE) (by assumption)).mono ?_))
 rintro _ jj ⟨rfl,aW⟩
 replace hN:=hN.ext aW
 clear aW
 refine RL.ev rfl rfl (cM rfl) (RL.ev (v:=.bool (decide (¬(iu (n) gl ol)))) rfl rfl U ?_)
 by_cases Fl:¬(iu (n) gl ol)
 rw[decide_eq_true Fl]
 iterate 6 refine RL.off rfl rfl (by decide) rfl rfl ?_
 refine RL.ev (v:=.bool true) rfl rfl (ao rfl) (RL.ev (v:=.bool true) rfl rfl U ?_)
 iterate 6 refine RL.off rfl rfl (by decide) rfl rfl ?_
 refine RL.ev (v:=.bool true) rfl rfl (ao rfl) (RL.ev (v:=.bool true) rfl rfl U ?_)
 iterate 6 refine RL.off rfl rfl (by decide) rfl rfl ?_
 refine RL.ev (v:=.bool true) rfl rfl (ao rfl) (RL.nil (ag (RW.bK rfl (RW.seq (RW.region (RL.ev (v:=.int .i64 (2)) rfl rfl aa (RL.nil (ag (RW.ret ?_)))))))))
 refine aD (aL (RV.tmp rfl) ?_)
 exact⟨congrArg (Vn .i64) (show cW n gl fl ol il dL dP=2 by
  unfold cW
  rw[if_neg (by omega),if_neg (fun h=>by
  obtain⟨q1,q2,q3,q4,q5,q6,q7⟩:=h
  have B8:=q3.1
  first
  |omega
  |contradiction
  |(obtain⟨b1,b2,b3⟩:=q3.2 i lp dp;first|omega|(rw[jS]at b2;cases b2;contradiction)|exact absurd (b3 _ (UZ jC)) (by assumption)))]).symm,hN.aE⟩
 rw[decide_eq_false Fl]
 refine RL.aI (v:=.int .i64 (n)) rfl rfl (by decide) rfl rfl U (RL.aI rfl rfl (by decide) rfl rfl (aG (cs:=[gv,fv,ov,iv,cD,cE]) Vh rfl ga rfl (hN.aA 0 rfl)) (RL.aI rfl rfl (by decide) rfl rfl (ah Vh rfl kD (by decide) rfl) (RL.aI rfl rfl (by decide) rfl rfl (aj Vr rfl rfl (hN.aA 0 rfl) rfl) ?_)))
 refine RL.on rfl rfl (by decide) rfl rfl (cF aav rfl rfl rfl rfl rfl ((lk (n) _ _ _ _ _ _ gl _ (hg.o.now hN) _ ih il (hi.o.now hN) (su.ext hN.aE) (by assumption)).mono ?_))
 rintro _ iP ⟨rfl,aW⟩
 replace hN:=hN.ext aW
 clear aW
 refine RL.aI rfl rfl (by decide) rfl rfl (cM rfl) (RL.ev (v:=.bool (decide (¬(iu (n) gl il)))) rfl rfl (aH rfl) (RL.ev (v:=.bool (decide (¬(iu (n) gl il)))) rfl rfl U ?_))
 by_cases Bn:¬(iu (n) gl il)
 rw[decide_eq_true Bn]
 iterate 6 refine RL.off rfl rfl (by decide) rfl rfl ?_
 refine RL.ev (v:=.bool true) rfl rfl (ao rfl) (RL.ev (v:=.bool true) rfl rfl U ?_)
 iterate 6 refine RL.off rfl rfl (by decide) rfl rfl ?_
 refine RL.ev (v:=.bool true) rfl rfl (ao rfl) (RL.nil (ag (RW.bK rfl (RW.seq (RW.region (RL.ev (v:=.int .i64 (2)) rfl rfl aa (RL.nil (ag (RW.ret ?_)))))))))
 refine aD (aL (RV.tmp rfl) ?_)
 exact⟨congrArg (Vn .i64) (show cW n gl fl ol il dL dP=2 by
  unfold cW
  rw[if_neg (by omega),if_neg (fun h=>by
  obtain⟨q1,q2,q3,q4,q5,q6,q7⟩:=h
  have B8:=q3.1
  first
  |omega
  |contradiction
  |(obtain⟨b1,b2,b3⟩:=q3.2 i lp dp;first|omega|(rw[jS]at b2;cases b2;contradiction)|exact absurd (b3 _ (UZ jC)) (by assumption)))]).symm,hN.aE⟩
 rw[decide_eq_false Bn]
 refine RL.aI (v:=.int .i64 (n)) rfl rfl (by decide) rfl rfl U (RL.aI rfl rfl (by decide) rfl rfl (aG (cs:=[gv,fv,ov,iv,cD,cE]) Vh rfl ga rfl (hN.aA 0 rfl)) (RL.aI rfl rfl (by decide) rfl rfl (ah Vh rfl gK (by decide) rfl) (RL.aI rfl rfl (by decide) rfl rfl (aj U7 rfl rfl (hN.aA 0 rfl) rfl) ?_)))
 refine RL.on rfl rfl (by decide) rfl rfl (cF aau rfl rfl rfl rfl rfl ((oe (n) _ _ _ _ _ _ gl _ (hg.o.now hN) _ qK dL (gL.o.now hN) (qj.gR hN)).mono ?_))
 rintro _ kC ⟨rfl,aW⟩
 replace hN:=hN.ext aW
 clear aW
 refine RL.aI rfl rfl (by decide) rfl rfl (cM rfl) (RL.ev (v:=.bool (decide (¬(oJ (n) gl dL)))) rfl rfl (aH rfl) (RL.ev (v:=.bool (decide (¬(oJ (n) gl dL)))) rfl rfl U ?_))
 by_cases Bm:¬(oJ (n) gl dL)
 rw[decide_eq_true Bm]
 iterate 6 refine RL.off rfl rfl (by decide) rfl rfl ?_
 refine RL.ev (v:=.bool true) rfl rfl (ao rfl) (RL.nil (ag (RW.bK rfl (RW.seq (RW.region (RL.ev (v:=.int .i64 (2)) rfl rfl aa (RL.nil (ag (RW.ret ?_)))))))))
 refine aD (aL (RV.tmp rfl) ?_)
 exact⟨congrArg (Vn .i64) (show cW n gl fl ol il dL dP=2 by
  unfold cW
  rw[if_neg (by omega),if_neg (fun h=>by
  obtain⟨q1,q2,q3,q4,q5,q6,q7⟩:=h
  have B8:=q3.1
  first
  |omega
  |contradiction
  |(obtain⟨b1,b2,b3⟩:=q3.2 i lp dp;first|omega|(rw[jS]at b2;cases b2;contradiction)|exact absurd (b3 _ (UZ jC)) (by assumption)))]).symm,hN.aE⟩
 rw[decide_eq_false Bm]
 refine RL.aI (v:=.int .i64 (n)) rfl rfl (by decide) rfl rfl U (RL.aI rfl rfl (by decide) rfl rfl (aG (cs:=[gv,fv,ov,iv,cD,cE]) Vh rfl ga rfl (hN.aA 0 rfl)) (RL.aI rfl rfl (by decide) rfl rfl (ah Vh rfl gK (by decide) rfl) (RL.aI rfl rfl (by decide) rfl rfl (aj U7 rfl rfl (hN.aA 0 rfl) rfl) ?_)))
 refine RL.on rfl rfl (by decide) rfl rfl (cF aau rfl rfl rfl rfl rfl ((oe (n) _ _ _ _ _ _ gl _ (hg.o.now hN) _ qL dP (gF.o.now hN) (qk.gR hN)).mono ?_))
 rintro _ lF ⟨rfl,aW⟩
 replace hN:=hN.ext aW
 clear aW
 refine RL.aI rfl rfl (by decide) rfl rfl (cM rfl) (RL.ev (v:=.bool (decide (¬(oJ (n) gl dP)))) rfl rfl (aH rfl) (RL.nil (ag ?_)))
 refine RW.aN _ rfl (fun Ng=>?_) (fun Ng=>?_)
 refine RW.seq (RW.region (RL.ev (v:=.int .i64 (2)) rfl rfl aa (RL.nil (ag (RW.ret (aD (aL (RV.tmp rfl) ?_)))))))
 exact⟨congrArg (Vn .i64) (show cW n gl fl ol il dL dP=2 by
  unfold cW
  rw[if_neg (by omega),if_neg (fun h=>by
  obtain⟨q1,q2,q3,q4,q5,q6,q7⟩:=h
  have B8:=q3.1
  first
  |omega
  |contradiction
  |(obtain⟨b1,b2,b3⟩:=q3.2 i lp dp;first|omega|(rw[jS]at b2;cases b2;contradiction)|exact absurd (b3 _ (UZ jC)) (by assumption)))]).symm,hN.aE⟩
 refine RW.skip (ag (RW.seq (RW.region (RL.ev (v:=.int .i64 (0)) rfl rfl aa (RL.nil (ag (RW.ret (aL (RV.tmp rfl) ?_))))))))
 exact⟨congrArg (Vn .i64) (show cW n gl fl ol il dL dP=0 by
  unfold cW
  rw[if_neg (by omega),if_pos ⟨by omega,Vi.1 (by assumption),⟨by omega,fun m r hm=>FN m r (by have:=(U5.1 hm).1;omega) hm⟩,Vi.1 (by assumption),Vi.1 (by assumption),Vi.1 (by assumption),Vi.1 (by assumption)⟩]).symm,hN.aE⟩
end Go.Proofs.YtngkdkbpgoddlaaGreat
namespace Go.Proofs.YtngkdkbpgoddlaaGreat
open Go.RowKit Go.Rl
open Go.Gr
theorem kM (n:Int) (v:Value) (l:List I3) (w:World) (hv:Sm bf w v l):al UY 24 #[.agg #[.int .i64 n,v]] w fun r w'=>r=.int .i64 (dw n l)∧Ext w w':=by
 refine al.start YC rfl (US rfl) ?_
 rw[bL]
 have hN:=ak.nil w none_
 refine RW.seq (RW.region ?_)
 refine RL.op rfl rfl (bq (cs:=[.int .i64 (n),v]) rfl rfl hN ?_)
 clear hN
 intro g1 w1 (hN:ak w none_ w1 [_])
 refine RL.ev (v:=.int .i64 (0)) rfl rfl aa (RL.nil (ag ?_))
 iterate 2 refine RW.seq ?_
 refine RW.region (RL.ev rfl rfl (ah U4 rfl bu (by decide) rfl) (RL.ev rfl rfl (aj UU rfl rfl (hN.aA 0 rfl) rfl) (RL.ev rfl rfl (cN rfl rfl) (RL.ev (v:=.bool (decide (16777216<n))) rfl rfl U ?_))))
 by_cases jQ:16777216<n
 rw[decide_eq_true jQ]
 iterate 4 refine RL.off rfl rfl (by decide) rfl rfl ?_
 refine RL.ev (v:=.bool true) rfl rfl (ao rfl) (RL.nil (ag (RW.bK rfl (RW.seq (RW.region (RL.ev (v:=.int .i64 (3)) rfl rfl aa (RL.nil (ag (RW.ret ?_)))))))))
 refine aD (aL (RV.tmp rfl) ?_)
 exact⟨congrArg (Vn .i64) (if_pos (by omega)).symm,hN.aE⟩
 rw[decide_eq_false jQ]
 refine RL.aI rfl rfl (by decide) rfl rfl (ah U4 rfl dY (by decide) rfl) (RL.aI rfl rfl (by decide) rfl rfl (aj Va rfl rfl (hN.aA 0 rfl) rfl) ?_)
 have jb:=(hv.o.now hN).aY
 refine RL.aI rfl rfl (by decide) rfl rfl (bQ Va (hv.o.now hN) rfl) (RL.aI rfl rfl (by decide) rfl rfl (cN rfl rfl) (RL.ev (v:=.bool (decide (67108864<(l.length:Int)))) rfl rfl (aH rfl) (RL.nil (ag ?_))))
 refine RW.aN _ rfl (fun ja=>?_) (fun ja=>?_)
 refine RW.seq (RW.region (RL.ev (v:=.int .i64 (3)) rfl rfl aa (RL.nil (ag (RW.ret (aD (aL (RV.tmp rfl) ?_)))))))
 exact⟨congrArg (Vn .i64) (if_pos (by omega)).symm,hN.aE⟩
 refine RW.skip (ag ?_)
 iterate 2 refine RW.seq ?_
 refine RW.region (RL.ev rfl rfl (ah U4 rfl bu (by decide) rfl) (RL.ev rfl rfl (aj UU rfl rfl (hN.aA 0 rfl) rfl) (RL.ev rfl rfl (aV rfl rfl) (RL.nil (ag ?_)))))
 refine RW.aN _ rfl (fun nC=>?_) (fun nC=>?_)
 refine RW.seq (RW.region (RL.ev (v:=.int .i64 (2)) rfl rfl aa (RL.nil (ag (RW.ret (aD (aL (RV.tmp rfl) ?_)))))))
 refine⟨congrArg (Vn .i64) ?_,hN.aE⟩
 unfold dw
 rw[if_neg (by omega),if_pos (by omega)]
 refine RW.skip (ag ?_)
 iterate 2 refine RW.seq ?_
 refine RW.region (RL.ev (v:=.int .i64 (0)) rfl rfl aa (RL.nil (ag (RW.block ?_))))
 refine RW.loop (fun k R0 bT=>∃i:Nat,R0 1=.pointer (some ⟨g1,0,none⟩)∧R0 3=.int .i64 ((i:Int))∧ak w none_ bT [.aA g1 [.int .i64 (n),v] 24]∧(i+k=l.length)∧(∀a∈l.take i,Gx n a)) (l.length) ?_ ?_
 exact⟨0,rfl,rfl,hN,by omega,fun a ha=>by cases ha⟩
 clear hN
 rintro k R0 bT ⟨i,bw,ca,hN,eR,eP⟩
 have bY:∃b6,R0=(aZ (aZ b6 1 _) 3 _):=⟨R0,by rw[ai bw,ai ca]⟩
 obtain⟨b6,rfl⟩:=bY
 clear bw ca
 iterate 2 refine RW.seq ?_
 refine RW.region (RL.ev (v:=.int .i64 ((i:Int))) rfl rfl U (RL.ev rfl rfl (ah U4 rfl dY (by decide) rfl) (RL.ev rfl rfl (aj Va rfl rfl (hN.aA 0 rfl) rfl) (RL.ev rfl rfl (bQ Va (hv.o.now hN) rfl) (RL.ev rfl rfl (aV rfl rfl) (RL.nil (ag ?_)))))))
 refine RW.aN _ rfl (fun bW=>?_) (fun bW=>?_)
 refine RW.skip (ag (RW.seq (RW.block (RW.seq (RW.region (RL.ev rfl rfl (ah U4 rfl dY (by decide) rfl) (RL.ev rfl rfl (aj Va rfl rfl (hN.aA 0 rfl) rfl) (RL.ev (v:=.int .i64 ((i:Int))) rfl rfl U (RL.ev rfl rfl (bn Va cq aU (by decide) (hv.o.now hN) rfl rfl (by omega) (by omega)) ?_)))))))))
 have aw:∃a_,(l)[i]?=some a_:=⟨_,UT (by omega)⟩
 obtain⟨ap,bG⟩:=aw
 refine RL.ev rfl rfl (bU (m:=i) (a:=ap) Ve rfl cq aU (by decide) (hv.o.now hN) rfl bG (cs:=[.int .i64 (ap.1),.int .i64 (ap.2.1),.int .i64 (ap.2.2)]) rfl) ?_
 refine RL.op rfl rfl (aX (cs:=[.int .i64 (0),.int .i64 (0),.int .i64 (0)]) eo rfl hN ?_)
 clear hN
 intro g3 w3 (hN:ak w none_ w3 [_,_])
 refine RL.op rfl rfl (aC (vs:=[.int .i64 (ap.1),.int .i64 (ap.2.1),.int .i64 (ap.2.2)]) cq rfl rfl rfl (by intro u hu;simp only[U9,U2,or_false]at hu;rcases hu with rfl|rfl|rfl<;>first|rfl) hN 0 rfl rfl ?_)
 clear hN
 intro w4 (hN:ak w none_ w4 [_,_])
 refine RL.nil (ag (RW.seq (RW.region (RL.ev rfl rfl (ah Ve rfl bu (by decide) rfl) (RL.ev rfl rfl (aj UU rfl rfl (hN.aA 0 rfl) rfl) (RL.ev rfl rfl (aV rfl rfl) (RL.ev (v:=.bool (decide (ap.1<0))) rfl rfl U ?_)))))))
 by_cases IA:ap.1<0
 rw[decide_eq_true IA]
 iterate 5 refine RL.off rfl rfl (by decide) rfl rfl ?_
 refine RL.ev (v:=.bool true) rfl rfl (ao rfl) (RL.ev (v:=.bool true) rfl rfl U ?_)
 iterate 3 refine RL.off rfl rfl (by decide) rfl rfl ?_
 refine RL.ev (v:=.bool true) rfl rfl (ao rfl) (RL.ev (v:=.bool true) rfl rfl U ?_)
 iterate 5 refine RL.off rfl rfl (by decide) rfl rfl ?_
 refine RL.ev (v:=.bool true) rfl rfl (ao rfl) (RL.ev (v:=.bool true) rfl rfl U ?_)
 iterate 3 refine RL.off rfl rfl (by decide) rfl rfl ?_
 refine RL.ev (v:=.bool true) rfl rfl (ao rfl) (RL.ev (v:=.bool true) rfl rfl U ?_)
 iterate 3 refine RL.off rfl rfl (by decide) rfl rfl ?_
 refine RL.ev (v:=.bool true) rfl rfl (ao rfl) (RL.nil (ag (RW.bK rfl (RW.seq (RW.region (RL.ev (v:=.int .i64 (2)) rfl rfl aa (RL.nil (ag (RW.ret ?_)))))))))
 refine aJ ?_
 iterate 2 refine aD ?_
 refine aJ (aD (aL (RV.tmp rfl) ?_))
 refine⟨congrArg (Vn .i64) ?_,hN.aE⟩
 unfold dw
 rw[if_neg (by omega),if_neg (by omega),if_neg]
 intro fU
 have aw:=fU ap (UZ bG)
 obtain⟨h1,h2,h3,h4,h5,h6⟩:=aw
 omega
 rw[decide_eq_false IA]
 refine RL.aI rfl rfl (by decide) rfl rfl (ah Ve rfl bu (by decide) rfl) (RL.aI rfl rfl (by decide) rfl rfl (aj UU rfl rfl (hN.aA 0 rfl) rfl) (RL.aI rfl rfl (by decide) rfl rfl (ah U4 rfl bu (by decide) rfl) (RL.aI rfl rfl (by decide) rfl rfl (aj UU rfl rfl (hN.aA 1 rfl) rfl) (RL.aI rfl rfl (by decide) rfl rfl (da rfl rfl) (RL.ev (v:=.bool (decide (n≤ap.1))) rfl rfl (aH rfl) (RL.ev (v:=.bool (decide (n≤ap.1))) rfl rfl U ?_))))))
 by_cases E5:n≤ap.1
 rw[decide_eq_true E5]
 iterate 3 refine RL.off rfl rfl (by decide) rfl rfl ?_
 refine RL.ev (v:=.bool true) rfl rfl (ao rfl) (RL.ev (v:=.bool true) rfl rfl U ?_)
 iterate 5 refine RL.off rfl rfl (by decide) rfl rfl ?_
 refine RL.ev (v:=.bool true) rfl rfl (ao rfl) (RL.ev (v:=.bool true) rfl rfl U ?_)
 iterate 3 refine RL.off rfl rfl (by decide) rfl rfl ?_
 refine RL.ev (v:=.bool true) rfl rfl (ao rfl) (RL.ev (v:=.bool true) rfl rfl U ?_)
 iterate 3 refine RL.off rfl rfl (by decide) rfl rfl ?_
 refine RL.ev (v:=.bool true) rfl rfl (ao rfl) (RL.nil (ag (RW.bK rfl (RW.seq (RW.region (RL.ev (v:=.int .i64 (2)) rfl rfl aa (RL.nil (ag (RW.ret ?_)))))))))
 refine aJ ?_
 iterate 2 refine aD ?_
 refine aJ (aD (aL (RV.tmp rfl) ?_))
 refine⟨congrArg (Vn .i64) ?_,hN.aE⟩
 unfold dw
 rw[if_neg (by omega),if_neg (by omega),if_neg]
 intro fU
 have aw:=fU ap (UZ bG)
 obtain⟨h1,h2,h3,h4,h5,h6⟩:=aw
 omega
 rw[decide_eq_false E5]
 refine RL.aI rfl rfl (by decide) rfl rfl (ah Ve rfl bu (by decide) rfl) (RL.aI rfl rfl (by decide) rfl rfl (aj UU rfl rfl (hN.aA 0 rfl) rfl) (RL.aI rfl rfl (by decide) rfl rfl (aV rfl rfl) (RL.ev (v:=.bool (decide (ap.2.1<0))) rfl rfl (aH rfl) (RL.ev (v:=.bool (decide (ap.2.1<0))) rfl rfl U ?_))))
 by_cases E4:ap.2.1<0
 rw[decide_eq_true E4]
 iterate 5 refine RL.off rfl rfl (by decide) rfl rfl ?_
 refine RL.ev (v:=.bool true) rfl rfl (ao rfl) (RL.ev (v:=.bool true) rfl rfl U ?_)
 iterate 3 refine RL.off rfl rfl (by decide) rfl rfl ?_
 refine RL.ev (v:=.bool true) rfl rfl (ao rfl) (RL.ev (v:=.bool true) rfl rfl U ?_)
 iterate 3 refine RL.off rfl rfl (by decide) rfl rfl ?_
 refine RL.ev (v:=.bool true) rfl rfl (ao rfl) (RL.nil (ag (RW.bK rfl (RW.seq (RW.region (RL.ev (v:=.int .i64 (2)) rfl rfl aa (RL.nil (ag (RW.ret ?_)))))))))
 refine aJ ?_
 iterate 2 refine aD ?_
 refine aJ (aD (aL (RV.tmp rfl) ?_))
 refine⟨congrArg (Vn .i64) ?_,hN.aE⟩
 unfold dw
 rw[if_neg (by omega),if_neg (by omega),if_neg]
 intro fU
 have aw:=fU ap (UZ bG)
 obtain⟨h1,h2,h3,h4,h5,h6⟩:=aw
 omega
 rw[decide_eq_false E4]
 refine RL.aI rfl rfl (by decide) rfl rfl (ah Ve rfl bu (by decide) rfl) (RL.aI rfl rfl (by decide) rfl rfl (aj UU rfl rfl (hN.aA 0 rfl) rfl) (RL.aI rfl rfl (by decide) rfl rfl (ah U4 rfl bu (by decide) rfl) (RL.aI rfl rfl (by decide) rfl rfl (aj UU rfl rfl (hN.aA 1 rfl) rfl) (RL.aI rfl rfl (by decide) rfl rfl (da rfl rfl) (RL.ev (v:=.bool (decide (n≤ap.2.1))) rfl rfl (aH rfl) (RL.ev (v:=.bool (decide (n≤ap.2.1))) rfl rfl U ?_))))))
 by_cases E3:n≤ap.2.1
 rw[decide_eq_true E3]
 iterate 3 refine RL.off rfl rfl (by decide) rfl rfl ?_
 refine RL.ev (v:=.bool true) rfl rfl (ao rfl) (RL.ev (v:=.bool true) rfl rfl U ?_)
 iterate 3 refine RL.off rfl rfl (by decide) rfl rfl ?_
 refine RL.ev (v:=.bool true) rfl rfl (ao rfl) (RL.nil (ag (RW.bK rfl (RW.seq (RW.region (RL.ev (v:=.int .i64 (2)) rfl rfl aa (RL.nil (ag (RW.ret ?_)))))))))
 refine aJ ?_
 iterate 2 refine aD ?_
 refine aJ (aD (aL (RV.tmp rfl) ?_))
 refine⟨congrArg (Vn .i64) ?_,hN.aE⟩
 unfold dw
 rw[if_neg (by omega),if_neg (by omega),if_neg]
 intro fU
 have aw:=fU ap (UZ bG)
 obtain⟨h1,h2,h3,h4,h5,h6⟩:=aw
 omega
 rw[decide_eq_false E3]
 refine RL.aI rfl rfl (by decide) rfl rfl (ah Ve rfl bu (by decide) rfl) (RL.aI rfl rfl (by decide) rfl rfl (aj UU rfl rfl (hN.aA 0 rfl) rfl) (RL.aI rfl rfl (by decide) rfl rfl (aV rfl rfl) (RL.ev (v:=.bool (decide (ap.2.2<0))) rfl rfl (aH rfl) (RL.ev (v:=.bool (decide (ap.2.2<0))) rfl rfl U ?_))))
 by_cases E2:ap.2.2<0
 rw[decide_eq_true E2]
 iterate 3 refine RL.off rfl rfl (by decide) rfl rfl ?_
 refine RL.ev (v:=.bool true) rfl rfl (ao rfl) (RL.nil (ag (RW.bK rfl (RW.seq (RW.region (RL.ev (v:=.int .i64 (2)) rfl rfl aa (RL.nil (ag (RW.ret ?_)))))))))
 refine aJ ?_
 iterate 2 refine aD ?_
 refine aJ (aD (aL (RV.tmp rfl) ?_))
 refine⟨congrArg (Vn .i64) ?_,hN.aE⟩
 unfold dw
 rw[if_neg (by omega),if_neg (by omega),if_neg]
 intro fU
 have aw:=fU ap (UZ bG)
 obtain⟨h1,h2,h3,h4,h5,h6⟩:=aw
 omega
 rw[decide_eq_false E2]
 refine RL.aI rfl rfl (by decide) rfl rfl (ah Ve rfl bu (by decide) rfl) (RL.aI rfl rfl (by decide) rfl rfl (aj UU rfl rfl (hN.aA 0 rfl) rfl) (RL.aI rfl rfl (by decide) rfl rfl (cN rfl rfl) (RL.ev (v:=.bool (decide (2147483648<ap.2.2))) rfl rfl (aH rfl) (RL.nil (ag ?_)))))
 refine RW.aN _ rfl (fun KK=>?_) (fun KK=>?_)
 refine RW.seq (RW.region (RL.ev (v:=.int .i64 (2)) rfl rfl aa (RL.nil (ag (RW.ret (aJ ?_))))))
 iterate 2 refine aD ?_
 refine aJ (aD (aL (RV.tmp rfl) ?_))
 refine⟨congrArg (Vn .i64) ?_,hN.aE⟩
 unfold dw
 rw[if_neg (by omega),if_neg (by omega),if_neg]
 intro fU
 have aw:=fU ap (UZ bG)
 obtain⟨h1,h2,h3,h4,h5,h6⟩:=aw
 omega
 refine RW.skip (a7 (ag (RW.region (RL.ev (v:=.int .i64 ((i:Int))) rfl rfl U (RL.ev rfl rfl (an rfl rfl rfl (bc (by omega) (by omega))) (RL.ev (v:=.int .i64 ((i:Int)+1)) rfl rfl aa (RL.nil (ag ?_))))))))
 exact⟨k-1,by omega,i+1,rfl,rfl,(hN.sub [1] (by decide) rfl),by omega,fun a ha=>(cT bG ha).elim (eP a) (fun e=>e▸⟨by omega,by omega,by omega,by omega,by omega,by omega⟩)⟩
 refine RW.exit ?_
 iterate 2 refine bm ?_
 refine aO (ag (RW.seq (RW.region (RL.ev (v:=.int .i64 (0)) rfl rfl aa (RL.nil (ag (RW.ret (aL (RV.tmp rfl) ?_))))))))
 refine⟨congrArg (Vn .i64) ?_,hN.aE⟩
 unfold dw
 rw[if_neg (by omega),if_neg (by omega),if_pos]
 rw[Vo (by omega)]at eP
 exact eP
theorem Ck (n:Int) (v:Value) (l:List I3) (w:World) (hv:Sm bf w v l) (h:dw n l=0):al UY 24 #[.agg #[.int .i64 n,v]] w fun r w'=>r=.int .i64 0∧Ext w w':=(kM n v l w hv).mono fun r w' hr=>by rw[h]at hr;exact hr
end Go.Proofs.YtngkdkbpgoddlaaGreat
namespace Go.Proofs.YtngkdkbpgoddlaaGreat
open Go.RowKit Go.Rl
open Go.Gr
theorem ou {rk:List Int} {ws:List I5} (h:dm rk ws=0):k8 rk ws:=by
  unfold dm at h
  split at h
  · omega
  · split at h
    · assumption
    · omega
theorem ug (n:Int) (av rv wv:Value) (l:List I3) (rk:List Int) (ws:List I5) (w:World) (ha:Sm bf w av l) (hr:Sl vI w rv rk) (hw:Sm bC w wv ws) (gv:Value) (gl:List Int) (hg:Sl vI w gv gl) (fv:Value) (fh:List Hd) (fl:List (List Int)) (hf:Sl vh w fv fh) (nP:ep none_ vI w fh fl) (ov:Value) (oh:List Hd) (ol:List (List I2)) (ho:Sl vh w ov oh) (Dd:dM none_ bk w oh ol) (iv:Value) (ih:List Hd) (il:List (List I2)) (hi:Sl vh w iv ih) (su:dM none_ bk w ih il) (cD:Value) (qK:List Hd) (dL:List (List Int)) (gL:Sl vh w cD qK) (qj:ep none_ vI w qK dL) (cE:Value) (qL:List Hd) (dP:List (List Int)) (gF:Sl vh w cE qL) (qk:ep none_ vI w qL dP) (yN:∀r∈ol,r.length≤4096) (KN:∀r∈il,r.length≤4096):al UY 19 #[.agg #[.int .i64 n,av,rv,wv,gv,fv,ov,iv,cD,cE]] w fun r w'=>r=.int .i64 (cL n l rk ws gl fl ol il dL dP)∧Ext w w':=by
 refine al.start Tryz.func19 rfl (US rfl) ?_
 rw[bL]
 have hN:=ak.nil w none_
 refine RW.seq (RW.region ?_)
 refine RL.op rfl rfl (bq (cs:=[.int .i64 (n),av,rv,wv,gv,fv,ov,iv,cD,cE]) rfl rfl hN ?_)
 clear hN
 intro g1 w1 (hN:ak w none_ w1 [_])
 refine RL.ev (v:=.int .i64 (0)) rfl rfl aa (RL.nil (ag (RW.seq (RW.region (RL.ev rfl rfl (ah U8 rfl db (by decide) rfl) (RL.ev rfl rfl (cr (cs:=[.int .i64 (n),av,rv,wv,gv,fv,ov,iv,cD,cE]) (j:=0) (m:=2) U4 rfl db rfl (hN.aA 0 rfl) (US rfl)) ?_))))))
 refine RL.op rfl rfl (aM YC rfl rfl rfl ((kM (n) _ l _ (ha.o.now hN)).mono ?_))
 rintro _ w2 ⟨rfl,aW⟩
 replace hN:=hN.ext aW
 clear aW
 refine RL.ev (v:=.int .i64 ((dw (n) l))) rfl rfl aa (RL.nil (ag ?_))
 iterate 2 refine RW.seq ?_
 refine RW.region (RL.ev (v:=.int .i64 ((dw (n) l))) rfl rfl U (RL.ev rfl rfl (cI rfl rfl) (RL.nil (ag ?_))))
 refine RW.aN _ rfl (fun iM=>?_) (fun iM=>?_)
 refine RW.region (RL.ev rfl rfl (ah U8 rfl dr (by decide) rfl) (RL.ev rfl rfl (cr (cs:=[.int .i64 (n),av,rv,wv,gv,fv,ov,iv,cD,cE]) (j:=2) (m:=2) Vb rfl dr rfl (hN.aA 0 rfl) (US rfl)) ?_))
 refine RL.op rfl rfl (aM Tryz.func50 rfl rfl rfl ((uh _ _ rk ws _ (hr.o.now hN) (hw.o.now hN)).mono ?_))
 rintro _ w3 ⟨rfl,aW⟩
 replace hN:=hN.ext aW
 clear aW
 refine RL.ev (v:=.int .i64 ((dm rk ws))) rfl rfl aa (RL.nil (ag ?_))
 iterate 2 refine RW.seq ?_
 refine RW.region (RL.ev (v:=.int .i64 ((dm rk ws))) rfl rfl U (RL.ev rfl rfl (cI rfl rfl) (RL.nil (ag ?_))))
 refine RW.aN _ rfl (fun mP=>?_) (fun mP=>?_)
 refine RW.region (RL.ev rfl rfl (ah U8 rfl db (by decide) rfl) (RL.ev rfl rfl (ah U4 rfl bu (by decide) rfl) (RL.ev rfl rfl (aj UU rfl rfl (hN.aA 0 rfl) rfl) (RL.ev rfl rfl (ah U8 rfl ga (by decide) rfl) (RL.ev rfl rfl (cr (cs:=[.int .i64 (n),av,rv,wv,gv,fv,ov,iv,cD,cE]) (j:=4) (m:=6) Vh rfl ga rfl (hN.aA 0 rfl) (US rfl)) ?_)))))
 refine RL.op rfl rfl (aR aaM rfl rfl rfl rfl ((nd (n) _ _ gl (hg.o.now hN) _ fh fl (hf.o.now hN) (nP.gR hN) _ oh ol (ho.o.now hN) (Dd.ext hN.aE) _ ih il (hi.o.now hN) (su.ext hN.aE) _ qK dL (gL.o.now hN) (qj.gR hN) _ qL dP (gF.o.now hN) (qk.gR hN) yN KN).mono ?_))
 rintro _ w4 ⟨rfl,aW⟩
 replace hN:=hN.ext aW
 clear aW
 refine RL.ev (v:=.int .i64 ((cW (n) gl fl ol il dL dP))) rfl rfl aa (RL.nil (ag ?_))
 iterate 2 refine RW.seq ?_
 refine RW.region (RL.ev (v:=.int .i64 ((cW (n) gl fl ol il dL dP))) rfl rfl U (RL.ev rfl rfl (bp rfl rfl) (RL.nil (ag ?_))))
 refine RW.aN _ rfl (fun he=>?_) (fun he=>?_)
 refine RW.seq (RW.region (RL.ev (v:=.int .i64 ((cW (n) gl fl ol il dL dP))) rfl rfl U (RL.ev (v:=.int .i64 ((cW (n) gl fl ol il dL dP))) rfl rfl aa (RL.nil (ag (RW.ret (aD (aL (RV.tmp rfl) ?_))))))))
 exact⟨congrArg (Vn .i64) (show cL n l rk ws gl fl ol il dL dP=(cW (n) gl fl ol il dL dP) by
  unfold cL
  rw[if_neg (by omega),if_neg (by omega),if_pos (by omega)]).symm,hN.aE⟩
 refine RW.skip (ag ?_)
 iterate 2 refine RW.seq ?_
 have hm:dw n l=0:=by omega
 have hh:dm rk ws=0:=by omega
 refine RW.region (RL.ev rfl rfl (ah U8 rfl dr (by decide) rfl) (RL.ev rfl rfl (ah Vb rfl b7 (by decide) rfl) (RL.ev rfl rfl (aj UW rfl rfl (hN.aA 0 rfl) rfl) ?_)))
 have pd:=(hr.o.now hN).aY
 refine RL.ev rfl rfl (aQ UW (hr.o.now hN) rfl) (RL.ev rfl rfl (ah U8 rfl db (by decide) rfl) (RL.ev rfl rfl (ah U4 rfl bu (by decide) rfl) (RL.ev rfl rfl (aj UU rfl rfl (hN.aA 0 rfl) rfl) (RL.ev rfl rfl (bp rfl rfl) (RL.nil (ag ?_))))))
 refine RW.aN _ rfl (fun hlen=>?_) (fun hlen=>?_)
 refine RW.seq (RW.region (RL.ev (v:=.int .i64 (2)) rfl rfl aa (RL.nil (ag (RW.ret (aD (aL (RV.tmp rfl) ?_)))))))
 exact⟨congrArg (Vn .i64) (show cL n l rk ws gl fl ol il dL dP=2 by
  unfold cL
  rw[if_neg (by omega),if_neg (by omega),if_neg (by omega),if_neg (fun h=>by
  first
  |omega
  | (have h2 := h.2 x (UZ hx) (by omega)
     first
     |(have:=(U5.1 h2).1;omega)
     |(rw[hy]at h2;cases h2;omega)
     |(rw[hy]at h2;cases h2;simp_all)))]).symm,hN.aE⟩
 refine RW.skip (ag ?_)
 iterate 2 refine RW.seq ?_
 refine RW.region (RL.ev (v:=.int .i64 (0)) rfl rfl aa (RL.nil (ag (RW.block ?_))))
 refine RW.loop (fun k R0 bT=>∃i:Nat,R0 1=.pointer (some ⟨g1,0,none⟩)∧R0 4=.int .i64 ((i:Int))∧ak w none_ bT [.aA g1 [.int .i64 (n),av,rv,wv,gv,fv,ov,iv,cD,cE] 34]∧(i+k=ws.length)∧(∀(m:Nat) (y:I5),m<i→ws[m]?=some y→y.2.2.2.1= -1→l[y.2.2.2.2.toNat]?=some (y.1,y.2.1,y.2.2.1))) (ws.length) ?_ ?_
 exact⟨0,rfl,rfl,hN,by omega,fun m r hm=>absurd hm (by omega)⟩
 clear hN
 rintro k R0 bT ⟨i,bw,cg,hN,eR,wI⟩
 have bY:∃b6,R0=(aZ (aZ b6 1 _) 4 _):=⟨R0,by rw[ai bw,ai cg]⟩
 obtain⟨b6,rfl⟩:=bY
 clear bw cg
 iterate 2 refine RW.seq ?_
 refine RW.region (RL.ev (v:=.int .i64 ((i:Int))) rfl rfl U (RL.ev rfl rfl (ah U8 rfl dr (by decide) rfl) (RL.ev rfl rfl (ah Vb rfl fJ (by decide) rfl) (RL.ev rfl rfl (aj Vg rfl rfl (hN.aA 0 rfl) rfl) ?_))))
 have CF:=(hw.o.now hN).aY
 refine RL.ev rfl rfl (bQ Vg (hw.o.now hN) rfl) (RL.ev rfl rfl (aV rfl rfl) (RL.nil (ag ?_)))
 refine RW.aN _ rfl (fun bW=>?_) (fun bW=>?_)
 refine RW.skip (ag (RW.seq (RW.block (RW.seq ?_))))
 have aw:∃a_,ws[i]?=some a_:=⟨_,UT (by omega)⟩
 obtain⟨x,hx⟩:=aw
 have GD:=(ou hh).2 i x hx
 refine RW.region (RL.ev rfl rfl (ah U8 rfl dr (by decide) rfl) (RL.ev rfl rfl (ah Vb rfl fJ (by decide) rfl) (RL.ev rfl rfl (aj Vg rfl rfl (hN.aA 0 rfl) rfl) (RL.ev (v:=.int .i64 ((i:Int))) rfl rfl U (RL.ev rfl rfl (bn Vg dj bb (by decide) (hw.o.now hN) rfl rfl (by omega) (by omega)) (RL.ev rfl rfl (bU (m:=i) (a:=x) U0 rfl dj bb (by decide) (hw.o.now hN) rfl hx (cs:=[.int .i64 (x.1),.int .i64 (x.2.1),.int .i64 (x.2.2.1),.int .i64 (x.2.2.2.1),.int .i64 (x.2.2.2.2)]) rfl) ?_))))))
 refine RL.op rfl rfl (aX (cs:=[.int .i64 (0),.int .i64 (0),.int .i64 (0),.int .i64 (0),.int .i64 (0)]) ft rfl hN ?_)
 clear hN
 intro g7 w7 (hN:ak w none_ w7 [_,_])
 refine RL.op rfl rfl (aC (vs:=[.int .i64 (x.1),.int .i64 (x.2.1),.int .i64 (x.2.2.1),.int .i64 (x.2.2.2.1),.int .i64 (x.2.2.2.2)]) dj rfl rfl rfl (by intro u hu;simp only[U9,U2,or_false]at hu;rcases hu with rfl|rfl|rfl|rfl|rfl<;>first|rfl) hN 0 rfl rfl ?_)
 clear hN
 intro w8 (hN:ak w none_ w8 [_,_])
 refine RL.nil (ag ?_)
 iterate 2 refine RW.seq ?_
 refine RW.region (RL.ev rfl rfl (ah U0 rfl dk (by decide) rfl) (RL.ev rfl rfl (ah Vj rfl bu (by decide) rfl) (RL.ev rfl rfl (aj UU rfl rfl (hN.aA 0 rfl) rfl) (RL.ev rfl rfl (bp rfl rfl) (RL.nil (ag ?_))))))
 refine RW.aN _ rfl (fun j6=>?_) (fun j6=>?_)
 refine RW.exit (bm (aO (ag (RW.region (RL.ev (v:=.int .i64 ((i:Int))) rfl rfl U (RL.ev rfl rfl (an rfl rfl rfl (bc (by omega) (by omega))) (RL.ev (v:=.int .i64 ((i:Int)+1)) rfl rfl aa (RL.nil (ag ?_)))))))))
 exact⟨k-1,by omega,i+1,rfl,rfl,(hN.sub [1] (by decide) rfl),by omega,fun m z hm hz=>(VH m i).elim (fun e=>wI m z e hz) (fun e=>have e2:m=i:=(by omega);have e3:z=x:=Vq (hz.symm.trans (e2▸hx));e3▸fun h0=>by first|exact absurd h0 j6|exact hy.trans (congrArg some (V7 (by show y.1=x.1;omega) (V7 (by show y.2.1=x.2.1;omega) (by show y.2.2=x.2.2.1;omega)))))⟩
 refine RW.skip (ag ?_)
 iterate 2 refine RW.seq ?_
 refine RW.region (RL.ev rfl rfl (ah U0 rfl dk (by decide) rfl) (RL.ev rfl rfl (ah Vj rfl bu (by decide) rfl) (RL.ev rfl rfl (aj UU rfl rfl (hN.aA 0 rfl) rfl) (RL.ev rfl rfl (ah U8 rfl db (by decide) rfl) (RL.ev rfl rfl (ah U4 rfl dY (by decide) rfl) (RL.ev rfl rfl (aj Va rfl rfl (hN.aA 1 rfl) rfl) ?_))))))
 have KT:=(ha.o.now hN).aY
 refine RL.ev rfl rfl (bQ Va (ha.o.now hN) rfl) (RL.ev rfl rfl (da rfl rfl) (RL.nil (ag ?_)))
 refine RW.aN _ rfl (fun fG=>?_) (fun fG=>?_)
 refine RW.seq (RW.region (RL.ev (v:=.int .i64 (2)) rfl rfl aa (RL.nil (ag (RW.ret (aD (aJ ?_)))))))
 iterate 2 refine aD ?_
 refine aJ (aD (aL (RV.tmp rfl) ?_))
 exact⟨congrArg (Vn .i64) (show cL n l rk ws gl fl ol il dL dP=2 by
  unfold cL
  rw[if_neg (by omega),if_neg (by omega),if_neg (by omega),if_neg (fun h=>by
  first
  |omega
  | (have h2 := h.2 x (UZ hx) (by omega)
     first
     |(have:=(U5.1 h2).1;omega)
     |(rw[hy]at h2;cases h2;omega)
     |(rw[hy]at h2;cases h2;simp_all)))]).symm,hN.aE⟩
 refine RW.skip (ag (RW.seq ?_))
 have FJ:=GD.2
 rw[if_pos (by omega)]at FJ
 have aw:∃a_,l[x.2.2.2.2.toNat]?=some a_:=⟨_,UT (by omega)⟩
 obtain⟨y,hy⟩:=aw
 refine RW.region (RL.ev rfl rfl (ah U8 rfl db (by decide) rfl) (RL.ev rfl rfl (ah U4 rfl dY (by decide) rfl) (RL.ev rfl rfl (aj Va rfl rfl (hN.aA 1 rfl) rfl) (RL.ev rfl rfl (ah U0 rfl dk (by decide) rfl) (RL.ev rfl rfl (ah Vj rfl bu (by decide) rfl) (RL.ev rfl rfl (aj UU rfl rfl (hN.aA 0 rfl) rfl) (RL.ev rfl rfl (bn Va cq aU (by decide) (ha.o.now hN) rfl rfl (by omega) (by omega)) (RL.ev rfl rfl (bU (m:=(x.2.2.2.2).toNat) (a:=y) Ve rfl cq aU (by decide) (ha.o.now hN) rfl hy (cs:=[.int .i64 (y.1),.int .i64 (y.2.1),.int .i64 (y.2.2)]) rfl) ?_))))))))
 refine RL.op rfl rfl (aX (cs:=[.int .i64 (0),.int .i64 (0),.int .i64 (0)]) eo rfl hN ?_)
 clear hN
 intro tY jH (hN:ak w none_ jH [_,_,_])
 refine RL.op rfl rfl (aC (vs:=[.int .i64 (y.1),.int .i64 (y.2.1),.int .i64 (y.2.2)]) cq rfl rfl rfl (by intro u hu;simp only[U9,U2,or_false]at hu;rcases hu with rfl|rfl|rfl<;>first|rfl) hN 0 rfl rfl ?_)
 clear hN
 intro jj (hN:ak w none_ jj [_,_,_])
 refine RL.nil (ag (RW.seq (RW.region (RL.ev rfl rfl (ah Ve rfl bu (by decide) rfl) (RL.ev rfl rfl (aj UU rfl rfl (hN.aA 0 rfl) rfl) (RL.ev rfl rfl (ah U0 rfl bu (by decide) rfl) (RL.ev rfl rfl (aj UU rfl rfl (hN.aA 1 rfl) rfl) (RL.ev rfl rfl (bp rfl rfl) (RL.ev (v:=.bool (decide (¬y.1=x.1))) rfl rfl U ?_)))))))))
 by_cases jt:¬y.1=x.1
 rw[decide_eq_true jt]
 iterate 5 refine RL.off rfl rfl (by decide) rfl rfl ?_
 refine RL.ev (v:=.bool true) rfl rfl (ao rfl) (RL.ev (v:=.bool true) rfl rfl U ?_)
 iterate 6 refine RL.off rfl rfl (by decide) rfl rfl ?_
 refine RL.ev (v:=.bool true) rfl rfl (ao rfl) (RL.nil (ag (RW.bK rfl (RW.seq (RW.region (RL.ev (v:=.int .i64 (2)) rfl rfl aa (RL.nil (ag (RW.ret ?_)))))))))
 refine aJ ?_
 iterate 2 refine aD ?_
 refine aJ (aD (aL (RV.tmp rfl) ?_))
 exact⟨congrArg (Vn .i64) (show cL n l rk ws gl fl ol il dL dP=2 by
  unfold cL
  rw[if_neg (by omega),if_neg (by omega),if_neg (by omega),if_neg (fun h=>by
  first
  |omega
  | (have h2 := h.2 x (UZ hx) (by omega)
     first
     |(have:=(U5.1 h2).1;omega)
     |(rw[hy]at h2;cases h2;omega)
     |(rw[hy]at h2;cases h2;simp_all)))]).symm,hN.aE⟩
 rw[decide_eq_false jt]
 refine RL.aI rfl rfl (by decide) rfl rfl (ah Ve rfl bu (by decide) rfl) (RL.aI rfl rfl (by decide) rfl rfl (aj UU rfl rfl (hN.aA 0 rfl) rfl) (RL.aI rfl rfl (by decide) rfl rfl (ah U0 rfl bu (by decide) rfl) (RL.aI rfl rfl (by decide) rfl rfl (aj UU rfl rfl (hN.aA 1 rfl) rfl) (RL.aI rfl rfl (by decide) rfl rfl (bp rfl rfl) (RL.ev (v:=.bool (decide (¬y.2.1=x.2.1))) rfl rfl (aH rfl) (RL.ev (v:=.bool (decide (¬y.2.1=x.2.1))) rfl rfl U ?_))))))
 by_cases gT:¬y.2.1=x.2.1
 rw[decide_eq_true gT]
 iterate 6 refine RL.off rfl rfl (by decide) rfl rfl ?_
 refine RL.ev (v:=.bool true) rfl rfl (ao rfl) (RL.nil (ag (RW.bK rfl (RW.seq (RW.region (RL.ev (v:=.int .i64 (2)) rfl rfl aa (RL.nil (ag (RW.ret ?_)))))))))
 refine aJ ?_
 iterate 2 refine aD ?_
 refine aJ (aD (aL (RV.tmp rfl) ?_))
 exact⟨congrArg (Vn .i64) (show cL n l rk ws gl fl ol il dL dP=2 by
  unfold cL
  rw[if_neg (by omega),if_neg (by omega),if_neg (by omega),if_neg (fun h=>by
  first
  |omega
  | (have h2 := h.2 x (UZ hx) (by omega)
     first
     |(have:=(U5.1 h2).1;omega)
     |(rw[hy]at h2;cases h2;omega)
     |(rw[hy]at h2;cases h2;simp_all)))]).symm,hN.aE⟩
 rw[decide_eq_false gT]
 refine RL.aI rfl rfl (by decide) rfl rfl (ah Ve rfl bu (by decide) rfl) (RL.aI rfl rfl (by decide) rfl rfl (aj UU rfl rfl (hN.aA 0 rfl) rfl) (RL.aI rfl rfl (by decide) rfl rfl (ah U0 rfl dk (by decide) rfl) (RL.aI rfl rfl (by decide) rfl rfl (ah Vj rfl bu (by decide) rfl) (RL.aI rfl rfl (by decide) rfl rfl (aj UU rfl rfl (hN.aA 1 rfl) rfl) (RL.aI rfl rfl (by decide) rfl rfl (bp rfl rfl) (RL.ev (v:=.bool (decide (¬y.2.2=x.2.2.1))) rfl rfl (aH rfl) (RL.nil (ag ?_))))))))
 refine RW.aN _ rfl (fun eQ=>?_) (fun eQ=>?_)
 refine RW.seq (RW.region (RL.ev (v:=.int .i64 (2)) rfl rfl aa (RL.nil (ag (RW.ret (aJ ?_))))))
 iterate 2 refine aD ?_
 refine aJ (aD (aL (RV.tmp rfl) ?_))
 exact⟨congrArg (Vn .i64) (show cL n l rk ws gl fl ol il dL dP=2 by
  unfold cL
  rw[if_neg (by omega),if_neg (by omega),if_neg (by omega),if_neg (fun h=>by
  first
  |omega
  | (have h2 := h.2 x (UZ hx) (by omega)
     first
     |(have:=(U5.1 h2).1;omega)
     |(rw[hy]at h2;cases h2;omega)
     |(rw[hy]at h2;cases h2;simp_all)))]).symm,hN.aE⟩
 refine RW.skip (a7 (ag (RW.region (RL.ev (v:=.int .i64 ((i:Int))) rfl rfl U (RL.ev rfl rfl (an rfl rfl rfl (bc (by omega) (by omega))) (RL.ev (v:=.int .i64 ((i:Int)+1)) rfl rfl aa (RL.nil (ag ?_))))))))
 exact⟨k-1,by omega,i+1,rfl,rfl,(hN.sub [2] (by decide) rfl),by omega,fun m z hm hz=>(VH m i).elim (fun e=>wI m z e hz) (fun e=>have e2:m=i:=(by omega);have e3:z=x:=Vq (hz.symm.trans (e2▸hx));e3▸fun h0=>by first|exact absurd h0 j6|exact hy.trans (congrArg some (V7 (by show y.1=x.1;omega) (V7 (by show y.2.1=x.2.1;omega) (by show y.2.2=x.2.2.1;omega)))))⟩
 refine RW.exit ?_
 iterate 2 refine bm ?_
 refine aO (ag (RW.seq (RW.region (RL.ev (v:=.int .i64 (0)) rfl rfl aa (RL.nil (ag (RW.ret (aL (RV.tmp rfl) ?_))))))))
 exact⟨congrArg (Vn .i64) (show cL n l rk ws gl fl ol il dL dP=0 by
  unfold cL
  rw[if_neg (by omega),if_neg (by omega),if_neg (by omega),if_pos ⟨by omega,fun x hx=>by
  have aw:=VK hx
  obtain⟨m,hm⟩:=aw
  exact wI m x (by have:=(U5.1 hm).1;omega) hm⟩]).symm,hN.aE⟩
 refine RW.skip (ag ?_)
 iterate 2 refine RW.seq ?_
 refine RW.region (RL.ev (v:=.int .i64 ((dm rk ws))) rfl rfl U (RL.ev rfl rfl (bp rfl rfl) (RL.nil (ag ?_))))
 refine RW.aN _ rfl (fun he=>?_) (fun he=>?_)
 refine RW.seq (RW.region (RL.ev (v:=.int .i64 ((dm rk ws))) rfl rfl U (RL.ev (v:=.int .i64 ((dm rk ws))) rfl rfl aa (RL.nil (ag (RW.ret (aD (aL (RV.tmp rfl) ?_))))))))
 exact⟨congrArg (Vn .i64) (show cL n l rk ws gl fl ol il dL dP=(dm rk ws) by
  unfold cL
  rw[if_neg (by omega),if_pos (by omega)]).symm,hN.aE⟩
 refine RW.skip (ag ?_)
 iterate 2 refine RW.seq ?_
 have hm:dw n l=0:=by omega
 have hh:dm rk ws=0:=by omega
 refine RW.region (RL.ev rfl rfl (ah U8 rfl dr (by decide) rfl) (RL.ev rfl rfl (ah Vb rfl b7 (by decide) rfl) (RL.ev rfl rfl (aj UW rfl rfl (hN.aA 0 rfl) rfl) ?_)))
 have Sd:=(hr.o.now hN).aY
 refine RL.ev rfl rfl (aQ UW (hr.o.now hN) rfl) (RL.ev rfl rfl (ah U8 rfl db (by decide) rfl) (RL.ev rfl rfl (ah U4 rfl bu (by decide) rfl) (RL.ev rfl rfl (aj UU rfl rfl (hN.aA 0 rfl) rfl) (RL.ev rfl rfl (bp rfl rfl) (RL.nil (ag ?_))))))
 refine RW.aN _ rfl (fun hlen=>?_) (fun hlen=>?_)
 refine RW.seq (RW.region (RL.ev (v:=.int .i64 (2)) rfl rfl aa (RL.nil (ag (RW.ret (aD (aL (RV.tmp rfl) ?_)))))))
 exact⟨congrArg (Vn .i64) (show cL n l rk ws gl fl ol il dL dP=2 by
  unfold cL
  rw[if_neg (by omega),if_neg (by omega),if_neg (by omega),if_neg (fun h=>by
  first
  |omega
  | (have h2 := h.2 x (UZ hx) (by omega)
     first
     |(have:=(U5.1 h2).1;omega)
     |(rw[hy]at h2;cases h2;omega)
     |(rw[hy]at h2;cases h2;simp_all)))]).symm,hN.aE⟩
 refine RW.skip (ag ?_)
 iterate 2 refine RW.seq ?_
 refine RW.region (RL.ev (v:=.int .i64 (0)) rfl rfl aa (RL.nil (ag (RW.block ?_))))
 refine RW.loop (fun k R0 bT=>∃i:Nat,R0 1=.pointer (some ⟨g1,0,none⟩)∧R0 4=.int .i64 ((i:Int))∧ak w none_ bT [.aA g1 [.int .i64 (n),av,rv,wv,gv,fv,ov,iv,cD,cE] 34]∧(i+k=ws.length)∧(∀(m:Nat) (y:I5),m<i→ws[m]?=some y→y.2.2.2.1= -1→l[y.2.2.2.2.toNat]?=some (y.1,y.2.1,y.2.2.1))) (ws.length) ?_ ?_
 exact⟨0,rfl,rfl,hN,by omega,fun m r hm=>absurd hm (by omega)⟩
 clear hN
 rintro k R0 bT ⟨i,bw,cg,hN,eR,wI⟩
 have bY:∃b6,R0=(aZ (aZ b6 1 _) 4 _):=⟨R0,by rw[ai bw,ai cg]⟩
 obtain⟨b6,rfl⟩:=bY
 clear bw cg
 iterate 2 refine RW.seq ?_
 refine RW.region (RL.ev (v:=.int .i64 ((i:Int))) rfl rfl U (RL.ev rfl rfl (ah U8 rfl dr (by decide) rfl) (RL.ev rfl rfl (ah Vb rfl fJ (by decide) rfl) (RL.ev rfl rfl (aj Vg rfl rfl (hN.aA 0 rfl) rfl) ?_))))
 have I0:=(hw.o.now hN).aY
 refine RL.ev rfl rfl (bQ Vg (hw.o.now hN) rfl) (RL.ev rfl rfl (aV rfl rfl) (RL.nil (ag ?_)))
 refine RW.aN _ rfl (fun bW=>?_) (fun bW=>?_)
 refine RW.skip (ag (RW.seq (RW.block (RW.seq ?_))))
 have aw:∃a_,ws[i]?=some a_:=⟨_,UT (by omega)⟩
 obtain⟨x,hx⟩:=aw
 have GD:=(ou hh).2 i x hx
 refine RW.region (RL.ev rfl rfl (ah U8 rfl dr (by decide) rfl) (RL.ev rfl rfl (ah Vb rfl fJ (by decide) rfl) (RL.ev rfl rfl (aj Vg rfl rfl (hN.aA 0 rfl) rfl) (RL.ev (v:=.int .i64 ((i:Int))) rfl rfl U (RL.ev rfl rfl (bn Vg dj bb (by decide) (hw.o.now hN) rfl rfl (by omega) (by omega)) (RL.ev rfl rfl (bU (m:=i) (a:=x) U0 rfl dj bb (by decide) (hw.o.now hN) rfl hx (cs:=[.int .i64 (x.1),.int .i64 (x.2.1),.int .i64 (x.2.2.1),.int .i64 (x.2.2.2.1),.int .i64 (x.2.2.2.2)]) rfl) ?_))))))
 refine RL.op rfl rfl (aX (cs:=[.int .i64 (0),.int .i64 (0),.int .i64 (0),.int .i64 (0),.int .i64 (0)]) ft rfl hN ?_)
 clear hN
 intro Oe lF (hN:ak w none_ lF [_,_])
 refine RL.op rfl rfl (aC (vs:=[.int .i64 (x.1),.int .i64 (x.2.1),.int .i64 (x.2.2.1),.int .i64 (x.2.2.2.1),.int .i64 (x.2.2.2.2)]) dj rfl rfl rfl (by intro u hu;simp only[U9,U2,or_false]at hu;rcases hu with rfl|rfl|rfl|rfl|rfl<;>first|rfl) hN 0 rfl rfl ?_)
 clear hN
 intro k9 (hN:ak w none_ k9 [_,_])
 refine RL.nil (ag ?_)
 iterate 2 refine RW.seq ?_
 refine RW.region (RL.ev rfl rfl (ah U0 rfl dk (by decide) rfl) (RL.ev rfl rfl (ah Vj rfl bu (by decide) rfl) (RL.ev rfl rfl (aj UU rfl rfl (hN.aA 0 rfl) rfl) (RL.ev rfl rfl (bp rfl rfl) (RL.nil (ag ?_))))))
 refine RW.aN _ rfl (fun j6=>?_) (fun j6=>?_)
 refine RW.exit (bm (aO (ag (RW.region (RL.ev (v:=.int .i64 ((i:Int))) rfl rfl U (RL.ev rfl rfl (an rfl rfl rfl (bc (by omega) (by omega))) (RL.ev (v:=.int .i64 ((i:Int)+1)) rfl rfl aa (RL.nil (ag ?_)))))))))
 exact⟨k-1,by omega,i+1,rfl,rfl,(hN.sub [1] (by decide) rfl),by omega,fun m z hm hz=>(VH m i).elim (fun e=>wI m z e hz) (fun e=>have e2:m=i:=(by omega);have e3:z=x:=Vq (hz.symm.trans (e2▸hx));e3▸fun h0=>by first|exact absurd h0 j6|exact hy.trans (congrArg some (V7 (by show y.1=x.1;omega) (V7 (by show y.2.1=x.2.1;omega) (by show y.2.2=x.2.2.1;omega)))))⟩
 refine RW.skip (ag ?_)
 iterate 2 refine RW.seq ?_
 refine RW.region (RL.ev rfl rfl (ah U0 rfl dk (by decide) rfl) (RL.ev rfl rfl (ah Vj rfl bu (by decide) rfl) (RL.ev rfl rfl (aj UU rfl rfl (hN.aA 0 rfl) rfl) (RL.ev rfl rfl (ah U8 rfl db (by decide) rfl) (RL.ev rfl rfl (ah U4 rfl dY (by decide) rfl) (RL.ev rfl rfl (aj Va rfl rfl (hN.aA 1 rfl) rfl) ?_))))))
 have IZ:=(ha.o.now hN).aY
 refine RL.ev rfl rfl (bQ Va (ha.o.now hN) rfl) (RL.ev rfl rfl (da rfl rfl) (RL.nil (ag ?_)))
 refine RW.aN _ rfl (fun fG=>?_) (fun fG=>?_)
 refine RW.seq (RW.region (RL.ev (v:=.int .i64 (2)) rfl rfl aa (RL.nil (ag (RW.ret (aD (aJ ?_)))))))
 iterate 2 refine aD ?_
 refine aJ (aD (aL (RV.tmp rfl) ?_))
 exact⟨congrArg (Vn .i64) (show cL n l rk ws gl fl ol il dL dP=2 by
  unfold cL
  rw[if_neg (by omega),if_neg (by omega),if_neg (by omega),if_neg (fun h=>by
  first
  |omega
  | (have h2 := h.2 x (UZ hx) (by omega)
     first
     |(have:=(U5.1 h2).1;omega)
     |(rw[hy]at h2;cases h2;omega)
     |(rw[hy]at h2;cases h2;simp_all)))]).symm,hN.aE⟩
 refine RW.skip (ag (RW.seq ?_))
 have FJ:=GD.2
 rw[if_pos (by omega)]at FJ
 have aw:∃a_,l[x.2.2.2.2.toNat]?=some a_:=⟨_,UT (by omega)⟩
 obtain⟨y,hy⟩:=aw
 refine RW.region (RL.ev rfl rfl (ah U8 rfl db (by decide) rfl) (RL.ev rfl rfl (ah U4 rfl dY (by decide) rfl) (RL.ev rfl rfl (aj Va rfl rfl (hN.aA 1 rfl) rfl) (RL.ev rfl rfl (ah U0 rfl dk (by decide) rfl) (RL.ev rfl rfl (ah Vj rfl bu (by decide) rfl) (RL.ev rfl rfl (aj UU rfl rfl (hN.aA 0 rfl) rfl) (RL.ev rfl rfl (bn Va cq aU (by decide) (ha.o.now hN) rfl rfl (by omega) (by omega)) (RL.ev rfl rfl (bU (m:=(x.2.2.2.2).toNat) (a:=y) Ve rfl cq aU (by decide) (ha.o.now hN) rfl hy (cs:=[.int .i64 (y.1),.int .i64 (y.2.1),.int .i64 (y.2.2)]) rfl) ?_))))))))
 refine RL.op rfl rfl (aX (cs:=[.int .i64 (0),.int .i64 (0),.int .i64 (0)]) eo rfl hN ?_)
 clear hN
 intro Ud uu (hN:ak w none_ uu [_,_,_])
 refine RL.op rfl rfl (aC (vs:=[.int .i64 (y.1),.int .i64 (y.2.1),.int .i64 (y.2.2)]) cq rfl rfl rfl (by intro u hu;simp only[U9,U2,or_false]at hu;rcases hu with rfl|rfl|rfl<;>first|rfl) hN 0 rfl rfl ?_)
 clear hN
 intro vA (hN:ak w none_ vA [_,_,_])
 refine RL.nil (ag (RW.seq (RW.region (RL.ev rfl rfl (ah Ve rfl bu (by decide) rfl) (RL.ev rfl rfl (aj UU rfl rfl (hN.aA 0 rfl) rfl) (RL.ev rfl rfl (ah U0 rfl bu (by decide) rfl) (RL.ev rfl rfl (aj UU rfl rfl (hN.aA 1 rfl) rfl) (RL.ev rfl rfl (bp rfl rfl) (RL.ev (v:=.bool (decide (¬y.1=x.1))) rfl rfl U ?_)))))))))
 by_cases jt:¬y.1=x.1
 rw[decide_eq_true jt]
 iterate 5 refine RL.off rfl rfl (by decide) rfl rfl ?_
 refine RL.ev (v:=.bool true) rfl rfl (ao rfl) (RL.ev (v:=.bool true) rfl rfl U ?_)
 iterate 6 refine RL.off rfl rfl (by decide) rfl rfl ?_
 refine RL.ev (v:=.bool true) rfl rfl (ao rfl) (RL.nil (ag (RW.bK rfl (RW.seq (RW.region (RL.ev (v:=.int .i64 (2)) rfl rfl aa (RL.nil (ag (RW.ret ?_)))))))))
 refine aJ ?_
 iterate 2 refine aD ?_
 refine aJ (aD (aL (RV.tmp rfl) ?_))
 exact⟨congrArg (Vn .i64) (show cL n l rk ws gl fl ol il dL dP=2 by
  unfold cL
  rw[if_neg (by omega),if_neg (by omega),if_neg (by omega),if_neg (fun h=>by
  first
  |omega
  | (have h2 := h.2 x (UZ hx) (by omega)
     first
     |(have:=(U5.1 h2).1;omega)
     |(rw[hy]at h2;cases h2;omega)
     |(rw[hy]at h2;cases h2;simp_all)))]).symm,hN.aE⟩
 rw[decide_eq_false jt]
 refine RL.aI rfl rfl (by decide) rfl rfl (ah Ve rfl bu (by decide) rfl) (RL.aI rfl rfl (by decide) rfl rfl (aj UU rfl rfl (hN.aA 0 rfl) rfl) (RL.aI rfl rfl (by decide) rfl rfl (ah U0 rfl bu (by decide) rfl) (RL.aI rfl rfl (by decide) rfl rfl (aj UU rfl rfl (hN.aA 1 rfl) rfl) (RL.aI rfl rfl (by decide) rfl rfl (bp rfl rfl) (RL.ev (v:=.bool (decide (¬y.2.1=x.2.1))) rfl rfl (aH rfl) (RL.ev (v:=.bool (decide (¬y.2.1=x.2.1))) rfl rfl U ?_))))))
 by_cases gT:¬y.2.1=x.2.1
 rw[decide_eq_true gT]
 iterate 6 refine RL.off rfl rfl (by decide) rfl rfl ?_
 refine RL.ev (v:=.bool true) rfl rfl (ao rfl) (RL.nil (ag (RW.bK rfl (RW.seq (RW.region (RL.ev (v:=.int .i64 (2)) rfl rfl aa (RL.nil (ag (RW.ret ?_)))))))))
 refine aJ ?_
 iterate 2 refine aD ?_
 refine aJ (aD (aL (RV.tmp rfl) ?_))
 exact⟨congrArg (Vn .i64) (show cL n l rk ws gl fl ol il dL dP=2 by
  unfold cL
  rw[if_neg (by omega),if_neg (by omega),if_neg (by omega),if_neg (fun h=>by
  first
  |omega
  | (have h2 := h.2 x (UZ hx) (by omega)
     first
     |(have:=(U5.1 h2).1;omega)
     |(rw[hy]at h2;cases h2;omega)
     |(rw[hy]at h2;cases h2;simp_all)))]).symm,hN.aE⟩
 rw[decide_eq_false gT]
 refine RL.aI rfl rfl (by decide) rfl rfl (ah Ve rfl bu (by decide) rfl) (RL.aI rfl rfl (by decide) rfl rfl (aj UU rfl rfl (hN.aA 0 rfl) rfl) (RL.aI rfl rfl (by decide) rfl rfl (ah U0 rfl dk (by decide) rfl) (RL.aI rfl rfl (by decide) rfl rfl (ah Vj rfl bu (by decide) rfl) (RL.aI rfl rfl (by decide) rfl rfl (aj UU rfl rfl (hN.aA 1 rfl) rfl) (RL.aI rfl rfl (by decide) rfl rfl (bp rfl rfl) (RL.ev (v:=.bool (decide (¬y.2.2=x.2.2.1))) rfl rfl (aH rfl) (RL.nil (ag ?_))))))))
 refine RW.aN _ rfl (fun eQ=>?_) (fun eQ=>?_)
 refine RW.seq (RW.region (RL.ev (v:=.int .i64 (2)) rfl rfl aa (RL.nil (ag (RW.ret (aJ ?_))))))
 iterate 2 refine aD ?_
 refine aJ (aD (aL (RV.tmp rfl) ?_))
 exact⟨congrArg (Vn .i64) (show cL n l rk ws gl fl ol il dL dP=2 by
  unfold cL
  rw[if_neg (by omega),if_neg (by omega),if_neg (by omega),if_neg (fun h=>by
  first
  |omega
  | (have h2 := h.2 x (UZ hx) (by omega)
     first
     |(have:=(U5.1 h2).1;omega)
     |(rw[hy]at h2;cases h2;omega)
     |(rw[hy]at h2;cases h2;simp_all)))]).symm,hN.aE⟩
 refine RW.skip (a7 (ag (RW.region (RL.ev (v:=.int .i64 ((i:Int))) rfl rfl U (RL.ev rfl rfl (an rfl rfl rfl (bc (by omega) (by omega))) (RL.ev (v:=.int .i64 ((i:Int)+1)) rfl rfl aa (RL.nil (ag ?_))))))))
 exact⟨k-1,by omega,i+1,rfl,rfl,(hN.sub [2] (by decide) rfl),by omega,fun m z hm hz=>(VH m i).elim (fun e=>wI m z e hz) (fun e=>have e2:m=i:=(by omega);have e3:z=x:=Vq (hz.symm.trans (e2▸hx));e3▸fun h0=>by first|exact absurd h0 j6|exact hy.trans (congrArg some (V7 (by show y.1=x.1;omega) (V7 (by show y.2.1=x.2.1;omega) (by show y.2.2=x.2.2.1;omega)))))⟩
 refine RW.exit ?_
 iterate 2 refine bm ?_
 refine aO (ag (RW.seq (RW.region (RL.ev (v:=.int .i64 (0)) rfl rfl aa (RL.nil (ag (RW.ret (aL (RV.tmp rfl) ?_))))))))
 exact⟨congrArg (Vn .i64) (show cL n l rk ws gl fl ol il dL dP=0 by
  unfold cL
  rw[if_neg (by omega),if_neg (by omega),if_neg (by omega),if_pos ⟨by omega,fun x hx=>by
  have aw:=VK hx
  obtain⟨m,hm⟩:=aw
  exact wI m x (by have:=(U5.1 hm).1;omega) hm⟩]).symm,hN.aE⟩
 refine RW.skip (ag ?_)
 iterate 2 refine RW.seq ?_
 refine RW.region (RL.ev (v:=.int .i64 ((dw (n) l))) rfl rfl U (RL.ev rfl rfl (cI rfl rfl) (RL.nil (ag ?_))))
 refine RW.aN _ rfl (fun mP=>?_) (fun mP=>?_)
 refine RW.region (RL.ev rfl rfl (ah U8 rfl db (by decide) rfl) (RL.ev rfl rfl (ah U4 rfl bu (by decide) rfl) (RL.ev rfl rfl (aj UU rfl rfl (hN.aA 0 rfl) rfl) (RL.ev rfl rfl (ah U8 rfl ga (by decide) rfl) (RL.ev rfl rfl (cr (cs:=[.int .i64 (n),av,rv,wv,gv,fv,ov,iv,cD,cE]) (j:=4) (m:=6) Vh rfl ga rfl (hN.aA 0 rfl) (US rfl)) ?_)))))
 refine RL.op rfl rfl (aR aaM rfl rfl rfl rfl ((nd (n) _ _ gl (hg.o.now hN) _ fh fl (hf.o.now hN) (nP.gR hN) _ oh ol (ho.o.now hN) (Dd.ext hN.aE) _ ih il (hi.o.now hN) (su.ext hN.aE) _ qK dL (gL.o.now hN) (qj.gR hN) _ qL dP (gF.o.now hN) (qk.gR hN) yN KN).mono ?_))
 rintro _ zy ⟨rfl,aW⟩
 replace hN:=hN.ext aW
 clear aW
 refine RL.ev (v:=.int .i64 ((cW (n) gl fl ol il dL dP))) rfl rfl aa (RL.nil (ag ?_))
 iterate 2 refine RW.seq ?_
 refine RW.region (RL.ev (v:=.int .i64 ((cW (n) gl fl ol il dL dP))) rfl rfl U (RL.ev rfl rfl (bp rfl rfl) (RL.nil (ag ?_))))
 refine RW.aN _ rfl (fun he=>?_) (fun he=>?_)
 refine RW.seq (RW.region (RL.ev (v:=.int .i64 ((cW (n) gl fl ol il dL dP))) rfl rfl U (RL.ev (v:=.int .i64 ((cW (n) gl fl ol il dL dP))) rfl rfl aa (RL.nil (ag (RW.ret (aD (aL (RV.tmp rfl) ?_))))))))
 exact⟨congrArg (Vn .i64) (show cL n l rk ws gl fl ol il dL dP=(cW (n) gl fl ol il dL dP) by
  unfold cL
  rw[if_neg (by omega),if_neg (by omega),if_pos (by omega)]).symm,hN.aE⟩
 refine RW.skip (ag ?_)
 iterate 2 refine RW.seq ?_
 have hm:dw n l=0:=by omega
 have hh:dm rk ws=0:=by omega
 refine RW.region (RL.ev rfl rfl (ah U8 rfl dr (by decide) rfl) (RL.ev rfl rfl (ah Vb rfl b7 (by decide) rfl) (RL.ev rfl rfl (aj UW rfl rfl (hN.aA 0 rfl) rfl) ?_)))
 have Nx:=(hr.o.now hN).aY
 refine RL.ev rfl rfl (aQ UW (hr.o.now hN) rfl) (RL.ev rfl rfl (ah U8 rfl db (by decide) rfl) (RL.ev rfl rfl (ah U4 rfl bu (by decide) rfl) (RL.ev rfl rfl (aj UU rfl rfl (hN.aA 0 rfl) rfl) (RL.ev rfl rfl (bp rfl rfl) (RL.nil (ag ?_))))))
 refine RW.aN _ rfl (fun hlen=>?_) (fun hlen=>?_)
 refine RW.seq (RW.region (RL.ev (v:=.int .i64 (2)) rfl rfl aa (RL.nil (ag (RW.ret (aD (aL (RV.tmp rfl) ?_)))))))
 exact⟨congrArg (Vn .i64) (show cL n l rk ws gl fl ol il dL dP=2 by
  unfold cL
  rw[if_neg (by omega),if_neg (by omega),if_neg (by omega),if_neg (fun h=>by
  first
  |omega
  | (have h2 := h.2 x (UZ hx) (by omega)
     first
     |(have:=(U5.1 h2).1;omega)
     |(rw[hy]at h2;cases h2;omega)
     |(rw[hy]at h2;cases h2;simp_all)))]).symm,hN.aE⟩
 refine RW.skip (ag ?_)
 iterate 2 refine RW.seq ?_
 refine RW.region (RL.ev (v:=.int .i64 (0)) rfl rfl aa (RL.nil (ag (RW.block ?_))))
 refine RW.loop (fun k R0 bT=>∃i:Nat,R0 1=.pointer (some ⟨g1,0,none⟩)∧R0 4=.int .i64 ((i:Int))∧ak w none_ bT [.aA g1 [.int .i64 (n),av,rv,wv,gv,fv,ov,iv,cD,cE] 34]∧(i+k=ws.length)∧(∀(m:Nat) (y:I5),m<i→ws[m]?=some y→y.2.2.2.1= -1→l[y.2.2.2.2.toNat]?=some (y.1,y.2.1,y.2.2.1))) (ws.length) ?_ ?_
 exact⟨0,rfl,rfl,hN,by omega,fun m r hm=>absurd hm (by omega)⟩
 clear hN
 rintro k R0 bT ⟨i,bw,cg,hN,eR,wI⟩
 have bY:∃b6,R0=(aZ (aZ b6 1 _) 4 _):=⟨R0,by rw[ai bw,ai cg]⟩
 obtain⟨b6,rfl⟩:=bY
 clear bw cg
 iterate 2 refine RW.seq ?_
 refine RW.region (RL.ev (v:=.int .i64 ((i:Int))) rfl rfl U (RL.ev rfl rfl (ah U8 rfl dr (by decide) rfl) (RL.ev rfl rfl (ah Vb rfl fJ (by decide) rfl) (RL.ev rfl rfl (aj Vg rfl rfl (hN.aA 0 rfl) rfl) ?_))))
 have Sc:=(hw.o.now hN).aY
 refine RL.ev rfl rfl (bQ Vg (hw.o.now hN) rfl) (RL.ev rfl rfl (aV rfl rfl) (RL.nil (ag ?_)))
 refine RW.aN _ rfl (fun bW=>?_) (fun bW=>?_)
 refine RW.skip (ag (RW.seq (RW.block (RW.seq ?_))))
 have aw:∃a_,ws[i]?=some a_:=⟨_,UT (by omega)⟩
 obtain⟨x,hx⟩:=aw
 have GD:=(ou hh).2 i x hx
 refine RW.region (RL.ev rfl rfl (ah U8 rfl dr (by decide) rfl) (RL.ev rfl rfl (ah Vb rfl fJ (by decide) rfl) (RL.ev rfl rfl (aj Vg rfl rfl (hN.aA 0 rfl) rfl) (RL.ev (v:=.int .i64 ((i:Int))) rfl rfl U (RL.ev rfl rfl (bn Vg dj bb (by decide) (hw.o.now hN) rfl rfl (by omega) (by omega)) (RL.ev rfl rfl (bU (m:=i) (a:=x) U0 rfl dj bb (by decide) (hw.o.now hN) rfl hx (cs:=[.int .i64 (x.1),.int .i64 (x.2.1),.int .i64 (x.2.2.1),.int .i64 (x.2.2.2.1),.int .i64 (x.2.2.2.2)]) rfl) ?_))))))
 refine RL.op rfl rfl (aX (cs:=[.int .i64 (0),.int .i64 (0),.int .i64 (0),.int .i64 (0),.int .i64 (0)]) ft rfl hN ?_)
 clear hN
 intro Ub BM (hN:ak w none_ BM [_,_])
 refine RL.op rfl rfl (aC (vs:=[.int .i64 (x.1),.int .i64 (x.2.1),.int .i64 (x.2.2.1),.int .i64 (x.2.2.2.1),.int .i64 (x.2.2.2.2)]) dj rfl rfl rfl (by intro u hu;simp only[U9,U2,or_false]at hu;rcases hu with rfl|rfl|rfl|rfl|rfl<;>first|rfl) hN 0 rfl rfl ?_)
 clear hN
 intro Gs (hN:ak w none_ Gs [_,_])
 refine RL.nil (ag ?_)
 iterate 2 refine RW.seq ?_
 refine RW.region (RL.ev rfl rfl (ah U0 rfl dk (by decide) rfl) (RL.ev rfl rfl (ah Vj rfl bu (by decide) rfl) (RL.ev rfl rfl (aj UU rfl rfl (hN.aA 0 rfl) rfl) (RL.ev rfl rfl (bp rfl rfl) (RL.nil (ag ?_))))))
 refine RW.aN _ rfl (fun j6=>?_) (fun j6=>?_)
 refine RW.exit (bm (aO (ag (RW.region (RL.ev (v:=.int .i64 ((i:Int))) rfl rfl U (RL.ev rfl rfl (an rfl rfl rfl (bc (by omega) (by omega))) (RL.ev (v:=.int .i64 ((i:Int)+1)) rfl rfl aa (RL.nil (ag ?_)))))))))
 exact⟨k-1,by omega,i+1,rfl,rfl,(hN.sub [1] (by decide) rfl),by omega,fun m z hm hz=>(VH m i).elim (fun e=>wI m z e hz) (fun e=>have e2:m=i:=(by omega);have e3:z=x:=Vq (hz.symm.trans (e2▸hx));e3▸fun h0=>by first|exact absurd h0 j6|exact hy.trans (congrArg some (V7 (by show y.1=x.1;omega) (V7 (by show y.2.1=x.2.1;omega) (by show y.2.2=x.2.2.1;omega)))))⟩
 refine RW.skip (ag ?_)
 iterate 2 refine RW.seq ?_
 refine RW.region (RL.ev rfl rfl (ah U0 rfl dk (by decide) rfl) (RL.ev rfl rfl (ah Vj rfl bu (by decide) rfl) (RL.ev rfl rfl (aj UU rfl rfl (hN.aA 0 rfl) rfl) (RL.ev rfl rfl (ah U8 rfl db (by decide) rfl) (RL.ev rfl rfl (ah U4 rfl dY (by decide) rfl) (RL.ev rfl rfl (aj Va rfl rfl (hN.aA 1 rfl) rfl) ?_))))))
 have Sb:=(ha.o.now hN).aY
 refine RL.ev rfl rfl (bQ Va (ha.o.now hN) rfl) (RL.ev rfl rfl (da rfl rfl) (RL.nil (ag ?_)))
 refine RW.aN _ rfl (fun fG=>?_) (fun fG=>?_)
 refine RW.seq (RW.region (RL.ev (v:=.int .i64 (2)) rfl rfl aa (RL.nil (ag (RW.ret (aD (aJ ?_)))))))
 iterate 2 refine aD ?_
 refine aJ (aD (aL (RV.tmp rfl) ?_))
 exact⟨congrArg (Vn .i64) (show cL n l rk ws gl fl ol il dL dP=2 by
  unfold cL
  rw[if_neg (by omega),if_neg (by omega),if_neg (by omega),if_neg (fun h=>by
  first
  |omega
  | (have h2 := h.2 x (UZ hx) (by omega)
     first
     |(have:=(U5.1 h2).1;omega)
     |(rw[hy]at h2;cases h2;omega)
     |(rw[hy]at h2;cases h2;simp_all)))]).symm,hN.aE⟩
 refine RW.skip (ag (RW.seq ?_))
 have FJ:=GD.2
 rw[if_pos (by omega)]at FJ
 have aw:∃a_,l[x.2.2.2.2.toNat]?=some a_:=⟨_,UT (by omega)⟩
 obtain⟨y,hy⟩:=aw
 refine RW.region (RL.ev rfl rfl (ah U8 rfl db (by decide) rfl) (RL.ev rfl rfl (ah U4 rfl dY (by decide) rfl) (RL.ev rfl rfl (aj Va rfl rfl (hN.aA 1 rfl) rfl) (RL.ev rfl rfl (ah U0 rfl dk (by decide) rfl) (RL.ev rfl rfl (ah Vj rfl bu (by decide) rfl) (RL.ev rfl rfl (aj UU rfl rfl (hN.aA 0 rfl) rfl) (RL.ev rfl rfl (bn Va cq aU (by decide) (ha.o.now hN) rfl rfl (by omega) (by omega)) (RL.ev rfl rfl (bU (m:=(x.2.2.2.2).toNat) (a:=y) Ve rfl cq aU (by decide) (ha.o.now hN) rfl hy (cs:=[.int .i64 (y.1),.int .i64 (y.2.1),.int .i64 (y.2.2)]) rfl) ?_))))))))
 refine RL.op rfl rfl (aX (cs:=[.int .i64 (0),.int .i64 (0),.int .i64 (0)]) eo rfl hN ?_)
 clear hN
 intro UM Lm (hN:ak w none_ Lm [_,_,_])
 refine RL.op rfl rfl (aC (vs:=[.int .i64 (y.1),.int .i64 (y.2.1),.int .i64 (y.2.2)]) cq rfl rfl rfl (by intro u hu;simp only[U9,U2,or_false]at hu;rcases hu with rfl|rfl|rfl<;>first|rfl) hN 0 rfl rfl ?_)
 clear hN
 intro On (hN:ak w none_ On [_,_,_])
 refine RL.nil (ag (RW.seq (RW.region (RL.ev rfl rfl (ah Ve rfl bu (by decide) rfl) (RL.ev rfl rfl (aj UU rfl rfl (hN.aA 0 rfl) rfl) (RL.ev rfl rfl (ah U0 rfl bu (by decide) rfl) (RL.ev rfl rfl (aj UU rfl rfl (hN.aA 1 rfl) rfl) (RL.ev rfl rfl (bp rfl rfl) (RL.ev (v:=.bool (decide (¬y.1=x.1))) rfl rfl U ?_)))))))))
 by_cases jt:¬y.1=x.1
 rw[decide_eq_true jt]
 iterate 5 refine RL.off rfl rfl (by decide) rfl rfl ?_
 refine RL.ev (v:=.bool true) rfl rfl (ao rfl) (RL.ev (v:=.bool true) rfl rfl U ?_)
 iterate 6 refine RL.off rfl rfl (by decide) rfl rfl ?_
 refine RL.ev (v:=.bool true) rfl rfl (ao rfl) (RL.nil (ag (RW.bK rfl (RW.seq (RW.region (RL.ev (v:=.int .i64 (2)) rfl rfl aa (RL.nil (ag (RW.ret ?_)))))))))
 refine aJ ?_
 iterate 2 refine aD ?_
 refine aJ (aD (aL (RV.tmp rfl) ?_))
 exact⟨congrArg (Vn .i64) (show cL n l rk ws gl fl ol il dL dP=2 by
  unfold cL
  rw[if_neg (by omega),if_neg (by omega),if_neg (by omega),if_neg (fun h=>by
  first
  |omega
  | (have h2 := h.2 x (UZ hx) (by omega)
     first
     |(have:=(U5.1 h2).1;omega)
     |(rw[hy]at h2;cases h2;omega)
     |(rw[hy]at h2;cases h2;simp_all)))]).symm,hN.aE⟩
 rw[decide_eq_false jt]
 refine RL.aI rfl rfl (by decide) rfl rfl (ah Ve rfl bu (by decide) rfl) (RL.aI rfl rfl (by decide) rfl rfl (aj UU rfl rfl (hN.aA 0 rfl) rfl) (RL.aI rfl rfl (by decide) rfl rfl (ah U0 rfl bu (by decide) rfl) (RL.aI rfl rfl (by decide) rfl rfl (aj UU rfl rfl (hN.aA 1 rfl) rfl) (RL.aI rfl rfl (by decide) rfl rfl (bp rfl rfl) (RL.ev (v:=.bool (decide (¬y.2.1=x.2.1))) rfl rfl (aH rfl) (RL.ev (v:=.bool (decide (¬y.2.1=x.2.1))) rfl rfl U ?_))))))
 by_cases gT:¬y.2.1=x.2.1
 rw[decide_eq_true gT]
 iterate 6 refine RL.off rfl rfl (by decide) rfl rfl ?_
 refine RL.ev (v:=.bool true) rfl rfl (ao rfl) (RL.nil (ag (RW.bK rfl (RW.seq (RW.region (RL.ev (v:=.int .i64 (2)) rfl rfl aa (RL.nil (ag (RW.ret ?_)))))))))
 refine aJ ?_
 iterate 2 refine aD ?_
 refine aJ (aD (aL (RV.tmp rfl) ?_))
 exact⟨congrArg (Vn .i64) (show cL n l rk ws gl fl ol il dL dP=2 by
  unfold cL
  rw[if_neg (by omega),if_neg (by omega),if_neg (by omega),if_neg (fun h=>by
  first
  |omega
  | (have h2 := h.2 x (UZ hx) (by omega)
     first
     |(have:=(U5.1 h2).1;omega)
     |(rw[hy]at h2;cases h2;omega)
     |(rw[hy]at h2;cases h2;simp_all)))]).symm,hN.aE⟩
 rw[decide_eq_false gT]
 refine RL.aI rfl rfl (by decide) rfl rfl (ah Ve rfl bu (by decide) rfl) (RL.aI rfl rfl (by decide) rfl rfl (aj UU rfl rfl (hN.aA 0 rfl) rfl) (RL.aI rfl rfl (by decide) rfl rfl (ah U0 rfl dk (by decide) rfl) (RL.aI rfl rfl (by decide) rfl rfl (ah Vj rfl bu (by decide) rfl) (RL.aI rfl rfl (by decide) rfl rfl (aj UU rfl rfl (hN.aA 1 rfl) rfl) (RL.aI rfl rfl (by decide) rfl rfl (bp rfl rfl) (RL.ev (v:=.bool (decide (¬y.2.2=x.2.2.1))) rfl rfl (aH rfl) (RL.nil (ag ?_))))))))
 refine RW.aN _ rfl (fun eQ=>?_) (fun eQ=>?_)
 refine RW.seq (RW.region (RL.ev (v:=.int .i64 (2)) rfl rfl aa (RL.nil (ag (RW.ret (aJ ?_))))))
 iterate 2 refine aD ?_
 refine aJ (aD (aL (RV.tmp rfl) ?_))
 exact⟨congrArg (Vn .i64) (show cL n l rk ws gl fl ol il dL dP=2 by
  unfold cL
  rw[if_neg (by omega),if_neg (by omega),if_neg (by omega),if_neg (fun h=>by
  first
  |omega
  | (have h2 := h.2 x (UZ hx) (by omega)
     first
     |(have:=(U5.1 h2).1;omega)
     |(rw[hy]at h2;cases h2;omega)
     |(rw[hy]at h2;cases h2;simp_all)))]).symm,hN.aE⟩
 refine RW.skip (a7 (ag (RW.region (RL.ev (v:=.int .i64 ((i:Int))) rfl rfl U (RL.ev rfl rfl (an rfl rfl rfl (bc (by omega) (by omega))) (RL.ev (v:=.int .i64 ((i:Int)+1)) rfl rfl aa (RL.nil (ag ?_))))))))
 exact⟨k-1,by omega,i+1,rfl,rfl,(hN.sub [2] (by decide) rfl),by omega,fun m z hm hz=>(VH m i).elim (fun e=>wI m z e hz) (fun e=>have e2:m=i:=(by omega);have e3:z=x:=Vq (hz.symm.trans (e2▸hx));e3▸fun h0=>by first|exact absurd h0 j6|exact hy.trans (congrArg some (V7 (by show y.1=x.1;omega) (V7 (by show y.2.1=x.2.1;omega) (by show y.2.2=x.2.2.1;omega)))))⟩
 refine RW.exit ?_
 iterate 2 refine bm ?_
 refine aO (ag (RW.seq (RW.region (RL.ev (v:=.int .i64 (0)) rfl rfl aa (RL.nil (ag (RW.ret (aL (RV.tmp rfl) ?_))))))))
 exact⟨congrArg (Vn .i64) (show cL n l rk ws gl fl ol il dL dP=0 by
  unfold cL
  rw[if_neg (by omega),if_neg (by omega),if_neg (by omega),if_pos ⟨by omega,fun x hx=>by
  have aw:=VK hx
  obtain⟨m,hm⟩:=aw
  exact wI m x (by have:=(U5.1 hm).1;omega) hm⟩]).symm,hN.aE⟩
 refine RW.skip (ag ?_)
 iterate 2 refine RW.seq ?_
 refine RW.region (RL.ev (v:=.int .i64 ((dw (n) l))) rfl rfl U (RL.ev rfl rfl (bp rfl rfl) (RL.nil (ag ?_))))
 refine RW.aN _ rfl (fun he=>?_) (fun he=>?_)
 refine RW.seq (RW.region (RL.ev (v:=.int .i64 ((dw (n) l))) rfl rfl U (RL.ev (v:=.int .i64 ((dw (n) l))) rfl rfl aa (RL.nil (ag (RW.ret (aD (aL (RV.tmp rfl) ?_))))))))
 exact⟨congrArg (Vn .i64) (show cL n l rk ws gl fl ol il dL dP=(dw (n) l) by
  unfold cL
  rw[if_pos (by omega)]).symm,hN.aE⟩
 refine RW.skip (ag ?_)
 iterate 2 refine RW.seq ?_
 have hm:dw n l=0:=by omega
 have hh:dm rk ws=0:=by omega
 refine RW.region (RL.ev rfl rfl (ah U8 rfl dr (by decide) rfl) (RL.ev rfl rfl (ah Vb rfl b7 (by decide) rfl) (RL.ev rfl rfl (aj UW rfl rfl (hN.aA 0 rfl) rfl) ?_)))
 have Sa:=(hr.o.now hN).aY
 refine RL.ev rfl rfl (aQ UW (hr.o.now hN) rfl) (RL.ev rfl rfl (ah U8 rfl db (by decide) rfl) (RL.ev rfl rfl (ah U4 rfl bu (by decide) rfl) (RL.ev rfl rfl (aj UU rfl rfl (hN.aA 0 rfl) rfl) (RL.ev rfl rfl (bp rfl rfl) (RL.nil (ag ?_))))))
 refine RW.aN _ rfl (fun hlen=>?_) (fun hlen=>?_)
 refine RW.seq (RW.region (RL.ev (v:=.int .i64 (2)) rfl rfl aa (RL.nil (ag (RW.ret (aD (aL (RV.tmp rfl) ?_)))))))
 exact⟨congrArg (Vn .i64) (show cL n l rk ws gl fl ol il dL dP=2 by
  unfold cL
  rw[if_neg (by omega),if_neg (by omega),if_neg (by omega),if_neg (fun h=>by
  first
  |omega
  | (have h2 := h.2 x (UZ hx) (by omega)
     first
     |(have:=(U5.1 h2).1;omega)
     |(rw[hy]at h2;cases h2;omega)
     |(rw[hy]at h2;cases h2;simp_all)))]).symm,hN.aE⟩
 refine RW.skip (ag ?_)
 iterate 2 refine RW.seq ?_
 refine RW.region (RL.ev (v:=.int .i64 (0)) rfl rfl aa (RL.nil (ag (RW.block ?_))))
 refine RW.loop (fun k R0 bT=>∃i:Nat,R0 1=.pointer (some ⟨g1,0,none⟩)∧R0 4=.int .i64 ((i:Int))∧ak w none_ bT [.aA g1 [.int .i64 (n),av,rv,wv,gv,fv,ov,iv,cD,cE] 34]∧(i+k=ws.length)∧(∀(m:Nat) (y:I5),m<i→ws[m]?=some y→y.2.2.2.1= -1→l[y.2.2.2.2.toNat]?=some (y.1,y.2.1,y.2.2.1))) (ws.length) ?_ ?_
 exact⟨0,rfl,rfl,hN,by omega,fun m r hm=>absurd hm (by omega)⟩
 clear hN
 rintro k R0 bT ⟨i,bw,cg,hN,eR,wI⟩
 have bY:∃b6,R0=(aZ (aZ b6 1 _) 4 _):=⟨R0,by rw[ai bw,ai cg]⟩
 obtain⟨b6,rfl⟩:=bY
 clear bw cg
 iterate 2 refine RW.seq ?_
 refine RW.region (RL.ev (v:=.int .i64 ((i:Int))) rfl rfl U (RL.ev rfl rfl (ah U8 rfl dr (by decide) rfl) (RL.ev rfl rfl (ah Vb rfl fJ (by decide) rfl) (RL.ev rfl rfl (aj Vg rfl rfl (hN.aA 0 rfl) rfl) ?_))))
 have R9:=(hw.o.now hN).aY
 refine RL.ev rfl rfl (bQ Vg (hw.o.now hN) rfl) (RL.ev rfl rfl (aV rfl rfl) (RL.nil (ag ?_)))
 refine RW.aN _ rfl (fun bW=>?_) (fun bW=>?_)
 refine RW.skip (ag (RW.seq (RW.block (RW.seq ?_))))
 have aw:∃a_,ws[i]?=some a_:=⟨_,UT (by omega)⟩
 obtain⟨x,hx⟩:=aw
 have GD:=(ou hh).2 i x hx
 refine RW.region (RL.ev rfl rfl (ah U8 rfl dr (by decide) rfl) (RL.ev rfl rfl (ah Vb rfl fJ (by decide) rfl) (RL.ev rfl rfl (aj Vg rfl rfl (hN.aA 0 rfl) rfl) (RL.ev (v:=.int .i64 ((i:Int))) rfl rfl U (RL.ev rfl rfl (bn Vg dj bb (by decide) (hw.o.now hN) rfl rfl (by omega) (by omega)) (RL.ev rfl rfl (bU (m:=i) (a:=x) U0 rfl dj bb (by decide) (hw.o.now hN) rfl hx (cs:=[.int .i64 (x.1),.int .i64 (x.2.1),.int .i64 (x.2.2.1),.int .i64 (x.2.2.2.1),.int .i64 (x.2.2.2.2)]) rfl) ?_))))))
 refine RL.op rfl rfl (aX (cs:=[.int .i64 (0),.int .i64 (0),.int .i64 (0),.int .i64 (0),.int .i64 (0)]) ft rfl hN ?_)
 clear hN
 intro UL QS (hN:ak w none_ QS [_,_])
 refine RL.op rfl rfl (aC (vs:=[.int .i64 (x.1),.int .i64 (x.2.1),.int .i64 (x.2.2.1),.int .i64 (x.2.2.2.1),.int .i64 (x.2.2.2.2)]) dj rfl rfl rfl (by intro u hu;simp only[U9,U2,or_false]at hu;rcases hu with rfl|rfl|rfl|rfl|rfl<;>first|rfl) hN 0 rfl rfl ?_)
 clear hN
 intro SJ (hN:ak w none_ SJ [_,_])
 refine RL.nil (ag ?_)
 iterate 2 refine RW.seq ?_
 refine RW.region (RL.ev rfl rfl (ah U0 rfl dk (by decide) rfl) (RL.ev rfl rfl (ah Vj rfl bu (by decide) rfl) (RL.ev rfl rfl (aj UU rfl rfl (hN.aA 0 rfl) rfl) (RL.ev rfl rfl (bp rfl rfl) (RL.nil (ag ?_))))))
 refine RW.aN _ rfl (fun j6=>?_) (fun j6=>?_)
 refine RW.exit (bm (aO (ag (RW.region (RL.ev (v:=.int .i64 ((i:Int))) rfl rfl U (RL.ev rfl rfl (an rfl rfl rfl (bc (by omega) (by omega))) (RL.ev (v:=.int .i64 ((i:Int)+1)) rfl rfl aa (RL.nil (ag ?_)))))))))
 exact⟨k-1,by omega,i+1,rfl,rfl,(hN.sub [1] (by decide) rfl),by omega,fun m z hm hz=>(VH m i).elim (fun e=>wI m z e hz) (fun e=>have e2:m=i:=(by omega);have e3:z=x:=Vq (hz.symm.trans (e2▸hx));e3▸fun h0=>by first|exact absurd h0 j6|exact hy.trans (congrArg some (V7 (by show y.1=x.1;omega) (V7 (by show y.2.1=x.2.1;omega) (by show y.2.2=x.2.2.1;omega)))))⟩
 refine RW.skip (ag ?_)
 iterate 2 refine RW.seq ?_
 refine RW.region (RL.ev rfl rfl (ah U0 rfl dk (by decide) rfl) (RL.ev rfl rfl (ah Vj rfl bu (by decide) rfl) (RL.ev rfl rfl (aj UU rfl rfl (hN.aA 0 rfl) rfl) (RL.ev rfl rfl (ah U8 rfl db (by decide) rfl) (RL.ev rfl rfl (ah U4 rfl dY (by decide) rfl) (RL.ev rfl rfl (aj Va rfl rfl (hN.aA 1 rfl) rfl) ?_))))))
 have R8:=(ha.o.now hN).aY
 refine RL.ev rfl rfl (bQ Va (ha.o.now hN) rfl) (RL.ev rfl rfl (da rfl rfl) (RL.nil (ag ?_)))
 refine RW.aN _ rfl (fun fG=>?_) (fun fG=>?_)
 refine RW.seq (RW.region (RL.ev (v:=.int .i64 (2)) rfl rfl aa (RL.nil (ag (RW.ret (aD (aJ ?_)))))))
 iterate 2 refine aD ?_
 refine aJ (aD (aL (RV.tmp rfl) ?_))
 exact⟨congrArg (Vn .i64) (show cL n l rk ws gl fl ol il dL dP=2 by
  unfold cL
  rw[if_neg (by omega),if_neg (by omega),if_neg (by omega),if_neg (fun h=>by
  first
  |omega
  | (have h2 := h.2 x (UZ hx) (by omega)
     first
     |(have:=(U5.1 h2).1;omega)
     |(rw[hy]at h2;cases h2;omega)
     |(rw[hy]at h2;cases h2;simp_all)))]).symm,hN.aE⟩
 refine RW.skip (ag (RW.seq ?_))
 have FJ:=GD.2
 rw[if_pos (by omega)]at FJ
 have aw:∃a_,l[x.2.2.2.2.toNat]?=some a_:=⟨_,UT (by omega)⟩
 obtain⟨y,hy⟩:=aw
 refine RW.region (RL.ev rfl rfl (ah U8 rfl db (by decide) rfl) (RL.ev rfl rfl (ah U4 rfl dY (by decide) rfl) (RL.ev rfl rfl (aj Va rfl rfl (hN.aA 1 rfl) rfl) (RL.ev rfl rfl (ah U0 rfl dk (by decide) rfl) (RL.ev rfl rfl (ah Vj rfl bu (by decide) rfl) (RL.ev rfl rfl (aj UU rfl rfl (hN.aA 0 rfl) rfl) (RL.ev rfl rfl (bn Va cq aU (by decide) (ha.o.now hN) rfl rfl (by omega) (by omega)) (RL.ev rfl rfl (bU (m:=(x.2.2.2.2).toNat) (a:=y) Ve rfl cq aU (by decide) (ha.o.now hN) rfl hy (cs:=[.int .i64 (y.1),.int .i64 (y.2.1),.int .i64 (y.2.2)]) rfl) ?_))))))))
 refine RL.op rfl rfl (aX (cs:=[.int .i64 (0),.int .i64 (0),.int .i64 (0)]) eo rfl hN ?_)
 clear hN
 intro UK SI (hN:ak w none_ SI [_,_,_])
 refine RL.op rfl rfl (aC (vs:=[.int .i64 (y.1),.int .i64 (y.2.1),.int .i64 (y.2.2)]) cq rfl rfl rfl (by intro u hu;simp only[U9,U2,or_false]at hu;rcases hu with rfl|rfl|rfl<;>first|rfl) hN 0 rfl rfl ?_)
 clear hN
 intro Om (hN:ak w none_ Om [_,_,_])
 refine RL.nil (ag (RW.seq (RW.region (RL.ev rfl rfl (ah Ve rfl bu (by decide) rfl) (RL.ev rfl rfl (aj UU rfl rfl (hN.aA 0 rfl) rfl) (RL.ev rfl rfl (ah U0 rfl bu (by decide) rfl) (RL.ev rfl rfl (aj UU rfl rfl (hN.aA 1 rfl) rfl) (RL.ev rfl rfl (bp rfl rfl) (RL.ev (v:=.bool (decide (¬y.1=x.1))) rfl rfl U ?_)))))))))
 by_cases jt:¬y.1=x.1
 rw[decide_eq_true jt]
 iterate 5 refine RL.off rfl rfl (by decide) rfl rfl ?_
 refine RL.ev (v:=.bool true) rfl rfl (ao rfl) (RL.ev (v:=.bool true) rfl rfl U ?_)
 iterate 6 refine RL.off rfl rfl (by decide) rfl rfl ?_
 refine RL.ev (v:=.bool true) rfl rfl (ao rfl) (RL.nil (ag (RW.bK rfl (RW.seq (RW.region (RL.ev (v:=.int .i64 (2)) rfl rfl aa (RL.nil (ag (RW.ret ?_)))))))))
 refine aJ ?_
 iterate 2 refine aD ?_
 refine aJ (aD (aL (RV.tmp rfl) ?_))
 exact⟨congrArg (Vn .i64) (show cL n l rk ws gl fl ol il dL dP=2 by
  unfold cL
  rw[if_neg (by omega),if_neg (by omega),if_neg (by omega),if_neg (fun h=>by
  first
  |omega
  | (have h2 := h.2 x (UZ hx) (by omega)
     first
     |(have:=(U5.1 h2).1;omega)
     |(rw[hy]at h2;cases h2;omega)
     |(rw[hy]at h2;cases h2;simp_all)))]).symm,hN.aE⟩
 rw[decide_eq_false jt]
 refine RL.aI rfl rfl (by decide) rfl rfl (ah Ve rfl bu (by decide) rfl) (RL.aI rfl rfl (by decide) rfl rfl (aj UU rfl rfl (hN.aA 0 rfl) rfl) (RL.aI rfl rfl (by decide) rfl rfl (ah U0 rfl bu (by decide) rfl) (RL.aI rfl rfl (by decide) rfl rfl (aj UU rfl rfl (hN.aA 1 rfl) rfl) (RL.aI rfl rfl (by decide) rfl rfl (bp rfl rfl) (RL.ev (v:=.bool (decide (¬y.2.1=x.2.1))) rfl rfl (aH rfl) (RL.ev (v:=.bool (decide (¬y.2.1=x.2.1))) rfl rfl U ?_))))))
 by_cases gT:¬y.2.1=x.2.1
 rw[decide_eq_true gT]
 iterate 6 refine RL.off rfl rfl (by decide) rfl rfl ?_
 refine RL.ev (v:=.bool true) rfl rfl (ao rfl) (RL.nil (ag (RW.bK rfl (RW.seq (RW.region (RL.ev (v:=.int .i64 (2)) rfl rfl aa (RL.nil (ag (RW.ret ?_)))))))))
 refine aJ ?_
 iterate 2 refine aD ?_
 refine aJ (aD (aL (RV.tmp rfl) ?_))
 exact⟨congrArg (Vn .i64) (show cL n l rk ws gl fl ol il dL dP=2 by
  unfold cL
  rw[if_neg (by omega),if_neg (by omega),if_neg (by omega),if_neg (fun h=>by
  first
  |omega
  | (have h2 := h.2 x (UZ hx) (by omega)
     first
     |(have:=(U5.1 h2).1;omega)
     |(rw[hy]at h2;cases h2;omega)
     |(rw[hy]at h2;cases h2;simp_all)))]).symm,hN.aE⟩
 rw[decide_eq_false gT]
 refine RL.aI rfl rfl (by decide) rfl rfl (ah Ve rfl bu (by decide) rfl) (RL.aI rfl rfl (by decide) rfl rfl (aj UU rfl rfl (hN.aA 0 rfl) rfl) (RL.aI rfl rfl (by decide) rfl rfl (ah U0 rfl dk (by decide) rfl) (RL.aI rfl rfl (by decide) rfl rfl (ah Vj rfl bu (by decide) rfl) (RL.aI rfl rfl (by decide) rfl rfl (aj UU rfl rfl (hN.aA 1 rfl) rfl) (RL.aI rfl rfl (by decide) rfl rfl (bp rfl rfl) (RL.ev (v:=.bool (decide (¬y.2.2=x.2.2.1))) rfl rfl (aH rfl) (RL.nil (ag ?_))))))))
 refine RW.aN _ rfl (fun eQ=>?_) (fun eQ=>?_)
 refine RW.seq (RW.region (RL.ev (v:=.int .i64 (2)) rfl rfl aa (RL.nil (ag (RW.ret (aJ ?_))))))
 iterate 2 refine aD ?_
 refine aJ (aD (aL (RV.tmp rfl) ?_))
 exact⟨congrArg (Vn .i64) (show cL n l rk ws gl fl ol il dL dP=2 by
  unfold cL
  rw[if_neg (by omega),if_neg (by omega),if_neg (by omega),if_neg (fun h=>by
  first
  |omega
  | (have h2 := h.2 x (UZ hx) (by omega)
     first
     |(have:=(U5.1 h2).1;omega)
     |(rw[hy]at h2;cases h2;omega)
     |(rw[hy]at h2;cases h2;simp_all)))]).symm,hN.aE⟩
 refine RW.skip (a7 (ag (RW.region (RL.ev (v:=.int .i64 ((i:Int))) rfl rfl U (RL.ev rfl rfl (an rfl rfl rfl (bc (by omega) (by omega))) (RL.ev (v:=.int .i64 ((i:Int)+1)) rfl rfl aa (RL.nil (ag ?_))))))))
 exact⟨k-1,by omega,i+1,rfl,rfl,(hN.sub [2] (by decide) rfl),by omega,fun m z hm hz=>(VH m i).elim (fun e=>wI m z e hz) (fun e=>have e2:m=i:=(by omega);have e3:z=x:=Vq (hz.symm.trans (e2▸hx));e3▸fun h0=>by first|exact absurd h0 j6|exact hy.trans (congrArg some (V7 (by show y.1=x.1;omega) (V7 (by show y.2.1=x.2.1;omega) (by show y.2.2=x.2.2.1;omega)))))⟩
 refine RW.exit ?_
 iterate 2 refine bm ?_
 refine aO (ag (RW.seq (RW.region (RL.ev (v:=.int .i64 (0)) rfl rfl aa (RL.nil (ag (RW.ret (aL (RV.tmp rfl) ?_))))))))
 exact⟨congrArg (Vn .i64) (show cL n l rk ws gl fl ol il dL dP=0 by
  unfold cL
  rw[if_neg (by omega),if_neg (by omega),if_neg (by omega),if_pos ⟨by omega,fun x hx=>by
  have aw:=VK hx
  obtain⟨m,hm⟩:=aw
  exact wI m x (by have:=(U5.1 hm).1;omega) hm⟩]).symm,hN.aE⟩
end Go.Proofs.YtngkdkbpgoddlaaGreat
namespace Go.Gr
open Go.Rl
def gW : List I5 → Nat → List (GU I2)
  |[],_=>[]
  |x::r,k=>((x.1,x.2.1),.int .i64 (k:Int),k)::gW r (k+1)
theorem CJ (x:I5):∀(l:List I5) (k:Nat),gW (l++[x]) k=gW l k++[((x.1,x.2.1),.int .i64 ((k+l.length:Nat):Int),k+l.length)]:=by
  intro l
  induction l with
  |nil=>intro k;rfl
  |cons a r ih=>intro k;simp only[Yc,gW,ih,U6];rw[show k+1+r.length=k+(r.length+1) by omega]
theorem FY {ws:List I5} {i:Nat} {x:I5} (h:ws[i]?=some x):gW (ws.take (i+1)) 0=gW (ws.take i) 0++[((x.1,x.2.1),.int .i64 (i:Int),i)]:=by
  have hi:=(U5.1 h).1
  rw[dH h,CJ,Vs,Yl (by omega),W3]
theorem jn {u v:Int}:∀{l:List I5} {k:Nat},(∀y∈l,¬fH u v y)→jO (u,v) (gW l k) k=none:=by
  intro l
  induction l with
  |nil=>intro k _;rfl
  |cons a r ih=>
    intro k h
    simp only[gW,jO]
    rw[if_neg (fun e=>h a (V2 ..) (by simp only[ZY]at e;exact⟨e.1.symm,e.2.symm⟩))]
    exact ih fun y hy=>h y (VX _ hy)
theorem kN {u v:Int}:∀{l:List I5} {k i:Nat} {x:I5},l[i]?=some x→fH u v x→(∀y∈l.take i,¬fH u v y)→jO (u,v) (gW l k) k=some (k+i,.int .i64 ((k+i:Nat):Int)):=by
  intro l
  induction l with
  |nil=>intro k i x h;cases h
  |cons a r ih=>
    intro k i x h hp hb
    simp only[gW,jO]
    cases i with
    |zero=>
      cases h
      rw[if_pos (by rw[←hp.1,←hp.2])];rfl
    |succ i=>
      rw[if_neg (fun e=>hb a (V2 ..) (by simp only[ZY]at e;exact⟨e.1.symm,e.2.symm⟩))]
      rw[ih h hp fun y hy=>hb y (VX _ hy),show k+1+i=k+(i+1) by omega]
def jd (rk:List Int) (ws:List I5):Prop:=∀(i:Nat) (x:I5),ws[i]?=some x→xd rk ws i x
theorem kx {rk:List Int} {ws:List I5} {i j:Nat} {x y:I5} (hx:ws[i]?=some x) (hy:(ws.take i)[j]?=some y) (hp:fH x.1 x.2.1 y):¬jd rk ws:=fun h=>by
  have h1:=(h i x hx).2.2.2.2.2
  have wz:=(U5.1 hy).1
  rw[Vs]at wz
  rcases ei (fH x.1 x.2.1) ws with⟨e,_⟩|⟨q,z,e,_,_,hb⟩
  · omega
  · have : q = i := by omega
    subst this
    exact hb y (UZ hy) hp
def k4 (rk:List Int):Prop:=∀k:Nat,k<rk.length→(k:Int)∈rk
theorem ze:∀(n:Nat) (l:List Int),(∀k:Nat,k<n→(k:Int)∈l)→n≤l.length:=by
  intro n
  induction n with
  |zero=>intro l _;omega
  |succ n ih=>
    intro l h
    have hm:=h n (by omega)
    have h1:=ih (l.erase (n:Int)) fun k hk=>(Yt (by omega)).2 (h k (by omega))
    rw[Xd hm]at h1
    have:=List.length_pos_of_mem hm
    omega
theorem ln {l:List Int} {j:Nat} {x y:Int} (hx:x∈l) (hj:l[j]?=some y) (di:x≠y):x∈l.eraseIdx j:=by
  obtain⟨q,hq⟩:=VK hx
  have Ux:q≠j:=fun e=>by subst e;rw[hq]at hj;cases hj;exact di rfl
  refine UZ (i:=if q<j then q else q-1) ?_
  rw[Zy]
  by_cases h:q<j
  · rw[if_pos h,if_pos h];exact hq
  · rw[if_neg h,if_neg (by omega),show q-1+1=q by omega];exact hq
theorem rO {rk:List Int} {i:Nat} {x:Int} (hx:rk[i]?=some x) (h:x<0∨(rk.length:Int)≤x):¬k4 rk:=fun hr=>by
  have hi:=(U5.1 hx).1
  have h1:=ze rk.length (rk.eraseIdx i) fun k hk=>ln (hr k hk) hx (by omega)
  rw[ZR,if_pos hi]at h1
  omega
theorem DX {rk:List Int} {i j:Nat} {x:Int} (hx:rk[i]?=some x) (hy:rk[j]?=some x) (di:j<i):¬k4 rk:=fun hr=>by
  have hi:=(U5.1 hx).1
  have h1:=ze rk.length (rk.eraseIdx i) fun k hk=>by
    by_cases e:(k:Int)=x
    · rw [e]
      refine UZ (i:=j) ?_
      rw[Zy,if_pos di];exact hy
    · exact ln (hr k hk) hx e
  rw[ZR,if_pos hi]at h1
  omega
structure gZ (rk pl:List Int) (i:Nat):Prop where
  len:pl.length=rk.length
  is:∀(k:Nat) v,pl[k]?=some v→v= -1∨(0≤v∧v<i∧rk[v.toNat]?=some (k:Int))
  K8:pl.count (-1)+i=rk.length
theorem gZ.start (rk:List Int):gZ rk (Vm rk.length (-1)) 0:=
  ⟨Vw,fun k v h=>.inl (by rw[XX]at h;split at h<;>simp_all),by rw[List.count_replicate_self];rfl⟩
theorem gZ.step {rk pl:List Int} {i:Nat} {k:Int} (h:gZ rk pl i) (hk:rk[i]?=some k) (h0:0≤k) (h1:k<rk.length) (hf:pl[k.toNat]?=some (-1)):gZ rk (pl.set k.toNat (i:Int)) (i+1):=by
  have hl:=h.len
  refine⟨by rw[Wb];exact hl,fun q v hq=>?_,?_⟩
  · rw [Wu] at hq
    split at hq
    · rename_i e; subst e
      rw[if_pos (by omega)]at hq
      cases hq
      exact .inr ⟨by omega,by omega,by rw[WN,Z4 h0];exact hk⟩
    · rcases h.is q v hq with e | ⟨e1, e2, e3⟩
      · exact .inl e
      · exact .inr ⟨e1,by omega,e3⟩
  · have bW : k.toNat < pl.length := by omega
    have he:pl[k.toNat]= -1:=(U5.1 hf).2
    have hc:=h.K8
    have hp:0<pl.count (-1):=List.count_pos_iff.2 (UZ hf)
    rw[List.count_set bW,he]
    have:((i:Int) == -1)=false:=by simp
    simp only[beq_self_eq_true,if_true,this]
    simp only[VS,if_false]
    omega
theorem gZ.all {rk pl:List Int} (h:gZ rk pl rk.length):k4 rk:=fun k hk=>by
  have hc:=h.K8
  have h0:pl.count (-1)=0:=by omega
  rw[List.count_eq_zero]at h0
  have hl:=h.len
  obtain⟨v,hv⟩:∃v,pl[k]?=some v:=⟨_,UT (by omega)⟩
  rcases h.is k v hv with e|⟨_,_,e3⟩
  · subst e;exact absurd (UZ hv) h0
  · exact UZ e3
theorem gZ.dup {rk pl:List Int} {i:Nat} {k v:Int} (h:gZ rk pl i) (hk:rk[i]?=some k) (h0:0≤k) (hv:pl[k.toNat]?=some v) (di:¬v= -1):¬k4 rk:=by
  rcases h.is _ v hv with e|⟨e1,e2,e3⟩
  · exact absurd e di
  · rw [Z4 h0] at e3
    exact DX hk e3 (by omega)
theorem jr {rk:List Int} {ws:List I5}:k8 rk ws↔k4 rk∧jd rk ws∧∀(i:Nat) (x:I5),ws[i]?=some x→if x.2.2.2.1= -1 then 0≤x.2.2.2.2∧x.2.2.2.2<67108864 else zk rk ws x:=
  ⟨fun h=>⟨h.1,fun i x hx=>(h.2 i x hx).1,fun i x hx=>(h.2 i x hx).2⟩,fun h=>⟨h.1,fun i x hx=>⟨h.2.1 i x hx,h.2.2 i x hx⟩⟩⟩
def fm (a b:Int):Value:=.tuple #[.int .i64 (max 0 a),.int .i64 (max 0 b),.bool (decide (0≤a∧0≤b))]
theorem sH (a b:Nat):fm a b=.tuple #[.int .i64 (a:Int),.int .i64 (b:Int),.bool true]:=by unfold fm;rw[Yf (by omega),Yf (by omega),decide_eq_true (by omega)]
theorem sI (a:Nat):fm a (-1)=.tuple #[.int .i64 (a:Int),.int .i64 0,.bool false]:=by unfold fm;rw[Yf (by omega),Zl (by omega),decide_eq_false (by omega)]
theorem sJ (b:Nat):fm (-1) b=.tuple #[.int .i64 0,.int .i64 (b:Int),.bool false]:=by unfold fm;rw[Zl (by omega),Yf (by omega),decide_eq_false (by omega)]
theorem sK:fm (-1) (-1)=.tuple #[.int .i64 0,.int .i64 0,.bool false]:=by unfold fm;rw[Zl (by omega),decide_eq_false (by omega)]
def eX (rk:List Int) (ws:List I5) (x:I5):Prop:=if x.2.2.2.1= -1 then 0≤x.2.2.2.2∧x.2.2.2.2<67108864 else zk rk ws x
noncomputable instance (rk:List Int) (ws:List I5) (x:I5):Decidable (eX rk ws x):=VG _
theorem j3 {κ:Type} [DecidableEq κ] {ke:κ→Value} {l:List (GU κ)} {m c:Nat} {w w':World} (h:w.heap[m]?=some (.map (jw ke l) c)) (he:Ext w w'):w'.heap[m]?=some (.map (jw ke l) c):=by
  rw[he.block m (VD.1 h).1 (fun e=>e)];exact h
theorem u0 {rk:List Int} {ws:List I5} (h:16777216<rk.length∨67108864<ws.length):dm rk ws=3:=by unfold dm;rw[if_pos h]
theorem ot {rk:List Int} {ws:List I5} (h:¬(16777216<rk.length∨67108864<ws.length)) (h2:¬k8 rk ws):dm rk ws=2:=by unfold dm;rw[if_neg h,if_neg h2]
theorem CA {rk:List Int} {ws:List I5} (h:¬(16777216<rk.length∨67108864<ws.length)) (h2:k8 rk ws):dm rk ws=0:=by unfold dm;rw[if_neg h,if_pos h2]
end Go.Gr
namespace Go.Proofs.YtngkdkbpgoddlaaGreat
open Go.RowKit Go.Rl
open Go.Gr
theorem n9 (rv:Value) (rk:List Int) (w:World) (hr:Sl vI w rv rk) (qS:rk.length≤16777216):al UY 196 #[rv] w fun r w'=>(∃pv pl,r=.tuple #[pv,.bool true]∧gZ rk pl rk.length∧ak w none_ w' [.own vI 3 pv pl])∨(¬k4 rk∧r=.tuple #[.slice none 0 0,.bool false]∧Ext w w'):=by
 refine al.start aaw rfl (US rfl) ?_
 rw[bL]
 have hN:=ak.nil w none_
 refine RW.seq (RW.region (RL.ev (v:=.slice none 0 0) rfl rfl aa (RL.ev (v:=.bool false) rfl rfl aa (RL.nil (ag (RW.seq (RW.region (RL.ev (v:=rv) rfl rfl U ?_))))))))
 have iF:=(hr.o.now hN).aY
 refine RL.ev rfl rfl (aQ UW (hr.o.now hN) rfl) ?_
 refine RL.op rfl rfl (iy (enc:=vI) (z:=0) UW fT rfl hN rfl (by omega) (by omega) (by omega) ?_)
 clear hN
 intro v2 w2 (hN:ak w none_ w2 [_])
 refine RL.ev (v:=v2) rfl rfl aa ?_
 replace hN:=hN.lP 0 rfl (show _=Vm rk.length (0:Int)from by rw[WN])
 replace hN:ak w none_ w2 [_]:=hN
 refine RL.nil (ag ?_)
 iterate 2 refine RW.seq ?_
 refine RW.region (RL.ev (v:=v2) rfl rfl U ?_)
 have mQ:=(hN.sl 0 rfl).aY
 refine RL.ev rfl rfl (aQ UW (hN.sl 0 rfl) rfl) ?_
 have O8:=Vw (n:=rk.length) (a:=(0:Int))
 refine RL.ev (v:=.int .i64 (0)) rfl rfl U (RL.nil (ag (RW.block ?_)))
 refine RW.loop (fun k R0 bT=>∃cs:List Int,∃j:Nat,R0 0=rv∧R0 4=v2∧R0 12=.int .i64 (((Vm rk.length (0:Int)).length:Int))∧R0 13=.int .i64 ((j:Int))∧ak w none_ bT [.own vI 3 (v2) (cs)]∧(j+k=rk.length)∧(cs.length=rk.length)∧(∀q,q<j→cs[q]?=some (-1))) (rk.length) ?_ ?_
 exact⟨Vm rk.length (0:Int),0,rfl,rfl,rfl,rfl,hN,by omega,Vw,fun q hq=>absurd hq (by omega)⟩
 clear hN
 rintro k R0 bT ⟨cs,j,bN,cg,gI,gH,hN,wy,Di,pW⟩
 have bY:∃b6,R0=(aZ (aZ (aZ (aZ b6 0 _) 4 _) 12 _) 13 _):=⟨R0,by rw[ai bN,ai cg,ai gI,ai gH]⟩
 obtain⟨b6,rfl⟩:=bY
 clear bN cg gI gH
 refine RW.seq (RW.region (RL.ev rfl rfl (aV rfl rfl) (RL.nil (ag (RW.seq ?_)))))
 refine RW.aN _ rfl (fun bW=>?_) (fun bW=>?_)
 refine RW.skip (ag (RW.seq (RW.block (RW.seq (RW.region (RL.ev (v:=.int .i64 ((j:Int))) rfl rfl U (RL.ev (v:=.int .i64 ((j:Int))) rfl rfl aa (RL.nil (ag ?_)))))))))
 refine RW.region (RL.ev (v:=v2) rfl rfl U (RL.ev (v:=.int .i64 ((j:Int))) rfl rfl U (RL.ev rfl rfl (aB UW bu (hN.sl 0 rfl) rfl rfl (by omega) (by omega)) ?_)))
 refine RL.op rfl rfl (ck (m:=j) (a:=(-1)) bu hN 0 rfl rfl (by omega) rfl rfl rfl rfl ?_)
 clear hN
 intro w4 (hN:ak w none_ w4 [_])
 refine RL.nil (a7 (ag (RW.region (RL.ev rfl rfl (an rfl rfl rfl (bc (by omega) (by omega))) (RL.ev (v:=.int .i64 ((j:Int)+1)) rfl rfl U (RL.nil (ag ?_)))))))
 exact⟨k-1,by omega,(cs).set j ((-1)),j+1,rfl,rfl,rfl,rfl,hN,by omega,by rw[Wb];exact Di,Ia (by omega) pW⟩
 refine RW.exit ?_
 iterate 2 refine bm ?_
 refine aO (ag ?_)
 iterate 2 refine RW.seq ?_
 refine RW.region (RL.ev (v:=rv) rfl rfl U (RL.ev rfl rfl (aQ UW (hr.o.now hN) rfl) (RL.ev (v:=.int .i64 (0)) rfl rfl U (RL.nil (ag (RW.block ?_))))))
 refine RW.loop (fun k2 R1 fI=>∃pl:List Int,∃i:Nat,R1 4=v2∧R1 20=rv∧R1 21=.int .i64 ((rk.length:Int))∧R1 22=.int .i64 ((i:Int))∧ak w none_ fI [.own vI 3 (v2) (pl)]∧(i+k2=rk.length)∧(gZ rk pl i)) (rk.length) ?_ ?_
 have TR:cs=Vm rk.length (-1):=Ib Di fun q hq=>pW q (by omega)
 exact⟨cs,0,rfl,rfl,rfl,rfl,hN,by omega,by rw[TR];exact gZ.start rk⟩
 clear hN
 rintro k2 R1 fI ⟨pl,i,cg,yy,yx,jP,hN,eR,hP⟩
 have bY:∃gY,R1=(aZ (aZ (aZ (aZ gY 4 _) 20 _) 21 _) 22 _):=⟨R1,by rw[ai cg,ai yy,ai yx,ai jP]⟩
 obtain⟨gY,rfl⟩:=bY
 clear cg yy yx jP
 refine RW.seq (RW.region (RL.ev rfl rfl (aV rfl rfl) (RL.nil (ag (RW.seq ?_)))))
 refine RW.aN _ rfl (fun eI=>?_) (fun eI=>?_)
 refine RW.skip (ag (RW.seq (RW.block (RW.seq (RW.region (RL.ev (v:=.int .i64 ((i:Int))) rfl rfl U (RL.ev rfl rfl (aB UW bu (hr.o.now hN) rfl rfl (by omega) (by omega)) ?_)))))))
 have aw:∃a_,(rk)[i]?=some a_:=⟨_,UT (by omega)⟩
 obtain⟨ap,bG⟩:=aw
 refine RL.ev rfl rfl (aF (m:=i) (a:=ap) UU rfl (hr.o.now hN) rfl bG) (RL.ev (v:=.int .i64 ((i:Int))) rfl rfl aa (RL.ev (v:=.int .i64 (ap)) rfl rfl aa (RL.nil (ag ?_))))
 iterate 2 refine RW.seq ?_
 have GH:=hP.len
 refine RW.region (RL.ev (v:=.int .i64 (ap)) rfl rfl U (RL.ev rfl rfl (aV rfl rfl) (RL.ev (v:=.bool (decide (ap<0))) rfl rfl U ?_)))
 by_cases Fp:ap<0
 rw[decide_eq_true Fp]
 iterate 4 refine RL.off rfl rfl (by decide) rfl rfl ?_
 refine RL.ev (v:=.bool true) rfl rfl (ao rfl) (RL.ev (v:=.bool true) rfl rfl U ?_)
 iterate 5 refine RL.off rfl rfl (by decide) rfl rfl ?_
 refine RL.ev (v:=.bool true) rfl rfl (ao rfl) (RL.nil (ag (RW.bK rfl (RW.seq (RW.region (RL.ev (v:=.slice none 0 0) rfl rfl aa (RL.ev (v:=.bool false) rfl rfl aa (RL.nil (ag ?_)))))))))
 refine RW.ret (aD (aJ ?_))
 iterate 2 refine aD ?_
 refine aJ (aD (aL (RV.fR rfl) ?_))
 refine .inr ⟨?_,rfl,hN.aE⟩
 first
 |exact rO bG (by omega)
 |(obtain hz:=hP.dup bG (by omega) jS (by assumption);exact hz)
 rw[decide_eq_false Fp]
 refine RL.aI (v:=.int .i64 (ap)) rfl rfl (by decide) rfl rfl U (RL.aI (v:=v2) rfl rfl (by decide) rfl rfl U ?_)
 have pd:=(hN.sl 0 rfl).aY
 refine RL.aI rfl rfl (by decide) rfl rfl (aQ UW (hN.sl 0 rfl) rfl) (RL.aI rfl rfl (by decide) rfl rfl (da rfl rfl) (RL.ev (v:=.bool (decide ((pl.length:Int)≤ap))) rfl rfl (aH rfl) (RL.ev (v:=.bool (decide ((pl.length:Int)≤ap))) rfl rfl U ?_)))
 by_cases Fo:(pl.length:Int)≤ap
 rw[decide_eq_true Fo]
 iterate 5 refine RL.off rfl rfl (by decide) rfl rfl ?_
 refine RL.ev (v:=.bool true) rfl rfl (ao rfl) (RL.nil (ag (RW.bK rfl (RW.seq (RW.region (RL.ev (v:=.slice none 0 0) rfl rfl aa (RL.ev (v:=.bool false) rfl rfl aa (RL.nil (ag ?_)))))))))
 refine RW.ret (aD (aJ ?_))
 iterate 2 refine aD ?_
 refine aJ (aD (aL (RV.fR rfl) ?_))
 refine .inr ⟨?_,rfl,hN.aE⟩
 first
 |exact rO bG (by omega)
 |(obtain hz:=hP.dup bG (by omega) jS (by assumption);exact hz)
 rw[decide_eq_false Fo]
 refine RL.aI (v:=v2) rfl rfl (by decide) rfl rfl U (RL.aI (v:=.int .i64 (ap)) rfl rfl (by decide) rfl rfl U (RL.aI rfl rfl (by decide) rfl rfl (aB UW bu (hN.sl 0 rfl) rfl rfl (by omega) (by omega)) ?_))
 have aw:∃a_,(pl)[(ap).toNat]?=some a_:=⟨_,UT (by omega)⟩
 obtain⟨az,jS⟩:=aw
 refine RL.aI rfl rfl (by decide) rfl rfl (aF (m:=(ap).toNat) (a:=az) UU rfl (hN.sl 0 rfl) rfl jS) (RL.aI rfl rfl (by decide) rfl rfl (bp rfl rfl) (RL.ev (v:=.bool (decide (¬az= -1))) rfl rfl (aH rfl) (RL.nil (ag ?_))))
 refine RW.aN _ rfl (fun HO=>?_) (fun HO=>?_)
 refine RW.seq (RW.region (RL.ev (v:=.slice none 0 0) rfl rfl aa (RL.ev (v:=.bool false) rfl rfl aa (RL.nil (ag (RW.ret (aD (aJ ?_))))))))
 iterate 2 refine aD ?_
 refine aJ (aD (aL (RV.fR rfl) ?_))
 refine .inr ⟨?_,rfl,hN.aE⟩
 first
 |exact rO bG (by omega)
 |(obtain hz:=hP.dup bG (by omega) jS (by assumption);exact hz)
 refine RW.skip (ag (RW.region (RL.ev (v:=v2) rfl rfl U (RL.ev (v:=.int .i64 (ap)) rfl rfl U (RL.ev (v:=.int .i64 ((i:Int))) rfl rfl U (RL.ev rfl rfl (aB UW bu (hN.sl 0 rfl) rfl rfl (by omega) (by omega)) ?_))))))
 refine RL.op rfl rfl (ck (m:=(ap).toNat) (a:=(i:Int)) bu hN 0 rfl rfl (by omega) rfl rfl rfl rfl ?_)
 clear hN
 intro w6 (hN:ak w none_ w6 [_])
 refine RL.nil (a7 (ag (RW.region (RL.ev rfl rfl (an rfl rfl rfl (bc (by omega) (by omega))) (RL.ev (v:=.int .i64 ((i:Int)+1)) rfl rfl U (RL.nil (ag ?_)))))))
 exact⟨k2-1,by omega,(pl).set (ap).toNat ((i:Int)),i+1,rfl,rfl,rfl,rfl,hN,by omega,hP.step bG (by omega) (by omega) (by rw[jS];exact congrArg some (Vi.1 HO))⟩
 refine RW.exit ?_
 iterate 2 refine bm ?_
 refine aO (ag (RW.seq (RW.region (RL.ev (v:=v2) rfl rfl U (RL.ev (v:=v2) rfl rfl aa (RL.ev (v:=.bool true) rfl rfl aa (RL.nil (ag (RW.ret ?_)))))))))
 refine aL (RV.fR rfl) ?_
 have fk:i=rk.length:=by omega
 subst fk
 exact .inl ⟨_,_,rfl,hP,hN.sub [0] (by decide) rfl⟩
end Go.Proofs.YtngkdkbpgoddlaaGreat
namespace Go.Proofs.YtngkdkbpgoddlaaGreat
open Go.RowKit Go.Rl
open Go.Gr
theorem pX (rv wv:Value) (rk:List Int) (ws:List I5) (w:World) (hr:Sl vI w rv rk) (hw:Sm bC w wv ws):al UY 197 #[.agg #[rv,wv]] w fun r w'=>(∃m,r=.tuple #[.map (some m),.bool true]∧jd rk ws∧ak w none_ w' [.mp qh m (gW ws 0) ws.length])∨(¬jd rk ws∧r=.tuple #[.map none,.bool false]∧Ext w w'):=by
 refine al.start Yu rfl (US rfl) ?_
 rw[bL]
 have hN:=ak.nil w none_
 refine RW.seq (RW.region ?_)
 refine RL.op rfl rfl (bq (cs:=[rv,wv]) rfl rfl hN ?_)
 clear hN
 intro g1 w1 (hN:ak w none_ w1 [_])
 refine RL.ev rfl rfl aa (RL.ev (v:=.bool false) rfl rfl aa (RL.nil (ag (RW.seq (RW.region (RL.ev rfl rfl (ah Vb rfl b7 (by decide) rfl) (RL.ev rfl rfl (aj UW rfl rfl (hN.aA 0 rfl) rfl) ?_)))))))
 have jb:=(hr.o.now hN).aY
 refine RL.ev rfl rfl (aQ UW (hr.o.now hN) rfl) (RL.ev (v:=.int .i64 ((rk.length:Int))) rfl rfl aa (RL.nil (ag (RW.seq (RW.region ?_)))))
 refine RL.op rfl rfl (xY (t:=263) (kt:=282) (et:=3) (qh) hN ?_)
 clear hN
 intro m3 w3 (hN:ak w none_ w3 [_,_])
 refine RL.ev (v:=.map (some m3)) rfl rfl aa (RL.nil (ag ?_))
 iterate 2 refine RW.seq ?_
 refine RW.region (RL.ev rfl rfl (ah Vb rfl fJ (by decide) rfl) (RL.ev rfl rfl (aj Vg rfl rfl (hN.aA 1 rfl) rfl) ?_))
 have qn:=(hw.o.now hN).aY
 refine RL.ev rfl rfl (bQ Vg (hw.o.now hN) rfl) (RL.ev (v:=.int .i64 (0)) rfl rfl U (RL.nil (ag (RW.block ?_))))
 refine RW.loop (fun k R0 bT=>∃i:Nat,R0 4=.int .i64 ((rk.length:Int))∧R0 5=.map (some m3)∧R0 15=wv∧R0 16=.int .i64 ((ws.length:Int))∧R0 17=.int .i64 ((i:Int))∧ak w none_ bT [.mp qh m3 ((gW (ws.take i) 0)) (i),.aA g1 [rv,wv] 28]∧(i+k=ws.length)∧(∀(m:Nat) (y:I5),m<i→ws[m]?=some y→xd rk ws m y)) (ws.length) ?_ ?_
 exact⟨0,rfl,rfl,rfl,rfl,rfl,hN,by omega,fun m y hm=>absurd hm (by omega)⟩
 clear hN
 rintro k R0 bT ⟨i,cg,bM,yz,Iv,ee,hN,eR,Sf⟩
 have bY:∃b6,R0=(aZ (aZ (aZ (aZ (aZ b6 4 _) 5 _) 15 _) 16 _) 17 _):=⟨R0,by rw[ai cg,ai bM,ai yz,ai Iv,ai ee]⟩
 obtain⟨b6,rfl⟩:=bY
 clear cg bM yz Iv ee
 refine RW.seq (RW.region (RL.ev rfl rfl (aV rfl rfl) (RL.nil (ag (RW.seq ?_)))))
 refine RW.aN _ rfl (fun bW=>?_) (fun bW=>?_)
 refine RW.skip (ag (RW.seq (RW.block (RW.seq ?_))))
 have aw:∃a_,ws[i]?=some a_:=⟨_,UT (by omega)⟩
 obtain⟨x,hx⟩:=aw
 refine RW.region (RL.ev (v:=.int .i64 ((i:Int))) rfl rfl U (RL.ev rfl rfl (bn Vg dj bb (by decide) (hw.o.now hN) rfl rfl (by omega) (by omega)) (RL.ev rfl rfl (bU (m:=i) (a:=x) U0 rfl dj bb (by decide) (hw.o.now hN) rfl hx (cs:=[.int .i64 (x.1),.int .i64 (x.2.1),.int .i64 (x.2.2.1),.int .i64 (x.2.2.2.1),.int .i64 (x.2.2.2.2)]) rfl) ?_)))
 refine RL.op rfl rfl (aX (cs:=[.int .i64 (0),.int .i64 (0),.int .i64 (0),.int .i64 (0),.int .i64 (0)]) ft rfl hN ?_)
 clear hN
 intro g5 w5 (hN:ak w none_ w5 [_,_,_])
 refine RL.ev (v:=.int .i64 ((i:Int))) rfl rfl aa ?_
 refine RL.op rfl rfl (aC (vs:=[.int .i64 (x.1),.int .i64 (x.2.1),.int .i64 (x.2.2.1),.int .i64 (x.2.2.2.1),.int .i64 (x.2.2.2.2)]) dj rfl rfl rfl (by intro u hu;simp only[U9,U2,or_false]at hu;rcases hu with rfl|rfl|rfl|rfl|rfl<;>first|rfl) hN 0 rfl rfl ?_)
 clear hN
 intro w6 (hN:ak w none_ w6 [_,_,_])
 refine RL.nil (ag ?_)
 iterate 2 refine RW.seq ?_
 rcases ei (fH x.1 x.2.1) (ws.take i)with⟨nP,eQ⟩|⟨j,y,nP,hy,hp,eQ⟩
 refine RW.region (RL.ev (v:=.map (some m3)) rfl rfl U (RL.ev rfl rfl (ah U0 rfl bu (by decide) rfl) (RL.ev rfl rfl (aj UU rfl rfl (hN.aA 0 rfl) rfl) (RL.ev rfl rfl (ah U0 rfl bu (by decide) rfl) (RL.ev rfl rfl (aj UU rfl rfl (hN.aA 0 rfl) rfl) (RL.ev rfl rfl (bh (cs:=[.int .i64 (x.1),.int .i64 (x.2.1)]) VN iU (places:=#[(0,1),(1,1)]) (by intro w;kernel_rfl) (pl:=[(0,.tmp 25),(1,.tmp 27)]) rfl (ps:=[(0,.int .i64 (x.1)),(1,.int .i64 (x.2.1))]) rfl (zc:=[.int .i64 (0),.int .i64 (0)]) rfl (aP (vs:=[.int .i64 (x.1)]) rfl rfl (US rfl) (aP (vs:=[.int .i64 (x.2.1)]) rfl rfl (US rfl) rfl))) (RL.ev rfl rfl (oA Wx (kO (t1:=0) (t2:=0) VN (by kernel_rfl) ⟨by decide,rfl⟩ ⟨by decide,rfl⟩ UU UU) AQ (hN.mp 1 rfl) rfl rfl (jn eQ)) (RL.ev (v:=.tuple #[.int .i64 (0),.bool false]) rfl rfl U ?_))))))))
 iterate 2 refine RL.ev rfl rfl (bg rfl rfl) ?_
 refine RL.ev (v:=.int .i64 (0)) rfl rfl aa (RL.ev (v:=.bool false) rfl rfl aa (RL.nil (ag (RW.block ?_))))
 iterate 2 refine RW.seq ?_
 refine RW.region (RL.ev (v:=.bool false) rfl rfl U (RL.ev (v:=.bool false) rfl rfl aa (RL.nil (ag (RW.dD rfl (RW.seq (RW.region (RL.ev rfl rfl (ah U0 rfl bu (by decide) rfl) (RL.ev rfl rfl (aj UU rfl rfl (hN.aA 0 rfl) rfl) ?_)))))))))
 refine RL.ev rfl rfl (ah U0 rfl bu (by decide) rfl) (RL.ev rfl rfl (aj UU rfl rfl (hN.aA 0 rfl) rfl) (RL.ev rfl rfl (cI rfl rfl) (RL.ev (v:=.bool (decide (x.1=x.2.1))) rfl rfl aa (RL.nil (ag ?_)))))
 refine RW.aN _ rfl (fun nB=>?_) (fun nB=>?_)
 refine RW.skip (ag (RW.nI _ rfl nB (RW.seq (RW.region (RL.ev rfl rfl aa (RL.ev (v:=.bool false) rfl rfl aa (RL.nil (ag (RW.ret ?_)))))))))
 refine aJ (aD (aJ ?_))
 iterate 2 refine aD ?_
 refine aJ (aD (aL (RV.fR rfl) ?_))
 refine .inr ⟨?_,rfl,hN.aE⟩
 first
 |exact kx hx hy hp
 |exact fun h=>by
    have aw:=h i x hx
    obtain⟨e1,e2,e3,e4,e5,e6⟩:=aw
    omega
 refine RW.seq (RW.region (RL.ev rfl rfl (ah U0 rfl bu (by decide) rfl) (RL.ev rfl rfl (aj UU rfl rfl (hN.aA 0 rfl) rfl) (RL.ev rfl rfl (ah U0 rfl bu (by decide) rfl) (RL.ev rfl rfl (aj UU rfl rfl (hN.aA 0 rfl) rfl) (RL.ev rfl rfl (ah U0 rfl dk (by decide) rfl) (RL.ev rfl rfl (ah Vj rfl bu (by decide) rfl) (RL.ev rfl rfl (aj UU rfl rfl (hN.aA 0 rfl) rfl) (RL.ev rfl rfl (Bz rfl rfl rfl) ?_)))))))))
 refine RL.ev rfl rfl (aV rfl rfl) (RL.ev (v:=.bool (decide ((min (min (x.1) (x.2.1)) (x.2.2.1))<0))) rfl rfl aa (RL.nil (ag ?_)))
 refine RW.aN _ rfl (fun nB=>?_) (fun nB=>?_)
 refine RW.skip (ag (RW.nI _ rfl nB (RW.seq (RW.region (RL.ev rfl rfl aa (RL.ev (v:=.bool false) rfl rfl aa (RL.nil (ag (RW.ret ?_)))))))))
 refine aJ (aD (aJ ?_))
 iterate 2 refine aD ?_
 refine aJ (aD (aL (RV.fR rfl) ?_))
 refine .inr ⟨?_,rfl,hN.aE⟩
 first
 |exact kx hx hy hp
 |exact fun h=>by
    have aw:=h i x hx
    obtain⟨e1,e2,e3,e4,e5,e6⟩:=aw
    omega
 refine RW.seq (RW.region (RL.ev rfl rfl (ah U0 rfl bu (by decide) rfl) (RL.ev rfl rfl (aj UU rfl rfl (hN.aA 0 rfl) rfl) (RL.ev rfl rfl (ah U0 rfl bu (by decide) rfl) (RL.ev rfl rfl (aj UU rfl rfl (hN.aA 0 rfl) rfl) (RL.ev rfl rfl (AJ rfl rfl) (RL.ev (v:=.int .i64 ((rk.length:Int))) rfl rfl U (RL.ev rfl rfl (da rfl rfl) (RL.ev (v:=.bool (decide ((rk.length:Int)≤(max (x.1) (x.2.1))))) rfl rfl aa ?_)))))))))
 refine RL.nil (ag ?_)
 refine RW.aN _ rfl (fun nB=>?_) (fun nB=>?_)
 refine RW.skip (ag (RW.nI _ rfl nB (RW.seq (RW.region (RL.ev rfl rfl aa (RL.ev (v:=.bool false) rfl rfl aa (RL.nil (ag (RW.ret ?_)))))))))
 refine aJ (aD (aJ ?_))
 iterate 2 refine aD ?_
 refine aJ (aD (aL (RV.fR rfl) ?_))
 refine .inr ⟨?_,rfl,hN.aE⟩
 first
 |exact kx hx hy hp
 |exact fun h=>by
    have aw:=h i x hx
    obtain⟨e1,e2,e3,e4,e5,e6⟩:=aw
    omega
 refine RW.region (RL.ev rfl rfl (ah U0 rfl dk (by decide) rfl) (RL.ev rfl rfl (ah Vj rfl bu (by decide) rfl) (RL.ev rfl rfl (aj UU rfl rfl (hN.aA 0 rfl) rfl) (RL.ev rfl rfl (cN rfl rfl) (RL.ev (v:=.bool (decide (1152921504606846976<x.2.2.1))) rfl rfl aa (RL.nil (ag ?_)))))))
 refine RW.aN _ rfl (fun nB=>?_) (fun nB=>?_)
 refine RW.seq (RW.region (RL.ev rfl rfl aa (RL.ev (v:=.bool false) rfl rfl aa (RL.nil (ag (RW.ret (aJ (aD (aJ ?_)))))))))
 iterate 2 refine aD ?_
 refine aJ (aD (aL (RV.fR rfl) ?_))
 refine .inr ⟨?_,rfl,hN.aE⟩
 first
 |exact kx hx hy hp
 |exact fun h=>by
    have aw:=h i x hx
    obtain⟨e1,e2,e3,e4,e5,e6⟩:=aw
    omega
 refine RW.skip (a7 (ag (RW.region (RL.ev (v:=.map (some m3)) rfl rfl U (RL.ev rfl rfl (ah U0 rfl bu (by decide) rfl) (RL.ev rfl rfl (aj UU rfl rfl (hN.aA 0 rfl) rfl) (RL.ev rfl rfl (ah U0 rfl bu (by decide) rfl) (RL.ev rfl rfl (aj UU rfl rfl (hN.aA 0 rfl) rfl) (RL.ev rfl rfl (bh (cs:=[.int .i64 (x.1),.int .i64 (x.2.1)]) VN iU (places:=#[(0,1),(1,1)]) (by intro w;kernel_rfl) (pl:=[(0,.tmp 61),(1,.tmp 63)]) rfl (ps:=[(0,.int .i64 (x.1)),(1,.int .i64 (x.2.1))]) rfl (zc:=[.int .i64 (0),.int .i64 (0)]) rfl (aP (vs:=[.int .i64 (x.1)]) rfl rfl (US rfl) (aP (vs:=[.int .i64 (x.2.1)]) rfl rfl (US rfl) rfl))) ?_)))))))))
 refine RL.ev (v:=.int .i64 ((i:Int))) rfl rfl U ?_
 refine RL.op rfl rfl (zZ (a:=(x.1,x.2.1)) (v:=.int .i64 ((i:Int))) Wx (kO (t1:=0) (t2:=0) VN (by kernel_rfl) ⟨by decide,rfl⟩ ⟨by decide,rfl⟩ UU UU) hN 1 rfl rfl rfl rfl (jn eQ) ?_)
 clear hN
 intro w7 (hN:ak w none_ w7 [_,_,_])
 rw[←FY hx]at hN
 replace hN:ak w none_ w7 [.aA g5 [.int .i64 (x.1),.int .i64 (x.2.1),.int .i64 (x.2.2.1),.int .i64 (x.2.2.2.1),.int .i64 (x.2.2.2.2)] 98,.mp qh m3 ((gW (ws.take (i+1)) 0)) (i+1),.aA g1 [rv,wv] 28]:=hN
 refine RL.nil (a7 (ag (RW.region (RL.ev rfl rfl (an rfl rfl rfl (bc (by omega) (by omega))) (RL.ev (v:=.int .i64 ((i:Int)+1)) rfl rfl U (RL.nil (ag ?_)))))))
 exact⟨k-1,by omega,i+1,rfl,rfl,rfl,rfl,rfl,(hN.sub [1,2] (by decide) rfl),by omega,fun m z hm hz=>(VH m i).elim (fun e=>Sf m z e hz) (fun e=>have e2:m=i:=(by omega);have e3:z=x:=Vq (hz.symm.trans (e2▸hx));e2▸e3▸⟨by omega,by omega,by omega,by omega,by omega,nE eQ hx ⟨rfl,rfl⟩⟩)⟩
 refine RW.region (RL.ev (v:=.map (some m3)) rfl rfl U (RL.ev rfl rfl (ah U0 rfl bu (by decide) rfl) (RL.ev rfl rfl (aj UU rfl rfl (hN.aA 0 rfl) rfl) (RL.ev rfl rfl (ah U0 rfl bu (by decide) rfl) (RL.ev rfl rfl (aj UU rfl rfl (hN.aA 0 rfl) rfl) (RL.ev rfl rfl (bh (cs:=[.int .i64 (x.1),.int .i64 (x.2.1)]) VN iU (places:=#[(0,1),(1,1)]) (by intro w;kernel_rfl) (pl:=[(0,.tmp 25),(1,.tmp 27)]) rfl (ps:=[(0,.int .i64 (x.1)),(1,.int .i64 (x.2.1))]) rfl (zc:=[.int .i64 (0),.int .i64 (0)]) rfl (aP (vs:=[.int .i64 (x.1)]) rfl rfl (US rfl) (aP (vs:=[.int .i64 (x.2.1)]) rfl rfl (US rfl) rfl))) (RL.ev rfl rfl (oz (v:=.int .i64 ((j:Int))) Wx (kO (t1:=0) (t2:=0) VN (by kernel_rfl) ⟨by decide,rfl⟩ ⟨by decide,rfl⟩ UU UU) (hN.mp 1 rfl) rfl rfl ((kN hy hp eQ).trans (by rw[W3]))) (RL.ev (v:=.tuple #[.int .i64 ((j:Int)),.bool true]) rfl rfl U ?_))))))))
 iterate 2 refine RL.ev rfl rfl (bg rfl rfl) ?_
 refine RL.ev (v:=.int .i64 ((j:Int))) rfl rfl aa (RL.ev (v:=.bool true) rfl rfl aa (RL.nil (ag (RW.block ?_))))
 iterate 2 refine RW.seq ?_
 refine RW.region (RL.ev (v:=.bool true) rfl rfl U (RL.ev (v:=.bool true) rfl rfl aa (RL.nil (ag (RW.bK rfl (RW.skip (ag (RW.bK rfl (RW.seq ?_)))))))))
 refine RW.region (RL.ev rfl rfl aa (RL.ev (v:=.bool false) rfl rfl aa (RL.nil (ag (RW.ret (aJ (aD (aJ ?_))))))))
 iterate 2 refine aD ?_
 refine aJ (aD (aL (RV.fR rfl) ?_))
 refine .inr ⟨?_,rfl,hN.aE⟩
 first
 |exact kx hx hy hp
 |exact fun h=>by
    have aw:=h i x hx
    obtain⟨e1,e2,e3,e4,e5,e6⟩:=aw
    omega
 refine RW.exit ?_
 iterate 2 refine bm ?_
 refine aO (ag (RW.seq ?_))
 have hF:jd rk ws:=fun m y hy=>Sf m y (by have:=(U5.1 hy).1;omega) hy
 refine RW.region (RL.ev (v:=.map (some m3)) rfl rfl U (RL.ev (v:=.map (some m3)) rfl rfl aa (RL.ev (v:=.bool true) rfl rfl aa (RL.nil (ag (RW.ret (aL (RV.fR rfl) ?_)))))))
 have fk:i=ws.length:=by omega
 subst fk
 rw[Vz]at hN
 exact .inl ⟨_,rfl,hF,hN.sub [0] (by decide) rfl⟩
theorem Ca (rv:Value) (rk:List Int) (w:World) (hr:Sl vI w rv rk) (qS:rk.length≤16777216) (h:k4 rk):al UY 196 #[rv] w fun r w'=>∃pv pl,r=.tuple #[pv,.bool true]∧gZ rk pl rk.length∧ak w none_ w' [.own vI 3 pv pl]:=(n9 rv rk w hr qS).mono fun r w' hq=>hq.elim id fun e=>absurd h e.1
theorem zW (rv:Value) (rk:List Int) (w:World) (hr:Sl vI w rv rk) (qS:rk.length≤16777216) (h:¬k4 rk):al UY 196 #[rv] w fun r w'=>r=.tuple #[.slice none 0 0,.bool false]∧Ext w w':=(n9 rv rk w hr qS).mono fun r w' hq=>hq.elim (fun⟨_,_,_,hP,_⟩=>absurd hP.all h) fun e=>e.2
theorem yY (rv wv:Value) (rk:List Int) (ws:List I5) (w:World) (hr:Sl vI w rv rk) (hw:Sm bC w wv ws) (h:jd rk ws):al UY 197 #[.agg #[rv,wv]] w fun r w'=>∃m,r=.tuple #[.map (some m),.bool true]∧ak w none_ w' [.mp qh m (gW ws 0) ws.length]:=(pX rv wv rk ws w hr hw).mono fun r w' hq=>hq.elim (fun⟨m,e1,_,e3⟩=>⟨m,e1,e3⟩) fun e=>absurd h e.1
theorem u3 (rv wv:Value) (rk:List Int) (ws:List I5) (w:World) (hr:Sl vI w rv rk) (hw:Sm bC w wv ws) (h:¬jd rk ws):al UY 197 #[.agg #[rv,wv]] w fun r w'=>r=.tuple #[.map none,.bool false]∧Ext w w':=(pX rv wv rk ws w hr hw).mono fun r w' hq=>hq.elim (fun⟨_,_,h2,_⟩=>absurd h2 h) fun e=>e.2
end Go.Proofs.YtngkdkbpgoddlaaGreat
namespace Go.Proofs.YtngkdkbpgoddlaaGreat
open Go.RowKit Go.Rl
open Go.Gr
theorem wD (rv wv:Value) (rk:List Int) (ws:List I5) (w:World) (hr:Sl vI w rv rk) (hw:Sm bC w wv ws) (x:I5) (m c:Nat) (hb:w.heap[m]?=some (.map (jw qh (gW ws 0)) c)):al UY 211 #[.agg #[rv,wv],.map (some m),.agg #[.int .i64 x.1,.int .i64 x.2.1,.int .i64 x.2.2.1,.int .i64 x.2.2.2.1,.int .i64 x.2.2.2.2]] w fun r w'=>r=fm (j7 (fH x.1 x.2.2.2.1) ws) (j7 (fH x.2.2.2.1 x.2.1) ws)∧Ext w w':=by
 refine al.start Yv rfl (US rfl) ?_
 rw[jB]
 have hN:=ak.nil w none_
 refine RW.seq (RW.region ?_)
 refine RL.op rfl rfl (bq (cs:=[rv,wv]) rfl rfl hN ?_)
 clear hN
 intro g1 w1 (hN:ak w none_ w1 [_])
 refine RL.op rfl rfl (bq (cs:=[.int .i64 (x.1),.int .i64 (x.2.1),.int .i64 (x.2.2.1),.int .i64 (x.2.2.2.1),.int .i64 (x.2.2.2.2)]) rfl rfl hN ?_)
 clear hN
 intro g2 w2 (hN:ak w none_ w2 [_,_])
 iterate 2 refine RL.ev (v:=.int .i64 (0)) rfl rfl aa ?_
 refine RL.ev (v:=.bool false) rfl rfl aa (RL.nil (ag (RW.seq ?_)))
 rcases ei (fH x.1 x.2.2.2.1) ws with⟨ea,ML⟩|⟨a,y,ea,Ae,MH,Ni⟩
 refine RW.region (RL.ev (v:=.map (some m)) rfl rfl U (RL.ev rfl rfl (ah U0 rfl bu (by decide) rfl) (RL.ev rfl rfl (aj UU rfl rfl (hN.aA 0 rfl) rfl) (RL.ev rfl rfl (ah U0 rfl dk (by decide) rfl) (RL.ev rfl rfl (ah Vj rfl bu (by decide) rfl) (RL.ev rfl rfl (aj UU rfl rfl (hN.aA 0 rfl) rfl) (RL.ev rfl rfl (bh (cs:=[.int .i64 (x.1),.int .i64 (x.2.2.2.1)]) VN iU (places:=#[(0,1),(1,1)]) (by intro w;kernel_rfl) (pl:=[(0,.tmp 16),(1,.tmp 19)]) rfl (ps:=[(0,.int .i64 (x.1)),(1,.int .i64 (x.2.2.2.1))]) rfl (zc:=[.int .i64 (0),.int .i64 (0)]) rfl (aP (vs:=[.int .i64 (x.1)]) rfl rfl (US rfl) (aP (vs:=[.int .i64 (x.2.2.2.1)]) rfl rfl (US rfl) rfl))) (RL.ev rfl rfl (oA Wx (kO (t1:=0) (t2:=0) VN (by kernel_rfl) ⟨by decide,rfl⟩ ⟨by decide,rfl⟩ UU UU) AQ (j3 hb hN.aE) rfl rfl (jn ML)) (RL.ev (v:=.tuple #[.int .i64 (0),.bool false]) rfl rfl U ?_)))))))))
 iterate 2 refine RL.ev rfl rfl (bg rfl rfl) ?_
 refine RL.ev (v:=.int .i64 (0)) rfl rfl aa (RL.ev (v:=.bool false) rfl rfl aa (RL.nil (ag (RW.seq ?_))))
 rcases ei (fH x.2.2.2.1 x.2.1) ws with⟨eb,EK⟩|⟨b,z,eb,xh,EF,FC⟩
 refine RW.region (RL.ev (v:=.map (some m)) rfl rfl U (RL.ev rfl rfl (ah U0 rfl dk (by decide) rfl) (RL.ev rfl rfl (ah Vj rfl bu (by decide) rfl) (RL.ev rfl rfl (aj UU rfl rfl (hN.aA 0 rfl) rfl) (RL.ev rfl rfl (ah U0 rfl bu (by decide) rfl) (RL.ev rfl rfl (aj UU rfl rfl (hN.aA 0 rfl) rfl) (RL.ev rfl rfl (bh (cs:=[.int .i64 (x.2.2.2.1),.int .i64 (x.2.1)]) VN iU (places:=#[(0,1),(1,1)]) (by intro w;kernel_rfl) (pl:=[(0,.tmp 28),(1,.tmp 30)]) rfl (ps:=[(0,.int .i64 (x.2.2.2.1)),(1,.int .i64 (x.2.1))]) rfl (zc:=[.int .i64 (0),.int .i64 (0)]) rfl (aP (vs:=[.int .i64 (x.2.2.2.1)]) rfl rfl (US rfl) (aP (vs:=[.int .i64 (x.2.1)]) rfl rfl (US rfl) rfl))) (RL.ev rfl rfl (oA Wx (kO (t1:=0) (t2:=0) VN (by kernel_rfl) ⟨by decide,rfl⟩ ⟨by decide,rfl⟩ UU UU) AQ (j3 hb hN.aE) rfl rfl (jn EK)) (RL.ev (v:=.tuple #[.int .i64 (0),.bool false]) rfl rfl U ?_)))))))))
 iterate 2 refine RL.ev rfl rfl (bg rfl rfl) ?_
 refine RL.ev (v:=.int .i64 (0)) rfl rfl aa (RL.ev (v:=.bool false) rfl rfl aa (RL.nil (ag (RW.seq (RW.region ?_)))))
 iterate 2 refine RL.ev (v:=.int .i64 (0)) rfl rfl U ?_
 iterate 2 refine RL.ev (v:=.bool false) rfl rfl U ?_
 refine RL.off rfl rfl (by decide) rfl rfl (RL.ev (v:=.bool false) rfl rfl (aH rfl) ?_)
 iterate 2 refine RL.ev (v:=.int .i64 (0)) rfl rfl aa ?_
 refine RL.ev (v:=.bool false) rfl rfl aa (RL.nil (ag (RW.ret (aL (RV.G5 rfl) ?_))))
 exact⟨(show fm (j7 (fH x.1 x.2.2.2.1) ws) (j7 (fH x.2.2.2.1 x.2.1) ws)=_ by rw[ea,eb];exact sK).symm,hN.aE⟩
 refine RW.region (RL.ev (v:=.map (some m)) rfl rfl U (RL.ev rfl rfl (ah U0 rfl dk (by decide) rfl) (RL.ev rfl rfl (ah Vj rfl bu (by decide) rfl) (RL.ev rfl rfl (aj UU rfl rfl (hN.aA 0 rfl) rfl) (RL.ev rfl rfl (ah U0 rfl bu (by decide) rfl) (RL.ev rfl rfl (aj UU rfl rfl (hN.aA 0 rfl) rfl) (RL.ev rfl rfl (bh (cs:=[.int .i64 (x.2.2.2.1),.int .i64 (x.2.1)]) VN iU (places:=#[(0,1),(1,1)]) (by intro w;kernel_rfl) (pl:=[(0,.tmp 28),(1,.tmp 30)]) rfl (ps:=[(0,.int .i64 (x.2.2.2.1)),(1,.int .i64 (x.2.1))]) rfl (zc:=[.int .i64 (0),.int .i64 (0)]) rfl (aP (vs:=[.int .i64 (x.2.2.2.1)]) rfl rfl (US rfl) (aP (vs:=[.int .i64 (x.2.1)]) rfl rfl (US rfl) rfl))) (RL.ev rfl rfl (oz (v:=.int .i64 ((b:Int))) Wx (kO (t1:=0) (t2:=0) VN (by kernel_rfl) ⟨by decide,rfl⟩ ⟨by decide,rfl⟩ UU UU) (j3 hb hN.aE) rfl rfl ((kN xh EF FC).trans (by rw[W3]))) (RL.ev (v:=.tuple #[.int .i64 ((b:Int)),.bool true]) rfl rfl U ?_)))))))))
 iterate 2 refine RL.ev rfl rfl (bg rfl rfl) ?_
 refine RL.ev (v:=.int .i64 ((b:Int))) rfl rfl aa (RL.ev (v:=.bool true) rfl rfl aa (RL.nil (ag (RW.seq (RW.region (RL.ev (v:=.int .i64 (0)) rfl rfl U (RL.ev (v:=.int .i64 ((b:Int))) rfl rfl U ?_)))))))
 iterate 2 refine RL.ev (v:=.bool false) rfl rfl U ?_
 refine RL.off rfl rfl (by decide) rfl rfl (RL.ev (v:=.bool false) rfl rfl (aH rfl) (RL.ev (v:=.int .i64 (0)) rfl rfl aa (RL.ev (v:=.int .i64 ((b:Int))) rfl rfl aa (RL.ev (v:=.bool false) rfl rfl aa (RL.nil (ag (RW.ret (aL (RV.G5 rfl) ?_))))))))
 exact⟨(show fm (j7 (fH x.1 x.2.2.2.1) ws) (j7 (fH x.2.2.2.1 x.2.1) ws)=_ by rw[ea,eb];exact sJ b).symm,hN.aE⟩
 refine RW.region (RL.ev (v:=.map (some m)) rfl rfl U (RL.ev rfl rfl (ah U0 rfl bu (by decide) rfl) (RL.ev rfl rfl (aj UU rfl rfl (hN.aA 0 rfl) rfl) (RL.ev rfl rfl (ah U0 rfl dk (by decide) rfl) (RL.ev rfl rfl (ah Vj rfl bu (by decide) rfl) (RL.ev rfl rfl (aj UU rfl rfl (hN.aA 0 rfl) rfl) (RL.ev rfl rfl (bh (cs:=[.int .i64 (x.1),.int .i64 (x.2.2.2.1)]) VN iU (places:=#[(0,1),(1,1)]) (by intro w;kernel_rfl) (pl:=[(0,.tmp 16),(1,.tmp 19)]) rfl (ps:=[(0,.int .i64 (x.1)),(1,.int .i64 (x.2.2.2.1))]) rfl (zc:=[.int .i64 (0),.int .i64 (0)]) rfl (aP (vs:=[.int .i64 (x.1)]) rfl rfl (US rfl) (aP (vs:=[.int .i64 (x.2.2.2.1)]) rfl rfl (US rfl) rfl))) (RL.ev rfl rfl (oz (v:=.int .i64 ((a:Int))) Wx (kO (t1:=0) (t2:=0) VN (by kernel_rfl) ⟨by decide,rfl⟩ ⟨by decide,rfl⟩ UU UU) (j3 hb hN.aE) rfl rfl ((kN Ae MH Ni).trans (by rw[W3]))) (RL.ev (v:=.tuple #[.int .i64 ((a:Int)),.bool true]) rfl rfl U ?_)))))))))
 iterate 2 refine RL.ev rfl rfl (bg rfl rfl) ?_
 refine RL.ev (v:=.int .i64 ((a:Int))) rfl rfl aa (RL.ev (v:=.bool true) rfl rfl aa (RL.nil (ag (RW.seq ?_))))
 rcases ei (fH x.2.2.2.1 x.2.1) ws with⟨eb,EK⟩|⟨b,z,eb,xh,EF,FC⟩
 refine RW.region (RL.ev (v:=.map (some m)) rfl rfl U (RL.ev rfl rfl (ah U0 rfl dk (by decide) rfl) (RL.ev rfl rfl (ah Vj rfl bu (by decide) rfl) (RL.ev rfl rfl (aj UU rfl rfl (hN.aA 0 rfl) rfl) (RL.ev rfl rfl (ah U0 rfl bu (by decide) rfl) (RL.ev rfl rfl (aj UU rfl rfl (hN.aA 0 rfl) rfl) (RL.ev rfl rfl (bh (cs:=[.int .i64 (x.2.2.2.1),.int .i64 (x.2.1)]) VN iU (places:=#[(0,1),(1,1)]) (by intro w;kernel_rfl) (pl:=[(0,.tmp 28),(1,.tmp 30)]) rfl (ps:=[(0,.int .i64 (x.2.2.2.1)),(1,.int .i64 (x.2.1))]) rfl (zc:=[.int .i64 (0),.int .i64 (0)]) rfl (aP (vs:=[.int .i64 (x.2.2.2.1)]) rfl rfl (US rfl) (aP (vs:=[.int .i64 (x.2.1)]) rfl rfl (US rfl) rfl))) (RL.ev rfl rfl (oA Wx (kO (t1:=0) (t2:=0) VN (by kernel_rfl) ⟨by decide,rfl⟩ ⟨by decide,rfl⟩ UU UU) AQ (j3 hb hN.aE) rfl rfl (jn EK)) (RL.ev (v:=.tuple #[.int .i64 (0),.bool false]) rfl rfl U ?_)))))))))
 iterate 2 refine RL.ev rfl rfl (bg rfl rfl) ?_
 refine RL.ev (v:=.int .i64 (0)) rfl rfl aa (RL.ev (v:=.bool false) rfl rfl aa (RL.nil (ag (RW.seq (RW.region (RL.ev (v:=.int .i64 ((a:Int))) rfl rfl U (RL.ev (v:=.int .i64 (0)) rfl rfl U ?_)))))))
 iterate 2 refine RL.ev (v:=.bool true) rfl rfl U ?_
 refine RL.aI (v:=.bool false) rfl rfl (by decide) rfl rfl U (RL.ev (v:=.bool false) rfl rfl (ao rfl) (RL.ev (v:=.int .i64 ((a:Int))) rfl rfl aa (RL.ev (v:=.int .i64 (0)) rfl rfl aa (RL.ev (v:=.bool false) rfl rfl aa (RL.nil (ag (RW.ret (aL (RV.G5 rfl) ?_))))))))
 exact⟨(show fm (j7 (fH x.1 x.2.2.2.1) ws) (j7 (fH x.2.2.2.1 x.2.1) ws)=_ by rw[ea,eb];exact sI a).symm,hN.aE⟩
 refine RW.region (RL.ev (v:=.map (some m)) rfl rfl U (RL.ev rfl rfl (ah U0 rfl dk (by decide) rfl) (RL.ev rfl rfl (ah Vj rfl bu (by decide) rfl) (RL.ev rfl rfl (aj UU rfl rfl (hN.aA 0 rfl) rfl) (RL.ev rfl rfl (ah U0 rfl bu (by decide) rfl) (RL.ev rfl rfl (aj UU rfl rfl (hN.aA 0 rfl) rfl) (RL.ev rfl rfl (bh (cs:=[.int .i64 (x.2.2.2.1),.int .i64 (x.2.1)]) VN iU (places:=#[(0,1),(1,1)]) (by intro w;kernel_rfl) (pl:=[(0,.tmp 28),(1,.tmp 30)]) rfl (ps:=[(0,.int .i64 (x.2.2.2.1)),(1,.int .i64 (x.2.1))]) rfl (zc:=[.int .i64 (0),.int .i64 (0)]) rfl (aP (vs:=[.int .i64 (x.2.2.2.1)]) rfl rfl (US rfl) (aP (vs:=[.int .i64 (x.2.1)]) rfl rfl (US rfl) rfl))) (RL.ev rfl rfl (oz (v:=.int .i64 ((b:Int))) Wx (kO (t1:=0) (t2:=0) VN (by kernel_rfl) ⟨by decide,rfl⟩ ⟨by decide,rfl⟩ UU UU) (j3 hb hN.aE) rfl rfl ((kN xh EF FC).trans (by rw[W3]))) (RL.ev (v:=.tuple #[.int .i64 ((b:Int)),.bool true]) rfl rfl U ?_)))))))))
 iterate 2 refine RL.ev rfl rfl (bg rfl rfl) ?_
 refine RL.ev (v:=.int .i64 ((b:Int))) rfl rfl aa (RL.ev (v:=.bool true) rfl rfl aa (RL.nil (ag (RW.seq (RW.region (RL.ev (v:=.int .i64 ((a:Int))) rfl rfl U (RL.ev (v:=.int .i64 ((b:Int))) rfl rfl U ?_)))))))
 iterate 2 refine RL.ev (v:=.bool true) rfl rfl U ?_
 refine RL.aI (v:=.bool true) rfl rfl (by decide) rfl rfl U (RL.ev (v:=.bool true) rfl rfl (ao rfl) (RL.ev (v:=.int .i64 ((a:Int))) rfl rfl aa (RL.ev (v:=.int .i64 ((b:Int))) rfl rfl aa (RL.ev (v:=.bool true) rfl rfl aa (RL.nil (ag (RW.ret (aL (RV.G5 rfl) ?_))))))))
 exact⟨(show fm (j7 (fH x.1 x.2.2.2.1) ws) (j7 (fH x.2.2.2.1 x.2.1) ws)=_ by rw[ea,eb];exact sH a b).symm,hN.aE⟩
theorem mI (rv wv:Value) (rk:List Int) (ws:List I5) (w:World) (hr:Sl vI w rv rk) (hw:Sm bC w wv ws) (x:I5) (m c:Nat) (hb:w.heap[m]?=some (.map (jw qh (gW ws 0)) c)) (za zb:Int) (v:Value) (ea:j7 (fH x.1 x.2.2.2.1) ws=za) (eb:j7 (fH x.2.2.2.1 x.2.1) ws=zb) (hv:fm za zb=v):al UY 211 #[.agg #[rv,wv],.map (some m),.agg #[.int .i64 x.1,.int .i64 x.2.1,.int .i64 x.2.2.1,.int .i64 x.2.2.2.1,.int .i64 x.2.2.2.2]] w fun r w'=>r=v∧Ext w w':=(wD rv wv rk ws w hr hw x m c hb).mono fun r w' hq=>⟨by rw[hq.1,ea,eb];exact hv,hq.2⟩
theorem xP (rv wv:Value) (rk:List Int) (ws:List I5) (w:World) (hr:Sl vI w rv rk) (hw:Sm bC w wv ws) (x:I5) (m c:Nat) (hb:w.heap[m]?=some (.map (jw qh (gW ws 0)) c)) (h1:0≤x.1∧x.1<rk.length) (h2:0≤x.2.1∧x.2.1<rk.length):al UY 198 #[.agg #[rv,wv],.map (some m),.agg #[.int .i64 x.1,.int .i64 x.2.1,.int .i64 x.2.2.1,.int .i64 x.2.2.2.1,.int .i64 x.2.2.2.2]] w fun r w'=>r=.bool (decide (eX rk ws x))∧Ext w w':=by
 refine al.start acb rfl (US rfl) ?_
 rw[jB]
 have hN:=ak.nil w none_
 refine RW.seq (RW.region ?_)
 refine RL.op rfl rfl (bq (cs:=[rv,wv]) rfl rfl hN ?_)
 clear hN
 intro g1 w1 (hN:ak w none_ w1 [_])
 refine RL.op rfl rfl (bq (cs:=[.int .i64 (x.1),.int .i64 (x.2.1),.int .i64 (x.2.2.1),.int .i64 (x.2.2.2.1),.int .i64 (x.2.2.2.2)]) rfl rfl hN ?_)
 clear hN
 intro g2 w2 (hN:ak w none_ w2 [_,_])
 refine RL.ev (v:=.bool false) rfl rfl aa (RL.nil (ag ?_))
 iterate 2 refine RW.seq ?_
 refine RW.region (RL.ev rfl rfl (ah U0 rfl dk (by decide) rfl) (RL.ev rfl rfl (ah Vj rfl bu (by decide) rfl) (RL.ev rfl rfl (aj UU rfl rfl (hN.aA 0 rfl) rfl) (RL.ev rfl rfl (cI rfl rfl) (RL.nil (ag ?_))))))
 refine RW.aN _ rfl (fun ja=>?_) (fun ja=>?_)
 refine RW.seq (RW.region (RL.ev rfl rfl (ah U0 rfl dk (by decide) rfl) (RL.ev rfl rfl (ah Vj rfl bu (by decide) rfl) (RL.ev rfl rfl (aj UU rfl rfl (hN.aA 0 rfl) rfl) (RL.ev rfl rfl (da rfl rfl) (RL.ev (v:=.bool (decide (0≤x.2.2.2.2))) rfl rfl U ?_))))))
 by_cases IK:0≤x.2.2.2.2
 rw[decide_eq_true IK]
 refine RL.aI rfl rfl (by decide) rfl rfl (ah U0 rfl dk (by decide) rfl) (RL.aI rfl rfl (by decide) rfl rfl (ah Vj rfl bu (by decide) rfl) (RL.aI rfl rfl (by decide) rfl rfl (aj UU rfl rfl (hN.aA 0 rfl) rfl) (RL.aI rfl rfl (by decide) rfl rfl (aV rfl rfl) (RL.ev (v:=.bool (decide (x.2.2.2.2<67108864))) rfl rfl (ao rfl) (RL.ev (v:=.bool (decide (x.2.2.2.2<67108864))) rfl rfl aa (RL.nil (ag (RW.ret (aD ?_)))))))))
 refine aL (RV.tmp rfl) ?_
 exact⟨congrArg Vd (decide_eq_decide.2 ⟨fun h=>by unfold eX;rw[if_pos ja];exact⟨by omega,h⟩,fun h=>by unfold eX at h;rw[if_pos ja]at h;exact h.2⟩),hN.aE⟩
 rw[decide_eq_false IK]
 iterate 4 refine RL.off rfl rfl (by decide) rfl rfl ?_
 refine RL.ev (v:=.bool false) rfl rfl (aH rfl) (RL.ev (v:=.bool false) rfl rfl aa (RL.nil (ag (RW.ret (aD (aL (RV.tmp rfl) ?_))))))
 exact⟨congrArg Vd (decide_eq_false (fun h=>by
  unfold eX at h
  first
  |(rw[if_pos ja]at h;omega)
  | (rw [if_neg ja] at h
     obtain⟨m1,⟨m2,m3⟩,m4,m5,a_,b_,y_,z_,m6,m7,m8,m9,Co⟩:=h
     first|omega|(have k1:=m4 _ _ (by assumption) (by assumption);have k2:=m5 _ _ (by assumption) (by assumption);omega)))).symm,hN.aE⟩
 refine RW.skip (ag ?_)
 iterate 2 refine RW.seq ?_
 replace hN:=hN.ext (Ext.drew w2)
 refine RW.cb rfl (fun u=>ak w none_ u [.aA g2 [.int .i64 (x.1),.int .i64 (x.2.1),.int .i64 (x.2.2.1),.int .i64 (x.2.2.2.1),.int .i64 (x.2.2.2.2)] 98,.aA g1 [rv,wv] 28]) 42 [(0,0),(1,0),(2,0),(3,0),(4,0),(5,0),(6,0),(7,0),(8,0),(9,0),(10,0),(11,0),(12,0),(13,0),(14,0),(15,0),(16,0),(17,0),(18,0),(19,0),(20,0),(21,0),(22,0),(23,0),(24,0),(25,0),(26,0),(27,0),(28,0),(29,0),(30,0),(31,0),(32,0),(33,0),(34,0),(35,0),(36,0),(37,0),(38,0),(39,0),(40,0),(41,0)] (by intro _ _ _ h;exact h) (by kernel_rfl) hN (RQ.ev rfl rfl (fun w hS=>(ah U0 rfl dk (by decide) rfl)) (RQ.ev rfl rfl (fun w hS=>(ah Vj rfl bu (by decide) rfl)) (RQ.ev rfl rfl (fun w hS=>(aj UU rfl rfl (hS.aA 0 rfl) rfl)) (RQ.ev rfl rfl (fun w hS=>(bp rfl rfl)) (RQ.ev (v:=.bool (decide (¬x.2.2.2.2= -1))) rfl rfl (fun w hS=>U) ?_)))))
 by_cases IH:¬x.2.2.2.2= -1
 rw[decide_eq_true IH]
 iterate 4 refine RQ.off rfl rfl rfl rfl ?_
 refine RQ.ev (v:=.bool true) rfl rfl (fun w hS=>(ao rfl)) (RQ.ev (v:=.bool true) rfl rfl (fun w hS=>U) ?_)
 iterate 7 refine RQ.off rfl rfl rfl rfl ?_
 refine RQ.ev (v:=.bool true) rfl rfl (fun w hS=>(ao rfl)) (RQ.ev (v:=.bool true) rfl rfl (fun w hS=>U) ?_)
 iterate 21 refine RQ.off rfl rfl rfl rfl ?_
 refine RQ.ev (v:=.bool true) rfl rfl (fun w hS=>(ao rfl)) (RQ.done (by kernel_rfl) (ag (RW.bK rfl (RW.seq (RW.region (RL.ev (v:=.bool false) rfl rfl aa (RL.nil (ag (RW.ret ?_)))))))))
 refine aD (aL (RV.tmp rfl) ?_)
 exact⟨congrArg Vd (decide_eq_false (fun h=>by
  unfold eX at h
  first
  |(rw[if_pos ja]at h;omega)
  | (rw [if_neg ja] at h
     obtain⟨m1,⟨m2,m3⟩,m4,m5,a_,b_,y_,z_,m6,m7,m8,m9,Co⟩:=h
     first|omega|(have k1:=m4 _ _ (by assumption) (by assumption);have k2:=m5 _ _ (by assumption) (by assumption);omega)))).symm,hN.aE⟩
 rw[decide_eq_false IH]
 refine RQ.on rfl rfl rfl rfl (fun w hS=>(ah U0 rfl dk (by decide) rfl)) (RQ.on rfl rfl rfl rfl (fun w hS=>(ah Vj rfl bu (by decide) rfl)) (RQ.on rfl rfl rfl rfl (fun w hS=>(aj UU rfl rfl (hS.aA 0 rfl) rfl)) (RQ.on rfl rfl rfl rfl (fun w hS=>(aV rfl rfl)) (RQ.ev (v:=.bool (decide (x.2.2.2.1<0))) rfl rfl (fun w hS=>(aH rfl)) (RQ.ev (v:=.bool (decide (x.2.2.2.1<0))) rfl rfl (fun w hS=>U) ?_)))))
 by_cases sA:x.2.2.2.1<0
 rw[decide_eq_true sA]
 iterate 7 refine RQ.off rfl rfl rfl rfl ?_
 refine RQ.ev (v:=.bool true) rfl rfl (fun w hS=>(ao rfl)) (RQ.ev (v:=.bool true) rfl rfl (fun w hS=>U) ?_)
 iterate 21 refine RQ.off rfl rfl rfl rfl ?_
 refine RQ.ev (v:=.bool true) rfl rfl (fun w hS=>(ao rfl)) (RQ.done (by kernel_rfl) (ag (RW.bK rfl (RW.seq (RW.region (RL.ev (v:=.bool false) rfl rfl aa (RL.nil (ag (RW.ret ?_)))))))))
 refine aD (aL (RV.tmp rfl) ?_)
 exact⟨congrArg Vd (decide_eq_false (fun h=>by
  unfold eX at h
  first
  |(rw[if_pos ja]at h;omega)
  | (rw [if_neg ja] at h
     obtain⟨m1,⟨m2,m3⟩,m4,m5,a_,b_,y_,z_,m6,m7,m8,m9,Co⟩:=h
     first|omega|(have k1:=m4 _ _ (by assumption) (by assumption);have k2:=m5 _ _ (by assumption) (by assumption);omega)))).symm,hN.aE⟩
 rw[decide_eq_false sA]
 refine RQ.on rfl rfl rfl rfl (fun w hS=>(ah U0 rfl dk (by decide) rfl)) (RQ.on rfl rfl rfl rfl (fun w hS=>(ah Vj rfl bu (by decide) rfl)) (RQ.on rfl rfl rfl rfl (fun w hS=>(aj UU rfl rfl (hS.aA 0 rfl) rfl)) (RQ.on rfl rfl rfl rfl (fun w hS=>(ah Vb rfl b7 (by decide) rfl)) (RQ.on rfl rfl rfl rfl (fun w hS=>(aj UW rfl rfl (hS.aA 1 rfl) rfl)) ?_))))
 have mQ:=(hr.o.now hN).aY
 refine RQ.on rfl rfl rfl rfl (fun w hS=>(aQ UW (hr.o.now hS) rfl)) (RQ.on rfl rfl rfl rfl (fun w hS=>(da rfl rfl)) (RQ.ev (v:=.bool (decide ((rk.length:Int)≤x.2.2.2.1))) rfl rfl (fun w hS=>(aH rfl)) (RQ.ev (v:=.bool (decide ((rk.length:Int)≤x.2.2.2.1))) rfl rfl (fun w hS=>U) ?_)))
 by_cases Fc:(rk.length:Int)≤x.2.2.2.1
 rw[decide_eq_true Fc]
 iterate 21 refine RQ.off rfl rfl rfl rfl ?_
 refine RQ.ev (v:=.bool true) rfl rfl (fun w hS=>(ao rfl)) (RQ.done (by kernel_rfl) (ag (RW.bK rfl (RW.seq (RW.region (RL.ev (v:=.bool false) rfl rfl aa (RL.nil (ag (RW.ret ?_)))))))))
 refine aD (aL (RV.tmp rfl) ?_)
 exact⟨congrArg Vd (decide_eq_false (fun h=>by
  unfold eX at h
  first
  |(rw[if_pos ja]at h;omega)
  | (rw [if_neg ja] at h
     obtain⟨m1,⟨m2,m3⟩,m4,m5,a_,b_,y_,z_,m6,m7,m8,m9,Co⟩:=h
     first|omega|(have k1:=m4 _ _ (by assumption) (by assumption);have k2:=m5 _ _ (by assumption) (by assumption);omega)))).symm,hN.aE⟩
 rw[decide_eq_false Fc]
 refine RQ.on rfl rfl rfl rfl (fun w hS=>(ah Vb rfl b7 (by decide) rfl)) (RQ.on rfl rfl rfl rfl (fun w hS=>(aj UW rfl rfl (hS.aA 1 rfl) rfl)) (RQ.on rfl rfl rfl rfl (fun w hS=>(ah U0 rfl dk (by decide) rfl)) (RQ.on rfl rfl rfl rfl (fun w hS=>(ah Vj rfl bu (by decide) rfl)) (RQ.on rfl rfl rfl rfl (fun w hS=>(aj UU rfl rfl (hS.aA 0 rfl) rfl)) (RQ.on rfl rfl rfl rfl (fun w hS=>(aB UW bu (hr.o.now hS) rfl rfl (by omega) (by omega))) ?_)))))
 have aw:∃a_,(rk)[(x.2.2.2.1).toNat]?=some a_:=⟨_,UT (by omega)⟩
 obtain⟨a4,TZ⟩:=aw
 refine RQ.on rfl rfl rfl rfl (fun w hS=>(aF (m:=(x.2.2.2.1).toNat) (a:=a4) UU rfl (hr.o.now hS) rfl TZ)) (RQ.on rfl rfl rfl rfl (fun w hS=>(ah Vb rfl b7 (by decide) rfl)) (RQ.on rfl rfl rfl rfl (fun w hS=>(aj UW rfl rfl (hS.aA 1 rfl) rfl)) (RQ.on rfl rfl rfl rfl (fun w hS=>(ah U0 rfl bu (by decide) rfl)) (RQ.on rfl rfl rfl rfl (fun w hS=>(aj UU rfl rfl (hS.aA 0 rfl) rfl)) (RQ.on rfl rfl rfl rfl (fun w hS=>(aB UW bu (hr.o.now hS) rfl rfl (by omega) (by omega))) ?_)))))
 have aw:∃a_,(rk)[(x.1).toNat]?=some a_:=⟨_,UT (by omega)⟩
 obtain⟨a5,Qm⟩:=aw
 refine RQ.on rfl rfl rfl rfl (fun w hS=>(aF (m:=(x.1).toNat) (a:=a5) UU rfl (hr.o.now hS) rfl Qm)) (RQ.on rfl rfl rfl rfl (fun w hS=>(ah Vb rfl b7 (by decide) rfl)) (RQ.on rfl rfl rfl rfl (fun w hS=>(aj UW rfl rfl (hS.aA 1 rfl) rfl)) (RQ.on rfl rfl rfl rfl (fun w hS=>(ah U0 rfl bu (by decide) rfl)) (RQ.on rfl rfl rfl rfl (fun w hS=>(aj UU rfl rfl (hS.aA 0 rfl) rfl)) (RQ.on rfl rfl rfl rfl (fun w hS=>(aB UW bu (hr.o.now hS) rfl rfl (by omega) (by omega))) ?_)))))
 have aw:∃a_,(rk)[(x.2.1).toNat]?=some a_:=⟨_,UT (by omega)⟩
 obtain⟨a6,TY⟩:=aw
 refine RQ.on rfl rfl rfl rfl (fun w hS=>(aF (m:=(x.2.1).toNat) (a:=a6) UU rfl (hr.o.now hS) rfl TY)) (RQ.on rfl rfl rfl rfl (fun w hS=>(F1 rfl rfl)) (RQ.on rfl rfl rfl rfl (fun w hS=>(da rfl rfl)) (RQ.ev (v:=.bool (decide ((min (a5) (a6))≤a4))) rfl rfl (fun w hS=>(aH rfl)) (RQ.done (by kernel_rfl) (ag ?_)))))
 refine RW.aN _ rfl (fun P7=>?_) (fun P7=>?_)
 refine RW.seq (RW.region (RL.ev (v:=.bool false) rfl rfl aa (RL.nil (ag (RW.ret (aD (aL (RV.tmp rfl) ?_)))))))
 exact⟨congrArg Vd (decide_eq_false (fun h=>by
  unfold eX at h
  first
  |(rw[if_pos ja]at h;omega)
  | (rw [if_neg ja] at h
     obtain⟨m1,⟨m2,m3⟩,m4,m5,a_,b_,y_,z_,m6,m7,m8,m9,Co⟩:=h
     first|omega|(have k1:=m4 _ _ (by assumption) (by assumption);have k2:=m5 _ _ (by assumption) (by assumption);omega)))).symm,hN.aE⟩
 refine RW.skip (ag (RW.seq ?_))
 rcases ei (fH x.1 x.2.2.2.1) ws with⟨ea,ML⟩|⟨a,y,ea,Ae,MH,Ni⟩
 refine RW.region ?_
 rcases ei (fH x.2.2.2.1 x.2.1) ws with⟨eb,EK⟩|⟨b,z,eb,xh,EF,FC⟩
 refine RL.ev rfl rfl (aG (cs:=[rv,wv]) Vb rfl dr rfl (hN.aA 1 rfl)) (RL.ev (v:=.map (some m)) rfl rfl U (RL.ev rfl rfl (aG (cs:=[.int .i64 (x.1),.int .i64 (x.2.1),.int .i64 (x.2.2.1),.int .i64 (x.2.2.2.1),.int .i64 (x.2.2.2.2)]) U0 rfl dj rfl (hN.aA 0 rfl)) ?_))
 refine RL.op rfl rfl (cF Yv rfl rfl rfl rfl rfl ((mI _ _ rk ws _ (hr.o.now hN) (hw.o.now hN) x _ _ (j3 hb hN.aE) (-1) (-1) _ ea eb sK).mono ?_))
 rintro _ w7 ⟨rfl,aW⟩
 replace hN:=hN.ext aW
 clear aW
 refine RL.ev (v:=.tuple #[.int .i64 (0),.int .i64 (0),.bool false]) rfl rfl U ?_
 iterate 3 refine RL.ev rfl rfl (bg rfl rfl) ?_
 iterate 2 refine RL.ev (v:=.int .i64 (0)) rfl rfl aa ?_
 refine RL.ev (v:=.bool false) rfl rfl aa (RL.nil (ag (RW.seq ?_)))
 replace hN:=hN.ext (Ext.drew w7)
 refine RW.cb rfl (fun u=>ak w none_ u [.aA g2 [.int .i64 (x.1),.int .i64 (x.2.1),.int .i64 (x.2.2.1),.int .i64 (x.2.2.2.1),.int .i64 (x.2.2.2.2)] 98,.aA g1 [rv,wv] 28]) 23 [(0,0),(1,0),(2,0),(3,0),(4,0),(5,0),(6,0),(7,0),(8,0),(9,0),(10,0),(11,0),(12,0),(13,0),(14,0),(15,0),(16,0),(17,0),(18,0),(19,0),(20,0),(21,0),(22,0)] (by intro _ _ _ h;exact h) (by kernel_rfl) hN ?_
 iterate 2 refine RQ.ev (v:=.bool false) rfl rfl (fun w hS=>U) ?_
 iterate 19 refine RQ.off rfl rfl rfl rfl ?_
 refine RQ.ev (v:=.bool false) rfl rfl (fun w hS=>(aH rfl)) (RQ.ev (v:=.bool false) rfl rfl (fun w hS=>aa) (RQ.done (by kernel_rfl) (ag (RW.ret (aL (RV.tmp rfl) ?_)))))
 exact⟨congrArg Vd (decide_eq_false (fun h=>by
  unfold eX at h
  rw[if_neg ja]at h
  obtain⟨m1,⟨m2,m3⟩,m4,m5,a_,b_,y_,z_,m6,m7,m8,m9,Co⟩:=h
  omega)).symm,hN.aE⟩
 refine RL.ev rfl rfl (aG (cs:=[rv,wv]) Vb rfl dr rfl (hN.aA 1 rfl)) (RL.ev (v:=.map (some m)) rfl rfl U (RL.ev rfl rfl (aG (cs:=[.int .i64 (x.1),.int .i64 (x.2.1),.int .i64 (x.2.2.1),.int .i64 (x.2.2.2.1),.int .i64 (x.2.2.2.2)]) U0 rfl dj rfl (hN.aA 0 rfl)) ?_))
 refine RL.op rfl rfl (cF Yv rfl rfl rfl rfl rfl ((mI _ _ rk ws _ (hr.o.now hN) (hw.o.now hN) x _ _ (j3 hb hN.aE) (-1) (b:Int) _ ea eb (sJ b)).mono ?_))
 rintro _ w8 ⟨rfl,aW⟩
 replace hN:=hN.ext aW
 clear aW
 refine RL.ev (v:=.tuple #[.int .i64 (0),.int .i64 ((b:Int)),.bool false]) rfl rfl U ?_
 iterate 3 refine RL.ev rfl rfl (bg rfl rfl) ?_
 refine RL.ev (v:=.int .i64 (0)) rfl rfl aa (RL.ev (v:=.int .i64 ((b:Int))) rfl rfl aa (RL.ev (v:=.bool false) rfl rfl aa (RL.nil (ag (RW.seq ?_)))))
 replace hN:=hN.ext (Ext.drew w8)
 refine RW.cb rfl (fun u=>ak w none_ u [.aA g2 [.int .i64 (x.1),.int .i64 (x.2.1),.int .i64 (x.2.2.1),.int .i64 (x.2.2.2.1),.int .i64 (x.2.2.2.2)] 98,.aA g1 [rv,wv] 28]) 23 [(0,0),(1,0),(2,0),(3,0),(4,0),(5,0),(6,0),(7,0),(8,0),(9,0),(10,0),(11,0),(12,0),(13,0),(14,0),(15,0),(16,0),(17,0),(18,0),(19,0),(20,0),(21,0),(22,0)] (by intro _ _ _ h;exact h) (by kernel_rfl) hN ?_
 iterate 2 refine RQ.ev (v:=.bool false) rfl rfl (fun w hS=>U) ?_
 iterate 19 refine RQ.off rfl rfl rfl rfl ?_
 refine RQ.ev (v:=.bool false) rfl rfl (fun w hS=>(aH rfl)) (RQ.ev (v:=.bool false) rfl rfl (fun w hS=>aa) (RQ.done (by kernel_rfl) (ag (RW.ret (aL (RV.tmp rfl) ?_)))))
 exact⟨congrArg Vd (decide_eq_false (fun h=>by
  unfold eX at h
  rw[if_neg ja]at h
  obtain⟨m1,⟨m2,m3⟩,m4,m5,a_,b_,y_,z_,m6,m7,m8,m9,Co⟩:=h
  omega)).symm,hN.aE⟩
 have fG:=(U5.1 Ae).1
 refine RW.region ?_
 rcases ei (fH x.2.2.2.1 x.2.1) ws with⟨eb,EK⟩|⟨b,z,eb,xh,EF,FC⟩
 refine RL.ev rfl rfl (aG (cs:=[rv,wv]) Vb rfl dr rfl (hN.aA 1 rfl)) (RL.ev (v:=.map (some m)) rfl rfl U (RL.ev rfl rfl (aG (cs:=[.int .i64 (x.1),.int .i64 (x.2.1),.int .i64 (x.2.2.1),.int .i64 (x.2.2.2.1),.int .i64 (x.2.2.2.2)]) U0 rfl dj rfl (hN.aA 0 rfl)) ?_))
 refine RL.op rfl rfl (cF Yv rfl rfl rfl rfl rfl ((mI _ _ rk ws _ (hr.o.now hN) (hw.o.now hN) x _ _ (j3 hb hN.aE) (a:Int) (-1) _ ea eb (sI a)).mono ?_))
 rintro _ w9 ⟨rfl,aW⟩
 replace hN:=hN.ext aW
 clear aW
 refine RL.ev (v:=.tuple #[.int .i64 ((a:Int)),.int .i64 (0),.bool false]) rfl rfl U ?_
 iterate 3 refine RL.ev rfl rfl (bg rfl rfl) ?_
 refine RL.ev (v:=.int .i64 ((a:Int))) rfl rfl aa (RL.ev (v:=.int .i64 (0)) rfl rfl aa (RL.ev (v:=.bool false) rfl rfl aa (RL.nil (ag (RW.seq ?_)))))
 replace hN:=hN.ext (Ext.drew w9)
 refine RW.cb rfl (fun u=>ak w none_ u [.aA g2 [.int .i64 (x.1),.int .i64 (x.2.1),.int .i64 (x.2.2.1),.int .i64 (x.2.2.2.1),.int .i64 (x.2.2.2.2)] 98,.aA g1 [rv,wv] 28]) 23 [(0,0),(1,0),(2,0),(3,0),(4,0),(5,0),(6,0),(7,0),(8,0),(9,0),(10,0),(11,0),(12,0),(13,0),(14,0),(15,0),(16,0),(17,0),(18,0),(19,0),(20,0),(21,0),(22,0)] (by intro _ _ _ h;exact h) (by kernel_rfl) hN ?_
 iterate 2 refine RQ.ev (v:=.bool false) rfl rfl (fun w hS=>U) ?_
 iterate 19 refine RQ.off rfl rfl rfl rfl ?_
 refine RQ.ev (v:=.bool false) rfl rfl (fun w hS=>(aH rfl)) (RQ.ev (v:=.bool false) rfl rfl (fun w hS=>aa) (RQ.done (by kernel_rfl) (ag (RW.ret (aL (RV.tmp rfl) ?_)))))
 exact⟨congrArg Vd (decide_eq_false (fun h=>by
  unfold eX at h
  rw[if_neg ja]at h
  obtain⟨m1,⟨m2,m3⟩,m4,m5,a_,b_,y_,z_,m6,m7,m8,m9,Co⟩:=h
  omega)).symm,hN.aE⟩
 have HQ:=(U5.1 xh).1
 refine RL.ev rfl rfl (aG (cs:=[rv,wv]) Vb rfl dr rfl (hN.aA 1 rfl)) (RL.ev (v:=.map (some m)) rfl rfl U (RL.ev rfl rfl (aG (cs:=[.int .i64 (x.1),.int .i64 (x.2.1),.int .i64 (x.2.2.1),.int .i64 (x.2.2.2.1),.int .i64 (x.2.2.2.2)]) U0 rfl dj rfl (hN.aA 0 rfl)) ?_))
 refine RL.op rfl rfl (cF Yv rfl rfl rfl rfl rfl ((mI _ _ rk ws _ (hr.o.now hN) (hw.o.now hN) x _ _ (j3 hb hN.aE) (a:Int) (b:Int) _ ea eb (sH a b)).mono ?_))
 rintro _ jH ⟨rfl,aW⟩
 replace hN:=hN.ext aW
 clear aW
 refine RL.ev (v:=.tuple #[.int .i64 ((a:Int)),.int .i64 ((b:Int)),.bool true]) rfl rfl U ?_
 iterate 3 refine RL.ev rfl rfl (bg rfl rfl) ?_
 refine RL.ev (v:=.int .i64 ((a:Int))) rfl rfl aa (RL.ev (v:=.int .i64 ((b:Int))) rfl rfl aa (RL.ev (v:=.bool true) rfl rfl aa (RL.nil (ag (RW.seq ?_)))))
 replace hN:=hN.ext (Ext.drew jH)
 refine RW.cb rfl (fun u=>ak w none_ u [.aA g2 [.int .i64 (x.1),.int .i64 (x.2.1),.int .i64 (x.2.2.1),.int .i64 (x.2.2.2.1),.int .i64 (x.2.2.2.2)] 98,.aA g1 [rv,wv] 28]) 23 [(0,0),(1,0),(2,0),(3,0),(4,0),(5,0),(6,0),(7,0),(8,0),(9,0),(10,0),(11,0),(12,0),(13,0),(14,0),(15,0),(16,0),(17,0),(18,0),(19,0),(20,0),(21,0),(22,0)] (by intro _ _ _ h;exact h) (by kernel_rfl) hN ?_
 iterate 2 refine RQ.ev (v:=.bool true) rfl rfl (fun w hS=>U) ?_
 refine RQ.on rfl rfl rfl rfl (fun w hS=>(ah Vb rfl fJ (by decide) rfl)) (RQ.on rfl rfl rfl rfl (fun w hS=>(aj Vg rfl rfl (hS.aA 1 rfl) rfl)) (RQ.on (v:=.int .i64 ((a:Int))) rfl rfl rfl rfl (fun w hS=>U) (RQ.on rfl rfl rfl rfl (fun w hS=>(bn Vg dj bb (by decide) (hw.o.now hS) rfl rfl (by omega) (by omega))) (RQ.on rfl rfl rfl rfl (fun w hS=>(cH (m:=a) (b:=0) U0 rfl dk (by decide) bb (hw.o.now hS) Ae rfl rfl)) (RQ.on rfl rfl rfl rfl (fun w hS=>(cH (m:=a) (b:=2) Vj rfl bu (by decide) bb (hw.o.now hS) Ae rfl rfl)) (RQ.on rfl rfl rfl rfl (fun w hS=>(c9 (m:=a) (j:=2) (a:=y) UU rfl bb (hw.o.now hS) rfl Ae rfl)) (RQ.on rfl rfl rfl rfl (fun w hS=>(ah Vb rfl fJ (by decide) rfl)) (RQ.on rfl rfl rfl rfl (fun w hS=>(aj Vg rfl rfl (hS.aA 1 rfl) rfl)) (RQ.on (v:=.int .i64 ((b:Int))) rfl rfl rfl rfl (fun w hS=>U) ?_)))))))))
 refine RQ.on rfl rfl rfl rfl (fun w hS=>(bn Vg dj bb (by decide) (hw.o.now hS) rfl rfl (by omega) (by omega))) (RQ.on rfl rfl rfl rfl (fun w hS=>(cH (m:=b) (b:=0) U0 rfl dk (by decide) bb (hw.o.now hS) xh rfl rfl)) (RQ.on rfl rfl rfl rfl (fun w hS=>(cH (m:=b) (b:=2) Vj rfl bu (by decide) bb (hw.o.now hS) xh rfl rfl)) (RQ.on rfl rfl rfl rfl (fun w hS=>(c9 (m:=b) (j:=2) (a:=z) UU rfl bb (hw.o.now hS) rfl xh rfl)) (RQ.on rfl rfl rfl rfl (fun w hS=>(an rfl rfl rfl rfl)) (RQ.on rfl rfl rfl rfl (fun w hS=>(ah U0 rfl dk (by decide) rfl)) (RQ.on rfl rfl rfl rfl (fun w hS=>(ah Vj rfl bu (by decide) rfl)) (RQ.on rfl rfl rfl rfl (fun w hS=>(aj UU rfl rfl (hS.aA 0 rfl) rfl)) (RQ.on rfl rfl rfl rfl (fun w hS=>(cI rfl rfl)) (RQ.ev (v:=.bool (decide ((Xb.wrap (y.2.2.1+z.2.2.1))=x.2.2.1))) rfl rfl (fun w hS=>(ao rfl)) ?_)))))))))
 refine RQ.ev (v:=.bool (decide ((Xb.wrap (y.2.2.1+z.2.2.1))=x.2.2.1))) rfl rfl (fun w hS=>aa) (RQ.done (by kernel_rfl) (ag (RW.ret (aL (RV.tmp rfl) ?_))))
 exact⟨congrArg Vd (decide_eq_decide.2 ⟨fun h=>by
  unfold eX
  rw[if_neg ja]
  exact⟨by omega,⟨by omega,by omega⟩,fun p q hp hq=>by simp_all<;>omega,fun p q hp hq=>by simp_all<;>omega,a,b,y,z,ea,Ae,eb,xh,h⟩,fun h=>by
  unfold eX at h
  rw[if_neg ja]at h
  obtain⟨m1,⟨m2,m3⟩,m4,m5,a_,b_,y_,z_,m6,m7,m8,m9,Co⟩:=h
  have ia:a=a_:=by omega
  have ib:b=b_:=by omega
  subst ia ib
  rw[Ae]at m7
  rw[xh]at m9
  cases m7
  cases m9
  exact Co⟩),hN.aE⟩
end Go.Proofs.YtngkdkbpgoddlaaGreat
namespace Go.Proofs.YtngkdkbpgoddlaaGreat
open Go.RowKit Go.Rl
open Go.Gr
theorem wB (rv wv:Value) (rk:List Int) (ws:List I5) (w:World) (hr:Sl vI w rv rk) (hw:Sm bC w wv ws):al UY 159 #[.agg #[rv,wv]] w fun r w'=>(dm rk ws=0∧∃g m pv pl,r=.tuple #[.pointer (some ⟨g,0,none⟩),.int .i64 0]∧gZ rk pl rk.length∧ak w none_ w' [.aA g [rv,wv,pv,.map (some m),.slice none 0 0,.slice none 0 0] 269,.mp qh m (gW ws 0) ws.length,.own vI 3 pv pl])∨(¬dm rk ws=0∧r=.tuple #[.pointer none,.int .i64 (dm rk ws)]∧Ext w w'):=by
 refine al.start acd rfl (US rfl) ?_
 rw[bL]
 have hN:=ak.nil w none_
 refine RW.seq (RW.region ?_)
 refine RL.op rfl rfl (bq (cs:=[rv,wv]) rfl rfl hN ?_)
 clear hN
 intro g1 w1 (hN:ak w none_ w1 [_])
 refine RL.ev (v:=.pointer none) rfl rfl aa (RL.ev (v:=.int .i64 (0)) rfl rfl aa (RL.nil (ag ?_)))
 iterate 2 refine RW.seq ?_
 refine RW.region (RL.ev rfl rfl (ah Vb rfl b7 (by decide) rfl) (RL.ev rfl rfl (aj UW rfl rfl (hN.aA 0 rfl) rfl) ?_))
 have jb:=(hr.o.now hN).aY
 refine RL.ev rfl rfl (aQ UW (hr.o.now hN) rfl) (RL.ev rfl rfl (cN rfl rfl) (RL.ev (v:=.bool (decide (16777216<(rk.length:Int)))) rfl rfl U ?_))
 by_cases yH:16777216<(rk.length:Int)
 rw[decide_eq_true yH]
 iterate 4 refine RL.off rfl rfl (by decide) rfl rfl ?_
 refine RL.ev (v:=.bool true) rfl rfl (ao rfl) (RL.nil (ag (RW.bK rfl (RW.seq (RW.region (RL.ev (v:=.pointer none) rfl rfl aa (RL.ev (v:=.int .i64 (3)) rfl rfl aa (RL.nil (ag ?_)))))))))
 refine RW.ret (aD (aL (RV.fR rfl) ?_))
 have eM:dm rk ws=3:=u0 (by omega)
 exact .inr ⟨by omega,by rw[eM];rfl,hN.aE⟩
 rw[decide_eq_false yH]
 refine RL.aI rfl rfl (by decide) rfl rfl (ah Vb rfl fJ (by decide) rfl) (RL.aI rfl rfl (by decide) rfl rfl (aj Vg rfl rfl (hN.aA 0 rfl) rfl) ?_)
 have mQ:=(hw.o.now hN).aY
 refine RL.aI rfl rfl (by decide) rfl rfl (bQ Vg (hw.o.now hN) rfl) (RL.aI rfl rfl (by decide) rfl rfl (cN rfl rfl) (RL.ev (v:=.bool (decide (67108864<(ws.length:Int)))) rfl rfl (aH rfl) (RL.nil (ag ?_))))
 refine RW.aN _ rfl (fun MR=>?_) (fun MR=>?_)
 refine RW.seq (RW.region (RL.ev (v:=.pointer none) rfl rfl aa (RL.ev (v:=.int .i64 (3)) rfl rfl aa (RL.nil (ag (RW.ret (aD (aL (RV.fR rfl) ?_))))))))
 have eM:dm rk ws=3:=u0 (by omega)
 exact .inr ⟨by omega,by rw[eM];rfl,hN.aE⟩
 refine RW.skip (ag (RW.seq ?_))
 by_cases hR:k4 rk
 refine RW.region (RL.ev rfl rfl (ah Vb rfl b7 (by decide) rfl) (RL.ev rfl rfl (aj UW rfl rfl (hN.aA 0 rfl) rfl) ?_))
 refine RL.op rfl rfl (aM aaw rfl rfl rfl ((Ca _ rk _ (hr.o.now hN) (by omega) hR).mono ?_))
 rintro _ w4 ⟨pv,pl,rfl,hP,bE⟩
 replace hN:ak w none_ w4 [_,_]:=hN.dU bE
 clear bE
 refine RL.ev (v:=.tuple #[pv,.bool true]) rfl rfl U ?_
 iterate 2 refine RL.ev rfl rfl (bg rfl rfl) ?_
 refine RL.ev (v:=pv) rfl rfl aa (RL.ev (v:=.bool true) rfl rfl aa (RL.nil (ag (RW.seq ?_))))
 by_cases hF:jd rk ws
 refine RW.region (RL.ev rfl rfl (aG (cs:=[rv,wv]) Vb rfl dr rfl (hN.aA 1 rfl)) ?_)
 refine RL.op rfl rfl (aM Yu rfl rfl rfl ((yY _ _ rk ws _ (hr.o.now hN) (hw.o.now hN) hF).mono ?_))
 rintro _ w5 ⟨mf,rfl,bE⟩
 replace hN:ak w none_ w5 [_,_,_]:=hN.dU bE
 clear bE
 refine RL.ev (v:=.tuple #[.map (some mf),.bool true]) rfl rfl U ?_
 iterate 2 refine RL.ev rfl rfl (bg rfl rfl) ?_
 refine RL.ev (v:=.map (some mf)) rfl rfl aa (RL.ev (v:=.bool true) rfl rfl aa (RL.nil (ag ?_)))
 iterate 2 refine RW.seq ?_
 refine RW.region (RL.ev (v:=.bool true) rfl rfl U (RL.ev rfl rfl (fi rfl) (RL.ev (v:=.bool false) rfl rfl U (RL.aI (v:=.bool true) rfl rfl (by decide) rfl rfl U (RL.aI rfl rfl (by decide) rfl rfl (fi rfl) (RL.ev (v:=.bool false) rfl rfl (aH rfl) (RL.nil (ag (RW.dD rfl ?_)))))))))
 refine RW.skip (ag ?_)
 iterate 2 refine RW.seq ?_
 refine RW.region (RL.ev rfl rfl (ah Vb rfl fJ (by decide) rfl) (RL.ev rfl rfl (aj Vg rfl rfl (hN.aA 2 rfl) rfl) (RL.ev rfl rfl (bQ Vg (hw.o.now hN) rfl) (RL.ev (v:=.int .i64 (0)) rfl rfl U (RL.nil (ag (RW.block ?_)))))))
 refine RW.loop (fun k R0 bT=>∃i:Nat,R0 1=.pointer (some ⟨g1,0,none⟩)∧R0 4=pv∧R0 6=.map (some mf)∧R0 38=wv∧R0 39=.int .i64 ((ws.length:Int))∧R0 40=.int .i64 ((i:Int))∧ak w none_ bT [.mp qh mf ((gW ws 0)) (ws.length),.own vI 3 (pv) (pl),.aA g1 [rv,wv] 28]∧(i+k=ws.length)∧(∀(m:Nat) (y:I5),m<i→ws[m]?=some y→eX rk ws y)) (ws.length) ?_ ?_
 exact⟨0,rfl,rfl,rfl,rfl,rfl,rfl,hN,by omega,fun m y hm=>absurd hm (by omega)⟩
 clear hN
 rintro k R0 bT ⟨i,bw,cg,dd,Iu,yr,yq,hN,eR,RX⟩
 have bY:∃b6,R0=(aZ (aZ (aZ (aZ (aZ (aZ b6 1 _) 4 _) 6 _) 38 _) 39 _) 40 _):=⟨R0,by rw[ai bw,ai cg,ai dd,ai Iu,ai yr,ai yq]⟩
 obtain⟨b6,rfl⟩:=bY
 clear bw cg dd Iu yr yq
 refine RW.seq (RW.region (RL.ev rfl rfl (aV rfl rfl) (RL.nil (ag (RW.seq ?_)))))
 refine RW.aN _ rfl (fun bW=>?_) (fun bW=>?_)
 refine RW.skip (ag (RW.seq (RW.block (RW.seq ?_))))
 have aw:∃a_,ws[i]?=some a_:=⟨_,UT (by omega)⟩
 obtain⟨x,hx⟩:=aw
 have Lt:=hF i x hx
 refine RW.region (RL.ev rfl rfl (bn Vg dj bb (by decide) (hw.o.now hN) rfl rfl (by omega) (by omega)) (RL.ev rfl rfl (bU (m:=i) (a:=x) U0 rfl dj bb (by decide) (hw.o.now hN) rfl hx (cs:=[.int .i64 (x.1),.int .i64 (x.2.1),.int .i64 (x.2.2.1),.int .i64 (x.2.2.2.1),.int .i64 (x.2.2.2.2)]) rfl) ?_))
 refine RL.op rfl rfl (aX (cs:=[.int .i64 (0),.int .i64 (0),.int .i64 (0),.int .i64 (0),.int .i64 (0)]) ft rfl hN ?_)
 clear hN
 intro g6 w6 (hN:ak w none_ w6 [_,_,_,_])
 refine RL.op rfl rfl (aC (vs:=[.int .i64 (x.1),.int .i64 (x.2.1),.int .i64 (x.2.2.1),.int .i64 (x.2.2.2.1),.int .i64 (x.2.2.2.2)]) dj rfl rfl rfl (by intro u hu;simp only[U9,U2,or_false]at hu;rcases hu with rfl|rfl|rfl|rfl|rfl<;>first|rfl) hN 0 rfl rfl ?_)
 clear hN
 intro w7 (hN:ak w none_ w7 [_,_,_,_])
 refine RL.nil (ag (RW.seq (RW.region (RL.ev rfl rfl (aG (cs:=[rv,wv]) Vb rfl dr rfl (hN.aA 3 rfl)) (RL.ev (v:=.map (some mf)) rfl rfl U (RL.ev rfl rfl (aG (cs:=[.int .i64 (x.1),.int .i64 (x.2.1),.int .i64 (x.2.2.1),.int .i64 (x.2.2.2.1),.int .i64 (x.2.2.2.2)]) U0 rfl dj rfl (hN.aA 0 rfl)) ?_))))))
 refine RL.op rfl rfl (cF acb rfl rfl rfl rfl rfl ((xP _ _ rk ws _ (hr.o.now hN) (hw.o.now hN) x _ _ (hN.mp 1 rfl) Lt.1 Lt.2.1).mono ?_))
 rintro _ w8 ⟨rfl,aW⟩
 replace hN:=hN.ext aW
 clear aW
 refine RL.ev rfl rfl (cM rfl) (RL.nil (ag ?_))
 refine RW.aN _ rfl (fun eQ=>?_) (fun eQ=>?_)
 refine RW.seq (RW.region (RL.ev (v:=.pointer none) rfl rfl aa (RL.ev (v:=.int .i64 (2)) rfl rfl aa (RL.nil (ag (RW.ret (aJ ?_)))))))
 iterate 2 refine aD ?_
 refine aJ (aD (aL (RV.fR rfl) ?_))
 have eM:dm rk ws=2:=ot (by omega) (fun h=>by
  have h:=jr.1 h
  first
  |exact absurd h.1 hR
  |exact absurd h.2.1 hF
  |exact absurd (h.2.2 i x hx) eQ)
 exact .inr ⟨by omega,by rw[eM];rfl,hN.aE⟩
 refine RW.skip (a7 (ag (RW.region (RL.ev rfl rfl (an rfl rfl rfl (bc (by omega) (by omega))) (RL.ev (v:=.int .i64 ((i:Int)+1)) rfl rfl U (RL.nil (ag ?_)))))))
 exact⟨k-1,by omega,i+1,rfl,rfl,rfl,rfl,rfl,rfl,(hN.sub [1,2,3] (by decide) rfl),by omega,fun m z hm hz=>(VH m i).elim (fun e=>RX m z e hz) (fun e=>have e2:m=i:=(by omega);have e3:z=x:=Vq (hz.symm.trans (e2▸hx));e3▸Vi.1 eQ)⟩
 refine RW.exit ?_
 iterate 2 refine bm ?_
 refine aO (ag (RW.seq (RW.region (RL.ev rfl rfl (aG (cs:=[rv,wv]) Vb rfl dr rfl (hN.aA 2 rfl)) (RL.ev (v:=pv) rfl rfl U (RL.ev (v:=.map (some mf)) rfl rfl U (RL.ev rfl rfl (bh (cs:=[rv,wv,pv,.map (some mf),.slice none 0 0,.slice none 0 0]) Tryz.underlying269 GV (places:=#[(0,2),(2,1),(3,1),(4,1),(5,1)]) (by intro w;kernel_rfl) (pl:=[(0,.tmp 50),(1,.tmp 51),(2,.tmp 52)]) rfl (ps:=[(0,.agg #[rv,wv]),(1,pv),(2,.map (some mf))]) rfl (zc:=[.slice none 0 0,.slice none 0 0,.slice none 0 0,.map none,.slice none 0 0,.slice none 0 0]) rfl (aP (vs:=[rv,wv]) rfl rfl (US rfl) (aP (vs:=[pv]) (hN.sl 1 rfl).cO rfl (US rfl) (aP (vs:=[.map (some mf)]) rfl rfl (US rfl) rfl)))) ?_)))))))
 refine RL.op rfl rfl (bq (cs:=[rv,wv,pv,.map (some mf),.slice none 0 0,.slice none 0 0]) rfl rfl hN ?_)
 clear hN
 intro g9 w9 (hN:ak w none_ w9 [_,_,_,_])
 refine RL.ev (v:=.pointer (some ⟨g9,0,none⟩)) rfl rfl aa (RL.ev (v:=.int .i64 (0)) rfl rfl aa (RL.nil (ag (RW.ret (aL (RV.fR rfl) ?_)))))
 have eM:dm rk ws=0:=CA (by omega) (jr.2 ⟨hR,hF,fun m y hy=>RX m y (by have:=(U5.1 hy).1;omega) hy⟩)
 exact .inl ⟨eM,_,_,_,_,rfl,hP,hN.sub [0,1,2] (by decide) rfl⟩
 refine RW.region (RL.ev rfl rfl (aG (cs:=[rv,wv]) Vb rfl dr rfl (hN.aA 1 rfl)) ?_)
 refine RL.op rfl rfl (aM Yu rfl rfl rfl ((u3 _ _ rk ws _ (hr.o.now hN) (hw.o.now hN) hF).mono ?_))
 rintro _ jH ⟨rfl,aW⟩
 replace hN:=hN.ext aW
 clear aW
 refine RL.ev (v:=.tuple #[.map none,.bool false]) rfl rfl U ?_
 iterate 2 refine RL.ev rfl rfl (bg rfl rfl) ?_
 refine RL.ev (v:=.map none) rfl rfl aa (RL.ev (v:=.bool false) rfl rfl aa (RL.nil (ag ?_)))
 iterate 2 refine RW.seq ?_
 refine RW.region (RL.ev (v:=.bool true) rfl rfl U (RL.ev rfl rfl (fi rfl) (RL.ev (v:=.bool false) rfl rfl U (RL.aI (v:=.bool false) rfl rfl (by decide) rfl rfl U (RL.aI rfl rfl (by decide) rfl rfl (fi rfl) (RL.ev (v:=.bool true) rfl rfl (aH rfl) (RL.nil (ag (RW.bK rfl ?_)))))))))
 refine RW.seq (RW.region (RL.ev (v:=.pointer none) rfl rfl aa (RL.ev (v:=.int .i64 (2)) rfl rfl aa (RL.nil (ag (RW.ret (aD (aL (RV.fR rfl) ?_))))))))
 have eM:dm rk ws=2:=ot (by omega) (fun h=>by
  have h:=jr.1 h
  first
  |exact absurd h.1 hR
  |exact absurd h.2.1 hF
  |exact absurd (h.2.2 i x hx) eQ)
 exact .inr ⟨by omega,by rw[eM];rfl,hN.aE⟩
 refine RW.region (RL.ev rfl rfl (ah Vb rfl b7 (by decide) rfl) (RL.ev rfl rfl (aj UW rfl rfl (hN.aA 0 rfl) rfl) ?_))
 refine RL.op rfl rfl (aM aaw rfl rfl rfl ((zW _ rk _ (hr.o.now hN) (by omega) hR).mono ?_))
 rintro _ jj ⟨rfl,aW⟩
 replace hN:=hN.ext aW
 clear aW
 refine RL.ev (v:=.tuple #[.slice none 0 0,.bool false]) rfl rfl U ?_
 iterate 2 refine RL.ev rfl rfl (bg rfl rfl) ?_
 refine RL.ev (v:=.slice none 0 0) rfl rfl aa (RL.ev (v:=.bool false) rfl rfl aa (RL.nil (ag (RW.seq ?_))))
 by_cases hF:jd rk ws
 refine RW.region (RL.ev rfl rfl (aG (cs:=[rv,wv]) Vb rfl dr rfl (hN.aA 0 rfl)) ?_)
 refine RL.op rfl rfl (aM Yu rfl rfl rfl ((yY _ _ rk ws _ (hr.o.now hN) (hw.o.now hN) hF).mono ?_))
 rintro _ iP ⟨mf,rfl,bE⟩
 replace hN:ak w none_ iP [_,_]:=hN.dU bE
 clear bE
 refine RL.ev (v:=.tuple #[.map (some mf),.bool true]) rfl rfl U ?_
 iterate 2 refine RL.ev rfl rfl (bg rfl rfl) ?_
 refine RL.ev (v:=.map (some mf)) rfl rfl aa (RL.ev (v:=.bool true) rfl rfl aa (RL.nil (ag ?_)))
 iterate 2 refine RW.seq ?_
 refine RW.region (RL.ev (v:=.bool false) rfl rfl U (RL.ev rfl rfl (fi rfl) (RL.ev (v:=.bool true) rfl rfl U ?_)))
 iterate 2 refine RL.off rfl rfl (by decide) rfl rfl ?_
 refine RL.ev (v:=.bool true) rfl rfl (ao rfl) (RL.nil (ag (RW.bK rfl (RW.seq (RW.region (RL.ev (v:=.pointer none) rfl rfl aa (RL.ev (v:=.int .i64 (2)) rfl rfl aa (RL.nil (ag ?_)))))))))
 refine RW.ret (aD (aL (RV.fR rfl) ?_))
 have eM:dm rk ws=2:=ot (by omega) (fun h=>by
  have h:=jr.1 h
  first
  |exact absurd h.1 hR
  |exact absurd h.2.1 hF
  |exact absurd (h.2.2 i x hx) eQ)
 exact .inr ⟨by omega,by rw[eM];rfl,hN.aE⟩
 refine RW.region (RL.ev rfl rfl (aG (cs:=[rv,wv]) Vb rfl dr rfl (hN.aA 0 rfl)) ?_)
 refine RL.op rfl rfl (aM Yu rfl rfl rfl ((u3 _ _ rk ws _ (hr.o.now hN) (hw.o.now hN) hF).mono ?_))
 rintro _ kC ⟨rfl,aW⟩
 replace hN:=hN.ext aW
 clear aW
 refine RL.ev (v:=.tuple #[.map none,.bool false]) rfl rfl U ?_
 iterate 2 refine RL.ev rfl rfl (bg rfl rfl) ?_
 refine RL.ev (v:=.map none) rfl rfl aa (RL.ev (v:=.bool false) rfl rfl aa (RL.nil (ag ?_)))
 iterate 2 refine RW.seq ?_
 refine RW.region (RL.ev (v:=.bool false) rfl rfl U (RL.ev rfl rfl (fi rfl) (RL.ev (v:=.bool true) rfl rfl U ?_)))
 iterate 2 refine RL.off rfl rfl (by decide) rfl rfl ?_
 refine RL.ev (v:=.bool true) rfl rfl (ao rfl) (RL.nil (ag (RW.bK rfl (RW.seq (RW.region (RL.ev (v:=.pointer none) rfl rfl aa (RL.ev (v:=.int .i64 (2)) rfl rfl aa (RL.nil (ag ?_)))))))))
 refine RW.ret (aD (aL (RV.fR rfl) ?_))
 have eM:dm rk ws=2:=ot (by omega) (fun h=>by
  have h:=jr.1 h
  first
  |exact absurd h.1 hR
  |exact absurd h.2.1 hF
  |exact absurd (h.2.2 i x hx) eQ)
 exact .inr ⟨by omega,by rw[eM];rfl,hN.aE⟩
theorem FA (rv wv:Value) (rk:List Int) (ws:List I5) (w:World) (hr:Sl vI w rv rk) (hw:Sm bC w wv ws):al UY 159 #[.agg #[rv,wv]] w fun r w'=>∃v,r=.tuple #[v,.int .i64 (dm rk ws)]∧Ext w w':=(wB rv wv rk ws w hr hw).mono fun r w' hq=>hq.elim (fun⟨e,g,m,pv,pl,e1,_,e2⟩=>⟨_,by rw[e];exact e1,e2.aE⟩) fun e=>⟨_,e.2.1,e.2.2⟩
theorem wH (rv wv:Value) (rk:List Int) (ws:List I5) (w:World) (hr:Sl vI w rv rk) (hw:Sm bC w wv ws):al UY 106 #[.agg #[rv,wv]] w fun r w'=>r=.int .i64 (dm rk ws)∧Ext w w':=by
 refine al.start ace rfl (US rfl) ?_
 rw[bL]
 have hN:=ak.nil w none_
 refine RW.seq (RW.region ?_)
 refine RL.op rfl rfl (bq (cs:=[rv,wv]) rfl rfl hN ?_)
 clear hN
 intro g1 w1 (hN:ak w none_ w1 [_])
 refine RL.ev (v:=.int .i64 (0)) rfl rfl aa (RL.nil (ag (RW.seq (RW.region (RL.ev rfl rfl (aG (cs:=[rv,wv]) Vb rfl dr rfl (hN.aA 0 rfl)) ?_)))))
 refine RL.op rfl rfl (aM acd rfl rfl rfl ((FA _ _ rk ws _ (hr.o.now hN) (hw.o.now hN)).mono ?_))
 rintro _ w2 ⟨Ue,rfl,aW⟩
 replace hN:ak w none_ w2 [_]:=hN.ext aW
 clear aW
 refine RL.ev (v:=.tuple #[Ue,.int .i64 ((dm rk ws))]) rfl rfl U ?_
 iterate 2 refine RL.ev rfl rfl (bg rfl rfl) ?_
 refine RL.ev rfl rfl aa (RL.ev (v:=.int .i64 ((dm rk ws))) rfl rfl aa (RL.nil (ag (RW.seq (RW.region (RL.ev (v:=.int .i64 ((dm rk ws))) rfl rfl U (RL.ev (v:=.int .i64 ((dm rk ws))) rfl rfl aa (RL.nil (ag ?_)))))))))
 refine RW.ret (aL (RV.tmp rfl) ?_)
 exact⟨rfl,hN.aE⟩
end Go.Proofs.YtngkdkbpgoddlaaGreat
namespace Go.Proofs.YtngkdkbpgoddlaaGreat
open Go.RowKit Go.Rl
open Go.Gr
theorem wZ (n:Int) (av rv wv:Value) (l:List I3) (rk:List Int) (ws:List I5) (w:World) (ha:Sm bf w av l) (hr:Sl vI w rv rk) (hw:Sm bC w wv ws) (gv:Value) (gl:List Int) (hg:Sl vI w gv gl) (fv:Value) (fh:List Hd) (fl:List (List Int)) (hf:Sl vh w fv fh) (nP:ep none_ vI w fh fl) (ov:Value) (oh:List Hd) (ol:List (List I2)) (ho:Sl vh w ov oh) (Dd:dM none_ bk w oh ol) (iv:Value) (ih:List Hd) (il:List (List I2)) (hi:Sl vh w iv ih) (su:dM none_ bk w ih il) (cD:Value) (qK:List Hd) (dL:List (List Int)) (gL:Sl vh w cD qK) (qj:ep none_ vI w qK dL) (cE:Value) (qL:List Hd) (dP:List (List Int)) (gF:Sl vh w cE qL) (qk:ep none_ vI w qL dP) (hh:dm rk ws=0):al UY 108 #[.agg #[.int .i64 n,av,rv,wv,gv,fv,ov,iv,cD,cE]] w fun r w'=>r=.bool (decide (j8 l ws))∧Ext w w':=by
 refine al.start acf rfl (US rfl) ?_
 rw[bL]
 have hN:=ak.nil w none_
 refine RW.seq (RW.region ?_)
 refine RL.op rfl rfl (bq (cs:=[.int .i64 (n),av,rv,wv,gv,fv,ov,iv,cD,cE]) rfl rfl hN ?_)
 clear hN
 intro g1 w1 (hN:ak w none_ w1 [_])
 refine RL.ev (v:=.bool false) rfl rfl aa (RL.nil (ag ?_))
 iterate 2 refine RW.seq ?_
 refine RW.region (RL.ev rfl rfl (ah U8 rfl dr (by decide) rfl) (RL.ev rfl rfl (ah Vb rfl fJ (by decide) rfl) (RL.ev rfl rfl (aj Vg rfl rfl (hN.aA 0 rfl) rfl) ?_)))
 have jb:=(hw.o.now hN).aY
 refine RL.ev rfl rfl (bQ Vg (hw.o.now hN) rfl) (RL.ev (v:=.int .i64 (0)) rfl rfl U (RL.nil (ag (RW.block ?_))))
 refine RW.loop (fun k R0 bT=>∃i:Nat,R0 1=.pointer (some ⟨g1,0,none⟩)∧R0 7=wv∧R0 8=.int .i64 ((ws.length:Int))∧R0 9=.int .i64 ((i:Int))∧ak w none_ bT [.aA g1 [.int .i64 (n),av,rv,wv,gv,fv,ov,iv,cD,cE] 34]∧(i+k=ws.length)∧(∀(m:Nat) (y:I5),m<i→ws[m]?=some y→y.2.2.2.1= -1→l[y.2.2.2.2.toNat]?=some (y.1,y.2.1,y.2.2.1))) (ws.length) ?_ ?_
 exact⟨0,rfl,rfl,rfl,rfl,hN,by omega,fun m r hm=>absurd hm (by omega)⟩
 clear hN
 rintro k R0 bT ⟨i,bw,cd,cl,dc,hN,eR,wI⟩
 have bY:∃b6,R0=(aZ (aZ (aZ (aZ b6 1 _) 7 _) 8 _) 9 _):=⟨R0,by rw[ai bw,ai cd,ai cl,ai dc]⟩
 obtain⟨b6,rfl⟩:=bY
 clear bw cd cl dc
 refine RW.seq (RW.region (RL.ev rfl rfl (aV rfl rfl) (RL.nil (ag (RW.seq ?_)))))
 refine RW.aN _ rfl (fun bW=>?_) (fun bW=>?_)
 refine RW.skip (ag (RW.seq (RW.block (RW.seq ?_))))
 have aw:∃a_,ws[i]?=some a_:=⟨_,UT (by omega)⟩
 obtain⟨x,hx⟩:=aw
 have GD:=(ou hh).2 i x hx
 refine RW.region (RL.ev rfl rfl (bn Vg dj bb (by decide) (hw.o.now hN) rfl rfl (by omega) (by omega)) (RL.ev rfl rfl (bU (m:=i) (a:=x) U0 rfl dj bb (by decide) (hw.o.now hN) rfl hx (cs:=[.int .i64 (x.1),.int .i64 (x.2.1),.int .i64 (x.2.2.1),.int .i64 (x.2.2.2.1),.int .i64 (x.2.2.2.2)]) rfl) ?_))
 refine RL.op rfl rfl (aX (cs:=[.int .i64 (0),.int .i64 (0),.int .i64 (0),.int .i64 (0),.int .i64 (0)]) ft rfl hN ?_)
 clear hN
 intro g3 w3 (hN:ak w none_ w3 [_,_])
 refine RL.op rfl rfl (aC (vs:=[.int .i64 (x.1),.int .i64 (x.2.1),.int .i64 (x.2.2.1),.int .i64 (x.2.2.2.1),.int .i64 (x.2.2.2.2)]) dj rfl rfl rfl (by intro u hu;simp only[U9,U2,or_false]at hu;rcases hu with rfl|rfl|rfl|rfl|rfl<;>first|rfl) hN 0 rfl rfl ?_)
 clear hN
 intro w4 (hN:ak w none_ w4 [_,_])
 refine RL.nil (ag ?_)
 iterate 2 refine RW.seq ?_
 refine RW.region (RL.ev rfl rfl (ah U0 rfl dk (by decide) rfl) (RL.ev rfl rfl (ah Vj rfl bu (by decide) rfl) (RL.ev rfl rfl (aj UU rfl rfl (hN.aA 0 rfl) rfl) (RL.ev rfl rfl (bp rfl rfl) (RL.nil (ag ?_))))))
 refine RW.aN _ rfl (fun j6=>?_) (fun j6=>?_)
 refine RW.exit (bm (aO (ag (RW.region (RL.ev rfl rfl (an rfl rfl rfl (bc (by omega) (by omega))) (RL.ev (v:=.int .i64 ((i:Int)+1)) rfl rfl U (RL.nil (ag ?_))))))))
 exact⟨k-1,by omega,i+1,rfl,rfl,rfl,rfl,(hN.sub [1] (by decide) rfl),by omega,fun m z hm hz=>(VH m i).elim (fun e=>wI m z e hz) (fun e=>have e2:m=i:=(by omega);have e3:z=x:=Vq (hz.symm.trans (e2▸hx));e3▸fun h0=>by first|exact absurd h0 j6|exact hy.trans (congrArg some (V7 (by show y.1=x.1;omega) (V7 (by show y.2.1=x.2.1;omega) (by show y.2.2=x.2.2.1;omega)))))⟩
 refine RW.skip (ag (RW.seq ?_))
 by_cases fG:(l.length:Int)≤x.2.2.2.2
 have FJ:=GD.2
 rw[if_pos (by omega)]at FJ
 replace hN:=hN.ext (Ext.drew w4)
 refine RW.cb rfl (fun u=>ak w none_ u [.aA g3 [.int .i64 (x.1),.int .i64 (x.2.1),.int .i64 (x.2.2.1),.int .i64 (x.2.2.2.1),.int .i64 (x.2.2.2.2)] 98,.aA g1 [.int .i64 (n),av,rv,wv,gv,fv,ov,iv,cD,cE] 34]) 27 [(0,0),(1,0),(2,0),(3,0),(4,0),(5,0),(6,0),(7,0),(8,0),(9,0),(10,0),(11,0),(12,0),(13,0),(14,0),(15,0),(16,0),(17,0),(18,0),(19,0),(20,0),(21,0),(22,0),(23,0),(24,0),(25,0),(26,0)] (by intro _ _ _ h;exact h) (by kernel_rfl) hN (RQ.ev rfl rfl (fun w hS=>(ah U0 rfl dk (by decide) rfl)) (RQ.ev rfl rfl (fun w hS=>(ah Vj rfl bu (by decide) rfl)) (RQ.ev rfl rfl (fun w hS=>(aj UU rfl rfl (hS.aA 0 rfl) rfl)) (RQ.ev rfl rfl (fun w hS=>(ah U8 rfl db (by decide) rfl)) (RQ.ev rfl rfl (fun w hS=>(ah U4 rfl dY (by decide) rfl)) (RQ.ev rfl rfl (fun w hS=>(aj Va rfl rfl (hS.aA 1 rfl) rfl)) ?_))))))
 have pd:=(ha.o.now hN).aY
 refine RQ.ev rfl rfl (fun w hS=>(bQ Va (ha.o.now hS) rfl)) (RQ.ev rfl rfl (fun w hS=>(cS (da rfl rfl) fG)) (RQ.ev (v:=.bool true) rfl rfl (fun w hS=>U) ?_))
 iterate 17 refine RQ.off rfl rfl rfl rfl ?_
 refine RQ.ev (v:=.bool true) rfl rfl (fun w hS=>(ao rfl)) (RQ.done (by kernel_rfl) (ag (RW.bK rfl (RW.seq (RW.region (RL.ev (v:=.bool false) rfl rfl aa (RL.nil (ag (RW.ret ?_)))))))))
 refine aJ ?_
 iterate 2 refine aD ?_
 refine aJ (aD (aL (RV.tmp rfl) ?_))
 exact⟨congrArg Vd (decide_eq_false (fun h:j8 l ws=>by
  have h2:=h x (UZ hx) (by omega)
  first
  |(have:=(U5.1 h2).1;omega)
  |(rw[hy]at h2;cases h2;simp_all))).symm,hN.aE⟩
 have FJ:=GD.2
 rw[if_pos (by omega)]at FJ
 have aw:∃a_,l[x.2.2.2.2.toNat]?=some a_:=⟨_,UT (by omega)⟩
 obtain⟨y,hy⟩:=aw
 replace hN:=hN.ext (Ext.drew w4)
 refine RW.cb rfl (fun u=>ak w none_ u [.aA g3 [.int .i64 (x.1),.int .i64 (x.2.1),.int .i64 (x.2.2.1),.int .i64 (x.2.2.2.1),.int .i64 (x.2.2.2.2)] 98,.aA g1 [.int .i64 (n),av,rv,wv,gv,fv,ov,iv,cD,cE] 34]) 27 [(0,0),(1,0),(2,0),(3,0),(4,0),(5,0),(6,0),(7,0),(8,0),(9,0),(10,0),(11,0),(12,0),(13,0),(14,0),(15,0),(16,0),(17,0),(18,0),(19,0),(20,0),(21,0),(22,0),(23,0),(24,0),(25,0),(26,0)] (by intro _ _ _ h;exact h) (by kernel_rfl) hN (RQ.ev rfl rfl (fun w hS=>(ah U0 rfl dk (by decide) rfl)) (RQ.ev rfl rfl (fun w hS=>(ah Vj rfl bu (by decide) rfl)) (RQ.ev rfl rfl (fun w hS=>(aj UU rfl rfl (hS.aA 0 rfl) rfl)) (RQ.ev rfl rfl (fun w hS=>(ah U8 rfl db (by decide) rfl)) (RQ.ev rfl rfl (fun w hS=>(ah U4 rfl dY (by decide) rfl)) (RQ.ev rfl rfl (fun w hS=>(aj Va rfl rfl (hS.aA 1 rfl) rfl)) ?_))))))
 have CF:=(ha.o.now hN).aY
 refine RQ.ev rfl rfl (fun w hS=>(bQ Va (ha.o.now hS) rfl)) (RQ.ev rfl rfl (fun w hS=>(cm (da rfl rfl) fG)) (RQ.ev (v:=.bool false) rfl rfl (fun w hS=>U) (RQ.on rfl rfl rfl rfl (fun w hS=>(ah U8 rfl db (by decide) rfl)) (RQ.on rfl rfl rfl rfl (fun w hS=>(ah U4 rfl dY (by decide) rfl)) (RQ.on rfl rfl rfl rfl (fun w hS=>(aj Va rfl rfl (hS.aA 1 rfl) rfl)) (RQ.on rfl rfl rfl rfl (fun w hS=>(ah U0 rfl dk (by decide) rfl)) (RQ.on rfl rfl rfl rfl (fun w hS=>(ah Vj rfl bu (by decide) rfl)) (RQ.on rfl rfl rfl rfl (fun w hS=>(aj UU rfl rfl (hS.aA 0 rfl) rfl)) (RQ.on rfl rfl rfl rfl (fun w hS=>(bn Va cq aU (by decide) (ha.o.now hS) rfl rfl (by omega) (by omega))) ?_)))))))))
 refine RQ.on rfl rfl rfl rfl (fun w hS=>(bU (m:=(x.2.2.2.2).toNat) (a:=y) Ve rfl cq aU (by decide) (ha.o.now hS) rfl hy (cs:=[.int .i64 (y.1),.int .i64 (y.2.1),.int .i64 (y.2.2)]) rfl)) (RQ.on rfl rfl rfl rfl (fun w hS=>(ah U0 rfl bu (by decide) rfl)) (RQ.on rfl rfl rfl rfl (fun w hS=>(aj UU rfl rfl (hS.aA 0 rfl) rfl)) (RQ.on rfl rfl rfl rfl (fun w hS=>(ah U0 rfl bu (by decide) rfl)) (RQ.on rfl rfl rfl rfl (fun w hS=>(aj UU rfl rfl (hS.aA 0 rfl) rfl)) (RQ.on rfl rfl rfl rfl (fun w hS=>(ah U0 rfl dk (by decide) rfl)) (RQ.on rfl rfl rfl rfl (fun w hS=>(ah Vj rfl bu (by decide) rfl)) (RQ.on rfl rfl rfl rfl (fun w hS=>(aj UU rfl rfl (hS.aA 0 rfl) rfl)) (RQ.on rfl rfl rfl rfl (fun w hS=>(bh (cs:=[.int .i64 (x.1),.int .i64 (x.2.1),.int .i64 (x.2.2.1)]) Ve eo (places:=#[(0,1),(1,1),(2,1)]) (by intro w;kernel_rfl) (pl:=[(0,.tmp 35),(1,.tmp 37),(2,.tmp 40)]) rfl (ps:=[(0,.int .i64 (x.1)),(1,.int .i64 (x.2.1)),(2,.int .i64 (x.2.2.1))]) rfl (zc:=[.int .i64 (0),.int .i64 (0),.int .i64 (0)]) rfl (aP (vs:=[.int .i64 (x.1)]) rfl rfl (US rfl) (aP (vs:=[.int .i64 (x.2.1)]) rfl rfl (US rfl) (aP (vs:=[.int .i64 (x.2.2.1)]) rfl rfl (US rfl) rfl))))) (RQ.on rfl rfl rfl rfl (fun w hS=>(oC (p:=y.1=x.1∧y.2.1=x.2.1∧y.2.2=x.2.2.1) rfl rfl (by kernel_rfl) (lE.iff (lE.struct Ve (by kernel_rfl) rfl (oP.cons (by decide) (cR.leaf UU rfl) (cR.leaf UU rfl) (lE.int UU) (oP.cons (by decide) (cR.leaf UU rfl) (cR.leaf UU rfl) (lE.int UU) (oP.cons (by decide) (cR.leaf UU rfl) (cR.leaf UU rfl) (lE.int UU) oP.nil)))) (by simp only[VZ,decide_eq_true_eq,and_true])))) ?_)))))))))
 refine RQ.ev (v:=.bool (decide (¬(y.1=x.1∧y.2.1=x.2.1∧y.2.2=x.2.2.1)))) rfl rfl (fun w hS=>(aH rfl)) (RQ.done (by kernel_rfl) (ag ?_))
 refine RW.aN _ rfl (fun eQ=>?_) (fun eQ=>?_)
 refine RW.seq (RW.region (RL.ev (v:=.bool false) rfl rfl aa (RL.nil (ag (RW.ret (aJ ?_))))))
 iterate 2 refine aD ?_
 refine aJ (aD (aL (RV.tmp rfl) ?_))
 exact⟨congrArg Vd (decide_eq_false (fun h:j8 l ws=>by
  have h2:=h x (UZ hx) (by omega)
  first
  |(have:=(U5.1 h2).1;omega)
  |(rw[hy]at h2;cases h2;simp_all))).symm,hN.aE⟩
 refine RW.skip (a7 (ag (RW.region (RL.ev rfl rfl (an rfl rfl rfl (bc (by omega) (by omega))) (RL.ev (v:=.int .i64 ((i:Int)+1)) rfl rfl U (RL.nil (ag ?_)))))))
 exact⟨k-1,by omega,i+1,rfl,rfl,rfl,rfl,(hN.sub [1] (by decide) rfl),by omega,fun m z hm hz=>(VH m i).elim (fun e=>wI m z e hz) (fun e=>have e2:m=i:=(by omega);have e3:z=x:=Vq (hz.symm.trans (e2▸hx));e3▸fun h0=>by first|exact absurd h0 j6|exact hy.trans (congrArg some (V7 (by show y.1=x.1;omega) (V7 (by show y.2.1=x.2.1;omega) (by show y.2.2=x.2.2.1;omega)))))⟩
 refine RW.exit ?_
 iterate 2 refine bm ?_
 refine aO (ag (RW.seq (RW.region (RL.ev (v:=.bool true) rfl rfl aa (RL.nil (ag (RW.ret (aL (RV.tmp rfl) ?_))))))))
 exact⟨congrArg Vd (decide_eq_true (show j8 l ws from fun x hx=>by
  have aw:=VK hx
  obtain⟨m,hm⟩:=aw
  exact wI m x (by have:=(U5.1 hm).1;omega) hm)).symm,hN.aE⟩
theorem wo (n:Int) (av rv wv:Value) (l:List I3) (rk:List Int) (ws:List I5) (w:World) (ha:Sm bf w av l) (hr:Sl vI w rv rk) (hw:Sm bC w wv ws) (gv:Value) (gl:List Int) (hg:Sl vI w gv gl) (fv:Value) (fh:List Hd) (fl:List (List Int)) (hf:Sl vh w fv fh) (nP:ep none_ vI w fh fl) (ov:Value) (oh:List Hd) (ol:List (List I2)) (ho:Sl vh w ov oh) (Dd:dM none_ bk w oh ol) (iv:Value) (ih:List Hd) (il:List (List I2)) (hi:Sl vh w iv ih) (su:dM none_ bk w ih il) (cD:Value) (qK:List Hd) (dL:List (List Int)) (gL:Sl vh w cD qK) (qj:ep none_ vI w qK dL) (cE:Value) (qL:List Hd) (dP:List (List Int)) (gF:Sl vh w cE qL) (qk:ep none_ vI w qL dP) (pS:gl.length≤16777216):al UY 46 #[.agg #[.int .i64 n,av,rv,wv,gv,fv,ov,iv,cD,cE]] w fun r w'=>r=.int .i64 (cL n l rk ws gl fl ol il dL dP)∧Ext w w':=by
 refine al.start Tryz.func46 rfl (US rfl) ?_
 rw[bL]
 have hN:=ak.nil w none_
 refine RW.seq (RW.region ?_)
 refine RL.op rfl rfl (bq (cs:=[.int .i64 (n),av,rv,wv,gv,fv,ov,iv,cD,cE]) rfl rfl hN ?_)
 clear hN
 intro g1 w1 (hN:ak w none_ w1 [_])
 refine RL.ev (v:=.int .i64 (0)) rfl rfl aa (RL.nil (ag ?_))
 iterate 2 refine RW.seq ?_
 replace hN:=hN.ext (Ext.drew w1)
 refine RW.cb rfl (fun u=>ak w none_ u [.aA g1 [.int .i64 (n),av,rv,wv,gv,fv,ov,iv,cD,cE] 34]) 14 [(0,0),(1,0),(3,0),(4,0),(6,0),(7,0),(8,0),(9,0),(10,0),(13,0),(2,1),(5,1),(11,1),(12,0)] (by intro _ _ _ h;exact h) (by kernel_rfl) hN (RQ.ev rfl rfl (fun w hS=>(ah U8 rfl db (by decide) rfl)) (RQ.ev rfl rfl (fun w hS=>(cr (cs:=[.int .i64 (n),av,rv,wv,gv,fv,ov,iv,cD,cE]) (j:=0) (m:=2) U4 rfl db rfl (hS.aA 0 rfl) (US rfl))) (RQ.ev rfl rfl (fun w hS=>(ah U8 rfl dr (by decide) rfl)) (RQ.ev rfl rfl (fun w hS=>(cr (cs:=[.int .i64 (n),av,rv,wv,gv,fv,ov,iv,cD,cE]) (j:=2) (m:=2) Vb rfl dr rfl (hS.aA 0 rfl) (US rfl))) (RQ.ev rfl rfl (fun w hS=>(ah U8 rfl db (by decide) rfl)) (RQ.ev rfl rfl (fun w hS=>(ah U4 rfl bu (by decide) rfl)) (RQ.ev rfl rfl (fun w hS=>(aj UU rfl rfl (hS.aA 0 rfl) rfl)) (RQ.ev rfl rfl (fun w hS=>(ah U8 rfl ga (by decide) rfl)) (RQ.ev rfl rfl (fun w hS=>(cr (cs:=[.int .i64 (n),av,rv,wv,gv,fv,ov,iv,cD,cE]) (j:=4) (m:=6) Vh rfl ga rfl (hS.aA 0 rfl) (US rfl))) ?_)))))))))
 refine RQ.ev (v:=.int .i64 (0)) rfl rfl (fun w hS=>U) ?_
 refine RQ.do rfl rfl (aM Y2 rfl rfl rfl ((kT (n) _ l _ (ha.o.now hN)).mono ?_))
 rintro _ w2 ⟨rfl,aW⟩
 replace hN:=hN.ext aW
 clear aW
 refine⟨hN,?_⟩
 refine RQ.do rfl rfl (aM ace rfl rfl rfl ((wH _ _ rk ws _ (hr.o.now hN) (hw.o.now hN)).mono ?_))
 rintro _ w3 ⟨rfl,aW⟩
 replace hN:=hN.ext aW
 clear aW
 refine⟨hN,?_⟩
 refine RQ.do rfl rfl (aR ab7 rfl rfl rfl rfl ((vE (n) _ _ gl (hg.o.now hN) _ fh fl (hf.o.now hN) (nP.gR hN) _ oh ol (ho.o.now hN) (Dd.ext hN.aE) _ ih il (hi.o.now hN) (su.ext hN.aE) _ qK dL (gL.o.now hN) (qj.gR hN) _ qL dP (gF.o.now hN) (qk.gR hN) pS).mono ?_))
 rintro _ w4 ⟨rfl,aW⟩
 replace hN:=hN.ext aW
 clear aW
 refine⟨hN,?_⟩
 refine RQ.ev rfl rfl (fun w hS=>(pk (cs:=[.int .i64 ((dw (n) l)),.int .i64 ((dm rk ws)),.int .i64 ((cW (n) gl fl ol il dL dP))]) XO td GY (pl:=[(0,.tmp 7),(1,.tmp 10),(2,.tmp 16)]) rfl (ps:=[(0,.int .i64 ((dw (n) l))),(1,.int .i64 ((dm rk ws))),(2,.int .i64 ((cW (n) gl fl ol il dL dP)))]) rfl (zc:=[.int .i64 (0),.int .i64 (0),.int .i64 (0)]) rfl (aP (vs:=[.int .i64 ((dw (n) l))]) rfl rfl (US rfl) (aP (vs:=[.int .i64 ((dm rk ws))]) rfl rfl (US rfl) (aP (vs:=[.int .i64 ((cW (n) gl fl ol il dL dP))]) rfl rfl (US rfl) rfl))))) (RQ.done (by kernel_rfl) (ag (RW.block ?_)))
 refine RW.loop (fun k R0 bT=>∃i:Nat,R0 1=.pointer (some ⟨g1,0,none⟩)∧R0 17=.agg #[.int .i64 ((dw (n) l)),.int .i64 ((dm rk ws)),.int .i64 ((cW (n) gl fl ol il dL dP))]∧R0 18=.int .i64 ((i:Int))∧ak w none_ bT [.aA g1 [.int .i64 (n),av,rv,wv,gv,fv,ov,iv,cD,cE] 34]∧(i+k=3)∧(0<i→dw n l=0)∧(1<i→dm rk ws=0)∧(2<i→cW n gl fl ol il dL dP=0)) (3) ?_ ?_
 exact⟨0,rfl,rfl,rfl,hN,rfl,fun h=>absurd h (by omega),fun h=>absurd h (by omega),fun h=>absurd h (by omega)⟩
 clear hN
 rintro k R0 bT ⟨i,bw,ee,ed,hN,eR,h0,h1,h2⟩
 have bY:∃b6,R0=(aZ (aZ (aZ b6 1 _) 17 _) 18 _):=⟨R0,by rw[ai bw,ai ee,ai ed]⟩
 obtain⟨b6,rfl⟩:=bY
 clear bw ee ed
 refine RW.seq (RW.region (RL.ev rfl rfl (aV rfl rfl) (RL.nil (ag (RW.seq ?_)))))
 refine RW.aN _ rfl (fun bW=>?_) (fun bW=>?_)
 refine RW.skip (ag (RW.seq (RW.block (RW.seq ?_))))
 obtain rfl|rfl|rfl:i=0∨i=1∨i=2:=by omega
 refine RW.region (RL.ev rfl rfl (gJ (cs:=[.int .i64 ((dw (n) l)),.int .i64 ((dm rk ws)),.int .i64 ((cW (n) gl fl ol il dL dP))]) XO WX rfl td rfl rfl (by omega) (by omega) rfl) (RL.ev (v:=.int .i64 ((dw (n) l))) rfl rfl aa (RL.nil (ag (RW.seq (RW.region (RL.ev (v:=.int .i64 ((dw (n) l))) rfl rfl U (RL.ev rfl rfl (bp rfl rfl) (RL.nil ?_)))))))))
 refine ag ?_
 refine RW.aN _ rfl (fun hc=>?_) (fun hc=>?_)
 refine RW.seq (RW.region (RL.ev (v:=.int .i64 ((dw (n) l))) rfl rfl U (RL.ev (v:=.int .i64 ((dw (n) l))) rfl rfl aa (RL.nil (ag (RW.ret (aJ ?_)))))))
 iterate 2 refine aD ?_
 refine aJ (aD (aL (RV.tmp rfl) ?_))
 exact⟨congrArg (Vn .i64) (show cL n l rk ws gl fl ol il dL dP=(dw (n) l) by
  unfold cL
  rw[if_pos (by omega)]).symm,hN.aE⟩
 refine RW.skip (a7 (ag (RW.region (RL.ev rfl rfl (an rfl rfl rfl (bc (by omega) (by omega))) (RL.ev (v:=.int .i64 (((0:Nat):Int)+1)) rfl rfl U (RL.nil (ag ?_)))))))
 exact⟨k-1,by omega,(0+1),rfl,rfl,rfl,hN,by omega,fun _=>by omega,fun _=>by omega,fun _=>by omega⟩
 refine RW.region (RL.ev rfl rfl (gJ (cs:=[.int .i64 ((dw (n) l)),.int .i64 ((dm rk ws)),.int .i64 ((cW (n) gl fl ol il dL dP))]) XO WX rfl td rfl rfl (by omega) (by omega) rfl) (RL.ev (v:=.int .i64 ((dm rk ws))) rfl rfl aa (RL.nil (ag (RW.seq (RW.region (RL.ev (v:=.int .i64 ((dm rk ws))) rfl rfl U (RL.ev rfl rfl (bp rfl rfl) (RL.nil ?_)))))))))
 refine ag ?_
 refine RW.aN _ rfl (fun hc=>?_) (fun hc=>?_)
 refine RW.seq (RW.region (RL.ev (v:=.int .i64 ((dm rk ws))) rfl rfl U (RL.ev (v:=.int .i64 ((dm rk ws))) rfl rfl aa (RL.nil (ag (RW.ret (aJ ?_)))))))
 iterate 2 refine aD ?_
 refine aJ (aD (aL (RV.tmp rfl) ?_))
 exact⟨congrArg (Vn .i64) (show cL n l rk ws gl fl ol il dL dP=(dm rk ws) by
  unfold cL
  rw[if_neg (by omega),if_pos (by omega)]).symm,hN.aE⟩
 refine RW.skip (a7 (ag (RW.region (RL.ev rfl rfl (an rfl rfl rfl (bc (by omega) (by omega))) (RL.ev (v:=.int .i64 (((1:Nat):Int)+1)) rfl rfl U (RL.nil (ag ?_)))))))
 exact⟨k-1,by omega,(1+1),rfl,rfl,rfl,hN,by omega,fun _=>by omega,fun _=>by omega,fun _=>by omega⟩
 refine RW.region (RL.ev rfl rfl (gJ (cs:=[.int .i64 ((dw (n) l)),.int .i64 ((dm rk ws)),.int .i64 ((cW (n) gl fl ol il dL dP))]) XO WX rfl td rfl rfl (by omega) (by omega) rfl) (RL.ev (v:=.int .i64 ((cW (n) gl fl ol il dL dP))) rfl rfl aa (RL.nil (ag (RW.seq (RW.region (RL.ev (v:=.int .i64 ((cW (n) gl fl ol il dL dP))) rfl rfl U (RL.ev rfl rfl (bp rfl rfl) (RL.nil ?_)))))))))
 refine ag ?_
 refine RW.aN _ rfl (fun hc=>?_) (fun hc=>?_)
 refine RW.seq (RW.region (RL.ev (v:=.int .i64 ((cW (n) gl fl ol il dL dP))) rfl rfl U (RL.ev (v:=.int .i64 ((cW (n) gl fl ol il dL dP))) rfl rfl aa (RL.nil (ag (RW.ret (aJ ?_)))))))
 iterate 2 refine aD ?_
 refine aJ (aD (aL (RV.tmp rfl) ?_))
 exact⟨congrArg (Vn .i64) (show cL n l rk ws gl fl ol il dL dP=(cW (n) gl fl ol il dL dP) by
  unfold cL
  rw[if_neg (by omega),if_neg (by omega),if_pos (by omega)]).symm,hN.aE⟩
 refine RW.skip (a7 (ag (RW.region (RL.ev rfl rfl (an rfl rfl rfl (bc (by omega) (by omega))) (RL.ev (v:=.int .i64 (((2:Nat):Int)+1)) rfl rfl U (RL.nil (ag ?_)))))))
 exact⟨k-1,by omega,(2+1),rfl,rfl,rfl,hN,by omega,fun _=>by omega,fun _=>by omega,fun _=>by omega⟩
 refine RW.exit ?_
 iterate 2 refine bm ?_
 refine aO (ag ?_)
 iterate 2 refine RW.seq ?_
 have iM:=h0 (by omega)
 have hh:=h1 (by omega)
 have OW:=h2 (by omega)
 refine RW.region (RL.ev rfl rfl (ah U8 rfl dr (by decide) rfl) (RL.ev rfl rfl (ah Vb rfl b7 (by decide) rfl) (RL.ev rfl rfl (aj UW rfl rfl (hN.aA 0 rfl) rfl) ?_)))
 have pd:=(hr.o.now hN).aY
 refine RL.ev rfl rfl (aQ UW (hr.o.now hN) rfl) (RL.ev rfl rfl (ah U8 rfl db (by decide) rfl) (RL.ev rfl rfl (ah U4 rfl bu (by decide) rfl) (RL.ev rfl rfl (aj UU rfl rfl (hN.aA 0 rfl) rfl) (RL.ev rfl rfl (bp rfl rfl) (RL.ev (v:=.bool (decide (¬(rk.length:Int)=n))) rfl rfl U ?_)))))
 by_cases ID:¬(rk.length:Int)=n
 rw[decide_eq_true ID]
 iterate 3 refine RL.off rfl rfl (by decide) rfl rfl ?_
 refine RL.ev (v:=.bool true) rfl rfl (ao rfl) (RL.nil (ag (RW.bK rfl (RW.seq (RW.region (RL.ev (v:=.int .i64 (2)) rfl rfl aa (RL.nil (ag (RW.ret ?_)))))))))
 refine aD (aL (RV.tmp rfl) ?_)
 exact⟨congrArg (Vn .i64) (show cL n l rk ws gl fl ol il dL dP=2 by
  unfold cL
  rw[if_neg (by omega),if_neg (by omega),if_neg (by omega),if_neg (fun h=>by
  first
  |omega
  |exact absurd h.2 (by assumption))]).symm,hN.aE⟩
 rw[decide_eq_false ID]
 refine RL.aI rfl rfl (by decide) rfl rfl (aG (cs:=[.int .i64 (n),av,rv,wv,gv,fv,ov,iv,cD,cE]) U8 rfl dJ rfl (hN.aA 0 rfl)) ?_
 refine RL.on rfl rfl (by decide) rfl rfl (aM acf rfl rfl rfl ((wZ (n) _ _ _ l rk ws _ (ha.o.now hN) (hr.o.now hN) (hw.o.now hN) _ gl (hg.o.now hN) _ fh fl (hf.o.now hN) (nP.gR hN) _ oh ol (ho.o.now hN) (Dd.ext hN.aE) _ ih il (hi.o.now hN) (su.ext hN.aE) _ qK dL (gL.o.now hN) (qj.gR hN) _ qL dP (gF.o.now hN) (qk.gR hN) hh).mono ?_))
 rintro _ w6 ⟨rfl,aW⟩
 replace hN:=hN.ext aW
 clear aW
 refine RL.aI rfl rfl (by decide) rfl rfl (cM rfl) (RL.ev (v:=.bool (decide (¬(j8 l ws)))) rfl rfl (aH rfl) (RL.nil (ag ?_)))
 refine RW.aN _ rfl (fun Qc=>?_) (fun Qc=>?_)
 refine RW.seq (RW.region (RL.ev (v:=.int .i64 (2)) rfl rfl aa (RL.nil (ag (RW.ret (aD (aL (RV.tmp rfl) ?_)))))))
 exact⟨congrArg (Vn .i64) (show cL n l rk ws gl fl ol il dL dP=2 by
  unfold cL
  rw[if_neg (by omega),if_neg (by omega),if_neg (by omega),if_neg (fun h=>by
  first
  |omega
  |exact absurd h.2 (by assumption))]).symm,hN.aE⟩
 refine RW.skip (ag (RW.seq (RW.region (RL.ev (v:=.int .i64 (0)) rfl rfl aa (RL.nil (ag (RW.ret (aL (RV.tmp rfl) ?_))))))))
 exact⟨congrArg (Vn .i64) (show cL n l rk ws gl fl ol il dL dP=0 by
  unfold cL
  rw[if_neg (by omega),if_neg (by omega),if_neg (by omega),if_pos ⟨by omega,Vi.1 (by assumption)⟩]).symm,hN.aE⟩
end Go.Proofs.YtngkdkbpgoddlaaGreat
