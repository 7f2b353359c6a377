/- The law ImageBack: texts that its row leans on (6). -/
import Derived.Test.YtngkdkbpgoddlaaGreatKImageBack5
set_option linter.unusedVariables false
set_option linter.unusedSimpArgs false
set_option linter.unusedSectionVars false
set_option maxHeartbeats 4000000
set_option maxRecDepth 100000
open Decidable renaming not_not → acX
open Go.IntKind renaming i64 → adE
open Go.Proofs.Tryz renaming underlying3 → acy, underlying25 → acz, prog → acD, underlying28 → acE, underlying98 → acG, underlying194 → acI, underlying24 → acJ, underlying26 → acL, underlying96 → acN, underlying29 → acQ, underlying32 → acR, underlying135 → acY, underlying192 → acZ, underlying118 → ac1, underlying30 → ac5, underlying248 → adf, underlying207 → ado, underlying111 → adt, func137 → ad9, underlying246 → aeh, func186 → afB, func185 → agy, func144 → ahg, func187 → ahh, func140 → ahi, func136 → ahj, func138 → ahk, func189 → aiy, func217 → aiz, func135 → aiA, func184 → aiB, func63 → ai1, func64 → ai2, func182 → ajI, func216 → akj, func208 → akk, func141 → akl, func143 → akm, func188 → akn, func142 → ako, func183 → akp, func139 → akq, func132 → akr, func133 → aks
open Go.Value renaming bool → acV
open Int renaming mul_le_mul_of_nonneg_right → aew
open List renaming length_append → acB, mem_of_getElem? → acC, getElem?_eq_some_iff → acF, length_singleton → acH, length_cons → acK, length_nil → acS, not_mem_nil → ac0, take_of_length_le → ac2, replicate → ac3, mem_cons → ac6, length_take → ac9, length_map → ada, length_replicate → adb, mem_singleton → adh, take_length → adm, mem_append → adn, getElem?_set → adp, append_nil → adw, append_assoc → adB, length_set → adO, length_pos_of_mem → af3, replicate_succ' → ah0
open List.Sublist renaming refl → aiK
open Nat renaming le_of_ble_eq_true → acA, le_trans → acU, le_refl → ac8
open Option.some renaming inj → ac7
namespace Go.Proofs.YtngkdkbpgoddlaaGreat
open Go.RowKit Go.Rl
open Go.Gr
theorem nO (n:Nat) (rv wv:Value) (rk:List Int) (ways:List I5) (w:World) (hr:Sl vI w rv rk) (hw:Sm aV w wv ways) (hH:De n rk ways) (v top:Int) (bk:Bool) (hn:n≤12) (u5:0≤v) (uc:v<n):aM acD 144 #[.agg #[rv,wv],.int .i64 v,.int .i64 top,.bool (decide (bk=true))] w fun r w'=>∃d,eB vI 3 w' w.heap.size r d∧lh n (iU 12) d∧d[(v).toNat]?=some 0∧Ext w w':=by
 refine aM.aZ ahg ?_
 rw[kE]
 have hN:=aH.nil w none_
 have ui:=hH.len
 refine RW.aN ?_
 refine RL.aL (bJ (cs:=[rv,wv]) rfl rfl hN ?_)
 clear hN
 intro g1 w1 (hN:aH w none_ w1 [_])
 refine RL.ag (v:=vN) ai (RL.bY (RL.ag (ah acE rfl cc) (RL.ag (aj acz (hN.aJ 0 rfl)) ?_)))
 have iH:=(hr.o.now hN).bw
 refine RL.ag (aQ acz (hr.o.now hN)) (RL.ag (v:=.int .i64 ((rk.length:Int))) ai (RL.bY (RL.ag (v:=.int .i64 ((rk.length:Int))) U ?_)))
 refine RL.aL (iq (enc:=vI) (z:=0) acz fI rfl hN rfl (by omega) (by omega) (by omega) ?_)
 clear hN
 intro v3 w3 (hN:aH w none_ w3 [_,_])
 refine RL.ag (v:=v3) ai (RL.ak ?_)
 iterate 2 refine RW.seq ?_
 refine RW.region (RL.ag (v:=.int .i64 (0)) ai (RL.ak (RW.block ?_)))
 refine RW.loop (fun k R0 cv=>∃d0:List Int,∃i:Nat,R0 1=.int .i64 (v)∧R0 2=.int .i64 (top)∧R0 3=.bool (decide (bk=true))∧R0 4=vP g1∧R0 9=.int .i64 ((rk.length:Int))∧R0 10=v3∧R0 11=vJ i∧aH w none_ cv [.own vI 3 (v3) (d0),.aJ g1 [rv,wv] 28]∧(i+k=rk.length)∧(d0.length=rk.length)∧(∀j,j<i→d0[j]?=some (-1))) (rk.length) ?_ ?_
 exact⟨ac3 rk.length 0,0,rfl,rfl,rfl,rfl,rfl,rfl,rfl,hN,by omega,adb,fun j hj=>by omega⟩
 clear hN
 rintro k R0 cv ⟨d0,i,bN,bQ,cb,cu,dN,db,eu,hN,fP,Pp,h0⟩
 have cz:=BD bN bQ cb cu dN db eu
 obtain⟨fV,rfl⟩:=cz
 clear bN bQ cb cu dN db eu
 iterate 2 refine RW.seq ?_
 refine RW.region (RL.ag (v:=vJ i) U (RL.ag (v:=.int .i64 ((rk.length:Int))) U (RL.ag (aK) (RL.ak ?_))))
 refine RW.aG _ (fun cD=>?_) (fun cD=>?_)
 refine RW.skip (aA (RW.seq (RW.block (RW.region (RL.ag (v:=v3) U (RL.ag (v:=vJ i) U (RL.ag (aC acz bI (hN.sl 0 rfl)) ?_)))))))
 refine RL.aL (cm (m:=i) (a:=(-1)) bI hN 0 rfl rfl (by omega) rfl rfl rfl rfl ?_)
 clear hN
 intro w4 (hN:aH w none_ w4 [_,_])
 refine RL.nil (ba (aA (RW.region (RL.ag (v:=vJ i) U (RL.ag (aD rfl rfl rfl (bg (by omega) (by omega))) (RL.ag (v:=.int .i64 ((i:Int)+1)) ai (RL.ak ?_)))))))
 exact⟨k-1,by omega,(d0).set i ((-1)),i+1,rfl,rfl,rfl,rfl,rfl,rfl,rfl,hN,by omega,by rw[adO];exact Pp,yS (by omega) h0⟩
 refine RW.exit ?_
 iterate 2 refine bP ?_
 refine aY (aA ?_)
 iterate 2 refine RW.seq ?_
 have VK:d0=ac3 n (-1):=yT (by omega) (fun j hj=>h0 j (by omega))
 have Aj:(ac3 n (-1:Int)).length=n:=adb
 replace hN:=hN.l7 0 rfl (show _=(ac3 n (-1))from VK)
 replace hN:aH w none_ cv [_,_]:=hN
 refine RW.region (RL.ag (v:=.int .i64 (v)) U (RL.ag (cG (aK) (by omega)) (RL.ag (v:=.bool false) U (RL.aw (v:=.int .i64 (v)) U (RL.aw (v:=.int .i64 ((rk.length:Int))) U (RL.aw (cG (ck) (by omega)) (RL.ag (v:=.bool false) (aB) (RL.ak ?_))))))))
 refine RW.cj (RW.skip (aA (RW.aN (RL.ag (v:=v3) U (RL.ag (v:=.int .i64 (v)) U (RL.ag (aC acz bI (hN.sl 0 rfl)) ?_))))))
 refine RL.aL (cm (m:=(v).toNat) (a:=0) bI hN 0 rfl rfl (by omega) rfl rfl rfl rfl ?_)
 clear hN
 intro w5 (hN:aH w none_ w5 [_,_])
 refine RL.ak ?_
 iterate 2 refine RW.seq ?_
 refine RW.region (RL.ag (v:=.bool true) ai (RL.ak (RW.block ?_)))
 refine RW.loop (fun k1 R1 ez=>∃d1:List Int,∃m:Bool,R1 2=.int .i64 (top)∧R1 3=.bool (decide (bk=true))∧R1 4=vP g1∧R1 10=v3∧R1 12=.bool (decide (m=true))∧aH w none_ ez [.own vI 3 (v3) (d1),.aJ g1 [rv,wv] 28]∧(k1=2*B5 ((n:Int)*iU 12).toNat d1+m.toNat)∧(lh n (iU 12) d1)∧(d1[(v).toNat]?=some 0)) (2*B5 ((n:Int)*iU 12).toNat ((ac3 n (-1)).set (v).toNat (0))+1) ?_ ?_
 exact⟨(ac3 n (-1)).set (v).toNat (0),true,rfl,rfl,rfl,rfl,rfl,hN,rfl,lh.start (gj 12) (show(v).toNat<n by omega),by rw[adp,if_pos rfl,if_pos (by omega)]⟩
 clear hN
 rintro k1 R1 ez ⟨d1,m,bQ,cb,cu,db,eK,hN,F4,hD,hZ⟩
 have cz:=hC bQ cb cu db eK
 obtain⟨re,rfl⟩:=cz
 clear bQ cb cu db eK
 iterate 2 refine RW.seq ?_
 refine RW.region (RL.ag (v:=.bool (decide (m=true))) U (RL.ak ?_))
 refine RW.aG _ (fun hm=>?_) (fun hm=>?_)
 refine RW.skip (aA (RW.block (RW.aN (RL.ag (v:=.bool false) ai (RL.ak (RW.aN ?_))))))
 refine RL.ag (v:=.int .i64 (0)) ai (RL.ak (RW.block ?_))
 refine RW.loop (fun k2 R2 gR=>∃d2:List Int,∃m2:Bool,∃q:Nat,R2 2=.int .i64 (top)∧R2 3=.bool (decide (bk=true))∧R2 4=vP g1∧R2 10=v3∧R2 12=.bool (decide (m2=true))∧R2 13=vJ q∧aH w none_ gR [.own vI 3 (v3) (d2),.aJ g1 [rv,wv] 28]∧(q+k2=ways.length)∧(lh n (iU 12) d2)∧(d2[(v).toNat]?=some 0)∧(B5 ((n:Int)*iU 12).toNat d2+m2.toNat≤B5 ((n:Int)*iU 12).toNat d1)) (ways.length) ?_ ?_
 exact⟨d1,false,0,rfl,rfl,rfl,rfl,rfl,rfl,hN,by omega,hD,hZ,ac8 _⟩
 clear hN
 rintro k2 R2 gR ⟨d2,m2,q,bQ,cb,cu,db,eK,fe,hN,yl,zf,SW,hp⟩
 have cz:=oK bQ cb cu db eK fe
 obtain⟨M9,rfl⟩:=cz
 clear bQ cb cu db eK fe
 iterate 2 refine RW.seq ?_
 refine RW.region (RL.ag (v:=vJ q) U (RL.ag (ah acE rfl eF) (RL.ag (aj acL (hN.aJ 1 rfl)) ?_)))
 have AK:=(hw.o.now hN).bw
 refine RL.ag (bO acL (hw.o.now hN)) (RL.ag (aK) (RL.ak ?_))
 refine RW.aG _ (fun ep=>?_) (fun ep=>?_)
 refine RW.skip (aA (RW.seq (RW.block (RW.aN (RL.ag (ah acE rfl eF) (RL.ag (aj acL (hN.aJ 1 rfl)) (RL.ag (v:=vJ q) U (RL.ag (aT acL eh aI (hw.o.now hN)) ?_))))))))
 have aO:=cQ (ways) q
 obtain⟨ap,bV⟩:=aO
 refine RL.ag (bm (m:=q) (b:=0) acG rfl bI aI (hw.o.now hN) bV) ?_
 have aO:=hH.ws ap (acC bV)
 obtain⟨pM,HI,TE,TD,Re,Rc⟩:=aO
 refine RL.ag (bB (m:=q) (j:=0) (a:=ap) acy aI (hw.o.now hN) bV) (RL.ag (v:=.int .i64 (ap.1)) ai (RL.bY (RL.ag (ah acE rfl eF) (RL.ag (aj acL (hN.aJ 1 rfl)) (RL.ag (v:=vJ q) U (RL.ag (aT acL eh aI (hw.o.now hN)) ?_))))))
 refine RL.ag (bm (m:=q) (b:=0) acG rfl bI aI (hw.o.now hN) bV) (RL.ag (bB (m:=q) (j:=1) (a:=ap) acy aI (hw.o.now hN) bV) (RL.ag (v:=.int .i64 (ap.2.1)) ai (RL.ak ?_)))
 iterate 2 refine RW.seq ?_
 refine RW.region (RL.ag (v:=.bool (decide (bk=true))) U (RL.ak ?_))
 refine RW.aG _ (fun V2=>?_) (fun V2=>?_)
 refine RW.aN (RL.ag (ah acE rfl eF) (RL.ag (aj acL (hN.aJ 1 rfl)) (RL.ag (v:=vJ q) U (RL.ag (aT acL eh aI (hw.o.now hN)) (RL.ag (bm (m:=q) (b:=0) acG rfl bI aI (hw.o.now hN) bV) (RL.ag (bB (m:=q) (j:=1) (a:=ap) acy aI (hw.o.now hN) bV) (RL.ag (v:=.int .i64 (ap.2.1)) ai (RL.nil ?_))))))))
 refine aA (RW.region (RL.ag (ah acE rfl eF) (RL.ag (aj acL (hN.aJ 1 rfl)) (RL.ag (v:=vJ q) U (RL.ag (aT acL eh aI (hw.o.now hN)) (RL.ag (bm (m:=q) (b:=0) acG rfl bI aI (hw.o.now hN) bV) (RL.ag (bB (m:=q) (j:=0) (a:=ap) acy aI (hw.o.now hN) bV) (RL.ag (v:=.int .i64 (ap.1)) ai (RL.nil ?_)))))))))
 refine aA (RW.seq ?_)
 have Bs:=zf.len
 have aO:=cQ d2 ((ap.2.1).toNat)
 obtain⟨aa,rG⟩:=aO
 have aO:=cQ d2 ((ap.1).toNat)
 obtain⟨ab,ql⟩:=aO
 have aO:=cQ rk ((ap.2.1).toNat)
 obtain⟨ra,Rs⟩:=aO
 have aO:=cQ rk ((ap.1).toNat)
 obtain⟨rb,UO⟩:=aO
 have Xd:=zf.top (gj 12) (acC rG)
 have Li:=zf.low aa (acC rG)
 have Lm:=sR (r:=12) (by omega) hn
 have Vb:=pg (r:=12) (by omega)
 replace hN:=hN.ext (Ext.drew gR)
 refine RW.bA (fun u=>aH w none_ u [.own vI 3 (v3) (d2),.aJ g1 [rv,wv] 28]) 53 [(0,0),(1,0),(2,0),(3,0),(4,0),(5,0),(6,0),(7,0),(8,0),(9,0),(10,0),(11,0),(12,0),(13,0),(14,0),(15,0),(16,0),(17,0),(18,0),(19,0),(20,0),(21,0),(22,0),(23,0),(24,0),(25,0),(26,0),(27,0),(28,0),(29,0),(30,0),(31,0),(32,0),(33,0),(34,0),(35,0),(36,0),(37,0),(38,0),(39,0),(40,0),(41,0),(42,0),(43,0),(44,0),(45,0),(46,0),(47,0),(48,0),(49,0),(50,0),(51,0),(52,0)] (by intro _ _ _ h;exact h) hN (RQ.an (v:=v3) rfl (fun w hS=>U) (RQ.an (v:=.int .i64 (ap.2.1)) rfl (fun w hS=>U) (RQ.an rfl (fun w hS=>(aC acz bI (hS.sl 0 rfl))) (RQ.an rfl (fun w hS=>(aF (m:=(ap.2.1).toNat) (a:=aa) acy (hS.sl 0 rfl) rG)) (RQ.an rfl (fun w hS=>(ck)) (RQ.an (v:=.bool (decide (0≤aa))) rfl (fun w hS=>U) ?_))))))
 by_cases ux:0≤aa
 rw[decide_eq_true ux]
 refine RQ.aR rfl (fun w hS=>(ah acE rfl cc)) (RQ.aR rfl (fun w hS=>(aj acz (hS.aJ 1 rfl))) (RQ.aR (v:=.int .i64 (ap.2.1)) rfl (fun w hS=>U) (RQ.aR rfl (fun w hS=>(aC acz bI (hr.o.now hS))) (RQ.aR rfl (fun w hS=>(aF (m:=(ap.2.1).toNat) (a:=ra) acy (hr.o.now hS) Rs)) (RQ.aR (v:=.int .i64 (top)) rfl (fun w hS=>U) (RQ.aR rfl (fun w hS=>(aK)) (RQ.an (v:=.bool (decide (ra<top))) rfl (fun w hS=>(al)) (RQ.an (v:=.bool (decide (ra<top))) rfl (fun w hS=>U) ?_))))))))
 by_cases pT:ra<top
 rw[decide_eq_true pT]
 refine RQ.aR rfl (fun w hS=>(ah acE rfl cc)) (RQ.aR rfl (fun w hS=>(aj acz (hS.aJ 1 rfl))) (RQ.aR (v:=.int .i64 (ap.1)) rfl (fun w hS=>U) (RQ.aR rfl (fun w hS=>(aC acz bI (hr.o.now hS))) (RQ.aR rfl (fun w hS=>(aF (m:=(ap.1).toNat) (a:=rb) acy (hr.o.now hS) UO)) (RQ.aR rfl (fun w hS=>(ah acE rfl cc)) (RQ.aR rfl (fun w hS=>(aj acz (hS.aJ 1 rfl))) (RQ.aR (v:=.int .i64 (ap.2.1)) rfl (fun w hS=>U) (RQ.aR rfl (fun w hS=>(aC acz bI (hr.o.now hS))) (RQ.aR rfl (fun w hS=>(aF (m:=(ap.2.1).toNat) (a:=ra) acy (hr.o.now hS) Rs)) ?_)))))))))
 refine RQ.aR rfl (fun w hS=>(cq)) (RQ.an (v:=.bool (decide (ra<rb))) rfl (fun w hS=>(al)) (RQ.an (v:=.bool (decide (ra<rb))) rfl (fun w hS=>U) ?_))
 by_cases pS:ra<rb
 rw[decide_eq_true pS]
 refine RQ.aR (v:=v3) rfl (fun w hS=>U) (RQ.aR (v:=.int .i64 (ap.1)) rfl (fun w hS=>U) (RQ.aR rfl (fun w hS=>(aC acz bI (hS.sl 0 rfl))) (RQ.aR rfl (fun w hS=>(aF (m:=(ap.1).toNat) (a:=ab) acy (hS.sl 0 rfl) ql)) (RQ.aR rfl (fun w hS=>(aK)) (RQ.aR (v:=.bool (decide (ab<0))) rfl (fun w hS=>U) ?_)))))
 by_cases pR:ab<0
 rw[decide_eq_true pR]
 iterate 17 refine RQ.bU rfl ?_
 refine RQ.aR (v:=.bool true) rfl (fun w hS=>(al)) (RQ.an (v:=.bool true) rfl (fun w hS=>(al)) (RQ.bq (aA (RW.bD (RW.seq ?_)))))
 have od:ab<0∨aa+ap.2.2.1<ab:=by first|exact .inl (by assumption)|exact .inr (by assumption)
 replace hN:=hN.ext (Ext.drew gR.drew)
 refine RW.bA (fun u=>aH w none_ u [.own vI 3 (v3) (d2),.aJ g1 [rv,wv] 28]) 15 [(0,0),(1,0),(2,0),(3,0),(4,0),(5,0),(6,0),(7,0),(8,0),(9,0),(10,0),(11,0),(12,0),(13,0),(14,0),(15,2)] (by intro _ _ _ h;exact h) hN (RQ.an (v:=v3) rfl (fun w hS=>U) (RQ.an (v:=.int .i64 (ap.1)) rfl (fun w hS=>U) (RQ.an (v:=v3) rfl (fun w hS=>U) (RQ.an (v:=.int .i64 (ap.2.1)) rfl (fun w hS=>U) (RQ.an rfl (fun w hS=>(aC acz bI (hS.sl 0 rfl))) (RQ.an rfl (fun w hS=>(aF (m:=(ap.2.1).toNat) (a:=aa) acy (hS.sl 0 rfl) rG)) (RQ.an rfl (fun w hS=>(ah acE rfl eF)) (RQ.an rfl (fun w hS=>(aj acL (hS.aJ 1 rfl))) (RQ.an (v:=vJ q) rfl (fun w hS=>U) ?_)))))))))
 refine RQ.an rfl (fun w hS=>(aT acL eh aI (hw.o.now hS))) (RQ.an rfl (fun w hS=>(bm (m:=q) (b:=0) acG rfl cT aI (hw.o.now hS) bV)) (RQ.an rfl (fun w hS=>(bm (m:=q) (b:=2) acN rfl bI aI (hw.o.now hS) bV)) (RQ.an rfl (fun w hS=>(bB (m:=q) (j:=2) (a:=ap) acy aI (hw.o.now hS) bV)) (RQ.an rfl (fun w hS=>(aD rfl rfl rfl (bg (by omega) (by omega)))) (RQ.an rfl (fun w hS=>(aC acz bI (hS.sl 0 rfl))) ?_)))))
 refine RQ.last rfl rfl (cm (m:=(ap.1).toNat) (a:=(aa+ap.2.2.1)) bI hN 0 rfl rfl (by omega) rfl rfl rfl rfl ?_)
 clear hN
 intro lX (hN:aH w none_ lX [_,_])
 refine RZ.dW (aA (RW.region (RL.ag (v:=.bool true) ai (RL.nil (ba (aA (RW.region (RL.ag (v:=vJ q) U (RL.ag (aD rfl rfl rfl (bg (by omega) (by omega))) ?_)))))))))
 refine RL.ag (v:=.int .i64 ((q:Int)+1)) ai (RL.ak ?_)
 have fx:=zf.step (gj 12) rG ql (by assumption) ⟨Re,Rc⟩ od
 exact⟨k2-1,by omega,(d2).set (ap.1).toNat ((aa+ap.2.2.1)),true,q+1,rfl,rfl,rfl,rfl,rfl,rfl,hN,by omega,fx.1,nS SW ql (by omega) od,acU fx.2 (by omega)⟩
 rw[decide_eq_false pR]
 refine RQ.aR (v:=v3) rfl (fun w hS=>U) (RQ.aR (v:=.int .i64 (ap.2.1)) rfl (fun w hS=>U) (RQ.aR rfl (fun w hS=>(aC acz bI (hS.sl 0 rfl))) (RQ.aR rfl (fun w hS=>(aF (m:=(ap.2.1).toNat) (a:=aa) acy (hS.sl 0 rfl) rG)) (RQ.aR rfl (fun w hS=>(ah acE rfl eF)) (RQ.aR rfl (fun w hS=>(aj acL (hS.aJ 1 rfl))) (RQ.aR (v:=vJ q) rfl (fun w hS=>U) (RQ.aR rfl (fun w hS=>(aT acL eh aI (hw.o.now hS))) (RQ.aR rfl (fun w hS=>(bm (m:=q) (b:=0) acG rfl cT aI (hw.o.now hS) bV)) (RQ.aR rfl (fun w hS=>(bm (m:=q) (b:=2) acN rfl bI aI (hw.o.now hS) bV)) ?_)))))))))
 refine RQ.aR rfl (fun w hS=>(bB (m:=q) (j:=2) (a:=ap) acy aI (hw.o.now hS) bV)) (RQ.aR rfl (fun w hS=>(aD rfl rfl rfl (bg (by omega) (by omega)))) (RQ.aR (v:=v3) rfl (fun w hS=>U) (RQ.aR (v:=.int .i64 (ap.1)) rfl (fun w hS=>U) (RQ.aR rfl (fun w hS=>(aC acz bI (hS.sl 0 rfl))) (RQ.aR rfl (fun w hS=>(aF (m:=(ap.1).toNat) (a:=ab) acy (hS.sl 0 rfl) ql)) (RQ.aR rfl (fun w hS=>(aK)) (RQ.aR (v:=.bool (decide (aa+ap.2.2.1<ab))) rfl (fun w hS=>(aB)) (RQ.an (v:=.bool (decide (aa+ap.2.2.1<ab))) rfl (fun w hS=>(al)) (RQ.bq ?_)))))))))
 refine aA ?_
 refine RW.aG _ (fun Jd=>?_) (fun Jd=>?_)
 refine RW.seq ?_
 have od:ab<0∨aa+ap.2.2.1<ab:=by first|exact .inl (by assumption)|exact .inr (by assumption)
 replace hN:=hN.ext (Ext.drew gR.drew)
 refine RW.bA (fun u=>aH w none_ u [.own vI 3 (v3) (d2),.aJ g1 [rv,wv] 28]) 15 [(0,0),(1,0),(2,0),(3,0),(4,0),(5,0),(6,0),(7,0),(8,0),(9,0),(10,0),(11,0),(12,0),(13,0),(14,0),(15,2)] (by intro _ _ _ h;exact h) hN (RQ.an (v:=v3) rfl (fun w hS=>U) (RQ.an (v:=.int .i64 (ap.1)) rfl (fun w hS=>U) (RQ.an (v:=v3) rfl (fun w hS=>U) (RQ.an (v:=.int .i64 (ap.2.1)) rfl (fun w hS=>U) (RQ.an rfl (fun w hS=>(aC acz bI (hS.sl 0 rfl))) (RQ.an rfl (fun w hS=>(aF (m:=(ap.2.1).toNat) (a:=aa) acy (hS.sl 0 rfl) rG)) (RQ.an rfl (fun w hS=>(ah acE rfl eF)) (RQ.an rfl (fun w hS=>(aj acL (hS.aJ 1 rfl))) (RQ.an (v:=vJ q) rfl (fun w hS=>U) ?_)))))))))
 refine RQ.an rfl (fun w hS=>(aT acL eh aI (hw.o.now hS))) (RQ.an rfl (fun w hS=>(bm (m:=q) (b:=0) acG rfl cT aI (hw.o.now hS) bV)) (RQ.an rfl (fun w hS=>(bm (m:=q) (b:=2) acN rfl bI aI (hw.o.now hS) bV)) (RQ.an rfl (fun w hS=>(bB (m:=q) (j:=2) (a:=ap) acy aI (hw.o.now hS) bV)) (RQ.an rfl (fun w hS=>(aD rfl rfl rfl (bg (by omega) (by omega)))) (RQ.an rfl (fun w hS=>(aC acz bI (hS.sl 0 rfl))) ?_)))))
 refine RQ.last rfl rfl (cm (m:=(ap.1).toNat) (a:=(aa+ap.2.2.1)) bI hN 0 rfl rfl (by omega) rfl rfl rfl rfl ?_)
 clear hN
 intro u3 (hN:aH w none_ u3 [_,_])
 refine RZ.dW (aA (RW.region (RL.ag (v:=.bool true) ai (RL.nil (ba (aA (RW.region (RL.ag (v:=vJ q) U (RL.ag (aD rfl rfl rfl (bg (by omega) (by omega))) ?_)))))))))
 refine RL.ag (v:=.int .i64 ((q:Int)+1)) ai (RL.ak ?_)
 have fx:=zf.step (gj 12) rG ql (by assumption) ⟨Re,Rc⟩ od
 exact⟨k2-1,by omega,(d2).set (ap.1).toNat ((aa+ap.2.2.1)),true,q+1,rfl,rfl,rfl,rfl,rfl,rfl,hN,by omega,fx.1,nS SW ql (by omega) od,acU fx.2 (by omega)⟩
 refine RW.skip (ba (aA (RW.region (RL.ag (v:=vJ q) U (RL.ag (aD rfl rfl rfl (bg (by omega) (by omega))) (RL.ag (v:=.int .i64 ((q:Int)+1)) ai (RL.ak ?_)))))))
 exact⟨k2-1,by omega,_,_,q+1,rfl,rfl,rfl,rfl,rfl,rfl,hN,by omega,by omega,by omega,by omega⟩
 rw[decide_eq_false pS]
 iterate 6 refine RQ.bU rfl ?_
 iterate 17 refine RQ.dP rfl ?_
 refine RQ.bU rfl (RQ.an (v:=.bool false) rfl (fun w hS=>(aB)) (RQ.bq (aA (RW.cj (RW.skip (ba (aA (RW.region (RL.ag (v:=vJ q) U ?_)))))))))
 refine RL.ag (aD rfl rfl rfl (bg (by omega) (by omega))) (RL.ag (v:=.int .i64 ((q:Int)+1)) ai (RL.ak ?_))
 exact⟨k2-1,by omega,_,_,q+1,rfl,rfl,rfl,rfl,rfl,rfl,hN,by omega,by omega,by omega,by omega⟩
 rw[decide_eq_false pT]
 iterate 11 refine RQ.bU rfl ?_
 refine RQ.an (v:=.bool false) rfl (fun w hS=>(aB)) (RQ.an (v:=.bool false) rfl (fun w hS=>U) ?_)
 iterate 6 refine RQ.bU rfl ?_
 iterate 17 refine RQ.dP rfl ?_
 refine RQ.bU rfl (RQ.an (v:=.bool false) rfl (fun w hS=>(aB)) (RQ.bq (aA (RW.cj (RW.skip (ba (aA (RW.region (RL.ag (v:=vJ q) U ?_)))))))))
 refine RL.ag (aD rfl rfl rfl (bg (by omega) (by omega))) (RL.ag (v:=.int .i64 ((q:Int)+1)) ai (RL.ak ?_))
 exact⟨k2-1,by omega,_,_,q+1,rfl,rfl,rfl,rfl,rfl,rfl,hN,by omega,by omega,by omega,by omega⟩
 rw[decide_eq_false ux]
 iterate 7 refine RQ.bU rfl ?_
 refine RQ.an (v:=.bool false) rfl (fun w hS=>(aB)) (RQ.an (v:=.bool false) rfl (fun w hS=>U) ?_)
 iterate 11 refine RQ.bU rfl ?_
 refine RQ.an (v:=.bool false) rfl (fun w hS=>(aB)) (RQ.an (v:=.bool false) rfl (fun w hS=>U) ?_)
 iterate 6 refine RQ.bU rfl ?_
 iterate 17 refine RQ.dP rfl ?_
 refine RQ.bU rfl (RQ.an (v:=.bool false) rfl (fun w hS=>(aB)) (RQ.bq (aA (RW.cj (RW.skip (ba (aA (RW.region (RL.ag (v:=vJ q) U ?_)))))))))
 refine RL.ag (aD rfl rfl rfl (bg (by omega) (by omega))) (RL.ag (v:=.int .i64 ((q:Int)+1)) ai (RL.ak ?_))
 exact⟨k2-1,by omega,_,_,q+1,rfl,rfl,rfl,rfl,rfl,rfl,hN,by omega,by omega,by omega,by omega⟩
 refine RW.skip (aA (RW.seq ?_))
 have Bs:=zf.len
 have aO:=cQ d2 ((ap.1).toNat)
 obtain⟨aa,rG⟩:=aO
 have aO:=cQ d2 ((ap.2.1).toNat)
 obtain⟨ab,ql⟩:=aO
 have aO:=cQ rk ((ap.1).toNat)
 obtain⟨ra,Rs⟩:=aO
 have aO:=cQ rk ((ap.2.1).toNat)
 obtain⟨rb,UO⟩:=aO
 have Xd:=zf.top (gj 12) (acC rG)
 have Li:=zf.low aa (acC rG)
 have Lm:=sR (r:=12) (by omega) hn
 have Vb:=pg (r:=12) (by omega)
 replace hN:=hN.ext (Ext.drew gR)
 refine RW.bA (fun u=>aH w none_ u [.own vI 3 (v3) (d2),.aJ g1 [rv,wv] 28]) 53 [(0,0),(1,0),(2,0),(3,0),(4,0),(5,0),(6,0),(7,0),(8,0),(9,0),(10,0),(11,0),(12,0),(13,0),(14,0),(15,0),(16,0),(17,0),(18,0),(19,0),(20,0),(21,0),(22,0),(23,0),(24,0),(25,0),(26,0),(27,0),(28,0),(29,0),(30,0),(31,0),(32,0),(33,0),(34,0),(35,0),(36,0),(37,0),(38,0),(39,0),(40,0),(41,0),(42,0),(43,0),(44,0),(45,0),(46,0),(47,0),(48,0),(49,0),(50,0),(51,0),(52,0)] (by intro _ _ _ h;exact h) hN (RQ.an (v:=v3) rfl (fun w hS=>U) (RQ.an (v:=.int .i64 (ap.1)) rfl (fun w hS=>U) (RQ.an rfl (fun w hS=>(aC acz bI (hS.sl 0 rfl))) (RQ.an rfl (fun w hS=>(aF (m:=(ap.1).toNat) (a:=aa) acy (hS.sl 0 rfl) rG)) (RQ.an rfl (fun w hS=>(ck)) (RQ.an (v:=.bool (decide (0≤aa))) rfl (fun w hS=>U) ?_))))))
 by_cases ux:0≤aa
 rw[decide_eq_true ux]
 refine RQ.aR rfl (fun w hS=>(ah acE rfl cc)) (RQ.aR rfl (fun w hS=>(aj acz (hS.aJ 1 rfl))) (RQ.aR (v:=.int .i64 (ap.1)) rfl (fun w hS=>U) (RQ.aR rfl (fun w hS=>(aC acz bI (hr.o.now hS))) (RQ.aR rfl (fun w hS=>(aF (m:=(ap.1).toNat) (a:=ra) acy (hr.o.now hS) Rs)) (RQ.aR (v:=.int .i64 (top)) rfl (fun w hS=>U) (RQ.aR rfl (fun w hS=>(aK)) (RQ.an (v:=.bool (decide (ra<top))) rfl (fun w hS=>(al)) (RQ.an (v:=.bool (decide (ra<top))) rfl (fun w hS=>U) ?_))))))))
 by_cases pT:ra<top
 rw[decide_eq_true pT]
 refine RQ.aR rfl (fun w hS=>(ah acE rfl cc)) (RQ.aR rfl (fun w hS=>(aj acz (hS.aJ 1 rfl))) (RQ.aR (v:=.int .i64 (ap.2.1)) rfl (fun w hS=>U) (RQ.aR rfl (fun w hS=>(aC acz bI (hr.o.now hS))) (RQ.aR rfl (fun w hS=>(aF (m:=(ap.2.1).toNat) (a:=rb) acy (hr.o.now hS) UO)) (RQ.aR rfl (fun w hS=>(ah acE rfl cc)) (RQ.aR rfl (fun w hS=>(aj acz (hS.aJ 1 rfl))) (RQ.aR (v:=.int .i64 (ap.1)) rfl (fun w hS=>U) (RQ.aR rfl (fun w hS=>(aC acz bI (hr.o.now hS))) (RQ.aR rfl (fun w hS=>(aF (m:=(ap.1).toNat) (a:=ra) acy (hr.o.now hS) Rs)) ?_)))))))))
 refine RQ.aR rfl (fun w hS=>(cq)) (RQ.an (v:=.bool (decide (ra<rb))) rfl (fun w hS=>(al)) (RQ.an (v:=.bool (decide (ra<rb))) rfl (fun w hS=>U) ?_))
 by_cases pS:ra<rb
 rw[decide_eq_true pS]
 refine RQ.aR (v:=v3) rfl (fun w hS=>U) (RQ.aR (v:=.int .i64 (ap.2.1)) rfl (fun w hS=>U) (RQ.aR rfl (fun w hS=>(aC acz bI (hS.sl 0 rfl))) (RQ.aR rfl (fun w hS=>(aF (m:=(ap.2.1).toNat) (a:=ab) acy (hS.sl 0 rfl) ql)) (RQ.aR rfl (fun w hS=>(aK)) (RQ.aR (v:=.bool (decide (ab<0))) rfl (fun w hS=>U) ?_)))))
 by_cases pR:ab<0
 rw[decide_eq_true pR]
 iterate 17 refine RQ.bU rfl ?_
 refine RQ.aR (v:=.bool true) rfl (fun w hS=>(al)) (RQ.an (v:=.bool true) rfl (fun w hS=>(al)) (RQ.bq (aA (RW.bD (RW.seq ?_)))))
 have od:ab<0∨aa+ap.2.2.1<ab:=by first|exact .inl (by assumption)|exact .inr (by assumption)
 replace hN:=hN.ext (Ext.drew gR.drew)
 refine RW.bA (fun u=>aH w none_ u [.own vI 3 (v3) (d2),.aJ g1 [rv,wv] 28]) 15 [(0,0),(1,0),(2,0),(3,0),(4,0),(5,0),(6,0),(7,0),(8,0),(9,0),(10,0),(11,0),(12,0),(13,0),(14,0),(15,2)] (by intro _ _ _ h;exact h) hN (RQ.an (v:=v3) rfl (fun w hS=>U) (RQ.an (v:=.int .i64 (ap.2.1)) rfl (fun w hS=>U) (RQ.an (v:=v3) rfl (fun w hS=>U) (RQ.an (v:=.int .i64 (ap.1)) rfl (fun w hS=>U) (RQ.an rfl (fun w hS=>(aC acz bI (hS.sl 0 rfl))) (RQ.an rfl (fun w hS=>(aF (m:=(ap.1).toNat) (a:=aa) acy (hS.sl 0 rfl) rG)) (RQ.an rfl (fun w hS=>(ah acE rfl eF)) (RQ.an rfl (fun w hS=>(aj acL (hS.aJ 1 rfl))) (RQ.an (v:=vJ q) rfl (fun w hS=>U) ?_)))))))))
 refine RQ.an rfl (fun w hS=>(aT acL eh aI (hw.o.now hS))) (RQ.an rfl (fun w hS=>(bm (m:=q) (b:=0) acG rfl cT aI (hw.o.now hS) bV)) (RQ.an rfl (fun w hS=>(bm (m:=q) (b:=2) acN rfl bI aI (hw.o.now hS) bV)) (RQ.an rfl (fun w hS=>(bB (m:=q) (j:=2) (a:=ap) acy aI (hw.o.now hS) bV)) (RQ.an rfl (fun w hS=>(aD rfl rfl rfl (bg (by omega) (by omega)))) (RQ.an rfl (fun w hS=>(aC acz bI (hS.sl 0 rfl))) ?_)))))
 refine RQ.last rfl rfl (cm (m:=(ap.2.1).toNat) (a:=(aa+ap.2.2.1)) bI hN 0 rfl rfl (by omega) rfl rfl rfl rfl ?_)
 clear hN
 intro Dk (hN:aH w none_ Dk [_,_])
 refine RZ.dW (aA (RW.region (RL.ag (v:=.bool true) ai (RL.nil (ba (aA (RW.region (RL.ag (v:=vJ q) U (RL.ag (aD rfl rfl rfl (bg (by omega) (by omega))) ?_)))))))))
 refine RL.ag (v:=.int .i64 ((q:Int)+1)) ai (RL.ak ?_)
 have fx:=zf.step (gj 12) rG ql (by assumption) ⟨Re,Rc⟩ od
 exact⟨k2-1,by omega,(d2).set (ap.2.1).toNat ((aa+ap.2.2.1)),true,q+1,rfl,rfl,rfl,rfl,rfl,rfl,hN,by omega,fx.1,nS SW ql (by omega) od,acU fx.2 (by omega)⟩
 rw[decide_eq_false pR]
 refine RQ.aR (v:=v3) rfl (fun w hS=>U) (RQ.aR (v:=.int .i64 (ap.1)) rfl (fun w hS=>U) (RQ.aR rfl (fun w hS=>(aC acz bI (hS.sl 0 rfl))) (RQ.aR rfl (fun w hS=>(aF (m:=(ap.1).toNat) (a:=aa) acy (hS.sl 0 rfl) rG)) (RQ.aR rfl (fun w hS=>(ah acE rfl eF)) (RQ.aR rfl (fun w hS=>(aj acL (hS.aJ 1 rfl))) (RQ.aR (v:=vJ q) rfl (fun w hS=>U) (RQ.aR rfl (fun w hS=>(aT acL eh aI (hw.o.now hS))) (RQ.aR rfl (fun w hS=>(bm (m:=q) (b:=0) acG rfl cT aI (hw.o.now hS) bV)) (RQ.aR rfl (fun w hS=>(bm (m:=q) (b:=2) acN rfl bI aI (hw.o.now hS) bV)) ?_)))))))))
 refine RQ.aR rfl (fun w hS=>(bB (m:=q) (j:=2) (a:=ap) acy aI (hw.o.now hS) bV)) (RQ.aR rfl (fun w hS=>(aD rfl rfl rfl (bg (by omega) (by omega)))) (RQ.aR (v:=v3) rfl (fun w hS=>U) (RQ.aR (v:=.int .i64 (ap.2.1)) rfl (fun w hS=>U) (RQ.aR rfl (fun w hS=>(aC acz bI (hS.sl 0 rfl))) (RQ.aR rfl (fun w hS=>(aF (m:=(ap.2.1).toNat) (a:=ab) acy (hS.sl 0 rfl) ql)) (RQ.aR rfl (fun w hS=>(aK)) (RQ.aR (v:=.bool (decide (aa+ap.2.2.1<ab))) rfl (fun w hS=>(aB)) (RQ.an (v:=.bool (decide (aa+ap.2.2.1<ab))) rfl (fun w hS=>(al)) (RQ.bq ?_)))))))))
 refine aA ?_
 refine RW.aG _ (fun Jd=>?_) (fun Jd=>?_)
 refine RW.seq ?_
 have od:ab<0∨aa+ap.2.2.1<ab:=by first|exact .inl (by assumption)|exact .inr (by assumption)
 replace hN:=hN.ext (Ext.drew gR.drew)
 refine RW.bA (fun u=>aH w none_ u [.own vI 3 (v3) (d2),.aJ g1 [rv,wv] 28]) 15 [(0,0),(1,0),(2,0),(3,0),(4,0),(5,0),(6,0),(7,0),(8,0),(9,0),(10,0),(11,0),(12,0),(13,0),(14,0),(15,2)] (by intro _ _ _ h;exact h) hN (RQ.an (v:=v3) rfl (fun w hS=>U) (RQ.an (v:=.int .i64 (ap.2.1)) rfl (fun w hS=>U) (RQ.an (v:=v3) rfl (fun w hS=>U) (RQ.an (v:=.int .i64 (ap.1)) rfl (fun w hS=>U) (RQ.an rfl (fun w hS=>(aC acz bI (hS.sl 0 rfl))) (RQ.an rfl (fun w hS=>(aF (m:=(ap.1).toNat) (a:=aa) acy (hS.sl 0 rfl) rG)) (RQ.an rfl (fun w hS=>(ah acE rfl eF)) (RQ.an rfl (fun w hS=>(aj acL (hS.aJ 1 rfl))) (RQ.an (v:=vJ q) rfl (fun w hS=>U) ?_)))))))))
 refine RQ.an rfl (fun w hS=>(aT acL eh aI (hw.o.now hS))) (RQ.an rfl (fun w hS=>(bm (m:=q) (b:=0) acG rfl cT aI (hw.o.now hS) bV)) (RQ.an rfl (fun w hS=>(bm (m:=q) (b:=2) acN rfl bI aI (hw.o.now hS) bV)) (RQ.an rfl (fun w hS=>(bB (m:=q) (j:=2) (a:=ap) acy aI (hw.o.now hS) bV)) (RQ.an rfl (fun w hS=>(aD rfl rfl rfl (bg (by omega) (by omega)))) (RQ.an rfl (fun w hS=>(aC acz bI (hS.sl 0 rfl))) ?_)))))
 refine RQ.last rfl rfl (cm (m:=(ap.2.1).toNat) (a:=(aa+ap.2.2.1)) bI hN 0 rfl rfl (by omega) rfl rfl rfl rfl ?_)
 clear hN
 intro Eb (hN:aH w none_ Eb [_,_])
 refine RZ.dW (aA (RW.region (RL.ag (v:=.bool true) ai (RL.nil (ba (aA (RW.region (RL.ag (v:=vJ q) U (RL.ag (aD rfl rfl rfl (bg (by omega) (by omega))) ?_)))))))))
 refine RL.ag (v:=.int .i64 ((q:Int)+1)) ai (RL.ak ?_)
 have fx:=zf.step (gj 12) rG ql (by assumption) ⟨Re,Rc⟩ od
 exact⟨k2-1,by omega,(d2).set (ap.2.1).toNat ((aa+ap.2.2.1)),true,q+1,rfl,rfl,rfl,rfl,rfl,rfl,hN,by omega,fx.1,nS SW ql (by omega) od,acU fx.2 (by omega)⟩
 refine RW.skip (ba (aA (RW.region (RL.ag (v:=vJ q) U (RL.ag (aD rfl rfl rfl (bg (by omega) (by omega))) (RL.ag (v:=.int .i64 ((q:Int)+1)) ai (RL.ak ?_)))))))
 exact⟨k2-1,by omega,_,_,q+1,rfl,rfl,rfl,rfl,rfl,rfl,hN,by omega,by omega,by omega,by omega⟩
 rw[decide_eq_false pS]
 iterate 6 refine RQ.bU rfl ?_
 iterate 17 refine RQ.dP rfl ?_
 refine RQ.bU rfl (RQ.an (v:=.bool false) rfl (fun w hS=>(aB)) (RQ.bq (aA (RW.cj (RW.skip (ba (aA (RW.region (RL.ag (v:=vJ q) U ?_)))))))))
 refine RL.ag (aD rfl rfl rfl (bg (by omega) (by omega))) (RL.ag (v:=.int .i64 ((q:Int)+1)) ai (RL.ak ?_))
 exact⟨k2-1,by omega,_,_,q+1,rfl,rfl,rfl,rfl,rfl,rfl,hN,by omega,by omega,by omega,by omega⟩
 rw[decide_eq_false pT]
 iterate 11 refine RQ.bU rfl ?_
 refine RQ.an (v:=.bool false) rfl (fun w hS=>(aB)) (RQ.an (v:=.bool false) rfl (fun w hS=>U) ?_)
 iterate 6 refine RQ.bU rfl ?_
 iterate 17 refine RQ.dP rfl ?_
 refine RQ.bU rfl (RQ.an (v:=.bool false) rfl (fun w hS=>(aB)) (RQ.bq (aA (RW.cj (RW.skip (ba (aA (RW.region (RL.ag (v:=vJ q) U ?_)))))))))
 refine RL.ag (aD rfl rfl rfl (bg (by omega) (by omega))) (RL.ag (v:=.int .i64 ((q:Int)+1)) ai (RL.ak ?_))
 exact⟨k2-1,by omega,_,_,q+1,rfl,rfl,rfl,rfl,rfl,rfl,hN,by omega,by omega,by omega,by omega⟩
 rw[decide_eq_false ux]
 iterate 7 refine RQ.bU rfl ?_
 refine RQ.an (v:=.bool false) rfl (fun w hS=>(aB)) (RQ.an (v:=.bool false) rfl (fun w hS=>U) ?_)
 iterate 11 refine RQ.bU rfl ?_
 refine RQ.an (v:=.bool false) rfl (fun w hS=>(aB)) (RQ.an (v:=.bool false) rfl (fun w hS=>U) ?_)
 iterate 6 refine RQ.bU rfl ?_
 iterate 17 refine RQ.dP rfl ?_
 refine RQ.bU rfl (RQ.an (v:=.bool false) rfl (fun w hS=>(aB)) (RQ.bq (aA (RW.cj (RW.skip (ba (aA (RW.region (RL.ag (v:=vJ q) U ?_)))))))))
 refine RL.ag (aD rfl rfl rfl (bg (by omega) (by omega))) (RL.ag (v:=.int .i64 ((q:Int)+1)) ai (RL.ak ?_))
 exact⟨k2-1,by omega,_,_,q+1,rfl,rfl,rfl,rfl,rfl,rfl,hN,by omega,by omega,by omega,by omega⟩
 refine RW.exit ?_
 iterate 2 refine bP ?_
 refine aY (ba (aA ?_))
 exact⟨2*B5 ((n:Int)*iU 12).toNat d2+m2.toNat,by subst hm;have:(true:Bool).toNat=1:=rfl;omega,d2,m2,rfl,rfl,rfl,rfl,rfl,hN,rfl,zf,SW⟩
 refine RW.exit ?_
 iterate 2 refine bP ?_
 refine aY (aA (RW.aN (RL.ag (v:=v3) U (RL.ag (v:=v3) ai (RL.ak (RW.ret (bc (RV.tmp rfl) ?_)))))))
 exact⟨d1,hN.ft 0 rfl,hD,hZ,hN.aX⟩
theorem tm (rv wv:Value) (rk:List Int) (ways:List I5) (dv:Value) (d:List Int) (lo hi:Int) (w:World) (hr:Sl vI w rv rk) (hd:Sl vI w dv d) (hlen:d.length=rk.length) (hn:d.length≤4096):aM acD 189 #[.agg #[rv,wv],dv,.int .i64 lo,.int .i64 hi] w fun r w'=>fK bG 2 135 w' w.heap.size r (rowsOf rk d lo hi d.length)∧Ext w w':=by
 refine aM.aZ aiy ?_
 rw[kE]
 have hN:=aH.nil w none_
 refine RW.aN ?_
 refine RL.aL (bJ (cs:=[rv,wv]) rfl rfl hN ?_)
 clear hN
 intro g1 w1 (hN:aH w none_ w1 [_])
 refine RL.ag (v:=vN) ai (RL.bY (RL.ag (v:=vN) ai (RL.ak ?_)))
 iterate 2 refine RW.seq ?_
 refine RW.region (RL.ag (v:=.int .i64 (0)) ai (RL.ak (RW.block ?_)))
 replace hN:=hN.ew bG 2 135
 refine RW.loop (fun k R0 cv=>∃va:Value,∃acc:List I2,∃i:Nat,R0 1=dv∧R0 2=.int .i64 (lo)∧R0 3=.int .i64 (hi)∧R0 4=vP g1∧R0 9=va∧R0 10=vJ i∧aH w none_ cv [.cd bG 2 135 (va) (acc),.aJ g1 [rv,wv] 28]∧(i+k=d.length)∧(acc=rowsOf rk d lo hi i)∧(acc.length≤i)) (d.length) ?_ ?_
 exact⟨vN,[],0,rfl,rfl,rfl,rfl,rfl,rfl,hN,by omega,rfl,ac8 _⟩
 clear hN
 rintro k R0 cv ⟨va,acc,i,bN,bQ,cb,cu,dN,db,hN,fP,ha,im⟩
 have cz:=oK bN bQ cb cu dN db
 obtain⟨fV,rfl⟩:=cz
 clear bN bQ cb cu dN db
 iterate 2 refine RW.seq ?_
 refine RW.region (RL.ag (v:=vJ i) U (RL.ag (v:=dv) U ?_))
 have kH:=(hd.o.now hN).bw
 refine RL.ag (aQ acz (hd.o.now hN)) (RL.ag (aK) (RL.ak ?_))
 refine RW.aG _ (fun cD=>?_) (fun cD=>?_)
 refine RW.skip (aA (RW.seq (RW.block (RW.seq ?_))))
 have aO:=cQ d i
 obtain⟨ax,hx⟩:=aO
 have aO:=cQ rk i
 obtain⟨q,hq⟩:=aO
 by_cases MM:0≤ax∧lo≤q∧q<hi
 refine RW.region (RL.ag (v:=dv) U (RL.ag (v:=vJ i) U (RL.ag (aC acz bI (hd.o.now hN)) (RL.ag (aF (m:=i) (a:=ax) acy (hd.o.now hN) hx) (RL.ag (dB (ck) MM.1) (RL.ag (v:=.bool true) U (RL.aw (ah acE rfl cc) (RL.aw (aj acz (hN.aJ 1 rfl)) (RL.aw (v:=vJ i) U ?_)))))))))
 refine RL.aw (aC acz bI (hr.o.now hN)) (RL.aw (aF (m:=i) (a:=q) acy (hr.o.now hN) hq) (RL.aw (v:=.int .i64 (lo)) U (RL.aw (dB (ck) MM.2.1) (RL.ag (v:=.bool true) (al) (RL.ag (v:=.bool true) U (RL.aw (ah acE rfl cc) (RL.aw (aj acz (hN.aJ 1 rfl)) (RL.aw (v:=vJ i) U (RL.aw (aC acz bI (hr.o.now hN)) ?_)))))))))
 refine RL.aw (aF (m:=i) (a:=q) acy (hr.o.now hN) hq) (RL.aw (v:=.int .i64 (hi)) U (RL.aw (dB (aK) MM.2.2) (RL.ag (v:=.bool true) (al) (RL.ak (RW.bD (RW.region (RL.ag (v:=va) U (RL.ag (v:=vJ i) U ?_))))))))
 refine RL.ag (v:=dv) U (RL.ag (v:=vJ i) U (RL.ag (aC acz bI (hd.o.now hN)) (RL.ag (aF (m:=i) (a:=ax) acy (hd.o.now hN) hx) (RL.ag (bR (cs:=[vJ i,.int .i64 (ax)]) acY pc (places:=#[(0,1),(1,1)]) (by intro w;kernel_rfl) (pl:=[(0,.tmp 41),(1,.tmp 45)]) rfl (ps:=[(0,vJ i),(1,.int .i64 (ax))]) rfl (zc:=[.int .i64 (0),.int .i64 (0)]) rfl (aP (vs:=[vJ i]) rfl rfl (acA rfl) (aP (vs:=[.int .i64 (ax)]) rfl rfl (acA rfl) rfl))) ?_))))
 refine RL.aL (dn (cf:=bG) (s:=2) (pl:=[(0,.tmp 46)]) (ps:=[(0,.agg #[vJ i,.int .i64 (ax)])]) (zc:=[.int .i64 (0),.int .i64 (0)]) (l:=[((i:Int),ax)]) ac1 qF (by kernel_rfl) rfl rfl (aP (vs:=[vJ i,.int .i64 (ax)]) rfl rfl (acA rfl) rfl) bp rfl (by decide) (by decide) (by decide) hN ?_)
 clear hN
 intro g8 w8 (hN:aH w none_ w8 [_,_,_])
 refine RL.aL (cp ac1 qF rfl (by decide) nC bp hN 1 rfl rfl (hN.sm 0 rfl) rfl (by(try simp only[acB,acH,acK,acS]);omega) (by decide) ?_)
 clear hN
 intro v9 w9 (hN:aH w none_ w9 [_,_,_])
 refine RL.ag (v:=v9) ai (RL.nil (ba (aA (RW.region (RL.ag (v:=vJ i) U (RL.ag (aD rfl rfl rfl (bg (by omega) (by omega))) (RL.ag (v:=.int .i64 ((i:Int)+1)) ai (RL.ak ?_))))))))
 exact⟨k-1,by omega,v9,acc++[((i:Int),ax)],i+1,rfl,rfl,rfl,rfl,rfl,rfl,(hN.sb [1,2]),by omega,by rw[iN,show iB rk d lo hi i=[((i:Int),ax)]from by unfold iB;rw[hx,hq];exact if_pos MM];rw[ha],by(try simp only[acB,acH]);omega⟩
 refine RW.region (RL.ag (v:=dv) U (RL.ag (v:=vJ i) U (RL.ag (aC acz bI (hd.o.now hN)) (RL.ag (aF (m:=i) (a:=ax) acy (hd.o.now hN) hx) (RL.ag (ck) (RL.ag (v:=.bool (decide (0≤ax))) U ?_))))))
 by_cases IF:0≤ax
 rw[decide_eq_true IF]
 refine RL.aw (ah acE rfl cc) (RL.aw (aj acz (hN.aJ 1 rfl)) (RL.aw (v:=vJ i) U (RL.aw (aC acz bI (hr.o.now hN)) (RL.aw (aF (m:=i) (a:=q) acy (hr.o.now hN) hq) (RL.aw (v:=.int .i64 (lo)) U (RL.aw (ck) (RL.ag (v:=.bool (decide (lo≤q))) (al) (RL.ag (v:=.bool (decide (lo≤q))) U ?_))))))))
 by_cases CM:lo≤q
 rw[decide_eq_true CM]
 refine RL.aw (ah acE rfl cc) (RL.aw (aj acz (hN.aJ 1 rfl)) (RL.aw (v:=vJ i) U (RL.aw (aC acz bI (hr.o.now hN)) (RL.aw (aF (m:=i) (a:=q) acy (hr.o.now hN) hq) (RL.aw (v:=.int .i64 (hi)) U (RL.aw (cG (aK) (fun h=>MM ⟨IF,CM,h⟩)) (RL.ag (v:=.bool false) (al) (RL.ak ?_))))))))
 refine RW.cj (RW.skip (ba (aA (RW.region (RL.ag (v:=vJ i) U (RL.ag (aD rfl rfl rfl (bg (by omega) (by omega))) (RL.ag (v:=.int .i64 ((i:Int)+1)) ai (RL.ak ?_))))))))
 exact⟨k-1,by omega,va,acc,i+1,rfl,rfl,rfl,rfl,rfl,rfl,hN,by omega,by rw[iN,show iB rk d lo hi i=[]from by unfold iB;rw[hx,hq];exact if_neg MM];rw[adw];exact ha,by omega⟩
 rw[decide_eq_false CM]
 iterate 7 refine RL.bH ?_
 refine RL.ag (v:=.bool false) (aB) (RL.ak (RW.cj (RW.skip (ba (aA (RW.region (RL.ag (v:=vJ i) U (RL.ag (aD rfl rfl rfl (bg (by omega) (by omega))) ?_))))))))
 refine RL.ag (v:=.int .i64 ((i:Int)+1)) ai (RL.ak ?_)
 exact⟨k-1,by omega,va,acc,i+1,rfl,rfl,rfl,rfl,rfl,rfl,hN,by omega,by rw[iN,show iB rk d lo hi i=[]from by unfold iB;rw[hx,hq];exact if_neg MM];rw[adw];exact ha,by omega⟩
 rw[decide_eq_false IF]
 iterate 7 refine RL.bH ?_
 refine RL.ag (v:=.bool false) (aB) (RL.ag (v:=.bool false) U ?_)
 iterate 7 refine RL.bH ?_
 refine RL.ag (v:=.bool false) (aB) (RL.ak (RW.cj (RW.skip (ba (aA (RW.region (RL.ag (v:=vJ i) U (RL.ag (aD rfl rfl rfl (bg (by omega) (by omega))) ?_))))))))
 refine RL.ag (v:=.int .i64 ((i:Int)+1)) ai (RL.ak ?_)
 exact⟨k-1,by omega,va,acc,i+1,rfl,rfl,rfl,rfl,rfl,rfl,hN,by omega,by rw[iN,show iB rk d lo hi i=[]from by unfold iB;rw[hx,hq];exact if_neg MM];rw[adw];exact ha,by omega⟩
 refine RW.exit ?_
 iterate 2 refine bP ?_
 refine aY (aA (RW.aN (RL.ag (v:=va) U (RL.ag (v:=va) ai (RL.ak (RW.ret (bc (RV.tmp rfl) ?_)))))))
 have ic:i=d.length:=by omega
 subst ic
 subst ha
 exact⟨hN.fL 0 rfl,hN.aX⟩
end Go.Proofs.YtngkdkbpgoddlaaGreat
namespace Go.Proofs.YtngkdkbpgoddlaaGreat
open Go.RowKit Go.Rl
open Go.Gr
theorem rM (n:Nat) (rv wv:Value) (rk:List Int) (ways:List I5) (w:World) (hr:Sl vI w rv rk) (hw:Sm aV w wv ways) (hH:De n rk ways) (v:Int) (bk:Bool) (hn:n≤12) (u5:0≤v) (uc:v<n):aM acD 217 #[.agg #[rv,wv],.int .i64 v,.bool (decide (bk=true))] w fun r w'=>∃out,fK bG 2 135 w' w.heap.size r out∧Bl n out∧(v,0)∈out∧out.length≤n∧Ext w w':=by
 refine aM.aZ aiz ?_
 rw[iu]
 have hN:=aH.nil w none_
 have ui:=hH.len
 refine RW.aN ?_
 refine RL.aL (bJ (cs:=[rv,wv]) rfl rfl hN ?_)
 clear hN
 intro g1 w1 (hN:aH w none_ w1 [_])
 refine RL.ag (v:=vN) ai (RL.bY (RL.ag (ah acE rfl cc) (RL.ag (aj acz (hN.aJ 0 rfl)) ?_)))
 have iH:=(hr.o.now hN).bw
 refine RL.ag (aQ acz (hr.o.now hN)) (RL.ag (v:=.int .i64 ((rk.length:Int))) ai (RL.ak (RW.seq ?_)))
 replace hN:=hN.ext (Ext.drew w1)
 refine RW.bA (fun u=>aH w none_ u [.aJ g1 [rv,wv] 28]) 9 [(0,0),(1,0),(2,0),(3,0),(4,0),(6,0),(5,1),(7,1),(8,0)] (by intro _ _ _ h;exact h) hN ?_
 iterate 2 refine RQ.an rfl (fun w hS=>(aE (cs:=[rv,wv]) acE dq (hS.aJ 0 rfl))) ?_
 refine RQ.an (v:=.int .i64 (v)) rfl (fun w hS=>U) (RQ.an (v:=.int .i64 ((rk.length:Int))) rfl (fun w hS=>U) (RQ.an (v:=.bool (decide (bk=true))) rfl (fun w hS=>U) (RQ.an (v:=.int .i64 ((rk.length:Int))) rfl (fun w hS=>U) ?_)))
 refine RQ.bW rfl (dH ahg rfl rfl rfl rfl rfl rfl ((nO n _ _ rk ways _ (hr.o.now hN) (hw.o.now hN) hH v (rk.length:Int) bk hn u5 uc).mono ?_))
 rintro v3 w3 ⟨d3,cL,TQ,Yf,bl⟩
 replace hN:aH w none_ w3 [_,_]:=hN.cl cL bl
 clear cL bl
 have SI:=TQ.len
 refine⟨(hN.sb [1]),?_⟩
 refine RQ.bW rfl (dH aiy rfl rfl rfl rfl rfl rfl ((tm _ _ rk ways _ d3 0 (rk.length:Int) _ (hr.o.now hN) (hN.sl 0 rfl) (by have:=hH.len;omega) (by omega)).mono ?_))
 rintro v4 w4 ⟨cL,bl⟩
 replace hN:aH w none_ w4 [_,_,_]:=hN.fw cL bl
 clear cL bl
 refine⟨(hN.sb [2]),?_⟩
 refine RQ.an (v:=v4) rfl (fun w hS=>ai) (RQ.bq (aA (RW.ret (bc (RV.tmp rfl) ?_))))
 exact⟨_,hN.fL 0 rfl,Ds TQ hn,Ew hH SI u5 uc Yf,by have:=tn rk d3 0 (rk.length:Int) d3.length;omega,hN.aX⟩
theorem Cj (n:Nat) (av bv:Value) (a b:List I2) (w:World) (ha:Sm bG w av a) (hb:Sm bG w bv b) (hA:Bl n a) (hB:Bl n b) (im:a.length≤4096) (Qo:b.length≤4096):aM acD 216 #[av,bv] w fun r w'=>∃z y i,r=.tuple #[.int .i64 z,.int .i64 y]∧((y= -1∧z= -1)∨(0≤y∧0≤z∧z≤211106232532992))∧gU a b i 0 z y∧a.length≤i∧Ext w w':=by
 refine aM.aZ akj ?_
 rw[cS]
 have hN:=aH.nil w none_
 refine RW.aN ?_
 iterate 2 refine RL.ag (v:=.int .i64 (0)) ai ?_
 refine RL.bY (RL.ag (v:=.int .i64 (-1)) ai (RL.ak (RW.aN (RL.ag (v:=.int .i64 (-1)) ai ?_))))
 refine RL.ak ?_
 iterate 2 refine RW.seq ?_
 refine RW.region (RL.ag (v:=.int .i64 (0)) ai (RL.ak (RW.block ?_)))
 refine RW.loop (fun k R0 cv=>∃z:Int,∃y:Int,∃i:Nat,R0 0=av∧R0 1=bv∧R0 6=.int .i64 (z)∧R0 7=.int .i64 (y)∧R0 8=vJ i∧aH w none_ cv []∧(i+k=a.length)∧((y= -1∧z= -1)∨(0≤y∧0≤z∧z≤211106232532992))∧(gU a b i 0 z y)) (a.length) ?_ ?_
 exact⟨-1,-1,0,rfl,rfl,rfl,rfl,rfl,hN,by omega,.inl ⟨rfl,rfl⟩,fun i1 k1 e f _ _ _ h=>absurd h (by omega)⟩
 clear hN
 rintro k R0 cv ⟨z,y,i,cF,bN,cV,cC,cM,hN,fP,hz,hm⟩
 have cz:=hC cF bN cV cC cM
 obtain⟨fV,rfl⟩:=cz
 clear cF bN cV cC cM
 iterate 2 refine RW.seq ?_
 refine RW.region (RL.ag (v:=vJ i) U (RL.ag (v:=av) U ?_))
 have nJ:=(ha.o.now hN).bw
 refine RL.ag (bO ac1 (ha.o.now hN)) (RL.ag (aK) (RL.ak ?_))
 refine RW.aG _ (fun cD=>?_) (fun cD=>?_)
 refine RW.skip (aA (RW.seq (RW.block (RW.aN (RL.ag (v:=.int .i64 (0)) ai (RL.ak (RW.block ?_)))))))
 refine RW.loop (fun k2 R1 ez=>∃z2:Int,∃y2:Int,∃q:Nat,R1 0=av∧R1 1=bv∧R1 6=.int .i64 (z2)∧R1 7=.int .i64 (y2)∧R1 8=vJ i∧R1 9=vJ q∧aH w none_ ez []∧(q+k2=b.length)∧((y2= -1∧z2= -1)∨(0≤y2∧0≤z2∧z2≤211106232532992))∧(gU a b i q z2 y2)) (b.length) ?_ ?_
 exact⟨z,y,0,rfl,rfl,rfl,rfl,rfl,rfl,hN,by omega,hz,hm⟩
 clear hN
 rintro k2 R1 ez ⟨z2,y2,q,cF,bN,cV,cC,cM,dN,hN,yl,Qd,Az⟩
 have cz:=oK cF bN cV cC cM dN
 obtain⟨re,rfl⟩:=cz
 clear cF bN cV cC cM dN
 iterate 2 refine RW.seq ?_
 refine RW.region (RL.ag (v:=vJ q) U (RL.ag (v:=bv) U ?_))
 have iH:=(hb.o.now hN).bw
 refine RL.ag (bO ac1 (hb.o.now hN)) (RL.ag (aK) (RL.ak ?_))
 refine RW.aG _ (fun ep=>?_) (fun ep=>?_)
 refine RW.skip (aA (RW.seq (RW.block (RW.seq ?_))))
 replace hN:=hN.ext (Ext.drew ez)
 refine RW.bA (fun u=>aH w none_ u []) 54 [(0,0),(1,0),(2,0),(3,0),(4,0),(5,0),(6,0),(7,0),(8,0),(9,0),(10,0),(11,0),(12,0),(13,0),(14,0),(15,0),(16,0),(17,0),(18,0),(19,0),(20,0),(21,0),(22,0),(23,0),(24,0),(25,0),(26,0),(27,0),(28,0),(29,0),(30,0),(31,0),(32,0),(33,0),(34,0),(35,0),(36,0),(37,0),(38,0),(39,0),(40,0),(41,0),(42,0),(43,0),(44,0),(45,0),(46,0),(47,0),(48,0),(49,0),(50,0),(51,0),(52,0),(53,0)] (by intro _ _ _ h;exact h) hN (RQ.an (v:=av) rfl (fun w hS=>U) (RQ.an (v:=vJ i) rfl (fun w hS=>U) (RQ.an rfl (fun w hS=>(aT ac1 dY bp (ha.o.now hS))) ?_)))
 have aO:=cQ (a) i
 obtain⟨ap,bV⟩:=aO
 refine RQ.an rfl (fun w hS=>(bm (m:=i) (b:=0) acY rfl bI bp (ha.o.now hS) bV)) ?_
 have aO:=hA ap (acC bV)
 obtain⟨XN,XM,hp3,hp4⟩:=aO
 refine RQ.an rfl (fun w hS=>(bB (m:=i) (j:=0) (a:=ap) acy bp (ha.o.now hS) bV)) (RQ.an (v:=bv) rfl (fun w hS=>U) (RQ.an (v:=vJ q) rfl (fun w hS=>U) (RQ.an rfl (fun w hS=>(aT ac1 dY bp (hb.o.now hS))) ?_)))
 have aO:=cQ (b) q
 obtain⟨ar,jS⟩:=aO
 refine RQ.an rfl (fun w hS=>(bm (m:=q) (b:=0) acY rfl bI bp (hb.o.now hS) jS)) ?_
 have aO:=hB ar (acC jS)
 obtain⟨pN,Aw,hr3,hr4⟩:=aO
 refine RQ.an rfl (fun w hS=>(bB (m:=q) (j:=0) (a:=ar) acy bp (hb.o.now hS) jS)) (RQ.an rfl (fun w hS=>(ca)) (RQ.an (v:=.bool (decide (ap.1=ar.1))) rfl (fun w hS=>U) ?_))
 by_cases Ix:ap.1=ar.1
 rw[decide_eq_true Ix]
 refine RQ.aR (v:=.int .i64 (y2)) rfl (fun w hS=>U) (RQ.aR rfl (fun w hS=>(aK)) (RQ.aR (v:=.bool (decide (y2<0))) rfl (fun w hS=>U) ?_))
 by_cases Iw:y2<0
 rw[decide_eq_true Iw]
 iterate 13 refine RQ.bU rfl ?_
 refine RQ.aR (v:=.bool true) rfl (fun w hS=>(al)) (RQ.aR (v:=.bool true) rfl (fun w hS=>U) ?_)
 iterate 14 refine RQ.bU rfl ?_
 iterate 7 refine RQ.dP rfl ?_
 refine RQ.bU rfl (RQ.aR (v:=.bool true) rfl (fun w hS=>(al)) (RQ.an (v:=.bool true) rfl (fun w hS=>(al)) (RQ.bq (aA (RW.bD (RW.seq ?_))))))
 replace hN:=hN.ext (Ext.drew ez.drew)
 refine RW.bA (fun u=>aH w none_ u []) 12 [(0,0),(1,0),(2,0),(3,0),(4,0),(5,0),(6,0),(7,0),(8,0),(9,0),(10,0),(11,0)] (by intro _ _ _ h;exact h) hN (RQ.an (v:=av) rfl (fun w hS=>U) (RQ.an (v:=vJ i) rfl (fun w hS=>U) (RQ.an rfl (fun w hS=>(aT ac1 dY bp (ha.o.now hS))) (RQ.an rfl (fun w hS=>(bm (m:=i) (b:=0) acY rfl bI bp (ha.o.now hS) bV)) (RQ.an rfl (fun w hS=>(bB (m:=i) (j:=1) (a:=ap) acy bp (ha.o.now hS) bV)) (RQ.an (v:=bv) rfl (fun w hS=>U) (RQ.an (v:=vJ q) rfl (fun w hS=>U) (RQ.an rfl (fun w hS=>(aT ac1 dY bp (hb.o.now hS))) (RQ.an rfl (fun w hS=>(bm (m:=q) (b:=0) acY rfl bI bp (hb.o.now hS) jS)) ?_)))))))))
 refine RQ.an rfl (fun w hS=>(bB (m:=q) (j:=1) (a:=ar) acy bp (hb.o.now hS) jS)) (RQ.an rfl (fun w hS=>(aD rfl rfl rfl (bg (by omega) (by omega)))) (RQ.an (v:=.int .i64 (ap.2+ar.2)) rfl (fun w hS=>ai) (RQ.bq (aA (RW.region (RL.ag (v:=av) U (RL.ag (v:=vJ i) U (RL.ag (aT ac1 dY bp (ha.o.now hN)) (RL.ag (bm (m:=i) (b:=0) acY rfl bI bp (ha.o.now hN) bV) ?_)))))))))
 refine RL.ag (bB (m:=i) (j:=0) (a:=ap) acy bp (ha.o.now hN) bV) (RL.ag (v:=.int .i64 (ap.1)) ai (RL.nil (ba (aA (RW.region (RL.ag (v:=vJ q) U (RL.ag (aD rfl rfl rfl (bg (by omega) (by omega))) (RL.ag (v:=.int .i64 ((q:Int)+1)) ai (RL.nil ?_)))))))))
 refine aA ?_
 exact⟨k2-1,by omega,ap.2+ar.2,ap.1,q+1,rfl,rfl,rfl,rfl,rfl,rfl,hN,by omega,.inr ⟨by omega,by omega,by omega⟩,Az.dm bV jS (by omega) (by first|exact .inl (by assumption)|exact .inr (by omega))⟩
 rw[decide_eq_false Iw]
 refine RQ.aR (v:=av) rfl (fun w hS=>U) (RQ.aR (v:=vJ i) rfl (fun w hS=>U) (RQ.aR rfl (fun w hS=>(aT ac1 dY bp (ha.o.now hS))) (RQ.aR rfl (fun w hS=>(bm (m:=i) (b:=0) acY rfl bI bp (ha.o.now hS) bV)) (RQ.aR rfl (fun w hS=>(bB (m:=i) (j:=1) (a:=ap) acy bp (ha.o.now hS) bV)) (RQ.aR (v:=bv) rfl (fun w hS=>U) (RQ.aR (v:=vJ q) rfl (fun w hS=>U) (RQ.aR rfl (fun w hS=>(aT ac1 dY bp (hb.o.now hS))) (RQ.aR rfl (fun w hS=>(bm (m:=q) (b:=0) acY rfl bI bp (hb.o.now hS) jS)) (RQ.aR rfl (fun w hS=>(bB (m:=q) (j:=1) (a:=ar) acy bp (hb.o.now hS) jS)) ?_)))))))))
 refine RQ.aR rfl (fun w hS=>(aD rfl rfl rfl (bg (by omega) (by omega)))) (RQ.aR (v:=.int .i64 (z2)) rfl (fun w hS=>U) (RQ.aR rfl (fun w hS=>(aK)) (RQ.aR (v:=.bool (decide (ap.2+ar.2<z2))) rfl (fun w hS=>(aB)) (RQ.aR (v:=.bool (decide (ap.2+ar.2<z2))) rfl (fun w hS=>U) ?_))))
 by_cases Is:ap.2+ar.2<z2
 rw[decide_eq_true Is]
 iterate 14 refine RQ.bU rfl ?_
 iterate 7 refine RQ.dP rfl ?_
 refine RQ.bU rfl (RQ.aR (v:=.bool true) rfl (fun w hS=>(al)) (RQ.an (v:=.bool true) rfl (fun w hS=>(al)) (RQ.bq (aA (RW.bD (RW.seq ?_))))))
 replace hN:=hN.ext (Ext.drew ez.drew)
 refine RW.bA (fun u=>aH w none_ u []) 12 [(0,0),(1,0),(2,0),(3,0),(4,0),(5,0),(6,0),(7,0),(8,0),(9,0),(10,0),(11,0)] (by intro _ _ _ h;exact h) hN (RQ.an (v:=av) rfl (fun w hS=>U) (RQ.an (v:=vJ i) rfl (fun w hS=>U) (RQ.an rfl (fun w hS=>(aT ac1 dY bp (ha.o.now hS))) (RQ.an rfl (fun w hS=>(bm (m:=i) (b:=0) acY rfl bI bp (ha.o.now hS) bV)) (RQ.an rfl (fun w hS=>(bB (m:=i) (j:=1) (a:=ap) acy bp (ha.o.now hS) bV)) (RQ.an (v:=bv) rfl (fun w hS=>U) (RQ.an (v:=vJ q) rfl (fun w hS=>U) (RQ.an rfl (fun w hS=>(aT ac1 dY bp (hb.o.now hS))) (RQ.an rfl (fun w hS=>(bm (m:=q) (b:=0) acY rfl bI bp (hb.o.now hS) jS)) ?_)))))))))
 refine RQ.an rfl (fun w hS=>(bB (m:=q) (j:=1) (a:=ar) acy bp (hb.o.now hS) jS)) (RQ.an rfl (fun w hS=>(aD rfl rfl rfl (bg (by omega) (by omega)))) (RQ.an (v:=.int .i64 (ap.2+ar.2)) rfl (fun w hS=>ai) (RQ.bq (aA (RW.region (RL.ag (v:=av) U (RL.ag (v:=vJ i) U (RL.ag (aT ac1 dY bp (ha.o.now hN)) (RL.ag (bm (m:=i) (b:=0) acY rfl bI bp (ha.o.now hN) bV) ?_)))))))))
 refine RL.ag (bB (m:=i) (j:=0) (a:=ap) acy bp (ha.o.now hN) bV) (RL.ag (v:=.int .i64 (ap.1)) ai (RL.nil (ba (aA (RW.region (RL.ag (v:=vJ q) U (RL.ag (aD rfl rfl rfl (bg (by omega) (by omega))) (RL.ag (v:=.int .i64 ((q:Int)+1)) ai (RL.nil ?_)))))))))
 refine aA ?_
 exact⟨k2-1,by omega,ap.2+ar.2,ap.1,q+1,rfl,rfl,rfl,rfl,rfl,rfl,hN,by omega,.inr ⟨by omega,by omega,by omega⟩,Az.dm bV jS (by omega) (by first|exact .inl (by assumption)|exact .inr (by omega))⟩
 rw[decide_eq_false Is]
 refine RQ.aR (v:=av) rfl (fun w hS=>U) (RQ.aR (v:=vJ i) rfl (fun w hS=>U) (RQ.aR rfl (fun w hS=>(aT ac1 dY bp (ha.o.now hS))) (RQ.aR rfl (fun w hS=>(bm (m:=i) (b:=0) acY rfl bI bp (ha.o.now hS) bV)) (RQ.aR rfl (fun w hS=>(bB (m:=i) (j:=1) (a:=ap) acy bp (ha.o.now hS) bV)) (RQ.aR (v:=bv) rfl (fun w hS=>U) (RQ.aR (v:=vJ q) rfl (fun w hS=>U) (RQ.aR rfl (fun w hS=>(aT ac1 dY bp (hb.o.now hS))) (RQ.aR rfl (fun w hS=>(bm (m:=q) (b:=0) acY rfl bI bp (hb.o.now hS) jS)) (RQ.aR rfl (fun w hS=>(bB (m:=q) (j:=1) (a:=ar) acy bp (hb.o.now hS) jS)) ?_)))))))))
 refine RQ.aR rfl (fun w hS=>(aD rfl rfl rfl (bg (by omega) (by omega)))) (RQ.aR (v:=.int .i64 (z2)) rfl (fun w hS=>U) (RQ.aR rfl (fun w hS=>(ca)) (RQ.aR (v:=.bool (decide (ap.2+ar.2=z2))) rfl (fun w hS=>U) ?_)))
 by_cases Ir:ap.2+ar.2=z2
 rw[decide_eq_true Ir]
 refine RQ.aR (v:=av) rfl (fun w hS=>U) (RQ.aR (v:=vJ i) rfl (fun w hS=>U) (RQ.aR rfl (fun w hS=>(aT ac1 dY bp (ha.o.now hS))) (RQ.aR rfl (fun w hS=>(bm (m:=i) (b:=0) acY rfl bI bp (ha.o.now hS) bV)) (RQ.aR rfl (fun w hS=>(bB (m:=i) (j:=0) (a:=ap) acy bp (ha.o.now hS) bV)) (RQ.aR (v:=.int .i64 (y2)) rfl (fun w hS=>U) (RQ.aR rfl (fun w hS=>(cq)) (RQ.aR (v:=.bool (decide (y2<ap.1))) rfl (fun w hS=>(al)) (RQ.aR (v:=.bool (decide (y2<ap.1))) rfl (fun w hS=>(aB)) (RQ.an (v:=.bool (decide (y2<ap.1))) rfl (fun w hS=>(al)) ?_)))))))))
 refine RQ.bq (aA ?_)
 refine RW.aG _ (fun VN=>?_) (fun VN=>?_)
 refine RW.seq ?_
 replace hN:=hN.ext (Ext.drew ez.drew)
 refine RW.bA (fun u=>aH w none_ u []) 12 [(0,0),(1,0),(2,0),(3,0),(4,0),(5,0),(6,0),(7,0),(8,0),(9,0),(10,0),(11,0)] (by intro _ _ _ h;exact h) hN (RQ.an (v:=av) rfl (fun w hS=>U) (RQ.an (v:=vJ i) rfl (fun w hS=>U) (RQ.an rfl (fun w hS=>(aT ac1 dY bp (ha.o.now hS))) (RQ.an rfl (fun w hS=>(bm (m:=i) (b:=0) acY rfl bI bp (ha.o.now hS) bV)) (RQ.an rfl (fun w hS=>(bB (m:=i) (j:=1) (a:=ap) acy bp (ha.o.now hS) bV)) (RQ.an (v:=bv) rfl (fun w hS=>U) (RQ.an (v:=vJ q) rfl (fun w hS=>U) (RQ.an rfl (fun w hS=>(aT ac1 dY bp (hb.o.now hS))) (RQ.an rfl (fun w hS=>(bm (m:=q) (b:=0) acY rfl bI bp (hb.o.now hS) jS)) ?_)))))))))
 refine RQ.an rfl (fun w hS=>(bB (m:=q) (j:=1) (a:=ar) acy bp (hb.o.now hS) jS)) (RQ.an rfl (fun w hS=>(aD rfl rfl rfl (bg (by omega) (by omega)))) (RQ.an (v:=.int .i64 (ap.2+ar.2)) rfl (fun w hS=>ai) (RQ.bq (aA (RW.region (RL.ag (v:=av) U (RL.ag (v:=vJ i) U (RL.ag (aT ac1 dY bp (ha.o.now hN)) (RL.ag (bm (m:=i) (b:=0) acY rfl bI bp (ha.o.now hN) bV) ?_)))))))))
 refine RL.ag (bB (m:=i) (j:=0) (a:=ap) acy bp (ha.o.now hN) bV) (RL.ag (v:=.int .i64 (ap.1)) ai (RL.nil (ba (aA (RW.region (RL.ag (v:=vJ q) U (RL.ag (aD rfl rfl rfl (bg (by omega) (by omega))) (RL.ag (v:=.int .i64 ((q:Int)+1)) ai (RL.nil ?_)))))))))
 refine aA ?_
 exact⟨k2-1,by omega,ap.2+ar.2,ap.1,q+1,rfl,rfl,rfl,rfl,rfl,rfl,hN,by omega,.inr ⟨by omega,by omega,by omega⟩,Az.dm bV jS (by omega) (by first|exact .inl (by assumption)|exact .inr (by omega))⟩
 refine RW.skip (ba (aA (RW.region (RL.ag (v:=vJ q) U (RL.ag (aD rfl rfl rfl (bg (by omega) (by omega))) (RL.ag (v:=.int .i64 ((q:Int)+1)) ai (RL.ak ?_)))))))
 exact⟨k2-1,by omega,_,_,q+1,rfl,rfl,rfl,rfl,rfl,rfl,hN,by omega,Qd,Az.skip bV jS (fun h=>by first|exact absurd h (by assumption)|(constructor<;>omega))⟩
 rw[decide_eq_false Ir]
 iterate 7 refine RQ.bU rfl ?_
 iterate 2 refine RQ.aR (v:=.bool false) rfl (fun w hS=>(aB)) ?_
 refine RQ.an (v:=.bool false) rfl (fun w hS=>(al)) (RQ.bq (aA (RW.cj (RW.skip (ba (aA (RW.region (RL.ag (v:=vJ q) U (RL.ag (aD rfl rfl rfl (bg (by omega) (by omega))) ?_)))))))))
 refine RL.ag (v:=.int .i64 ((q:Int)+1)) ai (RL.ak ?_)
 exact⟨k2-1,by omega,_,_,q+1,rfl,rfl,rfl,rfl,rfl,rfl,hN,by omega,Qd,Az.skip bV jS (fun h=>by first|exact absurd h (by assumption)|(constructor<;>omega))⟩
 rw[decide_eq_false Ix]
 iterate 3 refine RQ.bU rfl ?_
 iterate 13 refine RQ.dP rfl ?_
 iterate 2 refine RQ.bU rfl ?_
 iterate 22 refine RQ.dP rfl ?_
 refine RQ.bU rfl (RQ.an (v:=.bool false) rfl (fun w hS=>(aB)) (RQ.bq (aA (RW.cj (RW.skip (ba (aA (RW.region (RL.ag (v:=vJ q) U ?_)))))))))
 refine RL.ag (aD rfl rfl rfl (bg (by omega) (by omega))) (RL.ag (v:=.int .i64 ((q:Int)+1)) ai (RL.ak ?_))
 exact⟨k2-1,by omega,_,_,q+1,rfl,rfl,rfl,rfl,rfl,rfl,hN,by omega,Qd,Az.skip bV jS (fun h=>by first|exact absurd h (by assumption)|(constructor<;>omega))⟩
 refine RW.exit ?_
 iterate 2 refine bP ?_
 refine aY (ba (aA (RW.region (RL.ag (v:=vJ i) U (RL.ag (aD rfl rfl rfl (bg (by omega) (by omega))) (RL.ag (v:=.int .i64 ((i:Int)+1)) ai (RL.ak ?_)))))))
 exact⟨k-1,by omega,z2,y2,i+1,rfl,rfl,rfl,rfl,rfl,hN,by omega,Qd,Az.row (by omega)⟩
 refine RW.exit ?_
 iterate 2 refine bP ?_
 refine aY (aA (RW.aN (RL.ag (v:=.int .i64 (z)) U (RL.ag (v:=.int .i64 (y)) U (RL.ag (v:=.int .i64 (z)) ai (RL.ag (v:=.int .i64 (y)) ai (RL.ak ?_)))))))
 refine RW.ret (bc (RV.ju rfl) ?_)
 exact⟨z,y,i,rfl,hz,hm,by omega,hN.aX⟩
theorem zl (n:Nat) (rv wv:Value) (rk:List Int) (ways:List I5) (w:World) (hr:Sl vI w rv rk) (hw:Sm aV w wv ways) (hH:De n rk ways) (s t:Int) (hn:n≤12) (y8:0≤s) (lk:s<n) (TI:0≤t) (UD:t<n):aM acD 208 #[.agg #[rv,wv],.int .i64 s,.int .i64 t] w fun r w'=>∃z y:Int,r=.tuple #[.int .i64 z,.int .i64 y]∧-1≤z∧z≤211106232532992∧(s=t→z=0)∧Ext w w':=by
 refine aM.aZ akk ?_
 rw[iu]
 have hN:=aH.nil w none_
 have ui:=hH.len
 refine RW.aN ?_
 refine RL.aL (bJ (cs:=[rv,wv]) rfl rfl hN ?_)
 clear hN
 intro g1 w1 (hN:aH w none_ w1 [_])
 iterate 2 refine RL.ag (v:=.int .i64 (0)) ai ?_
 refine RL.ak (RW.seq ?_)
 replace hN:=hN.ext (Ext.drew w1)
 refine RW.bA (fun u=>aH w none_ u [.aJ g1 [rv,wv] 28]) 11 [(0,0),(1,0),(3,0),(4,0),(2,1),(5,1),(6,1),(7,0),(8,0),(9,0),(10,0)] (by intro _ _ _ h;exact h) hN (RQ.an rfl (fun w hS=>(aE (cs:=[rv,wv]) acE dq (hS.aJ 0 rfl))) (RQ.an (v:=.int .i64 (s)) rfl (fun w hS=>U) (RQ.an rfl (fun w hS=>(aE (cs:=[rv,wv]) acE dq (hS.aJ 0 rfl))) (RQ.an (v:=.int .i64 (t)) rfl (fun w hS=>U) ?_))))
 refine RQ.bW rfl (cn aiz rfl rfl rfl rfl rfl ((rM n _ _ rk ways _ (hr.o.now hN) (hw.o.now hN) hH s false hn y8 lk).mono ?_))
 rintro v2 w2 ⟨EG,cL,hR2,TP,Z4,bl⟩
 replace hN:aH w none_ w2 [_,_]:=hN.fw cL bl
 clear cL bl
 refine⟨(hN.sb [1]),?_⟩
 refine RQ.bW rfl (cn aiz rfl rfl rfl rfl rfl ((rM n _ _ rk ways _ (hr.o.now hN) (hw.o.now hN) hH t true hn TI UD).mono ?_))
 rintro v3 w3 ⟨G6,cL,hR3,hS3,U3,bl⟩
 replace hN:aH w none_ w3 [_,_,_]:=hN.fw cL bl
 clear cL bl
 refine⟨(hN.sb [2]),?_⟩
 refine RQ.bW rfl (bu akj rfl rfl rfl rfl ((Cj n _ _ EG G6 _ (hN.sm 1 rfl) (hN.sm 0 rfl) hR2 hR3 (by omega) (by omega)).mono ?_))
 rintro _ w4 ⟨z4,y4,i4,rfl,Ul,Se,hi4,bl⟩
 replace hN:=hN.ext bl
 clear bl
 refine⟨(hN.sb [2]),?_⟩
 iterate 2 refine RQ.an rfl (fun w hS=>(bE)) ?_
 refine RQ.an (v:=.int .i64 (z4)) rfl (fun w hS=>ai) (RQ.an (v:=.int .i64 (y4)) rfl (fun w hS=>ai) (RQ.bq (aA (RW.ret (bc (RV.ju rfl) ?_)))))
 exact⟨_,_,rfl,by omega,by omega,fun e=>by subst e;exact meet_self (n:=n) Se hi4 Ul TP hS3,hN.aX⟩
theorem qS (n:Nat) (rv wv:Value) (rk:List Int) (ways:List I5) (w:World) (hr:Sl vI w rv rk) (hw:Sm aV w wv ways) (hH:De n rk ways) (s t:Int) (hn:n≤12) (y8:0≤s) (lk:s<n) (TI:0≤t) (UD:t<n):aM acD 187 #[.agg #[rv,wv],.int .i64 s,.int .i64 t] w fun r w'=>∃z:Int,r=.int .i64 z∧-1≤z∧z≤211106232532992∧(s=t→z=0)∧Ext w w':=by
 refine aM.aZ ahh ?_
 rw[iu]
 have hN:=aH.nil w none_
 refine RW.aN ?_
 refine RL.aL (bJ (cs:=[rv,wv]) rfl rfl hN ?_)
 clear hN
 intro g1 w1 (hN:aH w none_ w1 [_])
 refine RL.ag (v:=.int .i64 (0)) ai (RL.bY (RL.ag (aE (cs:=[rv,wv]) acE dq (hN.aJ 0 rfl)) (RL.ag (v:=.int .i64 (s)) U (RL.ag (v:=.int .i64 (t)) U ?_))))
 refine RL.aL (cn akk rfl rfl rfl rfl rfl ((zl n _ _ rk ways _ (hr.o.now hN) (hw.o.now hN) hH s t hn y8 lk TI UD).mono ?_))
 rintro _ w2 ⟨z2,y2,rfl,Ln,Vv,UJ,bl⟩
 replace hN:=hN.ext bl
 clear bl
 refine RL.ag (v:=.tuple #[.int .i64 (z2),.int .i64 (y2)]) U ?_
 iterate 2 refine RL.ag (bE) ?_
 refine RL.ag (v:=.int .i64 (z2)) ai (RL.ag (v:=.int .i64 (y2)) ai (RL.bY (RL.ag (v:=.int .i64 (z2)) U (RL.ag (v:=.int .i64 (z2)) ai (RL.ak ?_)))))
 refine RW.ret (bc (RV.tmp rfl) ?_)
 exact⟨_,rfl,Ln,Vv,UJ,hN.aX⟩
theorem Cl (n:Nat) (rv wv:Value) (rk:List Int) (ways:List I5) (tv:Value) (ts:List Int) (w:World) (hr:Sl vI w rv rk) (hw:Sm aV w wv ways) (hH:De n rk ways) (ht:Sl vI w tv ts) (s:Int) (hn:n≤12) (y8:0≤s) (lk:s<n) (Qf:∀x∈ts,0≤x∧x<n) (Li:ts.length≤4096):aM acD 141 #[.agg #[rv,wv],.int .i64 s,tv] w fun r w'=>∃out,eB vI 3 w' w.heap.size r out∧out.length=ts.length∧(∀z∈out,-1≤z∧z≤211106232532992)∧(∀j:Nat,ts[j]?=some s→out[j]?=some 0)∧Ext w w':=by
 refine aM.aZ akl ?_
 rw[iu]
 have hN:=aH.nil w none_
 refine RW.aN ?_
 refine RL.aL (bJ (cs:=[rv,wv]) rfl rfl hN ?_)
 clear hN
 intro g1 w1 (hN:aH w none_ w1 [_])
 refine RL.ag (v:=vN) ai (RL.bY (RL.ag (v:=vN) ai (RL.ak ?_)))
 iterate 2 refine RW.seq ?_
 refine RW.region (RL.ag (v:=.int .i64 (0)) ai (RL.ak (RW.block ?_)))
 replace hN:=hN.dy vI 3
 refine RW.loop (fun k R0 cv=>∃va:Value,∃acc:List Int,∃i:Nat,R0 1=.int .i64 (s)∧R0 2=tv∧R0 3=vP g1∧R0 7=va∧R0 8=vJ i∧aH w none_ cv [.own vI 3 (va) (acc),.aJ g1 [rv,wv] 28]∧(i+k=ts.length)∧(acc.length=i)∧(∀z∈acc,-1≤z∧z≤211106232532992)∧(∀j,j<i→ts[j]?=some s→acc[j]?=some 0)) (ts.length) ?_ ?_
 exact⟨vN,[],0,rfl,rfl,rfl,rfl,rfl,hN,by omega,rfl,(fun z hz=>absurd hz ac0),(fun j hj=>absurd hj (by omega))⟩
 clear hN
 rintro k R0 cv ⟨va,acc,i,bN,bQ,cb,cC,cM,hN,fP,im,ff,Xf⟩
 have cz:=hC bN bQ cb cC cM
 obtain⟨fV,rfl⟩:=cz
 clear bN bQ cb cC cM
 iterate 2 refine RW.seq ?_
 refine RW.region (RL.ag (v:=vJ i) U (RL.ag (v:=tv) U ?_))
 have kH:=(ht.o.now hN).bw
 refine RL.ag (aQ acz (ht.o.now hN)) (RL.ag (aK) (RL.ak ?_))
 refine RW.aG _ (fun cD=>?_) (fun cD=>?_)
 refine RW.skip (aA (RW.seq (RW.block ?_)))
 replace hN:=hN.ext (Ext.drew cv)
 refine RW.bA (fun u=>aH w none_ u [.aJ g1 [rv,wv] 28]) 11 [(0,0),(1,0),(2,0),(3,0),(4,0),(5,0),(6,0),(7,1),(8,1),(9,1),(10,0)] (by intro _ _ _ h;exact h) (hN.sb [1]) (RQ.an (v:=va) rfl (fun w hS=>U) (RQ.an rfl (fun w hS=>(aE (cs:=[rv,wv]) acE dq (hS.aJ 0 rfl))) (RQ.an (v:=.int .i64 (s)) rfl (fun w hS=>U) (RQ.an (v:=tv) rfl (fun w hS=>U) (RQ.an (v:=vJ i) rfl (fun w hS=>U) (RQ.an rfl (fun w hS=>(aC acz bI (ht.o.now hS))) ?_))))))
 have aO:=cQ (ts) i
 obtain⟨ap,bV⟩:=aO
 refine RQ.an rfl (fun w hS=>(aF (m:=i) (a:=ap) acy (ht.o.now hS) bV)) ?_
 have aO:=Qf ap (acC bV)
 obtain⟨CU,vT⟩:=aO
 refine RQ.bW rfl (cn ahh rfl rfl rfl rfl rfl ((qS n _ _ rk ways _ (hr.o.now hN) (hw.o.now hN) hH s ap hn y8 lk CU vT).mono ?_))
 rintro _ w4 ⟨z4,rfl,Sk,SE,Rq,bl⟩
 replace hN:=hN.ext bl
 clear bl
 refine⟨(hN.sb [1]),?_⟩
 refine RQ.bW rfl (cx (enc:=vI) (l:=[z4]) (xs:=[.tmp 22]) acz bI mN rfl rfl (fun _=>rfl) rfl (by decide) (by decide) hN ?_)
 clear hN
 intro g5 w5 (hN:aH w none_ w5 [_,_,_])
 refine⟨(hN.sb [2]),?_⟩
 refine RQ.bW rfl (b9 acz fI rfl (fun _=>rfl) hN 1 rfl rfl (hN.sl 0 rfl) rfl (by(try simp only[acB,acH,acK,acS]);omega) (by decide) ?_)
 clear hN
 intro v6 w6 (hN:aH w none_ w6 [_,_,_])
 refine⟨(hN.sb [2]),?_⟩
 refine RQ.an (v:=v6) rfl (fun w hS=>ai) (RQ.bq (ba (aA (RW.region (RL.ag (v:=vJ i) U (RL.ag (aD rfl rfl rfl (bg (by omega) (by omega))) (RL.ag (v:=.int .i64 ((i:Int)+1)) ai (RL.ak ?_))))))))
 exact⟨k-1,by omega,v6,acc++[z4],i+1,rfl,rfl,rfl,rfl,rfl,(hN.sb [1,2]),by omega,by rw[acB,im];rfl,(fun z hz=>(adn.1 hz).elim (ff z) fun h=>by rw[adh]at h;subst h;exact⟨Sk,SE⟩),ET im Xf bV Rq⟩
 refine RW.exit ?_
 iterate 2 refine bP ?_
 refine aY (aA (RW.aN (RL.ag (v:=va) U (RL.ag (v:=va) ai (RL.ak (RW.ret (bc (RV.tmp rfl) ?_)))))))
 exact⟨acc,hN.ft 0 rfl,by omega,ff,fun j hj=>Xf j (by have:=(acF.1 hj).1;omega) hj,hN.aX⟩
end Go.Proofs.YtngkdkbpgoddlaaGreat
namespace Go.Proofs.YtngkdkbpgoddlaaGreat
open Go.RowKit Go.Rl
open Go.Gr
theorem qD (rv wv:Value) (rk:List Int) (kk:Int) (w:World) (hr:Sl vI w rv rk):aM acD 140 #[.agg #[rv,wv],.int .i64 kk] w fun r w'=>r=.int .i64 (cA (rk.length:Int) kk)∧Ext w w':=by
 refine aM.aZ ahi ?_
 rw[cS]
 have hN:=aH.nil w none_
 refine RW.aN ?_
 refine RL.aL (bJ (cs:=[rv,wv]) rfl rfl hN ?_)
 clear hN
 intro g1 w1 (hN:aH w none_ w1 [_])
 refine RL.ag (v:=.int .i64 (0)) ai (RL.bY (RL.ag (ah acE rfl cc) (RL.ag (aj acz (hN.aJ 0 rfl)) ?_)))
 have iH:=(hr.o.now hN).bw
 refine RL.ag (aQ acz (hr.o.now hN)) (RL.ag (v:=.int .i64 ((rk.length:Int))) ai (RL.bY (RL.ag (v:=.int .i64 ((rk.length:Int))) U (RL.ag (v:=.int .i64 (kk)) U (RL.ag (v:=.int .i64 ((rk.length:Int))) U (RL.ag (yD rfl rfl) ?_))))))
 refine RL.ag (uS rfl rfl) (RL.ag (show Ev _ _ _ _ (.int .i64 (cA (rk.length:Int) kk))from aD rfl rfl rfl (pn (by omega) (by omega))) (RL.ag (v:=.int .i64 ((cA (rk.length:Int) kk))) ai (RL.ak (RW.ret (bc (RV.tmp rfl) ?_)))))
 exact⟨rfl,hN.aX⟩
theorem AN (n:Nat) (rv wv:Value) (rk:List Int) (ways:List I5) (w:World) (hr:Sl vI w rv rk) (hw:Sm aV w wv ways) (hH:De n rk ways) (kk:Int) (hn:n≤12):aM acD 61 #[.agg #[rv,wv],.int .i64 kk] w fun r w'=>eB vI 3 w' w.heap.size r (b8 rk (cA (rk.length:Int) kk) rk.length)∧Ext w w':=by
 refine aM.aZ Tryz.func61 ?_
 rw[cS]
 have hN:=aH.nil w none_
 have ui:=hH.len
 refine RW.aN ?_
 refine RL.aL (bJ (cs:=[rv,wv]) rfl rfl hN ?_)
 clear hN
 intro g1 w1 (hN:aH w none_ w1 [_])
 refine RL.ag (v:=vN) ai (RL.bY (RL.ag (v:=vN) ai (RL.ak ?_)))
 iterate 2 refine RW.seq ?_
 refine RW.region (RL.ag (v:=.int .i64 (0)) ai (RL.ak (RW.block ?_)))
 replace hN:=hN.dy vI 3
 refine RW.loop (fun k R0 cv=>∃va:Value,∃acc:List Int,∃i:Nat,R0 1=.int .i64 (kk)∧R0 2=vP g1∧R0 5=va∧R0 6=vJ i∧aH w none_ cv [.own vI 3 (va) (acc),.aJ g1 [rv,wv] 28]∧(i+k=rk.length)∧(acc=b8 rk (cA (rk.length:Int) kk) i)∧(acc.length≤i)) (rk.length) ?_ ?_
 exact⟨vN,[],0,rfl,rfl,rfl,rfl,hN,by omega,rfl,ac8 _⟩
 clear hN
 rintro k R0 cv ⟨va,acc,i,bN,bQ,cy,cV,hN,fP,ha,im⟩
 have cz:=iV bN bQ cy cV
 obtain⟨fV,rfl⟩:=cz
 clear bN bQ cy cV
 iterate 2 refine RW.seq ?_
 refine RW.region (RL.ag (v:=vJ i) U (RL.ag (ah acE rfl cc) (RL.ag (aj acz (hN.aJ 1 rfl)) ?_)))
 have kH:=(hr.o.now hN).bw
 refine RL.ag (aQ acz (hr.o.now hN)) (RL.ag (aK) (RL.ak ?_))
 refine RW.aG _ (fun cD=>?_) (fun cD=>?_)
 refine RW.skip (aA (RW.seq (RW.block (RW.seq ?_))))
 replace hN:=hN.ext (Ext.drew cv)
 refine RW.bA (fun u=>aH w none_ u [.own vI 3 (va) (acc),.aJ g1 [rv,wv] 28]) 9 [(0,0),(1,0),(2,0),(3,0),(4,0),(5,0),(6,0),(7,1),(8,0)] (by intro _ _ _ h;exact h) hN (RQ.an rfl (fun w hS=>(ah acE rfl cc)) (RQ.an rfl (fun w hS=>(aj acz (hS.aJ 1 rfl))) (RQ.an (v:=vJ i) rfl (fun w hS=>U) (RQ.an rfl (fun w hS=>(aC acz bI (hr.o.now hS))) ?_))))
 have aO:=cQ (rk) i
 obtain⟨ap,bV⟩:=aO
 refine RQ.an rfl (fun w hS=>(aF (m:=i) (a:=ap) acy (hr.o.now hS) bV)) (RQ.an rfl (fun w hS=>(aE (cs:=[rv,wv]) acE dq (hS.aJ 1 rfl))) (RQ.an (v:=.int .i64 (kk)) rfl (fun w hS=>U) ?_))
 refine RQ.bW rfl (bu ahi rfl rfl rfl rfl ((qD _ _ rk kk _ (hr.o.now hN)).mono ?_))
 rintro _ w4 ⟨rfl,bl⟩
 replace hN:=hN.ext bl
 clear bl
 refine⟨hN,?_⟩
 refine RQ.an rfl (fun w hS=>(ck)) (RQ.bq (aA ?_))
 refine RW.aG _ (fun rF=>?_) (fun rF=>?_)
 refine RW.region (RL.ag (v:=va) U (RL.ag (v:=vJ i) U ?_))
 refine RL.aL (cx (enc:=vI) (l:=[(i:Int)]) (xs:=[.tmp 24]) acz bI mN rfl rfl (fun _=>rfl) rfl (by decide) (by decide) hN ?_)
 clear hN
 intro g5 w5 (hN:aH w none_ w5 [_,_,_])
 refine RL.aL (b9 acz fI rfl (fun _=>rfl) hN 1 rfl rfl (hN.sl 0 rfl) rfl (by(try simp only[acB,acH,acK,acS]);omega) (by decide) ?_)
 clear hN
 intro v6 w6 (hN:aH w none_ w6 [_,_,_])
 refine RL.ag (v:=v6) ai (RL.nil (ba (aA (RW.region (RL.ag (v:=vJ i) U (RL.ag (aD rfl rfl rfl (bg (by omega) (by omega))) (RL.ag (v:=.int .i64 ((i:Int)+1)) ai (RL.ak ?_))))))))
 exact⟨k-1,by omega,v6,acc++[(i:Int)],i+1,rfl,rfl,rfl,rfl,(hN.sb [1,2]),by omega,by unfold b8 at*;rw[dc,if_pos (decide_eq_true (show o8 rk (cA (rk.length:Int) kk) i from⟨_,bV,rF⟩)),ha];try rfl,by(try simp only[acB,acH]);omega⟩
 refine RW.skip (ba (aA (RW.region (RL.ag (v:=vJ i) U (RL.ag (aD rfl rfl rfl (bg (by omega) (by omega))) (RL.ag (v:=.int .i64 ((i:Int)+1)) ai (RL.ak ?_)))))))
 exact⟨k-1,by omega,va,acc,i+1,rfl,rfl,rfl,rfl,hN,by omega,by unfold b8 at*;rw[dc,if_neg (fun h=>by obtain⟨q,hq,h2⟩:=of_decide_eq_true h;rw[bV]at hq;cases hq;exact rF h2),adw];exact ha,by(try simp only[acB,acH]);omega⟩
 refine RW.exit ?_
 iterate 2 refine bP ?_
 refine aY (aA (RW.aN (RL.ag (v:=va) U (RL.ag (v:=va) ai (RL.ak (RW.ret (bc (RV.tmp rfl) ?_)))))))
 have ic:i=rk.length:=by omega
 subst ic
 subst ha
 exact⟨hN.ft 0 rfl,hN.aX⟩
theorem EB (n:Nat) (rv wv:Value) (rk:List Int) (ways:List I5) (w:World) (hr:Sl vI w rv rk) (hw:Sm aV w wv ways) (hH:De n rk ways) (v kk:Int) (bk:Bool) (hn:n≤12) (u5:0≤v) (uc:v<n):aM acD 143 #[.agg #[rv,wv],.int .i64 v,.int .i64 kk,.bool (decide (bk=true))] w fun r w'=>∃out,fK bG 2 135 w' w.heap.size r out∧iz n rk (cA (rk.length:Int) kk) out∧out.length≤n∧Ext w w':=by
 refine aM.aZ akm ?_
 rw[kE]
 have hN:=aH.nil w none_
 have ui:=hH.len
 refine RW.aN ?_
 refine RL.aL (bJ (cs:=[rv,wv]) rfl rfl hN ?_)
 clear hN
 intro g1 w1 (hN:aH w none_ w1 [_])
 refine RL.ag (v:=vN) ai (RL.bY (RL.ag (aE (cs:=[rv,wv]) acE dq (hN.aJ 0 rfl)) (RL.ag (v:=.int .i64 (kk)) U ?_)))
 refine RL.aL (bu ahi rfl rfl rfl rfl ((qD _ _ rk kk _ (hr.o.now hN)).mono ?_))
 rintro _ w2 ⟨rfl,bl⟩
 replace hN:=hN.ext bl
 clear bl
 refine RL.ag (v:=.int .i64 ((cA (rk.length:Int) kk))) ai (RL.ak (RW.seq ?_))
 replace hN:=hN.ext (Ext.drew w2)
 refine RW.bA (fun u=>aH w none_ u [.aJ g1 [rv,wv] 28]) 12 [(0,0),(1,0),(2,0),(3,0),(4,0),(6,0),(7,0),(8,0),(9,0),(5,1),(10,1),(11,0)] (by intro _ _ _ h;exact h) hN ?_
 iterate 2 refine RQ.an rfl (fun w hS=>(aE (cs:=[rv,wv]) acE dq (hS.aJ 0 rfl))) ?_
 refine RQ.an (v:=.int .i64 (v)) rfl (fun w hS=>U) (RQ.an (v:=.int .i64 ((cA (rk.length:Int) kk))) rfl (fun w hS=>U) (RQ.an (v:=.bool (decide (bk=true))) rfl (fun w hS=>U) (RQ.an (v:=.int .i64 ((cA (rk.length:Int) kk))) rfl (fun w hS=>U) (RQ.an rfl (fun w hS=>(ah acE rfl cc)) (RQ.an rfl (fun w hS=>(aj acz (hS.aJ 0 rfl))) ?_)))))
 have kH:=(hr.o.now hN).bw
 refine RQ.an rfl (fun w hS=>(aQ acz (hr.o.now hS))) ?_
 refine RQ.bW rfl (dH ahg rfl rfl rfl rfl rfl rfl ((nO n _ _ rk ways _ (hr.o.now hN) (hw.o.now hN) hH v (cA (rk.length:Int) kk) bk hn u5 uc).mono ?_))
 rintro v4 w4 ⟨d4,cL,YF,hZ4,bl⟩
 replace hN:aH w none_ w4 [_,_]:=hN.cl cL bl
 clear cL bl
 have aaQ:=YF.len
 refine⟨(hN.sb [1]),?_⟩
 refine RQ.bW rfl (dH aiy rfl rfl rfl rfl rfl rfl ((tm _ _ rk ways _ d4 (cA (rk.length:Int) kk) (rk.length:Int) _ (hr.o.now hN) (hN.sl 0 rfl) (by have:=hH.len;omega) (by omega)).mono ?_))
 rintro v5 w5 ⟨cL,bl⟩
 replace hN:aH w none_ w5 [_,_,_]:=hN.fw cL bl
 clear cL bl
 refine⟨(hN.sb [2]),?_⟩
 refine RQ.an (v:=v5) rfl (fun w hS=>ai) (RQ.bq (aA (RW.ret (bc (RV.tmp rfl) ?_))))
 exact⟨_,hN.fL 0 rfl,GW YF hn,by have:=tn rk d4 (cA (rk.length:Int) kk) (rk.length:Int) d4.length;omega,hN.aX⟩
theorem Bf (n:Nat) (rv wv:Value) (rk:List Int) (ways:List I5) (w:World) (hr:Sl vI w rv rk) (hw:Sm aV w wv ways) (hH:De n rk ways) (a b:I2) (bk:Bool) (hn:n≤12) (hA:(0≤a.1∧a.1<n∧0≤a.2∧a.2≤105553116266496)) (hB:(0≤b.1∧b.1<n∧0≤b.2∧b.2≤105553116266496)):aM acD 188 #[.agg #[rv,wv],.agg #[.int .i64 a.1,.int .i64 a.2],.agg #[.int .i64 b.1,.int .i64 b.2],.bool (decide (bk=true))] w fun r w'=>∃t:Bool,r=.bool (decide (t=true))∧Ext w w':=by
 refine aM.aZ akn ?_
 rw[kE]
 have hN:=aH.nil w none_
 obtain⟨Ye,MO,Yd,ha3⟩:=hA
 obtain⟨TO,qL,MN,Qp⟩:=hB
 refine RW.aN ?_
 refine RL.aL (bJ (cs:=[rv,wv]) rfl rfl hN ?_)
 clear hN
 intro g1 w1 (hN:aH w none_ w1 [_])
 refine RL.aL (bJ (cs:=[.int .i64 (a.1),.int .i64 (a.2)]) rfl rfl hN ?_)
 clear hN
 intro g2 w2 (hN:aH w none_ w2 [_,_])
 refine RL.aL (bJ (cs:=[.int .i64 (b.1),.int .i64 (b.2)]) rfl rfl hN ?_)
 clear hN
 intro g3 w3 (hN:aH w none_ w3 [_,_,_])
 refine RL.ag (v:=.bool false) ai (RL.bY (RL.ag (aE (cs:=[rv,wv]) acE dq (hN.aJ 2 rfl)) (RL.ag (ah acY rfl bI) (RL.ag (aj acy (hN.aJ 1 rfl)) (RL.ag (ah acY rfl bI) (RL.ag (aj acy (hN.aJ 0 rfl)) ?_))))))
 refine RL.aL (cn ahh rfl rfl rfl rfl rfl ((qS n _ _ rk ways _ (hr.o.now hN) (hw.o.now hN) hH a.1 b.1 hn Ye MO TO qL).mono ?_))
 rintro _ w4 ⟨z4,rfl,Sk,SE,Rq,bl⟩
 replace hN:=hN.ext bl
 clear bl
 refine RL.ag (v:=.int .i64 (z4)) ai (RL.ak ?_)
 iterate 2 refine RW.seq ?_
 refine RW.region (RL.ag (v:=.bool (decide (bk=true))) U (RL.ak ?_))
 refine RW.aG _ (fun V2=>?_) (fun V2=>?_)
 refine RW.region (RL.ag (aE (cs:=[rv,wv]) acE dq (hN.aJ 2 rfl)) (RL.ag (ah acY rfl bI) (RL.ag (aj acy (hN.aJ 0 rfl)) (RL.ag (ah acY rfl bI) (RL.ag (aj acy (hN.aJ 1 rfl)) ?_)))))
 refine RL.aL (cn ahh rfl rfl rfl rfl rfl ((qS n _ _ rk ways _ (hr.o.now hN) (hw.o.now hN) hH b.1 a.1 hn TO qL Ye MO).mono ?_))
 rintro _ w5 ⟨z5,rfl,aah,aaI,ZO,bl⟩
 replace hN:=hN.ext bl
 clear bl
 refine RL.ag (v:=.int .i64 (z5)) ai (RL.ak ?_)
 iterate 2 refine RW.seq ?_
 refine RW.region (RL.ag (v:=.int .i64 (z5)) U (RL.ag (aK) (RL.ag (v:=.bool (decide (z5<0))) U ?_)))
 by_cases AE:z5<0
 rw[decide_eq_true AE]
 iterate 5 refine RL.bH ?_
 refine RL.ag (v:=.bool true) (al) (RL.ak (RW.bD (RW.aN (RL.ag (v:=.bool false) ai (RL.ak (RW.ret ?_))))))
 refine aU (bc (RV.tmp rfl) ?_)
 exact⟨_,ig _,hN.aX⟩
 rw[decide_eq_false AE]
 refine RL.aw (ah acY rfl bI) (RL.aw (aj acy (hN.aJ 1 rfl)) (RL.aw (ah acY rfl bI) (RL.aw (aj acy (hN.aJ 0 rfl)) (RL.aw (ca) (RL.ag (v:=.bool (decide (a.1=b.1))) (aB) (RL.ak ?_))))))
 refine RW.aG _ (fun O7=>?_) (fun O7=>?_)
 refine RW.aN (RL.ag (v:=.bool false) ai (RL.ak (RW.ret (aU (bc (RV.tmp rfl) ?_)))))
 exact⟨_,ig _,hN.aX⟩
 refine RW.skip (aA (RW.aN (RL.ag (ah acY rfl bI) (RL.ag (aj acy (hN.aJ 1 rfl)) (RL.ag (v:=.int .i64 (z5)) U (RL.ag (aD rfl rfl rfl (bg (by omega) (by omega))) (RL.ag (ah acY rfl bI) (RL.ag (aj acy (hN.aJ 0 rfl)) ?_))))))))
 refine RL.ag (aK) (RL.ag (v:=.bool (decide (a.2+z5<b.2))) U ?_)
 by_cases AD:a.2+z5<b.2
 rw[decide_eq_true AD]
 iterate 8 refine RL.bH ?_
 iterate 5 refine RL.iy ?_
 refine RL.bH (RL.ag (v:=.bool true) (al) (RL.ag (v:=.bool true) ai (RL.ak (RW.ret (bc (RV.tmp rfl) ?_)))))
 exact⟨_,ig _,hN.aX⟩
 rw[decide_eq_false AD]
 refine RL.aw (ah acY rfl bI) (RL.aw (aj acy (hN.aJ 1 rfl)) (RL.aw (v:=.int .i64 (z5)) U (RL.aw (aD rfl rfl rfl (bg (by omega) (by omega))) (RL.aw (ah acY rfl bI) (RL.aw (aj acy (hN.aJ 0 rfl)) (RL.aw (ca) (RL.aw (v:=.bool (decide (a.2+z5=b.2))) U ?_)))))))
 by_cases ur:a.2+z5=b.2
 rw[decide_eq_true ur]
 refine RL.aw (ah acY rfl bI) (RL.aw (aj acy (hN.aJ 1 rfl)) (RL.aw (ah acY rfl bI) (RL.aw (aj acy (hN.aJ 0 rfl)) (RL.aw (aK) (RL.aw (v:=.bool (decide (a.1<b.1))) (al) (RL.ag (v:=.bool (decide (a.1<b.1))) (aB) (RL.ag (v:=.bool (decide (a.1<b.1))) ai (RL.ak ?_))))))))
 refine RW.ret (bc (RV.tmp rfl) ?_)
 exact⟨_,ig _,hN.aX⟩
 rw[decide_eq_false ur]
 iterate 5 refine RL.bH ?_
 refine RL.aw (v:=.bool false) (aB) (RL.ag (v:=.bool false) (aB) (RL.ag (v:=.bool false) ai (RL.ak (RW.ret (bc (RV.tmp rfl) ?_)))))
 exact⟨_,ig _,hN.aX⟩
 refine RW.skip (aA ?_)
 iterate 2 refine RW.seq ?_
 refine RW.region (RL.ag (v:=.int .i64 (z4)) U (RL.ag (aK) (RL.ag (v:=.bool (decide (z4<0))) U ?_)))
 by_cases AE:z4<0
 rw[decide_eq_true AE]
 iterate 5 refine RL.bH ?_
 refine RL.ag (v:=.bool true) (al) (RL.ak (RW.bD (RW.aN (RL.ag (v:=.bool false) ai (RL.ak (RW.ret ?_))))))
 refine aU (bc (RV.tmp rfl) ?_)
 exact⟨_,ig _,hN.aX⟩
 rw[decide_eq_false AE]
 refine RL.aw (ah acY rfl bI) (RL.aw (aj acy (hN.aJ 1 rfl)) (RL.aw (ah acY rfl bI) (RL.aw (aj acy (hN.aJ 0 rfl)) (RL.aw (ca) (RL.ag (v:=.bool (decide (a.1=b.1))) (aB) (RL.ak ?_))))))
 refine RW.aG _ (fun O7=>?_) (fun O7=>?_)
 refine RW.aN (RL.ag (v:=.bool false) ai (RL.ak (RW.ret (aU (bc (RV.tmp rfl) ?_)))))
 exact⟨_,ig _,hN.aX⟩
 refine RW.skip (aA (RW.aN (RL.ag (ah acY rfl bI) (RL.ag (aj acy (hN.aJ 1 rfl)) (RL.ag (v:=.int .i64 (z4)) U (RL.ag (aD rfl rfl rfl (bg (by omega) (by omega))) (RL.ag (ah acY rfl bI) (RL.ag (aj acy (hN.aJ 0 rfl)) ?_))))))))
 refine RL.ag (aK) (RL.ag (v:=.bool (decide (a.2+z4<b.2))) U ?_)
 by_cases AD:a.2+z4<b.2
 rw[decide_eq_true AD]
 iterate 8 refine RL.bH ?_
 iterate 5 refine RL.iy ?_
 refine RL.bH (RL.ag (v:=.bool true) (al) (RL.ag (v:=.bool true) ai (RL.ak (RW.ret (bc (RV.tmp rfl) ?_)))))
 exact⟨_,ig _,hN.aX⟩
 rw[decide_eq_false AD]
 refine RL.aw (ah acY rfl bI) (RL.aw (aj acy (hN.aJ 1 rfl)) (RL.aw (v:=.int .i64 (z4)) U (RL.aw (aD rfl rfl rfl (bg (by omega) (by omega))) (RL.aw (ah acY rfl bI) (RL.aw (aj acy (hN.aJ 0 rfl)) (RL.aw (ca) (RL.aw (v:=.bool (decide (a.2+z4=b.2))) U ?_)))))))
 by_cases ur:a.2+z4=b.2
 rw[decide_eq_true ur]
 refine RL.aw (ah acY rfl bI) (RL.aw (aj acy (hN.aJ 1 rfl)) (RL.aw (ah acY rfl bI) (RL.aw (aj acy (hN.aJ 0 rfl)) (RL.aw (aK) (RL.aw (v:=.bool (decide (a.1<b.1))) (al) (RL.ag (v:=.bool (decide (a.1<b.1))) (aB) (RL.ag (v:=.bool (decide (a.1<b.1))) ai (RL.ak ?_))))))))
 refine RW.ret (bc (RV.tmp rfl) ?_)
 exact⟨_,ig _,hN.aX⟩
 rw[decide_eq_false ur]
 iterate 5 refine RL.bH ?_
 refine RL.aw (v:=.bool false) (aB) (RL.ag (v:=.bool false) (aB) (RL.ag (v:=.bool false) ai (RL.ak (RW.ret (bc (RV.tmp rfl) ?_)))))
 exact⟨_,ig _,hN.aX⟩
theorem zP (n:Nat) (rv wv:Value) (rk:List Int) (ways:List I5) (w:World) (hr:Sl vI w rv rk) (hw:Sm aV w wv ways) (hH:De n rk ways) (lv:Value) (l:List I2) (lo:Int) (bk:Bool) (hl:Sm bG w lv l) (hG:iz n rk lo l) (hn:n≤12) (Br:l.length≤4096):aM acD 142 #[.agg #[rv,wv],lv,.bool (decide (bk=true))] w fun r w'=>∃out,fK bG 2 135 w' w.heap.size r out∧out.Sublist l∧Ext w w':=by
 refine aM.aZ ako ?_
 rw[iu]
 have hN:=aH.nil w none_
 refine RW.aN ?_
 refine RL.aL (bJ (cs:=[rv,wv]) rfl rfl hN ?_)
 clear hN
 intro g1 w1 (hN:aH w none_ w1 [_])
 refine RL.ag (v:=vN) ai (RL.bY (RL.ag (v:=vN) ai (RL.ak ?_)))
 iterate 2 refine RW.seq ?_
 refine RW.region (RL.ag (v:=.int .i64 (0)) ai (RL.ak (RW.block ?_)))
 replace hN:=hN.ew bG 2 135
 refine RW.loop (fun k R0 cv=>∃va:Value,∃acc:List I2,∃i:Nat,R0 1=lv∧R0 2=.bool (decide (bk=true))∧R0 3=vP g1∧R0 7=va∧R0 8=vJ i∧aH w none_ cv [.cd bG 2 135 (va) (acc),.aJ g1 [rv,wv] 28]∧(i+k=l.length)∧(acc.Sublist (l.take i))∧(acc.length≤i)) (l.length) ?_ ?_
 exact⟨vN,[],0,rfl,rfl,rfl,rfl,rfl,hN,by omega,aiK _,ac8 _⟩
 clear hN
 rintro k R0 cv ⟨va,acc,i,bN,bQ,cb,cC,cM,hN,fP,Ag,im⟩
 have cz:=hC bN bQ cb cC cM
 obtain⟨fV,rfl⟩:=cz
 clear bN bQ cb cC cM
 iterate 2 refine RW.seq ?_
 refine RW.region (RL.ag (v:=vJ i) U (RL.ag (v:=lv) U ?_))
 have kH:=(hl.o.now hN).bw
 refine RL.ag (bO ac1 (hl.o.now hN)) (RL.ag (aK) (RL.ak ?_))
 refine RW.aG _ (fun cD=>?_) (fun cD=>?_)
 refine RW.skip (aA (RW.seq (RW.block (RW.seq ?_))))
 have aO:=cQ l i
 obtain⟨ap,bV⟩:=aO
 refine RW.region (RL.ag (v:=.bool false) ai (RL.ak ?_))
 iterate 2 refine RW.seq ?_
 refine RW.region (RL.ag (v:=.int .i64 (0)) ai (RL.ak (RW.block ?_)))
 refine RW.loop (fun k2 R1 ez=>∃bt:Bool,∃q:Nat,R1 1=lv∧R1 2=.bool (decide (bk=true))∧R1 3=vP g1∧R1 7=va∧R1 8=vJ i∧R1 9=.bool (decide (bt=true))∧R1 10=vJ q∧aH w none_ ez [.cd bG 2 135 (va) (acc),.aJ g1 [rv,wv] 28]∧(q+k2=l.length)) (l.length) ?_ ?_
 exact⟨false,0,rfl,rfl,rfl,rfl,rfl,rfl,rfl,hN,by omega⟩
 clear hN
 rintro k2 R1 ez ⟨bt,q,bN,bQ,cb,cC,cM,dN,db,hN,yl⟩
 have cz:=BD bN bQ cb cC cM dN db
 obtain⟨re,rfl⟩:=cz
 clear bN bQ cb cC cM dN db
 iterate 2 refine RW.seq ?_
 refine RW.region (RL.ag (v:=vJ q) U (RL.ag (v:=lv) U (RL.ag (bO ac1 (hl.o.now hN)) (RL.ag (aK) (RL.ak ?_)))))
 refine RW.aG _ (fun ep=>?_) (fun ep=>?_)
 refine RW.skip (aA (RW.seq (RW.block ?_)))
 replace hN:=hN.ext (Ext.drew ez)
 refine RW.bA (fun u=>aH w none_ u [.cd bG 2 135 (va) (acc),.aJ g1 [rv,wv] 28]) 15 [(0,0),(1,0),(2,0),(3,0),(4,0),(5,0),(6,0),(7,0),(8,0),(9,0),(10,0),(11,0),(12,1),(13,0),(14,0)] (by intro _ _ _ h;exact h) hN ?_
 iterate 2 refine RQ.an (v:=.bool (decide (bt=true))) rfl (fun w hS=>U) ?_
 by_cases Mz:bt=true
 rw[decide_eq_true Mz]
 iterate 11 refine RQ.bU rfl ?_
 refine RQ.an (v:=.bool true) rfl (fun w hS=>(al)) (RQ.an (v:=.bool true) rfl (fun w hS=>ai) (RQ.bq (ba (aA (RW.region (RL.ag (v:=vJ q) U (RL.ag (aD rfl rfl rfl (bg (by omega) (by omega))) (RL.ag (v:=.int .i64 ((q:Int)+1)) ai (RL.nil ?_)))))))))
 refine aA ?_
 exact⟨k2-1,by omega,true,q+1,rfl,rfl,rfl,rfl,rfl,rfl,rfl,hN,by omega⟩
 rw[decide_eq_false Mz]
 refine RQ.aR rfl (fun w hS=>(aE (cs:=[rv,wv]) acE dq (hS.aJ 1 rfl))) (RQ.aR (v:=lv) rfl (fun w hS=>U) (RQ.aR (v:=vJ q) rfl (fun w hS=>U) (RQ.aR rfl (fun w hS=>(aT ac1 dY bp (hl.o.now hS))) ?_)))
 have aO:=cQ (l) q
 obtain⟨ar,jS⟩:=aO
 refine RQ.aR rfl (fun w hS=>(b0 (m:=q) (a:=ar) acY dY bp (hl.o.now hS) jS (cs:=[.int .i64 (ar.1),.int .i64 (ar.2)]))) (RQ.aR (v:=lv) rfl (fun w hS=>U) (RQ.aR (v:=vJ i) rfl (fun w hS=>U) (RQ.aR rfl (fun w hS=>(aT ac1 dY bp (hl.o.now hS))) (RQ.aR rfl (fun w hS=>(b0 (m:=i) (a:=ap) acY dY bp (hl.o.now hS) bV (cs:=[.int .i64 (ap.1),.int .i64 (ap.2)]))) (RQ.aR (v:=.bool (decide (bk=true))) rfl (fun w hS=>U) ?_)))))
 refine RQ.dQ rfl (dH akn rfl rfl rfl rfl rfl rfl ((Bf n _ _ rk ways _ (hr.o.now hN) (hw.o.now hN) hH ar ap bk hn (hG.ok _ (acC jS)) (hG.ok _ (acC bV))).mono ?_))
 rintro _ w4 ⟨b4,rfl,bl⟩
 replace hN:=hN.ext bl
 clear bl
 refine⟨hN,?_⟩
 refine RQ.an (v:=.bool (decide (b4=true))) rfl (fun w hS=>(aB)) (RQ.an (v:=.bool (decide (b4=true))) rfl (fun w hS=>ai) (RQ.bq (ba (aA (RW.region (RL.ag (v:=vJ q) U (RL.ag (aD rfl rfl rfl (bg (by omega) (by omega))) (RL.ag (v:=.int .i64 ((q:Int)+1)) ai (RL.nil ?_)))))))))
 refine aA ?_
 exact⟨k2-1,by omega,b4,q+1,rfl,rfl,rfl,rfl,rfl,rfl,rfl,hN,by omega⟩
 refine RW.exit ?_
 iterate 2 refine bP ?_
 refine aY (aA (RW.aN (RL.ag (v:=.bool (decide (bt=true))) U (RL.ag (cU rfl) (RL.ak ?_)))))
 refine RW.aG _ (fun VU=>?_) (fun VU=>?_)
 refine RW.region (RL.ag (v:=va) U (RL.ag (v:=lv) U (RL.ag (v:=vJ i) U (RL.ag (aT ac1 dY bp (hl.o.now hN)) (RL.ag (b0 (m:=i) (a:=ap) acY dY bp (hl.o.now hN) bV (cs:=[.int .i64 (ap.1),.int .i64 (ap.2)])) ?_)))))
 refine RL.aL (dn (cf:=bG) (s:=2) (pl:=[(0,.tmp 43)]) (ps:=[(0,.agg #[.int .i64 (ap.1),.int .i64 (ap.2)])]) (zc:=[.int .i64 (0),.int .i64 (0)]) (l:=[(ap.1,ap.2)]) ac1 qF (by kernel_rfl) rfl rfl (aP (vs:=[.int .i64 (ap.1),.int .i64 (ap.2)]) rfl rfl (acA rfl) rfl) bp rfl (by decide) (by decide) (by decide) hN ?_)
 clear hN
 intro g5 w5 (hN:aH w none_ w5 [_,_,_])
 refine RL.aL (cp ac1 qF rfl (by decide) nC bp hN 1 rfl rfl (hN.sm 0 rfl) rfl (by(try simp only[acB,acH,acK,acS]);omega) (by decide) ?_)
 clear hN
 intro v6 w6 (hN:aH w none_ w6 [_,_,_])
 refine RL.ag (v:=v6) ai (RL.nil (ba (aA (RW.region (RL.ag (v:=vJ i) U (RL.ag (aD rfl rfl rfl (bg (by omega) (by omega))) (RL.ag (v:=.int .i64 ((i:Int)+1)) ai (RL.ak ?_))))))))
 exact⟨k-1,by omega,v6,acc++[(ap.1,ap.2)],i+1,rfl,rfl,rfl,rfl,rfl,(hN.sb [1,2]),by omega,Gy Ag bV,by(try simp only[acB,acH]);omega⟩
 refine RW.skip (ba (aA (RW.region (RL.ag (v:=vJ i) U (RL.ag (aD rfl rfl rfl (bg (by omega) (by omega))) (RL.ag (v:=.int .i64 ((i:Int)+1)) ai (RL.ak ?_)))))))
 exact⟨k-1,by omega,va,acc,i+1,rfl,rfl,rfl,rfl,rfl,hN,by omega,Gz Ag bV,by(try simp only[acB,acH]);omega⟩
 refine RW.exit ?_
 iterate 2 refine bP ?_
 refine aY (aA (RW.aN (RL.ag (v:=va) U (RL.ag (v:=va) ai (RL.ak (RW.ret (bc (RV.tmp rfl) ?_)))))))
 have ic:i=l.length:=by omega
 rw[ic,adm]at Ag
 exact⟨acc,hN.fL 0 rfl,Ag,hN.aX⟩
theorem xg (n:Nat) (rv wv:Value) (rk:List Int) (ways:List I5) (w:World) (hr:Sl vI w rv rk) (hw:Sm aV w wv ways) (hH:De n rk ways) (v kk:Int) (bk:Bool) (hn:n≤12) (u5:0≤v) (uc:v<n):aM acD 63 #[.agg #[rv,wv],.int .i64 v,.int .i64 kk,.bool (decide (bk=true))] w fun r w'=>∃out,fK bG 2 135 w' w.heap.size r out∧iz n rk (cA (rk.length:Int) kk) out∧out.length≤n∧Ext w w':=by
 refine aM.aZ ai1 ?_
 rw[kE]
 have hN:=aH.nil w none_
 refine RW.aN ?_
 refine RL.aL (bJ (cs:=[rv,wv]) rfl rfl hN ?_)
 clear hN
 intro g1 w1 (hN:aH w none_ w1 [_])
 refine RL.ag (v:=vN) ai (RL.ak (RW.seq ?_))
 replace hN:=hN.ext (Ext.drew w1)
 refine RW.bA (fun u=>aH w none_ u [.aJ g1 [rv,wv] 28]) 9 [(0,0),(1,0),(2,0),(3,0),(4,0),(6,0),(5,1),(7,1),(8,0)] (by intro _ _ _ h;exact h) hN ?_
 iterate 2 refine RQ.an rfl (fun w hS=>(aE (cs:=[rv,wv]) acE dq (hS.aJ 0 rfl))) ?_
 refine RQ.an (v:=.int .i64 (v)) rfl (fun w hS=>U) (RQ.an (v:=.int .i64 (kk)) rfl (fun w hS=>U) ?_)
 iterate 2 refine RQ.an (v:=.bool (decide (bk=true))) rfl (fun w hS=>U) ?_
 refine RQ.bW rfl (dH akm rfl rfl rfl rfl rfl rfl ((EB n _ _ rk ways _ (hr.o.now hN) (hw.o.now hN) hH v kk bk hn u5 uc).mono ?_))
 rintro v2 w2 ⟨EG,cL,YC,CJ,bl⟩
 replace hN:aH w none_ w2 [_,_]:=hN.fw cL bl
 clear cL bl
 refine⟨(hN.sb [1]),?_⟩
 refine RQ.bW rfl (cn ako rfl rfl rfl rfl rfl ((zP n _ _ rk ways _ (hr.o.now hN) (hw.o.now hN) hH _ EG (cA (rk.length:Int) kk) bk (hN.sm 0 rfl) YC hn (by omega)).mono ?_))
 rintro v3 w3 ⟨G6,cL,Rr,bl⟩
 replace hN:aH w none_ w3 [_,_,_]:=hN.fw cL bl
 clear cL bl
 refine⟨(hN.sb [2]),?_⟩
 refine RQ.an (v:=v3) rfl (fun w hS=>ai) (RQ.bq (aA (RW.ret (bc (RV.tmp rfl) ?_))))
 exact⟨_,hN.fL 0 rfl,YC.sub Rr,acU Rr.length_le CJ,hN.aX⟩
theorem wC (n:Nat) (rv wv:Value) (rk:List Int) (ways:List I5) (w:World) (hr:Sl vI w rv rk) (hw:Sm aV w wv ways) (hH:De n rk ways) (v kk:Int) (bk:Bool) (hn:n≤12) (u5:0≤v) (uc:v<n):aM acD 64 #[.agg #[rv,wv],.int .i64 v,.int .i64 kk,.bool (decide (bk=true))] w fun r w'=>∃out,eB vI 3 w' w.heap.size r out∧mC n rk (cA (rk.length:Int) kk) out∧out.length≤n∧Ext w w':=by
 refine aM.aZ ai2 ?_
 rw[kE]
 have hN:=aH.nil w none_
 have ui:=hH.len
 refine RW.aN ?_
 refine RL.aL (bJ (cs:=[rv,wv]) rfl rfl hN ?_)
 clear hN
 intro g1 w1 (hN:aH w none_ w1 [_])
 refine RL.ag (v:=vN) ai (RL.bY (RL.ag (aE (cs:=[rv,wv]) acE dq (hN.aJ 0 rfl)) (RL.ag (v:=.int .i64 (kk)) U ?_)))
 refine RL.aL (bu ahi rfl rfl rfl rfl ((qD _ _ rk kk _ (hr.o.now hN)).mono ?_))
 rintro _ w2 ⟨rfl,bl⟩
 replace hN:=hN.ext bl
 clear bl
 refine RL.ag (v:=.int .i64 ((cA (rk.length:Int) kk))) ai (RL.bY (RL.ag (aE (cs:=[rv,wv]) acE dq (hN.aJ 0 rfl)) (RL.ag (v:=.int .i64 (v)) U (RL.ag (v:=.int .i64 ((cA (rk.length:Int) kk))) U (RL.ag (v:=.bool (decide (bk=true))) U ?_)))))
 refine RL.aL (dH ahg rfl rfl rfl rfl rfl rfl ((nO n _ _ rk ways _ (hr.o.now hN) (hw.o.now hN) hH v (cA (rk.length:Int) kk) bk hn u5 uc).mono ?_))
 rintro v3 w3 ⟨d3,cL,TQ,Yf,bl⟩
 replace hN:aH w none_ w3 [_,_]:=hN.cl cL bl
 clear cL bl
 have SI:=TQ.len
 refine RL.ag (v:=v3) ai (RL.bY (RL.ag (v:=vN) ai (RL.ak ?_)))
 iterate 2 refine RW.seq ?_
 refine RW.region (RL.ag (v:=.int .i64 (0)) ai (RL.ak (RW.block ?_)))
 replace hN:=hN.dy vI 3
 refine RW.loop (fun k R0 cv=>∃va:Value,∃acc:List Int,∃i:Nat,R0 4=vP g1∧R0 9=.int .i64 ((cA (rk.length:Int) kk))∧R0 10=v3∧R0 11=va∧R0 12=vJ i∧aH w none_ cv [.own vI 3 (va) (acc),.own vI 3 (v3) (d3),.aJ g1 [rv,wv] 28]∧(i+k=d3.length)∧(acc=tT rk d3 (cA (rk.length:Int) kk) i)∧(acc.length≤i)) (d3.length) ?_ ?_
 exact⟨vN,[],0,rfl,rfl,rfl,rfl,rfl,hN,by omega,rfl,ac8 _⟩
 clear hN
 rintro k R0 cv ⟨va,acc,i,cu,dN,db,eu,eK,hN,fP,ha,im⟩
 have cz:=hC cu dN db eu eK
 obtain⟨fV,rfl⟩:=cz
 clear cu dN db eu eK
 iterate 2 refine RW.seq ?_
 refine RW.region (RL.ag (v:=vJ i) U (RL.ag (v:=v3) U ?_))
 have qP:=(hN.sl 1 rfl).bw
 refine RL.ag (aQ acz (hN.sl 1 rfl)) (RL.ag (aK) (RL.ak ?_))
 refine RW.aG _ (fun cD=>?_) (fun cD=>?_)
 refine RW.skip (aA (RW.seq (RW.block (RW.aN (RL.ag (v:=v3) U (RL.ag (v:=vJ i) U (RL.ag (aC acz bI (hN.sl 1 rfl)) ?_)))))))
 have aO:=cQ (d3) i
 obtain⟨ap,bV⟩:=aO
 refine RL.ag (aF (m:=i) (a:=ap) acy (hN.sl 1 rfl) bV) (RL.ag (ck) (RL.ag (v:=.bool (decide (0≤ap))) U ?_))
 by_cases nG:0≤ap
 rw[decide_eq_true nG]
 refine RL.aw (ah acE rfl cc) (RL.aw (aj acz (hN.aJ 2 rfl)) (RL.aw (v:=vJ i) U (RL.aw (aC acz bI (hr.o.now hN)) ?_)))
 have aO:=cQ (rk) i
 obtain⟨aq,ir⟩:=aO
 refine RL.aw (aF (m:=i) (a:=aq) acy (hr.o.now hN) ir) (RL.aw (v:=.int .i64 ((cA (rk.length:Int) kk))) U (RL.aw (aK) (RL.ag (v:=.bool (decide (aq<(cA (rk.length:Int) kk)))) (al) (RL.ak ?_))))
 refine RW.aG _ (fun rF=>?_) (fun rF=>?_)
 refine RW.region (RL.ag (v:=va) U (RL.ag (v:=vJ i) U ?_))
 refine RL.aL (cx (enc:=vI) (l:=[(i:Int)]) (xs:=[.tmp 42]) acz bI mN rfl rfl (fun _=>rfl) rfl (by decide) (by decide) hN ?_)
 clear hN
 intro g6 w6 (hN:aH w none_ w6 [_,_,_,_])
 refine RL.aL (b9 acz fI rfl (fun _=>rfl) hN 1 rfl rfl (hN.sl 0 rfl) rfl (by(try simp only[acB,acH,acK,acS]);omega) (by decide) ?_)
 clear hN
 intro v7 w7 (hN:aH w none_ w7 [_,_,_,_])
 refine RL.ag (v:=v7) ai (RL.nil (ba (aA (RW.region (RL.ag (v:=vJ i) U (RL.ag (aD rfl rfl rfl (bg (by omega) (by omega))) (RL.ag (v:=.int .i64 ((i:Int)+1)) ai (RL.ak ?_))))))))
 exact⟨k-1,by omega,v7,acc++[(i:Int)],i+1,rfl,rfl,rfl,rfl,rfl,(hN.sb [1,2,3]),by omega,by unfold tT at*;rw[dc,if_pos (decide_eq_true (show D6 rk d3 (cA (rk.length:Int) kk) i from⟨⟨_,bV,nG⟩,_,ir,rF⟩)),ha];try rfl,by(try simp only[acB,acH]);omega⟩
 refine RW.skip (ba (aA (RW.region (RL.ag (v:=vJ i) U (RL.ag (aD rfl rfl rfl (bg (by omega) (by omega))) (RL.ag (v:=.int .i64 ((i:Int)+1)) ai (RL.ak ?_)))))))
 exact⟨k-1,by omega,va,acc,i+1,rfl,rfl,rfl,rfl,rfl,hN,by omega,by unfold tT at*;rw[dc,if_neg (fun h=>by obtain⟨⟨x1,pM,HI⟩,q1,vL,Ay⟩:=of_decide_eq_true h;rw[bV]at pM;cases pM;first|exact nG HI|(rw[ir]at vL;cases vL;exact rF Ay)),adw];exact ha,by(try simp only[acB,acH]);omega⟩
 rw[decide_eq_false nG]
 iterate 7 refine RL.bH ?_
 refine RL.ag (v:=.bool false) (aB) (RL.ak (RW.cj (RW.skip (ba (aA (RW.region (RL.ag (v:=vJ i) U (RL.ag (aD rfl rfl rfl (bg (by omega) (by omega))) ?_))))))))
 refine RL.ag (v:=.int .i64 ((i:Int)+1)) ai (RL.ak ?_)
 exact⟨k-1,by omega,va,acc,i+1,rfl,rfl,rfl,rfl,rfl,hN,by omega,by unfold tT at*;rw[dc,if_neg (fun h=>by obtain⟨⟨x1,pM,HI⟩,q1,vL,Ay⟩:=of_decide_eq_true h;rw[bV]at pM;cases pM;first|exact nG HI|(rw[ir]at vL;cases vL;exact rF Ay)),adw];exact ha,by(try simp only[acB,acH]);omega⟩
 refine RW.exit ?_
 iterate 2 refine bP ?_
 refine aY (aA (RW.aN (RL.ag (v:=va) U (RL.ag (v:=va) ai (RL.ak (RW.ret (bc (RV.tmp rfl) ?_)))))))
 have ic:i=n:=by omega
 subst ic
 subst ha
 exact⟨_,hN.ft 0 rfl,EY,im,hN.aX⟩
end Go.Proofs.YtngkdkbpgoddlaaGreat
namespace Go.Proofs.YtngkdkbpgoddlaaGreat
open Go.RowKit Go.Rl
open Go.Gr
theorem xB (n:Nat) (rv wv:Value) (rk:List Int) (ways:List I5) (sv tv:Value) (ss ts:List Int) (w:World) (hr:Sl vI w rv rk) (hw:Sm aV w wv ways) (hH:De n rk ways) (y8:Sl vI w sv ss) (ht:Sl vI w tv ts) (hn:n≤12) (ZL:∀x∈ss,0≤x∧x<n) (Qf:∀x∈ts,0≤x∧x<n) (kN:ss.length≤4096) (Li:ts.length≤4096):aM acD 62 #[.agg #[rv,wv],sv,tv] w fun r w'=>∃hs ls,aH w none_ w' [.own vh 25 r hs,.eD vI hs ls]∧qd ss ts ls∧ls.length=ss.length:=by
 refine aM.aZ Tryz.func62 ?_
 rw[iu]
 have hN:=aH.nil w none_
 refine RW.aN ?_
 refine RL.aL (bJ (cs:=[rv,wv]) rfl rfl hN ?_)
 clear hN
 intro g1 w1 (hN:aH w none_ w1 [_])
 refine RL.ag (v:=vN) ai (RL.bY (RL.ag (v:=vN) ai (RL.ak ?_)))
 iterate 2 refine RW.seq ?_
 replace hN:=hN.dy vh 25
 replace hN:=hN.jX vI
 replace hN:aH w none_ w1 [.eD vI ([]) ([]),.own vh 25 (vN) ([]),.aJ g1 [rv,wv] 28]:=hN
 refine RW.region (RL.ag (v:=.int .i64 (0)) ai (RL.ak (RW.block ?_)))
 refine RW.loop (fun k R0 cv=>∃va:Value,∃hs:List Hd,∃ls:List (List Int),∃i:Nat,R0 1=sv∧R0 2=tv∧R0 3=vP g1∧R0 7=va∧R0 8=vJ i∧aH w none_ cv [.eD vI (hs) (ls),.own vh 25 (va) (hs),.aJ g1 [rv,wv] 28]∧(i+k=ss.length)∧(ls.length=i)∧(hs.length=i)∧(qd ss ts ls)) (ss.length) ?_ ?_
 exact⟨vN,[],[],0,rfl,rfl,rfl,rfl,rfl,hN,by omega,rfl,rfl,qd.nil _ _⟩
 clear hN
 rintro k R0 cv ⟨va,hs,ls,i,bN,bQ,cb,cC,cM,hN,fP,Br,OR,hT⟩
 have cz:=hC bN bQ cb cC cM
 obtain⟨fV,rfl⟩:=cz
 clear bN bQ cb cC cM
 iterate 2 refine RW.seq ?_
 refine RW.region (RL.ag (v:=vJ i) U (RL.ag (v:=sv) U ?_))
 have iH:=(y8.o.now hN).bw
 refine RL.ag (aQ acz (y8.o.now hN)) (RL.ag (aK) (RL.ak ?_))
 refine RW.aG _ (fun cD=>?_) (fun cD=>?_)
 refine RW.skip (aA (RW.seq (RW.block ?_)))
 replace hN:=hN.ext (Ext.drew cv)
 refine RW.bA (fun u=>aH w none_ u [.eD vI (hs) (ls),.aJ g1 [rv,wv] 28]) 11 [(0,0),(1,0),(2,0),(3,0),(4,0),(5,0),(6,0),(7,1),(8,1),(9,1),(10,0)] (by intro _ _ _ h;exact h) (hN.sb [0,2]) (RQ.an (v:=va) rfl (fun w hS=>U) (RQ.an rfl (fun w hS=>(aE (cs:=[rv,wv]) acE dq (hS.aJ 1 rfl))) (RQ.an (v:=sv) rfl (fun w hS=>U) (RQ.an (v:=vJ i) rfl (fun w hS=>U) (RQ.an rfl (fun w hS=>(aC acz bI (y8.o.now hS))) ?_)))))
 have aO:=cQ (ss) i
 obtain⟨ap,bV⟩:=aO
 refine RQ.an rfl (fun w hS=>(aF (m:=i) (a:=ap) acy (y8.o.now hS) bV)) ?_
 have aO:=ZL ap (acC bV)
 obtain⟨CU,vT⟩:=aO
 refine RQ.an (v:=tv) rfl (fun w hS=>U) ?_
 refine RQ.bW rfl (cn akl rfl rfl rfl rfl rfl ((Cl n _ _ rk ways _ ts _ (hr.o.now hN) (hw.o.now hN) hH (ht.o.now hN) ap hn CU vT Qf Li).mono ?_))
 rintro v3 w3 ⟨G6,cL,OE,Qp,Um,bl⟩
 replace hN:aH w none_ w3 [_,_,_,_]:=hN.cl cL bl
 clear cL bl
 refine⟨(hN.sb [1,3]),?_⟩
 have aO:=(hN.sl 0 rfl).hd
 obtain⟨h5,fF⟩:=aO
 subst fF
 refine RQ.bW rfl (cx (enc:=vh) (l:=[h5]) (xs:=[.tmp 22]) acQ cc zi rfl rfl (fun _=>rfl) rfl (by decide) (by decide) hN ?_)
 clear hN
 intro g4 w4 (hN:aH w none_ w4 [_,_,_,_,_])
 refine⟨(hN.sb [2,4]),?_⟩
 refine RQ.bW rfl (b9 acQ tY rfl kh hN 3 rfl rfl (hN.sl 0 rfl) rfl (by(try simp only[acB,acH,acK,acS]);omega) (by decide) ?_)
 clear hN
 intro v6 w6 (hN:aH w none_ w6 [_,_,_,_,_])
 refine⟨(hN.sb [2,4]),?_⟩
 refine RQ.an (v:=v6) rfl (fun w hS=>ai) (RQ.bq (ba (aA (RW.region (RL.ag (v:=vJ i) U (RL.ag (aD rfl rfl rfl (bg (by omega) (by omega))) (RL.ag (v:=.int .i64 ((i:Int)+1)) ai (RL.ak ?_))))))))
 replace hN:aH w none_ w6 [_,_,_,_]:=aH.kW (L:=[_,_,_,_]) (hN.sb [1,0,2,3,4]) 1 rfl
 replace hN:aH w none_ w6 [.own vh 25 (.slice (some ⟨g4,0,none⟩) 1 1) ([h5]),.eD vI (hs++[h5]) (ls++[G6]),.own vh 25 (v6) (hs++[h5]),.aJ g1 [rv,wv] 28]:=hN
 exact⟨k-1,by omega,v6,hs++[h5],ls++[G6],i+1,rfl,rfl,rfl,rfl,rfl,(hN.sb [1,2,3]),by omega,by rw[acB,Br];rfl,by rw[acB,OR];rfl,hT.snoc (by rw[Br];exact bV) OE Qp Um⟩
 refine RW.exit ?_
 iterate 2 refine bP ?_
 refine aY (aA (RW.aN (RL.ag (v:=va) U (RL.ag (v:=va) ai (RL.ak (RW.ret (bc (RV.tmp rfl) ?_)))))))
 exact⟨hs,ls,hN.sb [1,0],hT,by omega⟩
end Go.Proofs.YtngkdkbpgoddlaaGreat
namespace Go.Proofs.YtngkdkbpgoddlaaGreat
open Go.RowKit Go.Rl
open Go.Gr
theorem Ej (n:Nat) (rv wv:Value) (rk:List Int) (ways:List I5) (w:World) (hr:Sl vI w rv rk) (hw:Sm aV w wv ways) (hH:De n rk ways) (kk:Int) (hn:n≤12):aM acD 26 #[.agg #[rv,wv],.int .i64 kk] w fun r w'=>∃gv fv ov iv cW cX Qh far gM outs gI jC E3 so E4 si,r=.agg #[gv,fv,ov,iv,cW,cX]∧aH w none_ w' [.own vI 3 gv (b8 rk (cA (rk.length:Int) kk) rk.length),.own vh 25 fv Qh,.eD vI Qh far,.own vh 118 ov gM,.ed bG gM outs,.own vh 118 iv gI,.ed bG gI jC,.own vh 25 cW E3,.eD vI E3 so,.own vh 25 cX E4,.eD vI E4 si]∧mB n rk (cA (rk.length:Int) kk) (b8 rk (cA (rk.length:Int) kk) rk.length) far outs jC so si:=by
 refine aM.aZ Tryz.func26 ?_
 rw[cS]
 have hN:=aH.nil w none_
 have ui:=hH.len
 have Qf:∀x∈(b8 rk (cA (rk.length:Int) kk) rk.length),0≤x∧x<n:=fun x hx=>by have h:=nu hx;exact⟨h.1,by omega⟩
 have Li:(b8 rk (cA (rk.length:Int) kk) rk.length).length≤4096:=by have:(b8 rk (cA (rk.length:Int) kk) rk.length).length≤rk.length:=dZ _ _;omega
 refine RW.aN ?_
 refine RL.aL (bJ (cs:=[rv,wv]) rfl rfl hN ?_)
 clear hN
 intro g1 w1 (hN:aH w none_ w1 [_])
 refine RL.aL (bz (cs:=[vN,vN,vN,vN,vN,vN]) qn rfl hN ?_)
 clear hN
 intro g2 w2 (hN:aH w none_ w2 [_,_])
 refine RL.bY (RL.ag (aE (cs:=[rv,wv]) acE dq (hN.aJ 1 rfl)) (RL.ag (v:=.int .i64 (kk)) U ?_))
 refine RL.aL (bu Tryz.func61 rfl rfl rfl rfl ((AN n _ _ rk ways _ (hr.o.now hN) (hw.o.now hN) hH kk hn).mono ?_))
 rintro v3 w3 ⟨cL,bl⟩
 replace hN:aH w none_ w3 [_,_,_]:=hN.cl (l:=(b8 rk (cA (rk.length:Int) kk) rk.length)) cL bl
 clear cL bl
 refine RL.ag (v:=v3) ai (RL.bY (RL.ag (v:=v3) U (RL.ag (aE (cs:=[rv,wv]) acE dq (hN.aJ 2 rfl)) ?_)))
 iterate 2 refine RL.ag (v:=v3) U ?_
 refine RL.aL (cn Tryz.func62 rfl rfl rfl rfl rfl ((xB n _ _ rk ways _ _ ((b8 rk (cA (rk.length:Int) kk) rk.length)) ((b8 rk (cA (rk.length:Int) kk) rk.length)) _ (hr.o.now hN) (hw.o.now hN) hH (hN.sl 0 rfl) (hN.sl 0 rfl) hn Qf Qf Li Li).mono ?_))
 rintro v4 w4 ⟨rr,J5,cE,hT4,Wa⟩
 replace hN:aH w none_ w4 [_,_,_,_,_]:=hN.fG cE
 clear cE
 refine RL.ag (bR (cs:=[v3,v4,vN,vN,vN,vN]) acR qn (places:=#[(0,1),(1,1),(2,1),(3,1),(4,1),(5,1)]) (by intro w;kernel_rfl) (pl:=[(0,.tmp 11),(1,.tmp 15)]) rfl (ps:=[(0,v3),(1,v4)]) rfl (zc:=[vN,vN,vN,vN,vN,vN]) rfl (aP (vs:=[v3]) (hN.sl 2 rfl).cK rfl (acA rfl) (aP (vs:=[v4]) (hN.sl 0 rfl).cK rfl (acA rfl) rfl))) ?_
 refine RL.aL (bz (cs:=[vN,vN,vN,vN,vN,vN]) qn rfl hN ?_)
 clear hN
 intro g5 w5 (hN:aH w none_ w5 [_,_,_,_,_,_])
 refine RL.aL (aS (vs:=[v3,v4,vN,vN,vN,vN]) iA rfl rfl rfl (by intro u hu;simp only[ac6,ac0,or_false]at hu;rcases hu with rfl|rfl|rfl|rfl|rfl|rfl<;>first|rfl|exact(hN.sl 1 rfl).bT|exact(hN.sl 3 rfl).bT) hN 0 rfl rfl ?_)
 clear hN
 intro w6 (hN:aH w none_ w6 [_,_,_,_,_,_])
 refine RL.ak ?_
 iterate 2 refine RW.seq ?_
 replace hN:=hN.dy vh 118
 replace hN:=hN.yC bG
 replace hN:=hN.dy vh 118
 replace hN:=hN.yC bG
 replace hN:=hN.dy vh 25
 replace hN:=hN.jX vI
 replace hN:=hN.dy vh 25
 replace hN:=hN.jX vI
 replace hN:aH w none_ w6 [.eD vI ([]) ([]),.own vh 25 (vN) ([]),.eD vI ([]) ([]),.own vh 25 (vN) ([]),.ed bG ([]) ([]),.own vh 118 (vN) ([]),.ed bG ([]) ([]),.own vh 118 (vN) ([]),.aJ g5 [v3,v4,vN,vN,vN,vN] 32,.own vh 25 (v4) (rr),.eD vI (rr) (J5),.own vI 3 (v3) ((b8 rk (cA (rk.length:Int) kk) rk.length)),.aJ g2 [vN,vN,vN,vN,vN,vN] 32,.aJ g1 [rv,wv] 28]:=hN
 refine RW.region (RL.ag (v:=.int .i64 (0)) ai (RL.ak (RW.block ?_)))
 refine RW.loop (fun k R0 cv=>∃P6:Value,∃u7:List Hd,∃outs:List (List I2),∃J1:Value,∃u6:List Hd,∃jC:List (List I2),∃Dl:Value,∃xa:List Hd,∃so:List (List Int),∃yZ:Value,∃wZ:List Hd,∃si:List (List Int),∃i:Nat,R0 1=.int .i64 (kk)∧R0 2=vP g1∧R0 4=vP g2∧R0 6=vP g5∧R0 7=vJ i∧aH w none_ cv [.eD vI (wZ) (si),.own vh 25 (yZ) (wZ),.eD vI (xa) (so),.own vh 25 (Dl) (xa),.ed bG (u6) (jC),.own vh 118 (J1) (u6),.ed bG (u7) (outs),.own vh 118 (P6) (u7),.aJ g5 [v3,v4,P6,J1,Dl,yZ] 32,.own vh 25 (v4) (rr),.eD vI (rr) (J5),.own vI 3 (v3) ((b8 rk (cA (rk.length:Int) kk) rk.length)),.aJ g2 [vN,vN,vN,vN,vN,vN] 32,.aJ g1 [rv,wv] 28]∧(i+k=rk.length)∧(outs.length=i)∧(u7.length=i)∧(∀r∈outs,iz n rk (cA (rk.length:Int) kk) r∧r.length≤n)∧(jC.length=i)∧(u6.length=i)∧(∀r∈jC,iz n rk (cA (rk.length:Int) kk) r∧r.length≤n)∧(so.length=i)∧(xa.length=i)∧(∀r∈so,mC n rk (cA (rk.length:Int) kk) r∧r.length≤n)∧(si.length=i)∧(wZ.length=i)∧(∀r∈si,mC n rk (cA (rk.length:Int) kk) r∧r.length≤n)) (rk.length) ?_ ?_
 exact⟨vN,[],[],vN,[],[],vN,[],[],vN,[],[],0,rfl,rfl,rfl,rfl,rfl,hN,by omega,rfl,rfl,(fun r hr=>absurd hr ac0),rfl,rfl,(fun r hr=>absurd hr ac0),rfl,rfl,(fun r hr=>absurd hr ac0),rfl,rfl,(fun r hr=>absurd hr ac0)⟩
 clear hN
 rintro k R0 cv ⟨P6,u7,outs,J1,u6,jC,Dl,xa,so,yZ,wZ,si,i,bN,bQ,cu,cV,cC,hN,fP,OE,hh3,X8,hl4,hh4,X7,hl5,hh5,X6,hl6,hh6,X5⟩
 have cz:=hC bN bQ cu cV cC
 obtain⟨fV,rfl⟩:=cz
 clear bN bQ cu cV cC
 iterate 2 refine RW.seq ?_
 refine RW.region (RL.ag (v:=vJ i) U (RL.ag (ah acE rfl cc) (RL.ag (aj acz (hN.aJ 13 rfl)) ?_)))
 have Fm:=(hr.o.now hN).bw
 refine RL.ag (aQ acz (hr.o.now hN)) (RL.ag (aK) (RL.ak ?_))
 refine RW.aG _ (fun cD=>?_) (fun cD=>?_)
 refine RW.skip (aA (RW.seq (RW.block (RW.seq ?_))))
 have u5:0≤(i:Int):=by omega
 have uc:(i:Int)<n:=by omega
 replace hN:=hN.ext (Ext.drew cv)
 refine RW.bA (fun u=>aH w none_ u [.eD vI (wZ) (si),.own vh 25 (yZ) (wZ),.eD vI (xa) (so),.own vh 25 (Dl) (xa),.ed bG (u6) (jC),.own vh 118 (J1) (u6),.ed bG (u7) (outs),.aJ g5 [v3,v4,P6,J1,Dl,yZ] 32,.own vh 25 (v4) (rr),.eD vI (rr) (J5),.own vI 3 (v3) ((b8 rk (cA (rk.length:Int) kk) rk.length)),.aJ g2 [vN,vN,vN,vN,vN,vN] 32,.aJ g1 [rv,wv] 28]) 9 [(0,0),(1,0),(2,0),(3,0),(4,0),(5,1),(6,1),(7,1),(8,0),(9,2)] (by intro _ _ _ h;exact h) (hN.sb [0,1,2,3,4,5,6,8,9,10,11,12,13]) (RQ.an rfl (fun w hS=>(ah acR rfl je)) (RQ.an rfl (fun w hS=>(aj ac5 (hS.aJ 7 rfl))) (RQ.an rfl (fun w hS=>(aE (cs:=[rv,wv]) acE dq (hS.aJ 12 rfl))) (RQ.an (v:=vJ i) rfl (fun w hS=>U) (RQ.an (v:=.int .i64 (kk)) rfl (fun w hS=>U) ?_)))))
 refine RQ.bW rfl (dH ai1 rfl rfl rfl rfl rfl rfl ((xg n _ _ rk ways _ (hr.o.now hN) (hw.o.now hN) hH (i:Int) kk false hn u5 uc).mono ?_))
 rintro v8 w8 ⟨zU,cL,hG8,hl8,bl⟩
 replace hN:aH w none_ w8 [_,_,_,_,_,_,_,_,_,_,_,_,_,_,_]:=hN.fw cL bl
 clear cL bl
 refine⟨(hN.sb [1,2,3,4,5,6,7,9,10,11,12,13,14]),?_⟩
 have aO:=(hN.sm 0 rfl).hd
 obtain⟨lU,fF⟩:=aO
 subst fF
 refine RQ.bW rfl (cx (enc:=vh) (l:=[lU]) (xs:=[.tmp 29]) ac5 lx Ga rfl rfl (fun _=>rfl) rfl (by decide) (by decide) hN ?_)
 clear hN
 intro g9 w9 (hN:aH w none_ w9 [_,_,_,_,_,_,_,_,_,_,_,_,_,_,_,_])
 refine⟨(hN.sb [2,3,4,5,6,7,8,10,11,12,13,14,15]),?_⟩
 refine RQ.bW rfl (b9 ac5 Cv rfl kh hN 9 rfl rfl (hN.sl 0 rfl) rfl (by(try simp only[acB,acH,acK,acS]);omega) (by decide) ?_)
 clear hN
 intro v11 kY (hN:aH w none_ kY [_,_,_,_,_,_,_,_,_,_,_,_,_,_,_,_])
 refine⟨(hN.sb [2,3,4,5,6,7,8,10,11,12,13,14,15]),?_⟩
 refine RQ.an rfl (fun w hS=>(ah acR rfl je)) ?_
 refine RQ.last rfl rfl (b7 je rfl rfl (hN.sl 9 rfl).cK (hN.sl 9 rfl).bT hN 10 rfl (acA rfl) ?_)
 clear hN
 intro kI (hN:aH w none_ kI [_,_,_,_,_,_,_,_,_,_,_,_,_,_,_,_])
 replace hN:aH w none_ kI [_,_,_,_,_,_,_,_,_,_,_,_,_,_,_]:=aH.uQ (L:=[_,_,_,_,_,_,_,_,_,_,_,_,_,_,_]) (hN.sb [1,0,2,3,4,5,6,7,8,9,10,11,12,13,14,15]) 7 rfl
 replace hN:aH w none_ kI [.own vh 118 (.slice (some ⟨g9,0,none⟩) 1 1) ([lU]),.eD vI (wZ) (si),.own vh 25 (yZ) (wZ),.eD vI (xa) (so),.own vh 25 (Dl) (xa),.ed bG (u6) (jC),.own vh 118 (J1) (u6),.ed bG (u7++[lU]) (outs++[zU]),.own vh 118 (v11) (u7++[lU]),.aJ g5 [v3,v4,v11,J1,Dl,yZ] 32,.own vh 25 (v4) (rr),.eD vI (rr) (J5),.own vI 3 (v3) ((b8 rk (cA (rk.length:Int) kk) rk.length)),.aJ g2 [vN,vN,vN,vN,vN,vN] 32,.aJ g1 [rv,wv] 28]:=hN
 refine RZ.dW (aA (RW.seq ?_))
 replace hN:=hN.ext (Ext.drew kI)
 refine RW.bA (fun u=>aH w none_ u [.own vh 118 (.slice (some ⟨g9,0,none⟩) 1 1) ([lU]),.eD vI (wZ) (si),.own vh 25 (yZ) (wZ),.eD vI (xa) (so),.own vh 25 (Dl) (xa),.ed bG (u6) (jC),.ed bG (u7++[lU]) (outs++[zU]),.own vh 118 (v11) (u7++[lU]),.aJ g5 [v3,v4,v11,J1,Dl,yZ] 32,.own vh 25 (v4) (rr),.eD vI (rr) (J5),.own vI 3 (v3) ((b8 rk (cA (rk.length:Int) kk) rk.length)),.aJ g2 [vN,vN,vN,vN,vN,vN] 32,.aJ g1 [rv,wv] 28]) 9 [(0,0),(1,0),(2,0),(3,0),(4,0),(5,1),(6,1),(7,1),(8,0),(9,2)] (by intro _ _ _ h;exact h) (hN.sb [0,1,2,3,4,5,7,8,9,10,11,12,13,14]) (RQ.an rfl (fun w hS=>(ah acR rfl je)) (RQ.an rfl (fun w hS=>(aj ac5 (hS.aJ 8 rfl))) (RQ.an rfl (fun w hS=>(aE (cs:=[rv,wv]) acE dq (hS.aJ 13 rfl))) (RQ.an (v:=vJ i) rfl (fun w hS=>U) (RQ.an (v:=.int .i64 (kk)) rfl (fun w hS=>U) ?_)))))
 refine RQ.bW rfl (dH ai1 rfl rfl rfl rfl rfl rfl ((xg n _ _ rk ways _ (hr.o.now hN) (hw.o.now hN) hH (i:Int) kk true hn u5 uc).mono ?_))
 rintro wm lX ⟨wM,cL,Wj,Vi,bl⟩
 replace hN:aH w none_ lX [_,_,_,_,_,_,_,_,_,_,_,_,_,_,_,_]:=hN.fw cL bl
 clear cL bl
 refine⟨(hN.sb [1,2,3,4,5,6,8,9,10,11,12,13,14,15]),?_⟩
 have aO:=(hN.sm 0 rfl).hd
 obtain⟨yx,fF⟩:=aO
 subst fF
 refine RQ.bW rfl (cx (enc:=vh) (l:=[yx]) (xs:=[.tmp 38]) ac5 lx Ga rfl rfl (fun _=>rfl) rfl (by decide) (by decide) hN ?_)
 clear hN
 intro MV oI (hN:aH w none_ oI [_,_,_,_,_,_,_,_,_,_,_,_,_,_,_,_,_])
 refine⟨(hN.sb [2,3,4,5,6,7,9,10,11,12,13,14,15,16]),?_⟩
 refine RQ.bW rfl (b9 ac5 Cv rfl kh hN 8 rfl rfl (hN.sl 0 rfl) rfl (by(try simp only[acB,acH,acK,acS]);omega) (by decide) ?_)
 clear hN
 intro u4 qq (hN:aH w none_ qq [_,_,_,_,_,_,_,_,_,_,_,_,_,_,_,_,_])
 refine⟨(hN.sb [2,3,4,5,6,7,9,10,11,12,13,14,15,16]),?_⟩
 refine RQ.an rfl (fun w hS=>(ah acR rfl je)) ?_
 refine RQ.last rfl rfl (b7 je rfl rfl (hN.sl 8 rfl).cK (hN.sl 8 rfl).bT hN 11 rfl (acA rfl) ?_)
 clear hN
 intro u3 (hN:aH w none_ u3 [_,_,_,_,_,_,_,_,_,_,_,_,_,_,_,_,_])
 replace hN:aH w none_ u3 [_,_,_,_,_,_,_,_,_,_,_,_,_,_,_,_]:=aH.uQ (L:=[_,_,_,_,_,_,_,_,_,_,_,_,_,_,_,_]) (hN.sb [1,0,2,3,4,5,6,7,8,9,10,11,12,13,14,15,16]) 6 rfl
 replace hN:aH w none_ u3 [.own vh 118 (.slice (some ⟨MV,0,none⟩) 1 1) ([yx]),.own vh 118 (.slice (some ⟨g9,0,none⟩) 1 1) ([lU]),.eD vI (wZ) (si),.own vh 25 (yZ) (wZ),.eD vI (xa) (so),.own vh 25 (Dl) (xa),.ed bG (u6++[yx]) (jC++[wM]),.own vh 118 (u4) (u6++[yx]),.ed bG (u7++[lU]) (outs++[zU]),.own vh 118 (v11) (u7++[lU]),.aJ g5 [v3,v4,v11,u4,Dl,yZ] 32,.own vh 25 (v4) (rr),.eD vI (rr) (J5),.own vI 3 (v3) ((b8 rk (cA (rk.length:Int) kk) rk.length)),.aJ g2 [vN,vN,vN,vN,vN,vN] 32,.aJ g1 [rv,wv] 28]:=hN
 refine RZ.dW (aA (RW.seq ?_))
 replace hN:=hN.ext (Ext.drew u3)
 refine RW.bA (fun u=>aH w none_ u [.own vh 118 (.slice (some ⟨MV,0,none⟩) 1 1) ([yx]),.own vh 118 (.slice (some ⟨g9,0,none⟩) 1 1) ([lU]),.eD vI (wZ) (si),.own vh 25 (yZ) (wZ),.eD vI (xa) (so),.ed bG (u6++[yx]) (jC++[wM]),.own vh 118 (u4) (u6++[yx]),.ed bG (u7++[lU]) (outs++[zU]),.own vh 118 (v11) (u7++[lU]),.aJ g5 [v3,v4,v11,u4,Dl,yZ] 32,.own vh 25 (v4) (rr),.eD vI (rr) (J5),.own vI 3 (v3) ((b8 rk (cA (rk.length:Int) kk) rk.length)),.aJ g2 [vN,vN,vN,vN,vN,vN] 32,.aJ g1 [rv,wv] 28]) 9 [(0,0),(1,0),(2,0),(3,0),(4,0),(5,1),(6,1),(7,1),(8,0),(9,2)] (by intro _ _ _ h;exact h) (hN.sb [0,1,2,3,4,6,7,8,9,10,11,12,13,14,15]) (RQ.an rfl (fun w hS=>(ah acR rfl fH)) (RQ.an rfl (fun w hS=>(aj acQ (hS.aJ 9 rfl))) (RQ.an rfl (fun w hS=>(aE (cs:=[rv,wv]) acE dq (hS.aJ 14 rfl))) (RQ.an (v:=vJ i) rfl (fun w hS=>U) (RQ.an (v:=.int .i64 (kk)) rfl (fun w hS=>U) ?_)))))
 refine RQ.bW rfl (dH ai2 rfl rfl rfl rfl rfl rfl ((wC n _ _ rk ways _ (hr.o.now hN) (hw.o.now hN) hH (i:Int) kk false hn u5 uc).mono ?_))
 rintro T5 vd ⟨Dv,cL,Wi,Vh,bl⟩
 replace hN:aH w none_ vd [_,_,_,_,_,_,_,_,_,_,_,_,_,_,_,_,_]:=hN.cl cL bl
 clear cL bl
 refine⟨(hN.sb [1,2,3,4,5,7,8,9,10,11,12,13,14,15,16]),?_⟩
 have aO:=(hN.sl 0 rfl).hd
 obtain⟨Jt,fF⟩:=aO
 subst fF
 refine RQ.bW rfl (cx (enc:=vh) (l:=[Jt]) (xs:=[.tmp 47]) acQ cc zi rfl rfl (fun _=>rfl) rfl (by decide) (by decide) hN ?_)
 clear hN
 intro TU zo (hN:aH w none_ zo [_,_,_,_,_,_,_,_,_,_,_,_,_,_,_,_,_,_])
 refine⟨(hN.sb [2,3,4,5,6,8,9,10,11,12,13,14,15,16,17]),?_⟩
 refine RQ.bW rfl (b9 acQ tY rfl kh hN 7 rfl rfl (hN.sl 0 rfl) rfl (by(try simp only[acB,acH,acK,acS]);omega) (by decide) ?_)
 clear hN
 intro FT BB (hN:aH w none_ BB [_,_,_,_,_,_,_,_,_,_,_,_,_,_,_,_,_,_])
 refine⟨(hN.sb [2,3,4,5,6,8,9,10,11,12,13,14,15,16,17]),?_⟩
 refine RQ.an rfl (fun w hS=>(ah acR rfl fH)) ?_
 refine RQ.last rfl rfl (b7 fH rfl rfl (hN.sl 7 rfl).cK (hN.sl 7 rfl).bT hN 12 rfl (acA rfl) ?_)
 clear hN
 intro yY (hN:aH w none_ yY [_,_,_,_,_,_,_,_,_,_,_,_,_,_,_,_,_,_])
 replace hN:aH w none_ yY [_,_,_,_,_,_,_,_,_,_,_,_,_,_,_,_,_]:=aH.kW (L:=[_,_,_,_,_,_,_,_,_,_,_,_,_,_,_,_,_]) (hN.sb [1,0,2,3,4,5,6,7,8,9,10,11,12,13,14,15,16,17]) 5 rfl
 replace hN:aH w none_ yY [.own vh 25 (.slice (some ⟨TU,0,none⟩) 1 1) ([Jt]),.own vh 118 (.slice (some ⟨MV,0,none⟩) 1 1) ([yx]),.own vh 118 (.slice (some ⟨g9,0,none⟩) 1 1) ([lU]),.eD vI (wZ) (si),.own vh 25 (yZ) (wZ),.eD vI (xa++[Jt]) (so++[Dv]),.own vh 25 (FT) (xa++[Jt]),.ed bG (u6++[yx]) (jC++[wM]),.own vh 118 (u4) (u6++[yx]),.ed bG (u7++[lU]) (outs++[zU]),.own vh 118 (v11) (u7++[lU]),.aJ g5 [v3,v4,v11,u4,FT,yZ] 32,.own vh 25 (v4) (rr),.eD vI (rr) (J5),.own vI 3 (v3) ((b8 rk (cA (rk.length:Int) kk) rk.length)),.aJ g2 [vN,vN,vN,vN,vN,vN] 32,.aJ g1 [rv,wv] 28]:=hN
 refine RZ.dW (aA ?_)
 replace hN:=hN.ext (Ext.drew yY)
 refine RW.bA (fun u=>aH w none_ u [.own vh 25 (.slice (some ⟨TU,0,none⟩) 1 1) ([Jt]),.own vh 118 (.slice (some ⟨MV,0,none⟩) 1 1) ([yx]),.own vh 118 (.slice (some ⟨g9,0,none⟩) 1 1) ([lU]),.eD vI (wZ) (si),.eD vI (xa++[Jt]) (so++[Dv]),.own vh 25 (FT) (xa++[Jt]),.ed bG (u6++[yx]) (jC++[wM]),.own vh 118 (u4) (u6++[yx]),.ed bG (u7++[lU]) (outs++[zU]),.own vh 118 (v11) (u7++[lU]),.aJ g5 [v3,v4,v11,u4,FT,yZ] 32,.own vh 25 (v4) (rr),.eD vI (rr) (J5),.own vI 3 (v3) ((b8 rk (cA (rk.length:Int) kk) rk.length)),.aJ g2 [vN,vN,vN,vN,vN,vN] 32,.aJ g1 [rv,wv] 28]) 9 [(0,0),(1,0),(2,0),(3,0),(4,0),(5,1),(6,1),(7,1),(8,0),(9,2)] (by intro _ _ _ h;exact h) (hN.sb [0,1,2,3,5,6,7,8,9,10,11,12,13,14,15,16]) (RQ.an rfl (fun w hS=>(ah acR rfl fH)) (RQ.an rfl (fun w hS=>(aj acQ (hS.aJ 10 rfl))) (RQ.an rfl (fun w hS=>(aE (cs:=[rv,wv]) acE dq (hS.aJ 15 rfl))) (RQ.an (v:=vJ i) rfl (fun w hS=>U) (RQ.an (v:=.int .i64 (kk)) rfl (fun w hS=>U) ?_)))))
 refine RQ.bW rfl (dH ai2 rfl rfl rfl rfl rfl rfl ((wC n _ _ rk ways _ (hr.o.now hN) (hw.o.now hN) hH (i:Int) kk true hn u5 uc).mono ?_))
 rintro Tw zn ⟨Mh,cL,Wh,Vg,bl⟩
 replace hN:aH w none_ zn [_,_,_,_,_,_,_,_,_,_,_,_,_,_,_,_,_,_]:=hN.cl cL bl
 clear cL bl
 refine⟨(hN.sb [1,2,3,4,6,7,8,9,10,11,12,13,14,15,16,17]),?_⟩
 have aO:=(hN.sl 0 rfl).hd
 obtain⟨S4,fF⟩:=aO
 subst fF
 refine RQ.bW rfl (cx (enc:=vh) (l:=[S4]) (xs:=[.tmp 56]) acQ cc zi rfl rfl (fun _=>rfl) rfl (by decide) (by decide) hN ?_)
 clear hN
 intro Wq Dk (hN:aH w none_ Dk [_,_,_,_,_,_,_,_,_,_,_,_,_,_,_,_,_,_,_])
 refine⟨(hN.sb [2,3,4,5,7,8,9,10,11,12,13,14,15,16,17,18]),?_⟩
 refine RQ.bW rfl (b9 acQ tY rfl kh hN 6 rfl rfl (hN.sl 0 rfl) rfl (by(try simp only[acB,acH,acK,acS]);omega) (by decide) ?_)
 clear hN
 intro T4 FO (hN:aH w none_ FO [_,_,_,_,_,_,_,_,_,_,_,_,_,_,_,_,_,_,_])
 refine⟨(hN.sb [2,3,4,5,7,8,9,10,11,12,13,14,15,16,17,18]),?_⟩
 refine RQ.an rfl (fun w hS=>(ah acR rfl fH)) ?_
 refine RQ.last rfl rfl (b7 fH rfl rfl (hN.sl 6 rfl).cK (hN.sl 6 rfl).bT hN 13 rfl (acA rfl) ?_)
 clear hN
 intro Gn (hN:aH w none_ Gn [_,_,_,_,_,_,_,_,_,_,_,_,_,_,_,_,_,_,_])
 replace hN:aH w none_ Gn [_,_,_,_,_,_,_,_,_,_,_,_,_,_,_,_,_,_]:=aH.kW (L:=[_,_,_,_,_,_,_,_,_,_,_,_,_,_,_,_,_,_]) (hN.sb [1,0,2,3,4,5,6,7,8,9,10,11,12,13,14,15,16,17,18]) 4 rfl
 replace hN:aH w none_ Gn [.own vh 25 (.slice (some ⟨Wq,0,none⟩) 1 1) ([S4]),.own vh 25 (.slice (some ⟨TU,0,none⟩) 1 1) ([Jt]),.own vh 118 (.slice (some ⟨MV,0,none⟩) 1 1) ([yx]),.own vh 118 (.slice (some ⟨g9,0,none⟩) 1 1) ([lU]),.eD vI (wZ++[S4]) (si++[Mh]),.own vh 25 (T4) (wZ++[S4]),.eD vI (xa++[Jt]) (so++[Dv]),.own vh 25 (FT) (xa++[Jt]),.ed bG (u6++[yx]) (jC++[wM]),.own vh 118 (u4) (u6++[yx]),.ed bG (u7++[lU]) (outs++[zU]),.own vh 118 (v11) (u7++[lU]),.aJ g5 [v3,v4,v11,u4,FT,T4] 32,.own vh 25 (v4) (rr),.eD vI (rr) (J5),.own vI 3 (v3) ((b8 rk (cA (rk.length:Int) kk) rk.length)),.aJ g2 [vN,vN,vN,vN,vN,vN] 32,.aJ g1 [rv,wv] 28]:=hN
 refine RZ.dW (ba (aA (RW.region (RL.ag (v:=vJ i) U (RL.ag (aD rfl rfl rfl (bg (by omega) (by omega))) (RL.ag (v:=.int .i64 ((i:Int)+1)) ai (RL.ak ?_)))))))
 exact⟨k-1,by omega,v11,u7++[lU],outs++[zU],u4,u6++[yx],jC++[wM],FT,xa++[Jt],so++[Dv],T4,wZ++[S4],si++[Mh],i+1,rfl,rfl,rfl,rfl,rfl,(hN.sb [4,5,6,7,8,9,10,11,12,13,14,15,16,17]),by omega,by rw[acB,OE];rfl,by rw[acB,hh3];rfl,qc X8 ⟨hG8,hl8⟩,by rw[acB,hl4];rfl,by rw[acB,hh4];rfl,qc X7 ⟨Wj,Vi⟩,by rw[acB,hl5];rfl,by rw[acB,hh5];rfl,qc X6 ⟨Wi,Vh⟩,by rw[acB,hl6];rfl,by rw[acB,hh6];rfl,qc X5 ⟨Wh,Vg⟩⟩
 refine RW.exit ?_
 iterate 2 refine bP ?_
 refine aY (aA (RW.aN (RL.ag (aE (cs:=[v3,v4,P6,J1,Dl,yZ]) acR iA (hN.aJ 8 rfl)) ?_)))
 refine RL.aL (aS (vs:=[v3,v4,P6,J1,Dl,yZ]) iA rfl rfl rfl (by intro u hu;simp only[ac6,ac0,or_false]at hu;rcases hu with rfl|rfl|rfl|rfl|rfl|rfl<;>first|rfl|exact(hN.sl 1 rfl).bT|exact(hN.sl 11 rfl).bT|exact(hN.sl 3 rfl).bT|exact(hN.sl 5 rfl).bT|exact(hN.sl 7 rfl).bT|exact(hN.sl 9 rfl).bT) hN 12 rfl rfl ?_)
 clear hN
 intro Eb (hN:aH w none_ Eb [_,_,_,_,_,_,_,_,_,_,_,_,_,_])
 refine RL.ak (RW.ret (bc (RV.cell rfl rfl (hN.aJ 12 rfl) acR rfl iA) ?_))
 exact⟨_,_,_,_,_,_,_,_,_,_,_,_,_,_,_,_,rfl,hN.sb [11,9,10,7,6,5,4,3,2,1,0],⟨by rw[ui],hT4,Wa,X8,X7,X6,X5,by omega,by omega,by omega,by omega⟩⟩
end Go.Proofs.YtngkdkbpgoddlaaGreat
namespace Go.Proofs.YtngkdkbpgoddlaaGreat
open Go.RowKit Go.Rl
open Go.Gr
theorem lK (n:Nat) (iv lv ov:Value) (ins:List Int) (ls:List I5) (lost:List Int) (w:World) (hi:Sl vI w iv ins) (hl:Sm aV w lv ls) (ho:Sl vI w ov lost) (x:Int) (ui:ins.length=n):aM acD 186 #[.agg #[.int .i64 (n:Int),iv,lv,ov],.int .i64 x] w fun r w'=>r=.bool (decide (fS n ins x))∧Ext w w':=by
 refine aM.aZ afB ?_
 rw[cS]
 have hN:=aH.nil w none_
 refine RW.aN ?_
 refine RL.aL (bJ (cs:=[vJ n,iv,lv,ov]) rfl rfl hN ?_)
 clear hN
 intro g1 w1 (hN:aH w none_ w1 [_])
 refine RL.ag (v:=.bool false) ai (RL.ak (RW.seq ?_))
 by_cases u9:fS n ins x
 have qk:=u9.1
 have pM:=u9.2.1
 refine RW.region (RL.ag (v:=.int .i64 (x)) U (RL.ag (dB (ck) u9.1) (RL.ag (v:=.bool true) U (RL.aw (v:=.int .i64 (x)) U (RL.aw (ah acI rfl bI) (RL.aw (aj acy (hN.aJ 0 rfl)) (RL.aw (dB (aK) u9.2.1) (RL.ag (v:=.bool true) (al) (RL.ag (v:=.bool true) U ?_)))))))))
 refine RL.aw (ah acI rfl cc) (RL.aw (aj acz (hN.aJ 0 rfl)) (RL.aw (v:=.int .i64 (x)) U (RL.aw (aC acz bI (hi.o.now hN)) (RL.aw (aF (m:=(x).toNat) (a:=1) acy (hi.o.now hN) u9.2.2) (RL.aw (dB (ca) rfl) (RL.ag (v:=.bool true) (al) (RL.ag (v:=.bool true) ai (RL.ak ?_))))))))
 refine RW.ret (bc (RV.tmp rfl) ?_)
 exact⟨congrArg acV (decide_eq_true u9).symm,hN.aX⟩
 refine RW.region (RL.ag (v:=.int .i64 (x)) U (RL.ag (ck) (RL.ag (v:=.bool (decide (0≤x))) U ?_)))
 by_cases pV:0≤x
 rw[decide_eq_true pV]
 refine RL.aw (v:=.int .i64 (x)) U (RL.aw (ah acI rfl bI) (RL.aw (aj acy (hN.aJ 0 rfl)) (RL.aw (aK) (RL.ag (v:=.bool (decide (x<(n:Int)))) (al) (RL.ag (v:=.bool (decide (x<(n:Int)))) U ?_)))))
 by_cases IM:x<(n:Int)
 rw[decide_eq_true IM]
 refine RL.aw (ah acI rfl cc) (RL.aw (aj acz (hN.aJ 0 rfl)) (RL.aw (v:=.int .i64 (x)) U (RL.aw (aC acz bI (hi.o.now hN)) ?_)))
 have aO:=cQ (ins) ((x).toNat)
 obtain⟨ap,bV⟩:=aO
 refine RL.aw (aF (m:=(x).toNat) (a:=ap) acy (hi.o.now hN) bV) (RL.aw (cG (ca) (fun h=>u9 ⟨pV,IM,by rw[bV,h]⟩)) (RL.ag (v:=.bool false) (al) (RL.ag (v:=.bool false) ai (RL.ak (RW.ret (bc (RV.tmp rfl) ?_))))))
 exact⟨congrArg acV (decide_eq_false u9).symm,hN.aX⟩
 rw[decide_eq_false IM]
 iterate 6 refine RL.bH ?_
 refine RL.ag (v:=.bool false) (aB) (RL.ag (v:=.bool false) ai (RL.ak (RW.ret (bc (RV.tmp rfl) ?_))))
 exact⟨congrArg acV (decide_eq_false u9).symm,hN.aX⟩
 rw[decide_eq_false pV]
 iterate 4 refine RL.bH ?_
 refine RL.ag (v:=.bool false) (aB) (RL.ag (v:=.bool false) U ?_)
 iterate 6 refine RL.bH ?_
 refine RL.ag (v:=.bool false) (aB) (RL.ag (v:=.bool false) ai (RL.ak (RW.ret (bc (RV.tmp rfl) ?_))))
 exact⟨congrArg acV (decide_eq_false u9).symm,hN.aX⟩
theorem Lb (n:Nat) (iv lv ov:Value) (ins:List Int) (ls:List I5) (lost:List Int) (w:World) (hi:Sl vI w iv ins) (hl:Sm aV w lv ls) (ho:Sl vI w ov lost) (x:Int) (hh:fS n ins x∧ins.length=n):aM acD 186 #[.agg #[.int .i64 (n:Int),iv,lv,ov],.int .i64 x] w fun r w'=>r=.bool true∧Ext w w':=(lK n iv lv ov ins ls lost w hi hl ho x hh.2).mono fun r w' hr=>by rw[decide_eq_true hh.1]at hr;exact hr
theorem xQ (n:Nat) (iv lv ov:Value) (ins:List Int) (ls:List I5) (lost:List Int) (w:World) (hi:Sl vI w iv ins) (hl:Sm aV w lv ls) (ho:Sl vI w ov lost) (ui:ins.length=n) (hn:n≤4096):aM acD 183 #[.agg #[.int .i64 (n:Int),iv,lv,ov]] w fun r w'=>eB vI 3 w' w.heap.size r (placesOf ins n)∧Ext w w':=by
 refine aM.aZ akp ?_
 rw[cH]
 have hN:=aH.nil w none_
 refine RW.aN ?_
 refine RL.aL (bJ (cs:=[vJ n,iv,lv,ov]) rfl rfl hN ?_)
 clear hN
 intro g1 w1 (hN:aH w none_ w1 [_])
 refine RL.ag (v:=vN) ai (RL.bY (RL.ag (v:=vN) ai (RL.ak ?_)))
 iterate 2 refine RW.seq ?_
 refine RW.region (RL.ag (v:=.int .i64 (0)) ai (RL.ak (RW.block ?_)))
 replace hN:=hN.dy vI 3
 refine RW.loop (fun k R0 cv=>∃va:Value,∃acc:List Int,∃i:Nat,R0 1=vP g1∧R0 3=va∧R0 4=vJ i∧aH w none_ cv [.own vI 3 (va) (acc),.aJ g1 [vJ n,iv,lv,ov] 194]∧(i+k=n)∧(acc=placesOf ins i)∧(acc.length≤i)) (n) ?_ ?_
 exact⟨vN,[],0,rfl,rfl,rfl,hN,by omega,rfl,ac8 _⟩
 clear hN
 rintro k R0 cv ⟨va,acc,i,bN,cb,cu,hN,fP,ha,im⟩
 have cz:=k5 bN cb cu
 obtain⟨fV,rfl⟩:=cz
 clear bN cb cu
 iterate 2 refine RW.seq ?_
 refine RW.region (RL.ag (v:=vJ i) U (RL.ag (ah acI rfl bI) (RL.ag (aj acy (hN.aJ 1 rfl)) (RL.ag (aK) (RL.ak ?_)))))
 refine RW.aG _ (fun cD=>?_) (fun cD=>?_)
 refine RW.skip (aA (RW.seq (RW.block (RW.aN (RL.ag (ah acI rfl cc) (RL.ag (aj acz (hN.aJ 1 rfl)) (RL.ag (v:=vJ i) U (RL.ag (aC acz bI (hi.o.now hN)) ?_))))))))
 have aO:=cQ (ins) i
 obtain⟨ap,bV⟩:=aO
 refine RL.ag (aF (m:=i) (a:=ap) acy (hi.o.now hN) bV) (RL.ag (ca) (RL.ak ?_))
 refine RW.aG _ (fun rF=>?_) (fun rF=>?_)
 refine RW.region (RL.ag (v:=va) U (RL.ag (v:=vJ i) U ?_))
 refine RL.aL (cx (enc:=vI) (l:=[(i:Int)]) (xs:=[.tmp 18]) acz bI mN rfl rfl (fun _=>rfl) rfl (by decide) (by decide) hN ?_)
 clear hN
 intro g3 w3 (hN:aH w none_ w3 [_,_,_])
 refine RL.aL (b9 acz fI rfl (fun _=>rfl) hN 1 rfl rfl (hN.sl 0 rfl) rfl (by simp only[acH,acK,acS];omega) (by decide) ?_)
 clear hN
 intro v4 w4 (hN:aH w none_ w4 [_,_,_])
 refine RL.ag (v:=v4) ai (RL.nil (ba (aA (RW.region (RL.ag (v:=vJ i) U (RL.ag (aD rfl rfl rfl (bg (by omega) (by omega))) (RL.ag (v:=.int .i64 ((i:Int)+1)) ai (RL.ak ?_))))))))
 exact⟨k-1,by omega,v4,acc++[(i:Int)],i+1,rfl,rfl,rfl,(hN.sb [1,2]),by omega,by unfold placesOf at*;rw[dc,if_pos (decide_eq_true (by rw[bV,rF])),ha];try rfl,by(try simp only[acB,acH]);omega⟩
 refine RW.skip (ba (aA (RW.region (RL.ag (v:=vJ i) U (RL.ag (aD rfl rfl rfl (bg (by omega) (by omega))) (RL.ag (v:=.int .i64 ((i:Int)+1)) ai (RL.ak ?_)))))))
 exact⟨k-1,by omega,va,acc,i+1,rfl,rfl,rfl,hN,by omega,by unfold placesOf at*;rw[dc,if_neg (fun h=>rF (ac7 (bV.symm.trans (of_decide_eq_true h)))),adw];exact ha,by(try simp only[acB,acH]);omega⟩
 refine RW.exit ?_
 iterate 2 refine bP ?_
 refine aY (aA (RW.aN (RL.ag (v:=va) U (RL.ag (v:=va) ai (RL.ak (RW.ret (bc (RV.tmp rfl) ?_)))))))
 have ic:i=n:=by omega
 subst ic
 subst ha
 exact⟨hN.ft 0 rfl,hN.aX⟩
theorem gw (n:Nat) (iv lv ov:Value) (ins:List Int) (ls:List I5) (lost:List Int) (w:World) (hi:Sl vI w iv ins) (hl:Sm aV w lv ls) (ho:Sl vI w ov lost) (u v:Int):aM acD 137 #[.agg #[.int .i64 (n:Int),iv,lv,ov],.int .i64 u,.int .i64 v] w fun r w'=>r=Gj ls u v∧Ext w w':=by
 refine aM.aZ ad9 ?_
 rw[iu]
 have hN:=aH.nil w none_
 refine RW.aN ?_
 refine RL.aL (bJ (cs:=[vJ n,iv,lv,ov]) rfl rfl hN ?_)
 clear hN
 intro g1 w1 (hN:aH w none_ w1 [_])
 refine RL.aL (bz (cs:=[.int .i64 (0),.int .i64 (0),.int .i64 (0)]) eQ rfl hN ?_)
 clear hN
 intro g2 w2 (hN:aH w none_ w2 [_,_])
 refine RL.ag (v:=.bool false) ai (RL.ak ?_)
 iterate 2 refine RW.seq ?_
 refine RW.region (RL.ag (v:=.int .i64 (0)) ai (RL.ak (RW.block ?_)))
 refine RW.loop (fun k R0 cv=>∃i:Nat,R0 1=.int .i64 (u)∧R0 2=.int .i64 (v)∧R0 3=vP g1∧R0 6=vP g2∧R0 8=vJ i∧aH w none_ cv [.aJ g2 [.int .i64 (0),.int .i64 (0),.int .i64 (0)] 96,.aJ g1 [vJ n,iv,lv,ov] 194]∧(i+k=ls.length)∧(∀x∈ls.take i,¬(x.1=u∧x.2.1=v))) (ls.length) ?_ ?_
 exact⟨0,rfl,rfl,rfl,rfl,rfl,hN,by omega,fun x hx=>by cases hx⟩
 clear hN
 rintro k R0 cv ⟨i,bN,bQ,cb,cV,cM,hN,fP,fA⟩
 have cz:=hC bN bQ cb cV cM
 obtain⟨fV,rfl⟩:=cz
 clear bN bQ cb cV cM
 iterate 2 refine RW.seq ?_
 refine RW.region (RL.ag (v:=vJ i) U (RL.ag (ah acI rfl fo) (RL.ag (aj acZ (hN.aJ 1 rfl)) ?_)))
 have kH:=(hl.o.now hN).bw
 refine RL.ag (bO acZ (hl.o.now hN)) (RL.ag (aK) (RL.ak ?_))
 refine RW.aG _ (fun cD=>?_) (fun cD=>?_)
 refine RW.skip (aA (RW.seq (RW.block (RW.aN (RL.ag (ah acI rfl fo) (RL.ag (aj acZ (hN.aJ 1 rfl)) (RL.ag (v:=vJ i) U (RL.ag (aT acZ gZ aI (hl.o.now hN)) ?_))))))))
 have aO:=cQ (ls) i
 obtain⟨ap,bV⟩:=aO
 refine RL.ag (bm (m:=i) (b:=0) adf rfl bI aI (hl.o.now hN) bV) (RL.ag (bB (m:=i) (j:=0) (a:=ap) acy aI (hl.o.now hN) bV) (RL.ag (v:=.int .i64 (u)) U (RL.ag (ca) (RL.ag (v:=.bool (decide (ap.1=u))) U ?_))))
 by_cases nH:ap.1=u
 rw[decide_eq_true nH]
 refine RL.aw (ah acI rfl fo) (RL.aw (aj acZ (hN.aJ 1 rfl)) (RL.aw (v:=vJ i) U (RL.aw (aT acZ gZ aI (hl.o.now hN)) (RL.aw (bm (m:=i) (b:=0) adf rfl bI aI (hl.o.now hN) bV) (RL.aw (bB (m:=i) (j:=1) (a:=ap) acy aI (hl.o.now hN) bV) (RL.aw (v:=.int .i64 (v)) U (RL.aw (ca) (RL.ag (v:=.bool (decide (ap.2.1=v))) (al) (RL.nil ?_)))))))))
 refine aA ?_
 refine RW.aG _ (fun Ly=>?_) (fun Ly=>?_)
 refine RW.aN (RL.ag (ah acI rfl fo) (RL.ag (aj acZ (hN.aJ 1 rfl)) (RL.ag (v:=vJ i) U (RL.ag (aT acZ gZ aI (hl.o.now hN)) (RL.ag (bm (m:=i) (b:=0) adf rfl cT aI (hl.o.now hN) bV) (RL.ag (Fu (m:=i) (j:=2) (a:=ap) acN rfl cT aI (by decide) (by decide) (hl.o.now hN) rfl bV (cs:=[.int .i64 (ap.2.2.1),.int .i64 (ap.2.2.2.1),.int .i64 (ap.2.2.2.2)]) rfl) ?_))))))
 refine RL.aL (aS (vs:=[.int .i64 (ap.2.2.1),.int .i64 (ap.2.2.2.1),.int .i64 (ap.2.2.2.2)]) cT rfl rfl rfl (bh (bh (bh cZ))) hN 0 rfl rfl ?_)
 clear hN
 intro w4 (hN:aH w none_ w4 [_,_])
 refine RL.ag (v:=.bool true) ai (RL.ak (RW.ret (bb ?_)))
 iterate 2 refine aU ?_
 refine bb (aU (bc (RV.eo rfl rfl (dG (hN.aJ 0 rfl) acN rfl cT)) ?_))
 exact⟨(wk (Gl fA bV nH Ly)).symm,hN.aX⟩
 refine RW.skip (ba (aA (RW.region (RL.ag (v:=vJ i) U (RL.ag (aD rfl rfl rfl (bg (by omega) (by omega))) (RL.ag (v:=.int .i64 ((i:Int)+1)) ai (RL.ak ?_)))))))
 exact⟨k-1,by omega,i+1,rfl,rfl,rfl,rfl,rfl,hN,by omega,fun x hx=>(dk bV hx).elim (fA x) (fun e=>e▸fun h=>by first|exact nH h.1|exact Ly h.2)⟩
 rw[decide_eq_false nH]
 iterate 8 refine RL.bH ?_
 refine RL.ag (v:=.bool false) (aB) (RL.ak (RW.cj (RW.skip (ba (aA (RW.region (RL.ag (v:=vJ i) U (RL.ag (aD rfl rfl rfl (bg (by omega) (by omega))) ?_))))))))
 refine RL.ag (v:=.int .i64 ((i:Int)+1)) ai (RL.ak ?_)
 exact⟨k-1,by omega,i+1,rfl,rfl,rfl,rfl,rfl,hN,by omega,fun x hx=>(dk bV hx).elim (fA x) (fun e=>e▸fun h=>by first|exact nH h.1|exact Ly h.2)⟩
 refine RW.exit ?_
 iterate 2 refine bP ?_
 refine aY (aA (RW.aN (RL.ag (bR (cs:=[.int .i64 (0),.int .i64 (0),.int .i64 (0)]) acN eQ (places:=#[(0,1),(1,1),(2,1)]) (by intro w;kernel_rfl) (pl:=[]) rfl (ps:=[]) rfl (zc:=[.int .i64 (0),.int .i64 (0),.int .i64 (0)]) rfl rfl) ?_)))
 refine RL.aL (aS (vs:=[.int .i64 (0),.int .i64 (0),.int .i64 (0)]) cT rfl rfl rfl (bh (bh (bh cZ))) hN 0 rfl rfl ?_)
 clear hN
 intro w5 (hN:aH w none_ w5 [_,_])
 refine RL.ag (v:=.bool false) ai (RL.ak (RW.ret (bc (RV.eo rfl rfl (dG (hN.aJ 0 rfl) acN rfl cT)) ?_)))
 rw[ac2 (by omega)]at fA
 exact⟨(Ea (BA fA)).symm,hN.aX⟩
theorem lr (n:Nat) (iv lv ov:Value) (ins:List Int) (ls:List I5) (lost:List Int) (w:World) (hi:Sl vI w iv ins) (hl:Sm aV w lv ls) (ho:Sl vI w ov lost) (u v:Int) (x:I3) (h:bF ls u v=some x):aM acD 137 #[.agg #[.int .i64 (n:Int),iv,lv,ov],.int .i64 u,.int .i64 v] w fun r w'=>r=.tuple #[.agg #[.int .i64 x.1,.int .i64 x.2.1,.int .i64 x.2.2],.bool true]∧Ext w w':=(gw n iv lv ov ins ls lost w hi hl ho u v).mono fun r w' hr=>by rw[wk h]at hr;exact hr
theorem oO (n:Nat) (iv lv ov:Value) (ins:List Int) (ls:List I5) (lost:List Int) (w:World) (hi:Sl vI w iv ins) (hl:Sm aV w lv ls) (ho:Sl vI w ov lost) (v:Int) (hn:n≤4096):aM acD 136 #[.agg #[.int .i64 (n:Int),iv,lv,ov],.int .i64 v] w fun r w'=>eB vI 3 w' w.heap.size r (cw ls v n)∧Ext w w':=by
 refine aM.aZ ahj ?_
 rw[cS]
 have hN:=aH.nil w none_
 refine RW.aN ?_
 refine RL.aL (bJ (cs:=[vJ n,iv,lv,ov]) rfl rfl hN ?_)
 clear hN
 intro g1 w1 (hN:aH w none_ w1 [_])
 refine RL.ag (v:=vN) ai (RL.bY (RL.ag (v:=vN) ai (RL.ak ?_)))
 iterate 2 refine RW.seq ?_
 refine RW.region (RL.ag (v:=.int .i64 (0)) ai (RL.ak (RW.block ?_)))
 replace hN:=hN.dy vI 3
 refine RW.loop (fun k R0 cv=>∃va:Value,∃acc:List Int,∃i:Nat,R0 1=.int .i64 (v)∧R0 2=vP g1∧R0 5=va∧R0 6=vJ i∧aH w none_ cv [.own vI 3 (va) (acc),.aJ g1 [vJ n,iv,lv,ov] 194]∧(i+k=n)∧(acc=cw ls v i)∧(acc.length≤i)) (n) ?_ ?_
 exact⟨vN,[],0,rfl,rfl,rfl,rfl,hN,by omega,rfl,ac8 _⟩
 clear hN
 rintro k R0 cv ⟨va,acc,i,bN,bQ,cy,cV,hN,fP,ha,im⟩
 have cz:=iV bN bQ cy cV
 obtain⟨fV,rfl⟩:=cz
 clear bN bQ cy cV
 iterate 2 refine RW.seq ?_
 refine RW.region (RL.ag (v:=vJ i) U (RL.ag (ah acI rfl bI) (RL.ag (aj acy (hN.aJ 1 rfl)) (RL.ag (aK) (RL.ak ?_)))))
 refine RW.aG _ (fun cD=>?_) (fun cD=>?_)
 refine RW.skip (aA (RW.seq (RW.block (RW.aN (RL.ag (aE (cs:=[vJ n,iv,lv,ov]) acI cI (hN.aJ 1 rfl)) (RL.ag (v:=.int .i64 (v)) U (RL.ag (v:=vJ i) U ?_)))))))
 refine RL.aL (cn ad9 rfl rfl rfl rfl rfl ((gw n _ _ _ ins ls lost _ (hi.o.now hN) (hl.o.now hN) (ho.o.now hN) v (i:Int)).mono ?_))
 rintro _ w3 ⟨rfl,bl⟩
 replace hN:=hN.ext bl
 clear bl
 refine RL.ag (v:=.tuple #[.agg #[.int .i64 (((bF ls v (i:Int)).getD (0,0,0)).1),.int .i64 (((bF ls v (i:Int)).getD (0,0,0)).2.1),.int .i64 (((bF ls v (i:Int)).getD (0,0,0)).2.2)],.bool (decide (cO ls v (i:Int)))]) U ?_
 iterate 2 refine RL.ag (bE) ?_
 refine RL.aL (bz (cs:=[.int .i64 (0),.int .i64 (0),.int .i64 (0)]) eQ rfl hN ?_)
 clear hN
 intro g4 w4 (hN:aH w none_ w4 [_,_,_])
 refine RL.aL (aS (vs:=[.int .i64 (((bF ls v (i:Int)).getD (0,0,0)).1),.int .i64 (((bF ls v (i:Int)).getD (0,0,0)).2.1),.int .i64 (((bF ls v (i:Int)).getD (0,0,0)).2.2)]) cT rfl rfl rfl (bh (bh (bh cZ))) hN 0 rfl rfl ?_)
 clear hN
 intro w5 (hN:aH w none_ w5 [_,_,_])
 refine RL.ag (v:=.bool (decide (cO ls v (i:Int)))) ai (RL.bY (RL.ag (v:=.bool (decide (cO ls v (i:Int)))) U (RL.ak ?_)))
 refine RW.aG _ (fun rF=>?_) (fun rF=>?_)
 refine RW.region (RL.ag (v:=va) U (RL.ag (v:=vJ i) U ?_))
 refine RL.aL (cx (enc:=vI) (l:=[(i:Int)]) (xs:=[.tmp 24]) acz bI mN rfl rfl (fun _=>rfl) rfl (by decide) (by decide) hN ?_)
 clear hN
 intro g6 w6 (hN:aH w none_ w6 [_,_,_,_])
 refine RL.aL (b9 acz fI rfl (fun _=>rfl) hN 2 rfl rfl (hN.sl 0 rfl) rfl (by simp only[acH,acK,acS];omega) (by decide) ?_)
 clear hN
 intro v7 w7 (hN:aH w none_ w7 [_,_,_,_])
 refine RL.ag (v:=v7) ai (RL.nil (ba (aA (RW.region (RL.ag (v:=vJ i) U (RL.ag (aD rfl rfl rfl (bg (by omega) (by omega))) (RL.ag (v:=.int .i64 ((i:Int)+1)) ai (RL.ak ?_))))))))
 exact⟨k-1,by omega,v7,acc++[(i:Int)],i+1,rfl,rfl,rfl,rfl,(hN.sb [2,3]),by omega,by unfold cw at*;rw[dc,if_pos (decide_eq_true (show cO ls v (i:Int)from rF)),ha];try rfl,by(try simp only[acB,acH]);omega⟩
 refine RW.skip (ba (aA (RW.region (RL.ag (v:=vJ i) U (RL.ag (aD rfl rfl rfl (bg (by omega) (by omega))) (RL.ag (v:=.int .i64 ((i:Int)+1)) ai (RL.ak ?_)))))))
 exact⟨k-1,by omega,va,acc,i+1,rfl,rfl,rfl,rfl,(hN.sb [1,2]),by omega,by unfold cw at*;rw[dc,if_neg (fun h=>rF (of_decide_eq_true (p:=cO ls v (i:Int)) h)),adw];exact ha,by(try simp only[acB,acH]);omega⟩
 refine RW.exit ?_
 iterate 2 refine bP ?_
 refine aY (aA (RW.aN (RL.ag (v:=va) U (RL.ag (v:=va) ai (RL.ak (RW.ret (bc (RV.tmp rfl) ?_)))))))
 have ic:i=n:=by omega
 subst ic
 subst ha
 exact⟨hN.ft 0 rfl,hN.aX⟩
theorem qE (n:Nat) (iv lv ov:Value) (ins:List Int) (ls:List I5) (lost:List Int) (w:World) (hi:Sl vI w iv ins) (hl:Sm aV w lv ls) (ho:Sl vI w ov lost) (v:Int) (hn:n≤4096):aM acD 138 #[.agg #[.int .i64 (n:Int),iv,lv,ov],.int .i64 v] w fun r w'=>eB vI 3 w' w.heap.size r (df ls v n)∧Ext w w':=by
 refine aM.aZ ahk ?_
 rw[cS]
 have hN:=aH.nil w none_
 refine RW.aN ?_
 refine RL.aL (bJ (cs:=[vJ n,iv,lv,ov]) rfl rfl hN ?_)
 clear hN
 intro g1 w1 (hN:aH w none_ w1 [_])
 refine RL.ag (v:=vN) ai (RL.bY (RL.ag (v:=vN) ai (RL.ak ?_)))
 iterate 2 refine RW.seq ?_
 refine RW.region (RL.ag (v:=.int .i64 (0)) ai (RL.ak (RW.block ?_)))
 replace hN:=hN.dy vI 3
 refine RW.loop (fun k R0 cv=>∃va:Value,∃acc:List Int,∃i:Nat,R0 1=.int .i64 (v)∧R0 2=vP g1∧R0 5=va∧R0 6=vJ i∧aH w none_ cv [.own vI 3 (va) (acc),.aJ g1 [vJ n,iv,lv,ov] 194]∧(i+k=n)∧(acc=df ls v i)∧(acc.length≤i)) (n) ?_ ?_
 exact⟨vN,[],0,rfl,rfl,rfl,rfl,hN,by omega,rfl,ac8 _⟩
 clear hN
 rintro k R0 cv ⟨va,acc,i,bN,bQ,cy,cV,hN,fP,ha,im⟩
 have cz:=iV bN bQ cy cV
 obtain⟨fV,rfl⟩:=cz
 clear bN bQ cy cV
 iterate 2 refine RW.seq ?_
 refine RW.region (RL.ag (v:=vJ i) U (RL.ag (ah acI rfl bI) (RL.ag (aj acy (hN.aJ 1 rfl)) (RL.ag (aK) (RL.ak ?_)))))
 refine RW.aG _ (fun cD=>?_) (fun cD=>?_)
 refine RW.skip (aA (RW.seq (RW.block (RW.aN (RL.ag (aE (cs:=[vJ n,iv,lv,ov]) acI cI (hN.aJ 1 rfl)) (RL.ag (v:=vJ i) U (RL.ag (v:=.int .i64 (v)) U ?_)))))))
 refine RL.aL (cn ad9 rfl rfl rfl rfl rfl ((gw n _ _ _ ins ls lost _ (hi.o.now hN) (hl.o.now hN) (ho.o.now hN) (i:Int) v).mono ?_))
 rintro _ w3 ⟨rfl,bl⟩
 replace hN:=hN.ext bl
 clear bl
 refine RL.ag (v:=.tuple #[.agg #[.int .i64 (((bF ls (i:Int) v).getD (0,0,0)).1),.int .i64 (((bF ls (i:Int) v).getD (0,0,0)).2.1),.int .i64 (((bF ls (i:Int) v).getD (0,0,0)).2.2)],.bool (decide (cO ls (i:Int) v))]) U ?_
 iterate 2 refine RL.ag (bE) ?_
 refine RL.aL (bz (cs:=[.int .i64 (0),.int .i64 (0),.int .i64 (0)]) eQ rfl hN ?_)
 clear hN
 intro g4 w4 (hN:aH w none_ w4 [_,_,_])
 refine RL.aL (aS (vs:=[.int .i64 (((bF ls (i:Int) v).getD (0,0,0)).1),.int .i64 (((bF ls (i:Int) v).getD (0,0,0)).2.1),.int .i64 (((bF ls (i:Int) v).getD (0,0,0)).2.2)]) cT rfl rfl rfl (bh (bh (bh cZ))) hN 0 rfl rfl ?_)
 clear hN
 intro w5 (hN:aH w none_ w5 [_,_,_])
 refine RL.ag (v:=.bool (decide (cO ls (i:Int) v))) ai (RL.bY (RL.ag (v:=.bool (decide (cO ls (i:Int) v))) U (RL.ak ?_)))
 refine RW.aG _ (fun rF=>?_) (fun rF=>?_)
 refine RW.region (RL.ag (v:=va) U (RL.ag (v:=vJ i) U ?_))
 refine RL.aL (cx (enc:=vI) (l:=[(i:Int)]) (xs:=[.tmp 24]) acz bI mN rfl rfl (fun _=>rfl) rfl (by decide) (by decide) hN ?_)
 clear hN
 intro g6 w6 (hN:aH w none_ w6 [_,_,_,_])
 refine RL.aL (b9 acz fI rfl (fun _=>rfl) hN 2 rfl rfl (hN.sl 0 rfl) rfl (by simp only[acH,acK,acS];omega) (by decide) ?_)
 clear hN
 intro v7 w7 (hN:aH w none_ w7 [_,_,_,_])
 refine RL.ag (v:=v7) ai (RL.nil (ba (aA (RW.region (RL.ag (v:=vJ i) U (RL.ag (aD rfl rfl rfl (bg (by omega) (by omega))) (RL.ag (v:=.int .i64 ((i:Int)+1)) ai (RL.ak ?_))))))))
 exact⟨k-1,by omega,v7,acc++[(i:Int)],i+1,rfl,rfl,rfl,rfl,(hN.sb [2,3]),by omega,by unfold df at*;rw[dc,if_pos (decide_eq_true (show cO ls (i:Int) v from rF)),ha];try rfl,by(try simp only[acB,acH]);omega⟩
 refine RW.skip (ba (aA (RW.region (RL.ag (v:=vJ i) U (RL.ag (aD rfl rfl rfl (bg (by omega) (by omega))) (RL.ag (v:=.int .i64 ((i:Int)+1)) ai (RL.ak ?_)))))))
 exact⟨k-1,by omega,va,acc,i+1,rfl,rfl,rfl,rfl,(hN.sb [1,2]),by omega,by unfold df at*;rw[dc,if_neg (fun h=>rF (of_decide_eq_true (p:=cO ls (i:Int) v) h)),adw];exact ha,by(try simp only[acB,acH]);omega⟩
 refine RW.exit ?_
 iterate 2 refine bP ?_
 refine aY (aA (RW.aN (RL.ag (v:=va) U (RL.ag (v:=va) ai (RL.ak (RW.ret (bc (RV.tmp rfl) ?_)))))))
 have ic:i=n:=by omega
 subst ic
 subst ha
 exact⟨hN.ft 0 rfl,hN.aX⟩
end Go.Proofs.YtngkdkbpgoddlaaGreat
namespace Go.Proofs.YtngkdkbpgoddlaaGreat
open Go.RowKit Go.Rl
open Go.Gr
theorem tE {w:World} (F:Nat→Prop) (hF:∀k,F k→k<w.heap.size) (n:Nat) (iv lv ov:Value) (ins:List Int) (ls:List I5) (lost:List Int) (u v x mid:Int) (hi:nR F vI w iv ins) (hl:mz F aV w lv ls) (ho:nR F vI w ov lost) (ui:ins.length=n) (hlen:ls.length≤67108864):aM acD 135 #[.agg #[.int .i64 (n:Int),iv,lv,ov],.int .i64 u,.int .i64 v,.int .i64 x,.int .i64 mid] w fun r w'=>∃Q1 b,r=.tuple #[.agg #[.int .i64 (n:Int),iv,Q1,ov],.bool b]∧mz F aV w' Q1 (jJ n ins ls u v x mid)∧Ext w w':=by
 refine aM.aZ aiA ?_
 rw[M4]
 have hN:=aH.nil w none_
 refine RW.aN ?_
 refine RL.aL (bJ (cs:=[vJ n,iv,lv,ov]) rfl rfl hN ?_)
 clear hN
 intro g1 w1 (hN:aH w none_ w1 [_])
 refine RL.aL (bz (cs:=[.int .i64 (0),vN,vN,vN]) jb rfl hN ?_)
 clear hN
 intro g2 w2 (hN:aH w none_ w2 [_,_])
 refine RL.ag (v:=.bool false) ai (RL.bY (RL.ag (aE (cs:=[vJ n,iv,lv,ov]) acI cI (hN.aJ 1 rfl)) (RL.ag (v:=.int .i64 (u)) U (RL.ag (v:=.int .i64 (v)) U ?_))))
 refine RL.aL (cn ad9 rfl rfl rfl rfl rfl ((gw n _ _ _ ins ls lost _ (hi.1.o.now hN) (hl.1.o.now hN) (ho.1.o.now hN) u v).mono ?_))
 rintro _ w3 ⟨rfl,bl⟩
 replace hN:=hN.ext bl
 clear bl
 refine RL.ag (v:=.tuple #[.agg #[.int .i64 (((bF ls u v).getD (0,0,0)).1),.int .i64 (((bF ls u v).getD (0,0,0)).2.1),.int .i64 (((bF ls u v).getD (0,0,0)).2.2)],.bool (decide (cO ls u v))]) U ?_
 iterate 2 refine RL.ag (bE) ?_
 refine RL.aL (bz (cs:=[.int .i64 (0),.int .i64 (0),.int .i64 (0)]) eQ rfl hN ?_)
 clear hN
 intro g4 w4 (hN:aH w none_ w4 [_,_,_])
 refine RL.aL (aS (vs:=[.int .i64 (((bF ls u v).getD (0,0,0)).1),.int .i64 (((bF ls u v).getD (0,0,0)).2.1),.int .i64 (((bF ls u v).getD (0,0,0)).2.2)]) cT rfl rfl rfl (bh (bh (bh cZ))) hN 0 rfl rfl ?_)
 clear hN
 intro w5 (hN:aH w none_ w5 [_,_,_])
 refine RL.ag (v:=.bool (decide (cO ls u v))) ai (RL.ak ?_)
 iterate 2 refine RW.seq ?_
 refine RW.region (RL.ag (aE (cs:=[vJ n,iv,lv,ov]) acI cI (hN.aJ 2 rfl)) (RL.ag (v:=.int .i64 (u)) U ?_))
 refine RL.aL (bu afB rfl rfl rfl rfl ((lK n _ _ _ ins ls lost _ (hi.1.o.now hN) (hl.1.o.now hN) (ho.1.o.now hN) u ui).mono ?_))
 rintro _ w6 ⟨rfl,bl⟩
 replace hN:=hN.ext bl
 clear bl
 refine RL.ag (cU rfl) (RL.ag (v:=.bool (decide (¬(fS n ins u)))) U ?_)
 by_cases AF:¬(fS n ins u)
 rw[decide_eq_true AF]
 iterate 4 refine RL.bH ?_
 refine RL.ag (v:=.bool true) (al) (RL.ag (v:=.bool true) U ?_)
 iterate 3 refine RL.bH ?_
 refine RL.ag (v:=.bool true) (al) (RL.ag (v:=.bool true) U ?_)
 iterate 2 refine RL.bH ?_
 refine RL.ag (v:=.bool true) (al) (RL.ag (v:=.bool true) U ?_)
 iterate 2 refine RL.bH ?_
 refine RL.ag (v:=.bool true) (al) (RL.ag (v:=.bool true) U ?_)
 iterate 2 refine RL.bH ?_
 iterate 4 refine RL.iy ?_
 refine RL.bH (RL.ag (v:=.bool true) (al) (RL.ak (RW.bD (RW.aN (RL.ag (aE (cs:=[vJ n,iv,lv,ov]) acI cI (hN.aJ 2 rfl)) ?_)))))
 refine RL.aL (aS (vs:=[vJ n,iv,lv,ov]) cI rfl rfl rfl (by intro u hu;simp only[ac6,ac0,or_false]at hu;rcases hu with rfl|rfl|rfl|rfl<;>first|rfl|exact(hi.1.o.now hN).bT|exact(hl.1.o.now hN).bT|exact(ho.1.o.now hN).bT) hN 1 rfl rfl ?_)
 clear hN
 intro w7 (hN:aH w none_ w7 [_,_,_])
 refine RL.ag (v:=.bool false) ai (RL.ak (RW.ret (aU (bc (RV.eo rfl rfl (dG (hN.aJ 1 rfl) acI rfl cI)) ?_))))
 have CF:oE n ins ls u v x mid:=by first|exact .inl (by assumption)|exact .inr (.inl (by assumption))|exact .inr (.inr (.inl (by assumption)))|exact .inr (.inr (.inr (.inl (by assumption))))|exact .inr (.inr (.inr (.inr (.inl (by assumption)))))|exact .inr (.inr (.inr (.inr (.inr ⟨by assumption,by assumption⟩))))
 exact⟨_,_,rfl,by rw[jJ,if_pos CF];exact hl.ext hN.aX,hN.aX⟩
 rw[decide_eq_false AF]
 refine RL.aw (aE (cs:=[vJ n,iv,lv,ov]) acI cI (hN.aJ 2 rfl)) (RL.aw (v:=.int .i64 (v)) U ?_)
 refine RL.er (bu afB rfl rfl rfl rfl ((lK n _ _ _ ins ls lost _ (hi.1.o.now hN) (hl.1.o.now hN) (ho.1.o.now hN) v ui).mono ?_))
 rintro _ w8 ⟨rfl,bl⟩
 replace hN:=hN.ext bl
 clear bl
 refine RL.aw (cU rfl) (RL.ag (v:=.bool (decide (¬(fS n ins v)))) (aB) (RL.ag (v:=.bool (decide (¬(fS n ins v)))) U ?_))
 by_cases IL:¬(fS n ins v)
 rw[decide_eq_true IL]
 iterate 3 refine RL.bH ?_
 refine RL.ag (v:=.bool true) (al) (RL.ag (v:=.bool true) U ?_)
 iterate 2 refine RL.bH ?_
 refine RL.ag (v:=.bool true) (al) (RL.ag (v:=.bool true) U ?_)
 iterate 2 refine RL.bH ?_
 refine RL.ag (v:=.bool true) (al) (RL.ag (v:=.bool true) U ?_)
 iterate 2 refine RL.bH ?_
 iterate 4 refine RL.iy ?_
 refine RL.bH (RL.ag (v:=.bool true) (al) (RL.ak (RW.bD (RW.aN (RL.ag (aE (cs:=[vJ n,iv,lv,ov]) acI cI (hN.aJ 2 rfl)) ?_)))))
 refine RL.aL (aS (vs:=[vJ n,iv,lv,ov]) cI rfl rfl rfl (by intro u hu;simp only[ac6,ac0,or_false]at hu;rcases hu with rfl|rfl|rfl|rfl<;>first|rfl|exact(hi.1.o.now hN).bT|exact(hl.1.o.now hN).bT|exact(ho.1.o.now hN).bT) hN 1 rfl rfl ?_)
 clear hN
 intro w9 (hN:aH w none_ w9 [_,_,_])
 refine RL.ag (v:=.bool false) ai (RL.ak (RW.ret (aU (bc (RV.eo rfl rfl (dG (hN.aJ 1 rfl) acI rfl cI)) ?_))))
 have CF:oE n ins ls u v x mid:=by first|exact .inl (by assumption)|exact .inr (.inl (by assumption))|exact .inr (.inr (.inl (by assumption)))|exact .inr (.inr (.inr (.inl (by assumption))))|exact .inr (.inr (.inr (.inr (.inl (by assumption)))))|exact .inr (.inr (.inr (.inr (.inr ⟨by assumption,by assumption⟩))))
 exact⟨_,_,rfl,by rw[jJ,if_pos CF];exact hl.ext hN.aX,hN.aX⟩
 rw[decide_eq_false IL]
 refine RL.aw (v:=.int .i64 (u)) U (RL.aw (v:=.int .i64 (v)) U (RL.aw (ca) (RL.ag (v:=.bool (decide (u=v))) (aB) (RL.ag (v:=.bool (decide (u=v))) U ?_))))
 by_cases IJ:u=v
 rw[decide_eq_true IJ]
 iterate 2 refine RL.bH ?_
 refine RL.ag (v:=.bool true) (al) (RL.ag (v:=.bool true) U ?_)
 iterate 2 refine RL.bH ?_
 refine RL.ag (v:=.bool true) (al) (RL.ag (v:=.bool true) U ?_)
 iterate 2 refine RL.bH ?_
 iterate 4 refine RL.iy ?_
 refine RL.bH (RL.ag (v:=.bool true) (al) (RL.ak (RW.bD (RW.aN (RL.ag (aE (cs:=[vJ n,iv,lv,ov]) acI cI (hN.aJ 2 rfl)) ?_)))))
 refine RL.aL (aS (vs:=[vJ n,iv,lv,ov]) cI rfl rfl rfl (by intro u hu;simp only[ac6,ac0,or_false]at hu;rcases hu with rfl|rfl|rfl|rfl<;>first|rfl|exact(hi.1.o.now hN).bT|exact(hl.1.o.now hN).bT|exact(ho.1.o.now hN).bT) hN 1 rfl rfl ?_)
 clear hN
 intro lR (hN:aH w none_ lR [_,_,_])
 refine RL.ag (v:=.bool false) ai (RL.ak (RW.ret (aU (bc (RV.eo rfl rfl (dG (hN.aJ 1 rfl) acI rfl cI)) ?_))))
 have CF:oE n ins ls u v x mid:=by first|exact .inl (by assumption)|exact .inr (.inl (by assumption))|exact .inr (.inr (.inl (by assumption)))|exact .inr (.inr (.inr (.inl (by assumption))))|exact .inr (.inr (.inr (.inr (.inl (by assumption)))))|exact .inr (.inr (.inr (.inr (.inr ⟨by assumption,by assumption⟩))))
 exact⟨_,_,rfl,by rw[jJ,if_pos CF];exact hl.ext hN.aX,hN.aX⟩
 rw[decide_eq_false IJ]
 refine RL.aw (v:=.int .i64 (x)) U (RL.aw (aK) (RL.ag (v:=.bool (decide (x<0))) (aB) (RL.ag (v:=.bool (decide (x<0))) U ?_)))
 by_cases uw:x<0
 rw[decide_eq_true uw]
 iterate 2 refine RL.bH ?_
 refine RL.ag (v:=.bool true) (al) (RL.ag (v:=.bool true) U ?_)
 iterate 2 refine RL.bH ?_
 iterate 4 refine RL.iy ?_
 refine RL.bH (RL.ag (v:=.bool true) (al) (RL.ak (RW.bD (RW.aN (RL.ag (aE (cs:=[vJ n,iv,lv,ov]) acI cI (hN.aJ 2 rfl)) ?_)))))
 refine RL.aL (aS (vs:=[vJ n,iv,lv,ov]) cI rfl rfl rfl (by intro u hu;simp only[ac6,ac0,or_false]at hu;rcases hu with rfl|rfl|rfl|rfl<;>first|rfl|exact(hi.1.o.now hN).bT|exact(hl.1.o.now hN).bT|exact(ho.1.o.now hN).bT) hN 1 rfl rfl ?_)
 clear hN
 intro kY (hN:aH w none_ kY [_,_,_])
 refine RL.ag (v:=.bool false) ai (RL.ak (RW.ret (aU (bc (RV.eo rfl rfl (dG (hN.aJ 1 rfl) acI rfl cI)) ?_))))
 have CF:oE n ins ls u v x mid:=by first|exact .inl (by assumption)|exact .inr (.inl (by assumption))|exact .inr (.inr (.inl (by assumption)))|exact .inr (.inr (.inr (.inl (by assumption))))|exact .inr (.inr (.inr (.inr (.inl (by assumption)))))|exact .inr (.inr (.inr (.inr (.inr ⟨by assumption,by assumption⟩))))
 exact⟨_,_,rfl,by rw[jJ,if_pos CF];exact hl.ext hN.aX,hN.aX⟩
 rw[decide_eq_false uw]
 refine RL.aw (v:=.int .i64 (mid)) U (RL.aw (aK) (RL.ag (v:=.bool (decide (mid<0))) (aB) (RL.ag (v:=.bool (decide (mid<0))) U ?_)))
 by_cases II:mid<0
 rw[decide_eq_true II]
 iterate 2 refine RL.bH ?_
 iterate 4 refine RL.iy ?_
 refine RL.bH (RL.ag (v:=.bool true) (al) (RL.ak (RW.bD (RW.aN (RL.ag (aE (cs:=[vJ n,iv,lv,ov]) acI cI (hN.aJ 2 rfl)) ?_)))))
 refine RL.aL (aS (vs:=[vJ n,iv,lv,ov]) cI rfl rfl rfl (by intro u hu;simp only[ac6,ac0,or_false]at hu;rcases hu with rfl|rfl|rfl|rfl<;>first|rfl|exact(hi.1.o.now hN).bT|exact(hl.1.o.now hN).bT|exact(ho.1.o.now hN).bT) hN 1 rfl rfl ?_)
 clear hN
 intro kI (hN:aH w none_ kI [_,_,_])
 refine RL.ag (v:=.bool false) ai (RL.ak (RW.ret (aU (bc (RV.eo rfl rfl (dG (hN.aJ 1 rfl) acI rfl cI)) ?_))))
 have CF:oE n ins ls u v x mid:=by first|exact .inl (by assumption)|exact .inr (.inl (by assumption))|exact .inr (.inr (.inl (by assumption)))|exact .inr (.inr (.inr (.inl (by assumption))))|exact .inr (.inr (.inr (.inr (.inl (by assumption)))))|exact .inr (.inr (.inr (.inr (.inr ⟨by assumption,by assumption⟩))))
 exact⟨_,_,rfl,by rw[jJ,if_pos CF];exact hl.ext hN.aX,hN.aX⟩
 rw[decide_eq_false II]
 iterate 2 refine RL.aw (v:=.bool (decide (cO ls u v))) U ?_
 by_cases uv:cO ls u v
 rw[decide_eq_true uv]
 refine RL.aw (ah acN rfl bI) (RL.aw (aj acy (hN.aJ 0 rfl)) (RL.aw (v:=.int .i64 (x)) U (RL.aw (mu rfl rfl) (RL.aw (v:=.bool (decide (((bF ls u v).getD (0,0,0)).1≤x))) (al) (RL.ag (v:=.bool (decide (((bF ls u v).getD (0,0,0)).1≤x))) (aB) (RL.ak ?_))))))
 refine RW.aG _ (fun VR=>?_) (fun VR=>?_)
 refine RW.aN (RL.ag (aE (cs:=[vJ n,iv,lv,ov]) acI cI (hN.aJ 2 rfl)) ?_)
 refine RL.aL (aS (vs:=[vJ n,iv,lv,ov]) cI rfl rfl rfl (by intro u hu;simp only[ac6,ac0,or_false]at hu;rcases hu with rfl|rfl|rfl|rfl<;>first|rfl|exact(hi.1.o.now hN).bT|exact(hl.1.o.now hN).bT|exact(ho.1.o.now hN).bT) hN 1 rfl rfl ?_)
 clear hN
 intro lX (hN:aH w none_ lX [_,_,_])
 refine RL.ag (v:=.bool false) ai (RL.ak (RW.ret (aU (bc (RV.eo rfl rfl (dG (hN.aJ 1 rfl) acI rfl cI)) ?_))))
 have CF:oE n ins ls u v x mid:=by first|exact .inl (by assumption)|exact .inr (.inl (by assumption))|exact .inr (.inr (.inl (by assumption)))|exact .inr (.inr (.inr (.inl (by assumption))))|exact .inr (.inr (.inr (.inr (.inl (by assumption)))))|exact .inr (.inr (.inr (.inr (.inr ⟨by assumption,by assumption⟩))))
 exact⟨_,_,rfl,by rw[jJ,if_pos CF];exact hl.ext hN.aX,hN.aX⟩
 refine RW.skip (aA (RW.aN (RL.ag (v:=vN) ai (RL.ak ?_))))
 iterate 2 refine RW.seq ?_
 refine RW.region (RL.ag (v:=.int .i64 (0)) ai (RL.ak (RW.block ?_)))
 replace hN:=hN.ew aV 5 248
 refine RW.loop (fun k R0 cv=>∃va:Value,∃acc:List I5,∃i:Nat,R0 1=.int .i64 (u)∧R0 2=.int .i64 (v)∧R0 3=.int .i64 (x)∧R0 4=.int .i64 (mid)∧R0 5=vP g1∧R0 10=vP g2∧R0 14=va∧R0 15=vJ i∧aH w none_ cv [.cd aV 5 248 (va) (acc),.aJ g4 [.int .i64 (((bF ls u v).getD (0,0,0)).1),.int .i64 (((bF ls u v).getD (0,0,0)).2.1),.int .i64 (((bF ls u v).getD (0,0,0)).2.2)] 96,.aJ g2 [.int .i64 (0),vN,vN,vN] 194,.aJ g1 [vJ n,iv,lv,ov] 194]∧(i+k=ls.length)∧(acc=(ls.take i).filter (fun y=>decide (¬y.1=u∨¬y.2.1=v)))∧(acc.length≤i)) (ls.length) ?_ ?_
 exact⟨vN,[],0,rfl,rfl,rfl,rfl,rfl,rfl,rfl,rfl,hN,by omega,rfl,ac8 _⟩
 clear hN
 rintro k R0 cv ⟨va,acc,i,bN,bQ,cb,cu,cy,db,gO,nF,hN,fP,ha,im⟩
 have cz:=rN bN bQ cb cu cy db gO nF
 obtain⟨fV,rfl⟩:=cz
 clear bN bQ cb cu cy db gO nF
 iterate 2 refine RW.seq ?_
 refine RW.region (RL.ag (v:=vJ i) U (RL.ag (ah acI rfl fo) (RL.ag (aj acZ (hN.aJ 3 rfl)) ?_)))
 have Yz:=(hl.1.o.now hN).bw
 refine RL.ag (bO acZ (hl.1.o.now hN)) (RL.ag (aK) (RL.ak ?_))
 refine RW.aG _ (fun cD=>?_) (fun cD=>?_)
 refine RW.skip (aA (RW.seq (RW.block (RW.aN (RL.ag (ah acI rfl fo) (RL.ag (aj acZ (hN.aJ 3 rfl)) (RL.ag (v:=vJ i) U (RL.ag (aT acZ gZ aI (hl.1.o.now hN)) ?_))))))))
 have aO:=cQ (ls) i
 obtain⟨ap,bV⟩:=aO
 refine RL.ag (bm (m:=i) (b:=0) adf rfl bI aI (hl.1.o.now hN) bV) (RL.ag (bB (m:=i) (j:=0) (a:=ap) acy aI (hl.1.o.now hN) bV) (RL.ag (v:=.int .i64 (u)) U (RL.ag (bj) (RL.ag (v:=.bool (decide (¬ap.1=u))) U ?_))))
 by_cases oy:¬ap.1=u
 rw[decide_eq_true oy]
 iterate 8 refine RL.bH ?_
 refine RL.ag (v:=.bool true) (al) (RL.ak (RW.bD (RW.region (RL.ag (v:=va) U (RL.ag (ah acI rfl fo) (RL.ag (aj acZ (hN.aJ 3 rfl)) (RL.ag (v:=vJ i) U (RL.ag (aT acZ gZ aI (hl.1.o.now hN)) ?_))))))))
 refine RL.ag (b0 (m:=i) (a:=ap) adf gZ aI (hl.1.o.now hN) bV (cs:=[.int .i64 (ap.1),.int .i64 (ap.2.1),.int .i64 (ap.2.2.1),.int .i64 (ap.2.2.2.1),.int .i64 (ap.2.2.2.2)])) ?_
 refine RL.aL (dn (cf:=aV) (s:=5) (pl:=[(0,.tmp 86)]) (ps:=[(0,.agg #[.int .i64 (ap.1),.int .i64 (ap.2.1),.int .i64 (ap.2.2.1),.int .i64 (ap.2.2.2.1),.int .i64 (ap.2.2.2.2)])]) (zc:=[.int .i64 (0),.int .i64 (0),.int .i64 (0),.int .i64 (0),.int .i64 (0)]) (l:=[(ap.1,ap.2.1,ap.2.2.1,ap.2.2.2.1,ap.2.2.2.2)]) acZ hJ (by kernel_rfl) rfl rfl (aP (vs:=[.int .i64 (ap.1),.int .i64 (ap.2.1),.int .i64 (ap.2.2.1),.int .i64 (ap.2.2.2.1),.int .i64 (ap.2.2.2.2)]) rfl rfl (acA rfl) rfl) aI rfl (by decide) (by decide) (by decide) hN ?_)
 clear hN
 intro g16 qq (hN:aH w none_ qq [_,_,_,_,_])
 refine RL.aL (cp acZ hJ rfl (by decide) dp aI hN 1 rfl rfl (hN.sm 0 rfl) rfl (by(try simp only[acB,acH,acK,acS]);omega) (by decide) ?_)
 clear hN
 intro QE u3 (hN:aH w none_ u3 [_,_,_,_,_])
 refine RL.ag (v:=QE) ai (RL.nil (ba (aA (RW.region (RL.ag (v:=vJ i) U (RL.ag (aD rfl rfl rfl (bg (by omega) (by omega))) (RL.ag (v:=.int .i64 ((i:Int)+1)) ai (RL.ak ?_))))))))
 exact⟨k-1,by omega,QE,acc++[(ap.1,ap.2.1,ap.2.2.1,ap.2.2.2.1,ap.2.2.2.2)],i+1,rfl,rfl,rfl,rfl,rfl,rfl,rfl,rfl,(hN.sb [1,2,3,4]),by omega,by rw[dL bV,if_pos (decide_eq_true (by first|exact .inl (by assumption)|exact .inr (by assumption))),ha],by(try simp only[acB,acH]);omega⟩
 rw[decide_eq_false oy]
 refine RL.aw (ah acI rfl fo) (RL.aw (aj acZ (hN.aJ 3 rfl)) (RL.aw (v:=vJ i) U (RL.aw (aT acZ gZ aI (hl.1.o.now hN)) (RL.aw (bm (m:=i) (b:=0) adf rfl bI aI (hl.1.o.now hN) bV) (RL.aw (bB (m:=i) (j:=1) (a:=ap) acy aI (hl.1.o.now hN) bV) (RL.aw (v:=.int .i64 (v)) U (RL.aw (bj) (RL.ag (v:=.bool (decide (¬ap.2.1=v))) (aB) (RL.nil ?_)))))))))
 refine aA ?_
 refine RW.aG _ (fun Jc=>?_) (fun Jc=>?_)
 refine RW.region (RL.ag (v:=va) U (RL.ag (ah acI rfl fo) (RL.ag (aj acZ (hN.aJ 3 rfl)) (RL.ag (v:=vJ i) U (RL.ag (aT acZ gZ aI (hl.1.o.now hN)) (RL.ag (b0 (m:=i) (a:=ap) adf gZ aI (hl.1.o.now hN) bV (cs:=[.int .i64 (ap.1),.int .i64 (ap.2.1),.int .i64 (ap.2.2.1),.int .i64 (ap.2.2.2.1),.int .i64 (ap.2.2.2.2)])) ?_))))))
 refine RL.aL (dn (cf:=aV) (s:=5) (pl:=[(0,.tmp 86)]) (ps:=[(0,.agg #[.int .i64 (ap.1),.int .i64 (ap.2.1),.int .i64 (ap.2.2.1),.int .i64 (ap.2.2.2.1),.int .i64 (ap.2.2.2.2)])]) (zc:=[.int .i64 (0),.int .i64 (0),.int .i64 (0),.int .i64 (0),.int .i64 (0)]) (l:=[(ap.1,ap.2.1,ap.2.2.1,ap.2.2.2.1,ap.2.2.2.2)]) acZ hJ (by kernel_rfl) rfl rfl (aP (vs:=[.int .i64 (ap.1),.int .i64 (ap.2.1),.int .i64 (ap.2.2.1),.int .i64 (ap.2.2.2.1),.int .i64 (ap.2.2.2.2)]) rfl rfl (acA rfl) rfl) aI rfl (by decide) (by decide) (by decide) hN ?_)
 clear hN
 intro g18 vd (hN:aH w none_ vd [_,_,_,_,_])
 refine RL.aL (cp acZ hJ rfl (by decide) dp aI hN 1 rfl rfl (hN.sm 0 rfl) rfl (by(try simp only[acB,acH,acK,acS]);omega) (by decide) ?_)
 clear hN
 intro J2 zo (hN:aH w none_ zo [_,_,_,_,_])
 refine RL.ag (v:=J2) ai (RL.nil (ba (aA (RW.region (RL.ag (v:=vJ i) U (RL.ag (aD rfl rfl rfl (bg (by omega) (by omega))) (RL.ag (v:=.int .i64 ((i:Int)+1)) ai (RL.ak ?_))))))))
 exact⟨k-1,by omega,J2,acc++[(ap.1,ap.2.1,ap.2.2.1,ap.2.2.2.1,ap.2.2.2.2)],i+1,rfl,rfl,rfl,rfl,rfl,rfl,rfl,rfl,(hN.sb [1,2,3,4]),by omega,by rw[dL bV,if_pos (decide_eq_true (by first|exact .inl (by assumption)|exact .inr (by assumption))),ha],by(try simp only[acB,acH]);omega⟩
 refine RW.skip (ba (aA (RW.region (RL.ag (v:=vJ i) U (RL.ag (aD rfl rfl rfl (bg (by omega) (by omega))) (RL.ag (v:=.int .i64 ((i:Int)+1)) ai (RL.ak ?_)))))))
 exact⟨k-1,by omega,va,acc,i+1,rfl,rfl,rfl,rfl,rfl,rfl,rfl,rfl,hN,by omega,by rw[dL bV,if_neg (fun h=>(of_decide_eq_true h).elim (fun h=>oy h) (fun h=>Jc h)),adw];exact ha,by(try simp only[acB,acH]);omega⟩
 refine RW.exit ?_
 iterate 2 refine bP ?_
 refine aY (aA (RW.aN (RL.ag (v:=va) U (RL.ag (v:=.int .i64 (u)) U (RL.ag (v:=.int .i64 (v)) U (RL.ag (v:=.int .i64 (x)) U (RL.ag (v:=.int .i64 (mid)) U (RL.ag (bR (cs:=[.int .i64 (x),.int .i64 (mid),.int .i64 (-1)]) acN eQ (places:=#[(0,1),(1,1),(2,1)]) (by intro w;kernel_rfl) (pl:=[(0,.tmp 92),(1,.tmp 93),(2,.const (.int .i64 (-1)))]) rfl (ps:=[(0,.int .i64 (x)),(1,.int .i64 (mid)),(2,.int .i64 (-1))]) rfl (zc:=[.int .i64 (0),.int .i64 (0),.int .i64 (0)]) rfl (aP (vs:=[.int .i64 (x)]) rfl rfl (acA rfl) (aP (vs:=[.int .i64 (mid)]) rfl rfl (acA rfl) (aP (vs:=[.int .i64 (-1)]) rfl rfl (acA rfl) rfl)))) ?_))))))))
 refine RL.ag (bR (cs:=[.int .i64 (u),.int .i64 (v),.int .i64 (x),.int .i64 (mid),.int .i64 (-1)]) adf sB (places:=#[(0,1),(1,1),(2,3)]) (by intro w;kernel_rfl) (pl:=[(0,.tmp 90),(1,.tmp 91),(2,.tmp 94)]) rfl (ps:=[(0,.int .i64 (u)),(1,.int .i64 (v)),(2,.agg #[.int .i64 (x),.int .i64 (mid),.int .i64 (-1)])]) rfl (zc:=[.int .i64 (0),.int .i64 (0),.int .i64 (0),.int .i64 (0),.int .i64 (0)]) rfl (aP (vs:=[.int .i64 (u)]) rfl rfl (acA rfl) (aP (vs:=[.int .i64 (v)]) rfl rfl (acA rfl) (aP (vs:=[.int .i64 (x),.int .i64 (mid),.int .i64 (-1)]) rfl rfl (acA rfl) rfl)))) ?_
 refine RL.aL (dn (cf:=aV) (s:=5) (pl:=[(0,.tmp 95)]) (ps:=[(0,.agg #[.int .i64 (u),.int .i64 (v),.int .i64 (x),.int .i64 (mid),.int .i64 (-1)])]) (zc:=[.int .i64 (0),.int .i64 (0),.int .i64 (0),.int .i64 (0),.int .i64 (0)]) (l:=[(u,v,x,mid,-1)]) acZ hJ (by kernel_rfl) rfl rfl (aP (vs:=[.int .i64 (u),.int .i64 (v),.int .i64 (x),.int .i64 (mid),.int .i64 (-1)]) rfl rfl (acA rfl) rfl) aI rfl (by decide) (by decide) (by decide) hN ?_)
 clear hN
 intro g20 Bp (hN:aH w none_ Bp [_,_,_,_,_])
 refine RL.aL (cp acZ hJ rfl (by decide) dp aI hN 1 rfl rfl (hN.sm 0 rfl) rfl (by(try simp only[acB,acH,acK,acS]);omega) (by decide) ?_)
 clear hN
 intro FT BB (hN:aH w none_ BB [_,_,_,_,_])
 refine RL.ag (v:=FT) ai (RL.bY (RL.ag (v:=FT) U (RL.ag (ah acI rfl fo) ?_)))
 refine RL.aL (b7 fo rfl rfl (hN.sm 1 rfl).cK (hN.sm 1 rfl).bT hN 4 rfl (acA rfl) ?_)
 clear hN
 intro yY (hN:aH w none_ yY [_,_,_,_,_])
 refine RL.bY (RL.ag (aE (cs:=[vJ n,iv,FT,ov]) acI cI (hN.aJ 4 rfl)) ?_)
 refine RL.aL (aS (vs:=[vJ n,iv,FT,ov]) cI rfl rfl rfl (by intro u hu;simp only[ac6,ac0,or_false]at hu;rcases hu with rfl|rfl|rfl|rfl<;>first|rfl|exact(hN.sm 1 rfl).bT|exact(hi.1.o.now hN).bT|exact(ho.1.o.now hN).bT) hN 3 rfl rfl ?_)
 clear hN
 intro zn (hN:aH w none_ zn [_,_,_,_,_])
 refine RL.ag (v:=.bool true) ai (RL.ak (RW.ret (bc (RV.eo rfl rfl (dG (hN.aJ 3 rfl) acI rfl cI)) ?_)))
 have ic:i=ls.length:=by omega
 rw[ic,adm]at ha
 have CF:¬oE n ins ls u v x mid:=by rintro(h|h|h|h|h|⟨h,h2⟩)<;>first|contradiction|omega
 have fF:acc++[(u,v,x,mid,-1)]=jJ n ins ls u v x mid:=by rw[jJ,if_neg CF,ha];rfl
 exact⟨_,_,rfl,fK.KD (fF▸hN.fL 1 rfl) hF,hN.aX⟩
 rw[decide_eq_false uv]
 iterate 4 refine RL.bH ?_
 refine RL.aw (v:=.bool false) (aB) (RL.ag (v:=.bool false) (aB) (RL.ak (RW.cj (RW.skip (aA (RW.aN (RL.ag (v:=vN) ai ?_)))))))
 refine RL.ak ?_
 iterate 2 refine RW.seq ?_
 refine RW.region (RL.ag (v:=.int .i64 (0)) ai (RL.ak (RW.block ?_)))
 replace hN:=hN.ew aV 5 248
 refine RW.loop (fun k R0 cv=>∃va:Value,∃acc:List I5,∃i:Nat,R0 1=.int .i64 (u)∧R0 2=.int .i64 (v)∧R0 3=.int .i64 (x)∧R0 4=.int .i64 (mid)∧R0 5=vP g1∧R0 10=vP g2∧R0 14=va∧R0 15=vJ i∧aH w none_ cv [.cd aV 5 248 (va) (acc),.aJ g4 [.int .i64 (((bF ls u v).getD (0,0,0)).1),.int .i64 (((bF ls u v).getD (0,0,0)).2.1),.int .i64 (((bF ls u v).getD (0,0,0)).2.2)] 96,.aJ g2 [.int .i64 (0),vN,vN,vN] 194,.aJ g1 [vJ n,iv,lv,ov] 194]∧(i+k=ls.length)∧(acc=(ls.take i).filter (fun y=>decide (¬y.1=u∨¬y.2.1=v)))∧(acc.length≤i)) (ls.length) ?_ ?_
 exact⟨vN,[],0,rfl,rfl,rfl,rfl,rfl,rfl,rfl,rfl,hN,by omega,rfl,ac8 _⟩
 clear hN
 rintro k R0 cv ⟨va,acc,i,bN,bQ,cb,cu,cy,db,gO,nF,hN,fP,ha,im⟩
 have cz:=rN bN bQ cb cu cy db gO nF
 obtain⟨fV,rfl⟩:=cz
 clear bN bQ cb cu cy db gO nF
 iterate 2 refine RW.seq ?_
 refine RW.region (RL.ag (v:=vJ i) U (RL.ag (ah acI rfl fo) (RL.ag (aj acZ (hN.aJ 3 rfl)) ?_)))
 have Yv:=(hl.1.o.now hN).bw
 refine RL.ag (bO acZ (hl.1.o.now hN)) (RL.ag (aK) (RL.ak ?_))
 refine RW.aG _ (fun cD=>?_) (fun cD=>?_)
 refine RW.skip (aA (RW.seq (RW.block (RW.aN (RL.ag (ah acI rfl fo) (RL.ag (aj acZ (hN.aJ 3 rfl)) (RL.ag (v:=vJ i) U (RL.ag (aT acZ gZ aI (hl.1.o.now hN)) ?_))))))))
 have aO:=cQ (ls) i
 obtain⟨ap,bV⟩:=aO
 refine RL.ag (bm (m:=i) (b:=0) adf rfl bI aI (hl.1.o.now hN) bV) (RL.ag (bB (m:=i) (j:=0) (a:=ap) acy aI (hl.1.o.now hN) bV) (RL.ag (v:=.int .i64 (u)) U (RL.ag (bj) (RL.ag (v:=.bool (decide (¬ap.1=u))) U ?_))))
 by_cases oy:¬ap.1=u
 rw[decide_eq_true oy]
 iterate 8 refine RL.bH ?_
 refine RL.ag (v:=.bool true) (al) (RL.ak (RW.bD (RW.region (RL.ag (v:=va) U (RL.ag (ah acI rfl fo) (RL.ag (aj acZ (hN.aJ 3 rfl)) (RL.ag (v:=vJ i) U (RL.ag (aT acZ gZ aI (hl.1.o.now hN)) ?_))))))))
 refine RL.ag (b0 (m:=i) (a:=ap) adf gZ aI (hl.1.o.now hN) bV (cs:=[.int .i64 (ap.1),.int .i64 (ap.2.1),.int .i64 (ap.2.2.1),.int .i64 (ap.2.2.2.1),.int .i64 (ap.2.2.2.2)])) ?_
 refine RL.aL (dn (cf:=aV) (s:=5) (pl:=[(0,.tmp 86)]) (ps:=[(0,.agg #[.int .i64 (ap.1),.int .i64 (ap.2.1),.int .i64 (ap.2.2.1),.int .i64 (ap.2.2.2.1),.int .i64 (ap.2.2.2.2)])]) (zc:=[.int .i64 (0),.int .i64 (0),.int .i64 (0),.int .i64 (0),.int .i64 (0)]) (l:=[(ap.1,ap.2.1,ap.2.2.1,ap.2.2.2.1,ap.2.2.2.2)]) acZ hJ (by kernel_rfl) rfl rfl (aP (vs:=[.int .i64 (ap.1),.int .i64 (ap.2.1),.int .i64 (ap.2.2.1),.int .i64 (ap.2.2.2.1),.int .i64 (ap.2.2.2.2)]) rfl rfl (acA rfl) rfl) aI rfl (by decide) (by decide) (by decide) hN ?_)
 clear hN
 intro g26 FO (hN:aH w none_ FO [_,_,_,_,_])
 refine RL.aL (cp acZ hJ rfl (by decide) dp aI hN 1 rfl rfl (hN.sm 0 rfl) rfl (by(try simp only[acB,acH,acK,acS]);omega) (by decide) ?_)
 clear hN
 intro WQ Gn (hN:aH w none_ Gn [_,_,_,_,_])
 refine RL.ag (v:=WQ) ai (RL.nil (ba (aA (RW.region (RL.ag (v:=vJ i) U (RL.ag (aD rfl rfl rfl (bg (by omega) (by omega))) (RL.ag (v:=.int .i64 ((i:Int)+1)) ai (RL.ak ?_))))))))
 exact⟨k-1,by omega,WQ,acc++[(ap.1,ap.2.1,ap.2.2.1,ap.2.2.2.1,ap.2.2.2.2)],i+1,rfl,rfl,rfl,rfl,rfl,rfl,rfl,rfl,(hN.sb [1,2,3,4]),by omega,by rw[dL bV,if_pos (decide_eq_true (by first|exact .inl (by assumption)|exact .inr (by assumption))),ha],by(try simp only[acB,acH]);omega⟩
 rw[decide_eq_false oy]
 refine RL.aw (ah acI rfl fo) (RL.aw (aj acZ (hN.aJ 3 rfl)) (RL.aw (v:=vJ i) U (RL.aw (aT acZ gZ aI (hl.1.o.now hN)) (RL.aw (bm (m:=i) (b:=0) adf rfl bI aI (hl.1.o.now hN) bV) (RL.aw (bB (m:=i) (j:=1) (a:=ap) acy aI (hl.1.o.now hN) bV) (RL.aw (v:=.int .i64 (v)) U (RL.aw (bj) (RL.ag (v:=.bool (decide (¬ap.2.1=v))) (aB) (RL.nil ?_)))))))))
 refine aA ?_
 refine RW.aG _ (fun Jc=>?_) (fun Jc=>?_)
 refine RW.region (RL.ag (v:=va) U (RL.ag (ah acI rfl fo) (RL.ag (aj acZ (hN.aJ 3 rfl)) (RL.ag (v:=vJ i) U (RL.ag (aT acZ gZ aI (hl.1.o.now hN)) (RL.ag (b0 (m:=i) (a:=ap) adf gZ aI (hl.1.o.now hN) bV (cs:=[.int .i64 (ap.1),.int .i64 (ap.2.1),.int .i64 (ap.2.2.1),.int .i64 (ap.2.2.2.1),.int .i64 (ap.2.2.2.2)])) ?_))))))
 refine RL.aL (dn (cf:=aV) (s:=5) (pl:=[(0,.tmp 86)]) (ps:=[(0,.agg #[.int .i64 (ap.1),.int .i64 (ap.2.1),.int .i64 (ap.2.2.1),.int .i64 (ap.2.2.2.1),.int .i64 (ap.2.2.2.2)])]) (zc:=[.int .i64 (0),.int .i64 (0),.int .i64 (0),.int .i64 (0),.int .i64 (0)]) (l:=[(ap.1,ap.2.1,ap.2.2.1,ap.2.2.2.1,ap.2.2.2.2)]) acZ hJ (by kernel_rfl) rfl rfl (aP (vs:=[.int .i64 (ap.1),.int .i64 (ap.2.1),.int .i64 (ap.2.2.1),.int .i64 (ap.2.2.2.1),.int .i64 (ap.2.2.2.2)]) rfl rfl (acA rfl) rfl) aI rfl (by decide) (by decide) (by decide) hN ?_)
 clear hN
 intro YN Eb (hN:aH w none_ Eb [_,_,_,_,_])
 refine RL.aL (cp acZ hJ rfl (by decide) dp aI hN 1 rfl rfl (hN.sm 0 rfl) rfl (by(try simp only[acB,acH,acK,acS]);omega) (by decide) ?_)
 clear hN
 intro WO L6 (hN:aH w none_ L6 [_,_,_,_,_])
 refine RL.ag (v:=WO) ai (RL.nil (ba (aA (RW.region (RL.ag (v:=vJ i) U (RL.ag (aD rfl rfl rfl (bg (by omega) (by omega))) (RL.ag (v:=.int .i64 ((i:Int)+1)) ai (RL.ak ?_))))))))
 exact⟨k-1,by omega,WO,acc++[(ap.1,ap.2.1,ap.2.2.1,ap.2.2.2.1,ap.2.2.2.2)],i+1,rfl,rfl,rfl,rfl,rfl,rfl,rfl,rfl,(hN.sb [1,2,3,4]),by omega,by rw[dL bV,if_pos (decide_eq_true (by first|exact .inl (by assumption)|exact .inr (by assumption))),ha],by(try simp only[acB,acH]);omega⟩
 refine RW.skip (ba (aA (RW.region (RL.ag (v:=vJ i) U (RL.ag (aD rfl rfl rfl (bg (by omega) (by omega))) (RL.ag (v:=.int .i64 ((i:Int)+1)) ai (RL.ak ?_)))))))
 exact⟨k-1,by omega,va,acc,i+1,rfl,rfl,rfl,rfl,rfl,rfl,rfl,rfl,hN,by omega,by rw[dL bV,if_neg (fun h=>(of_decide_eq_true h).elim (fun h=>oy h) (fun h=>Jc h)),adw];exact ha,by(try simp only[acB,acH]);omega⟩
 refine RW.exit ?_
 iterate 2 refine bP ?_
 refine aY (aA (RW.aN (RL.ag (v:=va) U (RL.ag (v:=.int .i64 (u)) U (RL.ag (v:=.int .i64 (v)) U (RL.ag (v:=.int .i64 (x)) U (RL.ag (v:=.int .i64 (mid)) U (RL.ag (bR (cs:=[.int .i64 (x),.int .i64 (mid),.int .i64 (-1)]) acN eQ (places:=#[(0,1),(1,1),(2,1)]) (by intro w;kernel_rfl) (pl:=[(0,.tmp 92),(1,.tmp 93),(2,.const (.int .i64 (-1)))]) rfl (ps:=[(0,.int .i64 (x)),(1,.int .i64 (mid)),(2,.int .i64 (-1))]) rfl (zc:=[.int .i64 (0),.int .i64 (0),.int .i64 (0)]) rfl (aP (vs:=[.int .i64 (x)]) rfl rfl (acA rfl) (aP (vs:=[.int .i64 (mid)]) rfl rfl (acA rfl) (aP (vs:=[.int .i64 (-1)]) rfl rfl (acA rfl) rfl)))) ?_))))))))
 refine RL.ag (bR (cs:=[.int .i64 (u),.int .i64 (v),.int .i64 (x),.int .i64 (mid),.int .i64 (-1)]) adf sB (places:=#[(0,1),(1,1),(2,3)]) (by intro w;kernel_rfl) (pl:=[(0,.tmp 90),(1,.tmp 91),(2,.tmp 94)]) rfl (ps:=[(0,.int .i64 (u)),(1,.int .i64 (v)),(2,.agg #[.int .i64 (x),.int .i64 (mid),.int .i64 (-1)])]) rfl (zc:=[.int .i64 (0),.int .i64 (0),.int .i64 (0),.int .i64 (0),.int .i64 (0)]) rfl (aP (vs:=[.int .i64 (u)]) rfl rfl (acA rfl) (aP (vs:=[.int .i64 (v)]) rfl rfl (acA rfl) (aP (vs:=[.int .i64 (x),.int .i64 (mid),.int .i64 (-1)]) rfl rfl (acA rfl) rfl)))) ?_
 refine RL.aL (dn (cf:=aV) (s:=5) (pl:=[(0,.tmp 95)]) (ps:=[(0,.agg #[.int .i64 (u),.int .i64 (v),.int .i64 (x),.int .i64 (mid),.int .i64 (-1)])]) (zc:=[.int .i64 (0),.int .i64 (0),.int .i64 (0),.int .i64 (0),.int .i64 (0)]) (l:=[(u,v,x,mid,-1)]) acZ hJ (by kernel_rfl) rfl rfl (aP (vs:=[.int .i64 (u),.int .i64 (v),.int .i64 (x),.int .i64 (mid),.int .i64 (-1)]) rfl rfl (acA rfl) rfl) aI rfl (by decide) (by decide) (by decide) hN ?_)
 clear hN
 intro g30 L5 (hN:aH w none_ L5 [_,_,_,_,_])
 refine RL.aL (cp acZ hJ rfl (by decide) dp aI hN 1 rfl rfl (hN.sm 0 rfl) rfl (by(try simp only[acB,acH,acK,acS]);omega) (by decide) ?_)
 clear hN
 intro FR Kt (hN:aH w none_ Kt [_,_,_,_,_])
 refine RL.ag (v:=FR) ai (RL.bY (RL.ag (v:=FR) U (RL.ag (ah acI rfl fo) ?_)))
 refine RL.aL (b7 fo rfl rfl (hN.sm 1 rfl).cK (hN.sm 1 rfl).bT hN 4 rfl (acA rfl) ?_)
 clear hN
 intro FN (hN:aH w none_ FN [_,_,_,_,_])
 refine RL.bY (RL.ag (aE (cs:=[vJ n,iv,FR,ov]) acI cI (hN.aJ 4 rfl)) ?_)
 refine RL.aL (aS (vs:=[vJ n,iv,FR,ov]) cI rfl rfl rfl (by intro u hu;simp only[ac6,ac0,or_false]at hu;rcases hu with rfl|rfl|rfl|rfl<;>first|rfl|exact(hN.sm 1 rfl).bT|exact(hi.1.o.now hN).bT|exact(ho.1.o.now hN).bT) hN 3 rfl rfl ?_)
 clear hN
 intro Gm (hN:aH w none_ Gm [_,_,_,_,_])
 refine RL.ag (v:=.bool true) ai (RL.ak (RW.ret (bc (RV.eo rfl rfl (dG (hN.aJ 3 rfl) acI rfl cI)) ?_)))
 have ic:i=ls.length:=by omega
 rw[ic,adm]at ha
 have CF:¬oE n ins ls u v x mid:=by rintro(h|h|h|h|h|⟨h,h2⟩)<;>first|contradiction|omega
 have fF:acc++[(u,v,x,mid,-1)]=jJ n ins ls u v x mid:=by rw[jJ,if_neg CF,ha];rfl
 exact⟨_,_,rfl,fK.KD (fF▸hN.fL 1 rfl) hF,hN.aX⟩
end Go.Proofs.YtngkdkbpgoddlaaGreat
namespace Go.Proofs.YtngkdkbpgoddlaaGreat
open Go.RowKit Go.Rl
open Go.Gr
theorem zr {w:World} (F:Nat→Prop) (hF:∀k,F k→k<w.heap.size) (n:Nat) (iv lv ov:Value) (ins:List Int) (ls:List I5) (lost:List Int) (v:Int) (hi:nR F vI w iv ins) (hl:mz F aV w lv ls) (ho:nR F vI w ov lost) (u9:fS n ins v) (ui:ins.length=n) (mJ:lost.length=n) (hlen:ls.length≤67108864) (hn:n≤4096):aM acD 139 #[.agg #[.int .i64 (n:Int),iv,lv,ov],.int .i64 v] w fun r w'=>∃W8 Q1 W3 Mi b,r=.tuple #[.agg #[.int .i64 (n:Int),W8,Q1,W3],.bool b]∧nR F vI w' W8 (ins.set v.toNat 0)∧mz F aV w' Q1 (wu ls v)∧nR F vI w' W3 Mi∧Mi.length=n∧Ext w w':=by
 refine aM.aZ akq ?_
 rw[cS]
 have hN:=aH.nil w none_
 have u5:=u9.1
 have uc:=u9.2.1
 refine RW.aN ?_
 refine RL.aL (bJ (cs:=[vJ n,iv,lv,ov]) rfl rfl hN ?_)
 clear hN
 intro g1 w1 (hN:aH w none_ w1 [_])
 refine RL.aL (bz (cs:=[.int .i64 (0),vN,vN,vN]) jb rfl hN ?_)
 clear hN
 intro g2 w2 (hN:aH w none_ w2 [_,_])
 refine RL.ag (v:=.bool false) ai (RL.ak ?_)
 iterate 2 refine RW.seq ?_
 refine RW.region (RL.ag (aE (cs:=[vJ n,iv,lv,ov]) acI cI (hN.aJ 1 rfl)) (RL.ag (v:=.int .i64 (v)) U ?_))
 refine RL.aL (bu afB rfl rfl rfl rfl ((Lb n _ _ _ ins ls lost _ (hi.1.o.now hN) (hl.1.o.now hN) (ho.1.o.now hN) v ⟨u9,ui⟩).mono ?_))
 rintro _ w3 ⟨rfl,bl⟩
 replace hN:=hN.ext bl
 clear bl
 refine RL.ag (jY rfl) (RL.ak (RW.cj (RW.skip (aA (RW.aN (RL.ag (ah acI rfl bI) (RL.ag (aj acy (hN.aJ 1 rfl)) ?_)))))))
 refine RL.ag (bR (cs:=[vJ n,vN,vN,vN]) acI jb (places:=#[(0,1),(1,1),(2,1),(3,1)]) (by intro w;kernel_rfl) (pl:=[(0,.tmp 21)]) rfl (ps:=[(0,vJ n)]) rfl (zc:=[.int .i64 (0),vN,vN,vN]) rfl (aP (vs:=[vJ n]) rfl rfl (acA rfl) rfl)) ?_
 refine RL.aL (bz (cs:=[.int .i64 (0),vN,vN,vN]) jb rfl hN ?_)
 clear hN
 intro g4 w4 (hN:aH w none_ w4 [_,_,_])
 refine RL.aL (aS (vs:=[vJ n,vN,vN,vN]) cI rfl rfl rfl (bh (bh (bh (bh cZ)))) hN 0 rfl rfl ?_)
 clear hN
 intro w5 (hN:aH w none_ w5 [_,_,_])
 refine RL.ak ?_
 iterate 2 refine RW.seq ?_
 replace hN:=hN.ew aV 5 248
 replace hN:=hN.dy vI 3
 replace hN:=hN.dy vI 3
 replace hN:aH w none_ w5 [.own vI 3 (vN) ([]),.own vI 3 (vN) ([]),.cd aV 5 248 (vN) ([]),.aJ g4 [vJ n,vN,vN,vN] 194,.aJ g2 [.int .i64 (0),vN,vN,vN] 194,.aJ g1 [vJ n,iv,lv,ov] 194]:=hN
 refine RW.region (RL.ag (v:=.int .i64 (0)) ai (RL.ak (RW.block ?_)))
 refine RW.loop (fun k R0 cv=>∃v1:Value,∃a1:List Int,∃v2:Value,∃a2:List Int,∃i:Nat,R0 1=.int .i64 (v)∧R0 2=vP g1∧R0 4=vP g2∧R0 6=vP g4∧R0 7=vJ i∧aH w none_ cv [.own vI 3 (v1) (a1),.own vI 3 (v2) (a2),.cd aV 5 248 (vN) ([]),.aJ g4 [vJ n,v1,vN,v2] 194,.aJ g2 [.int .i64 (0),vN,vN,vN] 194,.aJ g1 [vJ n,iv,lv,ov] 194]∧(i+k=n)∧(a1=(ins.set v.toNat 0).take i)∧(a1.length=i)∧(a2.length=i)) (n) ?_ ?_
 exact⟨vN,[],vN,[],0,rfl,rfl,rfl,rfl,rfl,hN,by omega,rfl,rfl,rfl⟩
 clear hN
 rintro k R0 cv ⟨v1,a1,v2,a2,i,bN,bQ,cu,cV,cC,hN,fP,h1,CX,AM⟩
 have cz:=hC bN bQ cu cV cC
 obtain⟨fV,rfl⟩:=cz
 clear bN bQ cu cV cC
 iterate 2 refine RW.seq ?_
 refine RW.region (RL.ag (v:=vJ i) U (RL.ag (ah acI rfl bI) (RL.ag (aj acy (hN.aJ 5 rfl)) (RL.ag (aK) (RL.ak ?_)))))
 refine RW.aG _ (fun cD=>?_) (fun cD=>?_)
 refine RW.skip (aA (RW.seq (RW.block (RW.aN (RL.ag (ah acI rfl cc) (RL.ag (aj acz (hN.aJ 5 rfl)) (RL.ag (v:=vJ i) U (RL.ag (aC acz bI (hi.1.o.now hN)) ?_))))))))
 have aO:=cQ (ins) i
 obtain⟨ap,bV⟩:=aO
 refine RL.ag (aF (m:=i) (a:=ap) acy (hi.1.o.now hN) bV) (RL.ag (v:=.int .i64 (ap)) ai (RL.bY (RL.ag (ah acI rfl cc) (RL.ag (aj acz (hN.aJ 5 rfl)) (RL.ag (v:=vJ i) U (RL.ag (aC acz bI (ho.1.o.now hN)) ?_))))))
 have aO:=cQ (lost) i
 obtain⟨ao,hao⟩:=aO
 refine RL.ag (aF (m:=i) (a:=ao) acy (ho.1.o.now hN) hao) (RL.ag (v:=.int .i64 (ao)) ai (RL.bY (RL.ag (aE (cs:=[vJ n,iv,lv,ov]) acI cI (hN.aJ 5 rfl)) (RL.ag (v:=.int .i64 (v)) U (RL.ag (v:=vJ i) U ?_)))))
 refine RL.aL (cn ad9 rfl rfl rfl rfl rfl ((gw n _ _ _ ins ls lost _ (hi.1.o.now hN) (hl.1.o.now hN) (ho.1.o.now hN) v (i:Int)).mono ?_))
 rintro _ w6 ⟨rfl,bl⟩
 replace hN:=hN.ext bl
 clear bl
 refine RL.ag (v:=.tuple #[.agg #[.int .i64 (((bF ls v (i:Int)).getD (0,0,0)).1),.int .i64 (((bF ls v (i:Int)).getD (0,0,0)).2.1),.int .i64 (((bF ls v (i:Int)).getD (0,0,0)).2.2)],.bool (decide (cO ls v (i:Int)))]) U ?_
 iterate 2 refine RL.ag (bE) ?_
 refine RL.aL (bz (cs:=[.int .i64 (0),.int .i64 (0),.int .i64 (0)]) eQ rfl hN ?_)
 clear hN
 intro g7 w7 (hN:aH w none_ w7 [_,_,_,_,_,_,_])
 refine RL.aL (aS (vs:=[.int .i64 (((bF ls v (i:Int)).getD (0,0,0)).1),.int .i64 (((bF ls v (i:Int)).getD (0,0,0)).2.1),.int .i64 (((bF ls v (i:Int)).getD (0,0,0)).2.2)]) cT rfl rfl rfl (bh (bh (bh cZ))) hN 0 rfl rfl ?_)
 clear hN
 intro w8 (hN:aH w none_ w8 [_,_,_,_,_,_,_])
 refine RL.ag (v:=.bool (decide (cO ls v (i:Int)))) ai (RL.bY (RL.ag (aE (cs:=[vJ n,iv,lv,ov]) acI cI (hN.aJ 6 rfl)) (RL.ag (v:=vJ i) U (RL.ag (v:=.int .i64 (v)) U ?_))))
 refine RL.aL (cn ad9 rfl rfl rfl rfl rfl ((gw n _ _ _ ins ls lost _ (hi.1.o.now hN) (hl.1.o.now hN) (ho.1.o.now hN) (i:Int) v).mono ?_))
 rintro _ w9 ⟨rfl,bl⟩
 replace hN:=hN.ext bl
 clear bl
 refine RL.ag (v:=.tuple #[.agg #[.int .i64 (((bF ls (i:Int) v).getD (0,0,0)).1),.int .i64 (((bF ls (i:Int) v).getD (0,0,0)).2.1),.int .i64 (((bF ls (i:Int) v).getD (0,0,0)).2.2)],.bool (decide (cO ls (i:Int) v))]) U ?_
 iterate 2 refine RL.ag (bE) ?_
 refine RL.aL (bz (cs:=[.int .i64 (0),.int .i64 (0),.int .i64 (0)]) eQ rfl hN ?_)
 clear hN
 intro AS lR (hN:aH w none_ lR [_,_,_,_,_,_,_,_])
 refine RL.aL (aS (vs:=[.int .i64 (((bF ls (i:Int) v).getD (0,0,0)).1),.int .i64 (((bF ls (i:Int) v).getD (0,0,0)).2.1),.int .i64 (((bF ls (i:Int) v).getD (0,0,0)).2.2)]) cT rfl rfl rfl (bh (bh (bh cZ))) hN 0 rfl rfl ?_)
 clear hN
 intro kY (hN:aH w none_ kY [_,_,_,_,_,_,_,_])
 refine RL.ag (v:=.bool (decide (cO ls (i:Int) v))) ai (RL.ak ?_)
 iterate 2 refine RW.seq ?_
 refine RW.region (RL.ag (v:=vJ i) U (RL.ag (v:=.int .i64 (v)) U (RL.ag (ca) (RL.ak ?_))))
 refine RW.aG _ (fun heq=>?_) (fun heq=>?_)
 refine RW.region (RL.ag (v:=.int .i64 (0)) ai (RL.ak ?_))
 iterate 2 refine RW.seq ?_
 refine RW.region ?_
 iterate 2 refine RL.ag (v:=.bool (decide (cO ls v (i:Int)))) U ?_
 by_cases uA:cO ls v (i:Int)
 rw[decide_eq_true uA]
 refine RL.bH (RL.ag (v:=.bool true) (al) (RL.ak (RW.bD (RW.region (RL.ag (v:=.int .i64 (ao)) U (RL.ag (aD rfl rfl rfl rfl) (RL.ag (v:=.int .i64 (adE.wrap (ao+1))) ai (RL.nil ?_))))))))
 refine aA (RW.aN (RL.ag (ah acI rfl cc) (RL.ag (aj acz (hN.aJ 5 rfl)) (RL.ag (v:=.int .i64 (0)) U ?_))))
 refine RL.aL (cx (enc:=vI) (l:=[0]) (xs:=[.tmp 64]) acz bI mN rfl rfl (fun _=>rfl) rfl (by decide) (by decide) hN ?_)
 clear hN
 intro Wt kI (hN:aH w none_ kI [_,_,_,_,_,_,_,_,_])
 refine RL.aL (b9 acz fI rfl (fun _=>rfl) hN 3 rfl rfl (hN.sl 0 rfl) rfl (by rw[CX];simp only[acH,acK,acS];omega) (by decide) ?_)
 clear hN
 intro wm lX (hN:aH w none_ lX [_,_,_,_,_,_,_,_,_])
 refine RL.ag (ah acI rfl cc) ?_
 refine RL.aL (b7 cc rfl rfl (hN.sl 3 rfl).cK (hN.sl 3 rfl).bT hN 6 rfl (acA rfl) ?_)
 clear hN
 intro oI (hN:aH w none_ oI [_,_,_,_,_,_,_,_,_])
 refine RL.ak (RW.region (RL.ag (ah acI rfl cc) (RL.ag (aj acz (hN.aJ 6 rfl)) (RL.ag (v:=.int .i64 (adE.wrap (ao+1))) U ?_))))
 refine RL.aL (cx (enc:=vI) (l:=[adE.wrap (ao+1)]) (xs:=[.tmp 70]) acz bI mN rfl rfl (fun _=>rfl) rfl (by decide) (by decide) hN ?_)
 clear hN
 intro Ws ph (hN:aH w none_ ph [_,_,_,_,_,_,_,_,_,_])
 refine RL.aL (b9 acz fI rfl (fun _=>rfl) hN 5 rfl rfl (hN.sl 0 rfl) rfl (by rw[AM];simp only[acH,acK,acS];omega) (by decide) ?_)
 clear hN
 intro u4 qq (hN:aH w none_ qq [_,_,_,_,_,_,_,_,_,_])
 refine RL.ag (ah acI rfl cc) ?_
 refine RL.aL (b7 cc rfl rfl (hN.sl 5 rfl).cK (hN.sl 5 rfl).bT hN 7 rfl (acA rfl) ?_)
 clear hN
 intro u3 (hN:aH w none_ u3 [_,_,_,_,_,_,_,_,_,_])
 refine RL.nil (ba (aA (RW.region (RL.ag (v:=vJ i) U (RL.ag (aD rfl rfl rfl (bg (by omega) (by omega))) (RL.ag (v:=.int .i64 ((i:Int)+1)) ai (RL.ak ?_)))))))
 exact⟨k-1,by omega,wm,a1++[0],u4,a2++[adE.wrap (ao+1)],i+1,rfl,rfl,rfl,rfl,rfl,(hN.sb [4,5,6,7,8,9]),by omega,by rw[dJ (show(ins.set v.toNat 0)[i]?=some 0 from by rw[adp,if_pos (by omega),if_pos (by omega)]),h1],by rw[acB,CX];rfl,by rw[acB,AM];rfl⟩
 rw[decide_eq_false uA]
 refine RL.aw (v:=.bool (decide (cO ls (i:Int) v))) U (RL.ag (v:=.bool (decide (cO ls (i:Int) v))) (aB) (RL.ak ?_))
 refine RW.aG _ (fun O5=>?_) (fun O5=>?_)
 refine RW.region (RL.ag (v:=.int .i64 (ao)) U (RL.ag (aD rfl rfl rfl rfl) (RL.ag (v:=.int .i64 (adE.wrap (ao+1))) ai (RL.bY (RL.ag (ah acI rfl cc) (RL.ag (aj acz (hN.aJ 5 rfl)) ?_))))))
 refine RL.ag (v:=.int .i64 (0)) U ?_
 refine RL.aL (cx (enc:=vI) (l:=[0]) (xs:=[.tmp 64]) acz bI mN rfl rfl (fun _=>rfl) rfl (by decide) (by decide) hN ?_)
 clear hN
 intro g18 vd (hN:aH w none_ vd [_,_,_,_,_,_,_,_,_])
 refine RL.aL (b9 acz fI rfl (fun _=>rfl) hN 3 rfl rfl (hN.sl 0 rfl) rfl (by rw[CX];simp only[acH,acK,acS];omega) (by decide) ?_)
 clear hN
 intro J2 zo (hN:aH w none_ zo [_,_,_,_,_,_,_,_,_])
 refine RL.ag (ah acI rfl cc) ?_
 refine RL.aL (b7 cc rfl rfl (hN.sl 3 rfl).cK (hN.sl 3 rfl).bT hN 6 rfl (acA rfl) ?_)
 clear hN
 intro Bp (hN:aH w none_ Bp [_,_,_,_,_,_,_,_,_])
 refine RL.ak (RW.region (RL.ag (ah acI rfl cc) (RL.ag (aj acz (hN.aJ 6 rfl)) (RL.ag (v:=.int .i64 (adE.wrap (ao+1))) U ?_))))
 refine RL.aL (cx (enc:=vI) (l:=[adE.wrap (ao+1)]) (xs:=[.tmp 70]) acz bI mN rfl rfl (fun _=>rfl) rfl (by decide) (by decide) hN ?_)
 clear hN
 intro Wr BB (hN:aH w none_ BB [_,_,_,_,_,_,_,_,_,_])
 refine RL.aL (b9 acz fI rfl (fun _=>rfl) hN 5 rfl rfl (hN.sl 0 rfl) rfl (by rw[AM];simp only[acH,acK,acS];omega) (by decide) ?_)
 clear hN
 intro WR yY (hN:aH w none_ yY [_,_,_,_,_,_,_,_,_,_])
 refine RL.ag (ah acI rfl cc) ?_
 refine RL.aL (b7 cc rfl rfl (hN.sl 5 rfl).cK (hN.sl 5 rfl).bT hN 7 rfl (acA rfl) ?_)
 clear hN
 intro zn (hN:aH w none_ zn [_,_,_,_,_,_,_,_,_,_])
 refine RL.nil (ba (aA (RW.region (RL.ag (v:=vJ i) U (RL.ag (aD rfl rfl rfl (bg (by omega) (by omega))) (RL.ag (v:=.int .i64 ((i:Int)+1)) ai (RL.ak ?_)))))))
 exact⟨k-1,by omega,J2,a1++[0],WR,a2++[adE.wrap (ao+1)],i+1,rfl,rfl,rfl,rfl,rfl,(hN.sb [4,5,6,7,8,9]),by omega,by rw[dJ (show(ins.set v.toNat 0)[i]?=some 0 from by rw[adp,if_pos (by omega),if_pos (by omega)]),h1],by rw[acB,CX];rfl,by rw[acB,AM];rfl⟩
 refine RW.skip (aA (RW.aN (RL.ag (ah acI rfl cc) (RL.ag (aj acz (hN.aJ 5 rfl)) (RL.ag (v:=.int .i64 (0)) U ?_)))))
 refine RL.aL (cx (enc:=vI) (l:=[0]) (xs:=[.tmp 64]) acz bI mN rfl rfl (fun _=>rfl) rfl (by decide) (by decide) hN ?_)
 clear hN
 intro Wq Dk (hN:aH w none_ Dk [_,_,_,_,_,_,_,_,_])
 refine RL.aL (b9 acz fI rfl (fun _=>rfl) hN 3 rfl rfl (hN.sl 0 rfl) rfl (by rw[CX];simp only[acH,acK,acS];omega) (by decide) ?_)
 clear hN
 intro Zc L7 (hN:aH w none_ L7 [_,_,_,_,_,_,_,_,_])
 refine RL.ag (ah acI rfl cc) ?_
 refine RL.aL (b7 cc rfl rfl (hN.sl 3 rfl).cK (hN.sl 3 rfl).bT hN 6 rfl (acA rfl) ?_)
 clear hN
 intro FO (hN:aH w none_ FO [_,_,_,_,_,_,_,_,_])
 refine RL.ak (RW.region (RL.ag (ah acI rfl cc) (RL.ag (aj acz (hN.aJ 6 rfl)) (RL.ag (v:=.int .i64 (ao)) U ?_))))
 refine RL.aL (cx (enc:=vI) (l:=[ao]) (xs:=[.tmp 70]) acz bI mN rfl rfl (fun _=>rfl) rfl (by decide) (by decide) hN ?_)
 clear hN
 intro g27 Gn (hN:aH w none_ Gn [_,_,_,_,_,_,_,_,_,_])
 refine RL.aL (b9 acz fI rfl (fun _=>rfl) hN 5 rfl rfl (hN.sl 0 rfl) rfl (by rw[AM];simp only[acH,acK,acS];omega) (by decide) ?_)
 clear hN
 intro y0 Eb (hN:aH w none_ Eb [_,_,_,_,_,_,_,_,_,_])
 refine RL.ag (ah acI rfl cc) ?_
 refine RL.aL (b7 cc rfl rfl (hN.sl 5 rfl).cK (hN.sl 5 rfl).bT hN 7 rfl (acA rfl) ?_)
 clear hN
 intro L6 (hN:aH w none_ L6 [_,_,_,_,_,_,_,_,_,_])
 refine RL.nil (ba (aA (RW.region (RL.ag (v:=vJ i) U (RL.ag (aD rfl rfl rfl (bg (by omega) (by omega))) (RL.ag (v:=.int .i64 ((i:Int)+1)) ai (RL.ak ?_)))))))
 exact⟨k-1,by omega,Zc,a1++[0],y0,a2++[ao],i+1,rfl,rfl,rfl,rfl,rfl,(hN.sb [4,5,6,7,8,9]),by omega,by rw[dJ (show(ins.set v.toNat 0)[i]?=some 0 from by rw[adp,if_pos (by omega),if_pos (by omega)]),h1],by rw[acB,CX];rfl,by rw[acB,AM];rfl⟩
 refine RW.skip (aA ?_)
 iterate 2 refine RW.seq ?_
 refine RW.region ?_
 iterate 2 refine RL.ag (v:=.bool (decide (cO ls v (i:Int)))) U ?_
 by_cases uA:cO ls v (i:Int)
 rw[decide_eq_true uA]
 refine RL.bH (RL.ag (v:=.bool true) (al) (RL.ak (RW.bD (RW.region (RL.ag (v:=.int .i64 (ao)) U (RL.ag (aD rfl rfl rfl rfl) (RL.ag (v:=.int .i64 (adE.wrap (ao+1))) ai (RL.nil ?_))))))))
 refine aA (RW.aN (RL.ag (ah acI rfl cc) (RL.ag (aj acz (hN.aJ 5 rfl)) (RL.ag (v:=.int .i64 (ap)) U ?_))))
 refine RL.aL (cx (enc:=vI) (l:=[ap]) (xs:=[.tmp 64]) acz bI mN rfl rfl (fun _=>rfl) rfl (by decide) (by decide) hN ?_)
 clear hN
 intro g30 L5 (hN:aH w none_ L5 [_,_,_,_,_,_,_,_,_])
 refine RL.aL (b9 acz fI rfl (fun _=>rfl) hN 3 rfl rfl (hN.sl 0 rfl) rfl (by rw[CX];simp only[acH,acK,acS];omega) (by decide) ?_)
 clear hN
 intro FR Kt (hN:aH w none_ Kt [_,_,_,_,_,_,_,_,_])
 refine RL.ag (ah acI rfl cc) ?_
 refine RL.aL (b7 cc rfl rfl (hN.sl 3 rfl).cK (hN.sl 3 rfl).bT hN 6 rfl (acA rfl) ?_)
 clear hN
 intro FN (hN:aH w none_ FN [_,_,_,_,_,_,_,_,_])
 refine RL.ak (RW.region (RL.ag (ah acI rfl cc) (RL.ag (aj acz (hN.aJ 6 rfl)) (RL.ag (v:=.int .i64 (adE.wrap (ao+1))) U ?_))))
 refine RL.aL (cx (enc:=vI) (l:=[adE.wrap (ao+1)]) (xs:=[.tmp 70]) acz bI mN rfl rfl (fun _=>rfl) rfl (by decide) (by decide) hN ?_)
 clear hN
 intro Kf Gm (hN:aH w none_ Gm [_,_,_,_,_,_,_,_,_,_])
 refine RL.aL (b9 acz fI rfl (fun _=>rfl) hN 5 rfl rfl (hN.sl 0 rfl) rfl (by rw[AM];simp only[acH,acK,acS];omega) (by decide) ?_)
 clear hN
 intro Zb Ks (hN:aH w none_ Ks [_,_,_,_,_,_,_,_,_,_])
 refine RL.ag (ah acI rfl cc) ?_
 refine RL.aL (b7 cc rfl rfl (hN.sl 5 rfl).cK (hN.sl 5 rfl).bT hN 7 rfl (acA rfl) ?_)
 clear hN
 intro L4 (hN:aH w none_ L4 [_,_,_,_,_,_,_,_,_,_])
 refine RL.nil (ba (aA (RW.region (RL.ag (v:=vJ i) U (RL.ag (aD rfl rfl rfl (bg (by omega) (by omega))) (RL.ag (v:=.int .i64 ((i:Int)+1)) ai (RL.ak ?_)))))))
 exact⟨k-1,by omega,FR,a1++[ap],Zb,a2++[adE.wrap (ao+1)],i+1,rfl,rfl,rfl,rfl,rfl,(hN.sb [4,5,6,7,8,9]),by omega,by rw[dJ (show(ins.set v.toNat 0)[i]?=some ap from by rw[adp,if_neg (by omega)];exact bV),h1],by rw[acB,CX];rfl,by rw[acB,AM];rfl⟩
 rw[decide_eq_false uA]
 refine RL.aw (v:=.bool (decide (cO ls (i:Int) v))) U (RL.ag (v:=.bool (decide (cO ls (i:Int) v))) (aB) (RL.ak ?_))
 refine RW.aG _ (fun O5=>?_) (fun O5=>?_)
 refine RW.region (RL.ag (v:=.int .i64 (ao)) U (RL.ag (aD rfl rfl rfl rfl) (RL.ag (v:=.int .i64 (adE.wrap (ao+1))) ai (RL.bY (RL.ag (ah acI rfl cc) (RL.ag (aj acz (hN.aJ 5 rfl)) ?_))))))
 refine RL.ag (v:=.int .i64 (ap)) U ?_
 refine RL.aL (cx (enc:=vI) (l:=[ap]) (xs:=[.tmp 64]) acz bI mN rfl rfl (fun _=>rfl) rfl (by decide) (by decide) hN ?_)
 clear hN
 intro g36 P4 (hN:aH w none_ P4 [_,_,_,_,_,_,_,_,_])
 refine RL.aL (b9 acz fI rfl (fun _=>rfl) hN 3 rfl rfl (hN.sl 0 rfl) rfl (by rw[CX];simp only[acH,acK,acS];omega) (by decide) ?_)
 clear hN
 intro Y9 Ns (hN:aH w none_ Ns [_,_,_,_,_,_,_,_,_])
 refine RL.ag (ah acI rfl cc) ?_
 refine RL.aL (b7 cc rfl rfl (hN.sl 3 rfl).cK (hN.sl 3 rfl).bT hN 6 rfl (acA rfl) ?_)
 clear hN
 intro Kr (hN:aH w none_ Kr [_,_,_,_,_,_,_,_,_])
 refine RL.ak (RW.region (RL.ag (ah acI rfl cc) (RL.ag (aj acz (hN.aJ 6 rfl)) (RL.ag (v:=.int .i64 (adE.wrap (ao+1))) U ?_))))
 refine RL.aL (cx (enc:=vI) (l:=[adE.wrap (ao+1)]) (xs:=[.tmp 70]) acz bI mN rfl rfl (fun _=>rfl) rfl (by decide) (by decide) hN ?_)
 clear hN
 intro g39 Kq (hN:aH w none_ Kq [_,_,_,_,_,_,_,_,_,_])
 refine RL.aL (b9 acz fI rfl (fun _=>rfl) hN 5 rfl rfl (hN.sl 0 rfl) rfl (by rw[AM];simp only[acH,acK,acS];omega) (by decide) ?_)
 clear hN
 intro Y8 Tu (hN:aH w none_ Tu [_,_,_,_,_,_,_,_,_,_])
 refine RL.ag (ah acI rfl cc) ?_
 refine RL.aL (b7 cc rfl rfl (hN.sl 5 rfl).cK (hN.sl 5 rfl).bT hN 7 rfl (acA rfl) ?_)
 clear hN
 intro P2 (hN:aH w none_ P2 [_,_,_,_,_,_,_,_,_,_])
 refine RL.nil (ba (aA (RW.region (RL.ag (v:=vJ i) U (RL.ag (aD rfl rfl rfl (bg (by omega) (by omega))) (RL.ag (v:=.int .i64 ((i:Int)+1)) ai (RL.ak ?_)))))))
 exact⟨k-1,by omega,Y9,a1++[ap],Y8,a2++[adE.wrap (ao+1)],i+1,rfl,rfl,rfl,rfl,rfl,(hN.sb [4,5,6,7,8,9]),by omega,by rw[dJ (show(ins.set v.toNat 0)[i]?=some ap from by rw[adp,if_neg (by omega)];exact bV),h1],by rw[acB,CX];rfl,by rw[acB,AM];rfl⟩
 refine RW.skip (aA (RW.aN (RL.ag (ah acI rfl cc) (RL.ag (aj acz (hN.aJ 5 rfl)) (RL.ag (v:=.int .i64 (ap)) U ?_)))))
 refine RL.aL (cx (enc:=vI) (l:=[ap]) (xs:=[.tmp 64]) acz bI mN rfl rfl (fun _=>rfl) rfl (by decide) (by decide) hN ?_)
 clear hN
 intro g42 P1 (hN:aH w none_ P1 [_,_,_,_,_,_,_,_,_])
 refine RL.aL (b9 acz fI rfl (fun _=>rfl) hN 3 rfl rfl (hN.sl 0 rfl) rfl (by rw[CX];simp only[acH,acK,acS];omega) (by decide) ?_)
 clear hN
 intro Y6 P0 (hN:aH w none_ P0 [_,_,_,_,_,_,_,_,_])
 refine RL.ag (ah acI rfl cc) ?_
 refine RL.aL (b7 cc rfl rfl (hN.sl 3 rfl).cK (hN.sl 3 rfl).bT hN 6 rfl (acA rfl) ?_)
 clear hN
 intro PZ (hN:aH w none_ PZ [_,_,_,_,_,_,_,_,_])
 refine RL.ak (RW.region (RL.ag (ah acI rfl cc) (RL.ag (aj acz (hN.aJ 6 rfl)) (RL.ag (v:=.int .i64 (ao)) U ?_))))
 refine RL.aL (cx (enc:=vI) (l:=[ao]) (xs:=[.tmp 70]) acz bI mN rfl rfl (fun _=>rfl) rfl (by decide) (by decide) hN ?_)
 clear hN
 intro g45 T3 (hN:aH w none_ T3 [_,_,_,_,_,_,_,_,_,_])
 refine RL.aL (b9 acz fI rfl (fun _=>rfl) hN 5 rfl rfl (hN.sl 0 rfl) rfl (by rw[AM];simp only[acH,acK,acS];omega) (by decide) ?_)
 clear hN
 intro QD Tt (hN:aH w none_ Tt [_,_,_,_,_,_,_,_,_,_])
 refine RL.ag (ah acI rfl cc) ?_
 refine RL.aL (b7 cc rfl rfl (hN.sl 5 rfl).cK (hN.sl 5 rfl).bT hN 7 rfl (acA rfl) ?_)
 clear hN
 intro Nr (hN:aH w none_ Nr [_,_,_,_,_,_,_,_,_,_])
 refine RL.nil (ba (aA (RW.region (RL.ag (v:=vJ i) U (RL.ag (aD rfl rfl rfl (bg (by omega) (by omega))) (RL.ag (v:=.int .i64 ((i:Int)+1)) ai (RL.ak ?_)))))))
 exact⟨k-1,by omega,Y6,a1++[ap],QD,a2++[ao],i+1,rfl,rfl,rfl,rfl,rfl,(hN.sb [4,5,6,7,8,9]),by omega,by rw[dJ (show(ins.set v.toNat 0)[i]?=some ap from by rw[adp,if_neg (by omega)];exact bV),h1],by rw[acB,CX];rfl,by rw[acB,AM];rfl⟩
 refine RW.exit ?_
 iterate 2 refine bP ?_
 refine aY (aA ?_)
 iterate 2 refine RW.seq ?_
 refine RW.region (RL.ag (v:=.int .i64 (0)) ai (RL.ak (RW.block ?_)))
 refine RW.loop (fun k2 R1 ez=>∃v3:Value,∃a3:List I5,∃q:Nat,R1 1=.int .i64 (v)∧R1 2=vP g1∧R1 4=vP g2∧R1 6=vP g4∧R1 14=vJ q∧aH w none_ ez [.own vI 3 (v1) (a1),.own vI 3 (v2) (a2),.cd aV 5 248 (v3) (a3),.aJ g4 [vJ n,v1,v3,v2] 194,.aJ g2 [.int .i64 (0),vN,vN,vN] 194,.aJ g1 [vJ n,iv,lv,ov] 194]∧(q+k2=ls.length)∧(a3=(ls.take q).filter (fun y=>decide (¬y.1=v∧¬y.2.1=v)))∧(a3.length≤q)) (ls.length) ?_ ?_
 exact⟨vN,[],0,rfl,rfl,rfl,rfl,rfl,hN,by omega,rfl,ac8 _⟩
 clear hN
 rintro k2 R1 ez ⟨v3,a3,q,bN,bQ,cu,cV,gO,hN,yl,h3,YH⟩
 have cz:=hC bN bQ cu cV gO
 obtain⟨re,rfl⟩:=cz
 clear bN bQ cu cV gO
 iterate 2 refine RW.seq ?_
 refine RW.region (RL.ag (v:=vJ q) U (RL.ag (ah acI rfl fo) (RL.ag (aj acZ (hN.aJ 5 rfl)) ?_)))
 have Yn:=(hl.1.o.now hN).bw
 refine RL.ag (bO acZ (hl.1.o.now hN)) (RL.ag (aK) (RL.ak ?_))
 refine RW.aG _ (fun ep=>?_) (fun ep=>?_)
 refine RW.skip (aA (RW.seq (RW.block (RW.aN (RL.ag (ah acI rfl fo) (RL.ag (aj acZ (hN.aJ 5 rfl)) (RL.ag (v:=vJ q) U (RL.ag (aT acZ gZ aI (hl.1.o.now hN)) ?_))))))))
 have aO:=cQ (ls) q
 obtain⟨aq,ir⟩:=aO
 refine RL.ag (bm (m:=q) (b:=0) adf rfl bI aI (hl.1.o.now hN) ir) (RL.ag (bB (m:=q) (j:=0) (a:=aq) acy aI (hl.1.o.now hN) ir) (RL.ag (v:=.int .i64 (v)) U (RL.ag (bj) (RL.ag (v:=.bool (decide (¬aq.1=v))) U ?_))))
 by_cases uy:¬aq.1=v
 rw[decide_eq_true uy]
 refine RL.aw (ah acI rfl fo) (RL.aw (aj acZ (hN.aJ 5 rfl)) (RL.aw (v:=vJ q) U (RL.aw (aT acZ gZ aI (hl.1.o.now hN)) (RL.aw (bm (m:=q) (b:=0) adf rfl bI aI (hl.1.o.now hN) ir) (RL.aw (bB (m:=q) (j:=1) (a:=aq) acy aI (hl.1.o.now hN) ir) (RL.aw (v:=.int .i64 (v)) U (RL.aw (bj) (RL.ag (v:=.bool (decide (¬aq.2.1=v))) (al) (RL.nil ?_)))))))))
 refine aA ?_
 refine RW.aG _ (fun Lv=>?_) (fun Lv=>?_)
 replace hN:=hN.ext (Ext.drew ez)
 refine RW.bA (fun u=>aH w none_ u [.own vI 3 (v1) (a1),.own vI 3 (v2) (a2),.aJ g4 [vJ n,v1,v3,v2] 194,.aJ g2 [.int .i64 (0),vN,vN,vN] 194,.aJ g1 [vJ n,iv,lv,ov] 194]) 10 [(0,0),(1,0),(2,0),(3,0),(4,0),(5,0),(6,0),(7,1),(8,1),(9,0),(10,2)] (by intro _ _ _ h;exact h) (hN.sb [0,1,3,4,5]) (RQ.an rfl (fun w hS=>(ah acI rfl fo)) (RQ.an rfl (fun w hS=>(aj acZ (hS.aJ 2 rfl))) (RQ.an rfl (fun w hS=>(ah acI rfl fo)) (RQ.an rfl (fun w hS=>(aj acZ (hS.aJ 4 rfl))) (RQ.an (v:=vJ q) rfl (fun w hS=>U) (RQ.an rfl (fun w hS=>(aT acZ gZ aI (hl.1.o.now hS))) (RQ.an rfl (fun w hS=>(b0 (m:=q) (a:=aq) adf gZ aI (hl.1.o.now hS) ir (cs:=[.int .i64 (aq.1),.int .i64 (aq.2.1),.int .i64 (aq.2.2.1),.int .i64 (aq.2.2.2.1),.int .i64 (aq.2.2.2.2)]))) ?_)))))))
 refine RQ.bW rfl (dn (cf:=aV) (s:=5) (pl:=[(0,.tmp 105)]) (ps:=[(0,.agg #[.int .i64 (aq.1),.int .i64 (aq.2.1),.int .i64 (aq.2.2.1),.int .i64 (aq.2.2.2.1),.int .i64 (aq.2.2.2.2)])]) (zc:=[.int .i64 (0),.int .i64 (0),.int .i64 (0),.int .i64 (0),.int .i64 (0)]) (l:=[(aq.1,aq.2.1,aq.2.2.1,aq.2.2.2.1,aq.2.2.2.2)]) acZ hJ (by kernel_rfl) rfl rfl (aP (vs:=[.int .i64 (aq.1),.int .i64 (aq.2.1),.int .i64 (aq.2.2.1),.int .i64 (aq.2.2.2.1),.int .i64 (aq.2.2.2.2)]) rfl rfl (acA rfl) rfl) aI rfl (by decide) (by decide) (by decide) hN ?_)
 clear hN
 intro Wo Ts (hN:aH w none_ Ts [_,_,_,_,_,_,_])
 refine⟨(hN.sb [1,2,4,5,6]),?_⟩
 refine RQ.bW rfl (cp acZ hJ rfl (by decide) dp aI hN 3 rfl rfl (hN.sm 0 rfl) rfl (by(try simp only[acB,acH,acK,acS]);omega) (by decide) ?_)
 clear hN
 intro Y5 QC (hN:aH w none_ QC [_,_,_,_,_,_,_])
 refine⟨(hN.sb [1,2,4,5,6]),?_⟩
 refine RQ.an rfl (fun w hS=>(ah acI rfl fo)) ?_
 refine RQ.last rfl rfl (b7 fo rfl rfl (hN.sm 3 rfl).cK (hN.sm 3 rfl).bT hN 4 rfl (acA rfl) ?_)
 clear hN
 intro PX (hN:aH w none_ PX [_,_,_,_,_,_,_])
 refine RZ.dW (ba (aA (RW.region (RL.ag (v:=vJ q) U (RL.ag (aD rfl rfl rfl (bg (by omega) (by omega))) (RL.ag (v:=.int .i64 ((q:Int)+1)) ai (RL.ak ?_)))))))
 exact⟨k2-1,by omega,Y5,a3++[(aq.1,aq.2.1,aq.2.2.1,aq.2.2.2.1,aq.2.2.2.2)],q+1,rfl,rfl,rfl,rfl,rfl,(hN.sb [1,2,3,4,5,6]),by omega,by rw[dL ir,if_pos (decide_eq_true ⟨uy,Lv⟩),h3],by(try simp only[acB,acH]);omega⟩
 refine RW.skip (ba (aA (RW.region (RL.ag (v:=vJ q) U (RL.ag (aD rfl rfl rfl (bg (by omega) (by omega))) (RL.ag (v:=.int .i64 ((q:Int)+1)) ai (RL.ak ?_)))))))
 exact⟨k2-1,by omega,v3,a3,q+1,rfl,rfl,rfl,rfl,rfl,hN,by omega,by rw[dL ir,if_neg (fun h=>by have h:=of_decide_eq_true h;first|exact uy h.1|exact Lv h.2),adw];exact h3,by(try simp only[acB,acH]);omega⟩
 rw[decide_eq_false uy]
 iterate 8 refine RL.bH ?_
 refine RL.ag (v:=.bool false) (aB) (RL.ak (RW.cj (RW.skip (ba (aA (RW.region (RL.ag (v:=vJ q) U (RL.ag (aD rfl rfl rfl (bg (by omega) (by omega))) ?_))))))))
 refine RL.ag (v:=.int .i64 ((q:Int)+1)) ai (RL.ak ?_)
 exact⟨k2-1,by omega,v3,a3,q+1,rfl,rfl,rfl,rfl,rfl,hN,by omega,by rw[dL ir,if_neg (fun h=>by have h:=of_decide_eq_true h;first|exact uy h.1|exact Lv h.2),adw];exact h3,by(try simp only[acB,acH]);omega⟩
 refine RW.exit ?_
 iterate 2 refine bP ?_
 refine aY (aA (RW.aN (RL.ag (aE (cs:=[vJ n,v1,v3,v2]) acI cI (hN.aJ 3 rfl)) ?_)))
 refine RL.aL (aS (vs:=[vJ n,v1,v3,v2]) cI rfl rfl rfl (by intro u hu;simp only[ac6,ac0,or_false]at hu;rcases hu with rfl|rfl|rfl|rfl<;>first|rfl|exact(hN.sl 0 rfl).bT|exact(hN.sl 1 rfl).bT|exact(hN.sm 2 rfl).bT) hN 4 rfl rfl ?_)
 clear hN
 intro T2 (hN:aH w none_ T2 [_,_,_,_,_,_])
 refine RL.ag (v:=.bool true) ai (RL.ak (RW.ret (bc (RV.eo rfl rfl (dG (hN.aJ 4 rfl) acI rfl cI)) ?_)))
 have ic:i=n:=by omega
 subst ic
 rw[ac2 (by rw[adO];omega)]at h1
 have fF:q=ls.length:=by omega
 rw[fF,adm]at h3
 subst h1
 have Qt:a3=wu ls v:=h3
 subst Qt
 exact⟨_,_,_,_,_,rfl,eB.KF (hN.ft 0 rfl) hF,fK.KD (hN.fL 2 rfl) hF,eB.KF (hN.ft 1 rfl) hF,AM,hN.aX⟩
theorem uV (n:Nat) (iv lv ov:Value) (ins:List Int) (ls:List I5) (lost:List Int) (w:World) (hi:Sl vI w iv ins) (hl:Sm aV w lv ls) (ho:Sl vI w ov lost) (v:Int) (ui:ins.length=n) (mJ:lost.length=n) (hn:n≤4096):aM acD 184 #[.agg #[.int .i64 (n:Int),iv,lv,ov],.int .i64 v] w fun r w'=>∃z:Int,r=.int .i64 z∧Ext w w':=by
 refine aM.aZ aiB ?_
 rw[cS]
 have hN:=aH.nil w none_
 refine RW.aN ?_
 refine RL.aL (bJ (cs:=[vJ n,iv,lv,ov]) rfl rfl hN ?_)
 clear hN
 intro g1 w1 (hN:aH w none_ w1 [_])
 refine RL.ag (v:=.int .i64 (0)) ai (RL.ak ?_)
 iterate 2 refine RW.seq ?_
 refine RW.region (RL.ag (aE (cs:=[vJ n,iv,lv,ov]) acI cI (hN.aJ 0 rfl)) (RL.ag (v:=.int .i64 (v)) U ?_))
 refine RL.aL (bu afB rfl rfl rfl rfl ((lK n _ _ _ ins ls lost _ (hi.o.now hN) (hl.o.now hN) (ho.o.now hN) v ui).mono ?_))
 rintro _ w2 ⟨rfl,bl⟩
 replace hN:=hN.ext bl
 clear bl
 refine RL.ag (cU rfl) (RL.ak ?_)
 refine RW.aG _ (fun u9=>?_) (fun u9=>?_)
 refine RW.aN (RL.ag (v:=.int .i64 (0)) ai (RL.ak (RW.ret (aU (bc (RV.tmp rfl) ?_)))))
 exact⟨_,rfl,hN.aX⟩
 refine RW.skip (aA (RW.seq ?_))
 have SC:=acX.1 u9
 have u5:=SC.1
 have uc:=SC.2.1
 refine RW.region (RL.ag (aE (cs:=[vJ n,iv,lv,ov]) acI cI (hN.aJ 0 rfl)) (RL.ag (v:=.int .i64 (v)) U ?_))
 refine RL.aL (bu ahk rfl rfl rfl rfl ((qE n _ _ _ ins ls lost _ (hi.o.now hN) (hl.o.now hN) (ho.o.now hN) v (by omega)).mono ?_))
 rintro v3 w3 ⟨cL,bl⟩
 replace hN:aH w none_ w3 [_,_]:=hN.cl (l:=df ls v n) cL bl
 clear cL bl
 refine RL.ag (v:=v3) ai (RL.bY (RL.ag (aE (cs:=[vJ n,iv,lv,ov]) acI cI (hN.aJ 1 rfl)) (RL.ag (v:=.int .i64 (v)) U ?_)))
 refine RL.aL (bu ahj rfl rfl rfl rfl ((oO n _ _ _ ins ls lost _ (hi.o.now hN) (hl.o.now hN) (ho.o.now hN) v (by omega)).mono ?_))
 rintro v4 w4 ⟨cL,bl⟩
 replace hN:aH w none_ w4 [_,_,_]:=hN.cl (l:=cw ls v n) cL bl
 clear cL bl
 refine RL.ag (v:=v4) ai (RL.bY (RL.ag (v:=.int .i64 (0)) ai (RL.ak ?_)))
 iterate 2 refine RW.seq ?_
 refine RW.region (RL.ag (v:=.int .i64 (0)) ai (RL.ak (RW.block ?_)))
 refine RW.loop (fun k R0 cv=>∃z:Int,∃i:Nat,R0 1=.int .i64 (v)∧R0 2=vP g1∧R0 5=v3∧R0 6=v4∧R0 7=.int .i64 (z)∧R0 8=vJ i∧aH w none_ cv [.own vI 3 (v4) (cw ls v n),.own vI 3 (v3) (df ls v n),.aJ g1 [vJ n,iv,lv,ov] 194]∧(i+k=(df ls v n).length)) ((df ls v n).length) ?_ ?_
 exact⟨0,0,rfl,rfl,rfl,rfl,rfl,rfl,hN,by omega⟩
 clear hN
 rintro k R0 cv ⟨z,i,bN,bQ,cy,cV,cC,cM,hN,fP⟩
 have cz:=oK bN bQ cy cV cC cM
 obtain⟨fV,rfl⟩:=cz
 clear bN bQ cy cV cC cM
 iterate 2 refine RW.seq ?_
 refine RW.region (RL.ag (v:=vJ i) U (RL.ag (v:=v3) U ?_))
 have qP:=(hN.sl 1 rfl).bw
 refine RL.ag (aQ acz (hN.sl 1 rfl)) (RL.ag (aK) (RL.ak ?_))
 refine RW.aG _ (fun cD=>?_) (fun cD=>?_)
 refine RW.skip (aA (RW.seq (RW.block (RW.aN (RL.ag (v:=.int .i64 (0)) ai (RL.ak (RW.block ?_)))))))
 refine RW.loop (fun k2 R1 ez=>∃z2:Int,∃q:Nat,R1 1=.int .i64 (v)∧R1 2=vP g1∧R1 5=v3∧R1 6=v4∧R1 7=.int .i64 (z2)∧R1 8=vJ i∧R1 9=vJ q∧aH w none_ ez [.own vI 3 (v4) (cw ls v n),.own vI 3 (v3) (df ls v n),.aJ g1 [vJ n,iv,lv,ov] 194]∧(q+k2=(cw ls v n).length)) ((cw ls v n).length) ?_ ?_
 exact⟨z,0,rfl,rfl,rfl,rfl,rfl,rfl,rfl,hN,by omega⟩
 clear hN
 rintro k2 R1 ez ⟨z2,q,bN,bQ,cy,cV,cC,cM,dN,hN,yl⟩
 have cz:=BD bN bQ cy cV cC cM dN
 obtain⟨re,rfl⟩:=cz
 clear bN bQ cy cV cC cM dN
 iterate 2 refine RW.seq ?_
 refine RW.region (RL.ag (v:=vJ q) U (RL.ag (v:=v4) U ?_))
 have AK:=(hN.sl 0 rfl).bw
 refine RL.ag (aQ acz (hN.sl 0 rfl)) (RL.ag (aK) (RL.ak ?_))
 refine RW.aG _ (fun ep=>?_) (fun ep=>?_)
 refine RW.skip (aA (RW.seq (RW.block (RW.seq ?_))))
 replace hN:=hN.ext (Ext.drew ez)
 refine RW.bA (fun u=>aH w none_ u [.own vI 3 (v4) (cw ls v n),.own vI 3 (v3) (df ls v n),.aJ g1 [vJ n,iv,lv,ov] 194]) 9 [(0,0),(1,0),(2,0),(3,0),(4,0),(5,0),(6,0),(7,0),(8,0)] (by intro _ _ _ h;exact h) hN (RQ.an (v:=v3) rfl (fun w hS=>U) (RQ.an (v:=vJ i) rfl (fun w hS=>U) (RQ.an rfl (fun w hS=>(aC acz bI (hS.sl 1 rfl))) ?_)))
 have aO:=cQ ((df ls v n)) i
 obtain⟨a7,ha7⟩:=aO
 refine RQ.an rfl (fun w hS=>(aF (m:=i) (a:=a7) acy (hS.sl 1 rfl) ha7)) (RQ.an (v:=v4) rfl (fun w hS=>U) (RQ.an (v:=vJ q) rfl (fun w hS=>U) (RQ.an rfl (fun w hS=>(aC acz bI (hS.sl 0 rfl))) ?_)))
 have aO:=cQ ((cw ls v n)) q
 obtain⟨a8,V4⟩:=aO
 refine RQ.an rfl (fun w hS=>(aF (m:=q) (a:=a8) acy (hS.sl 0 rfl) V4)) (RQ.an rfl (fun w hS=>(bj)) (RQ.bq (aA ?_)))
 refine RW.aG _ (fun dX=>?_) (fun dX=>?_)
 refine RW.region (RL.ag (v:=.int .i64 (z2)) U (RL.ag (aD rfl rfl rfl rfl) (RL.ag (v:=.int .i64 (adE.wrap (z2+1))) ai (RL.nil (ba (aA (RW.region (RL.ag (v:=vJ q) U (RL.ag (aD rfl rfl rfl (bg (by omega) (by omega))) ?_)))))))))
 refine RL.ag (v:=.int .i64 ((q:Int)+1)) ai (RL.ak ?_)
 exact⟨k2-1,by omega,adE.wrap (z2+1),q+1,rfl,rfl,rfl,rfl,rfl,rfl,rfl,hN,by omega⟩
 refine RW.skip (ba (aA (RW.region (RL.ag (v:=vJ q) U (RL.ag (aD rfl rfl rfl (bg (by omega) (by omega))) (RL.ag (v:=.int .i64 ((q:Int)+1)) ai (RL.ak ?_)))))))
 exact⟨k2-1,by omega,z2,q+1,rfl,rfl,rfl,rfl,rfl,rfl,rfl,hN,by omega⟩
 refine RW.exit ?_
 iterate 2 refine bP ?_
 refine aY (ba (aA (RW.region (RL.ag (v:=vJ i) U (RL.ag (aD rfl rfl rfl (bg (by omega) (by omega))) (RL.ag (v:=.int .i64 ((i:Int)+1)) ai (RL.ak ?_)))))))
 exact⟨k-1,by omega,z2,i+1,rfl,rfl,rfl,rfl,rfl,rfl,hN,by omega⟩
 refine RW.exit ?_
 iterate 2 refine bP ?_
 refine aY (aA (RW.aN (RL.ag (v:=.int .i64 (z)) U (RL.ag (v:=v3) U (RL.ag (aQ acz (hN.sl 1 rfl)) (RL.ag (aD rfl rfl rfl rfl) (RL.ag (v:=v4) U ?_)))))))
 have Jp:=(hN.sl 0 rfl).bw
 refine RL.ag (aQ acz (hN.sl 0 rfl)) (RL.ag (aD rfl rfl rfl rfl) (RL.ag (ah acI rfl cc) (RL.ag (aj acz (hN.aJ 2 rfl)) (RL.ag (v:=.int .i64 (v)) U (RL.ag (aC acz bI (ho.o.now hN)) ?_)))))
 have aO:=cQ (lost) ((v).toNat)
 obtain⟨ac,ja⟩:=aO
 refine RL.ag (aF (m:=(v).toNat) (a:=ac) acy (ho.o.now hN) ja) (RL.ag (aD rfl rfl rfl rfl) (RL.ag (v:=.int .i64 (adE.wrap (adE.wrap (adE.wrap (z-((df ls v n).length:Int))-((cw ls v n).length:Int))+ac))) ai (RL.ak (RW.ret (bc (RV.tmp rfl) ?_)))))
 exact⟨_,rfl,hN.aX⟩
end Go.Proofs.YtngkdkbpgoddlaaGreat
namespace Go.Proofs.YtngkdkbpgoddlaaGreat
open Go.RowKit Go.Rl
open Go.Gr
theorem BF (n:Nat) (v:Value) (l:List I3) (kv:Value) (ks:List Int) (w:World) (hv:Sm bC w v l) (hk:Sl vI w kv ks) (hlen:ks.length=l.length) (hl:l.length≤40) (hn:n≤12):aM acD 132 #[.agg #[.int .i64 (n:Int),v,kv]] w fun r w'=>∃iv lv ov ls lost,r=.agg #[.int .i64 (n:Int),iv,lv,ov]∧eB vI 3 w' w.heap.size iv (ac3 n 1)∧fK aV 5 248 w' w.heap.size lv ls∧eB vI 3 w' w.heap.size ov lost∧ls.Perm (x9 l ks n)∧lost.length=n∧ls.length≤480∧Ext w w':=by
 refine aM.aZ akr ?_
 rw[cH]
 have hN:=aH.nil w none_
 refine RW.aN ?_
 refine RL.aL (bJ (cs:=[vJ n,v,kv]) rfl rfl hN ?_)
 clear hN
 intro g1 w1 (hN:aH w none_ w1 [_])
 refine RL.aL (bz (cs:=[.int .i64 (0),vN,vN,vN]) jb rfl hN ?_)
 clear hN
 intro g2 w2 (hN:aH w none_ w2 [_,_])
 refine RL.bY (RL.ag (ah adt rfl dw) (RL.ag (ah acJ rfl bI) (RL.ag (aj acy (hN.aJ 1 rfl)) (RL.ag (bR (cs:=[vJ n,vN,vN,vN]) acI jb (places:=#[(0,1),(1,1),(2,1),(3,1)]) (by intro w;kernel_rfl) (pl:=[(0,.tmp 9)]) rfl (ps:=[(0,vJ n)]) rfl (zc:=[.int .i64 (0),vN,vN,vN]) rfl (aP (vs:=[vJ n]) rfl rfl (acA rfl) rfl)) ?_))))
 refine RL.aL (bz (cs:=[.int .i64 (0),vN,vN,vN]) jb rfl hN ?_)
 clear hN
 intro g3 w3 (hN:aH w none_ w3 [_,_,_])
 refine RL.aL (aS (vs:=[vJ n,vN,vN,vN]) cI rfl rfl rfl (bh (bh (bh (bh cZ)))) hN 0 rfl rfl ?_)
 clear hN
 intro w4 (hN:aH w none_ w4 [_,_,_])
 refine RL.ak ?_
 iterate 2 refine RW.seq ?_
 replace hN:=hN.ew aV 5 248
 replace hN:=hN.dy vI 3
 replace hN:=hN.dy vI 3
 replace hN:aH w none_ w4 [.own vI 3 (vN) ([]),.own vI 3 (vN) ([]),.cd aV 5 248 (vN) ([]),.aJ g3 [vJ n,vN,vN,vN] 194,.aJ g2 [.int .i64 (0),vN,vN,vN] 194,.aJ g1 [vJ n,v,kv] 111]:=hN
 refine RW.region (RL.ag (v:=.int .i64 (0)) ai (RL.ak (RW.block ?_)))
 refine RW.loop (fun k R0 cv=>∃v1:Value,∃a1:List Int,∃v2:Value,∃a2:List Int,∃v3:Value,∃a3:List I5,∃i:Nat,R0 1=vP g1∧R0 2=vP g2∧R0 3=vP g3∧R0 4=vJ i∧aH w none_ cv [.own vI 3 (v1) (a1),.own vI 3 (v2) (a2),.cd aV 5 248 (v3) (a3),.aJ g3 [vJ n,v1,v3,v2] 194,.aJ g2 [.int .i64 (0),vN,vN,vN] 194,.aJ g1 [vJ n,v,kv] 111]∧(i+k=n)∧(a1=ac3 i 1)∧(a1.length=i)∧(a2.length=i)∧(a3.Perm (x9 l ks i))∧(a3.length≤40*i)) (n) ?_ ?_
 exact⟨vN,[],vN,[],vN,[],0,rfl,rfl,rfl,rfl,hN,by omega,rfl,rfl,rfl,.refl _,ac8 _⟩
 clear hN
 rintro k R0 cv ⟨v1,a1,v2,a2,v3,a3,i,bN,bQ,cb,cu,hN,fP,h1,CX,AM,h3,YH⟩
 have cz:=iV bN bQ cb cu
 obtain⟨fV,rfl⟩:=cz
 clear bN bQ cb cu
 iterate 2 refine RW.seq ?_
 refine RW.region (RL.ag (v:=vJ i) U (RL.ag (ah acI rfl bI) (RL.ag (aj acy (hN.aJ 3 rfl)) (RL.ag (aK) (RL.ak ?_)))))
 refine RW.aG _ (fun cD=>?_) (fun cD=>?_)
 refine RW.skip (aA (RW.seq (RW.block (RW.aN (RL.ag (ah acI rfl cc) (RL.ag (aj acz (hN.aJ 3 rfl)) ?_))))))
 refine RL.aL (cx (enc:=vI) (l:=[1]) (xs:=[.const (.int .i64 (1))]) acz bI mN rfl rfl (fun _=>rfl) rfl (by decide) (by decide) hN ?_)
 clear hN
 intro g5 w5 (hN:aH w none_ w5 [_,_,_,_,_,_,_])
 refine RL.aL (b9 acz fI rfl (fun _=>rfl) hN 1 rfl rfl (hN.sl 0 rfl) rfl (by rw[CX];simp only[acH,acK,acS];omega) (by decide) ?_)
 clear hN
 intro v6 w6 (hN:aH w none_ w6 [_,_,_,_,_,_,_])
 refine RL.ag (ah acI rfl cc) ?_
 refine RL.aL (b7 cc rfl rfl (hN.sl 1 rfl).cK (hN.sl 1 rfl).bT hN 4 rfl (acA rfl) ?_)
 clear hN
 intro w7 (hN:aH w none_ w7 [_,_,_,_,_,_,_])
 refine RL.bY (RL.ag (ah acI rfl cc) (RL.ag (aj acz (hN.aJ 4 rfl)) ?_))
 refine RL.aL (cx (enc:=vI) (l:=[0]) (xs:=[.const (.int .i64 (0))]) acz bI mN rfl rfl (fun _=>rfl) rfl (by decide) (by decide) hN ?_)
 clear hN
 intro g8 w8 (hN:aH w none_ w8 [_,_,_,_,_,_,_,_])
 refine RL.aL (b9 acz fI rfl (fun _=>rfl) hN 3 rfl rfl (hN.sl 0 rfl) rfl (by rw[AM];simp only[acH,acK,acS];omega) (by decide) ?_)
 clear hN
 intro v9 w9 (hN:aH w none_ w9 [_,_,_,_,_,_,_,_])
 refine RL.ag (ah acI rfl cc) ?_
 refine RL.aL (b7 cc rfl rfl (hN.sl 3 rfl).cK (hN.sl 3 rfl).bT hN 5 rfl (acA rfl) ?_)
 clear hN
 intro lR (hN:aH w none_ lR [_,_,_,_,_,_,_,_])
 refine RL.bY (RL.ag (aE (cs:=[vJ n,v,kv]) adt oo (hN.aJ 7 rfl)) (RL.ag (v:=vJ i) U ?_))
 refine RL.aL (bu ajI rfl rfl rfl rfl ((EF ((n:Int)) _ l _ ks ((i:Int)) _ (hv.o.now hN) (hk.o.now hN) hlen (by omega)).mono ?_))
 rintro v11 kY ⟨tI,cL,R8,bl⟩
 replace hN:aH w none_ kY [_,_,_,_,_,_,_,_,_]:=hN.fw cL bl
 clear cL bl
 have XP:=R8.length_eq
 have Xe:=KH l ks ((i:Int)) l.length
 refine RL.ag (v:=v11) ai (RL.bY (RL.ag (v:=.int .i64 (0)) ai (RL.ak (RW.block ?_))))
 refine RW.loop (fun k2 R1 ez=>∃v4:Value,∃a4:List I5,∃q:Nat,R1 1=vP g1∧R1 2=vP g2∧R1 3=vP g3∧R1 4=vJ i∧R1 5=v11∧R1 6=vJ q∧aH w none_ ez [.cd bC 3 246 (v11) (tI),.own vI 3 (.slice (some ⟨g8,0,none⟩) 1 1) ([0]),.own vI 3 (.slice (some ⟨g5,0,none⟩) 1 1) ([1]),.own vI 3 (v6) (a1++[1]),.own vI 3 (v9) (a2++[0]),.cd aV 5 248 (v4) (a4),.aJ g3 [vJ n,v6,v4,v9] 194,.aJ g2 [.int .i64 (0),vN,vN,vN] 194,.aJ g1 [vJ n,v,kv] 111]∧(q+k2=tI.length)∧(a4=a3++(tI.take q).map (JL (i:Int)))∧(a4.length≤40*i+q)) (tI.length) ?_ ?_
 exact⟨v3,a3,0,rfl,rfl,rfl,rfl,rfl,rfl,hN,by omega,by simp,YH⟩
 clear hN
 rintro k2 R1 ez ⟨v4,a4,q,bN,bQ,cb,cu,cy,cV,hN,yl,h4,h4l⟩
 have cz:=oK bN bQ cb cu cy cV
 obtain⟨re,rfl⟩:=cz
 clear bN bQ cb cu cy cV
 iterate 2 refine RW.seq ?_
 refine RW.region (RL.ag (v:=vJ q) U (RL.ag (v:=v11) U ?_))
 have MT:=(hN.sm 0 rfl).bw
 refine RL.ag (bO ado (hN.sm 0 rfl)) (RL.ag (aK) (RL.ak ?_))
 refine RW.aG _ (fun ep=>?_) (fun ep=>?_)
 refine RW.skip (aA (RW.seq (RW.block ?_)))
 replace hN:=hN.ext (Ext.drew ez)
 refine RW.bA (fun u=>aH w none_ u [.cd bC 3 246 (v11) (tI),.own vI 3 (.slice (some ⟨g8,0,none⟩) 1 1) ([0]),.own vI 3 (.slice (some ⟨g5,0,none⟩) 1 1) ([1]),.own vI 3 (v6) (a1++[1]),.own vI 3 (v9) (a2++[0]),.aJ g3 [vJ n,v6,v4,v9] 194,.aJ g2 [.int .i64 (0),vN,vN,vN] 194,.aJ g1 [vJ n,v,kv] 111]) 23 [(0,0),(1,0),(2,0),(3,0),(4,0),(5,0),(6,0),(7,0),(8,0),(9,0),(10,0),(11,0),(12,0),(13,0),(14,0),(15,0),(16,0),(17,0),(18,0),(19,0),(20,1),(21,1),(22,0),(23,2)] (by intro _ _ _ h;exact h) (hN.sb [0,1,2,3,4,6,7,8]) (RQ.an rfl (fun w hS=>(ah acI rfl fo)) (RQ.an rfl (fun w hS=>(aj acZ (hS.aJ 5 rfl))) (RQ.an (v:=vJ i) rfl (fun w hS=>U) (RQ.an (v:=v11) rfl (fun w hS=>U) (RQ.an (v:=vJ q) rfl (fun w hS=>U) (RQ.an rfl (fun w hS=>(aT ado om aW (hS.sm 0 rfl))) ?_))))))
 have aO:=cQ (tI) q
 obtain⟨aq,ir⟩:=aO
 refine RQ.an rfl (fun w hS=>(bm (m:=q) (b:=0) aeh rfl bI aW (hS.sm 0 rfl) ir)) (RQ.an rfl (fun w hS=>(bB (m:=q) (j:=0) (a:=aq) acy aW (hS.sm 0 rfl) ir)) (RQ.an (v:=v11) rfl (fun w hS=>U) (RQ.an (v:=vJ q) rfl (fun w hS=>U) (RQ.an rfl (fun w hS=>(aT ado om aW (hS.sm 0 rfl))) (RQ.an rfl (fun w hS=>(bm (m:=q) (b:=0) aeh rfl bI aW (hS.sm 0 rfl) ir)) (RQ.an rfl (fun w hS=>(bB (m:=q) (j:=1) (a:=aq) acy aW (hS.sm 0 rfl) ir)) (RQ.an (v:=v11) rfl (fun w hS=>U) (RQ.an (v:=vJ q) rfl (fun w hS=>U) (RQ.an rfl (fun w hS=>(aT ado om aW (hS.sm 0 rfl))) ?_)))))))))
 refine RQ.an rfl (fun w hS=>(bm (m:=q) (b:=0) aeh rfl bI aW (hS.sm 0 rfl) ir)) (RQ.an rfl (fun w hS=>(bB (m:=q) (j:=2) (a:=aq) acy aW (hS.sm 0 rfl) ir)) (RQ.an rfl (fun w hS=>(bR (cs:=[.int .i64 (aq.2.1),.int .i64 (-1),.int .i64 (aq.2.2)]) acN eQ (places:=#[(0,1),(1,1),(2,1)]) (by intro w;kernel_rfl) (pl:=[(0,.tmp 48),(1,.const (.int .i64 (-1))),(2,.tmp 53)]) rfl (ps:=[(0,.int .i64 (aq.2.1)),(1,.int .i64 (-1)),(2,.int .i64 (aq.2.2))]) rfl (zc:=[.int .i64 (0),.int .i64 (0),.int .i64 (0)]) rfl (aP (vs:=[.int .i64 (aq.2.1)]) rfl rfl (acA rfl) (aP (vs:=[.int .i64 (-1)]) rfl rfl (acA rfl) (aP (vs:=[.int .i64 (aq.2.2)]) rfl rfl (acA rfl) rfl))))) (RQ.an rfl (fun w hS=>(bR (cs:=[vJ i,.int .i64 (aq.1),.int .i64 (aq.2.1),.int .i64 (-1),.int .i64 (aq.2.2)]) adf sB (places:=#[(0,1),(1,1),(2,3)]) (by intro w;kernel_rfl) (pl:=[(0,.tmp 38),(1,.tmp 43),(2,.tmp 54)]) rfl (ps:=[(0,vJ i),(1,.int .i64 (aq.1)),(2,.agg #[.int .i64 (aq.2.1),.int .i64 (-1),.int .i64 (aq.2.2)])]) rfl (zc:=[.int .i64 (0),.int .i64 (0),.int .i64 (0),.int .i64 (0),.int .i64 (0)]) rfl (aP (vs:=[vJ i]) rfl rfl (acA rfl) (aP (vs:=[.int .i64 (aq.1)]) rfl rfl (acA rfl) (aP (vs:=[.int .i64 (aq.2.1),.int .i64 (-1),.int .i64 (aq.2.2)]) rfl rfl (acA rfl) rfl))))) ?_)))
 refine RQ.bW rfl (dn (cf:=aV) (s:=5) (pl:=[(0,.tmp 55)]) (ps:=[(0,.agg #[vJ i,.int .i64 (aq.1),.int .i64 (aq.2.1),.int .i64 (-1),.int .i64 (aq.2.2)])]) (zc:=[.int .i64 (0),.int .i64 (0),.int .i64 (0),.int .i64 (0),.int .i64 (0)]) (l:=[((i:Int),aq.1,aq.2.1,-1,aq.2.2)]) acZ hJ (by kernel_rfl) rfl rfl (aP (vs:=[vJ i,.int .i64 (aq.1),.int .i64 (aq.2.1),.int .i64 (-1),.int .i64 (aq.2.2)]) rfl rfl (acA rfl) rfl) aI rfl (by decide) (by decide) (by decide) hN ?_)
 clear hN
 intro g13 lX (hN:aH w none_ lX [_,_,_,_,_,_,_,_,_,_])
 refine⟨(hN.sb [1,2,3,4,5,7,8,9]),?_⟩
 refine RQ.bW rfl (cp acZ hJ rfl (by decide) dp aI hN 6 rfl rfl (hN.sm 0 rfl) rfl (by(try simp only[acB,acH,acK,acS,ada,ac9]);omega) (by decide) ?_)
 clear hN
 intro FU oI (hN:aH w none_ oI [_,_,_,_,_,_,_,_,_,_])
 refine⟨(hN.sb [1,2,3,4,5,7,8,9]),?_⟩
 refine RQ.an rfl (fun w hS=>(ah acI rfl fo)) ?_
 refine RQ.last rfl rfl (b7 fo rfl rfl (hN.sm 6 rfl).cK (hN.sm 6 rfl).bT hN 7 rfl (acA rfl) ?_)
 clear hN
 intro ph (hN:aH w none_ ph [_,_,_,_,_,_,_,_,_,_])
 refine RZ.dW (ba (aA (RW.region (RL.ag (v:=vJ q) U (RL.ag (aD rfl rfl rfl (bg (by omega) (by omega))) (RL.ag (v:=.int .i64 ((q:Int)+1)) ai (RL.ak ?_)))))))
 exact⟨k2-1,by omega,FU,a4++[((i:Int),aq.1,aq.2.1,-1,aq.2.2)],q+1,rfl,rfl,rfl,rfl,rfl,rfl,(hN.sb [1,2,3,4,5,6,7,8,9]),by omega,by rw[ef _ ir,h4,adB];rfl,by(try simp only[acB,acH]);omega⟩
 refine RW.exit ?_
 iterate 2 refine bP ?_
 refine aY (ba (aA (RW.region (RL.ag (v:=vJ i) U (RL.ag (aD rfl rfl rfl (bg (by omega) (by omega))) (RL.ag (v:=.int .i64 ((i:Int)+1)) ai (RL.ak ?_)))))))
 exact⟨k-1,by omega,v6,a1++[1],v9,a2++[0],v4,a4,i+1,rfl,rfl,rfl,rfl,(hN.sb [3,4,5,6,7,8]),by omega,by rw[ah0,h1],by rw[acB,CX];rfl,by rw[acB,AM];rfl,by rw[h4,show q=tI.length by omega,adm,wS];exact h3.append (R8.map _),by omega⟩
 refine RW.exit ?_
 iterate 2 refine bP ?_
 refine aY (aA (RW.aN (RL.ag (aE (cs:=[vJ n,v1,v3,v2]) acI cI (hN.aJ 3 rfl)) ?_)))
 refine RL.aL (aS (vs:=[vJ n,v1,v3,v2]) cI rfl rfl rfl (by intro u hu;simp only[ac6,ac0,or_false]at hu;rcases hu with rfl|rfl|rfl|rfl<;>first|rfl|exact(hN.sl 0 rfl).bT|exact(hN.sl 1 rfl).bT|exact(hN.sm 2 rfl).bT) hN 4 rfl rfl ?_)
 clear hN
 intro qq (hN:aH w none_ qq [_,_,_,_,_,_])
 refine RL.ak (RW.ret (bc (RV.cell rfl rfl (hN.aJ 4 rfl) acI rfl cI) ?_))
 have ic:i=n:=by omega
 subst ic
 subst h1
 exact⟨_,_,_,_,_,rfl,hN.ft 0 rfl,hN.fL 2 rfl,hN.ft 1 rfl,h3,AM,by omega,hN.aX⟩
end Go.Proofs.YtngkdkbpgoddlaaGreat
namespace Go.Proofs.YtngkdkbpgoddlaaGreat
open Go.RowKit Go.Rl
open Go.Gr
theorem Cd (n:Nat) (iv lv ov:Value) (ins:List Int) (ls:List I5) (lost:List Int) (w:World) (hi:Sl vI w iv ins) (hl:Sm aV w lv ls) (ho:Sl vI w ov lost) (ui:ins.length=n) (mJ:lost.length=n) (hn:n≤4096):aM acD 133 #[.agg #[.int .i64 (n:Int),iv,lv,ov]] w fun r w'=>∃z:Int,r=.int .i64 z∧((∃x,fS n ins x)→fS n ins z)∧Ext w w':=by
 refine aM.aZ aks ?_
 rw[cH]
 have hN:=aH.nil w none_
 refine RW.aN ?_
 refine RL.aL (bJ (cs:=[vJ n,iv,lv,ov]) rfl rfl hN ?_)
 clear hN
 intro g1 w1 (hN:aH w none_ w1 [_])
 refine RL.ag (v:=.int .i64 (0)) ai (RL.bY (RL.ag (aE (cs:=[vJ n,iv,lv,ov]) acI cI (hN.aJ 0 rfl)) ?_))
 refine RL.aL (bo akp rfl rfl rfl ((xQ n _ _ _ ins ls lost _ (hi.o.now hN) (hl.o.now hN) (ho.o.now hN) ui (by omega)).mono ?_))
 rintro v2 w2 ⟨cL,bl⟩
 replace hN:aH w none_ w2 [_,_]:=hN.cl (l:=placesOf ins n) cL bl
 clear cL bl
 refine RL.ag (v:=v2) ai (RL.bY (RL.ag (v:=.int .i64 (-1)) ai (RL.ak ?_)))
 iterate 2 refine RW.seq ?_
 refine RW.region (RL.ag (v:=.int .i64 (0)) ai (RL.ak (RW.block ?_)))
 refine RW.loop (fun k R0 cv=>∃z:Int,∃i:Nat,R0 1=vP g1∧R0 3=v2∧R0 4=.int .i64 (z)∧R0 5=vJ i∧aH w none_ cv [.own vI 3 (v2) (placesOf ins n),.aJ g1 [vJ n,iv,lv,ov] 194]∧(i+k=(placesOf ins n).length)∧((i=0∧z= -1)∨fS n ins z)) ((placesOf ins n).length) ?_ ?_
 exact⟨-1,0,rfl,rfl,rfl,rfl,hN,by omega,.inl ⟨rfl,rfl⟩⟩
 clear hN
 rintro k R0 cv ⟨z,i,bN,cb,cu,cy,hN,fP,hz⟩
 have cz:=iV bN cb cu cy
 obtain⟨fV,rfl⟩:=cz
 clear bN cb cu cy
 iterate 2 refine RW.seq ?_
 refine RW.region (RL.ag (v:=vJ i) U (RL.ag (v:=v2) U ?_))
 have kH:=(hN.sl 0 rfl).bw
 refine RL.ag (aQ acz (hN.sl 0 rfl)) (RL.ag (aK) (RL.ak ?_))
 refine RW.aG _ (fun cD=>?_) (fun cD=>?_)
 refine RW.skip (aA (RW.seq (RW.block (RW.seq ?_))))
 replace hN:=hN.ext (Ext.drew cv)
 refine RW.bA (fun u=>aH w none_ u [.own vI 3 (v2) (placesOf ins n),.aJ g1 [vJ n,iv,lv,ov] 194]) 14 [(0,0),(1,0),(2,0),(3,0),(4,0),(5,0),(6,0),(7,0),(9,0),(10,0),(8,1),(11,1),(12,0),(13,0)] (by intro _ _ _ h;exact h) hN (RQ.an (v:=.int .i64 (z)) rfl (fun w hS=>U) (RQ.an rfl (fun w hS=>(aK)) (RQ.an (v:=.bool (decide (z<0))) rfl (fun w hS=>U) ?_)))
 by_cases ME:z<0
 rw[decide_eq_true ME]
 iterate 10 refine RQ.bU rfl ?_
 refine RQ.an (v:=.bool true) rfl (fun w hS=>(al)) (RQ.bq (aA (RW.bD (RW.region (RL.ag (v:=v2) U (RL.ag (v:=vJ i) U (RL.ag (aC acz bI (hN.sl 0 rfl)) ?_)))))))
 have aO:=cQ ((placesOf ins n)) i
 obtain⟨ac,ja⟩:=aO
 refine RL.ag (aF (m:=i) (a:=ac) acy (hN.sl 0 rfl) ja) (RL.ag (v:=.int .i64 (ac)) ai (RL.nil (ba (aA (RW.region (RL.ag (v:=vJ i) U (RL.ag (aD rfl rfl rfl (bg (by omega) (by omega))) (RL.ag (v:=.int .i64 ((i:Int)+1)) ai (RL.nil ?_)))))))))
 refine aA ?_
 exact⟨k-1,by omega,ac,i+1,rfl,rfl,rfl,rfl,hN,by omega,.inr (oQ.1 (acC ja))⟩
 rw[decide_eq_false ME]
 refine RQ.aR rfl (fun w hS=>(aE (cs:=[vJ n,iv,lv,ov]) acI cI (hS.aJ 1 rfl))) (RQ.aR (v:=v2) rfl (fun w hS=>U) (RQ.aR (v:=vJ i) rfl (fun w hS=>U) (RQ.aR rfl (fun w hS=>(aC acz bI (hS.sl 0 rfl))) ?_)))
 have aO:=cQ ((placesOf ins n)) i
 obtain⟨ap,bV⟩:=aO
 refine RQ.aR rfl (fun w hS=>(aF (m:=i) (a:=ap) acy (hS.sl 0 rfl) bV)) (RQ.aR rfl (fun w hS=>(aE (cs:=[vJ n,iv,lv,ov]) acI cI (hS.aJ 1 rfl))) (RQ.aR (v:=.int .i64 (z)) rfl (fun w hS=>U) ?_))
 refine RQ.dQ rfl (bu aiB rfl rfl rfl rfl ((uV n _ _ _ ins ls lost _ (hi.o.now hN) (hl.o.now hN) (ho.o.now hN) ap ui mJ hn).mono ?_))
 rintro _ w4 ⟨z4,rfl,bl⟩
 replace hN:=hN.ext bl
 clear bl
 refine⟨hN,?_⟩
 refine RQ.dQ rfl (bu aiB rfl rfl rfl rfl ((uV n _ _ _ ins ls lost _ (hi.o.now hN) (hl.o.now hN) (ho.o.now hN) z ui mJ hn).mono ?_))
 rintro _ w5 ⟨z5,rfl,bl⟩
 replace hN:=hN.ext bl
 clear bl
 refine⟨hN,?_⟩
 refine RQ.aR rfl (fun w hS=>(aK)) (RQ.an (v:=.bool (decide (z4<z5))) rfl (fun w hS=>(aB)) (RQ.bq (aA ?_)))
 refine RW.aG _ (fun VX=>?_) (fun VX=>?_)
 refine RW.region (RL.ag (v:=v2) U (RL.ag (v:=vJ i) U (RL.ag (aC acz bI (hN.sl 0 rfl)) ?_)))
 have aO:=cQ ((placesOf ins n)) i
 obtain⟨ac,ja⟩:=aO
 refine RL.ag (aF (m:=i) (a:=ac) acy (hN.sl 0 rfl) ja) (RL.ag (v:=.int .i64 (ac)) ai (RL.nil (ba (aA (RW.region (RL.ag (v:=vJ i) U (RL.ag (aD rfl rfl rfl (bg (by omega) (by omega))) (RL.ag (v:=.int .i64 ((i:Int)+1)) ai (RL.nil ?_)))))))))
 refine aA ?_
 exact⟨k-1,by omega,ac,i+1,rfl,rfl,rfl,rfl,hN,by omega,.inr (oQ.1 (acC ja))⟩
 refine RW.skip (ba (aA (RW.region (RL.ag (v:=vJ i) U (RL.ag (aD rfl rfl rfl (bg (by omega) (by omega))) (RL.ag (v:=.int .i64 ((i:Int)+1)) ai (RL.ak ?_)))))))
 exact⟨k-1,by omega,z,i+1,rfl,rfl,rfl,rfl,hN,by omega,.inr (hz.elim (fun h=>absurd h.2 (by omega)) id)⟩
 refine RW.exit ?_
 iterate 2 refine bP ?_
 refine aY (aA (RW.aN (RL.ag (v:=.int .i64 (z)) U (RL.ag (v:=.int .i64 (z)) ai (RL.ak (RW.ret (bc (RV.tmp rfl) ?_)))))))
 refine⟨z,rfl,fun⟨x,hx⟩=>?_,hN.aX⟩
 have hm:=oQ.2 hx
 rcases hz with h|h
 · have:=af3 hm;omega
 · exact h
end Go.Proofs.YtngkdkbpgoddlaaGreat
namespace Go.Proofs.YtngkdkbpgoddlaaGreat
open Go.RowKit Go.Rl
open Go.Gr
theorem mc (n:Nat) (iv lv ov:Value) (ins:List Int) (ls:List I5) (lost:List Int) (w:World) (hi:Sl vI w iv ins) (hl:Sm aV w lv ls) (ho:Sl vI w ov lost) (u v wo most M:Int) (hT:Bj n M ins ls) (hM:0≤M) (Sd:(n:Int)*M≤1152921504606846976) (hn:n≤4096):aM acD 185 #[.agg #[.int .i64 (n:Int),iv,lv,ov],.int .i64 u,.int .i64 v,.int .i64 wo,.int .i64 most] w fun r w'=>∃b:Bool,r=.bool (decide (b=true))∧Ext w w':=by
 refine aM.aZ agy ?_
 rw[M4]
 have hN:=aH.nil w none_
 have ui:=hT.ins
 refine RW.aN ?_
 refine RL.aL (bJ (cs:=[vJ n,iv,lv,ov]) rfl rfl hN ?_)
 clear hN
 intro g1 w1 (hN:aH w none_ w1 [_])
 refine RL.ag (v:=.bool false) ai (RL.ak ?_)
 iterate 2 refine RW.seq ?_
 refine RW.region (RL.ag (aE (cs:=[vJ n,iv,lv,ov]) acI cI (hN.aJ 0 rfl)) (RL.ag (v:=.int .i64 (u)) U ?_))
 refine RL.aL (bu afB rfl rfl rfl rfl ((lK n _ _ _ ins ls lost _ (hi.o.now hN) (hl.o.now hN) (ho.o.now hN) u ui).mono ?_))
 rintro _ w2 ⟨rfl,bl⟩
 replace hN:=hN.ext bl
 clear bl
 refine RL.ag (cU rfl) (RL.ag (v:=.bool (decide (¬(fS n ins u)))) U ?_)
 by_cases pU:¬(fS n ins u)
 rw[decide_eq_true pU]
 iterate 4 refine RL.bH ?_
 refine RL.ag (v:=.bool true) (al) (RL.ag (v:=.bool true) U ?_)
 iterate 3 refine RL.bH ?_
 refine RL.ag (v:=.bool true) (al) (RL.ag (v:=.bool true) U ?_)
 iterate 3 refine RL.bH ?_
 refine RL.ag (v:=.bool true) (al) (RL.ak (RW.bD (RW.aN (RL.ag (v:=.bool false) ai (RL.ak (RW.ret ?_))))))
 refine aU (bc (RV.tmp rfl) ?_)
 exact⟨_,ig _,hN.aX⟩
 rw[decide_eq_false pU]
 refine RL.aw (aE (cs:=[vJ n,iv,lv,ov]) acI cI (hN.aJ 0 rfl)) (RL.aw (v:=.int .i64 (v)) U ?_)
 refine RL.er (bu afB rfl rfl rfl rfl ((lK n _ _ _ ins ls lost _ (hi.o.now hN) (hl.o.now hN) (ho.o.now hN) v ui).mono ?_))
 rintro _ w3 ⟨rfl,bl⟩
 replace hN:=hN.ext bl
 clear bl
 refine RL.aw (cU rfl) (RL.ag (v:=.bool (decide (¬(fS n ins v)))) (aB) (RL.ag (v:=.bool (decide (¬(fS n ins v)))) U ?_))
 by_cases CN:¬(fS n ins v)
 rw[decide_eq_true CN]
 iterate 3 refine RL.bH ?_
 refine RL.ag (v:=.bool true) (al) (RL.ag (v:=.bool true) U ?_)
 iterate 3 refine RL.bH ?_
 refine RL.ag (v:=.bool true) (al) (RL.ak (RW.bD (RW.aN (RL.ag (v:=.bool false) ai (RL.ak (RW.ret ?_))))))
 refine aU (bc (RV.tmp rfl) ?_)
 exact⟨_,ig _,hN.aX⟩
 rw[decide_eq_false CN]
 refine RL.aw (v:=.int .i64 (u)) U (RL.aw (v:=.int .i64 (wo)) U (RL.aw (ca) (RL.ag (v:=.bool (decide (u=wo))) (aB) (RL.ag (v:=.bool (decide (u=wo))) U ?_))))
 by_cases IV:u=wo
 rw[decide_eq_true IV]
 iterate 3 refine RL.bH ?_
 refine RL.ag (v:=.bool true) (al) (RL.ak (RW.bD (RW.aN (RL.ag (v:=.bool false) ai (RL.ak (RW.ret ?_))))))
 refine aU (bc (RV.tmp rfl) ?_)
 exact⟨_,ig _,hN.aX⟩
 rw[decide_eq_false IV]
 refine RL.aw (v:=.int .i64 (v)) U (RL.aw (v:=.int .i64 (wo)) U (RL.aw (ca) (RL.ag (v:=.bool (decide (v=wo))) (aB) (RL.ak ?_))))
 refine RW.aG _ (fun VW=>?_) (fun VW=>?_)
 refine RW.aN (RL.ag (v:=.bool false) ai (RL.ak (RW.ret (aU (bc (RV.tmp rfl) ?_)))))
 exact⟨_,ig _,hN.aX⟩
 refine RW.skip (aA (RW.seq ?_))
 have hu:=acX.1 pU
 have hv:=acX.1 CN
 have Qe:=hu.1
 have hu1:=hu.2.1
 have u5:=hv.1
 have uc:=hv.2.1
 refine RW.region (RL.ag (ah acI rfl bI) (RL.ag (aj acy (hN.aJ 0 rfl)) ?_))
 refine RL.aL (iq (enc:=vI) (z:=0) acz fI rfl hN rfl (by omega) (by omega) (by omega) ?_)
 clear hN
 intro v4 w4 (hN:aH w none_ w4 [_,_])
 refine RL.ag (v:=v4) ai (RL.ak ?_)
 iterate 2 refine RW.seq ?_
 refine RW.region (RL.ag (v:=.int .i64 (0)) ai (RL.ak (RW.block ?_)))
 refine RW.loop (fun k R0 cv=>∃d0:List Int,∃i:Nat,R0 1=.int .i64 (u)∧R0 2=.int .i64 (v)∧R0 3=.int .i64 (wo)∧R0 4=.int .i64 (most)∧R0 5=vP g1∧R0 11=v4∧R0 12=vJ i∧aH w none_ cv [.own vI 3 (v4) (d0),.aJ g1 [vJ n,iv,lv,ov] 194]∧(i+k=n)∧(d0.length=n)∧(∀j,j<i→d0[j]?=some (-1))) (n) ?_ ?_
 exact⟨ac3 n 0,0,rfl,rfl,rfl,rfl,rfl,rfl,rfl,hN,by omega,adb,fun j hj=>by omega⟩
 clear hN
 rintro k R0 cv ⟨d0,i,bN,bQ,cb,cu,cy,eu,eK,hN,fP,Pp,h0⟩
 have cz:=BD bN bQ cb cu cy eu eK
 obtain⟨fV,rfl⟩:=cz
 clear bN bQ cb cu cy eu eK
 iterate 2 refine RW.seq ?_
 refine RW.region (RL.ag (v:=vJ i) U (RL.ag (ah acI rfl bI) (RL.ag (aj acy (hN.aJ 1 rfl)) (RL.ag (aK) (RL.ak ?_)))))
 refine RW.aG _ (fun cD=>?_) (fun cD=>?_)
 refine RW.skip (aA (RW.seq (RW.block (RW.region (RL.ag (v:=v4) U (RL.ag (v:=vJ i) U (RL.ag (aC acz bI (hN.sl 0 rfl)) ?_)))))))
 refine RL.aL (cm (m:=i) (a:=(-1)) bI hN 0 rfl rfl (by omega) rfl rfl rfl rfl ?_)
 clear hN
 intro w5 (hN:aH w none_ w5 [_,_])
 refine RL.nil (ba (aA (RW.region (RL.ag (v:=vJ i) U (RL.ag (aD rfl rfl rfl (bg (by omega) (by omega))) (RL.ag (v:=.int .i64 ((i:Int)+1)) ai (RL.ak ?_)))))))
 exact⟨k-1,by omega,(d0).set i ((-1)),i+1,rfl,rfl,rfl,rfl,rfl,rfl,rfl,hN,by omega,by rw[adO];exact Pp,yS (by omega) h0⟩
 refine RW.exit ?_
 iterate 2 refine bP ?_
 refine aY (aA (RW.seq ?_))
 have VK:d0=ac3 n (-1):=yT Pp (fun j hj=>h0 j (by omega))
 have Aj:(ac3 n (-1:Int)).length=n:=adb
 replace hN:=hN.l7 0 rfl (show _=(ac3 n (-1))from VK)
 replace hN:aH w none_ cv [_,_]:=hN
 refine RW.region (RL.ag (v:=v4) U (RL.ag (v:=.int .i64 (u)) U (RL.ag (aC acz bI (hN.sl 0 rfl)) ?_)))
 refine RL.aL (cm (m:=(u).toNat) (a:=0) bI hN 0 rfl rfl (by omega) rfl rfl rfl rfl ?_)
 clear hN
 intro w6 (hN:aH w none_ w6 [_,_])
 refine RL.ak ?_
 iterate 2 refine RW.seq ?_
 refine RW.region (RL.ag (v:=.bool true) ai (RL.ak (RW.block ?_)))
 refine RW.loop (fun k1 R1 ez=>∃d1:List Int,∃m:Bool,R1 2=.int .i64 (v)∧R1 3=.int .i64 (wo)∧R1 4=.int .i64 (most)∧R1 5=vP g1∧R1 11=v4∧R1 13=.bool (decide (m=true))∧aH w none_ ez [.own vI 3 (v4) (d1),.aJ g1 [vJ n,iv,lv,ov] 194]∧(k1=2*B5 ((n:Int)*M).toNat d1+m.toNat)∧(lh n M d1)) (2*B5 ((n:Int)*M).toNat ((ac3 n (-1)).set (u).toNat (0))+1) ?_ ?_
 exact⟨(ac3 n (-1)).set (u).toNat (0),true,rfl,rfl,rfl,rfl,rfl,rfl,hN,rfl,lh.start hM (show(u).toNat<n by omega)⟩
 clear hN
 rintro k1 R1 ez ⟨d1,m,bQ,cb,cu,cy,eu,fe,hN,F4,hD⟩
 have cz:=oK bQ cb cu cy eu fe
 obtain⟨re,rfl⟩:=cz
 clear bQ cb cu cy eu fe
 iterate 2 refine RW.seq ?_
 refine RW.region (RL.ag (v:=.bool (decide (m=true))) U (RL.ak ?_))
 refine RW.aG _ (fun hm=>?_) (fun hm=>?_)
 refine RW.skip (aA (RW.block (RW.aN (RL.ag (v:=.bool false) ai (RL.ak (RW.aN ?_))))))
 refine RL.ag (v:=.int .i64 (0)) ai (RL.ak (RW.block ?_))
 refine RW.loop (fun k2 R2 gR=>∃d2:List Int,∃m2:Bool,∃q:Nat,R2 2=.int .i64 (v)∧R2 3=.int .i64 (wo)∧R2 4=.int .i64 (most)∧R2 5=vP g1∧R2 11=v4∧R2 13=.bool (decide (m2=true))∧R2 14=vJ q∧aH w none_ gR [.own vI 3 (v4) (d2),.aJ g1 [vJ n,iv,lv,ov] 194]∧(q+k2=ls.length)∧(lh n M d2)∧(B5 ((n:Int)*M).toNat d2+m2.toNat≤B5 ((n:Int)*M).toNat d1)) (ls.length) ?_ ?_
 exact⟨d1,false,0,rfl,rfl,rfl,rfl,rfl,rfl,rfl,hN,by omega,hD,ac8 _⟩
 clear hN
 rintro k2 R2 gR ⟨d2,m2,q,bQ,cb,cu,cy,eu,fe,gO,hN,yl,zf,hp⟩
 have cz:=BD bQ cb cu cy eu fe gO
 obtain⟨M9,rfl⟩:=cz
 clear bQ cb cu cy eu fe gO
 iterate 2 refine RW.seq ?_
 refine RW.region (RL.ag (v:=vJ q) U (RL.ag (ah acI rfl fo) (RL.ag (aj acZ (hN.aJ 1 rfl)) ?_)))
 have Fm:=(hl.o.now hN).bw
 refine RL.ag (bO acZ (hl.o.now hN)) (RL.ag (aK) (RL.ak ?_))
 refine RW.aG _ (fun ep=>?_) (fun ep=>?_)
 refine RW.skip (aA (RW.seq (RW.block (RW.aN (RL.ag (ah acI rfl fo) (RL.ag (aj acZ (hN.aJ 1 rfl)) (RL.ag (v:=vJ q) U (RL.ag (aT acZ gZ aI (hl.o.now hN)) ?_))))))))
 have aO:=cQ (ls) q
 obtain⟨ap,bV⟩:=aO
 refine RL.ag (b0 (m:=q) (a:=ap) adf gZ aI (hl.o.now hN) bV (cs:=[.int .i64 (ap.1),.int .i64 (ap.2.1),.int .i64 (ap.2.2.1),.int .i64 (ap.2.2.2.1),.int .i64 (ap.2.2.2.2)])) ?_
 have hx:=hT.ws ap (acC bV)
 have aO:=hT.ws ap (acC bV)
 obtain⟨pM,HI,TE,TD,Re,Rc⟩:=aO
 have Bs:=zf.len
 refine RL.aL (bz (cs:=[.int .i64 (0),.int .i64 (0),.int .i64 (0),.int .i64 (0),.int .i64 (0)]) sB rfl hN ?_)
 clear hN
 intro g8 w8 (hN:aH w none_ w8 [_,_,_])
 refine RL.aL (aS (vs:=[.int .i64 (ap.1),.int .i64 (ap.2.1),.int .i64 (ap.2.2.1),.int .i64 (ap.2.2.2.1),.int .i64 (ap.2.2.2.2)]) gZ rfl rfl rfl (bh (bh (bh (bh (bh cZ))))) hN 0 rfl rfl ?_)
 clear hN
 intro w9 (hN:aH w none_ w9 [_,_,_])
 have aO:=cQ d2 ((ap.1).toNat)
 obtain⟨aa,rG⟩:=aO
 have aO:=cQ d2 ((ap.2.1).toNat)
 obtain⟨ab,ql⟩:=aO
 have Xd:=zf.top hM (acC rG)
 have Li:=zf.low aa (acC rG)
 have hMM:M≤1152921504606846976:=by
   have h1:(1:Int)*M≤(n:Int)*M:=aew (by omega) hM
   omega
 refine RL.ak (RW.seq ?_)
 replace hN:=hN.ext (Ext.drew w9)
 refine RW.bA (fun u=>aH w none_ u [.aJ g8 [.int .i64 (ap.1),.int .i64 (ap.2.1),.int .i64 (ap.2.2.1),.int .i64 (ap.2.2.2.1),.int .i64 (ap.2.2.2.2)] 248,.own vI 3 (v4) (d2),.aJ g1 [vJ n,iv,lv,ov] 194]) 43 [(0,0),(1,0),(2,0),(3,0),(4,0),(5,0),(6,0),(7,0),(8,0),(9,0),(10,0),(11,0),(12,0),(13,0),(14,0),(15,0),(16,0),(17,0),(18,0),(19,0),(20,0),(21,0),(22,0),(23,0),(24,0),(25,0),(26,0),(27,0),(28,0),(29,0),(30,0),(31,0),(32,0),(33,0),(34,0),(35,0),(36,0),(37,0),(38,0),(39,0),(40,0),(41,0),(42,0)] (by intro _ _ _ h;exact h) hN (RQ.an rfl (fun w hS=>(ah adf rfl bI)) (RQ.an rfl (fun w hS=>(aj acy (hS.aJ 0 rfl))) (RQ.an (v:=.int .i64 (wo)) rfl (fun w hS=>U) (RQ.an rfl (fun w hS=>(bj)) (RQ.an (v:=.bool (decide (¬ap.1=wo))) rfl (fun w hS=>U) ?_)))))
 by_cases IX:¬ap.1=wo
 rw[decide_eq_true IX]
 refine RQ.aR rfl (fun w hS=>(ah adf rfl bI)) (RQ.aR rfl (fun w hS=>(aj acy (hS.aJ 0 rfl))) (RQ.aR (v:=.int .i64 (wo)) rfl (fun w hS=>U) (RQ.aR rfl (fun w hS=>(bj)) (RQ.an (v:=.bool (decide (¬ap.2.1=wo))) rfl (fun w hS=>(al)) (RQ.an (v:=.bool (decide (¬ap.2.1=wo))) rfl (fun w hS=>U) ?_)))))
 by_cases DQ:¬ap.2.1=wo
 rw[decide_eq_true DQ]
 refine RQ.aR (v:=v4) rfl (fun w hS=>U) (RQ.aR rfl (fun w hS=>(ah adf rfl bI)) (RQ.aR rfl (fun w hS=>(aj acy (hS.aJ 0 rfl))) (RQ.aR rfl (fun w hS=>(aC acz bI (hS.sl 1 rfl))) (RQ.aR rfl (fun w hS=>(aF (m:=(ap.1).toNat) (a:=aa) acy (hS.sl 1 rfl) rG)) (RQ.aR rfl (fun w hS=>(ck)) (RQ.an (v:=.bool (decide (0≤aa))) rfl (fun w hS=>(al)) (RQ.an (v:=.bool (decide (0≤aa))) rfl (fun w hS=>U) ?_)))))))
 by_cases DP:0≤aa
 rw[decide_eq_true DP]
 refine RQ.aR (v:=v4) rfl (fun w hS=>U) (RQ.aR rfl (fun w hS=>(ah adf rfl bI)) (RQ.aR rfl (fun w hS=>(aj acy (hS.aJ 0 rfl))) (RQ.aR rfl (fun w hS=>(aC acz bI (hS.sl 1 rfl))) (RQ.aR rfl (fun w hS=>(aF (m:=(ap.2.1).toNat) (a:=ab) acy (hS.sl 1 rfl) ql)) (RQ.aR rfl (fun w hS=>(aK)) (RQ.aR (v:=.bool (decide (ab<0))) rfl (fun w hS=>U) ?_))))))
 by_cases DO:ab<0
 rw[decide_eq_true DO]
 iterate 15 refine RQ.bU rfl ?_
 refine RQ.aR (v:=.bool true) rfl (fun w hS=>(al)) (RQ.an (v:=.bool true) rfl (fun w hS=>(al)) (RQ.bq (aA (RW.bD (RW.seq ?_)))))
 have od:ab<0∨aa+ap.2.2.1<ab:=by first|exact .inl (by assumption)|exact .inr (by assumption)
 replace hN:=hN.ext (Ext.drew w9.drew)
 refine RW.bA (fun u=>aH w none_ u [.aJ g8 [.int .i64 (ap.1),.int .i64 (ap.2.1),.int .i64 (ap.2.2.1),.int .i64 (ap.2.2.2.1),.int .i64 (ap.2.2.2.2)] 248,.own vI 3 (v4) (d2),.aJ g1 [vJ n,iv,lv,ov] 194]) 13 [(0,0),(1,0),(2,0),(3,0),(4,0),(5,0),(6,0),(7,0),(8,0),(9,0),(10,0),(11,0),(12,0),(13,2)] (by intro _ _ _ h;exact h) hN (RQ.an (v:=v4) rfl (fun w hS=>U) (RQ.an rfl (fun w hS=>(ah adf rfl bI)) (RQ.an rfl (fun w hS=>(aj acy (hS.aJ 0 rfl))) (RQ.an (v:=v4) rfl (fun w hS=>U) (RQ.an rfl (fun w hS=>(ah adf rfl bI)) (RQ.an rfl (fun w hS=>(aj acy (hS.aJ 0 rfl))) (RQ.an rfl (fun w hS=>(aC acz bI (hS.sl 1 rfl))) (RQ.an rfl (fun w hS=>(aF (m:=(ap.1).toNat) (a:=aa) acy (hS.sl 1 rfl) rG)) (RQ.an rfl (fun w hS=>(ah adf rfl cT)) ?_)))))))))
 refine RQ.an rfl (fun w hS=>(ah acN rfl bI)) (RQ.an rfl (fun w hS=>(aj acy (hS.aJ 0 rfl))) (RQ.an rfl (fun w hS=>(aD rfl rfl rfl (bg (by omega) (by omega)))) (RQ.an rfl (fun w hS=>(aC acz bI (hS.sl 1 rfl))) ?_)))
 refine RQ.last rfl rfl (cm (m:=(ap.2.1).toNat) (a:=(aa+ap.2.2.1)) bI hN 1 rfl rfl (by omega) rfl rfl rfl rfl ?_)
 clear hN
 intro lX (hN:aH w none_ lX [_,_,_])
 refine RZ.dW (aA (RW.region (RL.ag (v:=.bool true) ai (RL.nil (ba (aA (RW.region (RL.ag (v:=vJ q) U (RL.ag (aD rfl rfl rfl (bg (by omega) (by omega))) ?_)))))))))
 refine RL.ag (v:=.int .i64 ((q:Int)+1)) ai (RL.ak ?_)
 have fx:=zf.step hM rG ql (by assumption) ⟨hx.2.2.2.2.1,hx.2.2.2.2.2⟩ od
 exact⟨k2-1,by omega,(d2).set (ap.2.1).toNat ((aa+ap.2.2.1)),true,q+1,rfl,rfl,rfl,rfl,rfl,rfl,rfl,(hN.sb [1,2]),by omega,fx.1,acU fx.2 (by omega)⟩
 rw[decide_eq_false DO]
 refine RQ.aR (v:=v4) rfl (fun w hS=>U) (RQ.aR rfl (fun w hS=>(ah adf rfl bI)) (RQ.aR rfl (fun w hS=>(aj acy (hS.aJ 0 rfl))) (RQ.aR rfl (fun w hS=>(aC acz bI (hS.sl 1 rfl))) (RQ.aR rfl (fun w hS=>(aF (m:=(ap.1).toNat) (a:=aa) acy (hS.sl 1 rfl) rG)) (RQ.aR rfl (fun w hS=>(ah adf rfl cT)) (RQ.aR rfl (fun w hS=>(ah acN rfl bI)) (RQ.aR rfl (fun w hS=>(aj acy (hS.aJ 0 rfl))) (RQ.aR rfl (fun w hS=>(aD rfl rfl rfl (bg (by omega) (by omega)))) (RQ.aR (v:=v4) rfl (fun w hS=>U) ?_)))))))))
 refine RQ.aR rfl (fun w hS=>(ah adf rfl bI)) (RQ.aR rfl (fun w hS=>(aj acy (hS.aJ 0 rfl))) (RQ.aR rfl (fun w hS=>(aC acz bI (hS.sl 1 rfl))) (RQ.aR rfl (fun w hS=>(aF (m:=(ap.2.1).toNat) (a:=ab) acy (hS.sl 1 rfl) ql)) (RQ.aR rfl (fun w hS=>(aK)) (RQ.aR (v:=.bool (decide (aa+ap.2.2.1<ab))) rfl (fun w hS=>(aB)) (RQ.an (v:=.bool (decide (aa+ap.2.2.1<ab))) rfl (fun w hS=>(al)) (RQ.bq (aA ?_))))))))
 refine RW.aG _ (fun SM=>?_) (fun SM=>?_)
 refine RW.seq ?_
 have od:ab<0∨aa+ap.2.2.1<ab:=by first|exact .inl (by assumption)|exact .inr (by assumption)
 replace hN:=hN.ext (Ext.drew w9.drew)
 refine RW.bA (fun u=>aH w none_ u [.aJ g8 [.int .i64 (ap.1),.int .i64 (ap.2.1),.int .i64 (ap.2.2.1),.int .i64 (ap.2.2.2.1),.int .i64 (ap.2.2.2.2)] 248,.own vI 3 (v4) (d2),.aJ g1 [vJ n,iv,lv,ov] 194]) 13 [(0,0),(1,0),(2,0),(3,0),(4,0),(5,0),(6,0),(7,0),(8,0),(9,0),(10,0),(11,0),(12,0),(13,2)] (by intro _ _ _ h;exact h) hN (RQ.an (v:=v4) rfl (fun w hS=>U) (RQ.an rfl (fun w hS=>(ah adf rfl bI)) (RQ.an rfl (fun w hS=>(aj acy (hS.aJ 0 rfl))) (RQ.an (v:=v4) rfl (fun w hS=>U) (RQ.an rfl (fun w hS=>(ah adf rfl bI)) (RQ.an rfl (fun w hS=>(aj acy (hS.aJ 0 rfl))) (RQ.an rfl (fun w hS=>(aC acz bI (hS.sl 1 rfl))) (RQ.an rfl (fun w hS=>(aF (m:=(ap.1).toNat) (a:=aa) acy (hS.sl 1 rfl) rG)) (RQ.an rfl (fun w hS=>(ah adf rfl cT)) ?_)))))))))
 refine RQ.an rfl (fun w hS=>(ah acN rfl bI)) (RQ.an rfl (fun w hS=>(aj acy (hS.aJ 0 rfl))) (RQ.an rfl (fun w hS=>(aD rfl rfl rfl (bg (by omega) (by omega)))) (RQ.an rfl (fun w hS=>(aC acz bI (hS.sl 1 rfl))) ?_)))
 refine RQ.last rfl rfl (cm (m:=(ap.2.1).toNat) (a:=(aa+ap.2.2.1)) bI hN 1 rfl rfl (by omega) rfl rfl rfl rfl ?_)
 clear hN
 intro u3 (hN:aH w none_ u3 [_,_,_])
 refine RZ.dW (aA (RW.region (RL.ag (v:=.bool true) ai (RL.nil (ba (aA (RW.region (RL.ag (v:=vJ q) U (RL.ag (aD rfl rfl rfl (bg (by omega) (by omega))) ?_)))))))))
 refine RL.ag (v:=.int .i64 ((q:Int)+1)) ai (RL.ak ?_)
 have fx:=zf.step hM rG ql (by assumption) ⟨hx.2.2.2.2.1,hx.2.2.2.2.2⟩ od
 exact⟨k2-1,by omega,(d2).set (ap.2.1).toNat ((aa+ap.2.2.1)),true,q+1,rfl,rfl,rfl,rfl,rfl,rfl,rfl,(hN.sb [1,2]),by omega,fx.1,acU fx.2 (by omega)⟩
 refine RW.skip (ba (aA (RW.region (RL.ag (v:=vJ q) U (RL.ag (aD rfl rfl rfl (bg (by omega) (by omega))) (RL.ag (v:=.int .i64 ((q:Int)+1)) ai (RL.ak ?_)))))))
 exact⟨k2-1,by omega,_,_,q+1,rfl,rfl,rfl,rfl,rfl,rfl,rfl,(hN.sb [1,2]),by omega,by omega,by omega⟩
 rw[decide_eq_false DP]
 iterate 7 refine RQ.bU rfl ?_
 iterate 15 refine RQ.dP rfl ?_
 refine RQ.bU rfl (RQ.an (v:=.bool false) rfl (fun w hS=>(aB)) (RQ.bq (aA (RW.cj (RW.skip (ba (aA (RW.region (RL.ag (v:=vJ q) U ?_)))))))))
 refine RL.ag (aD rfl rfl rfl (bg (by omega) (by omega))) (RL.ag (v:=.int .i64 ((q:Int)+1)) ai (RL.ak ?_))
 exact⟨k2-1,by omega,_,_,q+1,rfl,rfl,rfl,rfl,rfl,rfl,rfl,(hN.sb [1,2]),by omega,by omega,by omega⟩
 rw[decide_eq_false DQ]
 iterate 6 refine RQ.bU rfl ?_
 refine RQ.an (v:=.bool false) rfl (fun w hS=>(aB)) (RQ.an (v:=.bool false) rfl (fun w hS=>U) ?_)
 iterate 7 refine RQ.bU rfl ?_
 iterate 15 refine RQ.dP rfl ?_
 refine RQ.bU rfl (RQ.an (v:=.bool false) rfl (fun w hS=>(aB)) (RQ.bq (aA (RW.cj (RW.skip (ba (aA (RW.region (RL.ag (v:=vJ q) U ?_)))))))))
 refine RL.ag (aD rfl rfl rfl (bg (by omega) (by omega))) (RL.ag (v:=.int .i64 ((q:Int)+1)) ai (RL.ak ?_))
 exact⟨k2-1,by omega,_,_,q+1,rfl,rfl,rfl,rfl,rfl,rfl,rfl,(hN.sb [1,2]),by omega,by omega,by omega⟩
 rw[decide_eq_false IX]
 iterate 4 refine RQ.bU rfl ?_
 refine RQ.an (v:=.bool false) rfl (fun w hS=>(aB)) (RQ.an (v:=.bool false) rfl (fun w hS=>U) ?_)
 iterate 6 refine RQ.bU rfl ?_
 refine RQ.an (v:=.bool false) rfl (fun w hS=>(aB)) (RQ.an (v:=.bool false) rfl (fun w hS=>U) ?_)
 iterate 7 refine RQ.bU rfl ?_
 iterate 15 refine RQ.dP rfl ?_
 refine RQ.bU rfl (RQ.an (v:=.bool false) rfl (fun w hS=>(aB)) (RQ.bq (aA (RW.cj (RW.skip (ba (aA (RW.region (RL.ag (v:=vJ q) U ?_)))))))))
 refine RL.ag (aD rfl rfl rfl (bg (by omega) (by omega))) (RL.ag (v:=.int .i64 ((q:Int)+1)) ai (RL.ak ?_))
 exact⟨k2-1,by omega,_,_,q+1,rfl,rfl,rfl,rfl,rfl,rfl,rfl,(hN.sb [1,2]),by omega,by omega,by omega⟩
 refine RW.exit ?_
 iterate 2 refine bP ?_
 refine aY (ba (aA ?_))
 exact⟨2*B5 ((n:Int)*M).toNat d2+m2.toNat,by subst hm;have:(true:Bool).toNat=1:=rfl;omega,d2,m2,rfl,rfl,rfl,rfl,rfl,rfl,hN,rfl,zf⟩
 refine RW.exit ?_
 iterate 2 refine bP ?_
 refine aY (aA (RW.seq ?_))
 have Bs:=hD.len
 refine RW.region (RL.ag (v:=v4) U (RL.ag (v:=.int .i64 (v)) U (RL.ag (aC acz bI (hN.sl 0 rfl)) ?_)))
 have aO:=cQ (d1) ((v).toNat)
 obtain⟨WH,V7⟩:=aO
 refine RL.ag (aF (m:=(v).toNat) (a:=WH) acy (hN.sl 0 rfl) V7) (RL.ag (ck) (RL.ag (v:=.bool (decide (0≤WH))) U ?_))
 by_cases IW:0≤WH
 rw[decide_eq_true IW]
 refine RL.aw (v:=v4) U (RL.aw (v:=.int .i64 (v)) U (RL.aw (aC acz bI (hN.sl 0 rfl)) ?_))
 have aO:=cQ (d1) ((v).toNat)
 obtain⟨WG,V6⟩:=aO
 refine RL.aw (aF (m:=(v).toNat) (a:=WG) acy (hN.sl 0 rfl) V6) (RL.aw (v:=.int .i64 (most)) U (RL.aw (mu rfl rfl) (RL.ag (v:=.bool (decide (WG≤most))) (al) (RL.ag (v:=.bool (decide (WG≤most))) ai (RL.ak (RW.ret (bc (RV.tmp rfl) ?_)))))))
 exact⟨_,ig _,hN.aX⟩
 rw[decide_eq_false IW]
 iterate 6 refine RL.bH ?_
 refine RL.ag (v:=.bool false) (aB) (RL.ag (v:=.bool false) ai (RL.ak (RW.ret (bc (RV.tmp rfl) ?_))))
 exact⟨_,ig _,hN.aX⟩
end Go.Proofs.YtngkdkbpgoddlaaGreat
