/- The law ImageOdd: texts that its row leans on (6). -/
import Derived.Test.YtngkdkbpgoddlaaGreatKImageOdd5
set_option linter.unusedVariables false
set_option linter.unusedSimpArgs false
set_option linter.unusedSectionVars false
set_option maxHeartbeats 4000000
set_option maxRecDepth 100000
open Decidable renaming not_not → acU
open Go.IntKind renaming i64 → adC
open Go.Proofs.Tryz renaming underlying3 → acs, underlying25 → acu, prog → acx, underlying28 → acz, underlying98 → acB, underlying194 → acD, underlying26 → acG, underlying96 → acH, underlying24 → acI, underlying29 → acJ, underlying32 → acK, underlying135 → acS, underlying192 → acT, underlying118 → acW, underlying30 → ac0, underlying248 → ada, underlying207 → adw, underlying111 → adB, func137 → ad1, underlying246 → aei, func186 → afz, func185 → agt, func144 → ag9, func187 → aha, func140 → ahb, func136 → ahc, func138 → ahd, func189 → aiw, func135 → aiy, func184 → aiz, func63 → aiV, func64 → aiW, func182 → ajD, func141 → akg, func143 → akh, func188 → aki, func142 → akj, func183 → akk, func139 → akl, func132 → akm, func133 → akn, func134 → ako
open Go.Value renaming bool → acO
open Int renaming mul_le_mul_of_nonneg_right → aeu
open List renaming length_append → acw, mem_of_getElem? → acy, length_singleton → acC, length_cons → acF, length_nil → acN, not_mem_nil → acV, take_of_length_le → acX, replicate → acY, mem_cons → ac1, length_map → ac4, length_take → ac5, length_replicate → ac7, mem_singleton → ade, getElem?_set → adi, append_nil → adj, append_assoc → adk, mem_append → adl, take_length → adn, length_set → adG, length_pos_of_mem → af2, replicate_succ' → ahV
open List.Sublist renaming refl → aiI
open Nat renaming le_of_ble_eq_true → acv, le_trans → acR, le_refl → ac3
open Option.some renaming inj → ac2
namespace Go.Proofs.YtngkdkbpgoddlaaGreat
open Go.RowKit Go.Rl
open Go.Gr
theorem qt (rv wv:Value) (rk:List Int) (kk:Int) (w:World) (hr:Sl vI w rv rk):aM acx 140 #[.agg #[rv,wv],.int .i64 kk] w fun r w'=>r=.int .i64 (cb (rk.length:Int) kk)∧Ext w w':=by
 refine aM.aZ ahb ?_
 rw[cT]
 have hN:=aI.nil w none_
 refine RW.aN ?_
 refine RL.aK (bL (cs:=[rv,wv]) rfl rfl hN ?_)
 clear hN
 intro g1 w1 (hN:aI w none_ w1 [_])
 refine RL.ag (v:=.int .i64 (0)) ai (RL.b6 (RL.ag (ah acz rfl cj) (RL.ag (aj acu (hN.aJ 0 rfl)) ?_)))
 have jm:=(hr.o.now hN).bw
 refine RL.ag (aQ acu (hr.o.now hN)) (RL.ag (v:=.int .i64 ((rk.length:Int))) ai (RL.b6 (RL.ag (v:=.int .i64 ((rk.length:Int))) U (RL.ag (v:=.int .i64 (kk)) U (RL.ag (v:=.int .i64 ((rk.length:Int))) U (RL.ag (yG rfl rfl) ?_))))))
 refine RL.ag (uO rfl rfl) (RL.ag (show Ev _ _ _ _ (.int .i64 (cb (rk.length:Int) kk))from aD rfl rfl rfl (pg (by omega) (by omega))) (RL.ag (v:=.int .i64 ((cb (rk.length:Int) kk))) ai (RL.ak (RW.ret (bb (RV.tmp rfl) ?_)))))
 exact⟨rfl,hN.bc⟩
theorem AG (n:Nat) (rv wv:Value) (rk:List Int) (ways:List I5) (w:World) (hr:Sl vI w rv rk) (hw:Sm aV w wv ways) (hH:CX n rk ways) (kk:Int) (hn:n≤12):aM acx 61 #[.agg #[rv,wv],.int .i64 kk] w fun r w'=>eG vI 3 w' w.heap.size r (bN rk (cb (rk.length:Int) kk) rk.length)∧Ext w w':=by
 refine aM.aZ Tryz.func61 ?_
 rw[cT]
 have hN:=aI.nil w none_
 have uh:=hH.len
 refine RW.aN ?_
 refine RL.aK (bL (cs:=[rv,wv]) rfl rfl hN ?_)
 clear hN
 intro g1 w1 (hN:aI w none_ w1 [_])
 refine RL.ag (v:=vN) ai (RL.b6 (RL.ag (v:=vN) ai (RL.ak ?_)))
 iterate 2 refine RW.seq ?_
 refine RW.region (RL.ag (v:=.int .i64 (0)) ai (RL.ak (RW.block ?_)))
 replace hN:=hN.dD vI 3
 refine RW.loop (fun k R0 cz=>∃va:Value,∃acc:List Int,∃i:Nat,R0 1=.int .i64 (kk)∧R0 2=vP g1∧R0 5=va∧R0 6=vJ i∧aI w none_ cz [.own vI 3 (va) (acc),.aJ g1 [rv,wv] 28]∧(i+k=rk.length)∧(acc=bN rk (cb (rk.length:Int) kk) i)∧(acc.length≤i)) (rk.length) ?_ ?_
 exact⟨vN,[],0,rfl,rfl,rfl,rfl,hN,by omega,rfl,ac3 _⟩
 clear hN
 rintro k R0 cz ⟨va,acc,i,bP,bV,cx,cW,hN,gk,ha,ir⟩
 have cB:=jd bP bV cx cW
 obtain⟨gF,rfl⟩:=cB
 clear bP bV cx cW
 iterate 2 refine RW.seq ?_
 refine RW.region (RL.ag (v:=vJ i) U (RL.ag (ah acz rfl cj) (RL.ag (aj acu (hN.aJ 1 rfl)) ?_)))
 have k9:=(hr.o.now hN).bw
 refine RL.ag (aQ acu (hr.o.now hN)) (RL.ag (aL) (RL.ak ?_))
 refine RW.aG _ (fun cD=>?_) (fun cD=>?_)
 refine RW.skip (aw (RW.seq (RW.block (RW.seq ?_))))
 replace hN:=hN.ext (Ext.drew cz)
 refine RW.bD (fun u=>aI w none_ u [.own vI 3 (va) (acc),.aJ g1 [rv,wv] 28]) 9 [(0,0),(1,0),(2,0),(3,0),(4,0),(5,0),(6,0),(7,1),(8,0)] (by intro _ _ _ h;exact h) hN (RQ.aA rfl (fun w hS=>(ah acz rfl cj)) (RQ.aA rfl (fun w hS=>(aj acu (hS.aJ 1 rfl))) (RQ.aA (v:=vJ i) rfl (fun w hS=>U) (RQ.aA rfl (fun w hS=>(aC acu bK (hr.o.now hS))) ?_))))
 have aO:=da (rk) i
 obtain⟨ap,bX⟩:=aO
 refine RQ.aA rfl (fun w hS=>(aF (m:=i) (a:=ap) acs (hr.o.now hS) bX)) (RQ.aA rfl (fun w hS=>(aE (cs:=[rv,wv]) acz dy (hS.aJ 1 rfl))) (RQ.aA (v:=.int .i64 (kk)) rfl (fun w hS=>U) ?_))
 refine RQ.b0 rfl (bu ahb rfl rfl rfl rfl ((qt _ _ rk kk _ (hr.o.now hN)).mono ?_))
 rintro _ w4 ⟨rfl,bn⟩
 replace hN:=hN.ext bn
 clear bn
 refine⟨hN,?_⟩
 refine RQ.aA rfl (fun w hS=>(cm)) (RQ.bq (aw ?_))
 refine RW.aG _ (fun rP=>?_) (fun rP=>?_)
 refine RW.region (RL.ag (v:=va) U (RL.ag (v:=vJ i) U ?_))
 refine RL.aK (cw (enc:=vI) (l:=[(i:Int)]) (xs:=[.tmp 24]) acu bK mU rfl rfl (fun _=>rfl) rfl (by decide) (by decide) hN ?_)
 clear hN
 intro g5 w5 (hN:aI w none_ w5 [_,_,_])
 refine RL.aK (b9 acu gz rfl (fun _=>rfl) hN 1 rfl rfl (hN.sl 0 rfl) rfl (by(try simp only[acw,acC,acF,acN]);omega) (by decide) ?_)
 clear hN
 intro v6 w6 (hN:aI w none_ w6 [_,_,_])
 refine RL.ag (v:=v6) ai (RL.nil (aY (aw (RW.region (RL.ag (v:=vJ i) U (RL.ag (aD rfl rfl rfl (bh (by omega) (by omega))) (RL.ag (v:=.int .i64 ((i:Int)+1)) ai (RL.ak ?_))))))))
 exact⟨k-1,by omega,v6,acc++[(i:Int)],i+1,rfl,rfl,rfl,rfl,(hN.sb [1,2]),by omega,by unfold bN at*;rw[dg,if_pos (decide_eq_true (show oY rk (cb (rk.length:Int) kk) i from⟨_,bX,rP⟩)),ha];try rfl,by(try simp only[acw,acC]);omega⟩
 refine RW.skip (aY (aw (RW.region (RL.ag (v:=vJ i) U (RL.ag (aD rfl rfl rfl (bh (by omega) (by omega))) (RL.ag (v:=.int .i64 ((i:Int)+1)) ai (RL.ak ?_)))))))
 exact⟨k-1,by omega,va,acc,i+1,rfl,rfl,rfl,rfl,hN,by omega,by unfold bN at*;rw[dg,if_neg (fun h=>by obtain⟨q,hq,h2⟩:=of_decide_eq_true h;rw[bX]at hq;cases hq;exact rP h2),adj];exact ha,by(try simp only[acw,acC]);omega⟩
 refine RW.exit ?_
 iterate 2 refine bS ?_
 refine ba (aw (RW.aN (RL.ag (v:=va) U (RL.ag (v:=va) ai (RL.ak (RW.ret (bb (RV.tmp rfl) ?_)))))))
 have iy:i=rk.length:=by omega
 subst iy
 subst ha
 exact⟨hN.fL 0 rfl,hN.bc⟩
theorem Eo (n:Nat) (rv wv:Value) (rk:List Int) (ways:List I5) (w:World) (hr:Sl vI w rv rk) (hw:Sm aV w wv ways) (hH:CX n rk ways) (v kk:Int) (bk:Bool) (hn:n≤12) (u1:0≤v) (vO:v<n):aM acx 143 #[.agg #[rv,wv],.int .i64 v,.int .i64 kk,.bool (decide (bk=true))] w fun r w'=>∃out,fR bG 2 135 w' w.heap.size r out∧iC n rk (cb (rk.length:Int) kk) out∧out.length≤n∧Ext w w':=by
 refine aM.aZ akh ?_
 rw[kX]
 have hN:=aI.nil w none_
 have uh:=hH.len
 refine RW.aN ?_
 refine RL.aK (bL (cs:=[rv,wv]) rfl rfl hN ?_)
 clear hN
 intro g1 w1 (hN:aI w none_ w1 [_])
 refine RL.ag (v:=vN) ai (RL.b6 (RL.ag (aE (cs:=[rv,wv]) acz dy (hN.aJ 0 rfl)) (RL.ag (v:=.int .i64 (kk)) U ?_)))
 refine RL.aK (bu ahb rfl rfl rfl rfl ((qt _ _ rk kk _ (hr.o.now hN)).mono ?_))
 rintro _ w2 ⟨rfl,bn⟩
 replace hN:=hN.ext bn
 clear bn
 refine RL.ag (v:=.int .i64 ((cb (rk.length:Int) kk))) ai (RL.ak (RW.seq ?_))
 replace hN:=hN.ext (Ext.drew w2)
 refine RW.bD (fun u=>aI w none_ u [.aJ g1 [rv,wv] 28]) 12 [(0,0),(1,0),(2,0),(3,0),(4,0),(6,0),(7,0),(8,0),(9,0),(5,1),(10,1),(11,0)] (by intro _ _ _ h;exact h) hN ?_
 iterate 2 refine RQ.aA rfl (fun w hS=>(aE (cs:=[rv,wv]) acz dy (hS.aJ 0 rfl))) ?_
 refine RQ.aA (v:=.int .i64 (v)) rfl (fun w hS=>U) (RQ.aA (v:=.int .i64 ((cb (rk.length:Int) kk))) rfl (fun w hS=>U) (RQ.aA (v:=.bool (decide (bk=true))) rfl (fun w hS=>U) (RQ.aA (v:=.int .i64 ((cb (rk.length:Int) kk))) rfl (fun w hS=>U) (RQ.aA rfl (fun w hS=>(ah acz rfl cj)) (RQ.aA rfl (fun w hS=>(aj acu (hS.aJ 0 rfl))) ?_)))))
 have k9:=(hr.o.now hN).bw
 refine RQ.aA rfl (fun w hS=>(aQ acu (hr.o.now hS))) ?_
 refine RQ.b0 rfl (dK ag9 rfl rfl rfl rfl rfl rfl ((nL n _ _ rk ways _ (hr.o.now hN) (hw.o.now hN) hH v (cb (rk.length:Int) kk) bk hn u1 vO).mono ?_))
 rintro v4 w4 ⟨d4,cL,Yo,hZ4,bn⟩
 replace hN:aI w none_ w4 [_,_]:=hN.cc cL bn
 clear cL bn
 have aaE:=Yo.len
 refine⟨(hN.sb [1]),?_⟩
 refine RQ.b0 rfl (dK aiw rfl rfl rfl rfl rfl rfl ((tl _ _ rk ways _ d4 (cb (rk.length:Int) kk) (rk.length:Int) _ (hr.o.now hN) (hN.sl 0 rfl) (by have:=hH.len;omega) (by omega)).mono ?_))
 rintro v5 w5 ⟨cL,bn⟩
 replace hN:aI w none_ w5 [_,_,_]:=hN.fF cL bn
 clear cL bn
 refine⟨(hN.sb [2]),?_⟩
 refine RQ.aA (v:=v5) rfl (fun w hS=>ai) (RQ.bq (aw (RW.ret (bb (RV.tmp rfl) ?_))))
 exact⟨_,hN.fT 0 rfl,GQ Yo hn,by have:=tm rk d4 (cb (rk.length:Int) kk) (rk.length:Int) d4.length;omega,hN.bc⟩
theorem Bb (n:Nat) (rv wv:Value) (rk:List Int) (ways:List I5) (w:World) (hr:Sl vI w rv rk) (hw:Sm aV w wv ways) (hH:CX n rk ways) (a b:I2) (bk:Bool) (hn:n≤12) (hA:(0≤a.1∧a.1<n∧0≤a.2∧a.2≤105553116266496)) (hB:(0≤b.1∧b.1<n∧0≤b.2∧b.2≤105553116266496)):aM acx 188 #[.agg #[rv,wv],.agg #[.int .i64 a.1,.int .i64 a.2],.agg #[.int .i64 b.1,.int .i64 b.2],.bool (decide (bk=true))] w fun r w'=>∃t:Bool,r=.bool (decide (t=true))∧Ext w w':=by
 refine aM.aZ aki ?_
 rw[kX]
 have hN:=aI.nil w none_
 obtain⟨S1,Lo,XV,ha3⟩:=hA
 obtain⟨TP,qC,MT,Qr⟩:=hB
 refine RW.aN ?_
 refine RL.aK (bL (cs:=[rv,wv]) rfl rfl hN ?_)
 clear hN
 intro g1 w1 (hN:aI w none_ w1 [_])
 refine RL.aK (bL (cs:=[.int .i64 (a.1),.int .i64 (a.2)]) rfl rfl hN ?_)
 clear hN
 intro g2 w2 (hN:aI w none_ w2 [_,_])
 refine RL.aK (bL (cs:=[.int .i64 (b.1),.int .i64 (b.2)]) rfl rfl hN ?_)
 clear hN
 intro g3 w3 (hN:aI w none_ w3 [_,_,_])
 refine RL.ag (v:=.bool false) ai (RL.b6 (RL.ag (aE (cs:=[rv,wv]) acz dy (hN.aJ 2 rfl)) (RL.ag (ah acS rfl bK) (RL.ag (aj acs (hN.aJ 1 rfl)) (RL.ag (ah acS rfl bK) (RL.ag (aj acs (hN.aJ 0 rfl)) ?_))))))
 refine RL.aK (cq aha rfl rfl rfl rfl rfl ((qJ n _ _ rk ways _ (hr.o.now hN) (hw.o.now hN) hH a.1 b.1 hn S1 Lo TP qC).mono ?_))
 rintro _ w4 ⟨z4,rfl,Sd,SE,RF,bn⟩
 replace hN:=hN.ext bn
 clear bn
 refine RL.ag (v:=.int .i64 (z4)) ai (RL.ak ?_)
 iterate 2 refine RW.seq ?_
 refine RW.region (RL.ag (v:=.bool (decide (bk=true))) U (RL.ak ?_))
 refine RW.aG _ (fun V1=>?_) (fun V1=>?_)
 refine RW.region (RL.ag (aE (cs:=[rv,wv]) acz dy (hN.aJ 2 rfl)) (RL.ag (ah acS rfl bK) (RL.ag (aj acs (hN.aJ 0 rfl)) (RL.ag (ah acS rfl bK) (RL.ag (aj acs (hN.aJ 1 rfl)) ?_)))))
 refine RL.aK (cq aha rfl rfl rfl rfl rfl ((qJ n _ _ rk ways _ (hr.o.now hN) (hw.o.now hN) hH b.1 a.1 hn TP qC S1 Lo).mono ?_))
 rintro _ w5 ⟨z5,rfl,Z6,aax,ZC,bn⟩
 replace hN:=hN.ext bn
 clear bn
 refine RL.ag (v:=.int .i64 (z5)) ai (RL.ak ?_)
 iterate 2 refine RW.seq ?_
 refine RW.region (RL.ag (v:=.int .i64 (z5)) U (RL.ag (aL) (RL.ag (v:=.bool (decide (z5<0))) U ?_)))
 by_cases Ax:z5<0
 rw[decide_eq_true Ax]
 iterate 5 refine RL.bH ?_
 refine RL.ag (v:=.bool true) (al) (RL.ak (RW.bF (RW.aN (RL.ag (v:=.bool false) ai (RL.ak (RW.ret ?_))))))
 refine aT (bb (RV.tmp rfl) ?_)
 exact⟨_,im _,hN.bc⟩
 rw[decide_eq_false Ax]
 refine RL.an (ah acS rfl bK) (RL.an (aj acs (hN.aJ 1 rfl)) (RL.an (ah acS rfl bK) (RL.an (aj acs (hN.aJ 0 rfl)) (RL.an (bZ) (RL.ag (v:=.bool (decide (a.1=b.1))) (aB) (RL.ak ?_))))))
 refine RW.aG _ (fun O2=>?_) (fun O2=>?_)
 refine RW.aN (RL.ag (v:=.bool false) ai (RL.ak (RW.ret (aT (bb (RV.tmp rfl) ?_)))))
 exact⟨_,im _,hN.bc⟩
 refine RW.skip (aw (RW.aN (RL.ag (ah acS rfl bK) (RL.ag (aj acs (hN.aJ 1 rfl)) (RL.ag (v:=.int .i64 (z5)) U (RL.ag (aD rfl rfl rfl (bh (by omega) (by omega))) (RL.ag (ah acS rfl bK) (RL.ag (aj acs (hN.aJ 0 rfl)) ?_))))))))
 refine RL.ag (aL) (RL.ag (v:=.bool (decide (a.2+z5<b.2))) U ?_)
 by_cases Aw:a.2+z5<b.2
 rw[decide_eq_true Aw]
 iterate 8 refine RL.bH ?_
 iterate 5 refine RL.iA ?_
 refine RL.bH (RL.ag (v:=.bool true) (al) (RL.ag (v:=.bool true) ai (RL.ak (RW.ret (bb (RV.tmp rfl) ?_)))))
 exact⟨_,im _,hN.bc⟩
 rw[decide_eq_false Aw]
 refine RL.an (ah acS rfl bK) (RL.an (aj acs (hN.aJ 1 rfl)) (RL.an (v:=.int .i64 (z5)) U (RL.an (aD rfl rfl rfl (bh (by omega) (by omega))) (RL.an (ah acS rfl bK) (RL.an (aj acs (hN.aJ 0 rfl)) (RL.an (bZ) (RL.an (v:=.bool (decide (a.2+z5=b.2))) U ?_)))))))
 by_cases uq:a.2+z5=b.2
 rw[decide_eq_true uq]
 refine RL.an (ah acS rfl bK) (RL.an (aj acs (hN.aJ 1 rfl)) (RL.an (ah acS rfl bK) (RL.an (aj acs (hN.aJ 0 rfl)) (RL.an (aL) (RL.an (v:=.bool (decide (a.1<b.1))) (al) (RL.ag (v:=.bool (decide (a.1<b.1))) (aB) (RL.ag (v:=.bool (decide (a.1<b.1))) ai (RL.ak ?_))))))))
 refine RW.ret (bb (RV.tmp rfl) ?_)
 exact⟨_,im _,hN.bc⟩
 rw[decide_eq_false uq]
 iterate 5 refine RL.bH ?_
 refine RL.an (v:=.bool false) (aB) (RL.ag (v:=.bool false) (aB) (RL.ag (v:=.bool false) ai (RL.ak (RW.ret (bb (RV.tmp rfl) ?_)))))
 exact⟨_,im _,hN.bc⟩
 refine RW.skip (aw ?_)
 iterate 2 refine RW.seq ?_
 refine RW.region (RL.ag (v:=.int .i64 (z4)) U (RL.ag (aL) (RL.ag (v:=.bool (decide (z4<0))) U ?_)))
 by_cases Ax:z4<0
 rw[decide_eq_true Ax]
 iterate 5 refine RL.bH ?_
 refine RL.ag (v:=.bool true) (al) (RL.ak (RW.bF (RW.aN (RL.ag (v:=.bool false) ai (RL.ak (RW.ret ?_))))))
 refine aT (bb (RV.tmp rfl) ?_)
 exact⟨_,im _,hN.bc⟩
 rw[decide_eq_false Ax]
 refine RL.an (ah acS rfl bK) (RL.an (aj acs (hN.aJ 1 rfl)) (RL.an (ah acS rfl bK) (RL.an (aj acs (hN.aJ 0 rfl)) (RL.an (bZ) (RL.ag (v:=.bool (decide (a.1=b.1))) (aB) (RL.ak ?_))))))
 refine RW.aG _ (fun O2=>?_) (fun O2=>?_)
 refine RW.aN (RL.ag (v:=.bool false) ai (RL.ak (RW.ret (aT (bb (RV.tmp rfl) ?_)))))
 exact⟨_,im _,hN.bc⟩
 refine RW.skip (aw (RW.aN (RL.ag (ah acS rfl bK) (RL.ag (aj acs (hN.aJ 1 rfl)) (RL.ag (v:=.int .i64 (z4)) U (RL.ag (aD rfl rfl rfl (bh (by omega) (by omega))) (RL.ag (ah acS rfl bK) (RL.ag (aj acs (hN.aJ 0 rfl)) ?_))))))))
 refine RL.ag (aL) (RL.ag (v:=.bool (decide (a.2+z4<b.2))) U ?_)
 by_cases Aw:a.2+z4<b.2
 rw[decide_eq_true Aw]
 iterate 8 refine RL.bH ?_
 iterate 5 refine RL.iA ?_
 refine RL.bH (RL.ag (v:=.bool true) (al) (RL.ag (v:=.bool true) ai (RL.ak (RW.ret (bb (RV.tmp rfl) ?_)))))
 exact⟨_,im _,hN.bc⟩
 rw[decide_eq_false Aw]
 refine RL.an (ah acS rfl bK) (RL.an (aj acs (hN.aJ 1 rfl)) (RL.an (v:=.int .i64 (z4)) U (RL.an (aD rfl rfl rfl (bh (by omega) (by omega))) (RL.an (ah acS rfl bK) (RL.an (aj acs (hN.aJ 0 rfl)) (RL.an (bZ) (RL.an (v:=.bool (decide (a.2+z4=b.2))) U ?_)))))))
 by_cases uq:a.2+z4=b.2
 rw[decide_eq_true uq]
 refine RL.an (ah acS rfl bK) (RL.an (aj acs (hN.aJ 1 rfl)) (RL.an (ah acS rfl bK) (RL.an (aj acs (hN.aJ 0 rfl)) (RL.an (aL) (RL.an (v:=.bool (decide (a.1<b.1))) (al) (RL.ag (v:=.bool (decide (a.1<b.1))) (aB) (RL.ag (v:=.bool (decide (a.1<b.1))) ai (RL.ak ?_))))))))
 refine RW.ret (bb (RV.tmp rfl) ?_)
 exact⟨_,im _,hN.bc⟩
 rw[decide_eq_false uq]
 iterate 5 refine RL.bH ?_
 refine RL.an (v:=.bool false) (aB) (RL.ag (v:=.bool false) (aB) (RL.ag (v:=.bool false) ai (RL.ak (RW.ret (bb (RV.tmp rfl) ?_)))))
 exact⟨_,im _,hN.bc⟩
theorem zI (n:Nat) (rv wv:Value) (rk:List Int) (ways:List I5) (w:World) (hr:Sl vI w rv rk) (hw:Sm aV w wv ways) (hH:CX n rk ways) (lv:Value) (l:List I2) (lo:Int) (bk:Bool) (hl:Sm bG w lv l) (hG:iC n rk lo l) (hn:n≤12) (Ds:l.length≤4096):aM acx 142 #[.agg #[rv,wv],lv,.bool (decide (bk=true))] w fun r w'=>∃out,fR bG 2 135 w' w.heap.size r out∧out.Sublist l∧Ext w w':=by
 refine aM.aZ akj ?_
 rw[iX]
 have hN:=aI.nil w none_
 refine RW.aN ?_
 refine RL.aK (bL (cs:=[rv,wv]) rfl rfl hN ?_)
 clear hN
 intro g1 w1 (hN:aI w none_ w1 [_])
 refine RL.ag (v:=vN) ai (RL.b6 (RL.ag (v:=vN) ai (RL.ak ?_)))
 iterate 2 refine RW.seq ?_
 refine RW.region (RL.ag (v:=.int .i64 (0)) ai (RL.ak (RW.block ?_)))
 replace hN:=hN.eK bG 2 135
 refine RW.loop (fun k R0 cz=>∃va:Value,∃acc:List I2,∃i:Nat,R0 1=lv∧R0 2=.bool (decide (bk=true))∧R0 3=vP g1∧R0 7=va∧R0 8=vJ i∧aI w none_ cz [.cp bG 2 135 (va) (acc),.aJ g1 [rv,wv] 28]∧(i+k=l.length)∧(acc.Sublist (l.take i))∧(acc.length≤i)) (l.length) ?_ ?_
 exact⟨vN,[],0,rfl,rfl,rfl,rfl,rfl,hN,by omega,aiI _,ac3 _⟩
 clear hN
 rintro k R0 cz ⟨va,acc,i,bP,bV,cd,cF,cR,hN,gk,Ac,ir⟩
 have cB:=iw bP bV cd cF cR
 obtain⟨gF,rfl⟩:=cB
 clear bP bV cd cF cR
 iterate 2 refine RW.seq ?_
 refine RW.region (RL.ag (v:=vJ i) U (RL.ag (v:=lv) U ?_))
 have k9:=(hl.o.now hN).bw
 refine RL.ag (bO acW (hl.o.now hN)) (RL.ag (aL) (RL.ak ?_))
 refine RW.aG _ (fun cD=>?_) (fun cD=>?_)
 refine RW.skip (aw (RW.seq (RW.block (RW.seq ?_))))
 have aO:=da l i
 obtain⟨ap,bX⟩:=aO
 refine RW.region (RL.ag (v:=.bool false) ai (RL.ak ?_))
 iterate 2 refine RW.seq ?_
 refine RW.region (RL.ag (v:=.int .i64 (0)) ai (RL.ak (RW.block ?_)))
 refine RW.loop (fun k2 R1 eW=>∃bt:Bool,∃q:Nat,R1 1=lv∧R1 2=.bool (decide (bk=true))∧R1 3=vP g1∧R1 7=va∧R1 8=vJ i∧R1 9=.bool (decide (bt=true))∧R1 10=vJ q∧aI w none_ eW [.cp bG 2 135 (va) (acc),.aJ g1 [rv,wv] 28]∧(q+k2=l.length)) (l.length) ?_ ?_
 exact⟨false,0,rfl,rfl,rfl,rfl,rfl,rfl,rfl,hN,by omega⟩
 clear hN
 rintro k2 R1 eW ⟨bt,q,bP,bV,cd,cF,cR,eg,df,hN,yq⟩
 have cB:=DZ bP bV cd cF cR eg df
 obtain⟨sk,rfl⟩:=cB
 clear bP bV cd cF cR eg df
 iterate 2 refine RW.seq ?_
 refine RW.region (RL.ag (v:=vJ q) U (RL.ag (v:=lv) U (RL.ag (bO acW (hl.o.now hN)) (RL.ag (aL) (RL.ak ?_)))))
 refine RW.aG _ (fun eD=>?_) (fun eD=>?_)
 refine RW.skip (aw (RW.seq (RW.block ?_)))
 replace hN:=hN.ext (Ext.drew eW)
 refine RW.bD (fun u=>aI w none_ u [.cp bG 2 135 (va) (acc),.aJ g1 [rv,wv] 28]) 15 [(0,0),(1,0),(2,0),(3,0),(4,0),(5,0),(6,0),(7,0),(8,0),(9,0),(10,0),(11,0),(12,1),(13,0),(14,0)] (by intro _ _ _ h;exact h) hN ?_
 iterate 2 refine RQ.aA (v:=.bool (decide (bt=true))) rfl (fun w hS=>U) ?_
 by_cases MF:bt=true
 rw[decide_eq_true MF]
 iterate 11 refine RQ.bU rfl ?_
 refine RQ.aA (v:=.bool true) rfl (fun w hS=>(al)) (RQ.aA (v:=.bool true) rfl (fun w hS=>ai) (RQ.bq (aY (aw (RW.region (RL.ag (v:=vJ q) U (RL.ag (aD rfl rfl rfl (bh (by omega) (by omega))) (RL.ag (v:=.int .i64 ((q:Int)+1)) ai (RL.nil ?_)))))))))
 refine aw ?_
 exact⟨k2-1,by omega,true,q+1,rfl,rfl,rfl,rfl,rfl,rfl,rfl,hN,by omega⟩
 rw[decide_eq_false MF]
 refine RQ.aS rfl (fun w hS=>(aE (cs:=[rv,wv]) acz dy (hS.aJ 1 rfl))) (RQ.aS (v:=lv) rfl (fun w hS=>U) (RQ.aS (v:=vJ q) rfl (fun w hS=>U) (RQ.aS rfl (fun w hS=>(aU acW ef bp (hl.o.now hS))) ?_)))
 have aO:=da (l) q
 obtain⟨ar,jS⟩:=aO
 refine RQ.aS rfl (fun w hS=>(b8 (m:=q) (a:=ar) acS ef bp (hl.o.now hS) jS (cs:=[.int .i64 (ar.1),.int .i64 (ar.2)]))) (RQ.aS (v:=lv) rfl (fun w hS=>U) (RQ.aS (v:=vJ i) rfl (fun w hS=>U) (RQ.aS rfl (fun w hS=>(aU acW ef bp (hl.o.now hS))) (RQ.aS rfl (fun w hS=>(b8 (m:=i) (a:=ap) acS ef bp (hl.o.now hS) bX (cs:=[.int .i64 (ap.1),.int .i64 (ap.2)]))) (RQ.aS (v:=.bool (decide (bk=true))) rfl (fun w hS=>U) ?_)))))
 refine RQ.ob rfl rfl rfl rfl (dK aki rfl rfl rfl rfl rfl rfl ((Bb n _ _ rk ways _ (hr.o.now hN) (hw.o.now hN) hH ar ap bk hn (hG.ok _ (acy jS)) (hG.ok _ (acy bX))).mono ?_))
 rintro _ w4 ⟨b4,rfl,bn⟩
 replace hN:=hN.ext bn
 clear bn
 refine⟨hN,?_⟩
 refine RQ.aA (v:=.bool (decide (b4=true))) rfl (fun w hS=>(aB)) (RQ.aA (v:=.bool (decide (b4=true))) rfl (fun w hS=>ai) (RQ.bq (aY (aw (RW.region (RL.ag (v:=vJ q) U (RL.ag (aD rfl rfl rfl (bh (by omega) (by omega))) (RL.ag (v:=.int .i64 ((q:Int)+1)) ai (RL.nil ?_)))))))))
 refine aw ?_
 exact⟨k2-1,by omega,b4,q+1,rfl,rfl,rfl,rfl,rfl,rfl,rfl,hN,by omega⟩
 refine RW.exit ?_
 iterate 2 refine bS ?_
 refine ba (aw (RW.aN (RL.ag (v:=.bool (decide (bt=true))) U (RL.ag (cV rfl) (RL.ak ?_)))))
 refine RW.aG _ (fun VT=>?_) (fun VT=>?_)
 refine RW.region (RL.ag (v:=va) U (RL.ag (v:=lv) U (RL.ag (v:=vJ i) U (RL.ag (aU acW ef bp (hl.o.now hN)) (RL.ag (b8 (m:=i) (a:=ap) acS ef bp (hl.o.now hN) bX (cs:=[.int .i64 (ap.1),.int .i64 (ap.2)])) ?_)))))
 refine RL.aK (dB (cf:=bG) (s:=2) (pl:=[(0,.tmp 43)]) (ps:=[(0,.agg #[.int .i64 (ap.1),.int .i64 (ap.2)])]) (zc:=[.int .i64 (0),.int .i64 (0)]) (l:=[(ap.1,ap.2)]) acW qw (by kernel_rfl) rfl rfl (aP (vs:=[.int .i64 (ap.1),.int .i64 (ap.2)]) rfl rfl (acv rfl) rfl) bp rfl (by decide) (by decide) (by decide) hN ?_)
 clear hN
 intro g5 w5 (hN:aI w none_ w5 [_,_,_])
 refine RL.aK (ct acW qw rfl (by decide) nC bp hN 1 rfl rfl (hN.sm 0 rfl) rfl (by(try simp only[acw,acC,acF,acN]);omega) (by decide) ?_)
 clear hN
 intro v6 w6 (hN:aI w none_ w6 [_,_,_])
 refine RL.ag (v:=v6) ai (RL.nil (aY (aw (RW.region (RL.ag (v:=vJ i) U (RL.ag (aD rfl rfl rfl (bh (by omega) (by omega))) (RL.ag (v:=.int .i64 ((i:Int)+1)) ai (RL.ak ?_))))))))
 exact⟨k-1,by omega,v6,acc++[(ap.1,ap.2)],i+1,rfl,rfl,rfl,rfl,rfl,(hN.sb [1,2]),by omega,Gs Ac bX,by(try simp only[acw,acC]);omega⟩
 refine RW.skip (aY (aw (RW.region (RL.ag (v:=vJ i) U (RL.ag (aD rfl rfl rfl (bh (by omega) (by omega))) (RL.ag (v:=.int .i64 ((i:Int)+1)) ai (RL.ak ?_)))))))
 exact⟨k-1,by omega,va,acc,i+1,rfl,rfl,rfl,rfl,rfl,hN,by omega,Gt Ac bX,by(try simp only[acw,acC]);omega⟩
 refine RW.exit ?_
 iterate 2 refine bS ?_
 refine ba (aw (RW.aN (RL.ag (v:=va) U (RL.ag (v:=va) ai (RL.ak (RW.ret (bb (RV.tmp rfl) ?_)))))))
 have iy:i=l.length:=by omega
 rw[iy,adn]at Ac
 exact⟨acc,hN.fT 0 rfl,Ac,hN.bc⟩
theorem xo (n:Nat) (rv wv:Value) (rk:List Int) (ways:List I5) (w:World) (hr:Sl vI w rv rk) (hw:Sm aV w wv ways) (hH:CX n rk ways) (v kk:Int) (bk:Bool) (hn:n≤12) (u1:0≤v) (vO:v<n):aM acx 63 #[.agg #[rv,wv],.int .i64 v,.int .i64 kk,.bool (decide (bk=true))] w fun r w'=>∃out,fR bG 2 135 w' w.heap.size r out∧iC n rk (cb (rk.length:Int) kk) out∧out.length≤n∧Ext w w':=by
 refine aM.aZ aiV ?_
 rw[kX]
 have hN:=aI.nil w none_
 refine RW.aN ?_
 refine RL.aK (bL (cs:=[rv,wv]) rfl rfl hN ?_)
 clear hN
 intro g1 w1 (hN:aI w none_ w1 [_])
 refine RL.ag (v:=vN) ai (RL.ak (RW.seq ?_))
 replace hN:=hN.ext (Ext.drew w1)
 refine RW.bD (fun u=>aI w none_ u [.aJ g1 [rv,wv] 28]) 9 [(0,0),(1,0),(2,0),(3,0),(4,0),(6,0),(5,1),(7,1),(8,0)] (by intro _ _ _ h;exact h) hN ?_
 iterate 2 refine RQ.aA rfl (fun w hS=>(aE (cs:=[rv,wv]) acz dy (hS.aJ 0 rfl))) ?_
 refine RQ.aA (v:=.int .i64 (v)) rfl (fun w hS=>U) (RQ.aA (v:=.int .i64 (kk)) rfl (fun w hS=>U) ?_)
 iterate 2 refine RQ.aA (v:=.bool (decide (bk=true))) rfl (fun w hS=>U) ?_
 refine RQ.b0 rfl (dK akh rfl rfl rfl rfl rfl rfl ((Eo n _ _ rk ways _ (hr.o.now hN) (hw.o.now hN) hH v kk bk hn u1 vO).mono ?_))
 rintro v2 w2 ⟨Eu,cL,Yl,Ct,bn⟩
 replace hN:aI w none_ w2 [_,_]:=hN.fF cL bn
 clear cL bn
 refine⟨(hN.sb [1]),?_⟩
 refine RQ.b0 rfl (cq akj rfl rfl rfl rfl rfl ((zI n _ _ rk ways _ (hr.o.now hN) (hw.o.now hN) hH _ Eu (cb (rk.length:Int) kk) bk (hN.sm 0 rfl) Yl hn (by omega)).mono ?_))
 rintro v3 w3 ⟨G0,cL,RG,bn⟩
 replace hN:aI w none_ w3 [_,_,_]:=hN.fF cL bn
 clear cL bn
 refine⟨(hN.sb [2]),?_⟩
 refine RQ.aA (v:=v3) rfl (fun w hS=>ai) (RQ.bq (aw (RW.ret (bb (RV.tmp rfl) ?_))))
 exact⟨_,hN.fT 0 rfl,Yl.sub RG,acR RG.length_le Ct,hN.bc⟩
theorem wE (n:Nat) (rv wv:Value) (rk:List Int) (ways:List I5) (w:World) (hr:Sl vI w rv rk) (hw:Sm aV w wv ways) (hH:CX n rk ways) (v kk:Int) (bk:Bool) (hn:n≤12) (u1:0≤v) (vO:v<n):aM acx 64 #[.agg #[rv,wv],.int .i64 v,.int .i64 kk,.bool (decide (bk=true))] w fun r w'=>∃out,eG vI 3 w' w.heap.size r out∧mJ n rk (cb (rk.length:Int) kk) out∧out.length≤n∧Ext w w':=by
 refine aM.aZ aiW ?_
 rw[kX]
 have hN:=aI.nil w none_
 have uh:=hH.len
 refine RW.aN ?_
 refine RL.aK (bL (cs:=[rv,wv]) rfl rfl hN ?_)
 clear hN
 intro g1 w1 (hN:aI w none_ w1 [_])
 refine RL.ag (v:=vN) ai (RL.b6 (RL.ag (aE (cs:=[rv,wv]) acz dy (hN.aJ 0 rfl)) (RL.ag (v:=.int .i64 (kk)) U ?_)))
 refine RL.aK (bu ahb rfl rfl rfl rfl ((qt _ _ rk kk _ (hr.o.now hN)).mono ?_))
 rintro _ w2 ⟨rfl,bn⟩
 replace hN:=hN.ext bn
 clear bn
 refine RL.ag (v:=.int .i64 ((cb (rk.length:Int) kk))) ai (RL.b6 (RL.ag (aE (cs:=[rv,wv]) acz dy (hN.aJ 0 rfl)) (RL.ag (v:=.int .i64 (v)) U (RL.ag (v:=.int .i64 ((cb (rk.length:Int) kk))) U (RL.ag (v:=.bool (decide (bk=true))) U ?_)))))
 refine RL.aK (dK ag9 rfl rfl rfl rfl rfl rfl ((nL n _ _ rk ways _ (hr.o.now hN) (hw.o.now hN) hH v (cb (rk.length:Int) kk) bk hn u1 vO).mono ?_))
 rintro v3 w3 ⟨d3,cL,TR,XX,bn⟩
 replace hN:aI w none_ w3 [_,_]:=hN.cc cL bn
 clear cL bn
 have SM:=TR.len
 refine RL.ag (v:=v3) ai (RL.b6 (RL.ag (v:=vN) ai (RL.ak ?_)))
 iterate 2 refine RW.seq ?_
 refine RW.region (RL.ag (v:=.int .i64 (0)) ai (RL.ak (RW.block ?_)))
 replace hN:=hN.dD vI 3
 refine RW.loop (fun k R0 cz=>∃va:Value,∃acc:List Int,∃i:Nat,R0 4=vP g1∧R0 9=.int .i64 ((cb (rk.length:Int) kk))∧R0 10=v3∧R0 11=va∧R0 12=vJ i∧aI w none_ cz [.own vI 3 (va) (acc),.own vI 3 (v3) (d3),.aJ g1 [rv,wv] 28]∧(i+k=d3.length)∧(acc=tR rk d3 (cb (rk.length:Int) kk) i)∧(acc.length≤i)) (d3.length) ?_ ?_
 exact⟨vN,[],0,rfl,rfl,rfl,rfl,rfl,hN,by omega,rfl,ac3 _⟩
 clear hN
 rintro k R0 cz ⟨va,acc,i,cA,eg,df,eQ,eP,hN,gk,ha,ir⟩
 have cB:=iw cA eg df eQ eP
 obtain⟨gF,rfl⟩:=cB
 clear cA eg df eQ eP
 iterate 2 refine RW.seq ?_
 refine RW.region (RL.ag (v:=vJ i) U (RL.ag (v:=v3) U ?_))
 have qG:=(hN.sl 1 rfl).bw
 refine RL.ag (aQ acu (hN.sl 1 rfl)) (RL.ag (aL) (RL.ak ?_))
 refine RW.aG _ (fun cD=>?_) (fun cD=>?_)
 refine RW.skip (aw (RW.seq (RW.block (RW.aN (RL.ag (v:=v3) U (RL.ag (v:=vJ i) U (RL.ag (aC acu bK (hN.sl 1 rfl)) ?_)))))))
 have aO:=da (d3) i
 obtain⟨ap,bX⟩:=aO
 refine RL.ag (aF (m:=i) (a:=ap) acs (hN.sl 1 rfl) bX) (RL.ag (cm) (RL.ag (v:=.bool (decide (0≤ap))) U ?_))
 by_cases nE:0≤ap
 rw[decide_eq_true nE]
 refine RL.an (ah acz rfl cj) (RL.an (aj acu (hN.aJ 2 rfl)) (RL.an (v:=vJ i) U (RL.an (aC acu bK (hr.o.now hN)) ?_)))
 have aO:=da (rk) i
 obtain⟨aq,iB⟩:=aO
 refine RL.an (aF (m:=i) (a:=aq) acs (hr.o.now hN) iB) (RL.an (v:=.int .i64 ((cb (rk.length:Int) kk))) U (RL.an (aL) (RL.ag (v:=.bool (decide (aq<(cb (rk.length:Int) kk)))) (al) (RL.ak ?_))))
 refine RW.aG _ (fun rP=>?_) (fun rP=>?_)
 refine RW.region (RL.ag (v:=va) U (RL.ag (v:=vJ i) U ?_))
 refine RL.aK (cw (enc:=vI) (l:=[(i:Int)]) (xs:=[.tmp 42]) acu bK mU rfl rfl (fun _=>rfl) rfl (by decide) (by decide) hN ?_)
 clear hN
 intro g6 w6 (hN:aI w none_ w6 [_,_,_,_])
 refine RL.aK (b9 acu gz rfl (fun _=>rfl) hN 1 rfl rfl (hN.sl 0 rfl) rfl (by(try simp only[acw,acC,acF,acN]);omega) (by decide) ?_)
 clear hN
 intro v7 w7 (hN:aI w none_ w7 [_,_,_,_])
 refine RL.ag (v:=v7) ai (RL.nil (aY (aw (RW.region (RL.ag (v:=vJ i) U (RL.ag (aD rfl rfl rfl (bh (by omega) (by omega))) (RL.ag (v:=.int .i64 ((i:Int)+1)) ai (RL.ak ?_))))))))
 exact⟨k-1,by omega,v7,acc++[(i:Int)],i+1,rfl,rfl,rfl,rfl,rfl,(hN.sb [1,2,3]),by omega,by unfold tR at*;rw[dg,if_pos (decide_eq_true (show DP rk d3 (cb (rk.length:Int) kk) i from⟨⟨_,bX,nE⟩,_,iB,rP⟩)),ha];try rfl,by(try simp only[acw,acC]);omega⟩
 refine RW.skip (aY (aw (RW.region (RL.ag (v:=vJ i) U (RL.ag (aD rfl rfl rfl (bh (by omega) (by omega))) (RL.ag (v:=.int .i64 ((i:Int)+1)) ai (RL.ak ?_)))))))
 exact⟨k-1,by omega,va,acc,i+1,rfl,rfl,rfl,rfl,rfl,hN,by omega,by unfold tR at*;rw[dg,if_neg (fun h=>by obtain⟨⟨x1,sC,HC⟩,q1,vR,Aq⟩:=of_decide_eq_true h;rw[bX]at sC;cases sC;first|exact nE HC|(rw[iB]at vR;cases vR;exact rP Aq)),adj];exact ha,by(try simp only[acw,acC]);omega⟩
 rw[decide_eq_false nE]
 iterate 7 refine RL.bH ?_
 refine RL.ag (v:=.bool false) (aB) (RL.ak (RW.cg (RW.skip (aY (aw (RW.region (RL.ag (v:=vJ i) U (RL.ag (aD rfl rfl rfl (bh (by omega) (by omega))) ?_))))))))
 refine RL.ag (v:=.int .i64 ((i:Int)+1)) ai (RL.ak ?_)
 exact⟨k-1,by omega,va,acc,i+1,rfl,rfl,rfl,rfl,rfl,hN,by omega,by unfold tR at*;rw[dg,if_neg (fun h=>by obtain⟨⟨x1,sC,HC⟩,q1,vR,Aq⟩:=of_decide_eq_true h;rw[bX]at sC;cases sC;first|exact nE HC|(rw[iB]at vR;cases vR;exact rP Aq)),adj];exact ha,by(try simp only[acw,acC]);omega⟩
 refine RW.exit ?_
 iterate 2 refine bS ?_
 refine ba (aw (RW.aN (RL.ag (v:=va) U (RL.ag (v:=va) ai (RL.ak (RW.ret (bb (RV.tmp rfl) ?_)))))))
 have iy:i=n:=by omega
 subst iy
 subst ha
 exact⟨_,hN.fL 0 rfl,EM,ir,hN.bc⟩
end Go.Proofs.YtngkdkbpgoddlaaGreat
namespace Go.Proofs.YtngkdkbpgoddlaaGreat
open Go.RowKit Go.Rl
open Go.Gr
theorem xI (n:Nat) (rv wv:Value) (rk:List Int) (ways:List I5) (sv tv:Value) (ss ts:List Int) (w:World) (hr:Sl vI w rv rk) (hw:Sm aV w wv ways) (hH:CX n rk ways) (y7:Sl vI w sv ss) (ht:Sl vI w tv ts) (hn:n≤12) (ZA:∀x∈ss,0≤x∧x<n) (Qg:∀x∈ts,0≤x∧x<n) (kN:ss.length≤4096) (K7:ts.length≤4096):aM acx 62 #[.agg #[rv,wv],sv,tv] w fun r w'=>∃hs ls,aI w none_ w' [.own vh 25 r hs,.eE vI hs ls]∧pY ss ts ls∧ls.length=ss.length:=by
 refine aM.aZ Tryz.func62 ?_
 rw[iX]
 have hN:=aI.nil w none_
 refine RW.aN ?_
 refine RL.aK (bL (cs:=[rv,wv]) rfl rfl hN ?_)
 clear hN
 intro g1 w1 (hN:aI w none_ w1 [_])
 refine RL.ag (v:=vN) ai (RL.b6 (RL.ag (v:=vN) ai (RL.ak ?_)))
 iterate 2 refine RW.seq ?_
 replace hN:=hN.dD vh 25
 replace hN:=hN.jX vI
 replace hN:aI w none_ w1 [.eE vI ([]) ([]),.own vh 25 (vN) ([]),.aJ g1 [rv,wv] 28]:=hN
 refine RW.region (RL.ag (v:=.int .i64 (0)) ai (RL.ak (RW.block ?_)))
 refine RW.loop (fun k R0 cz=>∃va:Value,∃hs:List Hd,∃ls:List (List Int),∃i:Nat,R0 1=sv∧R0 2=tv∧R0 3=vP g1∧R0 7=va∧R0 8=vJ i∧aI w none_ cz [.eE vI (hs) (ls),.own vh 25 (va) (hs),.aJ g1 [rv,wv] 28]∧(i+k=ss.length)∧(ls.length=i)∧(hs.length=i)∧(pY ss ts ls)) (ss.length) ?_ ?_
 exact⟨vN,[],[],0,rfl,rfl,rfl,rfl,rfl,hN,by omega,rfl,rfl,pY.nil _ _⟩
 clear hN
 rintro k R0 cz ⟨va,hs,ls,i,bP,bV,cd,cF,cR,hN,gk,Ds,OO,hT⟩
 have cB:=iw bP bV cd cF cR
 obtain⟨gF,rfl⟩:=cB
 clear bP bV cd cF cR
 iterate 2 refine RW.seq ?_
 refine RW.region (RL.ag (v:=vJ i) U (RL.ag (v:=sv) U ?_))
 have jm:=(y7.o.now hN).bw
 refine RL.ag (aQ acu (y7.o.now hN)) (RL.ag (aL) (RL.ak ?_))
 refine RW.aG _ (fun cD=>?_) (fun cD=>?_)
 refine RW.skip (aw (RW.seq (RW.block ?_)))
 replace hN:=hN.ext (Ext.drew cz)
 refine RW.bD (fun u=>aI w none_ u [.eE vI (hs) (ls),.aJ g1 [rv,wv] 28]) 11 [(0,0),(1,0),(2,0),(3,0),(4,0),(5,0),(6,0),(7,1),(8,1),(9,1),(10,0)] (by intro _ _ _ h;exact h) (hN.sb [0,2]) (RQ.aA (v:=va) rfl (fun w hS=>U) (RQ.aA rfl (fun w hS=>(aE (cs:=[rv,wv]) acz dy (hS.aJ 1 rfl))) (RQ.aA (v:=sv) rfl (fun w hS=>U) (RQ.aA (v:=vJ i) rfl (fun w hS=>U) (RQ.aA rfl (fun w hS=>(aC acu bK (y7.o.now hS))) ?_)))))
 have aO:=da (ss) i
 obtain⟨ap,bX⟩:=aO
 refine RQ.aA rfl (fun w hS=>(aF (m:=i) (a:=ap) acs (y7.o.now hS) bX)) ?_
 have aO:=ZA ap (acy bX)
 obtain⟨CB,vX⟩:=aO
 refine RQ.aA (v:=tv) rfl (fun w hS=>U) ?_
 refine RQ.b0 rfl (cq akg rfl rfl rfl rfl rfl ((Ca n _ _ rk ways _ ts _ (hr.o.now hN) (hw.o.now hN) hH (ht.o.now hN) ap hn CB vX Qg K7).mono ?_))
 rintro v3 w3 ⟨G0,cL,OB,Qr,Ut,bn⟩
 replace hN:aI w none_ w3 [_,_,_,_]:=hN.cc cL bn
 clear cL bn
 refine⟨(hN.sb [1,3]),?_⟩
 have aO:=(hN.sl 0 rfl).hd
 obtain⟨h5,fO⟩:=aO
 subst fO
 refine RQ.b0 rfl (cw (enc:=vh) (l:=[h5]) (xs:=[.tmp 22]) acJ cj zf rfl rfl (fun _=>rfl) rfl (by decide) (by decide) hN ?_)
 clear hN
 intro g4 w4 (hN:aI w none_ w4 [_,_,_,_,_])
 refine⟨(hN.sb [2,4]),?_⟩
 refine RQ.b0 rfl (b9 acJ tW rfl kg hN 3 rfl rfl (hN.sl 0 rfl) rfl (by(try simp only[acw,acC,acF,acN]);omega) (by decide) ?_)
 clear hN
 intro v6 w6 (hN:aI w none_ w6 [_,_,_,_,_])
 refine⟨(hN.sb [2,4]),?_⟩
 refine RQ.aA (v:=v6) rfl (fun w hS=>ai) (RQ.bq (aY (aw (RW.region (RL.ag (v:=vJ i) U (RL.ag (aD rfl rfl rfl (bh (by omega) (by omega))) (RL.ag (v:=.int .i64 ((i:Int)+1)) ai (RL.ak ?_))))))))
 replace hN:aI w none_ w6 [_,_,_,_]:=aI.kW (L:=[_,_,_,_]) (hN.sb [1,0,2,3,4]) 1 rfl
 replace hN:aI w none_ w6 [.own vh 25 (.slice (some ⟨g4,0,none⟩) 1 1) ([h5]),.eE vI (hs++[h5]) (ls++[G0]),.own vh 25 (v6) (hs++[h5]),.aJ g1 [rv,wv] 28]:=hN
 exact⟨k-1,by omega,v6,hs++[h5],ls++[G0],i+1,rfl,rfl,rfl,rfl,rfl,(hN.sb [1,2,3]),by omega,by rw[acw,Ds];rfl,by rw[acw,OO];rfl,hT.snoc (by rw[Ds];exact bX) OB Qr Ut⟩
 refine RW.exit ?_
 iterate 2 refine bS ?_
 refine ba (aw (RW.aN (RL.ag (v:=va) U (RL.ag (v:=va) ai (RL.ak (RW.ret (bb (RV.tmp rfl) ?_)))))))
 exact⟨hs,ls,hN.sb [1,0],hT,by omega⟩
end Go.Proofs.YtngkdkbpgoddlaaGreat
namespace Go.Proofs.YtngkdkbpgoddlaaGreat
open Go.RowKit Go.Rl
open Go.Gr
theorem D7 (n:Nat) (rv wv:Value) (rk:List Int) (ways:List I5) (w:World) (hr:Sl vI w rv rk) (hw:Sm aV w wv ways) (hH:CX n rk ways) (kk:Int) (hn:n≤12):aM acx 26 #[.agg #[rv,wv],.int .i64 kk] w fun r w'=>∃gv fv ov iv db dc Qi far gV outs gQ jA ER so ES si,r=.agg #[gv,fv,ov,iv,db,dc]∧aI w none_ w' [.own vI 3 gv (bN rk (cb (rk.length:Int) kk) rk.length),.own vh 25 fv Qi,.eE vI Qi far,.own vh 118 ov gV,.ez bG gV outs,.own vh 118 iv gQ,.ez bG gQ jA,.own vh 25 db ER,.eE vI ER so,.own vh 25 dc ES,.eE vI ES si]∧mI n rk (cb (rk.length:Int) kk) (bN rk (cb (rk.length:Int) kk) rk.length) far outs jA so si:=by
 refine aM.aZ Tryz.func26 ?_
 rw[cT]
 have hN:=aI.nil w none_
 have uh:=hH.len
 have Qg:∀x∈(bN rk (cb (rk.length:Int) kk) rk.length),0≤x∧x<n:=fun x hx=>by have h:=nu hx;exact⟨h.1,by omega⟩
 have K7:(bN rk (cb (rk.length:Int) kk) rk.length).length≤4096:=by have:(bN rk (cb (rk.length:Int) kk) rk.length).length≤rk.length:=eh _ _;omega
 refine RW.aN ?_
 refine RL.aK (bL (cs:=[rv,wv]) rfl rfl hN ?_)
 clear hN
 intro g1 w1 (hN:aI w none_ w1 [_])
 refine RL.aK (bz (cs:=[vN,vN,vN,vN,vN,vN]) qb rfl hN ?_)
 clear hN
 intro g2 w2 (hN:aI w none_ w2 [_,_])
 refine RL.b6 (RL.ag (aE (cs:=[rv,wv]) acz dy (hN.aJ 1 rfl)) (RL.ag (v:=.int .i64 (kk)) U ?_))
 refine RL.aK (bu Tryz.func61 rfl rfl rfl rfl ((AG n _ _ rk ways _ (hr.o.now hN) (hw.o.now hN) hH kk hn).mono ?_))
 rintro v3 w3 ⟨cL,bn⟩
 replace hN:aI w none_ w3 [_,_,_]:=hN.cc (l:=(bN rk (cb (rk.length:Int) kk) rk.length)) cL bn
 clear cL bn
 refine RL.ag (v:=v3) ai (RL.b6 (RL.ag (v:=v3) U (RL.ag (aE (cs:=[rv,wv]) acz dy (hN.aJ 2 rfl)) ?_)))
 iterate 2 refine RL.ag (v:=v3) U ?_
 refine RL.aK (cq Tryz.func62 rfl rfl rfl rfl rfl ((xI n _ _ rk ways _ _ ((bN rk (cb (rk.length:Int) kk) rk.length)) ((bN rk (cb (rk.length:Int) kk) rk.length)) _ (hr.o.now hN) (hw.o.now hN) hH (hN.sl 0 rfl) (hN.sl 0 rfl) hn Qg Qg K7 K7).mono ?_))
 rintro v4 w4 ⟨q9,JQ,cE,hT4,V9⟩
 replace hN:aI w none_ w4 [_,_,_,_,_]:=hN.fV cE
 clear cE
 refine RL.ag (bT (cs:=[v3,v4,vN,vN,vN,vN]) acK qb (places:=#[(0,1),(1,1),(2,1),(3,1),(4,1),(5,1)]) (by intro w;kernel_rfl) (pl:=[(0,.tmp 11),(1,.tmp 15)]) rfl (ps:=[(0,v3),(1,v4)]) rfl (zc:=[vN,vN,vN,vN,vN,vN]) rfl (aP (vs:=[v3]) (hN.sl 2 rfl).cN rfl (acv rfl) (aP (vs:=[v4]) (hN.sl 0 rfl).cN rfl (acv rfl) rfl))) ?_
 refine RL.aK (bz (cs:=[vN,vN,vN,vN,vN,vN]) qb rfl hN ?_)
 clear hN
 intro g5 w5 (hN:aI w none_ w5 [_,_,_,_,_,_])
 refine RL.aK (aR (vs:=[v3,v4,vN,vN,vN,vN]) iD rfl rfl rfl (by intro u hu;simp only[ac1,acV,or_false]at hu;rcases hu with rfl|rfl|rfl|rfl|rfl|rfl<;>first|rfl|exact(hN.sl 1 rfl).bW|exact(hN.sl 3 rfl).bW) hN 0 rfl rfl ?_)
 clear hN
 intro w6 (hN:aI w none_ w6 [_,_,_,_,_,_])
 refine RL.ak ?_
 iterate 2 refine RW.seq ?_
 replace hN:=hN.dD vh 118
 replace hN:=hN.yF bG
 replace hN:=hN.dD vh 118
 replace hN:=hN.yF bG
 replace hN:=hN.dD vh 25
 replace hN:=hN.jX vI
 replace hN:=hN.dD vh 25
 replace hN:=hN.jX vI
 replace hN:aI w none_ w6 [.eE vI ([]) ([]),.own vh 25 (vN) ([]),.eE vI ([]) ([]),.own vh 25 (vN) ([]),.ez bG ([]) ([]),.own vh 118 (vN) ([]),.ez bG ([]) ([]),.own vh 118 (vN) ([]),.aJ g5 [v3,v4,vN,vN,vN,vN] 32,.own vh 25 (v4) (q9),.eE vI (q9) (JQ),.own vI 3 (v3) ((bN rk (cb (rk.length:Int) kk) rk.length)),.aJ g2 [vN,vN,vN,vN,vN,vN] 32,.aJ g1 [rv,wv] 28]:=hN
 refine RW.region (RL.ag (v:=.int .i64 (0)) ai (RL.ak (RW.block ?_)))
 refine RW.loop (fun k R0 cz=>∃P3:Value,∃u3:List Hd,∃outs:List (List I2),∃JL:Value,∃u2:List Hd,∃jA:List (List I2),∃C5:Value,∃xh:List Hd,∃so:List (List Int),∃y3:Value,∃xg:List Hd,∃si:List (List Int),∃i:Nat,R0 1=.int .i64 (kk)∧R0 2=vP g1∧R0 4=vP g2∧R0 6=vP g5∧R0 7=vJ i∧aI w none_ cz [.eE vI (xg) (si),.own vh 25 (y3) (xg),.eE vI (xh) (so),.own vh 25 (C5) (xh),.ez bG (u2) (jA),.own vh 118 (JL) (u2),.ez bG (u3) (outs),.own vh 118 (P3) (u3),.aJ g5 [v3,v4,P3,JL,C5,y3] 32,.own vh 25 (v4) (q9),.eE vI (q9) (JQ),.own vI 3 (v3) ((bN rk (cb (rk.length:Int) kk) rk.length)),.aJ g2 [vN,vN,vN,vN,vN,vN] 32,.aJ g1 [rv,wv] 28]∧(i+k=rk.length)∧(outs.length=i)∧(u3.length=i)∧(∀r∈outs,iC n rk (cb (rk.length:Int) kk) r∧r.length≤n)∧(jA.length=i)∧(u2.length=i)∧(∀r∈jA,iC n rk (cb (rk.length:Int) kk) r∧r.length≤n)∧(so.length=i)∧(xh.length=i)∧(∀r∈so,mJ n rk (cb (rk.length:Int) kk) r∧r.length≤n)∧(si.length=i)∧(xg.length=i)∧(∀r∈si,mJ n rk (cb (rk.length:Int) kk) r∧r.length≤n)) (rk.length) ?_ ?_
 exact⟨vN,[],[],vN,[],[],vN,[],[],vN,[],[],0,rfl,rfl,rfl,rfl,rfl,hN,by omega,rfl,rfl,(fun r hr=>absurd hr acV),rfl,rfl,(fun r hr=>absurd hr acV),rfl,rfl,(fun r hr=>absurd hr acV),rfl,rfl,(fun r hr=>absurd hr acV)⟩
 clear hN
 rintro k R0 cz ⟨P3,u3,outs,JL,u2,jA,C5,xh,so,y3,xg,si,i,bP,bV,cA,cW,cF,hN,gk,OB,hh3,XO,hl4,hh4,XN,hl5,hh5,XM,hl6,hh6,XK⟩
 have cB:=iw bP bV cA cW cF
 obtain⟨gF,rfl⟩:=cB
 clear bP bV cA cW cF
 iterate 2 refine RW.seq ?_
 refine RW.region (RL.ag (v:=vJ i) U (RL.ag (ah acz rfl cj) (RL.ag (aj acu (hN.aJ 13 rfl)) ?_)))
 have Fb:=(hr.o.now hN).bw
 refine RL.ag (aQ acu (hr.o.now hN)) (RL.ag (aL) (RL.ak ?_))
 refine RW.aG _ (fun cD=>?_) (fun cD=>?_)
 refine RW.skip (aw (RW.seq (RW.block (RW.seq ?_))))
 have u1:0≤(i:Int):=by omega
 have vO:(i:Int)<n:=by omega
 replace hN:=hN.ext (Ext.drew cz)
 refine RW.bD (fun u=>aI w none_ u [.eE vI (xg) (si),.own vh 25 (y3) (xg),.eE vI (xh) (so),.own vh 25 (C5) (xh),.ez bG (u2) (jA),.own vh 118 (JL) (u2),.ez bG (u3) (outs),.aJ g5 [v3,v4,P3,JL,C5,y3] 32,.own vh 25 (v4) (q9),.eE vI (q9) (JQ),.own vI 3 (v3) ((bN rk (cb (rk.length:Int) kk) rk.length)),.aJ g2 [vN,vN,vN,vN,vN,vN] 32,.aJ g1 [rv,wv] 28]) 9 [(0,0),(1,0),(2,0),(3,0),(4,0),(5,1),(6,1),(7,1),(8,0),(9,2)] (by intro _ _ _ h;exact h) (hN.sb [0,1,2,3,4,5,6,8,9,10,11,12,13]) (RQ.aA rfl (fun w hS=>(ah acK rfl jf)) (RQ.aA rfl (fun w hS=>(aj ac0 (hS.aJ 7 rfl))) (RQ.aA rfl (fun w hS=>(aE (cs:=[rv,wv]) acz dy (hS.aJ 12 rfl))) (RQ.aA (v:=vJ i) rfl (fun w hS=>U) (RQ.aA (v:=.int .i64 (kk)) rfl (fun w hS=>U) ?_)))))
 refine RQ.b0 rfl (dK aiV rfl rfl rfl rfl rfl rfl ((xo n _ _ rk ways _ (hr.o.now hN) (hw.o.now hN) hH (i:Int) kk false hn u1 vO).mono ?_))
 rintro v8 w8 ⟨zO,cL,hG8,hl8,bn⟩
 replace hN:aI w none_ w8 [_,_,_,_,_,_,_,_,_,_,_,_,_,_,_]:=hN.fF cL bn
 clear cL bn
 refine⟨(hN.sb [1,2,3,4,5,6,7,9,10,11,12,13,14]),?_⟩
 have aO:=(hN.sm 0 rfl).hd
 obtain⟨lT,fO⟩:=aO
 subst fO
 refine RQ.b0 rfl (cw (enc:=vh) (l:=[lT]) (xs:=[.tmp 29]) ac0 lr F0 rfl rfl (fun _=>rfl) rfl (by decide) (by decide) hN ?_)
 clear hN
 intro g9 w9 (hN:aI w none_ w9 [_,_,_,_,_,_,_,_,_,_,_,_,_,_,_,_])
 refine⟨(hN.sb [2,3,4,5,6,7,8,10,11,12,13,14,15]),?_⟩
 refine RQ.b0 rfl (b9 ac0 Ci rfl kg hN 9 rfl rfl (hN.sl 0 rfl) rfl (by(try simp only[acw,acC,acF,acN]);omega) (by decide) ?_)
 clear hN
 intro v11 lR (hN:aI w none_ lR [_,_,_,_,_,_,_,_,_,_,_,_,_,_,_,_])
 refine⟨(hN.sb [2,3,4,5,6,7,8,10,11,12,13,14,15]),?_⟩
 refine RQ.aA rfl (fun w hS=>(ah acK rfl jf)) ?_
 refine RQ.last rfl rfl (ca jf rfl rfl (hN.sl 9 rfl).cN (hN.sl 9 rfl).bW hN 10 rfl (acv rfl) ?_)
 clear hN
 intro ll (hN:aI w none_ ll [_,_,_,_,_,_,_,_,_,_,_,_,_,_,_,_])
 replace hN:aI w none_ ll [_,_,_,_,_,_,_,_,_,_,_,_,_,_,_]:=aI.uN (L:=[_,_,_,_,_,_,_,_,_,_,_,_,_,_,_]) (hN.sb [1,0,2,3,4,5,6,7,8,9,10,11,12,13,14,15]) 7 rfl
 replace hN:aI w none_ ll [.own vh 118 (.slice (some ⟨g9,0,none⟩) 1 1) ([lT]),.eE vI (xg) (si),.own vh 25 (y3) (xg),.eE vI (xh) (so),.own vh 25 (C5) (xh),.ez bG (u2) (jA),.own vh 118 (JL) (u2),.ez bG (u3++[lT]) (outs++[zO]),.own vh 118 (v11) (u3++[lT]),.aJ g5 [v3,v4,v11,JL,C5,y3] 32,.own vh 25 (v4) (q9),.eE vI (q9) (JQ),.own vI 3 (v3) ((bN rk (cb (rk.length:Int) kk) rk.length)),.aJ g2 [vN,vN,vN,vN,vN,vN] 32,.aJ g1 [rv,wv] 28]:=hN
 refine RZ.eJ (aw (RW.seq ?_))
 replace hN:=hN.ext (Ext.drew ll)
 refine RW.bD (fun u=>aI w none_ u [.own vh 118 (.slice (some ⟨g9,0,none⟩) 1 1) ([lT]),.eE vI (xg) (si),.own vh 25 (y3) (xg),.eE vI (xh) (so),.own vh 25 (C5) (xh),.ez bG (u2) (jA),.ez bG (u3++[lT]) (outs++[zO]),.own vh 118 (v11) (u3++[lT]),.aJ g5 [v3,v4,v11,JL,C5,y3] 32,.own vh 25 (v4) (q9),.eE vI (q9) (JQ),.own vI 3 (v3) ((bN rk (cb (rk.length:Int) kk) rk.length)),.aJ g2 [vN,vN,vN,vN,vN,vN] 32,.aJ g1 [rv,wv] 28]) 9 [(0,0),(1,0),(2,0),(3,0),(4,0),(5,1),(6,1),(7,1),(8,0),(9,2)] (by intro _ _ _ h;exact h) (hN.sb [0,1,2,3,4,5,7,8,9,10,11,12,13,14]) (RQ.aA rfl (fun w hS=>(ah acK rfl jf)) (RQ.aA rfl (fun w hS=>(aj ac0 (hS.aJ 8 rfl))) (RQ.aA rfl (fun w hS=>(aE (cs:=[rv,wv]) acz dy (hS.aJ 13 rfl))) (RQ.aA (v:=vJ i) rfl (fun w hS=>U) (RQ.aA (v:=.int .i64 (kk)) rfl (fun w hS=>U) ?_)))))
 refine RQ.b0 rfl (dK aiV rfl rfl rfl rfl rfl rfl ((xo n _ _ rk ways _ (hr.o.now hN) (hw.o.now hN) hH (i:Int) kk true hn u1 vO).mono ?_))
 rintro wx nR ⟨wP,cL,Wi,U8,bn⟩
 replace hN:aI w none_ nR [_,_,_,_,_,_,_,_,_,_,_,_,_,_,_,_]:=hN.fF cL bn
 clear cL bn
 refine⟨(hN.sb [1,2,3,4,5,6,8,9,10,11,12,13,14,15]),?_⟩
 have aO:=(hN.sm 0 rfl).hd
 obtain⟨yC,fO⟩:=aO
 subst fO
 refine RQ.b0 rfl (cw (enc:=vh) (l:=[yC]) (xs:=[.tmp 38]) ac0 lr F0 rfl rfl (fun _=>rfl) rfl (by decide) (by decide) hN ?_)
 clear hN
 intro M4 o7 (hN:aI w none_ o7 [_,_,_,_,_,_,_,_,_,_,_,_,_,_,_,_,_])
 refine⟨(hN.sb [2,3,4,5,6,7,9,10,11,12,13,14,15,16]),?_⟩
 refine RQ.b0 rfl (b9 ac0 Ci rfl kg hN 8 rfl rfl (hN.sl 0 rfl) rfl (by(try simp only[acw,acC,acF,acN]);omega) (by decide) ?_)
 clear hN
 intro qh qe (hN:aI w none_ qe [_,_,_,_,_,_,_,_,_,_,_,_,_,_,_,_,_])
 refine⟨(hN.sb [2,3,4,5,6,7,9,10,11,12,13,14,15,16]),?_⟩
 refine RQ.aA rfl (fun w hS=>(ah acK rfl jf)) ?_
 refine RQ.last rfl rfl (ca jf rfl rfl (hN.sl 8 rfl).cN (hN.sl 8 rfl).bW hN 11 rfl (acv rfl) ?_)
 clear hN
 intro sQ (hN:aI w none_ sQ [_,_,_,_,_,_,_,_,_,_,_,_,_,_,_,_,_])
 replace hN:aI w none_ sQ [_,_,_,_,_,_,_,_,_,_,_,_,_,_,_,_]:=aI.uN (L:=[_,_,_,_,_,_,_,_,_,_,_,_,_,_,_,_]) (hN.sb [1,0,2,3,4,5,6,7,8,9,10,11,12,13,14,15,16]) 6 rfl
 replace hN:aI w none_ sQ [.own vh 118 (.slice (some ⟨M4,0,none⟩) 1 1) ([yC]),.own vh 118 (.slice (some ⟨g9,0,none⟩) 1 1) ([lT]),.eE vI (xg) (si),.own vh 25 (y3) (xg),.eE vI (xh) (so),.own vh 25 (C5) (xh),.ez bG (u2++[yC]) (jA++[wP]),.own vh 118 (qh) (u2++[yC]),.ez bG (u3++[lT]) (outs++[zO]),.own vh 118 (v11) (u3++[lT]),.aJ g5 [v3,v4,v11,qh,C5,y3] 32,.own vh 25 (v4) (q9),.eE vI (q9) (JQ),.own vI 3 (v3) ((bN rk (cb (rk.length:Int) kk) rk.length)),.aJ g2 [vN,vN,vN,vN,vN,vN] 32,.aJ g1 [rv,wv] 28]:=hN
 refine RZ.eJ (aw (RW.seq ?_))
 replace hN:=hN.ext (Ext.drew sQ)
 refine RW.bD (fun u=>aI w none_ u [.own vh 118 (.slice (some ⟨M4,0,none⟩) 1 1) ([yC]),.own vh 118 (.slice (some ⟨g9,0,none⟩) 1 1) ([lT]),.eE vI (xg) (si),.own vh 25 (y3) (xg),.eE vI (xh) (so),.ez bG (u2++[yC]) (jA++[wP]),.own vh 118 (qh) (u2++[yC]),.ez bG (u3++[lT]) (outs++[zO]),.own vh 118 (v11) (u3++[lT]),.aJ g5 [v3,v4,v11,qh,C5,y3] 32,.own vh 25 (v4) (q9),.eE vI (q9) (JQ),.own vI 3 (v3) ((bN rk (cb (rk.length:Int) kk) rk.length)),.aJ g2 [vN,vN,vN,vN,vN,vN] 32,.aJ g1 [rv,wv] 28]) 9 [(0,0),(1,0),(2,0),(3,0),(4,0),(5,1),(6,1),(7,1),(8,0),(9,2)] (by intro _ _ _ h;exact h) (hN.sb [0,1,2,3,4,6,7,8,9,10,11,12,13,14,15]) (RQ.aA rfl (fun w hS=>(ah acK rfl fP)) (RQ.aA rfl (fun w hS=>(aj acJ (hS.aJ 9 rfl))) (RQ.aA rfl (fun w hS=>(aE (cs:=[rv,wv]) acz dy (hS.aJ 14 rfl))) (RQ.aA (v:=vJ i) rfl (fun w hS=>U) (RQ.aA (v:=.int .i64 (kk)) rfl (fun w hS=>U) ?_)))))
 refine RQ.b0 rfl (dK aiW rfl rfl rfl rfl rfl rfl ((wE n _ _ rk ways _ (hr.o.now hN) (hw.o.now hN) hH (i:Int) kk false hn u1 vO).mono ?_))
 rintro Ud u0 ⟨De,cL,Wh,U7,bn⟩
 replace hN:aI w none_ u0 [_,_,_,_,_,_,_,_,_,_,_,_,_,_,_,_,_]:=hN.cc cL bn
 clear cL bn
 refine⟨(hN.sb [1,2,3,4,5,7,8,9,10,11,12,13,14,15,16]),?_⟩
 have aO:=(hN.sl 0 rfl).hd
 obtain⟨I8,fO⟩:=aO
 subst fO
 refine RQ.b0 rfl (cw (enc:=vh) (l:=[I8]) (xs:=[.tmp 47]) acJ cj zf rfl rfl (fun _=>rfl) rfl (by decide) (by decide) hN ?_)
 clear hN
 intro TV Bk (hN:aI w none_ Bk [_,_,_,_,_,_,_,_,_,_,_,_,_,_,_,_,_,_])
 refine⟨(hN.sb [2,3,4,5,6,8,9,10,11,12,13,14,15,16,17]),?_⟩
 refine RQ.b0 rfl (b9 acJ tW rfl kg hN 7 rfl rfl (hN.sl 0 rfl) rfl (by(try simp only[acw,acC,acF,acN]);omega) (by decide) ?_)
 clear hN
 intro FJ C4 (hN:aI w none_ C4 [_,_,_,_,_,_,_,_,_,_,_,_,_,_,_,_,_,_])
 refine⟨(hN.sb [2,3,4,5,6,8,9,10,11,12,13,14,15,16,17]),?_⟩
 refine RQ.aA rfl (fun w hS=>(ah acK rfl fP)) ?_
 refine RQ.last rfl rfl (ca fP rfl rfl (hN.sl 7 rfl).cN (hN.sl 7 rfl).bW hN 12 rfl (acv rfl) ?_)
 clear hN
 intro y1 (hN:aI w none_ y1 [_,_,_,_,_,_,_,_,_,_,_,_,_,_,_,_,_,_])
 replace hN:aI w none_ y1 [_,_,_,_,_,_,_,_,_,_,_,_,_,_,_,_,_]:=aI.kW (L:=[_,_,_,_,_,_,_,_,_,_,_,_,_,_,_,_,_]) (hN.sb [1,0,2,3,4,5,6,7,8,9,10,11,12,13,14,15,16,17]) 5 rfl
 replace hN:aI w none_ y1 [.own vh 25 (.slice (some ⟨TV,0,none⟩) 1 1) ([I8]),.own vh 118 (.slice (some ⟨M4,0,none⟩) 1 1) ([yC]),.own vh 118 (.slice (some ⟨g9,0,none⟩) 1 1) ([lT]),.eE vI (xg) (si),.own vh 25 (y3) (xg),.eE vI (xh++[I8]) (so++[De]),.own vh 25 (FJ) (xh++[I8]),.ez bG (u2++[yC]) (jA++[wP]),.own vh 118 (qh) (u2++[yC]),.ez bG (u3++[lT]) (outs++[zO]),.own vh 118 (v11) (u3++[lT]),.aJ g5 [v3,v4,v11,qh,FJ,y3] 32,.own vh 25 (v4) (q9),.eE vI (q9) (JQ),.own vI 3 (v3) ((bN rk (cb (rk.length:Int) kk) rk.length)),.aJ g2 [vN,vN,vN,vN,vN,vN] 32,.aJ g1 [rv,wv] 28]:=hN
 refine RZ.eJ (aw ?_)
 replace hN:=hN.ext (Ext.drew y1)
 refine RW.bD (fun u=>aI w none_ u [.own vh 25 (.slice (some ⟨TV,0,none⟩) 1 1) ([I8]),.own vh 118 (.slice (some ⟨M4,0,none⟩) 1 1) ([yC]),.own vh 118 (.slice (some ⟨g9,0,none⟩) 1 1) ([lT]),.eE vI (xg) (si),.eE vI (xh++[I8]) (so++[De]),.own vh 25 (FJ) (xh++[I8]),.ez bG (u2++[yC]) (jA++[wP]),.own vh 118 (qh) (u2++[yC]),.ez bG (u3++[lT]) (outs++[zO]),.own vh 118 (v11) (u3++[lT]),.aJ g5 [v3,v4,v11,qh,FJ,y3] 32,.own vh 25 (v4) (q9),.eE vI (q9) (JQ),.own vI 3 (v3) ((bN rk (cb (rk.length:Int) kk) rk.length)),.aJ g2 [vN,vN,vN,vN,vN,vN] 32,.aJ g1 [rv,wv] 28]) 9 [(0,0),(1,0),(2,0),(3,0),(4,0),(5,1),(6,1),(7,1),(8,0),(9,2)] (by intro _ _ _ h;exact h) (hN.sb [0,1,2,3,5,6,7,8,9,10,11,12,13,14,15,16]) (RQ.aA rfl (fun w hS=>(ah acK rfl fP)) (RQ.aA rfl (fun w hS=>(aj acJ (hS.aJ 10 rfl))) (RQ.aA rfl (fun w hS=>(aE (cs:=[rv,wv]) acz dy (hS.aJ 15 rfl))) (RQ.aA (v:=vJ i) rfl (fun w hS=>U) (RQ.aA (v:=.int .i64 (kk)) rfl (fun w hS=>U) ?_)))))
 refine RQ.b0 rfl (dK aiW rfl rfl rfl rfl rfl rfl ((wE n _ _ rk ways _ (hr.o.now hN) (hw.o.now hN) hH (i:Int) kk true hn u1 vO).mono ?_))
 rintro YS zk ⟨L7,cL,Wg,U6,bn⟩
 replace hN:aI w none_ zk [_,_,_,_,_,_,_,_,_,_,_,_,_,_,_,_,_,_]:=hN.cc cL bn
 clear cL bn
 refine⟨(hN.sb [1,2,3,4,6,7,8,9,10,11,12,13,14,15,16,17]),?_⟩
 have aO:=(hN.sl 0 rfl).hd
 obtain⟨S8,fO⟩:=aO
 subst fO
 refine RQ.b0 rfl (cw (enc:=vh) (l:=[S8]) (xs:=[.tmp 56]) acJ cj zf rfl rfl (fun _=>rfl) rfl (by decide) (by decide) hN ?_)
 clear hN
 intro Yx C3 (hN:aI w none_ C3 [_,_,_,_,_,_,_,_,_,_,_,_,_,_,_,_,_,_,_])
 refine⟨(hN.sb [2,3,4,5,7,8,9,10,11,12,13,14,15,16,17,18]),?_⟩
 refine RQ.b0 rfl (b9 acJ tW rfl kg hN 6 rfl rfl (hN.sl 0 rfl) rfl (by(try simp only[acw,acC,acF,acN]);omega) (by decide) ?_)
 clear hN
 intro Uc DX (hN:aI w none_ DX [_,_,_,_,_,_,_,_,_,_,_,_,_,_,_,_,_,_,_])
 refine⟨(hN.sb [2,3,4,5,7,8,9,10,11,12,13,14,15,16,17,18]),?_⟩
 refine RQ.aA rfl (fun w hS=>(ah acK rfl fP)) ?_
 refine RQ.last rfl rfl (ca fP rfl rfl (hN.sl 6 rfl).cN (hN.sl 6 rfl).bW hN 13 rfl (acv rfl) ?_)
 clear hN
 intro Gb (hN:aI w none_ Gb [_,_,_,_,_,_,_,_,_,_,_,_,_,_,_,_,_,_,_])
 replace hN:aI w none_ Gb [_,_,_,_,_,_,_,_,_,_,_,_,_,_,_,_,_,_]:=aI.kW (L:=[_,_,_,_,_,_,_,_,_,_,_,_,_,_,_,_,_,_]) (hN.sb [1,0,2,3,4,5,6,7,8,9,10,11,12,13,14,15,16,17,18]) 4 rfl
 replace hN:aI w none_ Gb [.own vh 25 (.slice (some ⟨Yx,0,none⟩) 1 1) ([S8]),.own vh 25 (.slice (some ⟨TV,0,none⟩) 1 1) ([I8]),.own vh 118 (.slice (some ⟨M4,0,none⟩) 1 1) ([yC]),.own vh 118 (.slice (some ⟨g9,0,none⟩) 1 1) ([lT]),.eE vI (xg++[S8]) (si++[L7]),.own vh 25 (Uc) (xg++[S8]),.eE vI (xh++[I8]) (so++[De]),.own vh 25 (FJ) (xh++[I8]),.ez bG (u2++[yC]) (jA++[wP]),.own vh 118 (qh) (u2++[yC]),.ez bG (u3++[lT]) (outs++[zO]),.own vh 118 (v11) (u3++[lT]),.aJ g5 [v3,v4,v11,qh,FJ,Uc] 32,.own vh 25 (v4) (q9),.eE vI (q9) (JQ),.own vI 3 (v3) ((bN rk (cb (rk.length:Int) kk) rk.length)),.aJ g2 [vN,vN,vN,vN,vN,vN] 32,.aJ g1 [rv,wv] 28]:=hN
 refine RZ.eJ (aY (aw (RW.region (RL.ag (v:=vJ i) U (RL.ag (aD rfl rfl rfl (bh (by omega) (by omega))) (RL.ag (v:=.int .i64 ((i:Int)+1)) ai (RL.ak ?_)))))))
 exact⟨k-1,by omega,v11,u3++[lT],outs++[zO],qh,u2++[yC],jA++[wP],FJ,xh++[I8],so++[De],Uc,xg++[S8],si++[L7],i+1,rfl,rfl,rfl,rfl,rfl,(hN.sb [4,5,6,7,8,9,10,11,12,13,14,15,16,17]),by omega,by rw[acw,OB];rfl,by rw[acw,hh3];rfl,pX XO ⟨hG8,hl8⟩,by rw[acw,hl4];rfl,by rw[acw,hh4];rfl,pX XN ⟨Wi,U8⟩,by rw[acw,hl5];rfl,by rw[acw,hh5];rfl,pX XM ⟨Wh,U7⟩,by rw[acw,hl6];rfl,by rw[acw,hh6];rfl,pX XK ⟨Wg,U6⟩⟩
 refine RW.exit ?_
 iterate 2 refine bS ?_
 refine ba (aw (RW.aN (RL.ag (aE (cs:=[v3,v4,P3,JL,C5,y3]) acK iD (hN.aJ 8 rfl)) ?_)))
 refine RL.aK (aR (vs:=[v3,v4,P3,JL,C5,y3]) iD rfl rfl rfl (by intro u hu;simp only[ac1,acV,or_false]at hu;rcases hu with rfl|rfl|rfl|rfl|rfl|rfl<;>first|rfl|exact(hN.sl 1 rfl).bW|exact(hN.sl 11 rfl).bW|exact(hN.sl 3 rfl).bW|exact(hN.sl 5 rfl).bW|exact(hN.sl 7 rfl).bW|exact(hN.sl 9 rfl).bW) hN 12 rfl rfl ?_)
 clear hN
 intro FG (hN:aI w none_ FG [_,_,_,_,_,_,_,_,_,_,_,_,_,_])
 refine RL.ak (RW.ret (bb (RV.cell rfl rfl (hN.aJ 12 rfl) acK rfl iD) ?_))
 exact⟨_,_,_,_,_,_,_,_,_,_,_,_,_,_,_,_,rfl,hN.sb [11,9,10,7,6,5,4,3,2,1,0],⟨by rw[uh],hT4,V9,XO,XN,XM,XK,by omega,by omega,by omega,by omega⟩⟩
end Go.Proofs.YtngkdkbpgoddlaaGreat
namespace Go.Proofs.YtngkdkbpgoddlaaGreat
open Go.RowKit Go.Rl
open Go.Gr
theorem lK (n:Nat) (iv lv ov:Value) (ins:List Int) (ls:List I5) (lost:List Int) (w:World) (hi:Sl vI w iv ins) (hl:Sm aV w lv ls) (ho:Sl vI w ov lost) (x:Int) (uh:ins.length=n):aM acx 186 #[.agg #[.int .i64 (n:Int),iv,lv,ov],.int .i64 x] w fun r w'=>r=.bool (decide (fZ n ins x))∧Ext w w':=by
 refine aM.aZ afz ?_
 rw[cT]
 have hN:=aI.nil w none_
 refine RW.aN ?_
 refine RL.aK (bL (cs:=[vJ n,iv,lv,ov]) rfl rfl hN ?_)
 clear hN
 intro g1 w1 (hN:aI w none_ w1 [_])
 refine RL.ag (v:=.bool false) ai (RL.ak (RW.seq ?_))
 by_cases u5:fZ n ins x
 have ub:=u5.1
 have sC:=u5.2.1
 refine RW.region (RL.ag (v:=.int .i64 (x)) U (RL.ag (dm (cm) u5.1) (RL.ag (v:=.bool true) U (RL.an (v:=.int .i64 (x)) U (RL.an (ah acD rfl bK) (RL.an (aj acs (hN.aJ 0 rfl)) (RL.an (dm (aL) u5.2.1) (RL.ag (v:=.bool true) (al) (RL.ag (v:=.bool true) U ?_)))))))))
 refine RL.an (ah acD rfl cj) (RL.an (aj acu (hN.aJ 0 rfl)) (RL.an (v:=.int .i64 (x)) U (RL.an (aC acu bK (hi.o.now hN)) (RL.an (aF (m:=(x).toNat) (a:=1) acs (hi.o.now hN) u5.2.2) (RL.an (dm (bZ) rfl) (RL.ag (v:=.bool true) (al) (RL.ag (v:=.bool true) ai (RL.ak ?_))))))))
 refine RW.ret (bb (RV.tmp rfl) ?_)
 exact⟨congrArg acO (decide_eq_true u5).symm,hN.bc⟩
 refine RW.region (RL.ag (v:=.int .i64 (x)) U (RL.ag (cm) (RL.ag (v:=.bool (decide (0≤x))) U ?_)))
 by_cases pL:0≤x
 rw[decide_eq_true pL]
 refine RL.an (v:=.int .i64 (x)) U (RL.an (ah acD rfl bK) (RL.an (aj acs (hN.aJ 0 rfl)) (RL.an (aL) (RL.ag (v:=.bool (decide (x<(n:Int)))) (al) (RL.ag (v:=.bool (decide (x<(n:Int)))) U ?_)))))
 by_cases Ip:x<(n:Int)
 rw[decide_eq_true Ip]
 refine RL.an (ah acD rfl cj) (RL.an (aj acu (hN.aJ 0 rfl)) (RL.an (v:=.int .i64 (x)) U (RL.an (aC acu bK (hi.o.now hN)) ?_)))
 have aO:=da (ins) ((x).toNat)
 obtain⟨ap,bX⟩:=aO
 refine RL.an (aF (m:=(x).toNat) (a:=ap) acs (hi.o.now hN) bX) (RL.an (cI (bZ) (fun h=>u5 ⟨pL,Ip,by rw[bX,h]⟩)) (RL.ag (v:=.bool false) (al) (RL.ag (v:=.bool false) ai (RL.ak (RW.ret (bb (RV.tmp rfl) ?_))))))
 exact⟨congrArg acO (decide_eq_false u5).symm,hN.bc⟩
 rw[decide_eq_false Ip]
 iterate 6 refine RL.bH ?_
 refine RL.ag (v:=.bool false) (aB) (RL.ag (v:=.bool false) ai (RL.ak (RW.ret (bb (RV.tmp rfl) ?_))))
 exact⟨congrArg acO (decide_eq_false u5).symm,hN.bc⟩
 rw[decide_eq_false pL]
 iterate 4 refine RL.bH ?_
 refine RL.ag (v:=.bool false) (aB) (RL.ag (v:=.bool false) U ?_)
 iterate 6 refine RL.bH ?_
 refine RL.ag (v:=.bool false) (aB) (RL.ag (v:=.bool false) ai (RL.ak (RW.ret (bb (RV.tmp rfl) ?_))))
 exact⟨congrArg acO (decide_eq_false u5).symm,hN.bc⟩
theorem K0 (n:Nat) (iv lv ov:Value) (ins:List Int) (ls:List I5) (lost:List Int) (w:World) (hi:Sl vI w iv ins) (hl:Sm aV w lv ls) (ho:Sl vI w ov lost) (x:Int) (hh:fZ n ins x∧ins.length=n):aM acx 186 #[.agg #[.int .i64 (n:Int),iv,lv,ov],.int .i64 x] w fun r w'=>r=.bool true∧Ext w w':=(lK n iv lv ov ins ls lost w hi hl ho x hh.2).mono fun r w' hr=>by rw[decide_eq_true hh.1]at hr;exact hr
theorem xT (n:Nat) (iv lv ov:Value) (ins:List Int) (ls:List I5) (lost:List Int) (w:World) (hi:Sl vI w iv ins) (hl:Sm aV w lv ls) (ho:Sl vI w ov lost) (uh:ins.length=n) (hn:n≤4096):aM acx 183 #[.agg #[.int .i64 (n:Int),iv,lv,ov]] w fun r w'=>eG vI 3 w' w.heap.size r (placesOf ins n)∧Ext w w':=by
 refine aM.aZ akk ?_
 rw[cM]
 have hN:=aI.nil w none_
 refine RW.aN ?_
 refine RL.aK (bL (cs:=[vJ n,iv,lv,ov]) rfl rfl hN ?_)
 clear hN
 intro g1 w1 (hN:aI w none_ w1 [_])
 refine RL.ag (v:=vN) ai (RL.b6 (RL.ag (v:=vN) ai (RL.ak ?_)))
 iterate 2 refine RW.seq ?_
 refine RW.region (RL.ag (v:=.int .i64 (0)) ai (RL.ak (RW.block ?_)))
 replace hN:=hN.dD vI 3
 refine RW.loop (fun k R0 cz=>∃va:Value,∃acc:List Int,∃i:Nat,R0 1=vP g1∧R0 3=va∧R0 4=vJ i∧aI w none_ cz [.own vI 3 (va) (acc),.aJ g1 [vJ n,iv,lv,ov] 194]∧(i+k=n)∧(acc=placesOf ins i)∧(acc.length≤i)) (n) ?_ ?_
 exact⟨vN,[],0,rfl,rfl,rfl,hN,by omega,rfl,ac3 _⟩
 clear hN
 rintro k R0 cz ⟨va,acc,i,bP,cd,cA,hN,gk,ha,ir⟩
 have cB:=ln bP cd cA
 obtain⟨gF,rfl⟩:=cB
 clear bP cd cA
 iterate 2 refine RW.seq ?_
 refine RW.region (RL.ag (v:=vJ i) U (RL.ag (ah acD rfl bK) (RL.ag (aj acs (hN.aJ 1 rfl)) (RL.ag (aL) (RL.ak ?_)))))
 refine RW.aG _ (fun cD=>?_) (fun cD=>?_)
 refine RW.skip (aw (RW.seq (RW.block (RW.aN (RL.ag (ah acD rfl cj) (RL.ag (aj acu (hN.aJ 1 rfl)) (RL.ag (v:=vJ i) U (RL.ag (aC acu bK (hi.o.now hN)) ?_))))))))
 have aO:=da (ins) i
 obtain⟨ap,bX⟩:=aO
 refine RL.ag (aF (m:=i) (a:=ap) acs (hi.o.now hN) bX) (RL.ag (bZ) (RL.ak ?_))
 refine RW.aG _ (fun rP=>?_) (fun rP=>?_)
 refine RW.region (RL.ag (v:=va) U (RL.ag (v:=vJ i) U ?_))
 refine RL.aK (cw (enc:=vI) (l:=[(i:Int)]) (xs:=[.tmp 18]) acu bK mU rfl rfl (fun _=>rfl) rfl (by decide) (by decide) hN ?_)
 clear hN
 intro g3 w3 (hN:aI w none_ w3 [_,_,_])
 refine RL.aK (b9 acu gz rfl (fun _=>rfl) hN 1 rfl rfl (hN.sl 0 rfl) rfl (by simp only[acC,acF,acN];omega) (by decide) ?_)
 clear hN
 intro v4 w4 (hN:aI w none_ w4 [_,_,_])
 refine RL.ag (v:=v4) ai (RL.nil (aY (aw (RW.region (RL.ag (v:=vJ i) U (RL.ag (aD rfl rfl rfl (bh (by omega) (by omega))) (RL.ag (v:=.int .i64 ((i:Int)+1)) ai (RL.ak ?_))))))))
 exact⟨k-1,by omega,v4,acc++[(i:Int)],i+1,rfl,rfl,rfl,(hN.sb [1,2]),by omega,by unfold placesOf at*;rw[dg,if_pos (decide_eq_true (by rw[bX,rP])),ha];try rfl,by(try simp only[acw,acC]);omega⟩
 refine RW.skip (aY (aw (RW.region (RL.ag (v:=vJ i) U (RL.ag (aD rfl rfl rfl (bh (by omega) (by omega))) (RL.ag (v:=.int .i64 ((i:Int)+1)) ai (RL.ak ?_)))))))
 exact⟨k-1,by omega,va,acc,i+1,rfl,rfl,rfl,hN,by omega,by unfold placesOf at*;rw[dg,if_neg (fun h=>rP (ac2 (bX.symm.trans (of_decide_eq_true h)))),adj];exact ha,by(try simp only[acw,acC]);omega⟩
 refine RW.exit ?_
 iterate 2 refine bS ?_
 refine ba (aw (RW.aN (RL.ag (v:=va) U (RL.ag (v:=va) ai (RL.ak (RW.ret (bb (RV.tmp rfl) ?_)))))))
 have iy:i=n:=by omega
 subst iy
 subst ha
 exact⟨hN.fL 0 rfl,hN.bc⟩
theorem gG (n:Nat) (iv lv ov:Value) (ins:List Int) (ls:List I5) (lost:List Int) (w:World) (hi:Sl vI w iv ins) (hl:Sm aV w lv ls) (ho:Sl vI w ov lost) (u v:Int):aM acx 137 #[.agg #[.int .i64 (n:Int),iv,lv,ov],.int .i64 u,.int .i64 v] w fun r w'=>r=F8 ls u v∧Ext w w':=by
 refine aM.aZ ad1 ?_
 rw[iX]
 have hN:=aI.nil w none_
 refine RW.aN ?_
 refine RL.aK (bL (cs:=[vJ n,iv,lv,ov]) rfl rfl hN ?_)
 clear hN
 intro g1 w1 (hN:aI w none_ w1 [_])
 refine RL.aK (bz (cs:=[.int .i64 (0),.int .i64 (0),.int .i64 (0)]) eV rfl hN ?_)
 clear hN
 intro g2 w2 (hN:aI w none_ w2 [_,_])
 refine RL.ag (v:=.bool false) ai (RL.ak ?_)
 iterate 2 refine RW.seq ?_
 refine RW.region (RL.ag (v:=.int .i64 (0)) ai (RL.ak (RW.block ?_)))
 refine RW.loop (fun k R0 cz=>∃i:Nat,R0 1=.int .i64 (u)∧R0 2=.int .i64 (v)∧R0 3=vP g1∧R0 6=vP g2∧R0 8=vJ i∧aI w none_ cz [.aJ g2 [.int .i64 (0),.int .i64 (0),.int .i64 (0)] 96,.aJ g1 [vJ n,iv,lv,ov] 194]∧(i+k=ls.length)∧(∀x∈ls.take i,¬(x.1=u∧x.2.1=v))) (ls.length) ?_ ?_
 exact⟨0,rfl,rfl,rfl,rfl,rfl,hN,by omega,fun x hx=>by cases hx⟩
 clear hN
 rintro k R0 cz ⟨i,bP,bV,cd,cW,cR,hN,gk,fJ⟩
 have cB:=iw bP bV cd cW cR
 obtain⟨gF,rfl⟩:=cB
 clear bP bV cd cW cR
 iterate 2 refine RW.seq ?_
 refine RW.region (RL.ag (v:=vJ i) U (RL.ag (ah acD rfl fC) (RL.ag (aj acT (hN.aJ 1 rfl)) ?_)))
 have k9:=(hl.o.now hN).bw
 refine RL.ag (bO acT (hl.o.now hN)) (RL.ag (aL) (RL.ak ?_))
 refine RW.aG _ (fun cD=>?_) (fun cD=>?_)
 refine RW.skip (aw (RW.seq (RW.block (RW.aN (RL.ag (ah acD rfl fC) (RL.ag (aj acT (hN.aJ 1 rfl)) (RL.ag (v:=vJ i) U (RL.ag (aU acT hO aH (hl.o.now hN)) ?_))))))))
 have aO:=da (ls) i
 obtain⟨ap,bX⟩:=aO
 refine RL.ag (bl (m:=i) (b:=0) ada rfl bK aH (hl.o.now hN) bX) (RL.ag (bB (m:=i) (j:=0) (a:=ap) acs aH (hl.o.now hN) bX) (RL.ag (v:=.int .i64 (u)) U (RL.ag (bZ) (RL.ag (v:=.bool (decide (ap.1=u))) U ?_))))
 by_cases nF:ap.1=u
 rw[decide_eq_true nF]
 refine RL.an (ah acD rfl fC) (RL.an (aj acT (hN.aJ 1 rfl)) (RL.an (v:=vJ i) U (RL.an (aU acT hO aH (hl.o.now hN)) (RL.an (bl (m:=i) (b:=0) ada rfl bK aH (hl.o.now hN) bX) (RL.an (bB (m:=i) (j:=1) (a:=ap) acs aH (hl.o.now hN) bX) (RL.an (v:=.int .i64 (v)) U (RL.an (bZ) (RL.ag (v:=.bool (decide (ap.2.1=v))) (al) (RL.nil ?_)))))))))
 refine aw ?_
 refine RW.aG _ (fun Lj=>?_) (fun Lj=>?_)
 refine RW.aN (RL.ag (ah acD rfl fC) (RL.ag (aj acT (hN.aJ 1 rfl)) (RL.ag (v:=vJ i) U (RL.ag (aU acT hO aH (hl.o.now hN)) (RL.ag (bl (m:=i) (b:=0) ada rfl cU aH (hl.o.now hN) bX) (RL.ag (Fi (m:=i) (j:=2) (a:=ap) acH rfl cU aH (by decide) (by decide) (hl.o.now hN) rfl bX (cs:=[.int .i64 (ap.2.2.1),.int .i64 (ap.2.2.2.1),.int .i64 (ap.2.2.2.2)]) rfl) ?_))))))
 refine RL.aK (aR (vs:=[.int .i64 (ap.2.2.1),.int .i64 (ap.2.2.2.1),.int .i64 (ap.2.2.2.2)]) cU rfl rfl rfl (aW (aW (aW cZ))) hN 0 rfl rfl ?_)
 clear hN
 intro w4 (hN:aI w none_ w4 [_,_])
 refine RL.ag (v:=.bool true) ai (RL.ak (RW.ret (aX ?_)))
 iterate 2 refine aT ?_
 refine aX (aT (bb (RV.eB rfl rfl (dJ (hN.aJ 0 rfl) acH rfl cU)) ?_))
 exact⟨(wu (Ga fJ bX nF Lj)).symm,hN.bc⟩
 refine RW.skip (aY (aw (RW.region (RL.ag (v:=vJ i) U (RL.ag (aD rfl rfl rfl (bh (by omega) (by omega))) (RL.ag (v:=.int .i64 ((i:Int)+1)) ai (RL.ak ?_)))))))
 exact⟨k-1,by omega,i+1,rfl,rfl,rfl,rfl,rfl,hN,by omega,fun x hx=>(du bX hx).elim (fJ x) (fun e=>e▸fun h=>by first|exact nF h.1|exact Lj h.2)⟩
 rw[decide_eq_false nF]
 iterate 8 refine RL.bH ?_
 refine RL.ag (v:=.bool false) (aB) (RL.ak (RW.cg (RW.skip (aY (aw (RW.region (RL.ag (v:=vJ i) U (RL.ag (aD rfl rfl rfl (bh (by omega) (by omega))) ?_))))))))
 refine RL.ag (v:=.int .i64 ((i:Int)+1)) ai (RL.ak ?_)
 exact⟨k-1,by omega,i+1,rfl,rfl,rfl,rfl,rfl,hN,by omega,fun x hx=>(du bX hx).elim (fJ x) (fun e=>e▸fun h=>by first|exact nF h.1|exact Lj h.2)⟩
 refine RW.exit ?_
 iterate 2 refine bS ?_
 refine ba (aw (RW.aN (RL.ag (bT (cs:=[.int .i64 (0),.int .i64 (0),.int .i64 (0)]) acH eV (places:=#[(0,1),(1,1),(2,1)]) (by intro w;kernel_rfl) (pl:=[]) rfl (ps:=[]) rfl (zc:=[.int .i64 (0),.int .i64 (0),.int .i64 (0)]) rfl rfl) ?_)))
 refine RL.aK (aR (vs:=[.int .i64 (0),.int .i64 (0),.int .i64 (0)]) cU rfl rfl rfl (aW (aW (aW cZ))) hN 0 rfl rfl ?_)
 clear hN
 intro w5 (hN:aI w none_ w5 [_,_])
 refine RL.ag (v:=.bool false) ai (RL.ak (RW.ret (bb (RV.eB rfl rfl (dJ (hN.aJ 0 rfl) acH rfl cU)) ?_)))
 rw[acX (by omega)]at fJ
 exact⟨(DW (Bs fJ)).symm,hN.bc⟩
theorem lk (n:Nat) (iv lv ov:Value) (ins:List Int) (ls:List I5) (lost:List Int) (w:World) (hi:Sl vI w iv ins) (hl:Sm aV w lv ls) (ho:Sl vI w ov lost) (u v:Int) (x:I3) (h:bC ls u v=some x):aM acx 137 #[.agg #[.int .i64 (n:Int),iv,lv,ov],.int .i64 u,.int .i64 v] w fun r w'=>r=.tuple #[.agg #[.int .i64 x.1,.int .i64 x.2.1,.int .i64 x.2.2],.bool true]∧Ext w w':=(gG n iv lv ov ins ls lost w hi hl ho u v).mono fun r w' hr=>by rw[wu h]at hr;exact hr
theorem oI (n:Nat) (iv lv ov:Value) (ins:List Int) (ls:List I5) (lost:List Int) (w:World) (hi:Sl vI w iv ins) (hl:Sm aV w lv ls) (ho:Sl vI w ov lost) (v:Int) (hn:n≤4096):aM acx 136 #[.agg #[.int .i64 (n:Int),iv,lv,ov],.int .i64 v] w fun r w'=>eG vI 3 w' w.heap.size r (cv ls v n)∧Ext w w':=by
 refine aM.aZ ahc ?_
 rw[cT]
 have hN:=aI.nil w none_
 refine RW.aN ?_
 refine RL.aK (bL (cs:=[vJ n,iv,lv,ov]) rfl rfl hN ?_)
 clear hN
 intro g1 w1 (hN:aI w none_ w1 [_])
 refine RL.ag (v:=vN) ai (RL.b6 (RL.ag (v:=vN) ai (RL.ak ?_)))
 iterate 2 refine RW.seq ?_
 refine RW.region (RL.ag (v:=.int .i64 (0)) ai (RL.ak (RW.block ?_)))
 replace hN:=hN.dD vI 3
 refine RW.loop (fun k R0 cz=>∃va:Value,∃acc:List Int,∃i:Nat,R0 1=.int .i64 (v)∧R0 2=vP g1∧R0 5=va∧R0 6=vJ i∧aI w none_ cz [.own vI 3 (va) (acc),.aJ g1 [vJ n,iv,lv,ov] 194]∧(i+k=n)∧(acc=cv ls v i)∧(acc.length≤i)) (n) ?_ ?_
 exact⟨vN,[],0,rfl,rfl,rfl,rfl,hN,by omega,rfl,ac3 _⟩
 clear hN
 rintro k R0 cz ⟨va,acc,i,bP,bV,cx,cW,hN,gk,ha,ir⟩
 have cB:=jd bP bV cx cW
 obtain⟨gF,rfl⟩:=cB
 clear bP bV cx cW
 iterate 2 refine RW.seq ?_
 refine RW.region (RL.ag (v:=vJ i) U (RL.ag (ah acD rfl bK) (RL.ag (aj acs (hN.aJ 1 rfl)) (RL.ag (aL) (RL.ak ?_)))))
 refine RW.aG _ (fun cD=>?_) (fun cD=>?_)
 refine RW.skip (aw (RW.seq (RW.block (RW.aN (RL.ag (aE (cs:=[vJ n,iv,lv,ov]) acD cK (hN.aJ 1 rfl)) (RL.ag (v:=.int .i64 (v)) U (RL.ag (v:=vJ i) U ?_)))))))
 refine RL.aK (cq ad1 rfl rfl rfl rfl rfl ((gG n _ _ _ ins ls lost _ (hi.o.now hN) (hl.o.now hN) (ho.o.now hN) v (i:Int)).mono ?_))
 rintro _ w3 ⟨rfl,bn⟩
 replace hN:=hN.ext bn
 clear bn
 refine RL.ag (v:=.tuple #[.agg #[.int .i64 (((bC ls v (i:Int)).getD (0,0,0)).1),.int .i64 (((bC ls v (i:Int)).getD (0,0,0)).2.1),.int .i64 (((bC ls v (i:Int)).getD (0,0,0)).2.2)],.bool (decide (cQ ls v (i:Int)))]) U ?_
 iterate 2 refine RL.ag (bA) ?_
 refine RL.aK (bz (cs:=[.int .i64 (0),.int .i64 (0),.int .i64 (0)]) eV rfl hN ?_)
 clear hN
 intro g4 w4 (hN:aI w none_ w4 [_,_,_])
 refine RL.aK (aR (vs:=[.int .i64 (((bC ls v (i:Int)).getD (0,0,0)).1),.int .i64 (((bC ls v (i:Int)).getD (0,0,0)).2.1),.int .i64 (((bC ls v (i:Int)).getD (0,0,0)).2.2)]) cU rfl rfl rfl (aW (aW (aW cZ))) hN 0 rfl rfl ?_)
 clear hN
 intro w5 (hN:aI w none_ w5 [_,_,_])
 refine RL.ag (v:=.bool (decide (cQ ls v (i:Int)))) ai (RL.b6 (RL.ag (v:=.bool (decide (cQ ls v (i:Int)))) U (RL.ak ?_)))
 refine RW.aG _ (fun rP=>?_) (fun rP=>?_)
 refine RW.region (RL.ag (v:=va) U (RL.ag (v:=vJ i) U ?_))
 refine RL.aK (cw (enc:=vI) (l:=[(i:Int)]) (xs:=[.tmp 24]) acu bK mU rfl rfl (fun _=>rfl) rfl (by decide) (by decide) hN ?_)
 clear hN
 intro g6 w6 (hN:aI w none_ w6 [_,_,_,_])
 refine RL.aK (b9 acu gz rfl (fun _=>rfl) hN 2 rfl rfl (hN.sl 0 rfl) rfl (by simp only[acC,acF,acN];omega) (by decide) ?_)
 clear hN
 intro v7 w7 (hN:aI w none_ w7 [_,_,_,_])
 refine RL.ag (v:=v7) ai (RL.nil (aY (aw (RW.region (RL.ag (v:=vJ i) U (RL.ag (aD rfl rfl rfl (bh (by omega) (by omega))) (RL.ag (v:=.int .i64 ((i:Int)+1)) ai (RL.ak ?_))))))))
 exact⟨k-1,by omega,v7,acc++[(i:Int)],i+1,rfl,rfl,rfl,rfl,(hN.sb [2,3]),by omega,by unfold cv at*;rw[dg,if_pos (decide_eq_true (show cQ ls v (i:Int)from rP)),ha];try rfl,by(try simp only[acw,acC]);omega⟩
 refine RW.skip (aY (aw (RW.region (RL.ag (v:=vJ i) U (RL.ag (aD rfl rfl rfl (bh (by omega) (by omega))) (RL.ag (v:=.int .i64 ((i:Int)+1)) ai (RL.ak ?_)))))))
 exact⟨k-1,by omega,va,acc,i+1,rfl,rfl,rfl,rfl,(hN.sb [1,2]),by omega,by unfold cv at*;rw[dg,if_neg (fun h=>rP (of_decide_eq_true (p:=cQ ls v (i:Int)) h)),adj];exact ha,by(try simp only[acw,acC]);omega⟩
 refine RW.exit ?_
 iterate 2 refine bS ?_
 refine ba (aw (RW.aN (RL.ag (v:=va) U (RL.ag (v:=va) ai (RL.ak (RW.ret (bb (RV.tmp rfl) ?_)))))))
 have iy:i=n:=by omega
 subst iy
 subst ha
 exact⟨hN.fL 0 rfl,hN.bc⟩
theorem qv (n:Nat) (iv lv ov:Value) (ins:List Int) (ls:List I5) (lost:List Int) (w:World) (hi:Sl vI w iv ins) (hl:Sm aV w lv ls) (ho:Sl vI w ov lost) (v:Int) (hn:n≤4096):aM acx 138 #[.agg #[.int .i64 (n:Int),iv,lv,ov],.int .i64 v] w fun r w'=>eG vI 3 w' w.heap.size r (dj ls v n)∧Ext w w':=by
 refine aM.aZ ahd ?_
 rw[cT]
 have hN:=aI.nil w none_
 refine RW.aN ?_
 refine RL.aK (bL (cs:=[vJ n,iv,lv,ov]) rfl rfl hN ?_)
 clear hN
 intro g1 w1 (hN:aI w none_ w1 [_])
 refine RL.ag (v:=vN) ai (RL.b6 (RL.ag (v:=vN) ai (RL.ak ?_)))
 iterate 2 refine RW.seq ?_
 refine RW.region (RL.ag (v:=.int .i64 (0)) ai (RL.ak (RW.block ?_)))
 replace hN:=hN.dD vI 3
 refine RW.loop (fun k R0 cz=>∃va:Value,∃acc:List Int,∃i:Nat,R0 1=.int .i64 (v)∧R0 2=vP g1∧R0 5=va∧R0 6=vJ i∧aI w none_ cz [.own vI 3 (va) (acc),.aJ g1 [vJ n,iv,lv,ov] 194]∧(i+k=n)∧(acc=dj ls v i)∧(acc.length≤i)) (n) ?_ ?_
 exact⟨vN,[],0,rfl,rfl,rfl,rfl,hN,by omega,rfl,ac3 _⟩
 clear hN
 rintro k R0 cz ⟨va,acc,i,bP,bV,cx,cW,hN,gk,ha,ir⟩
 have cB:=jd bP bV cx cW
 obtain⟨gF,rfl⟩:=cB
 clear bP bV cx cW
 iterate 2 refine RW.seq ?_
 refine RW.region (RL.ag (v:=vJ i) U (RL.ag (ah acD rfl bK) (RL.ag (aj acs (hN.aJ 1 rfl)) (RL.ag (aL) (RL.ak ?_)))))
 refine RW.aG _ (fun cD=>?_) (fun cD=>?_)
 refine RW.skip (aw (RW.seq (RW.block (RW.aN (RL.ag (aE (cs:=[vJ n,iv,lv,ov]) acD cK (hN.aJ 1 rfl)) (RL.ag (v:=vJ i) U (RL.ag (v:=.int .i64 (v)) U ?_)))))))
 refine RL.aK (cq ad1 rfl rfl rfl rfl rfl ((gG n _ _ _ ins ls lost _ (hi.o.now hN) (hl.o.now hN) (ho.o.now hN) (i:Int) v).mono ?_))
 rintro _ w3 ⟨rfl,bn⟩
 replace hN:=hN.ext bn
 clear bn
 refine RL.ag (v:=.tuple #[.agg #[.int .i64 (((bC ls (i:Int) v).getD (0,0,0)).1),.int .i64 (((bC ls (i:Int) v).getD (0,0,0)).2.1),.int .i64 (((bC ls (i:Int) v).getD (0,0,0)).2.2)],.bool (decide (cQ ls (i:Int) v))]) U ?_
 iterate 2 refine RL.ag (bA) ?_
 refine RL.aK (bz (cs:=[.int .i64 (0),.int .i64 (0),.int .i64 (0)]) eV rfl hN ?_)
 clear hN
 intro g4 w4 (hN:aI w none_ w4 [_,_,_])
 refine RL.aK (aR (vs:=[.int .i64 (((bC ls (i:Int) v).getD (0,0,0)).1),.int .i64 (((bC ls (i:Int) v).getD (0,0,0)).2.1),.int .i64 (((bC ls (i:Int) v).getD (0,0,0)).2.2)]) cU rfl rfl rfl (aW (aW (aW cZ))) hN 0 rfl rfl ?_)
 clear hN
 intro w5 (hN:aI w none_ w5 [_,_,_])
 refine RL.ag (v:=.bool (decide (cQ ls (i:Int) v))) ai (RL.b6 (RL.ag (v:=.bool (decide (cQ ls (i:Int) v))) U (RL.ak ?_)))
 refine RW.aG _ (fun rP=>?_) (fun rP=>?_)
 refine RW.region (RL.ag (v:=va) U (RL.ag (v:=vJ i) U ?_))
 refine RL.aK (cw (enc:=vI) (l:=[(i:Int)]) (xs:=[.tmp 24]) acu bK mU rfl rfl (fun _=>rfl) rfl (by decide) (by decide) hN ?_)
 clear hN
 intro g6 w6 (hN:aI w none_ w6 [_,_,_,_])
 refine RL.aK (b9 acu gz rfl (fun _=>rfl) hN 2 rfl rfl (hN.sl 0 rfl) rfl (by simp only[acC,acF,acN];omega) (by decide) ?_)
 clear hN
 intro v7 w7 (hN:aI w none_ w7 [_,_,_,_])
 refine RL.ag (v:=v7) ai (RL.nil (aY (aw (RW.region (RL.ag (v:=vJ i) U (RL.ag (aD rfl rfl rfl (bh (by omega) (by omega))) (RL.ag (v:=.int .i64 ((i:Int)+1)) ai (RL.ak ?_))))))))
 exact⟨k-1,by omega,v7,acc++[(i:Int)],i+1,rfl,rfl,rfl,rfl,(hN.sb [2,3]),by omega,by unfold dj at*;rw[dg,if_pos (decide_eq_true (show cQ ls (i:Int) v from rP)),ha];try rfl,by(try simp only[acw,acC]);omega⟩
 refine RW.skip (aY (aw (RW.region (RL.ag (v:=vJ i) U (RL.ag (aD rfl rfl rfl (bh (by omega) (by omega))) (RL.ag (v:=.int .i64 ((i:Int)+1)) ai (RL.ak ?_)))))))
 exact⟨k-1,by omega,va,acc,i+1,rfl,rfl,rfl,rfl,(hN.sb [1,2]),by omega,by unfold dj at*;rw[dg,if_neg (fun h=>rP (of_decide_eq_true (p:=cQ ls (i:Int) v) h)),adj];exact ha,by(try simp only[acw,acC]);omega⟩
 refine RW.exit ?_
 iterate 2 refine bS ?_
 refine ba (aw (RW.aN (RL.ag (v:=va) U (RL.ag (v:=va) ai (RL.ak (RW.ret (bb (RV.tmp rfl) ?_)))))))
 have iy:i=n:=by omega
 subst iy
 subst ha
 exact⟨hN.fL 0 rfl,hN.bc⟩
end Go.Proofs.YtngkdkbpgoddlaaGreat
namespace Go.Proofs.YtngkdkbpgoddlaaGreat
open Go.RowKit Go.Rl
open Go.Gr
theorem tE {w:World} (F:Nat→Prop) (hF:∀k,F k→k<w.heap.size) (n:Nat) (iv lv ov:Value) (ins:List Int) (ls:List I5) (lost:List Int) (u v x mid:Int) (hi:nO F vI w iv ins) (hl:mG F aV w lv ls) (ho:nO F vI w ov lost) (uh:ins.length=n) (hlen:ls.length≤67108864):aM acx 135 #[.agg #[.int .i64 (n:Int),iv,lv,ov],.int .i64 u,.int .i64 v,.int .i64 x,.int .i64 mid] w fun r w'=>∃Q7 b,r=.tuple #[.agg #[.int .i64 (n:Int),iv,Q7,ov],.bool b]∧mG F aV w' Q7 (jL n ins ls u v x mid)∧Ext w w':=by
 refine aM.aZ aiy ?_
 rw[M9]
 have hN:=aI.nil w none_
 refine RW.aN ?_
 refine RL.aK (bL (cs:=[vJ n,iv,lv,ov]) rfl rfl hN ?_)
 clear hN
 intro g1 w1 (hN:aI w none_ w1 [_])
 refine RL.aK (bz (cs:=[.int .i64 (0),vN,vN,vN]) jc rfl hN ?_)
 clear hN
 intro g2 w2 (hN:aI w none_ w2 [_,_])
 refine RL.ag (v:=.bool false) ai (RL.b6 (RL.ag (aE (cs:=[vJ n,iv,lv,ov]) acD cK (hN.aJ 1 rfl)) (RL.ag (v:=.int .i64 (u)) U (RL.ag (v:=.int .i64 (v)) U ?_))))
 refine RL.aK (cq ad1 rfl rfl rfl rfl rfl ((gG n _ _ _ ins ls lost _ (hi.1.o.now hN) (hl.1.o.now hN) (ho.1.o.now hN) u v).mono ?_))
 rintro _ w3 ⟨rfl,bn⟩
 replace hN:=hN.ext bn
 clear bn
 refine RL.ag (v:=.tuple #[.agg #[.int .i64 (((bC ls u v).getD (0,0,0)).1),.int .i64 (((bC ls u v).getD (0,0,0)).2.1),.int .i64 (((bC ls u v).getD (0,0,0)).2.2)],.bool (decide (cQ ls u v))]) U ?_
 iterate 2 refine RL.ag (bA) ?_
 refine RL.aK (bz (cs:=[.int .i64 (0),.int .i64 (0),.int .i64 (0)]) eV rfl hN ?_)
 clear hN
 intro g4 w4 (hN:aI w none_ w4 [_,_,_])
 refine RL.aK (aR (vs:=[.int .i64 (((bC ls u v).getD (0,0,0)).1),.int .i64 (((bC ls u v).getD (0,0,0)).2.1),.int .i64 (((bC ls u v).getD (0,0,0)).2.2)]) cU rfl rfl rfl (aW (aW (aW cZ))) hN 0 rfl rfl ?_)
 clear hN
 intro w5 (hN:aI w none_ w5 [_,_,_])
 refine RL.ag (v:=.bool (decide (cQ ls u v))) ai (RL.ak ?_)
 iterate 2 refine RW.seq ?_
 refine RW.region (RL.ag (aE (cs:=[vJ n,iv,lv,ov]) acD cK (hN.aJ 2 rfl)) (RL.ag (v:=.int .i64 (u)) U ?_))
 refine RL.aK (bu afz rfl rfl rfl rfl ((lK n _ _ _ ins ls lost _ (hi.1.o.now hN) (hl.1.o.now hN) (ho.1.o.now hN) u uh).mono ?_))
 rintro _ w6 ⟨rfl,bn⟩
 replace hN:=hN.ext bn
 clear bn
 refine RL.ag (cV rfl) (RL.ag (v:=.bool (decide (¬(fZ n ins u)))) U ?_)
 by_cases Ay:¬(fZ n ins u)
 rw[decide_eq_true Ay]
 iterate 4 refine RL.bH ?_
 refine RL.ag (v:=.bool true) (al) (RL.ag (v:=.bool true) U ?_)
 iterate 3 refine RL.bH ?_
 refine RL.ag (v:=.bool true) (al) (RL.ag (v:=.bool true) U ?_)
 iterate 2 refine RL.bH ?_
 refine RL.ag (v:=.bool true) (al) (RL.ag (v:=.bool true) U ?_)
 iterate 2 refine RL.bH ?_
 refine RL.ag (v:=.bool true) (al) (RL.ag (v:=.bool true) U ?_)
 iterate 2 refine RL.bH ?_
 iterate 4 refine RL.iA ?_
 refine RL.bH (RL.ag (v:=.bool true) (al) (RL.ak (RW.bF (RW.aN (RL.ag (aE (cs:=[vJ n,iv,lv,ov]) acD cK (hN.aJ 2 rfl)) ?_)))))
 refine RL.aK (aR (vs:=[vJ n,iv,lv,ov]) cK rfl rfl rfl (by intro u hu;simp only[ac1,acV,or_false]at hu;rcases hu with rfl|rfl|rfl|rfl<;>first|rfl|exact(hi.1.o.now hN).bW|exact(hl.1.o.now hN).bW|exact(ho.1.o.now hN).bW) hN 1 rfl rfl ?_)
 clear hN
 intro w7 (hN:aI w none_ w7 [_,_,_])
 refine RL.ag (v:=.bool false) ai (RL.ak (RW.ret (aT (bb (RV.eB rfl rfl (dJ (hN.aJ 1 rfl) acD rfl cK)) ?_))))
 have Cq:ox n ins ls u v x mid:=by first|exact .inl (by assumption)|exact .inr (.inl (by assumption))|exact .inr (.inr (.inl (by assumption)))|exact .inr (.inr (.inr (.inl (by assumption))))|exact .inr (.inr (.inr (.inr (.inl (by assumption)))))|exact .inr (.inr (.inr (.inr (.inr ⟨by assumption,by assumption⟩))))
 exact⟨_,_,rfl,by rw[jL,if_pos Cq];exact hl.ext hN.bc,hN.bc⟩
 rw[decide_eq_false Ay]
 refine RL.an (aE (cs:=[vJ n,iv,lv,ov]) acD cK (hN.aJ 2 rfl)) (RL.an (v:=.int .i64 (v)) U ?_)
 refine RL.ed (bu afz rfl rfl rfl rfl ((lK n _ _ _ ins ls lost _ (hi.1.o.now hN) (hl.1.o.now hN) (ho.1.o.now hN) v uh).mono ?_))
 rintro _ w8 ⟨rfl,bn⟩
 replace hN:=hN.ext bn
 clear bn
 refine RL.an (cV rfl) (RL.ag (v:=.bool (decide (¬(fZ n ins v)))) (aB) (RL.ag (v:=.bool (decide (¬(fZ n ins v)))) U ?_))
 by_cases Io:¬(fZ n ins v)
 rw[decide_eq_true Io]
 iterate 3 refine RL.bH ?_
 refine RL.ag (v:=.bool true) (al) (RL.ag (v:=.bool true) U ?_)
 iterate 2 refine RL.bH ?_
 refine RL.ag (v:=.bool true) (al) (RL.ag (v:=.bool true) U ?_)
 iterate 2 refine RL.bH ?_
 refine RL.ag (v:=.bool true) (al) (RL.ag (v:=.bool true) U ?_)
 iterate 2 refine RL.bH ?_
 iterate 4 refine RL.iA ?_
 refine RL.bH (RL.ag (v:=.bool true) (al) (RL.ak (RW.bF (RW.aN (RL.ag (aE (cs:=[vJ n,iv,lv,ov]) acD cK (hN.aJ 2 rfl)) ?_)))))
 refine RL.aK (aR (vs:=[vJ n,iv,lv,ov]) cK rfl rfl rfl (by intro u hu;simp only[ac1,acV,or_false]at hu;rcases hu with rfl|rfl|rfl|rfl<;>first|rfl|exact(hi.1.o.now hN).bW|exact(hl.1.o.now hN).bW|exact(ho.1.o.now hN).bW) hN 1 rfl rfl ?_)
 clear hN
 intro w9 (hN:aI w none_ w9 [_,_,_])
 refine RL.ag (v:=.bool false) ai (RL.ak (RW.ret (aT (bb (RV.eB rfl rfl (dJ (hN.aJ 1 rfl) acD rfl cK)) ?_))))
 have Cq:ox n ins ls u v x mid:=by first|exact .inl (by assumption)|exact .inr (.inl (by assumption))|exact .inr (.inr (.inl (by assumption)))|exact .inr (.inr (.inr (.inl (by assumption))))|exact .inr (.inr (.inr (.inr (.inl (by assumption)))))|exact .inr (.inr (.inr (.inr (.inr ⟨by assumption,by assumption⟩))))
 exact⟨_,_,rfl,by rw[jL,if_pos Cq];exact hl.ext hN.bc,hN.bc⟩
 rw[decide_eq_false Io]
 refine RL.an (v:=.int .i64 (u)) U (RL.an (v:=.int .i64 (v)) U (RL.an (bZ) (RL.ag (v:=.bool (decide (u=v))) (aB) (RL.ag (v:=.bool (decide (u=v))) U ?_))))
 by_cases Il:u=v
 rw[decide_eq_true Il]
 iterate 2 refine RL.bH ?_
 refine RL.ag (v:=.bool true) (al) (RL.ag (v:=.bool true) U ?_)
 iterate 2 refine RL.bH ?_
 refine RL.ag (v:=.bool true) (al) (RL.ag (v:=.bool true) U ?_)
 iterate 2 refine RL.bH ?_
 iterate 4 refine RL.iA ?_
 refine RL.bH (RL.ag (v:=.bool true) (al) (RL.ak (RW.bF (RW.aN (RL.ag (aE (cs:=[vJ n,iv,lv,ov]) acD cK (hN.aJ 2 rfl)) ?_)))))
 refine RL.aK (aR (vs:=[vJ n,iv,lv,ov]) cK rfl rfl rfl (by intro u hu;simp only[ac1,acV,or_false]at hu;rcases hu with rfl|rfl|rfl|rfl<;>first|rfl|exact(hi.1.o.now hN).bW|exact(hl.1.o.now hN).bW|exact(ho.1.o.now hN).bW) hN 1 rfl rfl ?_)
 clear hN
 intro lW (hN:aI w none_ lW [_,_,_])
 refine RL.ag (v:=.bool false) ai (RL.ak (RW.ret (aT (bb (RV.eB rfl rfl (dJ (hN.aJ 1 rfl) acD rfl cK)) ?_))))
 have Cq:ox n ins ls u v x mid:=by first|exact .inl (by assumption)|exact .inr (.inl (by assumption))|exact .inr (.inr (.inl (by assumption)))|exact .inr (.inr (.inr (.inl (by assumption))))|exact .inr (.inr (.inr (.inr (.inl (by assumption)))))|exact .inr (.inr (.inr (.inr (.inr ⟨by assumption,by assumption⟩))))
 exact⟨_,_,rfl,by rw[jL,if_pos Cq];exact hl.ext hN.bc,hN.bc⟩
 rw[decide_eq_false Il]
 refine RL.an (v:=.int .i64 (x)) U (RL.an (aL) (RL.ag (v:=.bool (decide (x<0))) (aB) (RL.ag (v:=.bool (decide (x<0))) U ?_)))
 by_cases uv:x<0
 rw[decide_eq_true uv]
 iterate 2 refine RL.bH ?_
 refine RL.ag (v:=.bool true) (al) (RL.ag (v:=.bool true) U ?_)
 iterate 2 refine RL.bH ?_
 iterate 4 refine RL.iA ?_
 refine RL.bH (RL.ag (v:=.bool true) (al) (RL.ak (RW.bF (RW.aN (RL.ag (aE (cs:=[vJ n,iv,lv,ov]) acD cK (hN.aJ 2 rfl)) ?_)))))
 refine RL.aK (aR (vs:=[vJ n,iv,lv,ov]) cK rfl rfl rfl (by intro u hu;simp only[ac1,acV,or_false]at hu;rcases hu with rfl|rfl|rfl|rfl<;>first|rfl|exact(hi.1.o.now hN).bW|exact(hl.1.o.now hN).bW|exact(ho.1.o.now hN).bW) hN 1 rfl rfl ?_)
 clear hN
 intro lR (hN:aI w none_ lR [_,_,_])
 refine RL.ag (v:=.bool false) ai (RL.ak (RW.ret (aT (bb (RV.eB rfl rfl (dJ (hN.aJ 1 rfl) acD rfl cK)) ?_))))
 have Cq:ox n ins ls u v x mid:=by first|exact .inl (by assumption)|exact .inr (.inl (by assumption))|exact .inr (.inr (.inl (by assumption)))|exact .inr (.inr (.inr (.inl (by assumption))))|exact .inr (.inr (.inr (.inr (.inl (by assumption)))))|exact .inr (.inr (.inr (.inr (.inr ⟨by assumption,by assumption⟩))))
 exact⟨_,_,rfl,by rw[jL,if_pos Cq];exact hl.ext hN.bc,hN.bc⟩
 rw[decide_eq_false uv]
 refine RL.an (v:=.int .i64 (mid)) U (RL.an (aL) (RL.ag (v:=.bool (decide (mid<0))) (aB) (RL.ag (v:=.bool (decide (mid<0))) U ?_)))
 by_cases Ik:mid<0
 rw[decide_eq_true Ik]
 iterate 2 refine RL.bH ?_
 iterate 4 refine RL.iA ?_
 refine RL.bH (RL.ag (v:=.bool true) (al) (RL.ak (RW.bF (RW.aN (RL.ag (aE (cs:=[vJ n,iv,lv,ov]) acD cK (hN.aJ 2 rfl)) ?_)))))
 refine RL.aK (aR (vs:=[vJ n,iv,lv,ov]) cK rfl rfl rfl (by intro u hu;simp only[ac1,acV,or_false]at hu;rcases hu with rfl|rfl|rfl|rfl<;>first|rfl|exact(hi.1.o.now hN).bW|exact(hl.1.o.now hN).bW|exact(ho.1.o.now hN).bW) hN 1 rfl rfl ?_)
 clear hN
 intro ll (hN:aI w none_ ll [_,_,_])
 refine RL.ag (v:=.bool false) ai (RL.ak (RW.ret (aT (bb (RV.eB rfl rfl (dJ (hN.aJ 1 rfl) acD rfl cK)) ?_))))
 have Cq:ox n ins ls u v x mid:=by first|exact .inl (by assumption)|exact .inr (.inl (by assumption))|exact .inr (.inr (.inl (by assumption)))|exact .inr (.inr (.inr (.inl (by assumption))))|exact .inr (.inr (.inr (.inr (.inl (by assumption)))))|exact .inr (.inr (.inr (.inr (.inr ⟨by assumption,by assumption⟩))))
 exact⟨_,_,rfl,by rw[jL,if_pos Cq];exact hl.ext hN.bc,hN.bc⟩
 rw[decide_eq_false Ik]
 iterate 2 refine RL.an (v:=.bool (decide (cQ ls u v))) U ?_
 by_cases uu:cQ ls u v
 rw[decide_eq_true uu]
 refine RL.an (ah acH rfl bK) (RL.an (aj acs (hN.aJ 0 rfl)) (RL.an (v:=.int .i64 (x)) U (RL.an (mw rfl rfl) (RL.an (v:=.bool (decide (((bC ls u v).getD (0,0,0)).1≤x))) (al) (RL.ag (v:=.bool (decide (((bC ls u v).getD (0,0,0)).1≤x))) (aB) (RL.ak ?_))))))
 refine RW.aG _ (fun VQ=>?_) (fun VQ=>?_)
 refine RW.aN (RL.ag (aE (cs:=[vJ n,iv,lv,ov]) acD cK (hN.aJ 2 rfl)) ?_)
 refine RL.aK (aR (vs:=[vJ n,iv,lv,ov]) cK rfl rfl rfl (by intro u hu;simp only[ac1,acV,or_false]at hu;rcases hu with rfl|rfl|rfl|rfl<;>first|rfl|exact(hi.1.o.now hN).bW|exact(hl.1.o.now hN).bW|exact(ho.1.o.now hN).bW) hN 1 rfl rfl ?_)
 clear hN
 intro nR (hN:aI w none_ nR [_,_,_])
 refine RL.ag (v:=.bool false) ai (RL.ak (RW.ret (aT (bb (RV.eB rfl rfl (dJ (hN.aJ 1 rfl) acD rfl cK)) ?_))))
 have Cq:ox n ins ls u v x mid:=by first|exact .inl (by assumption)|exact .inr (.inl (by assumption))|exact .inr (.inr (.inl (by assumption)))|exact .inr (.inr (.inr (.inl (by assumption))))|exact .inr (.inr (.inr (.inr (.inl (by assumption)))))|exact .inr (.inr (.inr (.inr (.inr ⟨by assumption,by assumption⟩))))
 exact⟨_,_,rfl,by rw[jL,if_pos Cq];exact hl.ext hN.bc,hN.bc⟩
 refine RW.skip (aw (RW.aN (RL.ag (v:=vN) ai (RL.ak ?_))))
 iterate 2 refine RW.seq ?_
 refine RW.region (RL.ag (v:=.int .i64 (0)) ai (RL.ak (RW.block ?_)))
 replace hN:=hN.eK aV 5 248
 refine RW.loop (fun k R0 cz=>∃va:Value,∃acc:List I5,∃i:Nat,R0 1=.int .i64 (u)∧R0 2=.int .i64 (v)∧R0 3=.int .i64 (x)∧R0 4=.int .i64 (mid)∧R0 5=vP g1∧R0 10=vP g2∧R0 14=va∧R0 15=vJ i∧aI w none_ cz [.cp aV 5 248 (va) (acc),.aJ g4 [.int .i64 (((bC ls u v).getD (0,0,0)).1),.int .i64 (((bC ls u v).getD (0,0,0)).2.1),.int .i64 (((bC ls u v).getD (0,0,0)).2.2)] 96,.aJ g2 [.int .i64 (0),vN,vN,vN] 194,.aJ g1 [vJ n,iv,lv,ov] 194]∧(i+k=ls.length)∧(acc=(ls.take i).filter (fun y=>decide (¬y.1=u∨¬y.2.1=v)))∧(acc.length≤i)) (ls.length) ?_ ?_
 exact⟨vN,[],0,rfl,rfl,rfl,rfl,rfl,rfl,rfl,rfl,hN,by omega,rfl,ac3 _⟩
 clear hN
 rintro k R0 cz ⟨va,acc,i,bP,bV,cd,cA,cx,df,gR,nD,hN,gk,ha,ir⟩
 have cB:=sR bP bV cd cA cx df gR nD
 obtain⟨gF,rfl⟩:=cB
 clear bP bV cd cA cx df gR nD
 iterate 2 refine RW.seq ?_
 refine RW.region (RL.ag (v:=vJ i) U (RL.ag (ah acD rfl fC) (RL.ag (aj acT (hN.aJ 3 rfl)) ?_)))
 have Yh:=(hl.1.o.now hN).bw
 refine RL.ag (bO acT (hl.1.o.now hN)) (RL.ag (aL) (RL.ak ?_))
 refine RW.aG _ (fun cD=>?_) (fun cD=>?_)
 refine RW.skip (aw (RW.seq (RW.block (RW.aN (RL.ag (ah acD rfl fC) (RL.ag (aj acT (hN.aJ 3 rfl)) (RL.ag (v:=vJ i) U (RL.ag (aU acT hO aH (hl.1.o.now hN)) ?_))))))))
 have aO:=da (ls) i
 obtain⟨ap,bX⟩:=aO
 refine RL.ag (bl (m:=i) (b:=0) ada rfl bK aH (hl.1.o.now hN) bX) (RL.ag (bB (m:=i) (j:=0) (a:=ap) acs aH (hl.1.o.now hN) bX) (RL.ag (v:=.int .i64 (u)) U (RL.ag (bj) (RL.ag (v:=.bool (decide (¬ap.1=u))) U ?_))))
 by_cases oo:¬ap.1=u
 rw[decide_eq_true oo]
 iterate 8 refine RL.bH ?_
 refine RL.ag (v:=.bool true) (al) (RL.ak (RW.bF (RW.region (RL.ag (v:=va) U (RL.ag (ah acD rfl fC) (RL.ag (aj acT (hN.aJ 3 rfl)) (RL.ag (v:=vJ i) U (RL.ag (aU acT hO aH (hl.1.o.now hN)) ?_))))))))
 refine RL.ag (b8 (m:=i) (a:=ap) ada hO aH (hl.1.o.now hN) bX (cs:=[.int .i64 (ap.1),.int .i64 (ap.2.1),.int .i64 (ap.2.2.1),.int .i64 (ap.2.2.2.1),.int .i64 (ap.2.2.2.2)])) ?_
 refine RL.aK (dB (cf:=aV) (s:=5) (pl:=[(0,.tmp 86)]) (ps:=[(0,.agg #[.int .i64 (ap.1),.int .i64 (ap.2.1),.int .i64 (ap.2.2.1),.int .i64 (ap.2.2.2.1),.int .i64 (ap.2.2.2.2)])]) (zc:=[.int .i64 (0),.int .i64 (0),.int .i64 (0),.int .i64 (0),.int .i64 (0)]) (l:=[(ap.1,ap.2.1,ap.2.2.1,ap.2.2.2.1,ap.2.2.2.2)]) acT ik (by kernel_rfl) rfl rfl (aP (vs:=[.int .i64 (ap.1),.int .i64 (ap.2.1),.int .i64 (ap.2.2.1),.int .i64 (ap.2.2.2.1),.int .i64 (ap.2.2.2.2)]) rfl rfl (acv rfl) rfl) aH rfl (by decide) (by decide) (by decide) hN ?_)
 clear hN
 intro g16 qe (hN:aI w none_ qe [_,_,_,_,_])
 refine RL.aK (ct acT ik rfl (by decide) dx aH hN 1 rfl rfl (hN.sm 0 rfl) rfl (by(try simp only[acw,acC,acF,acN]);omega) (by decide) ?_)
 clear hN
 intro QK sQ (hN:aI w none_ sQ [_,_,_,_,_])
 refine RL.ag (v:=QK) ai (RL.nil (aY (aw (RW.region (RL.ag (v:=vJ i) U (RL.ag (aD rfl rfl rfl (bh (by omega) (by omega))) (RL.ag (v:=.int .i64 ((i:Int)+1)) ai (RL.ak ?_))))))))
 exact⟨k-1,by omega,QK,acc++[(ap.1,ap.2.1,ap.2.2.1,ap.2.2.2.1,ap.2.2.2.2)],i+1,rfl,rfl,rfl,rfl,rfl,rfl,rfl,rfl,(hN.sb [1,2,3,4]),by omega,by rw[dO bX,if_pos (decide_eq_true (by first|exact .inl (by assumption)|exact .inr (by assumption))),ha],by(try simp only[acw,acC]);omega⟩
 rw[decide_eq_false oo]
 refine RL.an (ah acD rfl fC) (RL.an (aj acT (hN.aJ 3 rfl)) (RL.an (v:=vJ i) U (RL.an (aU acT hO aH (hl.1.o.now hN)) (RL.an (bl (m:=i) (b:=0) ada rfl bK aH (hl.1.o.now hN) bX) (RL.an (bB (m:=i) (j:=1) (a:=ap) acs aH (hl.1.o.now hN) bX) (RL.an (v:=.int .i64 (v)) U (RL.an (bj) (RL.ag (v:=.bool (decide (¬ap.2.1=v))) (aB) (RL.nil ?_)))))))))
 refine aw ?_
 refine RW.aG _ (fun IH=>?_) (fun IH=>?_)
 refine RW.region (RL.ag (v:=va) U (RL.ag (ah acD rfl fC) (RL.ag (aj acT (hN.aJ 3 rfl)) (RL.ag (v:=vJ i) U (RL.ag (aU acT hO aH (hl.1.o.now hN)) (RL.ag (b8 (m:=i) (a:=ap) ada hO aH (hl.1.o.now hN) bX (cs:=[.int .i64 (ap.1),.int .i64 (ap.2.1),.int .i64 (ap.2.2.1),.int .i64 (ap.2.2.2.1),.int .i64 (ap.2.2.2.2)])) ?_))))))
 refine RL.aK (dB (cf:=aV) (s:=5) (pl:=[(0,.tmp 86)]) (ps:=[(0,.agg #[.int .i64 (ap.1),.int .i64 (ap.2.1),.int .i64 (ap.2.2.1),.int .i64 (ap.2.2.2.1),.int .i64 (ap.2.2.2.2)])]) (zc:=[.int .i64 (0),.int .i64 (0),.int .i64 (0),.int .i64 (0),.int .i64 (0)]) (l:=[(ap.1,ap.2.1,ap.2.2.1,ap.2.2.2.1,ap.2.2.2.2)]) acT ik (by kernel_rfl) rfl rfl (aP (vs:=[.int .i64 (ap.1),.int .i64 (ap.2.1),.int .i64 (ap.2.2.1),.int .i64 (ap.2.2.2.1),.int .i64 (ap.2.2.2.2)]) rfl rfl (acv rfl) rfl) aH rfl (by decide) (by decide) (by decide) hN ?_)
 clear hN
 intro g18 u0 (hN:aI w none_ u0 [_,_,_,_,_])
 refine RL.aK (ct acT ik rfl (by decide) dx aH hN 1 rfl rfl (hN.sm 0 rfl) rfl (by(try simp only[acw,acC,acF,acN]);omega) (by decide) ?_)
 clear hN
 intro JM Bk (hN:aI w none_ Bk [_,_,_,_,_])
 refine RL.ag (v:=JM) ai (RL.nil (aY (aw (RW.region (RL.ag (v:=vJ i) U (RL.ag (aD rfl rfl rfl (bh (by omega) (by omega))) (RL.ag (v:=.int .i64 ((i:Int)+1)) ai (RL.ak ?_))))))))
 exact⟨k-1,by omega,JM,acc++[(ap.1,ap.2.1,ap.2.2.1,ap.2.2.2.1,ap.2.2.2.2)],i+1,rfl,rfl,rfl,rfl,rfl,rfl,rfl,rfl,(hN.sb [1,2,3,4]),by omega,by rw[dO bX,if_pos (decide_eq_true (by first|exact .inl (by assumption)|exact .inr (by assumption))),ha],by(try simp only[acw,acC]);omega⟩
 refine RW.skip (aY (aw (RW.region (RL.ag (v:=vJ i) U (RL.ag (aD rfl rfl rfl (bh (by omega) (by omega))) (RL.ag (v:=.int .i64 ((i:Int)+1)) ai (RL.ak ?_)))))))
 exact⟨k-1,by omega,va,acc,i+1,rfl,rfl,rfl,rfl,rfl,rfl,rfl,rfl,hN,by omega,by rw[dO bX,if_neg (fun h=>(of_decide_eq_true h).elim (fun h=>oo h) (fun h=>IH h)),adj];exact ha,by(try simp only[acw,acC]);omega⟩
 refine RW.exit ?_
 iterate 2 refine bS ?_
 refine ba (aw (RW.aN (RL.ag (v:=va) U (RL.ag (v:=.int .i64 (u)) U (RL.ag (v:=.int .i64 (v)) U (RL.ag (v:=.int .i64 (x)) U (RL.ag (v:=.int .i64 (mid)) U (RL.ag (bT (cs:=[.int .i64 (x),.int .i64 (mid),.int .i64 (-1)]) acH eV (places:=#[(0,1),(1,1),(2,1)]) (by intro w;kernel_rfl) (pl:=[(0,.tmp 92),(1,.tmp 93),(2,.const (.int .i64 (-1)))]) rfl (ps:=[(0,.int .i64 (x)),(1,.int .i64 (mid)),(2,.int .i64 (-1))]) rfl (zc:=[.int .i64 (0),.int .i64 (0),.int .i64 (0)]) rfl (aP (vs:=[.int .i64 (x)]) rfl rfl (acv rfl) (aP (vs:=[.int .i64 (mid)]) rfl rfl (acv rfl) (aP (vs:=[.int .i64 (-1)]) rfl rfl (acv rfl) rfl)))) ?_))))))))
 refine RL.ag (bT (cs:=[.int .i64 (u),.int .i64 (v),.int .i64 (x),.int .i64 (mid),.int .i64 (-1)]) ada sn (places:=#[(0,1),(1,1),(2,3)]) (by intro w;kernel_rfl) (pl:=[(0,.tmp 90),(1,.tmp 91),(2,.tmp 94)]) rfl (ps:=[(0,.int .i64 (u)),(1,.int .i64 (v)),(2,.agg #[.int .i64 (x),.int .i64 (mid),.int .i64 (-1)])]) rfl (zc:=[.int .i64 (0),.int .i64 (0),.int .i64 (0),.int .i64 (0),.int .i64 (0)]) rfl (aP (vs:=[.int .i64 (u)]) rfl rfl (acv rfl) (aP (vs:=[.int .i64 (v)]) rfl rfl (acv rfl) (aP (vs:=[.int .i64 (x),.int .i64 (mid),.int .i64 (-1)]) rfl rfl (acv rfl) rfl)))) ?_
 refine RL.aK (dB (cf:=aV) (s:=5) (pl:=[(0,.tmp 95)]) (ps:=[(0,.agg #[.int .i64 (u),.int .i64 (v),.int .i64 (x),.int .i64 (mid),.int .i64 (-1)])]) (zc:=[.int .i64 (0),.int .i64 (0),.int .i64 (0),.int .i64 (0),.int .i64 (0)]) (l:=[(u,v,x,mid,-1)]) acT ik (by kernel_rfl) rfl rfl (aP (vs:=[.int .i64 (u),.int .i64 (v),.int .i64 (x),.int .i64 (mid),.int .i64 (-1)]) rfl rfl (acv rfl) rfl) aH rfl (by decide) (by decide) (by decide) hN ?_)
 clear hN
 intro g20 DY (hN:aI w none_ DY [_,_,_,_,_])
 refine RL.aK (ct acT ik rfl (by decide) dx aH hN 1 rfl rfl (hN.sm 0 rfl) rfl (by(try simp only[acw,acC,acF,acN]);omega) (by decide) ?_)
 clear hN
 intro FJ C4 (hN:aI w none_ C4 [_,_,_,_,_])
 refine RL.ag (v:=FJ) ai (RL.b6 (RL.ag (v:=FJ) U (RL.ag (ah acD rfl fC) ?_)))
 refine RL.aK (ca fC rfl rfl (hN.sm 1 rfl).cN (hN.sm 1 rfl).bW hN 4 rfl (acv rfl) ?_)
 clear hN
 intro y1 (hN:aI w none_ y1 [_,_,_,_,_])
 refine RL.b6 (RL.ag (aE (cs:=[vJ n,iv,FJ,ov]) acD cK (hN.aJ 4 rfl)) ?_)
 refine RL.aK (aR (vs:=[vJ n,iv,FJ,ov]) cK rfl rfl rfl (by intro u hu;simp only[ac1,acV,or_false]at hu;rcases hu with rfl|rfl|rfl|rfl<;>first|rfl|exact(hN.sm 1 rfl).bW|exact(hi.1.o.now hN).bW|exact(ho.1.o.now hN).bW) hN 3 rfl rfl ?_)
 clear hN
 intro zk (hN:aI w none_ zk [_,_,_,_,_])
 refine RL.ag (v:=.bool true) ai (RL.ak (RW.ret (bb (RV.eB rfl rfl (dJ (hN.aJ 3 rfl) acD rfl cK)) ?_)))
 have iy:i=ls.length:=by omega
 rw[iy,adn]at ha
 have Cq:¬ox n ins ls u v x mid:=by rintro(h|h|h|h|h|⟨h,h2⟩)<;>first|contradiction|omega
 have fO:acc++[(u,v,x,mid,-1)]=jL n ins ls u v x mid:=by rw[jL,if_neg Cq,ha];rfl
 exact⟨_,_,rfl,fR.Kn (fO▸hN.fT 1 rfl) hF,hN.bc⟩
 rw[decide_eq_false uu]
 iterate 4 refine RL.bH ?_
 refine RL.an (v:=.bool false) (aB) (RL.ag (v:=.bool false) (aB) (RL.ak (RW.cg (RW.skip (aw (RW.aN (RL.ag (v:=vN) ai ?_)))))))
 refine RL.ak ?_
 iterate 2 refine RW.seq ?_
 refine RW.region (RL.ag (v:=.int .i64 (0)) ai (RL.ak (RW.block ?_)))
 replace hN:=hN.eK aV 5 248
 refine RW.loop (fun k R0 cz=>∃va:Value,∃acc:List I5,∃i:Nat,R0 1=.int .i64 (u)∧R0 2=.int .i64 (v)∧R0 3=.int .i64 (x)∧R0 4=.int .i64 (mid)∧R0 5=vP g1∧R0 10=vP g2∧R0 14=va∧R0 15=vJ i∧aI w none_ cz [.cp aV 5 248 (va) (acc),.aJ g4 [.int .i64 (((bC ls u v).getD (0,0,0)).1),.int .i64 (((bC ls u v).getD (0,0,0)).2.1),.int .i64 (((bC ls u v).getD (0,0,0)).2.2)] 96,.aJ g2 [.int .i64 (0),vN,vN,vN] 194,.aJ g1 [vJ n,iv,lv,ov] 194]∧(i+k=ls.length)∧(acc=(ls.take i).filter (fun y=>decide (¬y.1=u∨¬y.2.1=v)))∧(acc.length≤i)) (ls.length) ?_ ?_
 exact⟨vN,[],0,rfl,rfl,rfl,rfl,rfl,rfl,rfl,rfl,hN,by omega,rfl,ac3 _⟩
 clear hN
 rintro k R0 cz ⟨va,acc,i,bP,bV,cd,cA,cx,df,gR,nD,hN,gk,ha,ir⟩
 have cB:=sR bP bV cd cA cx df gR nD
 obtain⟨gF,rfl⟩:=cB
 clear bP bV cd cA cx df gR nD
 iterate 2 refine RW.seq ?_
 refine RW.region (RL.ag (v:=vJ i) U (RL.ag (ah acD rfl fC) (RL.ag (aj acT (hN.aJ 3 rfl)) ?_)))
 have Yc:=(hl.1.o.now hN).bw
 refine RL.ag (bO acT (hl.1.o.now hN)) (RL.ag (aL) (RL.ak ?_))
 refine RW.aG _ (fun cD=>?_) (fun cD=>?_)
 refine RW.skip (aw (RW.seq (RW.block (RW.aN (RL.ag (ah acD rfl fC) (RL.ag (aj acT (hN.aJ 3 rfl)) (RL.ag (v:=vJ i) U (RL.ag (aU acT hO aH (hl.1.o.now hN)) ?_))))))))
 have aO:=da (ls) i
 obtain⟨ap,bX⟩:=aO
 refine RL.ag (bl (m:=i) (b:=0) ada rfl bK aH (hl.1.o.now hN) bX) (RL.ag (bB (m:=i) (j:=0) (a:=ap) acs aH (hl.1.o.now hN) bX) (RL.ag (v:=.int .i64 (u)) U (RL.ag (bj) (RL.ag (v:=.bool (decide (¬ap.1=u))) U ?_))))
 by_cases oo:¬ap.1=u
 rw[decide_eq_true oo]
 iterate 8 refine RL.bH ?_
 refine RL.ag (v:=.bool true) (al) (RL.ak (RW.bF (RW.region (RL.ag (v:=va) U (RL.ag (ah acD rfl fC) (RL.ag (aj acT (hN.aJ 3 rfl)) (RL.ag (v:=vJ i) U (RL.ag (aU acT hO aH (hl.1.o.now hN)) ?_))))))))
 refine RL.ag (b8 (m:=i) (a:=ap) ada hO aH (hl.1.o.now hN) bX (cs:=[.int .i64 (ap.1),.int .i64 (ap.2.1),.int .i64 (ap.2.2.1),.int .i64 (ap.2.2.2.1),.int .i64 (ap.2.2.2.2)])) ?_
 refine RL.aK (dB (cf:=aV) (s:=5) (pl:=[(0,.tmp 86)]) (ps:=[(0,.agg #[.int .i64 (ap.1),.int .i64 (ap.2.1),.int .i64 (ap.2.2.1),.int .i64 (ap.2.2.2.1),.int .i64 (ap.2.2.2.2)])]) (zc:=[.int .i64 (0),.int .i64 (0),.int .i64 (0),.int .i64 (0),.int .i64 (0)]) (l:=[(ap.1,ap.2.1,ap.2.2.1,ap.2.2.2.1,ap.2.2.2.2)]) acT ik (by kernel_rfl) rfl rfl (aP (vs:=[.int .i64 (ap.1),.int .i64 (ap.2.1),.int .i64 (ap.2.2.1),.int .i64 (ap.2.2.2.1),.int .i64 (ap.2.2.2.2)]) rfl rfl (acv rfl) rfl) aH rfl (by decide) (by decide) (by decide) hN ?_)
 clear hN
 intro g26 DX (hN:aI w none_ DX [_,_,_,_,_])
 refine RL.aK (ct acT ik rfl (by decide) dx aH hN 1 rfl rfl (hN.sm 0 rfl) rfl (by(try simp only[acw,acC,acF,acN]);omega) (by decide) ?_)
 clear hN
 intro WR Gb (hN:aI w none_ Gb [_,_,_,_,_])
 refine RL.ag (v:=WR) ai (RL.nil (aY (aw (RW.region (RL.ag (v:=vJ i) U (RL.ag (aD rfl rfl rfl (bh (by omega) (by omega))) (RL.ag (v:=.int .i64 ((i:Int)+1)) ai (RL.ak ?_))))))))
 exact⟨k-1,by omega,WR,acc++[(ap.1,ap.2.1,ap.2.2.1,ap.2.2.2.1,ap.2.2.2.2)],i+1,rfl,rfl,rfl,rfl,rfl,rfl,rfl,rfl,(hN.sb [1,2,3,4]),by omega,by rw[dO bX,if_pos (decide_eq_true (by first|exact .inl (by assumption)|exact .inr (by assumption))),ha],by(try simp only[acw,acC]);omega⟩
 rw[decide_eq_false oo]
 refine RL.an (ah acD rfl fC) (RL.an (aj acT (hN.aJ 3 rfl)) (RL.an (v:=vJ i) U (RL.an (aU acT hO aH (hl.1.o.now hN)) (RL.an (bl (m:=i) (b:=0) ada rfl bK aH (hl.1.o.now hN) bX) (RL.an (bB (m:=i) (j:=1) (a:=ap) acs aH (hl.1.o.now hN) bX) (RL.an (v:=.int .i64 (v)) U (RL.an (bj) (RL.ag (v:=.bool (decide (¬ap.2.1=v))) (aB) (RL.nil ?_)))))))))
 refine aw ?_
 refine RW.aG _ (fun IH=>?_) (fun IH=>?_)
 refine RW.region (RL.ag (v:=va) U (RL.ag (ah acD rfl fC) (RL.ag (aj acT (hN.aJ 3 rfl)) (RL.ag (v:=vJ i) U (RL.ag (aU acT hO aH (hl.1.o.now hN)) (RL.ag (b8 (m:=i) (a:=ap) ada hO aH (hl.1.o.now hN) bX (cs:=[.int .i64 (ap.1),.int .i64 (ap.2.1),.int .i64 (ap.2.2.1),.int .i64 (ap.2.2.2.1),.int .i64 (ap.2.2.2.2)])) ?_))))))
 refine RL.aK (dB (cf:=aV) (s:=5) (pl:=[(0,.tmp 86)]) (ps:=[(0,.agg #[.int .i64 (ap.1),.int .i64 (ap.2.1),.int .i64 (ap.2.2.1),.int .i64 (ap.2.2.2.1),.int .i64 (ap.2.2.2.2)])]) (zc:=[.int .i64 (0),.int .i64 (0),.int .i64 (0),.int .i64 (0),.int .i64 (0)]) (l:=[(ap.1,ap.2.1,ap.2.2.1,ap.2.2.2.1,ap.2.2.2.2)]) acT ik (by kernel_rfl) rfl rfl (aP (vs:=[.int .i64 (ap.1),.int .i64 (ap.2.1),.int .i64 (ap.2.2.1),.int .i64 (ap.2.2.2.1),.int .i64 (ap.2.2.2.2)]) rfl rfl (acv rfl) rfl) aH rfl (by decide) (by decide) (by decide) hN ?_)
 clear hN
 intro g28 FG (hN:aI w none_ FG [_,_,_,_,_])
 refine RL.aK (ct acT ik rfl (by decide) dx aH hN 1 rfl rfl (hN.sm 0 rfl) rfl (by(try simp only[acw,acC,acF,acN]);omega) (by decide) ?_)
 clear hN
 intro Ub LV (hN:aI w none_ LV [_,_,_,_,_])
 refine RL.ag (v:=Ub) ai (RL.nil (aY (aw (RW.region (RL.ag (v:=vJ i) U (RL.ag (aD rfl rfl rfl (bh (by omega) (by omega))) (RL.ag (v:=.int .i64 ((i:Int)+1)) ai (RL.ak ?_))))))))
 exact⟨k-1,by omega,Ub,acc++[(ap.1,ap.2.1,ap.2.2.1,ap.2.2.2.1,ap.2.2.2.2)],i+1,rfl,rfl,rfl,rfl,rfl,rfl,rfl,rfl,(hN.sb [1,2,3,4]),by omega,by rw[dO bX,if_pos (decide_eq_true (by first|exact .inl (by assumption)|exact .inr (by assumption))),ha],by(try simp only[acw,acC]);omega⟩
 refine RW.skip (aY (aw (RW.region (RL.ag (v:=vJ i) U (RL.ag (aD rfl rfl rfl (bh (by omega) (by omega))) (RL.ag (v:=.int .i64 ((i:Int)+1)) ai (RL.ak ?_)))))))
 exact⟨k-1,by omega,va,acc,i+1,rfl,rfl,rfl,rfl,rfl,rfl,rfl,rfl,hN,by omega,by rw[dO bX,if_neg (fun h=>(of_decide_eq_true h).elim (fun h=>oo h) (fun h=>IH h)),adj];exact ha,by(try simp only[acw,acC]);omega⟩
 refine RW.exit ?_
 iterate 2 refine bS ?_
 refine ba (aw (RW.aN (RL.ag (v:=va) U (RL.ag (v:=.int .i64 (u)) U (RL.ag (v:=.int .i64 (v)) U (RL.ag (v:=.int .i64 (x)) U (RL.ag (v:=.int .i64 (mid)) U (RL.ag (bT (cs:=[.int .i64 (x),.int .i64 (mid),.int .i64 (-1)]) acH eV (places:=#[(0,1),(1,1),(2,1)]) (by intro w;kernel_rfl) (pl:=[(0,.tmp 92),(1,.tmp 93),(2,.const (.int .i64 (-1)))]) rfl (ps:=[(0,.int .i64 (x)),(1,.int .i64 (mid)),(2,.int .i64 (-1))]) rfl (zc:=[.int .i64 (0),.int .i64 (0),.int .i64 (0)]) rfl (aP (vs:=[.int .i64 (x)]) rfl rfl (acv rfl) (aP (vs:=[.int .i64 (mid)]) rfl rfl (acv rfl) (aP (vs:=[.int .i64 (-1)]) rfl rfl (acv rfl) rfl)))) ?_))))))))
 refine RL.ag (bT (cs:=[.int .i64 (u),.int .i64 (v),.int .i64 (x),.int .i64 (mid),.int .i64 (-1)]) ada sn (places:=#[(0,1),(1,1),(2,3)]) (by intro w;kernel_rfl) (pl:=[(0,.tmp 90),(1,.tmp 91),(2,.tmp 94)]) rfl (ps:=[(0,.int .i64 (u)),(1,.int .i64 (v)),(2,.agg #[.int .i64 (x),.int .i64 (mid),.int .i64 (-1)])]) rfl (zc:=[.int .i64 (0),.int .i64 (0),.int .i64 (0),.int .i64 (0),.int .i64 (0)]) rfl (aP (vs:=[.int .i64 (u)]) rfl rfl (acv rfl) (aP (vs:=[.int .i64 (v)]) rfl rfl (acv rfl) (aP (vs:=[.int .i64 (x),.int .i64 (mid),.int .i64 (-1)]) rfl rfl (acv rfl) rfl)))) ?_
 refine RL.aK (dB (cf:=aV) (s:=5) (pl:=[(0,.tmp 95)]) (ps:=[(0,.agg #[.int .i64 (u),.int .i64 (v),.int .i64 (x),.int .i64 (mid),.int .i64 (-1)])]) (zc:=[.int .i64 (0),.int .i64 (0),.int .i64 (0),.int .i64 (0),.int .i64 (0)]) (l:=[(u,v,x,mid,-1)]) acT ik (by kernel_rfl) rfl rfl (aP (vs:=[.int .i64 (u),.int .i64 (v),.int .i64 (x),.int .i64 (mid),.int .i64 (-1)]) rfl rfl (acv rfl) rfl) aH rfl (by decide) (by decide) (by decide) hN ?_)
 clear hN
 intro g30 Ny (hN:aI w none_ Ny [_,_,_,_,_])
 refine RL.aK (ct acT ik rfl (by decide) dx aH hN 1 rfl rfl (hN.sm 0 rfl) rfl (by(try simp only[acw,acC,acF,acN]);omega) (by decide) ?_)
 clear hN
 intro P5 Kd (hN:aI w none_ Kd [_,_,_,_,_])
 refine RL.ag (v:=P5) ai (RL.b6 (RL.ag (v:=P5) U (RL.ag (ah acD rfl fC) ?_)))
 refine RL.aK (ca fC rfl rfl (hN.sm 1 rfl).cN (hN.sm 1 rfl).bW hN 4 rfl (acv rfl) ?_)
 clear hN
 intro FE (hN:aI w none_ FE [_,_,_,_,_])
 refine RL.b6 (RL.ag (aE (cs:=[vJ n,iv,P5,ov]) acD cK (hN.aJ 4 rfl)) ?_)
 refine RL.aK (aR (vs:=[vJ n,iv,P5,ov]) cK rfl rfl rfl (by intro u hu;simp only[ac1,acV,or_false]at hu;rcases hu with rfl|rfl|rfl|rfl<;>first|rfl|exact(hN.sm 1 rfl).bW|exact(hi.1.o.now hN).bW|exact(ho.1.o.now hN).bW) hN 3 rfl rfl ?_)
 clear hN
 intro JK (hN:aI w none_ JK [_,_,_,_,_])
 refine RL.ag (v:=.bool true) ai (RL.ak (RW.ret (bb (RV.eB rfl rfl (dJ (hN.aJ 3 rfl) acD rfl cK)) ?_)))
 have iy:i=ls.length:=by omega
 rw[iy,adn]at ha
 have Cq:¬ox n ins ls u v x mid:=by rintro(h|h|h|h|h|⟨h,h2⟩)<;>first|contradiction|omega
 have fO:acc++[(u,v,x,mid,-1)]=jL n ins ls u v x mid:=by rw[jL,if_neg Cq,ha];rfl
 exact⟨_,_,rfl,fR.Kn (fO▸hN.fT 1 rfl) hF,hN.bc⟩
end Go.Proofs.YtngkdkbpgoddlaaGreat
namespace Go.Proofs.YtngkdkbpgoddlaaGreat
open Go.RowKit Go.Rl
open Go.Gr
theorem zn {w:World} (F:Nat→Prop) (hF:∀k,F k→k<w.heap.size) (n:Nat) (iv lv ov:Value) (ins:List Int) (ls:List I5) (lost:List Int) (v:Int) (hi:nO F vI w iv ins) (hl:mG F aV w lv ls) (ho:nO F vI w ov lost) (u5:fZ n ins v) (uh:ins.length=n) (mR:lost.length=n) (hlen:ls.length≤67108864) (hn:n≤4096):aM acx 139 #[.agg #[.int .i64 (n:Int),iv,lv,ov],.int .i64 v] w fun r w'=>∃W8 Q7 W3 L9 b,r=.tuple #[.agg #[.int .i64 (n:Int),W8,Q7,W3],.bool b]∧nO F vI w' W8 (ins.set v.toNat 0)∧mG F aV w' Q7 (wz ls v)∧nO F vI w' W3 L9∧L9.length=n∧Ext w w':=by
 refine aM.aZ akl ?_
 rw[cT]
 have hN:=aI.nil w none_
 have u1:=u5.1
 have vO:=u5.2.1
 refine RW.aN ?_
 refine RL.aK (bL (cs:=[vJ n,iv,lv,ov]) rfl rfl hN ?_)
 clear hN
 intro g1 w1 (hN:aI w none_ w1 [_])
 refine RL.aK (bz (cs:=[.int .i64 (0),vN,vN,vN]) jc rfl hN ?_)
 clear hN
 intro g2 w2 (hN:aI w none_ w2 [_,_])
 refine RL.ag (v:=.bool false) ai (RL.ak ?_)
 iterate 2 refine RW.seq ?_
 refine RW.region (RL.ag (aE (cs:=[vJ n,iv,lv,ov]) acD cK (hN.aJ 1 rfl)) (RL.ag (v:=.int .i64 (v)) U ?_))
 refine RL.aK (bu afz rfl rfl rfl rfl ((K0 n _ _ _ ins ls lost _ (hi.1.o.now hN) (hl.1.o.now hN) (ho.1.o.now hN) v ⟨u5,uh⟩).mono ?_))
 rintro _ w3 ⟨rfl,bn⟩
 replace hN:=hN.ext bn
 clear bn
 refine RL.ag (jY rfl) (RL.ak (RW.cg (RW.skip (aw (RW.aN (RL.ag (ah acD rfl bK) (RL.ag (aj acs (hN.aJ 1 rfl)) ?_)))))))
 refine RL.ag (bT (cs:=[vJ n,vN,vN,vN]) acD jc (places:=#[(0,1),(1,1),(2,1),(3,1)]) (by intro w;kernel_rfl) (pl:=[(0,.tmp 21)]) rfl (ps:=[(0,vJ n)]) rfl (zc:=[.int .i64 (0),vN,vN,vN]) rfl (aP (vs:=[vJ n]) rfl rfl (acv rfl) rfl)) ?_
 refine RL.aK (bz (cs:=[.int .i64 (0),vN,vN,vN]) jc rfl hN ?_)
 clear hN
 intro g4 w4 (hN:aI w none_ w4 [_,_,_])
 refine RL.aK (aR (vs:=[vJ n,vN,vN,vN]) cK rfl rfl rfl (aW (aW (aW (aW cZ)))) hN 0 rfl rfl ?_)
 clear hN
 intro w5 (hN:aI w none_ w5 [_,_,_])
 refine RL.ak ?_
 iterate 2 refine RW.seq ?_
 replace hN:=hN.eK aV 5 248
 replace hN:=hN.dD vI 3
 replace hN:=hN.dD vI 3
 replace hN:aI w none_ w5 [.own vI 3 (vN) ([]),.own vI 3 (vN) ([]),.cp aV 5 248 (vN) ([]),.aJ g4 [vJ n,vN,vN,vN] 194,.aJ g2 [.int .i64 (0),vN,vN,vN] 194,.aJ g1 [vJ n,iv,lv,ov] 194]:=hN
 refine RW.region (RL.ag (v:=.int .i64 (0)) ai (RL.ak (RW.block ?_)))
 refine RW.loop (fun k R0 cz=>∃v1:Value,∃a1:List Int,∃v2:Value,∃a2:List Int,∃i:Nat,R0 1=.int .i64 (v)∧R0 2=vP g1∧R0 4=vP g2∧R0 6=vP g4∧R0 7=vJ i∧aI w none_ cz [.own vI 3 (v1) (a1),.own vI 3 (v2) (a2),.cp aV 5 248 (vN) ([]),.aJ g4 [vJ n,v1,vN,v2] 194,.aJ g2 [.int .i64 (0),vN,vN,vN] 194,.aJ g1 [vJ n,iv,lv,ov] 194]∧(i+k=n)∧(a1=(ins.set v.toNat 0).take i)∧(a1.length=i)∧(a2.length=i)) (n) ?_ ?_
 exact⟨vN,[],vN,[],0,rfl,rfl,rfl,rfl,rfl,hN,by omega,rfl,rfl,rfl⟩
 clear hN
 rintro k R0 cz ⟨v1,a1,v2,a2,i,bP,bV,cA,cW,cF,hN,gk,h1,CE,AF⟩
 have cB:=iw bP bV cA cW cF
 obtain⟨gF,rfl⟩:=cB
 clear bP bV cA cW cF
 iterate 2 refine RW.seq ?_
 refine RW.region (RL.ag (v:=vJ i) U (RL.ag (ah acD rfl bK) (RL.ag (aj acs (hN.aJ 5 rfl)) (RL.ag (aL) (RL.ak ?_)))))
 refine RW.aG _ (fun cD=>?_) (fun cD=>?_)
 refine RW.skip (aw (RW.seq (RW.block (RW.aN (RL.ag (ah acD rfl cj) (RL.ag (aj acu (hN.aJ 5 rfl)) (RL.ag (v:=vJ i) U (RL.ag (aC acu bK (hi.1.o.now hN)) ?_))))))))
 have aO:=da (ins) i
 obtain⟨ap,bX⟩:=aO
 refine RL.ag (aF (m:=i) (a:=ap) acs (hi.1.o.now hN) bX) (RL.ag (v:=.int .i64 (ap)) ai (RL.b6 (RL.ag (ah acD rfl cj) (RL.ag (aj acu (hN.aJ 5 rfl)) (RL.ag (v:=vJ i) U (RL.ag (aC acu bK (ho.1.o.now hN)) ?_))))))
 have aO:=da (lost) i
 obtain⟨ao,hao⟩:=aO
 refine RL.ag (aF (m:=i) (a:=ao) acs (ho.1.o.now hN) hao) (RL.ag (v:=.int .i64 (ao)) ai (RL.b6 (RL.ag (aE (cs:=[vJ n,iv,lv,ov]) acD cK (hN.aJ 5 rfl)) (RL.ag (v:=.int .i64 (v)) U (RL.ag (v:=vJ i) U ?_)))))
 refine RL.aK (cq ad1 rfl rfl rfl rfl rfl ((gG n _ _ _ ins ls lost _ (hi.1.o.now hN) (hl.1.o.now hN) (ho.1.o.now hN) v (i:Int)).mono ?_))
 rintro _ w6 ⟨rfl,bn⟩
 replace hN:=hN.ext bn
 clear bn
 refine RL.ag (v:=.tuple #[.agg #[.int .i64 (((bC ls v (i:Int)).getD (0,0,0)).1),.int .i64 (((bC ls v (i:Int)).getD (0,0,0)).2.1),.int .i64 (((bC ls v (i:Int)).getD (0,0,0)).2.2)],.bool (decide (cQ ls v (i:Int)))]) U ?_
 iterate 2 refine RL.ag (bA) ?_
 refine RL.aK (bz (cs:=[.int .i64 (0),.int .i64 (0),.int .i64 (0)]) eV rfl hN ?_)
 clear hN
 intro g7 w7 (hN:aI w none_ w7 [_,_,_,_,_,_,_])
 refine RL.aK (aR (vs:=[.int .i64 (((bC ls v (i:Int)).getD (0,0,0)).1),.int .i64 (((bC ls v (i:Int)).getD (0,0,0)).2.1),.int .i64 (((bC ls v (i:Int)).getD (0,0,0)).2.2)]) cU rfl rfl rfl (aW (aW (aW cZ))) hN 0 rfl rfl ?_)
 clear hN
 intro w8 (hN:aI w none_ w8 [_,_,_,_,_,_,_])
 refine RL.ag (v:=.bool (decide (cQ ls v (i:Int)))) ai (RL.b6 (RL.ag (aE (cs:=[vJ n,iv,lv,ov]) acD cK (hN.aJ 6 rfl)) (RL.ag (v:=vJ i) U (RL.ag (v:=.int .i64 (v)) U ?_))))
 refine RL.aK (cq ad1 rfl rfl rfl rfl rfl ((gG n _ _ _ ins ls lost _ (hi.1.o.now hN) (hl.1.o.now hN) (ho.1.o.now hN) (i:Int) v).mono ?_))
 rintro _ w9 ⟨rfl,bn⟩
 replace hN:=hN.ext bn
 clear bn
 refine RL.ag (v:=.tuple #[.agg #[.int .i64 (((bC ls (i:Int) v).getD (0,0,0)).1),.int .i64 (((bC ls (i:Int) v).getD (0,0,0)).2.1),.int .i64 (((bC ls (i:Int) v).getD (0,0,0)).2.2)],.bool (decide (cQ ls (i:Int) v))]) U ?_
 iterate 2 refine RL.ag (bA) ?_
 refine RL.aK (bz (cs:=[.int .i64 (0),.int .i64 (0),.int .i64 (0)]) eV rfl hN ?_)
 clear hN
 intro CH lW (hN:aI w none_ lW [_,_,_,_,_,_,_,_])
 refine RL.aK (aR (vs:=[.int .i64 (((bC ls (i:Int) v).getD (0,0,0)).1),.int .i64 (((bC ls (i:Int) v).getD (0,0,0)).2.1),.int .i64 (((bC ls (i:Int) v).getD (0,0,0)).2.2)]) cU rfl rfl rfl (aW (aW (aW cZ))) hN 0 rfl rfl ?_)
 clear hN
 intro lR (hN:aI w none_ lR [_,_,_,_,_,_,_,_])
 refine RL.ag (v:=.bool (decide (cQ ls (i:Int) v))) ai (RL.ak ?_)
 iterate 2 refine RW.seq ?_
 refine RW.region (RL.ag (v:=vJ i) U (RL.ag (v:=.int .i64 (v)) U (RL.ag (bZ) (RL.ak ?_))))
 refine RW.aG _ (fun heq=>?_) (fun heq=>?_)
 refine RW.region (RL.ag (v:=.int .i64 (0)) ai (RL.ak ?_))
 iterate 2 refine RW.seq ?_
 refine RW.region ?_
 iterate 2 refine RL.ag (v:=.bool (decide (cQ ls v (i:Int)))) U ?_
 by_cases uz:cQ ls v (i:Int)
 rw[decide_eq_true uz]
 refine RL.bH (RL.ag (v:=.bool true) (al) (RL.ak (RW.bF (RW.region (RL.ag (v:=.int .i64 (ao)) U (RL.ag (aD rfl rfl rfl rfl) (RL.ag (v:=.int .i64 (adC.wrap (ao+1))) ai (RL.nil ?_))))))))
 refine aw (RW.aN (RL.ag (ah acD rfl cj) (RL.ag (aj acu (hN.aJ 5 rfl)) (RL.ag (v:=.int .i64 (0)) U ?_))))
 refine RL.aK (cw (enc:=vI) (l:=[0]) (xs:=[.tmp 64]) acu bK mU rfl rfl (fun _=>rfl) rfl (by decide) (by decide) hN ?_)
 clear hN
 intro Wq ll (hN:aI w none_ ll [_,_,_,_,_,_,_,_,_])
 refine RL.aK (b9 acu gz rfl (fun _=>rfl) hN 3 rfl rfl (hN.sl 0 rfl) rfl (by rw[CE];simp only[acC,acF,acN];omega) (by decide) ?_)
 clear hN
 intro wx nR (hN:aI w none_ nR [_,_,_,_,_,_,_,_,_])
 refine RL.ag (ah acD rfl cj) ?_
 refine RL.aK (ca cj rfl rfl (hN.sl 3 rfl).cN (hN.sl 3 rfl).bW hN 6 rfl (acv rfl) ?_)
 clear hN
 intro o7 (hN:aI w none_ o7 [_,_,_,_,_,_,_,_,_])
 refine RL.ak (RW.region (RL.ag (ah acD rfl cj) (RL.ag (aj acu (hN.aJ 6 rfl)) (RL.ag (v:=.int .i64 (adC.wrap (ao+1))) U ?_))))
 refine RL.aK (cw (enc:=vI) (l:=[adC.wrap (ao+1)]) (xs:=[.tmp 70]) acu bK mU rfl rfl (fun _=>rfl) rfl (by decide) (by decide) hN ?_)
 clear hN
 intro Wp qf (hN:aI w none_ qf [_,_,_,_,_,_,_,_,_,_])
 refine RL.aK (b9 acu gz rfl (fun _=>rfl) hN 5 rfl rfl (hN.sl 0 rfl) rfl (by rw[AF];simp only[acC,acF,acN];omega) (by decide) ?_)
 clear hN
 intro qh qe (hN:aI w none_ qe [_,_,_,_,_,_,_,_,_,_])
 refine RL.ag (ah acD rfl cj) ?_
 refine RL.aK (ca cj rfl rfl (hN.sl 5 rfl).cN (hN.sl 5 rfl).bW hN 7 rfl (acv rfl) ?_)
 clear hN
 intro sQ (hN:aI w none_ sQ [_,_,_,_,_,_,_,_,_,_])
 refine RL.nil (aY (aw (RW.region (RL.ag (v:=vJ i) U (RL.ag (aD rfl rfl rfl (bh (by omega) (by omega))) (RL.ag (v:=.int .i64 ((i:Int)+1)) ai (RL.ak ?_)))))))
 exact⟨k-1,by omega,wx,a1++[0],qh,a2++[adC.wrap (ao+1)],i+1,rfl,rfl,rfl,rfl,rfl,(hN.sb [4,5,6,7,8,9]),by omega,by rw[dM (show(ins.set v.toNat 0)[i]?=some 0 from by rw[adi,if_pos (by omega),if_pos (by omega)]),h1],by rw[acw,CE];rfl,by rw[acw,AF];rfl⟩
 rw[decide_eq_false uz]
 refine RL.an (v:=.bool (decide (cQ ls (i:Int) v))) U (RL.ag (v:=.bool (decide (cQ ls (i:Int) v))) (aB) (RL.ak ?_))
 refine RW.aG _ (fun O0=>?_) (fun O0=>?_)
 refine RW.region (RL.ag (v:=.int .i64 (ao)) U (RL.ag (aD rfl rfl rfl rfl) (RL.ag (v:=.int .i64 (adC.wrap (ao+1))) ai (RL.b6 (RL.ag (ah acD rfl cj) (RL.ag (aj acu (hN.aJ 5 rfl)) ?_))))))
 refine RL.ag (v:=.int .i64 (0)) U ?_
 refine RL.aK (cw (enc:=vI) (l:=[0]) (xs:=[.tmp 64]) acu bK mU rfl rfl (fun _=>rfl) rfl (by decide) (by decide) hN ?_)
 clear hN
 intro g18 u0 (hN:aI w none_ u0 [_,_,_,_,_,_,_,_,_])
 refine RL.aK (b9 acu gz rfl (fun _=>rfl) hN 3 rfl rfl (hN.sl 0 rfl) rfl (by rw[CE];simp only[acC,acF,acN];omega) (by decide) ?_)
 clear hN
 intro JM Bk (hN:aI w none_ Bk [_,_,_,_,_,_,_,_,_])
 refine RL.ag (ah acD rfl cj) ?_
 refine RL.aK (ca cj rfl rfl (hN.sl 3 rfl).cN (hN.sl 3 rfl).bW hN 6 rfl (acv rfl) ?_)
 clear hN
 intro DY (hN:aI w none_ DY [_,_,_,_,_,_,_,_,_])
 refine RL.ak (RW.region (RL.ag (ah acD rfl cj) (RL.ag (aj acu (hN.aJ 6 rfl)) (RL.ag (v:=.int .i64 (adC.wrap (ao+1))) U ?_))))
 refine RL.aK (cw (enc:=vI) (l:=[adC.wrap (ao+1)]) (xs:=[.tmp 70]) acu bK mU rfl rfl (fun _=>rfl) rfl (by decide) (by decide) hN ?_)
 clear hN
 intro Wo C4 (hN:aI w none_ C4 [_,_,_,_,_,_,_,_,_,_])
 refine RL.aK (b9 acu gz rfl (fun _=>rfl) hN 5 rfl rfl (hN.sl 0 rfl) rfl (by rw[AF];simp only[acC,acF,acN];omega) (by decide) ?_)
 clear hN
 intro YT y1 (hN:aI w none_ y1 [_,_,_,_,_,_,_,_,_,_])
 refine RL.ag (ah acD rfl cj) ?_
 refine RL.aK (ca cj rfl rfl (hN.sl 5 rfl).cN (hN.sl 5 rfl).bW hN 7 rfl (acv rfl) ?_)
 clear hN
 intro zk (hN:aI w none_ zk [_,_,_,_,_,_,_,_,_,_])
 refine RL.nil (aY (aw (RW.region (RL.ag (v:=vJ i) U (RL.ag (aD rfl rfl rfl (bh (by omega) (by omega))) (RL.ag (v:=.int .i64 ((i:Int)+1)) ai (RL.ak ?_)))))))
 exact⟨k-1,by omega,JM,a1++[0],YT,a2++[adC.wrap (ao+1)],i+1,rfl,rfl,rfl,rfl,rfl,(hN.sb [4,5,6,7,8,9]),by omega,by rw[dM (show(ins.set v.toNat 0)[i]?=some 0 from by rw[adi,if_pos (by omega),if_pos (by omega)]),h1],by rw[acw,CE];rfl,by rw[acw,AF];rfl⟩
 refine RW.skip (aw (RW.aN (RL.ag (ah acD rfl cj) (RL.ag (aj acu (hN.aJ 5 rfl)) (RL.ag (v:=.int .i64 (0)) U ?_)))))
 refine RL.aK (cw (enc:=vI) (l:=[0]) (xs:=[.tmp 64]) acu bK mU rfl rfl (fun _=>rfl) rfl (by decide) (by decide) hN ?_)
 clear hN
 intro Yx C3 (hN:aI w none_ C3 [_,_,_,_,_,_,_,_,_])
 refine RL.aK (b9 acu gz rfl (fun _=>rfl) hN 3 rfl rfl (hN.sl 0 rfl) rfl (by rw[CE];simp only[acC,acF,acN];omega) (by decide) ?_)
 clear hN
 intro YR LW (hN:aI w none_ LW [_,_,_,_,_,_,_,_,_])
 refine RL.ag (ah acD rfl cj) ?_
 refine RL.aK (ca cj rfl rfl (hN.sl 3 rfl).cN (hN.sl 3 rfl).bW hN 6 rfl (acv rfl) ?_)
 clear hN
 intro DX (hN:aI w none_ DX [_,_,_,_,_,_,_,_,_])
 refine RL.ak (RW.region (RL.ag (ah acD rfl cj) (RL.ag (aj acu (hN.aJ 6 rfl)) (RL.ag (v:=.int .i64 (ao)) U ?_))))
 refine RL.aK (cw (enc:=vI) (l:=[ao]) (xs:=[.tmp 70]) acu bK mU rfl rfl (fun _=>rfl) rfl (by decide) (by decide) hN ?_)
 clear hN
 intro g27 Gb (hN:aI w none_ Gb [_,_,_,_,_,_,_,_,_,_])
 refine RL.aK (b9 acu gz rfl (fun _=>rfl) hN 5 rfl rfl (hN.sl 0 rfl) rfl (by rw[AF];simp only[acC,acF,acN];omega) (by decide) ?_)
 clear hN
 intro y5 FG (hN:aI w none_ FG [_,_,_,_,_,_,_,_,_,_])
 refine RL.ag (ah acD rfl cj) ?_
 refine RL.aK (ca cj rfl rfl (hN.sl 5 rfl).cN (hN.sl 5 rfl).bW hN 7 rfl (acv rfl) ?_)
 clear hN
 intro LV (hN:aI w none_ LV [_,_,_,_,_,_,_,_,_,_])
 refine RL.nil (aY (aw (RW.region (RL.ag (v:=vJ i) U (RL.ag (aD rfl rfl rfl (bh (by omega) (by omega))) (RL.ag (v:=.int .i64 ((i:Int)+1)) ai (RL.ak ?_)))))))
 exact⟨k-1,by omega,YR,a1++[0],y5,a2++[ao],i+1,rfl,rfl,rfl,rfl,rfl,(hN.sb [4,5,6,7,8,9]),by omega,by rw[dM (show(ins.set v.toNat 0)[i]?=some 0 from by rw[adi,if_pos (by omega),if_pos (by omega)]),h1],by rw[acw,CE];rfl,by rw[acw,AF];rfl⟩
 refine RW.skip (aw ?_)
 iterate 2 refine RW.seq ?_
 refine RW.region ?_
 iterate 2 refine RL.ag (v:=.bool (decide (cQ ls v (i:Int)))) U ?_
 by_cases uz:cQ ls v (i:Int)
 rw[decide_eq_true uz]
 refine RL.bH (RL.ag (v:=.bool true) (al) (RL.ak (RW.bF (RW.region (RL.ag (v:=.int .i64 (ao)) U (RL.ag (aD rfl rfl rfl rfl) (RL.ag (v:=.int .i64 (adC.wrap (ao+1))) ai (RL.nil ?_))))))))
 refine aw (RW.aN (RL.ag (ah acD rfl cj) (RL.ag (aj acu (hN.aJ 5 rfl)) (RL.ag (v:=.int .i64 (ap)) U ?_))))
 refine RL.aK (cw (enc:=vI) (l:=[ap]) (xs:=[.tmp 64]) acu bK mU rfl rfl (fun _=>rfl) rfl (by decide) (by decide) hN ?_)
 clear hN
 intro g30 Ny (hN:aI w none_ Ny [_,_,_,_,_,_,_,_,_])
 refine RL.aK (b9 acu gz rfl (fun _=>rfl) hN 3 rfl rfl (hN.sl 0 rfl) rfl (by rw[CE];simp only[acC,acF,acN];omega) (by decide) ?_)
 clear hN
 intro P5 Kd (hN:aI w none_ Kd [_,_,_,_,_,_,_,_,_])
 refine RL.ag (ah acD rfl cj) ?_
 refine RL.aK (ca cj rfl rfl (hN.sl 3 rfl).cN (hN.sl 3 rfl).bW hN 6 rfl (acv rfl) ?_)
 clear hN
 intro FE (hN:aI w none_ FE [_,_,_,_,_,_,_,_,_])
 refine RL.ak (RW.region (RL.ag (ah acD rfl cj) (RL.ag (aj acu (hN.aJ 6 rfl)) (RL.ag (v:=.int .i64 (adC.wrap (ao+1))) U ?_))))
 refine RL.aK (cw (enc:=vI) (l:=[adC.wrap (ao+1)]) (xs:=[.tmp 70]) acu bK mU rfl rfl (fun _=>rfl) rfl (by decide) (by decide) hN ?_)
 clear hN
 intro M3 JK (hN:aI w none_ JK [_,_,_,_,_,_,_,_,_,_])
 refine RL.aK (b9 acu gz rfl (fun _=>rfl) hN 5 rfl rfl (hN.sl 0 rfl) rfl (by rw[AF];simp only[acC,acF,acN];omega) (by decide) ?_)
 clear hN
 intro WO LU (hN:aI w none_ LU [_,_,_,_,_,_,_,_,_,_])
 refine RL.ag (ah acD rfl cj) ?_
 refine RL.aK (ca cj rfl rfl (hN.sl 5 rfl).cN (hN.sl 5 rfl).bW hN 7 rfl (acv rfl) ?_)
 clear hN
 intro Kc (hN:aI w none_ Kc [_,_,_,_,_,_,_,_,_,_])
 refine RL.nil (aY (aw (RW.region (RL.ag (v:=vJ i) U (RL.ag (aD rfl rfl rfl (bh (by omega) (by omega))) (RL.ag (v:=.int .i64 ((i:Int)+1)) ai (RL.ak ?_)))))))
 exact⟨k-1,by omega,P5,a1++[ap],WO,a2++[adC.wrap (ao+1)],i+1,rfl,rfl,rfl,rfl,rfl,(hN.sb [4,5,6,7,8,9]),by omega,by rw[dM (show(ins.set v.toNat 0)[i]?=some ap from by rw[adi,if_neg (by omega)];exact bX),h1],by rw[acw,CE];rfl,by rw[acw,AF];rfl⟩
 rw[decide_eq_false uz]
 refine RL.an (v:=.bool (decide (cQ ls (i:Int) v))) U (RL.ag (v:=.bool (decide (cQ ls (i:Int) v))) (aB) (RL.ak ?_))
 refine RW.aG _ (fun O0=>?_) (fun O0=>?_)
 refine RW.region (RL.ag (v:=.int .i64 (ao)) U (RL.ag (aD rfl rfl rfl rfl) (RL.ag (v:=.int .i64 (adC.wrap (ao+1))) ai (RL.b6 (RL.ag (ah acD rfl cj) (RL.ag (aj acu (hN.aJ 5 rfl)) ?_))))))
 refine RL.ag (v:=.int .i64 (ap)) U ?_
 refine RL.aK (cw (enc:=vI) (l:=[ap]) (xs:=[.tmp 64]) acu bK mU rfl rfl (fun _=>rfl) rfl (by decide) (by decide) hN ?_)
 clear hN
 intro g36 Nx (hN:aI w none_ Nx [_,_,_,_,_,_,_,_,_])
 refine RL.aK (b9 acu gz rfl (fun _=>rfl) hN 3 rfl rfl (hN.sl 0 rfl) rfl (by rw[CE];simp only[acC,acF,acN];omega) (by decide) ?_)
 clear hN
 intro YQ LS (hN:aI w none_ LS [_,_,_,_,_,_,_,_,_])
 refine RL.ag (ah acD rfl cj) ?_
 refine RL.aK (ca cj rfl rfl (hN.sl 3 rfl).cN (hN.sl 3 rfl).bW hN 6 rfl (acv rfl) ?_)
 clear hN
 intro LR (hN:aI w none_ LR [_,_,_,_,_,_,_,_,_])
 refine RL.ak (RW.region (RL.ag (ah acD rfl cj) (RL.ag (aj acu (hN.aJ 6 rfl)) (RL.ag (v:=.int .i64 (adC.wrap (ao+1))) U ?_))))
 refine RL.aK (cw (enc:=vI) (l:=[adC.wrap (ao+1)]) (xs:=[.tmp 70]) acu bK mU rfl rfl (fun _=>rfl) rfl (by decide) (by decide) hN ?_)
 clear hN
 intro g39 JJ (hN:aI w none_ JJ [_,_,_,_,_,_,_,_,_,_])
 refine RL.aK (b9 acu gz rfl (fun _=>rfl) hN 5 rfl rfl (hN.sl 0 rfl) rfl (by rw[AF];simp only[acC,acF,acN];omega) (by decide) ?_)
 clear hN
 intro T9 QI (hN:aI w none_ QI [_,_,_,_,_,_,_,_,_,_])
 refine RL.ag (ah acD rfl cj) ?_
 refine RL.aK (ca cj rfl rfl (hN.sl 5 rfl).cN (hN.sl 5 rfl).bW hN 7 rfl (acv rfl) ?_)
 clear hN
 intro P0 (hN:aI w none_ P0 [_,_,_,_,_,_,_,_,_,_])
 refine RL.nil (aY (aw (RW.region (RL.ag (v:=vJ i) U (RL.ag (aD rfl rfl rfl (bh (by omega) (by omega))) (RL.ag (v:=.int .i64 ((i:Int)+1)) ai (RL.ak ?_)))))))
 exact⟨k-1,by omega,YQ,a1++[ap],T9,a2++[adC.wrap (ao+1)],i+1,rfl,rfl,rfl,rfl,rfl,(hN.sb [4,5,6,7,8,9]),by omega,by rw[dM (show(ins.set v.toNat 0)[i]?=some ap from by rw[adi,if_neg (by omega)];exact bX),h1],by rw[acw,CE];rfl,by rw[acw,AF];rfl⟩
 refine RW.skip (aw (RW.aN (RL.ag (ah acD rfl cj) (RL.ag (aj acu (hN.aJ 5 rfl)) (RL.ag (v:=.int .i64 (ap)) U ?_)))))
 refine RL.aK (cw (enc:=vI) (l:=[ap]) (xs:=[.tmp 64]) acu bK mU rfl rfl (fun _=>rfl) rfl (by decide) (by decide) hN ?_)
 clear hN
 intro Yv Nw (hN:aI w none_ Nw [_,_,_,_,_,_,_,_,_])
 refine RL.aK (b9 acu gz rfl (fun _=>rfl) hN 3 rfl rfl (hN.sl 0 rfl) rfl (by rw[CE];simp only[acC,acF,acN];omega) (by decide) ?_)
 clear hN
 intro YO Nv (hN:aI w none_ Nv [_,_,_,_,_,_,_,_,_])
 refine RL.ag (ah acD rfl cj) ?_
 refine RL.aK (ca cj rfl rfl (hN.sl 3 rfl).cN (hN.sl 3 rfl).bW hN 6 rfl (acv rfl) ?_)
 clear hN
 intro Nu (hN:aI w none_ Nu [_,_,_,_,_,_,_,_,_])
 refine RL.ak (RW.region (RL.ag (ah acD rfl cj) (RL.ag (aj acu (hN.aJ 6 rfl)) (RL.ag (v:=.int .i64 (ao)) U ?_))))
 refine RL.aK (cw (enc:=vI) (l:=[ao]) (xs:=[.tmp 70]) acu bK mU rfl rfl (fun _=>rfl) rfl (by decide) (by decide) hN ?_)
 clear hN
 intro g45 YJ (hN:aI w none_ YJ [_,_,_,_,_,_,_,_,_,_])
 refine RL.aK (b9 acu gz rfl (fun _=>rfl) hN 5 rfl rfl (hN.sl 0 rfl) rfl (by rw[AF];simp only[acC,acF,acN];omega) (by decide) ?_)
 clear hN
 intro YN WN (hN:aI w none_ WN [_,_,_,_,_,_,_,_,_,_])
 refine RL.ag (ah acD rfl cj) ?_
 refine RL.aK (ca cj rfl rfl (hN.sl 5 rfl).cN (hN.sl 5 rfl).bW hN 7 rfl (acv rfl) ?_)
 clear hN
 intro Nt (hN:aI w none_ Nt [_,_,_,_,_,_,_,_,_,_])
 refine RL.nil (aY (aw (RW.region (RL.ag (v:=vJ i) U (RL.ag (aD rfl rfl rfl (bh (by omega) (by omega))) (RL.ag (v:=.int .i64 ((i:Int)+1)) ai (RL.ak ?_)))))))
 exact⟨k-1,by omega,YO,a1++[ap],YN,a2++[ao],i+1,rfl,rfl,rfl,rfl,rfl,(hN.sb [4,5,6,7,8,9]),by omega,by rw[dM (show(ins.set v.toNat 0)[i]?=some ap from by rw[adi,if_neg (by omega)];exact bX),h1],by rw[acw,CE];rfl,by rw[acw,AF];rfl⟩
 refine RW.exit ?_
 iterate 2 refine bS ?_
 refine ba (aw ?_)
 iterate 2 refine RW.seq ?_
 refine RW.region (RL.ag (v:=.int .i64 (0)) ai (RL.ak (RW.block ?_)))
 refine RW.loop (fun k2 R1 eW=>∃v3:Value,∃a3:List I5,∃q:Nat,R1 1=.int .i64 (v)∧R1 2=vP g1∧R1 4=vP g2∧R1 6=vP g4∧R1 14=vJ q∧aI w none_ eW [.own vI 3 (v1) (a1),.own vI 3 (v2) (a2),.cp aV 5 248 (v3) (a3),.aJ g4 [vJ n,v1,v3,v2] 194,.aJ g2 [.int .i64 (0),vN,vN,vN] 194,.aJ g1 [vJ n,iv,lv,ov] 194]∧(q+k2=ls.length)∧(a3=(ls.take q).filter (fun y=>decide (¬y.1=v∧¬y.2.1=v)))∧(a3.length≤q)) (ls.length) ?_ ?_
 exact⟨vN,[],0,rfl,rfl,rfl,rfl,rfl,hN,by omega,rfl,ac3 _⟩
 clear hN
 rintro k2 R1 eW ⟨v3,a3,q,bP,bV,cA,cW,gR,hN,yq,h3,Yq⟩
 have cB:=iw bP bV cA cW gR
 obtain⟨sk,rfl⟩:=cB
 clear bP bV cA cW gR
 iterate 2 refine RW.seq ?_
 refine RW.region (RL.ag (v:=vJ q) U (RL.ag (ah acD rfl fC) (RL.ag (aj acT (hN.aJ 5 rfl)) ?_)))
 have X5:=(hl.1.o.now hN).bw
 refine RL.ag (bO acT (hl.1.o.now hN)) (RL.ag (aL) (RL.ak ?_))
 refine RW.aG _ (fun eD=>?_) (fun eD=>?_)
 refine RW.skip (aw (RW.seq (RW.block (RW.aN (RL.ag (ah acD rfl fC) (RL.ag (aj acT (hN.aJ 5 rfl)) (RL.ag (v:=vJ q) U (RL.ag (aU acT hO aH (hl.1.o.now hN)) ?_))))))))
 have aO:=da (ls) q
 obtain⟨aq,iB⟩:=aO
 refine RL.ag (bl (m:=q) (b:=0) ada rfl bK aH (hl.1.o.now hN) iB) (RL.ag (bB (m:=q) (j:=0) (a:=aq) acs aH (hl.1.o.now hN) iB) (RL.ag (v:=.int .i64 (v)) U (RL.ag (bj) (RL.ag (v:=.bool (decide (¬aq.1=v))) U ?_))))
 by_cases ux:¬aq.1=v
 rw[decide_eq_true ux]
 refine RL.an (ah acD rfl fC) (RL.an (aj acT (hN.aJ 5 rfl)) (RL.an (v:=vJ q) U (RL.an (aU acT hO aH (hl.1.o.now hN)) (RL.an (bl (m:=q) (b:=0) ada rfl bK aH (hl.1.o.now hN) iB) (RL.an (bB (m:=q) (j:=1) (a:=aq) acs aH (hl.1.o.now hN) iB) (RL.an (v:=.int .i64 (v)) U (RL.an (bj) (RL.ag (v:=.bool (decide (¬aq.2.1=v))) (al) (RL.nil ?_)))))))))
 refine aw ?_
 refine RW.aG _ (fun Lg=>?_) (fun Lg=>?_)
 replace hN:=hN.ext (Ext.drew eW)
 refine RW.bD (fun u=>aI w none_ u [.own vI 3 (v1) (a1),.own vI 3 (v2) (a2),.aJ g4 [vJ n,v1,v3,v2] 194,.aJ g2 [.int .i64 (0),vN,vN,vN] 194,.aJ g1 [vJ n,iv,lv,ov] 194]) 10 [(0,0),(1,0),(2,0),(3,0),(4,0),(5,0),(6,0),(7,1),(8,1),(9,0),(10,2)] (by intro _ _ _ h;exact h) (hN.sb [0,1,3,4,5]) (RQ.aA rfl (fun w hS=>(ah acD rfl fC)) (RQ.aA rfl (fun w hS=>(aj acT (hS.aJ 2 rfl))) (RQ.aA rfl (fun w hS=>(ah acD rfl fC)) (RQ.aA rfl (fun w hS=>(aj acT (hS.aJ 4 rfl))) (RQ.aA (v:=vJ q) rfl (fun w hS=>U) (RQ.aA rfl (fun w hS=>(aU acT hO aH (hl.1.o.now hS))) (RQ.aA rfl (fun w hS=>(b8 (m:=q) (a:=aq) ada hO aH (hl.1.o.now hS) iB (cs:=[.int .i64 (aq.1),.int .i64 (aq.2.1),.int .i64 (aq.2.2.1),.int .i64 (aq.2.2.2.1),.int .i64 (aq.2.2.2.2)]))) ?_)))))))
 refine RQ.b0 rfl (dB (cf:=aV) (s:=5) (pl:=[(0,.tmp 105)]) (ps:=[(0,.agg #[.int .i64 (aq.1),.int .i64 (aq.2.1),.int .i64 (aq.2.2.1),.int .i64 (aq.2.2.2.1),.int .i64 (aq.2.2.2.2)])]) (zc:=[.int .i64 (0),.int .i64 (0),.int .i64 (0),.int .i64 (0),.int .i64 (0)]) (l:=[(aq.1,aq.2.1,aq.2.2.1,aq.2.2.2.1,aq.2.2.2.2)]) acT ik (by kernel_rfl) rfl rfl (aP (vs:=[.int .i64 (aq.1),.int .i64 (aq.2.1),.int .i64 (aq.2.2.1),.int .i64 (aq.2.2.2.1),.int .i64 (aq.2.2.2.2)]) rfl rfl (acv rfl) rfl) aH rfl (by decide) (by decide) (by decide) hN ?_)
 clear hN
 intro Wm QH (hN:aI w none_ QH [_,_,_,_,_,_,_])
 refine⟨(hN.sb [1,2,4,5,6]),?_⟩
 refine RQ.b0 rfl (ct acT ik rfl (by decide) dx aH hN 3 rfl rfl (hN.sm 0 rfl) rfl (by(try simp only[acw,acC,acF,acN]);omega) (by decide) ?_)
 clear hN
 intro YM PY (hN:aI w none_ PY [_,_,_,_,_,_,_])
 refine⟨(hN.sb [1,2,4,5,6]),?_⟩
 refine RQ.aA rfl (fun w hS=>(ah acD rfl fC)) ?_
 refine RQ.last rfl rfl (ca fC rfl rfl (hN.sm 3 rfl).cN (hN.sm 3 rfl).bW hN 4 rfl (acv rfl) ?_)
 clear hN
 intro LQ (hN:aI w none_ LQ [_,_,_,_,_,_,_])
 refine RZ.eJ (aY (aw (RW.region (RL.ag (v:=vJ q) U (RL.ag (aD rfl rfl rfl (bh (by omega) (by omega))) (RL.ag (v:=.int .i64 ((q:Int)+1)) ai (RL.ak ?_)))))))
 exact⟨k2-1,by omega,YM,a3++[(aq.1,aq.2.1,aq.2.2.1,aq.2.2.2.1,aq.2.2.2.2)],q+1,rfl,rfl,rfl,rfl,rfl,(hN.sb [1,2,3,4,5,6]),by omega,by rw[dO iB,if_pos (decide_eq_true ⟨ux,Lg⟩),h3],by(try simp only[acw,acC]);omega⟩
 refine RW.skip (aY (aw (RW.region (RL.ag (v:=vJ q) U (RL.ag (aD rfl rfl rfl (bh (by omega) (by omega))) (RL.ag (v:=.int .i64 ((q:Int)+1)) ai (RL.ak ?_)))))))
 exact⟨k2-1,by omega,v3,a3,q+1,rfl,rfl,rfl,rfl,rfl,hN,by omega,by rw[dO iB,if_neg (fun h=>by have h:=of_decide_eq_true h;first|exact ux h.1|exact Lg h.2),adj];exact h3,by(try simp only[acw,acC]);omega⟩
 rw[decide_eq_false ux]
 iterate 8 refine RL.bH ?_
 refine RL.ag (v:=.bool false) (aB) (RL.ak (RW.cg (RW.skip (aY (aw (RW.region (RL.ag (v:=vJ q) U (RL.ag (aD rfl rfl rfl (bh (by omega) (by omega))) ?_))))))))
 refine RL.ag (v:=.int .i64 ((q:Int)+1)) ai (RL.ak ?_)
 exact⟨k2-1,by omega,v3,a3,q+1,rfl,rfl,rfl,rfl,rfl,hN,by omega,by rw[dO iB,if_neg (fun h=>by have h:=of_decide_eq_true h;first|exact ux h.1|exact Lg h.2),adj];exact h3,by(try simp only[acw,acC]);omega⟩
 refine RW.exit ?_
 iterate 2 refine bS ?_
 refine ba (aw (RW.aN (RL.ag (aE (cs:=[vJ n,v1,v3,v2]) acD cK (hN.aJ 3 rfl)) ?_)))
 refine RL.aK (aR (vs:=[vJ n,v1,v3,v2]) cK rfl rfl rfl (by intro u hu;simp only[ac1,acV,or_false]at hu;rcases hu with rfl|rfl|rfl|rfl<;>first|rfl|exact(hN.sl 0 rfl).bW|exact(hN.sl 1 rfl).bW|exact(hN.sm 2 rfl).bW) hN 4 rfl rfl ?_)
 clear hN
 intro Tw (hN:aI w none_ Tw [_,_,_,_,_,_])
 refine RL.ag (v:=.bool true) ai (RL.ak (RW.ret (bb (RV.eB rfl rfl (dJ (hN.aJ 4 rfl) acD rfl cK)) ?_)))
 have iy:i=n:=by omega
 subst iy
 rw[acX (by rw[adG];omega)]at h1
 have fO:q=ls.length:=by omega
 rw[fO,adn]at h3
 subst h1
 have Qv:a3=wz ls v:=h3
 subst Qv
 exact⟨_,_,_,_,_,rfl,eG.Ko (hN.fL 0 rfl) hF,fR.Kn (hN.fT 2 rfl) hF,eG.Ko (hN.fL 1 rfl) hF,AF,hN.bc⟩
theorem uR (n:Nat) (iv lv ov:Value) (ins:List Int) (ls:List I5) (lost:List Int) (w:World) (hi:Sl vI w iv ins) (hl:Sm aV w lv ls) (ho:Sl vI w ov lost) (v:Int) (uh:ins.length=n) (mR:lost.length=n) (hn:n≤4096):aM acx 184 #[.agg #[.int .i64 (n:Int),iv,lv,ov],.int .i64 v] w fun r w'=>∃z:Int,r=.int .i64 z∧Ext w w':=by
 refine aM.aZ aiz ?_
 rw[cT]
 have hN:=aI.nil w none_
 refine RW.aN ?_
 refine RL.aK (bL (cs:=[vJ n,iv,lv,ov]) rfl rfl hN ?_)
 clear hN
 intro g1 w1 (hN:aI w none_ w1 [_])
 refine RL.ag (v:=.int .i64 (0)) ai (RL.ak ?_)
 iterate 2 refine RW.seq ?_
 refine RW.region (RL.ag (aE (cs:=[vJ n,iv,lv,ov]) acD cK (hN.aJ 0 rfl)) (RL.ag (v:=.int .i64 (v)) U ?_))
 refine RL.aK (bu afz rfl rfl rfl rfl ((lK n _ _ _ ins ls lost _ (hi.o.now hN) (hl.o.now hN) (ho.o.now hN) v uh).mono ?_))
 rintro _ w2 ⟨rfl,bn⟩
 replace hN:=hN.ext bn
 clear bn
 refine RL.ag (cV rfl) (RL.ak ?_)
 refine RW.aG _ (fun u5=>?_) (fun u5=>?_)
 refine RW.aN (RL.ag (v:=.int .i64 (0)) ai (RL.ak (RW.ret (aT (bb (RV.tmp rfl) ?_)))))
 exact⟨_,rfl,hN.bc⟩
 refine RW.skip (aw (RW.seq ?_))
 have SB:=acU.1 u5
 have u1:=SB.1
 have vO:=SB.2.1
 refine RW.region (RL.ag (aE (cs:=[vJ n,iv,lv,ov]) acD cK (hN.aJ 0 rfl)) (RL.ag (v:=.int .i64 (v)) U ?_))
 refine RL.aK (bu ahd rfl rfl rfl rfl ((qv n _ _ _ ins ls lost _ (hi.o.now hN) (hl.o.now hN) (ho.o.now hN) v (by omega)).mono ?_))
 rintro v3 w3 ⟨cL,bn⟩
 replace hN:aI w none_ w3 [_,_]:=hN.cc (l:=dj ls v n) cL bn
 clear cL bn
 refine RL.ag (v:=v3) ai (RL.b6 (RL.ag (aE (cs:=[vJ n,iv,lv,ov]) acD cK (hN.aJ 1 rfl)) (RL.ag (v:=.int .i64 (v)) U ?_)))
 refine RL.aK (bu ahc rfl rfl rfl rfl ((oI n _ _ _ ins ls lost _ (hi.o.now hN) (hl.o.now hN) (ho.o.now hN) v (by omega)).mono ?_))
 rintro v4 w4 ⟨cL,bn⟩
 replace hN:aI w none_ w4 [_,_,_]:=hN.cc (l:=cv ls v n) cL bn
 clear cL bn
 refine RL.ag (v:=v4) ai (RL.b6 (RL.ag (v:=.int .i64 (0)) ai (RL.ak ?_)))
 iterate 2 refine RW.seq ?_
 refine RW.region (RL.ag (v:=.int .i64 (0)) ai (RL.ak (RW.block ?_)))
 refine RW.loop (fun k R0 cz=>∃z:Int,∃i:Nat,R0 1=.int .i64 (v)∧R0 2=vP g1∧R0 5=v3∧R0 6=v4∧R0 7=.int .i64 (z)∧R0 8=vJ i∧aI w none_ cz [.own vI 3 (v4) (cv ls v n),.own vI 3 (v3) (dj ls v n),.aJ g1 [vJ n,iv,lv,ov] 194]∧(i+k=(dj ls v n).length)) ((dj ls v n).length) ?_ ?_
 exact⟨0,0,rfl,rfl,rfl,rfl,rfl,rfl,hN,by omega⟩
 clear hN
 rintro k R0 cz ⟨z,i,bP,bV,cx,cW,cF,cR,hN,gk⟩
 have cB:=o9 bP bV cx cW cF cR
 obtain⟨gF,rfl⟩:=cB
 clear bP bV cx cW cF cR
 iterate 2 refine RW.seq ?_
 refine RW.region (RL.ag (v:=vJ i) U (RL.ag (v:=v3) U ?_))
 have qG:=(hN.sl 1 rfl).bw
 refine RL.ag (aQ acu (hN.sl 1 rfl)) (RL.ag (aL) (RL.ak ?_))
 refine RW.aG _ (fun cD=>?_) (fun cD=>?_)
 refine RW.skip (aw (RW.seq (RW.block (RW.aN (RL.ag (v:=.int .i64 (0)) ai (RL.ak (RW.block ?_)))))))
 refine RW.loop (fun k2 R1 eW=>∃z2:Int,∃q:Nat,R1 1=.int .i64 (v)∧R1 2=vP g1∧R1 5=v3∧R1 6=v4∧R1 7=.int .i64 (z2)∧R1 8=vJ i∧R1 9=vJ q∧aI w none_ eW [.own vI 3 (v4) (cv ls v n),.own vI 3 (v3) (dj ls v n),.aJ g1 [vJ n,iv,lv,ov] 194]∧(q+k2=(cv ls v n).length)) ((cv ls v n).length) ?_ ?_
 exact⟨z,0,rfl,rfl,rfl,rfl,rfl,rfl,rfl,hN,by omega⟩
 clear hN
 rintro k2 R1 eW ⟨z2,q,bP,bV,cx,cW,cF,cR,eg,hN,yq⟩
 have cB:=DZ bP bV cx cW cF cR eg
 obtain⟨sk,rfl⟩:=cB
 clear bP bV cx cW cF cR eg
 iterate 2 refine RW.seq ?_
 refine RW.region (RL.ag (v:=vJ q) U (RL.ag (v:=v4) U ?_))
 have AD:=(hN.sl 0 rfl).bw
 refine RL.ag (aQ acu (hN.sl 0 rfl)) (RL.ag (aL) (RL.ak ?_))
 refine RW.aG _ (fun eD=>?_) (fun eD=>?_)
 refine RW.skip (aw (RW.seq (RW.block (RW.seq ?_))))
 replace hN:=hN.ext (Ext.drew eW)
 refine RW.bD (fun u=>aI w none_ u [.own vI 3 (v4) (cv ls v n),.own vI 3 (v3) (dj ls v n),.aJ g1 [vJ n,iv,lv,ov] 194]) 9 [(0,0),(1,0),(2,0),(3,0),(4,0),(5,0),(6,0),(7,0),(8,0)] (by intro _ _ _ h;exact h) hN (RQ.aA (v:=v3) rfl (fun w hS=>U) (RQ.aA (v:=vJ i) rfl (fun w hS=>U) (RQ.aA rfl (fun w hS=>(aC acu bK (hS.sl 1 rfl))) ?_)))
 have aO:=da ((dj ls v n)) i
 obtain⟨a7,ha7⟩:=aO
 refine RQ.aA rfl (fun w hS=>(aF (m:=i) (a:=a7) acs (hS.sl 1 rfl) ha7)) (RQ.aA (v:=v4) rfl (fun w hS=>U) (RQ.aA (v:=vJ q) rfl (fun w hS=>U) (RQ.aA rfl (fun w hS=>(aC acu bK (hS.sl 0 rfl))) ?_)))
 have aO:=da ((cv ls v n)) q
 obtain⟨a8,V3⟩:=aO
 refine RQ.aA rfl (fun w hS=>(aF (m:=q) (a:=a8) acs (hS.sl 0 rfl) V3)) (RQ.aA rfl (fun w hS=>(bj)) (RQ.bq (aw ?_)))
 refine RW.aG _ (fun dY=>?_) (fun dY=>?_)
 refine RW.region (RL.ag (v:=.int .i64 (z2)) U (RL.ag (aD rfl rfl rfl rfl) (RL.ag (v:=.int .i64 (adC.wrap (z2+1))) ai (RL.nil (aY (aw (RW.region (RL.ag (v:=vJ q) U (RL.ag (aD rfl rfl rfl (bh (by omega) (by omega))) ?_)))))))))
 refine RL.ag (v:=.int .i64 ((q:Int)+1)) ai (RL.ak ?_)
 exact⟨k2-1,by omega,adC.wrap (z2+1),q+1,rfl,rfl,rfl,rfl,rfl,rfl,rfl,hN,by omega⟩
 refine RW.skip (aY (aw (RW.region (RL.ag (v:=vJ q) U (RL.ag (aD rfl rfl rfl (bh (by omega) (by omega))) (RL.ag (v:=.int .i64 ((q:Int)+1)) ai (RL.ak ?_)))))))
 exact⟨k2-1,by omega,z2,q+1,rfl,rfl,rfl,rfl,rfl,rfl,rfl,hN,by omega⟩
 refine RW.exit ?_
 iterate 2 refine bS ?_
 refine ba (aY (aw (RW.region (RL.ag (v:=vJ i) U (RL.ag (aD rfl rfl rfl (bh (by omega) (by omega))) (RL.ag (v:=.int .i64 ((i:Int)+1)) ai (RL.ak ?_)))))))
 exact⟨k-1,by omega,z2,i+1,rfl,rfl,rfl,rfl,rfl,rfl,hN,by omega⟩
 refine RW.exit ?_
 iterate 2 refine bS ?_
 refine ba (aw (RW.aN (RL.ag (v:=.int .i64 (z)) U (RL.ag (v:=v3) U (RL.ag (aQ acu (hN.sl 1 rfl)) (RL.ag (aD rfl rfl rfl rfl) (RL.ag (v:=v4) U ?_)))))))
 have I4:=(hN.sl 0 rfl).bw
 refine RL.ag (aQ acu (hN.sl 0 rfl)) (RL.ag (aD rfl rfl rfl rfl) (RL.ag (ah acD rfl cj) (RL.ag (aj acu (hN.aJ 2 rfl)) (RL.ag (v:=.int .i64 (v)) U (RL.ag (aC acu bK (ho.o.now hN)) ?_)))))
 have aO:=da (lost) ((v).toNat)
 obtain⟨ac,jG⟩:=aO
 refine RL.ag (aF (m:=(v).toNat) (a:=ac) acs (ho.o.now hN) jG) (RL.ag (aD rfl rfl rfl rfl) (RL.ag (v:=.int .i64 (adC.wrap (adC.wrap (adC.wrap (z-((dj ls v n).length:Int))-((cv ls v n).length:Int))+ac))) ai (RL.ak (RW.ret (bb (RV.tmp rfl) ?_)))))
 exact⟨_,rfl,hN.bc⟩
end Go.Proofs.YtngkdkbpgoddlaaGreat
namespace Go.Proofs.YtngkdkbpgoddlaaGreat
open Go.RowKit Go.Rl
open Go.Gr
theorem Bv (n:Nat) (v:Value) (l:List I3) (kv:Value) (ks:List Int) (w:World) (hv:Sm bJ w v l) (hk:Sl vI w kv ks) (hlen:ks.length=l.length) (hl:l.length≤40) (hn:n≤12):aM acx 132 #[.agg #[.int .i64 (n:Int),v,kv]] w fun r w'=>∃iv lv ov ls lost,r=.agg #[.int .i64 (n:Int),iv,lv,ov]∧eG vI 3 w' w.heap.size iv (acY n 1)∧fR aV 5 248 w' w.heap.size lv ls∧eG vI 3 w' w.heap.size ov lost∧ls.Perm (yd l ks n)∧lost.length=n∧ls.length≤480∧Ext w w':=by
 refine aM.aZ akm ?_
 rw[cM]
 have hN:=aI.nil w none_
 refine RW.aN ?_
 refine RL.aK (bL (cs:=[vJ n,v,kv]) rfl rfl hN ?_)
 clear hN
 intro g1 w1 (hN:aI w none_ w1 [_])
 refine RL.aK (bz (cs:=[.int .i64 (0),vN,vN,vN]) jc rfl hN ?_)
 clear hN
 intro g2 w2 (hN:aI w none_ w2 [_,_])
 refine RL.b6 (RL.ag (ah adB rfl dN) (RL.ag (ah acI rfl bK) (RL.ag (aj acs (hN.aJ 1 rfl)) (RL.ag (bT (cs:=[vJ n,vN,vN,vN]) acD jc (places:=#[(0,1),(1,1),(2,1),(3,1)]) (by intro w;kernel_rfl) (pl:=[(0,.tmp 9)]) rfl (ps:=[(0,vJ n)]) rfl (zc:=[.int .i64 (0),vN,vN,vN]) rfl (aP (vs:=[vJ n]) rfl rfl (acv rfl) rfl)) ?_))))
 refine RL.aK (bz (cs:=[.int .i64 (0),vN,vN,vN]) jc rfl hN ?_)
 clear hN
 intro g3 w3 (hN:aI w none_ w3 [_,_,_])
 refine RL.aK (aR (vs:=[vJ n,vN,vN,vN]) cK rfl rfl rfl (aW (aW (aW (aW cZ)))) hN 0 rfl rfl ?_)
 clear hN
 intro w4 (hN:aI w none_ w4 [_,_,_])
 refine RL.ak ?_
 iterate 2 refine RW.seq ?_
 replace hN:=hN.eK aV 5 248
 replace hN:=hN.dD vI 3
 replace hN:=hN.dD vI 3
 replace hN:aI w none_ w4 [.own vI 3 (vN) ([]),.own vI 3 (vN) ([]),.cp aV 5 248 (vN) ([]),.aJ g3 [vJ n,vN,vN,vN] 194,.aJ g2 [.int .i64 (0),vN,vN,vN] 194,.aJ g1 [vJ n,v,kv] 111]:=hN
 refine RW.region (RL.ag (v:=.int .i64 (0)) ai (RL.ak (RW.block ?_)))
 refine RW.loop (fun k R0 cz=>∃v1:Value,∃a1:List Int,∃v2:Value,∃a2:List Int,∃v3:Value,∃a3:List I5,∃i:Nat,R0 1=vP g1∧R0 2=vP g2∧R0 3=vP g3∧R0 4=vJ i∧aI w none_ cz [.own vI 3 (v1) (a1),.own vI 3 (v2) (a2),.cp aV 5 248 (v3) (a3),.aJ g3 [vJ n,v1,v3,v2] 194,.aJ g2 [.int .i64 (0),vN,vN,vN] 194,.aJ g1 [vJ n,v,kv] 111]∧(i+k=n)∧(a1=acY i 1)∧(a1.length=i)∧(a2.length=i)∧(a3.Perm (yd l ks i))∧(a3.length≤40*i)) (n) ?_ ?_
 exact⟨vN,[],vN,[],vN,[],0,rfl,rfl,rfl,rfl,hN,by omega,rfl,rfl,rfl,.refl _,ac3 _⟩
 clear hN
 rintro k R0 cz ⟨v1,a1,v2,a2,v3,a3,i,bP,bV,cd,cA,hN,gk,h1,CE,AF,h3,Yq⟩
 have cB:=jd bP bV cd cA
 obtain⟨gF,rfl⟩:=cB
 clear bP bV cd cA
 iterate 2 refine RW.seq ?_
 refine RW.region (RL.ag (v:=vJ i) U (RL.ag (ah acD rfl bK) (RL.ag (aj acs (hN.aJ 3 rfl)) (RL.ag (aL) (RL.ak ?_)))))
 refine RW.aG _ (fun cD=>?_) (fun cD=>?_)
 refine RW.skip (aw (RW.seq (RW.block (RW.aN (RL.ag (ah acD rfl cj) (RL.ag (aj acu (hN.aJ 3 rfl)) ?_))))))
 refine RL.aK (cw (enc:=vI) (l:=[1]) (xs:=[.const (.int .i64 (1))]) acu bK mU rfl rfl (fun _=>rfl) rfl (by decide) (by decide) hN ?_)
 clear hN
 intro g5 w5 (hN:aI w none_ w5 [_,_,_,_,_,_,_])
 refine RL.aK (b9 acu gz rfl (fun _=>rfl) hN 1 rfl rfl (hN.sl 0 rfl) rfl (by rw[CE];simp only[acC,acF,acN];omega) (by decide) ?_)
 clear hN
 intro v6 w6 (hN:aI w none_ w6 [_,_,_,_,_,_,_])
 refine RL.ag (ah acD rfl cj) ?_
 refine RL.aK (ca cj rfl rfl (hN.sl 1 rfl).cN (hN.sl 1 rfl).bW hN 4 rfl (acv rfl) ?_)
 clear hN
 intro w7 (hN:aI w none_ w7 [_,_,_,_,_,_,_])
 refine RL.b6 (RL.ag (ah acD rfl cj) (RL.ag (aj acu (hN.aJ 4 rfl)) ?_))
 refine RL.aK (cw (enc:=vI) (l:=[0]) (xs:=[.const (.int .i64 (0))]) acu bK mU rfl rfl (fun _=>rfl) rfl (by decide) (by decide) hN ?_)
 clear hN
 intro g8 w8 (hN:aI w none_ w8 [_,_,_,_,_,_,_,_])
 refine RL.aK (b9 acu gz rfl (fun _=>rfl) hN 3 rfl rfl (hN.sl 0 rfl) rfl (by rw[AF];simp only[acC,acF,acN];omega) (by decide) ?_)
 clear hN
 intro v9 w9 (hN:aI w none_ w9 [_,_,_,_,_,_,_,_])
 refine RL.ag (ah acD rfl cj) ?_
 refine RL.aK (ca cj rfl rfl (hN.sl 3 rfl).cN (hN.sl 3 rfl).bW hN 5 rfl (acv rfl) ?_)
 clear hN
 intro lW (hN:aI w none_ lW [_,_,_,_,_,_,_,_])
 refine RL.b6 (RL.ag (aE (cs:=[vJ n,v,kv]) adB qS (hN.aJ 7 rfl)) (RL.ag (v:=vJ i) U ?_))
 refine RL.aK (bu ajD rfl rfl rfl rfl ((Et ((n:Int)) _ l _ ks ((i:Int)) _ (hv.o.now hN) (hk.o.now hN) hlen (by omega)).mono ?_))
 rintro v11 lR ⟨tH,cL,RN,bn⟩
 replace hN:aI w none_ lR [_,_,_,_,_,_,_,_,_]:=hN.fF cL bn
 clear cL bn
 have Xw:=RN.length_eq
 have Xe:=Kr l ks ((i:Int)) l.length
 refine RL.ag (v:=v11) ai (RL.b6 (RL.ag (v:=.int .i64 (0)) ai (RL.ak (RW.block ?_))))
 refine RW.loop (fun k2 R1 eW=>∃v4:Value,∃a4:List I5,∃q:Nat,R1 1=vP g1∧R1 2=vP g2∧R1 3=vP g3∧R1 4=vJ i∧R1 5=v11∧R1 6=vJ q∧aI w none_ eW [.cp bJ 3 246 (v11) (tH),.own vI 3 (.slice (some ⟨g8,0,none⟩) 1 1) ([0]),.own vI 3 (.slice (some ⟨g5,0,none⟩) 1 1) ([1]),.own vI 3 (v6) (a1++[1]),.own vI 3 (v9) (a2++[0]),.cp aV 5 248 (v4) (a4),.aJ g3 [vJ n,v6,v4,v9] 194,.aJ g2 [.int .i64 (0),vN,vN,vN] 194,.aJ g1 [vJ n,v,kv] 111]∧(q+k2=tH.length)∧(a4=a3++(tH.take q).map (Jr (i:Int)))∧(a4.length≤40*i+q)) (tH.length) ?_ ?_
 exact⟨v3,a3,0,rfl,rfl,rfl,rfl,rfl,rfl,hN,by omega,by simp,Yq⟩
 clear hN
 rintro k2 R1 eW ⟨v4,a4,q,bP,bV,cd,cA,cx,cW,hN,yq,h4,h4l⟩
 have cB:=o9 bP bV cd cA cx cW
 obtain⟨sk,rfl⟩:=cB
 clear bP bV cd cA cx cW
 iterate 2 refine RW.seq ?_
 refine RW.region (RL.ag (v:=vJ q) U (RL.ag (v:=v11) U ?_))
 have MZ:=(hN.sm 0 rfl).bw
 refine RL.ag (bO adw (hN.sm 0 rfl)) (RL.ag (aL) (RL.ak ?_))
 refine RW.aG _ (fun eD=>?_) (fun eD=>?_)
 refine RW.skip (aw (RW.seq (RW.block ?_)))
 replace hN:=hN.ext (Ext.drew eW)
 refine RW.bD (fun u=>aI w none_ u [.cp bJ 3 246 (v11) (tH),.own vI 3 (.slice (some ⟨g8,0,none⟩) 1 1) ([0]),.own vI 3 (.slice (some ⟨g5,0,none⟩) 1 1) ([1]),.own vI 3 (v6) (a1++[1]),.own vI 3 (v9) (a2++[0]),.aJ g3 [vJ n,v6,v4,v9] 194,.aJ g2 [.int .i64 (0),vN,vN,vN] 194,.aJ g1 [vJ n,v,kv] 111]) 23 [(0,0),(1,0),(2,0),(3,0),(4,0),(5,0),(6,0),(7,0),(8,0),(9,0),(10,0),(11,0),(12,0),(13,0),(14,0),(15,0),(16,0),(17,0),(18,0),(19,0),(20,1),(21,1),(22,0),(23,2)] (by intro _ _ _ h;exact h) (hN.sb [0,1,2,3,4,6,7,8]) (RQ.aA rfl (fun w hS=>(ah acD rfl fC)) (RQ.aA rfl (fun w hS=>(aj acT (hS.aJ 5 rfl))) (RQ.aA (v:=vJ i) rfl (fun w hS=>U) (RQ.aA (v:=v11) rfl (fun w hS=>U) (RQ.aA (v:=vJ q) rfl (fun w hS=>U) (RQ.aA rfl (fun w hS=>(aU adw od bf (hS.sm 0 rfl))) ?_))))))
 have aO:=da (tH) q
 obtain⟨aq,iB⟩:=aO
 refine RQ.aA rfl (fun w hS=>(bl (m:=q) (b:=0) aei rfl bK bf (hS.sm 0 rfl) iB)) (RQ.aA rfl (fun w hS=>(bB (m:=q) (j:=0) (a:=aq) acs bf (hS.sm 0 rfl) iB)) (RQ.aA (v:=v11) rfl (fun w hS=>U) (RQ.aA (v:=vJ q) rfl (fun w hS=>U) (RQ.aA rfl (fun w hS=>(aU adw od bf (hS.sm 0 rfl))) (RQ.aA rfl (fun w hS=>(bl (m:=q) (b:=0) aei rfl bK bf (hS.sm 0 rfl) iB)) (RQ.aA rfl (fun w hS=>(bB (m:=q) (j:=1) (a:=aq) acs bf (hS.sm 0 rfl) iB)) (RQ.aA (v:=v11) rfl (fun w hS=>U) (RQ.aA (v:=vJ q) rfl (fun w hS=>U) (RQ.aA rfl (fun w hS=>(aU adw od bf (hS.sm 0 rfl))) ?_)))))))))
 refine RQ.aA rfl (fun w hS=>(bl (m:=q) (b:=0) aei rfl bK bf (hS.sm 0 rfl) iB)) (RQ.aA rfl (fun w hS=>(bB (m:=q) (j:=2) (a:=aq) acs bf (hS.sm 0 rfl) iB)) (RQ.aA rfl (fun w hS=>(bT (cs:=[.int .i64 (aq.2.1),.int .i64 (-1),.int .i64 (aq.2.2)]) acH eV (places:=#[(0,1),(1,1),(2,1)]) (by intro w;kernel_rfl) (pl:=[(0,.tmp 48),(1,.const (.int .i64 (-1))),(2,.tmp 53)]) rfl (ps:=[(0,.int .i64 (aq.2.1)),(1,.int .i64 (-1)),(2,.int .i64 (aq.2.2))]) rfl (zc:=[.int .i64 (0),.int .i64 (0),.int .i64 (0)]) rfl (aP (vs:=[.int .i64 (aq.2.1)]) rfl rfl (acv rfl) (aP (vs:=[.int .i64 (-1)]) rfl rfl (acv rfl) (aP (vs:=[.int .i64 (aq.2.2)]) rfl rfl (acv rfl) rfl))))) (RQ.aA rfl (fun w hS=>(bT (cs:=[vJ i,.int .i64 (aq.1),.int .i64 (aq.2.1),.int .i64 (-1),.int .i64 (aq.2.2)]) ada sn (places:=#[(0,1),(1,1),(2,3)]) (by intro w;kernel_rfl) (pl:=[(0,.tmp 38),(1,.tmp 43),(2,.tmp 54)]) rfl (ps:=[(0,vJ i),(1,.int .i64 (aq.1)),(2,.agg #[.int .i64 (aq.2.1),.int .i64 (-1),.int .i64 (aq.2.2)])]) rfl (zc:=[.int .i64 (0),.int .i64 (0),.int .i64 (0),.int .i64 (0),.int .i64 (0)]) rfl (aP (vs:=[vJ i]) rfl rfl (acv rfl) (aP (vs:=[.int .i64 (aq.1)]) rfl rfl (acv rfl) (aP (vs:=[.int .i64 (aq.2.1),.int .i64 (-1),.int .i64 (aq.2.2)]) rfl rfl (acv rfl) rfl))))) ?_)))
 refine RQ.b0 rfl (dB (cf:=aV) (s:=5) (pl:=[(0,.tmp 55)]) (ps:=[(0,.agg #[vJ i,.int .i64 (aq.1),.int .i64 (aq.2.1),.int .i64 (-1),.int .i64 (aq.2.2)])]) (zc:=[.int .i64 (0),.int .i64 (0),.int .i64 (0),.int .i64 (0),.int .i64 (0)]) (l:=[((i:Int),aq.1,aq.2.1,-1,aq.2.2)]) acT ik (by kernel_rfl) rfl rfl (aP (vs:=[vJ i,.int .i64 (aq.1),.int .i64 (aq.2.1),.int .i64 (-1),.int .i64 (aq.2.2)]) rfl rfl (acv rfl) rfl) aH rfl (by decide) (by decide) (by decide) hN ?_)
 clear hN
 intro g13 nR (hN:aI w none_ nR [_,_,_,_,_,_,_,_,_,_])
 refine⟨(hN.sb [1,2,3,4,5,7,8,9]),?_⟩
 refine RQ.b0 rfl (ct acT ik rfl (by decide) dx aH hN 6 rfl rfl (hN.sm 0 rfl) rfl (by(try simp only[acw,acC,acF,acN,ac4,ac5]);omega) (by decide) ?_)
 clear hN
 intro FK o7 (hN:aI w none_ o7 [_,_,_,_,_,_,_,_,_,_])
 refine⟨(hN.sb [1,2,3,4,5,7,8,9]),?_⟩
 refine RQ.aA rfl (fun w hS=>(ah acD rfl fC)) ?_
 refine RQ.last rfl rfl (ca fC rfl rfl (hN.sm 6 rfl).cN (hN.sm 6 rfl).bW hN 7 rfl (acv rfl) ?_)
 clear hN
 intro qf (hN:aI w none_ qf [_,_,_,_,_,_,_,_,_,_])
 refine RZ.eJ (aY (aw (RW.region (RL.ag (v:=vJ q) U (RL.ag (aD rfl rfl rfl (bh (by omega) (by omega))) (RL.ag (v:=.int .i64 ((q:Int)+1)) ai (RL.ak ?_)))))))
 exact⟨k2-1,by omega,FK,a4++[((i:Int),aq.1,aq.2.1,-1,aq.2.2)],q+1,rfl,rfl,rfl,rfl,rfl,rfl,(hN.sb [1,2,3,4,5,6,7,8,9]),by omega,by rw[eI _ iB,h4,adk];rfl,by(try simp only[acw,acC]);omega⟩
 refine RW.exit ?_
 iterate 2 refine bS ?_
 refine ba (aY (aw (RW.region (RL.ag (v:=vJ i) U (RL.ag (aD rfl rfl rfl (bh (by omega) (by omega))) (RL.ag (v:=.int .i64 ((i:Int)+1)) ai (RL.ak ?_)))))))
 exact⟨k-1,by omega,v6,a1++[1],v9,a2++[0],v4,a4,i+1,rfl,rfl,rfl,rfl,(hN.sb [3,4,5,6,7,8]),by omega,by rw[ahV,h1],by rw[acw,CE];rfl,by rw[acw,AF];rfl,by rw[h4,show q=tH.length by omega,adn,wX];exact h3.append (RN.map _),by omega⟩
 refine RW.exit ?_
 iterate 2 refine bS ?_
 refine ba (aw (RW.aN (RL.ag (aE (cs:=[vJ n,v1,v3,v2]) acD cK (hN.aJ 3 rfl)) ?_)))
 refine RL.aK (aR (vs:=[vJ n,v1,v3,v2]) cK rfl rfl rfl (by intro u hu;simp only[ac1,acV,or_false]at hu;rcases hu with rfl|rfl|rfl|rfl<;>first|rfl|exact(hN.sl 0 rfl).bW|exact(hN.sl 1 rfl).bW|exact(hN.sm 2 rfl).bW) hN 4 rfl rfl ?_)
 clear hN
 intro qe (hN:aI w none_ qe [_,_,_,_,_,_])
 refine RL.ak (RW.ret (bb (RV.cell rfl rfl (hN.aJ 4 rfl) acD rfl cK) ?_))
 have iy:i=n:=by omega
 subst iy
 subst h1
 exact⟨_,_,_,_,_,rfl,hN.fL 0 rfl,hN.fT 2 rfl,hN.fL 1 rfl,h3,AF,by omega,hN.bc⟩
end Go.Proofs.YtngkdkbpgoddlaaGreat
namespace Go.Proofs.YtngkdkbpgoddlaaGreat
open Go.RowKit Go.Rl
open Go.Gr
theorem B2 (n:Nat) (iv lv ov:Value) (ins:List Int) (ls:List I5) (lost:List Int) (w:World) (hi:Sl vI w iv ins) (hl:Sm aV w lv ls) (ho:Sl vI w ov lost) (uh:ins.length=n) (mR:lost.length=n) (hn:n≤4096):aM acx 133 #[.agg #[.int .i64 (n:Int),iv,lv,ov]] w fun r w'=>∃z:Int,r=.int .i64 z∧((∃x,fZ n ins x)→fZ n ins z)∧Ext w w':=by
 refine aM.aZ akn ?_
 rw[cM]
 have hN:=aI.nil w none_
 refine RW.aN ?_
 refine RL.aK (bL (cs:=[vJ n,iv,lv,ov]) rfl rfl hN ?_)
 clear hN
 intro g1 w1 (hN:aI w none_ w1 [_])
 refine RL.ag (v:=.int .i64 (0)) ai (RL.b6 (RL.ag (aE (cs:=[vJ n,iv,lv,ov]) acD cK (hN.aJ 0 rfl)) ?_))
 refine RL.aK (bo akk rfl rfl rfl ((xT n _ _ _ ins ls lost _ (hi.o.now hN) (hl.o.now hN) (ho.o.now hN) uh (by omega)).mono ?_))
 rintro v2 w2 ⟨cL,bn⟩
 replace hN:aI w none_ w2 [_,_]:=hN.cc (l:=placesOf ins n) cL bn
 clear cL bn
 refine RL.ag (v:=v2) ai (RL.b6 (RL.ag (v:=.int .i64 (-1)) ai (RL.ak ?_)))
 iterate 2 refine RW.seq ?_
 refine RW.region (RL.ag (v:=.int .i64 (0)) ai (RL.ak (RW.block ?_)))
 refine RW.loop (fun k R0 cz=>∃z:Int,∃i:Nat,R0 1=vP g1∧R0 3=v2∧R0 4=.int .i64 (z)∧R0 5=vJ i∧aI w none_ cz [.own vI 3 (v2) (placesOf ins n),.aJ g1 [vJ n,iv,lv,ov] 194]∧(i+k=(placesOf ins n).length)∧((i=0∧z= -1)∨fZ n ins z)) ((placesOf ins n).length) ?_ ?_
 exact⟨-1,0,rfl,rfl,rfl,rfl,hN,by omega,.inl ⟨rfl,rfl⟩⟩
 clear hN
 rintro k R0 cz ⟨z,i,bP,cd,cA,cx,hN,gk,hz⟩
 have cB:=jd bP cd cA cx
 obtain⟨gF,rfl⟩:=cB
 clear bP cd cA cx
 iterate 2 refine RW.seq ?_
 refine RW.region (RL.ag (v:=vJ i) U (RL.ag (v:=v2) U ?_))
 have k9:=(hN.sl 0 rfl).bw
 refine RL.ag (aQ acu (hN.sl 0 rfl)) (RL.ag (aL) (RL.ak ?_))
 refine RW.aG _ (fun cD=>?_) (fun cD=>?_)
 refine RW.skip (aw (RW.seq (RW.block (RW.seq ?_))))
 replace hN:=hN.ext (Ext.drew cz)
 refine RW.bD (fun u=>aI w none_ u [.own vI 3 (v2) (placesOf ins n),.aJ g1 [vJ n,iv,lv,ov] 194]) 14 [(0,0),(1,0),(2,0),(3,0),(4,0),(5,0),(6,0),(7,0),(9,0),(10,0),(8,1),(11,1),(12,0),(13,0)] (by intro _ _ _ h;exact h) hN (RQ.aA (v:=.int .i64 (z)) rfl (fun w hS=>U) (RQ.aA rfl (fun w hS=>(aL)) (RQ.aA (v:=.bool (decide (z<0))) rfl (fun w hS=>U) ?_)))
 by_cases MK:z<0
 rw[decide_eq_true MK]
 iterate 10 refine RQ.bU rfl ?_
 refine RQ.aA (v:=.bool true) rfl (fun w hS=>(al)) (RQ.bq (aw (RW.bF (RW.region (RL.ag (v:=v2) U (RL.ag (v:=vJ i) U (RL.ag (aC acu bK (hN.sl 0 rfl)) ?_)))))))
 have aO:=da ((placesOf ins n)) i
 obtain⟨ac,jG⟩:=aO
 refine RL.ag (aF (m:=i) (a:=ac) acs (hN.sl 0 rfl) jG) (RL.ag (v:=.int .i64 (ac)) ai (RL.nil (aY (aw (RW.region (RL.ag (v:=vJ i) U (RL.ag (aD rfl rfl rfl (bh (by omega) (by omega))) (RL.ag (v:=.int .i64 ((i:Int)+1)) ai (RL.nil ?_)))))))))
 refine aw ?_
 exact⟨k-1,by omega,ac,i+1,rfl,rfl,rfl,rfl,hN,by omega,.inr (oK.1 (acy jG))⟩
 rw[decide_eq_false MK]
 refine RQ.aS rfl (fun w hS=>(aE (cs:=[vJ n,iv,lv,ov]) acD cK (hS.aJ 1 rfl))) (RQ.aS (v:=v2) rfl (fun w hS=>U) (RQ.aS (v:=vJ i) rfl (fun w hS=>U) (RQ.aS rfl (fun w hS=>(aC acu bK (hS.sl 0 rfl))) ?_)))
 have aO:=da ((placesOf ins n)) i
 obtain⟨ap,bX⟩:=aO
 refine RQ.aS rfl (fun w hS=>(aF (m:=i) (a:=ap) acs (hS.sl 0 rfl) bX)) (RQ.aS rfl (fun w hS=>(aE (cs:=[vJ n,iv,lv,ov]) acD cK (hS.aJ 1 rfl))) (RQ.aS (v:=.int .i64 (z)) rfl (fun w hS=>U) ?_))
 refine RQ.ob rfl rfl rfl rfl (bu aiz rfl rfl rfl rfl ((uR n _ _ _ ins ls lost _ (hi.o.now hN) (hl.o.now hN) (ho.o.now hN) ap uh mR hn).mono ?_))
 rintro _ w4 ⟨z4,rfl,bn⟩
 replace hN:=hN.ext bn
 clear bn
 refine⟨hN,?_⟩
 refine RQ.ob rfl rfl rfl rfl (bu aiz rfl rfl rfl rfl ((uR n _ _ _ ins ls lost _ (hi.o.now hN) (hl.o.now hN) (ho.o.now hN) z uh mR hn).mono ?_))
 rintro _ w5 ⟨z5,rfl,bn⟩
 replace hN:=hN.ext bn
 clear bn
 refine⟨hN,?_⟩
 refine RQ.aS rfl (fun w hS=>(aL)) (RQ.aA (v:=.bool (decide (z4<z5))) rfl (fun w hS=>(aB)) (RQ.bq (aw ?_)))
 refine RW.aG _ (fun VW=>?_) (fun VW=>?_)
 refine RW.region (RL.ag (v:=v2) U (RL.ag (v:=vJ i) U (RL.ag (aC acu bK (hN.sl 0 rfl)) ?_)))
 have aO:=da ((placesOf ins n)) i
 obtain⟨ac,jG⟩:=aO
 refine RL.ag (aF (m:=i) (a:=ac) acs (hN.sl 0 rfl) jG) (RL.ag (v:=.int .i64 (ac)) ai (RL.nil (aY (aw (RW.region (RL.ag (v:=vJ i) U (RL.ag (aD rfl rfl rfl (bh (by omega) (by omega))) (RL.ag (v:=.int .i64 ((i:Int)+1)) ai (RL.nil ?_)))))))))
 refine aw ?_
 exact⟨k-1,by omega,ac,i+1,rfl,rfl,rfl,rfl,hN,by omega,.inr (oK.1 (acy jG))⟩
 refine RW.skip (aY (aw (RW.region (RL.ag (v:=vJ i) U (RL.ag (aD rfl rfl rfl (bh (by omega) (by omega))) (RL.ag (v:=.int .i64 ((i:Int)+1)) ai (RL.ak ?_)))))))
 exact⟨k-1,by omega,z,i+1,rfl,rfl,rfl,rfl,hN,by omega,.inr (hz.elim (fun h=>absurd h.2 (by omega)) id)⟩
 refine RW.exit ?_
 iterate 2 refine bS ?_
 refine ba (aw (RW.aN (RL.ag (v:=.int .i64 (z)) U (RL.ag (v:=.int .i64 (z)) ai (RL.ak (RW.ret (bb (RV.tmp rfl) ?_)))))))
 refine⟨z,rfl,fun⟨x,hx⟩=>?_,hN.bc⟩
 have hm:=oK.2 hx
 rcases hz with h|h
 · have:=af2 hm;omega
 · exact h
end Go.Proofs.YtngkdkbpgoddlaaGreat
namespace Go.Proofs.YtngkdkbpgoddlaaGreat
open Go.RowKit Go.Rl
open Go.Gr
theorem me (n:Nat) (iv lv ov:Value) (ins:List Int) (ls:List I5) (lost:List Int) (w:World) (hi:Sl vI w iv ins) (hl:Sm aV w lv ls) (ho:Sl vI w ov lost) (u v wo most M:Int) (hT:Bf n M ins ls) (hM:0≤M) (R5:(n:Int)*M≤1152921504606846976) (hn:n≤4096):aM acx 185 #[.agg #[.int .i64 (n:Int),iv,lv,ov],.int .i64 u,.int .i64 v,.int .i64 wo,.int .i64 most] w fun r w'=>∃b:Bool,r=.bool (decide (b=true))∧Ext w w':=by
 refine aM.aZ agt ?_
 rw[M9]
 have hN:=aI.nil w none_
 have uh:=hT.ins
 refine RW.aN ?_
 refine RL.aK (bL (cs:=[vJ n,iv,lv,ov]) rfl rfl hN ?_)
 clear hN
 intro g1 w1 (hN:aI w none_ w1 [_])
 refine RL.ag (v:=.bool false) ai (RL.ak ?_)
 iterate 2 refine RW.seq ?_
 refine RW.region (RL.ag (aE (cs:=[vJ n,iv,lv,ov]) acD cK (hN.aJ 0 rfl)) (RL.ag (v:=.int .i64 (u)) U ?_))
 refine RL.aK (bu afz rfl rfl rfl rfl ((lK n _ _ _ ins ls lost _ (hi.o.now hN) (hl.o.now hN) (ho.o.now hN) u uh).mono ?_))
 rintro _ w2 ⟨rfl,bn⟩
 replace hN:=hN.ext bn
 clear bn
 refine RL.ag (cV rfl) (RL.ag (v:=.bool (decide (¬(fZ n ins u)))) U ?_)
 by_cases pK:¬(fZ n ins u)
 rw[decide_eq_true pK]
 iterate 4 refine RL.bH ?_
 refine RL.ag (v:=.bool true) (al) (RL.ag (v:=.bool true) U ?_)
 iterate 3 refine RL.bH ?_
 refine RL.ag (v:=.bool true) (al) (RL.ag (v:=.bool true) U ?_)
 iterate 3 refine RL.bH ?_
 refine RL.ag (v:=.bool true) (al) (RL.ak (RW.bF (RW.aN (RL.ag (v:=.bool false) ai (RL.ak (RW.ret ?_))))))
 refine aT (bb (RV.tmp rfl) ?_)
 exact⟨_,im _,hN.bc⟩
 rw[decide_eq_false pK]
 refine RL.an (aE (cs:=[vJ n,iv,lv,ov]) acD cK (hN.aJ 0 rfl)) (RL.an (v:=.int .i64 (v)) U ?_)
 refine RL.ed (bu afz rfl rfl rfl rfl ((lK n _ _ _ ins ls lost _ (hi.o.now hN) (hl.o.now hN) (ho.o.now hN) v uh).mono ?_))
 rintro _ w3 ⟨rfl,bn⟩
 replace hN:=hN.ext bn
 clear bn
 refine RL.an (cV rfl) (RL.ag (v:=.bool (decide (¬(fZ n ins v)))) (aB) (RL.ag (v:=.bool (decide (¬(fZ n ins v)))) U ?_))
 by_cases Cw:¬(fZ n ins v)
 rw[decide_eq_true Cw]
 iterate 3 refine RL.bH ?_
 refine RL.ag (v:=.bool true) (al) (RL.ag (v:=.bool true) U ?_)
 iterate 3 refine RL.bH ?_
 refine RL.ag (v:=.bool true) (al) (RL.ak (RW.bF (RW.aN (RL.ag (v:=.bool false) ai (RL.ak (RW.ret ?_))))))
 refine aT (bb (RV.tmp rfl) ?_)
 exact⟨_,im _,hN.bc⟩
 rw[decide_eq_false Cw]
 refine RL.an (v:=.int .i64 (u)) U (RL.an (v:=.int .i64 (wo)) U (RL.an (bZ) (RL.ag (v:=.bool (decide (u=wo))) (aB) (RL.ag (v:=.bool (decide (u=wo))) U ?_))))
 by_cases It:u=wo
 rw[decide_eq_true It]
 iterate 3 refine RL.bH ?_
 refine RL.ag (v:=.bool true) (al) (RL.ak (RW.bF (RW.aN (RL.ag (v:=.bool false) ai (RL.ak (RW.ret ?_))))))
 refine aT (bb (RV.tmp rfl) ?_)
 exact⟨_,im _,hN.bc⟩
 rw[decide_eq_false It]
 refine RL.an (v:=.int .i64 (v)) U (RL.an (v:=.int .i64 (wo)) U (RL.an (bZ) (RL.ag (v:=.bool (decide (v=wo))) (aB) (RL.ak ?_))))
 refine RW.aG _ (fun VV=>?_) (fun VV=>?_)
 refine RW.aN (RL.ag (v:=.bool false) ai (RL.ak (RW.ret (aT (bb (RV.tmp rfl) ?_)))))
 exact⟨_,im _,hN.bc⟩
 refine RW.skip (aw (RW.seq ?_))
 have hu:=acU.1 pK
 have hv:=acU.1 Cw
 have Qf:=hu.1
 have hu1:=hu.2.1
 have u1:=hv.1
 have vO:=hv.2.1
 refine RW.region (RL.ag (ah acD rfl bK) (RL.ag (aj acs (hN.aJ 0 rfl)) ?_))
 refine RL.aK (ki (enc:=vI) (z:=0) acu gz rfl hN rfl (by omega) (by omega) (by omega) ?_)
 clear hN
 intro v4 w4 (hN:aI w none_ w4 [_,_])
 refine RL.ag (v:=v4) ai (RL.ak ?_)
 iterate 2 refine RW.seq ?_
 refine RW.region (RL.ag (v:=.int .i64 (0)) ai (RL.ak (RW.block ?_)))
 refine RW.loop (fun k R0 cz=>∃d0:List Int,∃i:Nat,R0 1=.int .i64 (u)∧R0 2=.int .i64 (v)∧R0 3=.int .i64 (wo)∧R0 4=.int .i64 (most)∧R0 5=vP g1∧R0 11=v4∧R0 12=vJ i∧aI w none_ cz [.own vI 3 (v4) (d0),.aJ g1 [vJ n,iv,lv,ov] 194]∧(i+k=n)∧(d0.length=n)∧(∀j,j<i→d0[j]?=some (-1))) (n) ?_ ?_
 exact⟨acY n 0,0,rfl,rfl,rfl,rfl,rfl,rfl,rfl,hN,by omega,ac7,fun j hj=>by omega⟩
 clear hN
 rintro k R0 cz ⟨d0,i,bP,bV,cd,cA,cx,eQ,eP,hN,gk,Pn,h0⟩
 have cB:=DZ bP bV cd cA cx eQ eP
 obtain⟨gF,rfl⟩:=cB
 clear bP bV cd cA cx eQ eP
 iterate 2 refine RW.seq ?_
 refine RW.region (RL.ag (v:=vJ i) U (RL.ag (ah acD rfl bK) (RL.ag (aj acs (hN.aJ 1 rfl)) (RL.ag (aL) (RL.ak ?_)))))
 refine RW.aG _ (fun cD=>?_) (fun cD=>?_)
 refine RW.skip (aw (RW.seq (RW.block (RW.region (RL.ag (v:=v4) U (RL.ag (v:=vJ i) U (RL.ag (aC acu bK (hN.sl 0 rfl)) ?_)))))))
 refine RL.aK (cu (m:=i) (a:=(-1)) bK hN 0 rfl rfl (by omega) rfl rfl rfl rfl ?_)
 clear hN
 intro w5 (hN:aI w none_ w5 [_,_])
 refine RL.nil (aY (aw (RW.region (RL.ag (v:=vJ i) U (RL.ag (aD rfl rfl rfl (bh (by omega) (by omega))) (RL.ag (v:=.int .i64 ((i:Int)+1)) ai (RL.ak ?_)))))))
 exact⟨k-1,by omega,(d0).set i ((-1)),i+1,rfl,rfl,rfl,rfl,rfl,rfl,rfl,hN,by omega,by rw[adG];exact Pn,yW (by omega) h0⟩
 refine RW.exit ?_
 iterate 2 refine bS ?_
 refine ba (aw (RW.seq ?_))
 have VI:d0=acY n (-1):=yX Pn (fun j hj=>h0 j (by omega))
 have Ai:(acY n (-1:Int)).length=n:=ac7
 replace hN:=hN.l0 0 rfl (show _=(acY n (-1))from VI)
 replace hN:aI w none_ cz [_,_]:=hN
 refine RW.region (RL.ag (v:=v4) U (RL.ag (v:=.int .i64 (u)) U (RL.ag (aC acu bK (hN.sl 0 rfl)) ?_)))
 refine RL.aK (cu (m:=(u).toNat) (a:=0) bK hN 0 rfl rfl (by omega) rfl rfl rfl rfl ?_)
 clear hN
 intro w6 (hN:aI w none_ w6 [_,_])
 refine RL.ak ?_
 iterate 2 refine RW.seq ?_
 refine RW.region (RL.ag (v:=.bool true) ai (RL.ak (RW.block ?_)))
 refine RW.loop (fun k1 R1 eW=>∃d1:List Int,∃m:Bool,R1 2=.int .i64 (v)∧R1 3=.int .i64 (wo)∧R1 4=.int .i64 (most)∧R1 5=vP g1∧R1 11=v4∧R1 13=.bool (decide (m=true))∧aI w none_ eW [.own vI 3 (v4) (d1),.aJ g1 [vJ n,iv,lv,ov] 194]∧(k1=2*BU ((n:Int)*M).toNat d1+m.toNat)∧(lf n M d1)) (2*BU ((n:Int)*M).toNat ((acY n (-1)).set (u).toNat (0))+1) ?_ ?_
 exact⟨(acY n (-1)).set (u).toNat (0),true,rfl,rfl,rfl,rfl,rfl,rfl,hN,rfl,lf.start hM (show(u).toNat<n by omega)⟩
 clear hN
 rintro k1 R1 eW ⟨d1,m,bV,cd,cA,cx,eQ,ft,hN,HU,hD⟩
 have cB:=o9 bV cd cA cx eQ ft
 obtain⟨sk,rfl⟩:=cB
 clear bV cd cA cx eQ ft
 iterate 2 refine RW.seq ?_
 refine RW.region (RL.ag (v:=.bool (decide (m=true))) U (RL.ak ?_))
 refine RW.aG _ (fun hm=>?_) (fun hm=>?_)
 refine RW.skip (aw (RW.block (RW.aN (RL.ag (v:=.bool false) ai (RL.ak (RW.aN ?_))))))
 refine RL.ag (v:=.int .i64 (0)) ai (RL.ak (RW.block ?_))
 refine RW.loop (fun k2 R2 ij=>∃d2:List Int,∃m2:Bool,∃q:Nat,R2 2=.int .i64 (v)∧R2 3=.int .i64 (wo)∧R2 4=.int .i64 (most)∧R2 5=vP g1∧R2 11=v4∧R2 13=.bool (decide (m2=true))∧R2 14=vJ q∧aI w none_ ij [.own vI 3 (v4) (d2),.aJ g1 [vJ n,iv,lv,ov] 194]∧(q+k2=ls.length)∧(lf n M d2)∧(BU ((n:Int)*M).toNat d2+m2.toNat≤BU ((n:Int)*M).toNat d1)) (ls.length) ?_ ?_
 exact⟨d1,false,0,rfl,rfl,rfl,rfl,rfl,rfl,rfl,hN,by omega,hD,ac3 _⟩
 clear hN
 rintro k2 R2 ij ⟨d2,m2,q,bV,cd,cA,cx,eQ,ft,gR,hN,yq,y9,hp⟩
 have cB:=DZ bV cd cA cx eQ ft gR
 obtain⟨PR,rfl⟩:=cB
 clear bV cd cA cx eQ ft gR
 iterate 2 refine RW.seq ?_
 refine RW.region (RL.ag (v:=vJ q) U (RL.ag (ah acD rfl fC) (RL.ag (aj acT (hN.aJ 1 rfl)) ?_)))
 have Fb:=(hl.o.now hN).bw
 refine RL.ag (bO acT (hl.o.now hN)) (RL.ag (aL) (RL.ak ?_))
 refine RW.aG _ (fun eD=>?_) (fun eD=>?_)
 refine RW.skip (aw (RW.seq (RW.block (RW.aN (RL.ag (ah acD rfl fC) (RL.ag (aj acT (hN.aJ 1 rfl)) (RL.ag (v:=vJ q) U (RL.ag (aU acT hO aH (hl.o.now hN)) ?_))))))))
 have aO:=da (ls) q
 obtain⟨ap,bX⟩:=aO
 refine RL.ag (b8 (m:=q) (a:=ap) ada hO aH (hl.o.now hN) bX (cs:=[.int .i64 (ap.1),.int .i64 (ap.2.1),.int .i64 (ap.2.2.1),.int .i64 (ap.2.2.2.1),.int .i64 (ap.2.2.2.2)])) ?_
 have hx:=hT.ws ap (acy bX)
 have aO:=hT.ws ap (acy bX)
 obtain⟨sC,HC,TF,TE,Rj,Ri⟩:=aO
 have Bm:=y9.len
 refine RL.aK (bz (cs:=[.int .i64 (0),.int .i64 (0),.int .i64 (0),.int .i64 (0),.int .i64 (0)]) sn rfl hN ?_)
 clear hN
 intro g8 w8 (hN:aI w none_ w8 [_,_,_])
 refine RL.aK (aR (vs:=[.int .i64 (ap.1),.int .i64 (ap.2.1),.int .i64 (ap.2.2.1),.int .i64 (ap.2.2.2.1),.int .i64 (ap.2.2.2.2)]) hO rfl rfl rfl (aW (aW (aW (aW (aW cZ))))) hN 0 rfl rfl ?_)
 clear hN
 intro w9 (hN:aI w none_ w9 [_,_,_])
 have aO:=da d2 ((ap.1).toNat)
 obtain⟨aa,rr⟩:=aO
 have aO:=da d2 ((ap.2.1).toNat)
 obtain⟨ab,p9⟩:=aO
 have Xd:=y9.top hM (acy rr)
 have K7:=y9.low aa (acy rr)
 have hMM:M≤1152921504606846976:=by
   have h1:(1:Int)*M≤(n:Int)*M:=aeu (by omega) hM
   omega
 refine RL.ak (RW.seq ?_)
 replace hN:=hN.ext (Ext.drew w9)
 refine RW.bD (fun u=>aI w none_ u [.aJ g8 [.int .i64 (ap.1),.int .i64 (ap.2.1),.int .i64 (ap.2.2.1),.int .i64 (ap.2.2.2.1),.int .i64 (ap.2.2.2.2)] 248,.own vI 3 (v4) (d2),.aJ g1 [vJ n,iv,lv,ov] 194]) 43 [(0,0),(1,0),(2,0),(3,0),(4,0),(5,0),(6,0),(7,0),(8,0),(9,0),(10,0),(11,0),(12,0),(13,0),(14,0),(15,0),(16,0),(17,0),(18,0),(19,0),(20,0),(21,0),(22,0),(23,0),(24,0),(25,0),(26,0),(27,0),(28,0),(29,0),(30,0),(31,0),(32,0),(33,0),(34,0),(35,0),(36,0),(37,0),(38,0),(39,0),(40,0),(41,0),(42,0)] (by intro _ _ _ h;exact h) hN (RQ.aA rfl (fun w hS=>(ah ada rfl bK)) (RQ.aA rfl (fun w hS=>(aj acs (hS.aJ 0 rfl))) (RQ.aA (v:=.int .i64 (wo)) rfl (fun w hS=>U) (RQ.aA rfl (fun w hS=>(bj)) (RQ.aA (v:=.bool (decide (¬ap.1=wo))) rfl (fun w hS=>U) ?_)))))
 by_cases Iv:¬ap.1=wo
 rw[decide_eq_true Iv]
 refine RQ.aS rfl (fun w hS=>(ah ada rfl bK)) (RQ.aS rfl (fun w hS=>(aj acs (hS.aJ 0 rfl))) (RQ.aS (v:=.int .i64 (wo)) rfl (fun w hS=>U) (RQ.aS rfl (fun w hS=>(bj)) (RQ.aA (v:=.bool (decide (¬ap.2.1=wo))) rfl (fun w hS=>(al)) (RQ.aA (v:=.bool (decide (¬ap.2.1=wo))) rfl (fun w hS=>U) ?_)))))
 by_cases Dw:¬ap.2.1=wo
 rw[decide_eq_true Dw]
 refine RQ.aS (v:=v4) rfl (fun w hS=>U) (RQ.aS rfl (fun w hS=>(ah ada rfl bK)) (RQ.aS rfl (fun w hS=>(aj acs (hS.aJ 0 rfl))) (RQ.aS rfl (fun w hS=>(aC acu bK (hS.sl 1 rfl))) (RQ.aS rfl (fun w hS=>(aF (m:=(ap.1).toNat) (a:=aa) acs (hS.sl 1 rfl) rr)) (RQ.aS rfl (fun w hS=>(cm)) (RQ.aA (v:=.bool (decide (0≤aa))) rfl (fun w hS=>(al)) (RQ.aA (v:=.bool (decide (0≤aa))) rfl (fun w hS=>U) ?_)))))))
 by_cases Dv:0≤aa
 rw[decide_eq_true Dv]
 refine RQ.aS (v:=v4) rfl (fun w hS=>U) (RQ.aS rfl (fun w hS=>(ah ada rfl bK)) (RQ.aS rfl (fun w hS=>(aj acs (hS.aJ 0 rfl))) (RQ.aS rfl (fun w hS=>(aC acu bK (hS.sl 1 rfl))) (RQ.aS rfl (fun w hS=>(aF (m:=(ap.2.1).toNat) (a:=ab) acs (hS.sl 1 rfl) p9)) (RQ.aS rfl (fun w hS=>(aL)) (RQ.aS (v:=.bool (decide (ab<0))) rfl (fun w hS=>U) ?_))))))
 by_cases Du:ab<0
 rw[decide_eq_true Du]
 iterate 15 refine RQ.bU rfl ?_
 refine RQ.aS (v:=.bool true) rfl (fun w hS=>(al)) (RQ.aA (v:=.bool true) rfl (fun w hS=>(al)) (RQ.bq (aw (RW.bF (RW.seq ?_)))))
 have n9:ab<0∨aa+ap.2.2.1<ab:=by first|exact .inl (by assumption)|exact .inr (by assumption)
 replace hN:=hN.ext (Ext.drew w9.drew)
 refine RW.bD (fun u=>aI w none_ u [.aJ g8 [.int .i64 (ap.1),.int .i64 (ap.2.1),.int .i64 (ap.2.2.1),.int .i64 (ap.2.2.2.1),.int .i64 (ap.2.2.2.2)] 248,.own vI 3 (v4) (d2),.aJ g1 [vJ n,iv,lv,ov] 194]) 13 [(0,0),(1,0),(2,0),(3,0),(4,0),(5,0),(6,0),(7,0),(8,0),(9,0),(10,0),(11,0),(12,0),(13,2)] (by intro _ _ _ h;exact h) hN (RQ.aA (v:=v4) rfl (fun w hS=>U) (RQ.aA rfl (fun w hS=>(ah ada rfl bK)) (RQ.aA rfl (fun w hS=>(aj acs (hS.aJ 0 rfl))) (RQ.aA (v:=v4) rfl (fun w hS=>U) (RQ.aA rfl (fun w hS=>(ah ada rfl bK)) (RQ.aA rfl (fun w hS=>(aj acs (hS.aJ 0 rfl))) (RQ.aA rfl (fun w hS=>(aC acu bK (hS.sl 1 rfl))) (RQ.aA rfl (fun w hS=>(aF (m:=(ap.1).toNat) (a:=aa) acs (hS.sl 1 rfl) rr)) (RQ.aA rfl (fun w hS=>(ah ada rfl cU)) ?_)))))))))
 refine RQ.aA rfl (fun w hS=>(ah acH rfl bK)) (RQ.aA rfl (fun w hS=>(aj acs (hS.aJ 0 rfl))) (RQ.aA rfl (fun w hS=>(aD rfl rfl rfl (bh (by omega) (by omega)))) (RQ.aA rfl (fun w hS=>(aC acu bK (hS.sl 1 rfl))) ?_)))
 refine RQ.last rfl rfl (cu (m:=(ap.2.1).toNat) (a:=(aa+ap.2.2.1)) bK hN 1 rfl rfl (by omega) rfl rfl rfl rfl ?_)
 clear hN
 intro nR (hN:aI w none_ nR [_,_,_])
 refine RZ.eJ (aw (RW.region (RL.ag (v:=.bool true) ai (RL.nil (aY (aw (RW.region (RL.ag (v:=vJ q) U (RL.ag (aD rfl rfl rfl (bh (by omega) (by omega))) ?_)))))))))
 refine RL.ag (v:=.int .i64 ((q:Int)+1)) ai (RL.ak ?_)
 have ic:=y9.step hM rr p9 (by assumption) ⟨hx.2.2.2.2.1,hx.2.2.2.2.2⟩ n9
 exact⟨k2-1,by omega,(d2).set (ap.2.1).toNat ((aa+ap.2.2.1)),true,q+1,rfl,rfl,rfl,rfl,rfl,rfl,rfl,(hN.sb [1,2]),by omega,ic.1,acR ic.2 (by omega)⟩
 rw[decide_eq_false Du]
 refine RQ.aS (v:=v4) rfl (fun w hS=>U) (RQ.aS rfl (fun w hS=>(ah ada rfl bK)) (RQ.aS rfl (fun w hS=>(aj acs (hS.aJ 0 rfl))) (RQ.aS rfl (fun w hS=>(aC acu bK (hS.sl 1 rfl))) (RQ.aS rfl (fun w hS=>(aF (m:=(ap.1).toNat) (a:=aa) acs (hS.sl 1 rfl) rr)) (RQ.aS rfl (fun w hS=>(ah ada rfl cU)) (RQ.aS rfl (fun w hS=>(ah acH rfl bK)) (RQ.aS rfl (fun w hS=>(aj acs (hS.aJ 0 rfl))) (RQ.aS rfl (fun w hS=>(aD rfl rfl rfl (bh (by omega) (by omega)))) (RQ.aS (v:=v4) rfl (fun w hS=>U) ?_)))))))))
 refine RQ.aS rfl (fun w hS=>(ah ada rfl bK)) (RQ.aS rfl (fun w hS=>(aj acs (hS.aJ 0 rfl))) (RQ.aS rfl (fun w hS=>(aC acu bK (hS.sl 1 rfl))) (RQ.aS rfl (fun w hS=>(aF (m:=(ap.2.1).toNat) (a:=ab) acs (hS.sl 1 rfl) p9)) (RQ.aS rfl (fun w hS=>(aL)) (RQ.aS (v:=.bool (decide (aa+ap.2.2.1<ab))) rfl (fun w hS=>(aB)) (RQ.aA (v:=.bool (decide (aa+ap.2.2.1<ab))) rfl (fun w hS=>(al)) (RQ.bq (aw ?_))))))))
 refine RW.aG _ (fun SR=>?_) (fun SR=>?_)
 refine RW.seq ?_
 have n9:ab<0∨aa+ap.2.2.1<ab:=by first|exact .inl (by assumption)|exact .inr (by assumption)
 replace hN:=hN.ext (Ext.drew w9.drew)
 refine RW.bD (fun u=>aI w none_ u [.aJ g8 [.int .i64 (ap.1),.int .i64 (ap.2.1),.int .i64 (ap.2.2.1),.int .i64 (ap.2.2.2.1),.int .i64 (ap.2.2.2.2)] 248,.own vI 3 (v4) (d2),.aJ g1 [vJ n,iv,lv,ov] 194]) 13 [(0,0),(1,0),(2,0),(3,0),(4,0),(5,0),(6,0),(7,0),(8,0),(9,0),(10,0),(11,0),(12,0),(13,2)] (by intro _ _ _ h;exact h) hN (RQ.aA (v:=v4) rfl (fun w hS=>U) (RQ.aA rfl (fun w hS=>(ah ada rfl bK)) (RQ.aA rfl (fun w hS=>(aj acs (hS.aJ 0 rfl))) (RQ.aA (v:=v4) rfl (fun w hS=>U) (RQ.aA rfl (fun w hS=>(ah ada rfl bK)) (RQ.aA rfl (fun w hS=>(aj acs (hS.aJ 0 rfl))) (RQ.aA rfl (fun w hS=>(aC acu bK (hS.sl 1 rfl))) (RQ.aA rfl (fun w hS=>(aF (m:=(ap.1).toNat) (a:=aa) acs (hS.sl 1 rfl) rr)) (RQ.aA rfl (fun w hS=>(ah ada rfl cU)) ?_)))))))))
 refine RQ.aA rfl (fun w hS=>(ah acH rfl bK)) (RQ.aA rfl (fun w hS=>(aj acs (hS.aJ 0 rfl))) (RQ.aA rfl (fun w hS=>(aD rfl rfl rfl (bh (by omega) (by omega)))) (RQ.aA rfl (fun w hS=>(aC acu bK (hS.sl 1 rfl))) ?_)))
 refine RQ.last rfl rfl (cu (m:=(ap.2.1).toNat) (a:=(aa+ap.2.2.1)) bK hN 1 rfl rfl (by omega) rfl rfl rfl rfl ?_)
 clear hN
 intro sQ (hN:aI w none_ sQ [_,_,_])
 refine RZ.eJ (aw (RW.region (RL.ag (v:=.bool true) ai (RL.nil (aY (aw (RW.region (RL.ag (v:=vJ q) U (RL.ag (aD rfl rfl rfl (bh (by omega) (by omega))) ?_)))))))))
 refine RL.ag (v:=.int .i64 ((q:Int)+1)) ai (RL.ak ?_)
 have ic:=y9.step hM rr p9 (by assumption) ⟨hx.2.2.2.2.1,hx.2.2.2.2.2⟩ n9
 exact⟨k2-1,by omega,(d2).set (ap.2.1).toNat ((aa+ap.2.2.1)),true,q+1,rfl,rfl,rfl,rfl,rfl,rfl,rfl,(hN.sb [1,2]),by omega,ic.1,acR ic.2 (by omega)⟩
 refine RW.skip (aY (aw (RW.region (RL.ag (v:=vJ q) U (RL.ag (aD rfl rfl rfl (bh (by omega) (by omega))) (RL.ag (v:=.int .i64 ((q:Int)+1)) ai (RL.ak ?_)))))))
 exact⟨k2-1,by omega,_,_,q+1,rfl,rfl,rfl,rfl,rfl,rfl,rfl,(hN.sb [1,2]),by omega,by omega,by omega⟩
 rw[decide_eq_false Dv]
 iterate 7 refine RQ.bU rfl ?_
 iterate 15 refine RQ.dS rfl ?_
 refine RQ.bU rfl (RQ.aA (v:=.bool false) rfl (fun w hS=>(aB)) (RQ.bq (aw (RW.cg (RW.skip (aY (aw (RW.region (RL.ag (v:=vJ q) U ?_)))))))))
 refine RL.ag (aD rfl rfl rfl (bh (by omega) (by omega))) (RL.ag (v:=.int .i64 ((q:Int)+1)) ai (RL.ak ?_))
 exact⟨k2-1,by omega,_,_,q+1,rfl,rfl,rfl,rfl,rfl,rfl,rfl,(hN.sb [1,2]),by omega,by omega,by omega⟩
 rw[decide_eq_false Dw]
 iterate 6 refine RQ.bU rfl ?_
 refine RQ.aA (v:=.bool false) rfl (fun w hS=>(aB)) (RQ.aA (v:=.bool false) rfl (fun w hS=>U) ?_)
 iterate 7 refine RQ.bU rfl ?_
 iterate 15 refine RQ.dS rfl ?_
 refine RQ.bU rfl (RQ.aA (v:=.bool false) rfl (fun w hS=>(aB)) (RQ.bq (aw (RW.cg (RW.skip (aY (aw (RW.region (RL.ag (v:=vJ q) U ?_)))))))))
 refine RL.ag (aD rfl rfl rfl (bh (by omega) (by omega))) (RL.ag (v:=.int .i64 ((q:Int)+1)) ai (RL.ak ?_))
 exact⟨k2-1,by omega,_,_,q+1,rfl,rfl,rfl,rfl,rfl,rfl,rfl,(hN.sb [1,2]),by omega,by omega,by omega⟩
 rw[decide_eq_false Iv]
 iterate 4 refine RQ.bU rfl ?_
 refine RQ.aA (v:=.bool false) rfl (fun w hS=>(aB)) (RQ.aA (v:=.bool false) rfl (fun w hS=>U) ?_)
 iterate 6 refine RQ.bU rfl ?_
 refine RQ.aA (v:=.bool false) rfl (fun w hS=>(aB)) (RQ.aA (v:=.bool false) rfl (fun w hS=>U) ?_)
 iterate 7 refine RQ.bU rfl ?_
 iterate 15 refine RQ.dS rfl ?_
 refine RQ.bU rfl (RQ.aA (v:=.bool false) rfl (fun w hS=>(aB)) (RQ.bq (aw (RW.cg (RW.skip (aY (aw (RW.region (RL.ag (v:=vJ q) U ?_)))))))))
 refine RL.ag (aD rfl rfl rfl (bh (by omega) (by omega))) (RL.ag (v:=.int .i64 ((q:Int)+1)) ai (RL.ak ?_))
 exact⟨k2-1,by omega,_,_,q+1,rfl,rfl,rfl,rfl,rfl,rfl,rfl,(hN.sb [1,2]),by omega,by omega,by omega⟩
 refine RW.exit ?_
 iterate 2 refine bS ?_
 refine ba (aY (aw ?_))
 exact⟨2*BU ((n:Int)*M).toNat d2+m2.toNat,by subst hm;have:(true:Bool).toNat=1:=rfl;omega,d2,m2,rfl,rfl,rfl,rfl,rfl,rfl,hN,rfl,y9⟩
 refine RW.exit ?_
 iterate 2 refine bS ?_
 refine ba (aw (RW.seq ?_))
 have Bm:=hD.len
 refine RW.region (RL.ag (v:=v4) U (RL.ag (v:=.int .i64 (v)) U (RL.ag (aC acu bK (hN.sl 0 rfl)) ?_)))
 have aO:=da (d1) ((v).toNat)
 obtain⟨WE,V6⟩:=aO
 refine RL.ag (aF (m:=(v).toNat) (a:=WE) acs (hN.sl 0 rfl) V6) (RL.ag (cm) (RL.ag (v:=.bool (decide (0≤WE))) U ?_))
 by_cases Iu:0≤WE
 rw[decide_eq_true Iu]
 refine RL.an (v:=v4) U (RL.an (v:=.int .i64 (v)) U (RL.an (aC acu bK (hN.sl 0 rfl)) ?_))
 have aO:=da (d1) ((v).toNat)
 obtain⟨WD,V5⟩:=aO
 refine RL.an (aF (m:=(v).toNat) (a:=WD) acs (hN.sl 0 rfl) V5) (RL.an (v:=.int .i64 (most)) U (RL.an (mw rfl rfl) (RL.ag (v:=.bool (decide (WD≤most))) (al) (RL.ag (v:=.bool (decide (WD≤most))) ai (RL.ak (RW.ret (bb (RV.tmp rfl) ?_)))))))
 exact⟨_,im _,hN.bc⟩
 rw[decide_eq_false Iu]
 iterate 6 refine RL.bH ?_
 refine RL.ag (v:=.bool false) (aB) (RL.ag (v:=.bool false) ai (RL.ak (RW.ret (bb (RV.tmp rfl) ?_))))
 exact⟨_,im _,hN.bc⟩
end Go.Proofs.YtngkdkbpgoddlaaGreat
namespace Go.Proofs.YtngkdkbpgoddlaaGreat
open Go.RowKit Go.Rl
open Go.Gr
theorem ye (n:Nat) (iv lv ov:Value) (ins:List Int) (ls:List I5) (lost:List Int) (w:World) (hi:Sl vI w iv ins) (hl:Sm aV w lv ls) (ho:Sl vI w ov lost) (v M:Int) (hT:Bf n M ins ls) (hM:0≤M) (R5:(n:Int)*M≤1152921504606846976) (Qt:M≤1152921504606846976) (hn:n≤12):aM acx 134 #[.agg #[.int .i64 (n:Int),iv,lv,ov],.int .i64 v] w fun r w'=>∃out,fR aV 5 98 w' w.heap.size r out∧(∀s∈out,oX n ls v s)∧out.length≤144∧Ext w w':=by
 refine aM.aZ ako ?_
 rw[cT]
 have hN:=aI.nil w none_
 have E2:(dj ls v n).length≤n:=eh _ n
 have Oj:(cv ls v n).length≤n:=eh _ n
 refine RW.aN ?_
 refine RL.aK (bL (cs:=[vJ n,iv,lv,ov]) rfl rfl hN ?_)
 clear hN
 intro g1 w1 (hN:aI w none_ w1 [_])
 refine RL.ag (v:=vN) ai (RL.b6 (RL.ag (aE (cs:=[vJ n,iv,lv,ov]) acD cK (hN.aJ 0 rfl)) (RL.ag (v:=.int .i64 (v)) U ?_)))
 refine RL.aK (bu ahd rfl rfl rfl rfl ((qv n _ _ _ ins ls lost _ (hi.o.now hN) (hl.o.now hN) (ho.o.now hN) v (by omega)).mono ?_))
 rintro v2 w2 ⟨cL,bn⟩
 replace hN:aI w none_ w2 [_,_]:=hN.cc (l:=dj ls v n) cL bn
 clear cL bn
 refine RL.ag (v:=v2) ai (RL.b6 (RL.ag (aE (cs:=[vJ n,iv,lv,ov]) acD cK (hN.aJ 1 rfl)) (RL.ag (v:=.int .i64 (v)) U ?_)))
 refine RL.aK (bu ahc rfl rfl rfl rfl ((oI n _ _ _ ins ls lost _ (hi.o.now hN) (hl.o.now hN) (ho.o.now hN) v (by omega)).mono ?_))
 rintro v3 w3 ⟨cL,bn⟩
 replace hN:aI w none_ w3 [_,_,_]:=hN.cc (l:=cv ls v n) cL bn
 clear cL bn
 refine RL.ag (v:=v3) ai (RL.b6 (RL.ag (v:=vN) ai (RL.ak ?_)))
 iterate 2 refine RW.seq ?_
 replace hN:=hN.eK aV 5 98
 replace hN:aI w none_ w3 [.cp aV 5 98 (vN) ([]),.own vI 3 (v3) (cv ls v n),.own vI 3 (v2) (dj ls v n),.aJ g1 [vJ n,iv,lv,ov] 194]:=hN
 refine RW.region (RL.ag (v:=.int .i64 (0)) ai (RL.ak (RW.block ?_)))
 refine RW.loop (fun k R0 cz=>∃va:Value,∃acc:List I5,∃i:Nat,R0 1=.int .i64 (v)∧R0 2=vP g1∧R0 5=v2∧R0 6=v3∧R0 7=va∧R0 8=vJ i∧aI w none_ cz [.cp aV 5 98 (va) (acc),.own vI 3 (v3) (cv ls v n),.own vI 3 (v2) (dj ls v n),.aJ g1 [vJ n,iv,lv,ov] 194]∧(i+k=(dj ls v n).length)∧(∀s∈acc,oX n ls v s)∧(acc.length≤12*i)) ((dj ls v n).length) ?_ ?_
 exact⟨vN,[],0,rfl,rfl,rfl,rfl,rfl,rfl,hN,by omega,(fun s hs=>absurd hs acV),ac3 _⟩
 clear hN
 rintro k R0 cz ⟨va,acc,i,bP,bV,cx,cW,cF,cR,hN,gk,fU,ir⟩
 have cB:=o9 bP bV cx cW cF cR
 obtain⟨gF,rfl⟩:=cB
 clear bP bV cx cW cF cR
 iterate 2 refine RW.seq ?_
 refine RW.region (RL.ag (v:=vJ i) U (RL.ag (v:=v2) U ?_))
 have uJ:=(hN.sl 2 rfl).bw
 refine RL.ag (aQ acu (hN.sl 2 rfl)) (RL.ag (aL) (RL.ak ?_))
 refine RW.aG _ (fun cD=>?_) (fun cD=>?_)
 refine RW.skip (aw (RW.seq (RW.block (RW.seq ?_))))
 replace hN:=hN.ext (Ext.drew cz)
 refine RW.bD (fun u=>aI w none_ u [.cp aV 5 98 (va) (acc),.own vI 3 (v3) (cv ls v n),.own vI 3 (v2) (dj ls v n),.aJ g1 [vJ n,iv,lv,ov] 194]) 13 [(0,0),(1,0),(2,0),(3,0),(4,0),(5,0)] (by intro _ _ _ h;exact h) hN (RQ.aA rfl (fun w hS=>(aE (cs:=[vJ n,iv,lv,ov]) acD cK (hS.aJ 3 rfl))) (RQ.aA (v:=v2) rfl (fun w hS=>U) (RQ.aA (v:=vJ i) rfl (fun w hS=>U) (RQ.aA rfl (fun w hS=>(aC acu bK (hS.sl 2 rfl))) ?_))))
 have aO:=da ((dj ls v n)) i
 obtain⟨ap,bX⟩:=aO
 refine RQ.aA rfl (fun w hS=>(aF (m:=i) (a:=ap) acs (hS.sl 2 rfl) bX)) ?_
 have aO:=(sB (acy bX)).2.2.some
 obtain⟨xp,Mc⟩:=aO
 have ey:0≤xp.1:=(hT.ws _ (dU Mc)).2.2.2.2.1
 have hmp:xp.1≤M:=(hT.ws _ (dU Mc)).2.2.2.2.2
 refine RQ.aA (v:=.int .i64 (v)) rfl (fun w hS=>U) ?_
 refine RQ.two (i:=6) (j:=10) [(7,0),(8,0),(9,0),(10,1),(11,1),(12,0)] [(6,1),(7,0),(8,0),(9,0),(11,1),(12,0)] (by kernel_rfl) rfl rfl rfl rfl (by kernel_rfl) ?_ ?_
 refine(cq ad1 rfl rfl rfl rfl rfl ((lk n _ _ _ ins ls lost _ (hi.o.now hN) (hl.o.now hN) (ho.o.now hN) ap v xp Mc).mono ?_))
 rintro _ w5 ⟨rfl,bn⟩
 replace hN:=hN.ext bn
 clear bn
 refine⟨hN,?_⟩
 refine RQ.aA (v:=.tuple #[.agg #[.int .i64 (xp.1),.int .i64 (xp.2.1),.int .i64 (xp.2.2)],.bool true]) rfl (fun w hS=>U) ?_
 iterate 2 refine RQ.aA rfl (fun w hS=>(bA)) ?_
 refine RQ.b0 rfl (bz (cs:=[.int .i64 (0),.int .i64 (0),.int .i64 (0)]) eV rfl hN ?_)
 clear hN
 intro g6 w6 (hN:aI w none_ w6 [_,_,_,_,_])
 refine⟨(hN.sb [1,2,3,4]),?_⟩
 refine RQ.b0 rfl (aR (vs:=[.int .i64 (xp.1),.int .i64 (xp.2.1),.int .i64 (xp.2.2)]) cU rfl rfl rfl (aW (aW (aW cZ))) hN 0 rfl rfl ?_)
 clear hN
 intro w7 (hN:aI w none_ w7 [_,_,_,_,_])
 refine⟨(hN.sb [1,2,3,4]),?_⟩
 refine RQ.aA (v:=.bool true) rfl (fun w hS=>ai) (RQ.bq (aw (RW.aN (RL.ag (v:=.int .i64 (0)) ai (RL.ak (RW.block ?_))))))
 refine RW.loop (fun k2 R1 eW=>∃qg:Value,∃jq:List I5,∃q:Nat,R1 1=.int .i64 (v)∧R1 2=vP g1∧R1 5=v2∧R1 6=v3∧R1 7=qg∧R1 8=vJ i∧R1 9=vP g6∧R1 11=vJ q∧aI w none_ eW [.aJ g6 [.int .i64 (xp.1),.int .i64 (xp.2.1),.int .i64 (xp.2.2)] 96,.cp aV 5 98 (qg) (jq),.own vI 3 (v3) (cv ls v n),.own vI 3 (v2) (dj ls v n),.aJ g1 [vJ n,iv,lv,ov] 194]∧(q+k2=(cv ls v n).length)∧(∀s∈jq,oX n ls v s)∧(jq.length≤12*i+q)) ((cv ls v n).length) ?_ ?_
 exact⟨va,acc,0,rfl,rfl,rfl,rfl,rfl,rfl,rfl,rfl,hN,by omega,fU,ir⟩
 clear hN
 rintro k2 R1 eW ⟨qg,jq,q,bP,bV,cx,cW,cF,cR,eg,eQ,hN,yq,mY,Pa⟩
 have cB:=sR bP bV cx cW cF cR eg eQ
 obtain⟨sk,rfl⟩:=cB
 clear bP bV cx cW cF cR eg eQ
 iterate 2 refine RW.seq ?_
 refine RW.region (RL.ag (v:=vJ q) U (RL.ag (v:=v3) U ?_))
 have Pj:=(hN.sl 2 rfl).bw
 refine RL.ag (aQ acu (hN.sl 2 rfl)) (RL.ag (aL) (RL.ak ?_))
 refine RW.aG _ (fun eD=>?_) (fun eD=>?_)
 refine RW.skip (aw (RW.seq (RW.block (RW.seq ?_))))
 replace hN:=hN.ext (Ext.drew eW)
 refine RW.bD (fun u=>aI w none_ u [.aJ g6 [.int .i64 (xp.1),.int .i64 (xp.2.1),.int .i64 (xp.2.2)] 96,.cp aV 5 98 (qg) (jq),.own vI 3 (v3) (cv ls v n),.own vI 3 (v2) (dj ls v n),.aJ g1 [vJ n,iv,lv,ov] 194]) 13 [(0,0),(1,0),(2,0),(3,0),(4,0),(5,0)] (by intro _ _ _ h;exact h) hN (RQ.aA rfl (fun w hS=>(aE (cs:=[vJ n,iv,lv,ov]) acD cK (hS.aJ 4 rfl))) (RQ.aA (v:=.int .i64 (v)) rfl (fun w hS=>U) (RQ.aA (v:=v3) rfl (fun w hS=>U) (RQ.aA (v:=vJ q) rfl (fun w hS=>U) (RQ.aA rfl (fun w hS=>(aC acu bK (hS.sl 2 rfl))) ?_)))))
 have aO:=da ((cv ls v n)) q
 obtain⟨ar,jS⟩:=aO
 refine RQ.aA rfl (fun w hS=>(aF (m:=q) (a:=ar) acs (hS.sl 2 rfl) jS)) ?_
 have aO:=(pA (acy jS)).2.2.some
 obtain⟨xr,ua⟩:=aO
 have Z5:0≤xr.1:=(hT.ws _ (dU ua)).2.2.2.2.1
 have Z2:xr.1≤M:=(hT.ws _ (dU ua)).2.2.2.2.2
 refine RQ.two (i:=6) (j:=10) [(7,0),(8,0),(9,0),(10,1),(11,1),(12,0)] [(6,1),(7,0),(8,0),(9,0),(11,1),(12,0)] (by kernel_rfl) rfl rfl rfl rfl (by kernel_rfl) ?_ ?_
 refine(cq ad1 rfl rfl rfl rfl rfl ((lk n _ _ _ ins ls lost _ (hi.o.now hN) (hl.o.now hN) (ho.o.now hN) v ar xr ua).mono ?_))
 rintro _ w9 ⟨rfl,bn⟩
 replace hN:=hN.ext bn
 clear bn
 refine⟨hN,?_⟩
 refine RQ.aA (v:=.tuple #[.agg #[.int .i64 (xr.1),.int .i64 (xr.2.1),.int .i64 (xr.2.2)],.bool true]) rfl (fun w hS=>U) ?_
 iterate 2 refine RQ.aA rfl (fun w hS=>(bA)) ?_
 refine RQ.b0 rfl (bz (cs:=[.int .i64 (0),.int .i64 (0),.int .i64 (0)]) eV rfl hN ?_)
 clear hN
 intro CH lW (hN:aI w none_ lW [_,_,_,_,_,_])
 refine⟨(hN.sb [1,2,3,4,5]),?_⟩
 refine RQ.b0 rfl (aR (vs:=[.int .i64 (xr.1),.int .i64 (xr.2.1),.int .i64 (xr.2.2)]) cU rfl rfl rfl (aW (aW (aW cZ))) hN 0 rfl rfl ?_)
 clear hN
 intro lR (hN:aI w none_ lR [_,_,_,_,_,_])
 refine⟨(hN.sb [1,2,3,4,5]),?_⟩
 refine RQ.aA (v:=.bool true) rfl (fun w hS=>ai) (RQ.bq (aw (RW.seq ?_)))
 replace hN:=hN.ext (Ext.drew lR)
 refine RW.bD (fun u=>aI w none_ u [.aJ CH [.int .i64 (xr.1),.int .i64 (xr.2.1),.int .i64 (xr.2.2)] 96,.aJ g6 [.int .i64 (xp.1),.int .i64 (xp.2.1),.int .i64 (xp.2.2)] 96,.cp aV 5 98 (qg) (jq),.own vI 3 (v3) (cv ls v n),.own vI 3 (v2) (dj ls v n),.aJ g1 [vJ n,iv,lv,ov] 194]) 28 [(0,0),(1,0),(2,0),(3,0),(4,0),(5,0),(6,0),(7,0),(8,0),(9,0),(10,0),(11,0),(12,0),(13,0),(14,0),(15,0),(16,0),(17,0),(18,0),(19,0),(20,0),(21,0),(22,0),(23,0),(24,0),(25,1),(26,0),(27,0)] (by intro _ _ _ h;exact h) hN (RQ.aA (v:=v2) rfl (fun w hS=>U) (RQ.aA (v:=vJ i) rfl (fun w hS=>U) (RQ.aA rfl (fun w hS=>(aC acu bK (hS.sl 4 rfl))) (RQ.aA rfl (fun w hS=>(aF (m:=i) (a:=ap) acs (hS.sl 4 rfl) bX)) (RQ.aA (v:=v3) rfl (fun w hS=>U) (RQ.aA (v:=vJ q) rfl (fun w hS=>U) (RQ.aA rfl (fun w hS=>(aC acu bK (hS.sl 3 rfl))) (RQ.aA rfl (fun w hS=>(aF (m:=q) (a:=ar) acs (hS.sl 3 rfl) jS)) (RQ.aA rfl (fun w hS=>(bj)) ?_)))))))))
 refine RQ.aA (v:=.bool (decide (¬ap=ar))) rfl (fun w hS=>U) ?_
 by_cases iJ:¬ap=ar
 rw[decide_eq_true iJ]
 refine RQ.aS rfl (fun w hS=>(aE (cs:=[vJ n,iv,lv,ov]) acD cK (hS.aJ 5 rfl))) (RQ.aS (v:=v2) rfl (fun w hS=>U) (RQ.aS (v:=vJ i) rfl (fun w hS=>U) (RQ.aS rfl (fun w hS=>(aC acu bK (hS.sl 4 rfl))) (RQ.aS rfl (fun w hS=>(aF (m:=i) (a:=ap) acs (hS.sl 4 rfl) bX)) (RQ.aS (v:=v3) rfl (fun w hS=>U) (RQ.aS (v:=vJ q) rfl (fun w hS=>U) (RQ.aS rfl (fun w hS=>(aC acu bK (hS.sl 3 rfl))) (RQ.aS rfl (fun w hS=>(aF (m:=q) (a:=ar) acs (hS.sl 3 rfl) jS)) (RQ.aS (v:=.int .i64 (v)) rfl (fun w hS=>U) ?_)))))))))
 refine RQ.aS rfl (fun w hS=>(ah acH rfl bK)) (RQ.aS rfl (fun w hS=>(aj acs (hS.aJ 1 rfl))) (RQ.aS rfl (fun w hS=>(ah acH rfl bK)) (RQ.aS rfl (fun w hS=>(aj acs (hS.aJ 0 rfl))) (RQ.aS rfl (fun w hS=>(aD rfl rfl rfl (bh (by omega) (by omega)))) ?_))))
 refine RQ.ob rfl rfl rfl rfl (lF agt rfl rfl rfl rfl rfl rfl rfl ((me n _ _ _ ins ls lost _ (hi.o.now hN) (hl.o.now hN) (ho.o.now hN) ap ar v (xp.1+xr.1) M hT hM R5 (by omega)).mono ?_))
 rintro _ qe ⟨Qz,rfl,bn⟩
 replace hN:=hN.ext bn
 clear bn
 refine⟨hN,?_⟩
 refine RQ.aS rfl (fun w hS=>(cV rfl)) (RQ.aA (v:=.bool (decide (¬(Qz=true)))) rfl (fun w hS=>(al)) (RQ.bq (aw ?_)))
 refine RW.aG _ (fun Cy=>?_) (fun Cy=>?_)
 replace hN:=hN.ext (Ext.drew qe)
 refine RW.bD (fun u=>aI w none_ u [.aJ CH [.int .i64 (xr.1),.int .i64 (xr.2.1),.int .i64 (xr.2.2)] 96,.aJ g6 [.int .i64 (xp.1),.int .i64 (xp.2.1),.int .i64 (xp.2.2)] 96,.own vI 3 (v3) (cv ls v n),.own vI 3 (v2) (dj ls v n),.aJ g1 [vJ n,iv,lv,ov] 194]) 20 [(0,0),(1,0),(2,0),(3,0),(4,0),(5,0),(6,0),(7,0),(8,0),(9,0),(10,0),(11,0),(12,0),(13,0),(14,0),(15,0),(16,0),(17,1),(18,1),(19,0)] (by intro _ _ _ h;exact h) (hN.sb [0,1,3,4,5]) (RQ.aA (v:=qg) rfl (fun w hS=>U) (RQ.aA (v:=v2) rfl (fun w hS=>U) (RQ.aA (v:=vJ i) rfl (fun w hS=>U) (RQ.aA rfl (fun w hS=>(aC acu bK (hS.sl 3 rfl))) (RQ.aA rfl (fun w hS=>(aF (m:=i) (a:=ap) acs (hS.sl 3 rfl) bX)) (RQ.aA (v:=v3) rfl (fun w hS=>U) (RQ.aA (v:=vJ q) rfl (fun w hS=>U) (RQ.aA rfl (fun w hS=>(aC acu bK (hS.sl 2 rfl))) (RQ.aA rfl (fun w hS=>(aF (m:=q) (a:=ar) acs (hS.sl 2 rfl) jS)) ?_)))))))))
 refine RQ.aA rfl (fun w hS=>(ah acH rfl bK)) (RQ.aA rfl (fun w hS=>(aj acs (hS.aJ 1 rfl))) (RQ.aA rfl (fun w hS=>(ah acH rfl bK)) (RQ.aA rfl (fun w hS=>(aj acs (hS.aJ 0 rfl))) (RQ.aA rfl (fun w hS=>(aD rfl rfl rfl (bh (by omega) (by omega)))) (RQ.aA (v:=.int .i64 (v)) rfl (fun w hS=>U) (RQ.aA rfl (fun w hS=>(bT (cs:=[.int .i64 (xp.1+xr.1),.int .i64 (v),.int .i64 (-1)]) acH eV (places:=#[(0,1),(1,1),(2,1)]) (by intro w;kernel_rfl) (pl:=[(0,.tmp 93),(1,.tmp 94),(2,.const (.int .i64 (-1)))]) rfl (ps:=[(0,.int .i64 (xp.1+xr.1)),(1,.int .i64 (v)),(2,.int .i64 (-1))]) rfl (zc:=[.int .i64 (0),.int .i64 (0),.int .i64 (0)]) rfl (aP (vs:=[.int .i64 (xp.1+xr.1)]) rfl rfl (acv rfl) (aP (vs:=[.int .i64 (v)]) rfl rfl (acv rfl) (aP (vs:=[.int .i64 (-1)]) rfl rfl (acv rfl) rfl))))) (RQ.aA rfl (fun w hS=>(bT (cs:=[.int .i64 (ap),.int .i64 (ar),.int .i64 (xp.1+xr.1),.int .i64 (v),.int .i64 (-1)]) acB gu (places:=#[(0,1),(1,1),(2,3)]) (by intro w;kernel_rfl) (pl:=[(0,.tmp 84),(1,.tmp 88),(2,.tmp 95)]) rfl (ps:=[(0,.int .i64 (ap)),(1,.int .i64 (ar)),(2,.agg #[.int .i64 (xp.1+xr.1),.int .i64 (v),.int .i64 (-1)])]) rfl (zc:=[.int .i64 (0),.int .i64 (0),.int .i64 (0),.int .i64 (0),.int .i64 (0)]) rfl (aP (vs:=[.int .i64 (ap)]) rfl rfl (acv rfl) (aP (vs:=[.int .i64 (ar)]) rfl rfl (acv rfl) (aP (vs:=[.int .i64 (xp.1+xr.1),.int .i64 (v),.int .i64 (-1)]) rfl rfl (acv rfl) rfl))))) ?_)))))))
 refine RQ.b0 rfl (dB (cf:=aV) (s:=5) (pl:=[(0,.tmp 96)]) (ps:=[(0,.agg #[.int .i64 (ap),.int .i64 (ar),.int .i64 (xp.1+xr.1),.int .i64 (v),.int .i64 (-1)])]) (zc:=[.int .i64 (0),.int .i64 (0),.int .i64 (0),.int .i64 (0),.int .i64 (0)]) (l:=[(ap,ar,xp.1+xr.1,v,-1)]) acG jx (by kernel_rfl) rfl rfl (aP (vs:=[.int .i64 (ap),.int .i64 (ar),.int .i64 (xp.1+xr.1),.int .i64 (v),.int .i64 (-1)]) rfl rfl (acv rfl) rfl) aH rfl (by decide) (by decide) (by decide) hN ?_)
 clear hN
 intro TV Bk (hN:aI w none_ Bk [_,_,_,_,_,_,_])
 refine⟨(hN.sb [1,2,4,5,6]),?_⟩
 refine RQ.b0 rfl (ct acG jx rfl (by decide) dx aH hN 3 rfl rfl (hN.sm 0 rfl) rfl (by(try simp only[acw,acC,acF,acN]);omega) (by decide) ?_)
 clear hN
 intro v20 DY (hN:aI w none_ DY [_,_,_,_,_,_,_])
 refine⟨(hN.sb [1,2,4,5,6]),?_⟩
 refine RQ.aA (v:=v20) rfl (fun w hS=>ai) (RQ.bq (aY (aw (RW.region (RL.ag (v:=vJ q) U (RL.ag (aD rfl rfl rfl (bh (by omega) (by omega))) (RL.ag (v:=.int .i64 ((q:Int)+1)) ai (RL.ak ?_))))))))
 exact⟨k2-1,by omega,v20,jq++[(ap,ar,xp.1+xr.1,v,-1)],q+1,rfl,rfl,rfl,rfl,rfl,rfl,rfl,rfl,(hN.sb [2,3,4,5,6]),by omega,fun s hs=>(adl.1 hs).elim (mY s) fun h=>by rw[ade]at h;subst h;exact⟨⟨iJ,rfl,rfl⟩,_,_,Mc,ua,rfl⟩,by(try simp only[acw,acC]);omega⟩
 refine RW.skip (aY (aw (RW.region (RL.ag (v:=vJ q) U (RL.ag (aD rfl rfl rfl (bh (by omega) (by omega))) (RL.ag (v:=.int .i64 ((q:Int)+1)) ai (RL.ak ?_)))))))
 exact⟨k2-1,by omega,qg,jq,q+1,rfl,rfl,rfl,rfl,rfl,rfl,rfl,rfl,(hN.sb [1,2,3,4,5]),by omega,mY,by omega⟩
 rw[decide_eq_false iJ]
 iterate 17 refine RQ.bU rfl ?_
 refine RQ.aA (v:=.bool false) rfl (fun w hS=>(aB)) (RQ.bq (aw (RW.cg (RW.skip (aY (aw (RW.region (RL.ag (v:=vJ q) U (RL.ag (aD rfl rfl rfl (bh (by omega) (by omega))) ?_)))))))))
 refine RL.ag (v:=.int .i64 ((q:Int)+1)) ai (RL.ak ?_)
 exact⟨k2-1,by omega,qg,jq,q+1,rfl,rfl,rfl,rfl,rfl,rfl,rfl,rfl,(hN.sb [1,2,3,4,5]),by omega,mY,by omega⟩
 refine(bz (cs:=[.int .i64 (0),.int .i64 (0),.int .i64 (0)]) eV rfl hN ?_)
 clear hN
 intro Wo C4 (hN:aI w none_ C4 [_,_,_,_,_,_])
 refine⟨(hN.sb [1,2,3,4,5]),?_⟩
 refine RQ.b0 rfl (cq ad1 rfl rfl rfl rfl rfl ((lk n _ _ _ ins ls lost _ (hi.o.now hN) (hl.o.now hN) (ho.o.now hN) v ar xr ua).mono ?_))
 rintro _ y1 ⟨rfl,bn⟩
 replace hN:=hN.ext bn
 clear bn
 refine⟨(hN.sb [1,2,3,4,5]),?_⟩
 refine RQ.aA (v:=.tuple #[.agg #[.int .i64 (xr.1),.int .i64 (xr.2.1),.int .i64 (xr.2.2)],.bool true]) rfl (fun w hS=>U) ?_
 iterate 2 refine RQ.aA rfl (fun w hS=>(bA)) ?_
 refine RQ.b0 rfl (aR (vs:=[.int .i64 (xr.1),.int .i64 (xr.2.1),.int .i64 (xr.2.2)]) cU rfl rfl rfl (aW (aW (aW cZ))) hN 0 rfl rfl ?_)
 clear hN
 intro zk (hN:aI w none_ zk [_,_,_,_,_,_])
 refine⟨(hN.sb [1,2,3,4,5]),?_⟩
 refine RQ.aA (v:=.bool true) rfl (fun w hS=>ai) (RQ.bq (aw (RW.seq ?_)))
 replace hN:=hN.ext (Ext.drew zk)
 refine RW.bD (fun u=>aI w none_ u [.aJ Wo [.int .i64 (xr.1),.int .i64 (xr.2.1),.int .i64 (xr.2.2)] 96,.aJ g6 [.int .i64 (xp.1),.int .i64 (xp.2.1),.int .i64 (xp.2.2)] 96,.cp aV 5 98 (qg) (jq),.own vI 3 (v3) (cv ls v n),.own vI 3 (v2) (dj ls v n),.aJ g1 [vJ n,iv,lv,ov] 194]) 28 [(0,0),(1,0),(2,0),(3,0),(4,0),(5,0),(6,0),(7,0),(8,0),(9,0),(10,0),(11,0),(12,0),(13,0),(14,0),(15,0),(16,0),(17,0),(18,0),(19,0),(20,0),(21,0),(22,0),(23,0),(24,0),(25,1),(26,0),(27,0)] (by intro _ _ _ h;exact h) hN (RQ.aA (v:=v2) rfl (fun w hS=>U) (RQ.aA (v:=vJ i) rfl (fun w hS=>U) (RQ.aA rfl (fun w hS=>(aC acu bK (hS.sl 4 rfl))) (RQ.aA rfl (fun w hS=>(aF (m:=i) (a:=ap) acs (hS.sl 4 rfl) bX)) (RQ.aA (v:=v3) rfl (fun w hS=>U) (RQ.aA (v:=vJ q) rfl (fun w hS=>U) (RQ.aA rfl (fun w hS=>(aC acu bK (hS.sl 3 rfl))) (RQ.aA rfl (fun w hS=>(aF (m:=q) (a:=ar) acs (hS.sl 3 rfl) jS)) (RQ.aA rfl (fun w hS=>(bj)) ?_)))))))))
 refine RQ.aA (v:=.bool (decide (¬ap=ar))) rfl (fun w hS=>U) ?_
 by_cases iJ:¬ap=ar
 rw[decide_eq_true iJ]
 refine RQ.aS rfl (fun w hS=>(aE (cs:=[vJ n,iv,lv,ov]) acD cK (hS.aJ 5 rfl))) (RQ.aS (v:=v2) rfl (fun w hS=>U) (RQ.aS (v:=vJ i) rfl (fun w hS=>U) (RQ.aS rfl (fun w hS=>(aC acu bK (hS.sl 4 rfl))) (RQ.aS rfl (fun w hS=>(aF (m:=i) (a:=ap) acs (hS.sl 4 rfl) bX)) (RQ.aS (v:=v3) rfl (fun w hS=>U) (RQ.aS (v:=vJ q) rfl (fun w hS=>U) (RQ.aS rfl (fun w hS=>(aC acu bK (hS.sl 3 rfl))) (RQ.aS rfl (fun w hS=>(aF (m:=q) (a:=ar) acs (hS.sl 3 rfl) jS)) (RQ.aS (v:=.int .i64 (v)) rfl (fun w hS=>U) ?_)))))))))
 refine RQ.aS rfl (fun w hS=>(ah acH rfl bK)) (RQ.aS rfl (fun w hS=>(aj acs (hS.aJ 1 rfl))) (RQ.aS rfl (fun w hS=>(ah acH rfl bK)) (RQ.aS rfl (fun w hS=>(aj acs (hS.aJ 0 rfl))) (RQ.aS rfl (fun w hS=>(aD rfl rfl rfl (bh (by omega) (by omega)))) ?_))))
 refine RQ.ob rfl rfl rfl rfl (lF agt rfl rfl rfl rfl rfl rfl rfl ((me n _ _ _ ins ls lost _ (hi.o.now hN) (hl.o.now hN) (ho.o.now hN) ap ar v (xp.1+xr.1) M hT hM R5 (by omega)).mono ?_))
 rintro _ FG ⟨PJ,rfl,bn⟩
 replace hN:=hN.ext bn
 clear bn
 refine⟨hN,?_⟩
 refine RQ.aS rfl (fun w hS=>(cV rfl)) (RQ.aA (v:=.bool (decide (¬(PJ=true)))) rfl (fun w hS=>(al)) (RQ.bq (aw ?_)))
 refine RW.aG _ (fun Cy=>?_) (fun Cy=>?_)
 replace hN:=hN.ext (Ext.drew FG)
 refine RW.bD (fun u=>aI w none_ u [.aJ Wo [.int .i64 (xr.1),.int .i64 (xr.2.1),.int .i64 (xr.2.2)] 96,.aJ g6 [.int .i64 (xp.1),.int .i64 (xp.2.1),.int .i64 (xp.2.2)] 96,.own vI 3 (v3) (cv ls v n),.own vI 3 (v2) (dj ls v n),.aJ g1 [vJ n,iv,lv,ov] 194]) 20 [(0,0),(1,0),(2,0),(3,0),(4,0),(5,0),(6,0),(7,0),(8,0),(9,0),(10,0),(11,0),(12,0),(13,0),(14,0),(15,0),(16,0),(17,1),(18,1),(19,0)] (by intro _ _ _ h;exact h) (hN.sb [0,1,3,4,5]) (RQ.aA (v:=qg) rfl (fun w hS=>U) (RQ.aA (v:=v2) rfl (fun w hS=>U) (RQ.aA (v:=vJ i) rfl (fun w hS=>U) (RQ.aA rfl (fun w hS=>(aC acu bK (hS.sl 3 rfl))) (RQ.aA rfl (fun w hS=>(aF (m:=i) (a:=ap) acs (hS.sl 3 rfl) bX)) (RQ.aA (v:=v3) rfl (fun w hS=>U) (RQ.aA (v:=vJ q) rfl (fun w hS=>U) (RQ.aA rfl (fun w hS=>(aC acu bK (hS.sl 2 rfl))) (RQ.aA rfl (fun w hS=>(aF (m:=q) (a:=ar) acs (hS.sl 2 rfl) jS)) ?_)))))))))
 refine RQ.aA rfl (fun w hS=>(ah acH rfl bK)) (RQ.aA rfl (fun w hS=>(aj acs (hS.aJ 1 rfl))) (RQ.aA rfl (fun w hS=>(ah acH rfl bK)) (RQ.aA rfl (fun w hS=>(aj acs (hS.aJ 0 rfl))) (RQ.aA rfl (fun w hS=>(aD rfl rfl rfl (bh (by omega) (by omega)))) (RQ.aA (v:=.int .i64 (v)) rfl (fun w hS=>U) (RQ.aA rfl (fun w hS=>(bT (cs:=[.int .i64 (xp.1+xr.1),.int .i64 (v),.int .i64 (-1)]) acH eV (places:=#[(0,1),(1,1),(2,1)]) (by intro w;kernel_rfl) (pl:=[(0,.tmp 93),(1,.tmp 94),(2,.const (.int .i64 (-1)))]) rfl (ps:=[(0,.int .i64 (xp.1+xr.1)),(1,.int .i64 (v)),(2,.int .i64 (-1))]) rfl (zc:=[.int .i64 (0),.int .i64 (0),.int .i64 (0)]) rfl (aP (vs:=[.int .i64 (xp.1+xr.1)]) rfl rfl (acv rfl) (aP (vs:=[.int .i64 (v)]) rfl rfl (acv rfl) (aP (vs:=[.int .i64 (-1)]) rfl rfl (acv rfl) rfl))))) (RQ.aA rfl (fun w hS=>(bT (cs:=[.int .i64 (ap),.int .i64 (ar),.int .i64 (xp.1+xr.1),.int .i64 (v),.int .i64 (-1)]) acB gu (places:=#[(0,1),(1,1),(2,3)]) (by intro w;kernel_rfl) (pl:=[(0,.tmp 84),(1,.tmp 88),(2,.tmp 95)]) rfl (ps:=[(0,.int .i64 (ap)),(1,.int .i64 (ar)),(2,.agg #[.int .i64 (xp.1+xr.1),.int .i64 (v),.int .i64 (-1)])]) rfl (zc:=[.int .i64 (0),.int .i64 (0),.int .i64 (0),.int .i64 (0),.int .i64 (0)]) rfl (aP (vs:=[.int .i64 (ap)]) rfl rfl (acv rfl) (aP (vs:=[.int .i64 (ar)]) rfl rfl (acv rfl) (aP (vs:=[.int .i64 (xp.1+xr.1),.int .i64 (v),.int .i64 (-1)]) rfl rfl (acv rfl) rfl))))) ?_)))))))
 refine RQ.b0 rfl (dB (cf:=aV) (s:=5) (pl:=[(0,.tmp 96)]) (ps:=[(0,.agg #[.int .i64 (ap),.int .i64 (ar),.int .i64 (xp.1+xr.1),.int .i64 (v),.int .i64 (-1)])]) (zc:=[.int .i64 (0),.int .i64 (0),.int .i64 (0),.int .i64 (0),.int .i64 (0)]) (l:=[(ap,ar,xp.1+xr.1,v,-1)]) acG jx (by kernel_rfl) rfl rfl (aP (vs:=[.int .i64 (ap),.int .i64 (ar),.int .i64 (xp.1+xr.1),.int .i64 (v),.int .i64 (-1)]) rfl rfl (acv rfl) rfl) aH rfl (by decide) (by decide) (by decide) hN ?_)
 clear hN
 intro Wn Kd (hN:aI w none_ Kd [_,_,_,_,_,_,_])
 refine⟨(hN.sb [1,2,4,5,6]),?_⟩
 refine RQ.b0 rfl (ct acG jx rfl (by decide) dx aH hN 3 rfl rfl (hN.sm 0 rfl) rfl (by(try simp only[acw,acC,acF,acN]);omega) (by decide) ?_)
 clear hN
 intro WQ FE (hN:aI w none_ FE [_,_,_,_,_,_,_])
 refine⟨(hN.sb [1,2,4,5,6]),?_⟩
 refine RQ.aA (v:=WQ) rfl (fun w hS=>ai) (RQ.bq (aY (aw (RW.region (RL.ag (v:=vJ q) U (RL.ag (aD rfl rfl rfl (bh (by omega) (by omega))) (RL.ag (v:=.int .i64 ((q:Int)+1)) ai (RL.ak ?_))))))))
 exact⟨k2-1,by omega,WQ,jq++[(ap,ar,xp.1+xr.1,v,-1)],q+1,rfl,rfl,rfl,rfl,rfl,rfl,rfl,rfl,(hN.sb [2,3,4,5,6]),by omega,fun s hs=>(adl.1 hs).elim (mY s) fun h=>by rw[ade]at h;subst h;exact⟨⟨iJ,rfl,rfl⟩,_,_,Mc,ua,rfl⟩,by(try simp only[acw,acC]);omega⟩
 refine RW.skip (aY (aw (RW.region (RL.ag (v:=vJ q) U (RL.ag (aD rfl rfl rfl (bh (by omega) (by omega))) (RL.ag (v:=.int .i64 ((q:Int)+1)) ai (RL.ak ?_)))))))
 exact⟨k2-1,by omega,qg,jq,q+1,rfl,rfl,rfl,rfl,rfl,rfl,rfl,rfl,(hN.sb [1,2,3,4,5]),by omega,mY,by omega⟩
 rw[decide_eq_false iJ]
 iterate 17 refine RQ.bU rfl ?_
 refine RQ.aA (v:=.bool false) rfl (fun w hS=>(aB)) (RQ.bq (aw (RW.cg (RW.skip (aY (aw (RW.region (RL.ag (v:=vJ q) U (RL.ag (aD rfl rfl rfl (bh (by omega) (by omega))) ?_)))))))))
 refine RL.ag (v:=.int .i64 ((q:Int)+1)) ai (RL.ak ?_)
 exact⟨k2-1,by omega,qg,jq,q+1,rfl,rfl,rfl,rfl,rfl,rfl,rfl,rfl,(hN.sb [1,2,3,4,5]),by omega,mY,by omega⟩
 refine RW.exit ?_
 iterate 2 refine bS ?_
 refine ba (aY (aw (RW.region (RL.ag (v:=vJ i) U (RL.ag (aD rfl rfl rfl (bh (by omega) (by omega))) (RL.ag (v:=.int .i64 ((i:Int)+1)) ai (RL.ak ?_)))))))
 exact⟨k-1,by omega,qg,jq,i+1,rfl,rfl,rfl,rfl,rfl,rfl,(hN.sb [1,2,3,4]),by omega,mY,by omega⟩
 refine(bz (cs:=[.int .i64 (0),.int .i64 (0),.int .i64 (0)]) eV rfl hN ?_)
 clear hN
 intro M3 JK (hN:aI w none_ JK [_,_,_,_,_])
 refine⟨(hN.sb [1,2,3,4]),?_⟩
 refine RQ.b0 rfl (cq ad1 rfl rfl rfl rfl rfl ((lk n _ _ _ ins ls lost _ (hi.o.now hN) (hl.o.now hN) (ho.o.now hN) ap v xp Mc).mono ?_))
 rintro _ LU ⟨rfl,bn⟩
 replace hN:=hN.ext bn
 clear bn
 refine⟨(hN.sb [1,2,3,4]),?_⟩
 refine RQ.aA (v:=.tuple #[.agg #[.int .i64 (xp.1),.int .i64 (xp.2.1),.int .i64 (xp.2.2)],.bool true]) rfl (fun w hS=>U) ?_
 iterate 2 refine RQ.aA rfl (fun w hS=>(bA)) ?_
 refine RQ.b0 rfl (aR (vs:=[.int .i64 (xp.1),.int .i64 (xp.2.1),.int .i64 (xp.2.2)]) cU rfl rfl rfl (aW (aW (aW cZ))) hN 0 rfl rfl ?_)
 clear hN
 intro Kc (hN:aI w none_ Kc [_,_,_,_,_])
 refine⟨(hN.sb [1,2,3,4]),?_⟩
 refine RQ.aA (v:=.bool true) rfl (fun w hS=>ai) (RQ.bq (aw (RW.aN (RL.ag (v:=.int .i64 (0)) ai (RL.ak (RW.block ?_))))))
 refine RW.loop (fun k2 R1 eW=>∃qg:Value,∃jq:List I5,∃q:Nat,R1 1=.int .i64 (v)∧R1 2=vP g1∧R1 5=v2∧R1 6=v3∧R1 7=qg∧R1 8=vJ i∧R1 9=vP M3∧R1 11=vJ q∧aI w none_ eW [.aJ M3 [.int .i64 (xp.1),.int .i64 (xp.2.1),.int .i64 (xp.2.2)] 96,.cp aV 5 98 (qg) (jq),.own vI 3 (v3) (cv ls v n),.own vI 3 (v2) (dj ls v n),.aJ g1 [vJ n,iv,lv,ov] 194]∧(q+k2=(cv ls v n).length)∧(∀s∈jq,oX n ls v s)∧(jq.length≤12*i+q)) ((cv ls v n).length) ?_ ?_
 exact⟨va,acc,0,rfl,rfl,rfl,rfl,rfl,rfl,rfl,rfl,hN,by omega,fU,ir⟩
 clear hN
 rintro k2 R1 eW ⟨qg,jq,q,bP,bV,cx,cW,cF,cR,eg,eQ,hN,yq,mY,Pa⟩
 have cB:=sR bP bV cx cW cF cR eg eQ
 obtain⟨sk,rfl⟩:=cB
 clear bP bV cx cW cF cR eg eQ
 iterate 2 refine RW.seq ?_
 refine RW.region (RL.ag (v:=vJ q) U (RL.ag (v:=v3) U ?_))
 have X7:=(hN.sl 2 rfl).bw
 refine RL.ag (aQ acu (hN.sl 2 rfl)) (RL.ag (aL) (RL.ak ?_))
 refine RW.aG _ (fun eD=>?_) (fun eD=>?_)
 refine RW.skip (aw (RW.seq (RW.block (RW.seq ?_))))
 replace hN:=hN.ext (Ext.drew eW)
 refine RW.bD (fun u=>aI w none_ u [.aJ M3 [.int .i64 (xp.1),.int .i64 (xp.2.1),.int .i64 (xp.2.2)] 96,.cp aV 5 98 (qg) (jq),.own vI 3 (v3) (cv ls v n),.own vI 3 (v2) (dj ls v n),.aJ g1 [vJ n,iv,lv,ov] 194]) 13 [(0,0),(1,0),(2,0),(3,0),(4,0),(5,0)] (by intro _ _ _ h;exact h) hN (RQ.aA rfl (fun w hS=>(aE (cs:=[vJ n,iv,lv,ov]) acD cK (hS.aJ 4 rfl))) (RQ.aA (v:=.int .i64 (v)) rfl (fun w hS=>U) (RQ.aA (v:=v3) rfl (fun w hS=>U) (RQ.aA (v:=vJ q) rfl (fun w hS=>U) (RQ.aA rfl (fun w hS=>(aC acu bK (hS.sl 2 rfl))) ?_)))))
 have aO:=da ((cv ls v n)) q
 obtain⟨ar,jS⟩:=aO
 refine RQ.aA rfl (fun w hS=>(aF (m:=q) (a:=ar) acs (hS.sl 2 rfl) jS)) ?_
 have aO:=(pA (acy jS)).2.2.some
 obtain⟨xr,ua⟩:=aO
 have Z5:0≤xr.1:=(hT.ws _ (dU ua)).2.2.2.2.1
 have Z2:xr.1≤M:=(hT.ws _ (dU ua)).2.2.2.2.2
 refine RQ.two (i:=6) (j:=10) [(7,0),(8,0),(9,0),(10,1),(11,1),(12,0)] [(6,1),(7,0),(8,0),(9,0),(11,1),(12,0)] (by kernel_rfl) rfl rfl rfl rfl (by kernel_rfl) ?_ ?_
 refine(cq ad1 rfl rfl rfl rfl rfl ((lk n _ _ _ ins ls lost _ (hi.o.now hN) (hl.o.now hN) (ho.o.now hN) v ar xr ua).mono ?_))
 rintro _ LS ⟨rfl,bn⟩
 replace hN:=hN.ext bn
 clear bn
 refine⟨hN,?_⟩
 refine RQ.aA (v:=.tuple #[.agg #[.int .i64 (xr.1),.int .i64 (xr.2.1),.int .i64 (xr.2.2)],.bool true]) rfl (fun w hS=>U) ?_
 iterate 2 refine RQ.aA rfl (fun w hS=>(bA)) ?_
 refine RQ.b0 rfl (bz (cs:=[.int .i64 (0),.int .i64 (0),.int .i64 (0)]) eV rfl hN ?_)
 clear hN
 intro Yw LR (hN:aI w none_ LR [_,_,_,_,_,_])
 refine⟨(hN.sb [1,2,3,4,5]),?_⟩
 refine RQ.b0 rfl (aR (vs:=[.int .i64 (xr.1),.int .i64 (xr.2.1),.int .i64 (xr.2.2)]) cU rfl rfl rfl (aW (aW (aW cZ))) hN 0 rfl rfl ?_)
 clear hN
 intro JJ (hN:aI w none_ JJ [_,_,_,_,_,_])
 refine⟨(hN.sb [1,2,3,4,5]),?_⟩
 refine RQ.aA (v:=.bool true) rfl (fun w hS=>ai) (RQ.bq (aw (RW.seq ?_)))
 replace hN:=hN.ext (Ext.drew JJ)
 refine RW.bD (fun u=>aI w none_ u [.aJ Yw [.int .i64 (xr.1),.int .i64 (xr.2.1),.int .i64 (xr.2.2)] 96,.aJ M3 [.int .i64 (xp.1),.int .i64 (xp.2.1),.int .i64 (xp.2.2)] 96,.cp aV 5 98 (qg) (jq),.own vI 3 (v3) (cv ls v n),.own vI 3 (v2) (dj ls v n),.aJ g1 [vJ n,iv,lv,ov] 194]) 28 [(0,0),(1,0),(2,0),(3,0),(4,0),(5,0),(6,0),(7,0),(8,0),(9,0),(10,0),(11,0),(12,0),(13,0),(14,0),(15,0),(16,0),(17,0),(18,0),(19,0),(20,0),(21,0),(22,0),(23,0),(24,0),(25,1),(26,0),(27,0)] (by intro _ _ _ h;exact h) hN (RQ.aA (v:=v2) rfl (fun w hS=>U) (RQ.aA (v:=vJ i) rfl (fun w hS=>U) (RQ.aA rfl (fun w hS=>(aC acu bK (hS.sl 4 rfl))) (RQ.aA rfl (fun w hS=>(aF (m:=i) (a:=ap) acs (hS.sl 4 rfl) bX)) (RQ.aA (v:=v3) rfl (fun w hS=>U) (RQ.aA (v:=vJ q) rfl (fun w hS=>U) (RQ.aA rfl (fun w hS=>(aC acu bK (hS.sl 3 rfl))) (RQ.aA rfl (fun w hS=>(aF (m:=q) (a:=ar) acs (hS.sl 3 rfl) jS)) (RQ.aA rfl (fun w hS=>(bj)) ?_)))))))))
 refine RQ.aA (v:=.bool (decide (¬ap=ar))) rfl (fun w hS=>U) ?_
 by_cases iJ:¬ap=ar
 rw[decide_eq_true iJ]
 refine RQ.aS rfl (fun w hS=>(aE (cs:=[vJ n,iv,lv,ov]) acD cK (hS.aJ 5 rfl))) (RQ.aS (v:=v2) rfl (fun w hS=>U) (RQ.aS (v:=vJ i) rfl (fun w hS=>U) (RQ.aS rfl (fun w hS=>(aC acu bK (hS.sl 4 rfl))) (RQ.aS rfl (fun w hS=>(aF (m:=i) (a:=ap) acs (hS.sl 4 rfl) bX)) (RQ.aS (v:=v3) rfl (fun w hS=>U) (RQ.aS (v:=vJ q) rfl (fun w hS=>U) (RQ.aS rfl (fun w hS=>(aC acu bK (hS.sl 3 rfl))) (RQ.aS rfl (fun w hS=>(aF (m:=q) (a:=ar) acs (hS.sl 3 rfl) jS)) (RQ.aS (v:=.int .i64 (v)) rfl (fun w hS=>U) ?_)))))))))
 refine RQ.aS rfl (fun w hS=>(ah acH rfl bK)) (RQ.aS rfl (fun w hS=>(aj acs (hS.aJ 1 rfl))) (RQ.aS rfl (fun w hS=>(ah acH rfl bK)) (RQ.aS rfl (fun w hS=>(aj acs (hS.aJ 0 rfl))) (RQ.aS rfl (fun w hS=>(aD rfl rfl rfl (bh (by omega) (by omega)))) ?_))))
 refine RQ.ob rfl rfl rfl rfl (lF agt rfl rfl rfl rfl rfl rfl rfl ((me n _ _ _ ins ls lost _ (hi.o.now hN) (hl.o.now hN) (ho.o.now hN) ap ar v (xp.1+xr.1) M hT hM R5 (by omega)).mono ?_))
 rintro _ Nu ⟨b44,rfl,bn⟩
 replace hN:=hN.ext bn
 clear bn
 refine⟨hN,?_⟩
 refine RQ.aS rfl (fun w hS=>(cV rfl)) (RQ.aA (v:=.bool (decide (¬(b44=true)))) rfl (fun w hS=>(al)) (RQ.bq (aw ?_)))
 refine RW.aG _ (fun Cy=>?_) (fun Cy=>?_)
 replace hN:=hN.ext (Ext.drew Nu)
 refine RW.bD (fun u=>aI w none_ u [.aJ Yw [.int .i64 (xr.1),.int .i64 (xr.2.1),.int .i64 (xr.2.2)] 96,.aJ M3 [.int .i64 (xp.1),.int .i64 (xp.2.1),.int .i64 (xp.2.2)] 96,.own vI 3 (v3) (cv ls v n),.own vI 3 (v2) (dj ls v n),.aJ g1 [vJ n,iv,lv,ov] 194]) 20 [(0,0),(1,0),(2,0),(3,0),(4,0),(5,0),(6,0),(7,0),(8,0),(9,0),(10,0),(11,0),(12,0),(13,0),(14,0),(15,0),(16,0),(17,1),(18,1),(19,0)] (by intro _ _ _ h;exact h) (hN.sb [0,1,3,4,5]) (RQ.aA (v:=qg) rfl (fun w hS=>U) (RQ.aA (v:=v2) rfl (fun w hS=>U) (RQ.aA (v:=vJ i) rfl (fun w hS=>U) (RQ.aA rfl (fun w hS=>(aC acu bK (hS.sl 3 rfl))) (RQ.aA rfl (fun w hS=>(aF (m:=i) (a:=ap) acs (hS.sl 3 rfl) bX)) (RQ.aA (v:=v3) rfl (fun w hS=>U) (RQ.aA (v:=vJ q) rfl (fun w hS=>U) (RQ.aA rfl (fun w hS=>(aC acu bK (hS.sl 2 rfl))) (RQ.aA rfl (fun w hS=>(aF (m:=q) (a:=ar) acs (hS.sl 2 rfl) jS)) ?_)))))))))
 refine RQ.aA rfl (fun w hS=>(ah acH rfl bK)) (RQ.aA rfl (fun w hS=>(aj acs (hS.aJ 1 rfl))) (RQ.aA rfl (fun w hS=>(ah acH rfl bK)) (RQ.aA rfl (fun w hS=>(aj acs (hS.aJ 0 rfl))) (RQ.aA rfl (fun w hS=>(aD rfl rfl rfl (bh (by omega) (by omega)))) (RQ.aA (v:=.int .i64 (v)) rfl (fun w hS=>U) (RQ.aA rfl (fun w hS=>(bT (cs:=[.int .i64 (xp.1+xr.1),.int .i64 (v),.int .i64 (-1)]) acH eV (places:=#[(0,1),(1,1),(2,1)]) (by intro w;kernel_rfl) (pl:=[(0,.tmp 93),(1,.tmp 94),(2,.const (.int .i64 (-1)))]) rfl (ps:=[(0,.int .i64 (xp.1+xr.1)),(1,.int .i64 (v)),(2,.int .i64 (-1))]) rfl (zc:=[.int .i64 (0),.int .i64 (0),.int .i64 (0)]) rfl (aP (vs:=[.int .i64 (xp.1+xr.1)]) rfl rfl (acv rfl) (aP (vs:=[.int .i64 (v)]) rfl rfl (acv rfl) (aP (vs:=[.int .i64 (-1)]) rfl rfl (acv rfl) rfl))))) (RQ.aA rfl (fun w hS=>(bT (cs:=[.int .i64 (ap),.int .i64 (ar),.int .i64 (xp.1+xr.1),.int .i64 (v),.int .i64 (-1)]) acB gu (places:=#[(0,1),(1,1),(2,3)]) (by intro w;kernel_rfl) (pl:=[(0,.tmp 84),(1,.tmp 88),(2,.tmp 95)]) rfl (ps:=[(0,.int .i64 (ap)),(1,.int .i64 (ar)),(2,.agg #[.int .i64 (xp.1+xr.1),.int .i64 (v),.int .i64 (-1)])]) rfl (zc:=[.int .i64 (0),.int .i64 (0),.int .i64 (0),.int .i64 (0),.int .i64 (0)]) rfl (aP (vs:=[.int .i64 (ap)]) rfl rfl (acv rfl) (aP (vs:=[.int .i64 (ar)]) rfl rfl (acv rfl) (aP (vs:=[.int .i64 (xp.1+xr.1),.int .i64 (v),.int .i64 (-1)]) rfl rfl (acv rfl) rfl))))) ?_)))))))
 refine RQ.b0 rfl (dB (cf:=aV) (s:=5) (pl:=[(0,.tmp 96)]) (ps:=[(0,.agg #[.int .i64 (ap),.int .i64 (ar),.int .i64 (xp.1+xr.1),.int .i64 (v),.int .i64 (-1)])]) (zc:=[.int .i64 (0),.int .i64 (0),.int .i64 (0),.int .i64 (0),.int .i64 (0)]) (l:=[(ap,ar,xp.1+xr.1,v,-1)]) acG jx (by kernel_rfl) rfl rfl (aP (vs:=[.int .i64 (ap),.int .i64 (ar),.int .i64 (xp.1+xr.1),.int .i64 (v),.int .i64 (-1)]) rfl rfl (acv rfl) rfl) aH rfl (by decide) (by decide) (by decide) hN ?_)
 clear hN
 intro Yu Nt (hN:aI w none_ Nt [_,_,_,_,_,_,_])
 refine⟨(hN.sb [1,2,4,5,6]),?_⟩
 refine RQ.b0 rfl (ct acG jx rfl (by decide) dx aH hN 3 rfl rfl (hN.sm 0 rfl) rfl (by(try simp only[acw,acC,acF,acN]);omega) (by decide) ?_)
 clear hN
 intro T8 PZ (hN:aI w none_ PZ [_,_,_,_,_,_,_])
 refine⟨(hN.sb [1,2,4,5,6]),?_⟩
 refine RQ.aA (v:=T8) rfl (fun w hS=>ai) (RQ.bq (aY (aw (RW.region (RL.ag (v:=vJ q) U (RL.ag (aD rfl rfl rfl (bh (by omega) (by omega))) (RL.ag (v:=.int .i64 ((q:Int)+1)) ai (RL.ak ?_))))))))
 exact⟨k2-1,by omega,T8,jq++[(ap,ar,xp.1+xr.1,v,-1)],q+1,rfl,rfl,rfl,rfl,rfl,rfl,rfl,rfl,(hN.sb [2,3,4,5,6]),by omega,fun s hs=>(adl.1 hs).elim (mY s) fun h=>by rw[ade]at h;subst h;exact⟨⟨iJ,rfl,rfl⟩,_,_,Mc,ua,rfl⟩,by(try simp only[acw,acC]);omega⟩
 refine RW.skip (aY (aw (RW.region (RL.ag (v:=vJ q) U (RL.ag (aD rfl rfl rfl (bh (by omega) (by omega))) (RL.ag (v:=.int .i64 ((q:Int)+1)) ai (RL.ak ?_)))))))
 exact⟨k2-1,by omega,qg,jq,q+1,rfl,rfl,rfl,rfl,rfl,rfl,rfl,rfl,(hN.sb [1,2,3,4,5]),by omega,mY,by omega⟩
 rw[decide_eq_false iJ]
 iterate 17 refine RQ.bU rfl ?_
 refine RQ.aA (v:=.bool false) rfl (fun w hS=>(aB)) (RQ.bq (aw (RW.cg (RW.skip (aY (aw (RW.region (RL.ag (v:=vJ q) U (RL.ag (aD rfl rfl rfl (bh (by omega) (by omega))) ?_)))))))))
 refine RL.ag (v:=.int .i64 ((q:Int)+1)) ai (RL.ak ?_)
 exact⟨k2-1,by omega,qg,jq,q+1,rfl,rfl,rfl,rfl,rfl,rfl,rfl,rfl,(hN.sb [1,2,3,4,5]),by omega,mY,by omega⟩
 refine(bz (cs:=[.int .i64 (0),.int .i64 (0),.int .i64 (0)]) eV rfl hN ?_)
 clear hN
 intro Wm QH (hN:aI w none_ QH [_,_,_,_,_,_])
 refine⟨(hN.sb [1,2,3,4,5]),?_⟩
 refine RQ.b0 rfl (cq ad1 rfl rfl rfl rfl rfl ((lk n _ _ _ ins ls lost _ (hi.o.now hN) (hl.o.now hN) (ho.o.now hN) v ar xr ua).mono ?_))
 rintro _ PY ⟨rfl,bn⟩
 replace hN:=hN.ext bn
 clear bn
 refine⟨(hN.sb [1,2,3,4,5]),?_⟩
 refine RQ.aA (v:=.tuple #[.agg #[.int .i64 (xr.1),.int .i64 (xr.2.1),.int .i64 (xr.2.2)],.bool true]) rfl (fun w hS=>U) ?_
 iterate 2 refine RQ.aA rfl (fun w hS=>(bA)) ?_
 refine RQ.b0 rfl (aR (vs:=[.int .i64 (xr.1),.int .i64 (xr.2.1),.int .i64 (xr.2.2)]) cU rfl rfl rfl (aW (aW (aW cZ))) hN 0 rfl rfl ?_)
 clear hN
 intro LQ (hN:aI w none_ LQ [_,_,_,_,_,_])
 refine⟨(hN.sb [1,2,3,4,5]),?_⟩
 refine RQ.aA (v:=.bool true) rfl (fun w hS=>ai) (RQ.bq (aw (RW.seq ?_)))
 replace hN:=hN.ext (Ext.drew LQ)
 refine RW.bD (fun u=>aI w none_ u [.aJ Wm [.int .i64 (xr.1),.int .i64 (xr.2.1),.int .i64 (xr.2.2)] 96,.aJ M3 [.int .i64 (xp.1),.int .i64 (xp.2.1),.int .i64 (xp.2.2)] 96,.cp aV 5 98 (qg) (jq),.own vI 3 (v3) (cv ls v n),.own vI 3 (v2) (dj ls v n),.aJ g1 [vJ n,iv,lv,ov] 194]) 28 [(0,0),(1,0),(2,0),(3,0),(4,0),(5,0),(6,0),(7,0),(8,0),(9,0),(10,0),(11,0),(12,0),(13,0),(14,0),(15,0),(16,0),(17,0),(18,0),(19,0),(20,0),(21,0),(22,0),(23,0),(24,0),(25,1),(26,0),(27,0)] (by intro _ _ _ h;exact h) hN (RQ.aA (v:=v2) rfl (fun w hS=>U) (RQ.aA (v:=vJ i) rfl (fun w hS=>U) (RQ.aA rfl (fun w hS=>(aC acu bK (hS.sl 4 rfl))) (RQ.aA rfl (fun w hS=>(aF (m:=i) (a:=ap) acs (hS.sl 4 rfl) bX)) (RQ.aA (v:=v3) rfl (fun w hS=>U) (RQ.aA (v:=vJ q) rfl (fun w hS=>U) (RQ.aA rfl (fun w hS=>(aC acu bK (hS.sl 3 rfl))) (RQ.aA rfl (fun w hS=>(aF (m:=q) (a:=ar) acs (hS.sl 3 rfl) jS)) (RQ.aA rfl (fun w hS=>(bj)) ?_)))))))))
 refine RQ.aA (v:=.bool (decide (¬ap=ar))) rfl (fun w hS=>U) ?_
 by_cases iJ:¬ap=ar
 rw[decide_eq_true iJ]
 refine RQ.aS rfl (fun w hS=>(aE (cs:=[vJ n,iv,lv,ov]) acD cK (hS.aJ 5 rfl))) (RQ.aS (v:=v2) rfl (fun w hS=>U) (RQ.aS (v:=vJ i) rfl (fun w hS=>U) (RQ.aS rfl (fun w hS=>(aC acu bK (hS.sl 4 rfl))) (RQ.aS rfl (fun w hS=>(aF (m:=i) (a:=ap) acs (hS.sl 4 rfl) bX)) (RQ.aS (v:=v3) rfl (fun w hS=>U) (RQ.aS (v:=vJ q) rfl (fun w hS=>U) (RQ.aS rfl (fun w hS=>(aC acu bK (hS.sl 3 rfl))) (RQ.aS rfl (fun w hS=>(aF (m:=q) (a:=ar) acs (hS.sl 3 rfl) jS)) (RQ.aS (v:=.int .i64 (v)) rfl (fun w hS=>U) ?_)))))))))
 refine RQ.aS rfl (fun w hS=>(ah acH rfl bK)) (RQ.aS rfl (fun w hS=>(aj acs (hS.aJ 1 rfl))) (RQ.aS rfl (fun w hS=>(ah acH rfl bK)) (RQ.aS rfl (fun w hS=>(aj acs (hS.aJ 0 rfl))) (RQ.aS rfl (fun w hS=>(aD rfl rfl rfl (bh (by omega) (by omega)))) ?_))))
 refine RQ.ob rfl rfl rfl rfl (lF agt rfl rfl rfl rfl rfl rfl rfl ((me n _ _ _ ins ls lost _ (hi.o.now hN) (hl.o.now hN) (ho.o.now hN) ap ar v (xp.1+xr.1) M hT hM R5 (by omega)).mono ?_))
 rintro _ T5 ⟨b56,rfl,bn⟩
 replace hN:=hN.ext bn
 clear bn
 refine⟨hN,?_⟩
 refine RQ.aS rfl (fun w hS=>(cV rfl)) (RQ.aA (v:=.bool (decide (¬(b56=true)))) rfl (fun w hS=>(al)) (RQ.bq (aw ?_)))
 refine RW.aG _ (fun Cy=>?_) (fun Cy=>?_)
 replace hN:=hN.ext (Ext.drew T5)
 refine RW.bD (fun u=>aI w none_ u [.aJ Wm [.int .i64 (xr.1),.int .i64 (xr.2.1),.int .i64 (xr.2.2)] 96,.aJ M3 [.int .i64 (xp.1),.int .i64 (xp.2.1),.int .i64 (xp.2.2)] 96,.own vI 3 (v3) (cv ls v n),.own vI 3 (v2) (dj ls v n),.aJ g1 [vJ n,iv,lv,ov] 194]) 20 [(0,0),(1,0),(2,0),(3,0),(4,0),(5,0),(6,0),(7,0),(8,0),(9,0),(10,0),(11,0),(12,0),(13,0),(14,0),(15,0),(16,0),(17,1),(18,1),(19,0)] (by intro _ _ _ h;exact h) (hN.sb [0,1,3,4,5]) (RQ.aA (v:=qg) rfl (fun w hS=>U) (RQ.aA (v:=v2) rfl (fun w hS=>U) (RQ.aA (v:=vJ i) rfl (fun w hS=>U) (RQ.aA rfl (fun w hS=>(aC acu bK (hS.sl 3 rfl))) (RQ.aA rfl (fun w hS=>(aF (m:=i) (a:=ap) acs (hS.sl 3 rfl) bX)) (RQ.aA (v:=v3) rfl (fun w hS=>U) (RQ.aA (v:=vJ q) rfl (fun w hS=>U) (RQ.aA rfl (fun w hS=>(aC acu bK (hS.sl 2 rfl))) (RQ.aA rfl (fun w hS=>(aF (m:=q) (a:=ar) acs (hS.sl 2 rfl) jS)) ?_)))))))))
 refine RQ.aA rfl (fun w hS=>(ah acH rfl bK)) (RQ.aA rfl (fun w hS=>(aj acs (hS.aJ 1 rfl))) (RQ.aA rfl (fun w hS=>(ah acH rfl bK)) (RQ.aA rfl (fun w hS=>(aj acs (hS.aJ 0 rfl))) (RQ.aA rfl (fun w hS=>(aD rfl rfl rfl (bh (by omega) (by omega)))) (RQ.aA (v:=.int .i64 (v)) rfl (fun w hS=>U) (RQ.aA rfl (fun w hS=>(bT (cs:=[.int .i64 (xp.1+xr.1),.int .i64 (v),.int .i64 (-1)]) acH eV (places:=#[(0,1),(1,1),(2,1)]) (by intro w;kernel_rfl) (pl:=[(0,.tmp 93),(1,.tmp 94),(2,.const (.int .i64 (-1)))]) rfl (ps:=[(0,.int .i64 (xp.1+xr.1)),(1,.int .i64 (v)),(2,.int .i64 (-1))]) rfl (zc:=[.int .i64 (0),.int .i64 (0),.int .i64 (0)]) rfl (aP (vs:=[.int .i64 (xp.1+xr.1)]) rfl rfl (acv rfl) (aP (vs:=[.int .i64 (v)]) rfl rfl (acv rfl) (aP (vs:=[.int .i64 (-1)]) rfl rfl (acv rfl) rfl))))) (RQ.aA rfl (fun w hS=>(bT (cs:=[.int .i64 (ap),.int .i64 (ar),.int .i64 (xp.1+xr.1),.int .i64 (v),.int .i64 (-1)]) acB gu (places:=#[(0,1),(1,1),(2,3)]) (by intro w;kernel_rfl) (pl:=[(0,.tmp 84),(1,.tmp 88),(2,.tmp 95)]) rfl (ps:=[(0,.int .i64 (ap)),(1,.int .i64 (ar)),(2,.agg #[.int .i64 (xp.1+xr.1),.int .i64 (v),.int .i64 (-1)])]) rfl (zc:=[.int .i64 (0),.int .i64 (0),.int .i64 (0),.int .i64 (0),.int .i64 (0)]) rfl (aP (vs:=[.int .i64 (ap)]) rfl rfl (acv rfl) (aP (vs:=[.int .i64 (ar)]) rfl rfl (acv rfl) (aP (vs:=[.int .i64 (xp.1+xr.1),.int .i64 (v),.int .i64 (-1)]) rfl rfl (acv rfl) rfl))))) ?_)))))))
 refine RQ.b0 rfl (dB (cf:=aV) (s:=5) (pl:=[(0,.tmp 96)]) (ps:=[(0,.agg #[.int .i64 (ap),.int .i64 (ar),.int .i64 (xp.1+xr.1),.int .i64 (v),.int .i64 (-1)])]) (zc:=[.int .i64 (0),.int .i64 (0),.int .i64 (0),.int .i64 (0),.int .i64 (0)]) (l:=[(ap,ar,xp.1+xr.1,v,-1)]) acG jx (by kernel_rfl) rfl rfl (aP (vs:=[.int .i64 (ap),.int .i64 (ar),.int .i64 (xp.1+xr.1),.int .i64 (v),.int .i64 (-1)]) rfl rfl (acv rfl) rfl) aH rfl (by decide) (by decide) (by decide) hN ?_)
 clear hN
 intro g59 QG (hN:aI w none_ QG [_,_,_,_,_,_,_])
 refine⟨(hN.sb [1,2,4,5,6]),?_⟩
 refine RQ.b0 rfl (ct acG jx rfl (by decide) dx aH hN 3 rfl rfl (hN.sm 0 rfl) rfl (by(try simp only[acw,acC,acF,acN]);omega) (by decide) ?_)
 clear hN
 intro P4 Kb (hN:aI w none_ Kb [_,_,_,_,_,_,_])
 refine⟨(hN.sb [1,2,4,5,6]),?_⟩
 refine RQ.aA (v:=P4) rfl (fun w hS=>ai) (RQ.bq (aY (aw (RW.region (RL.ag (v:=vJ q) U (RL.ag (aD rfl rfl rfl (bh (by omega) (by omega))) (RL.ag (v:=.int .i64 ((q:Int)+1)) ai (RL.ak ?_))))))))
 exact⟨k2-1,by omega,P4,jq++[(ap,ar,xp.1+xr.1,v,-1)],q+1,rfl,rfl,rfl,rfl,rfl,rfl,rfl,rfl,(hN.sb [2,3,4,5,6]),by omega,fun s hs=>(adl.1 hs).elim (mY s) fun h=>by rw[ade]at h;subst h;exact⟨⟨iJ,rfl,rfl⟩,_,_,Mc,ua,rfl⟩,by(try simp only[acw,acC]);omega⟩
 refine RW.skip (aY (aw (RW.region (RL.ag (v:=vJ q) U (RL.ag (aD rfl rfl rfl (bh (by omega) (by omega))) (RL.ag (v:=.int .i64 ((q:Int)+1)) ai (RL.ak ?_)))))))
 exact⟨k2-1,by omega,qg,jq,q+1,rfl,rfl,rfl,rfl,rfl,rfl,rfl,rfl,(hN.sb [1,2,3,4,5]),by omega,mY,by omega⟩
 rw[decide_eq_false iJ]
 iterate 17 refine RQ.bU rfl ?_
 refine RQ.aA (v:=.bool false) rfl (fun w hS=>(aB)) (RQ.bq (aw (RW.cg (RW.skip (aY (aw (RW.region (RL.ag (v:=vJ q) U (RL.ag (aD rfl rfl rfl (bh (by omega) (by omega))) ?_)))))))))
 refine RL.ag (v:=.int .i64 ((q:Int)+1)) ai (RL.ak ?_)
 exact⟨k2-1,by omega,qg,jq,q+1,rfl,rfl,rfl,rfl,rfl,rfl,rfl,rfl,(hN.sb [1,2,3,4,5]),by omega,mY,by omega⟩
 refine RW.exit ?_
 iterate 2 refine bS ?_
 refine ba (aY (aw (RW.region (RL.ag (v:=vJ i) U (RL.ag (aD rfl rfl rfl (bh (by omega) (by omega))) (RL.ag (v:=.int .i64 ((i:Int)+1)) ai (RL.ak ?_)))))))
 exact⟨k-1,by omega,qg,jq,i+1,rfl,rfl,rfl,rfl,rfl,rfl,(hN.sb [1,2,3,4]),by omega,mY,by omega⟩
 refine RW.exit ?_
 iterate 2 refine bS ?_
 refine ba (aw (RW.aN (RL.ag (v:=va) U (RL.ag (v:=va) ai (RL.ak (RW.ret (bb (RV.tmp rfl) ?_)))))))
 exact⟨acc,hN.fT 0 rfl,fU,by omega,hN.bc⟩
end Go.Proofs.YtngkdkbpgoddlaaGreat
