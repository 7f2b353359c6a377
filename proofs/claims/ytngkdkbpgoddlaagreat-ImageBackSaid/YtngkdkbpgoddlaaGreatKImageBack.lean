/- The law ImageBack, for every input: its row, out of the walks. -/
import Derived.Test.YtngkdkbpgoddlaaGreatKImageBack6
set_option linter.unusedVariables false
set_option linter.unusedSimpArgs false
set_option linter.unusedSectionVars false
set_option maxHeartbeats 4000000
set_option maxRecDepth 100000
open Decidable renaming not_not → acX
open Go.Calls renaming mono → ahR
open Go.DataW renaming weightsEach → adS, trod_lt → agT
open Go.Proofs.Tryz renaming underlying3 → acy, underlying25 → acz, prog → acD, underlying28 → acE, underlying98 → acG, underlying194 → acI, underlying24 → acJ, underlying26 → acL, underlying96 → acN, underlying34 → acO, underlying22 → acP, underlying38 → acW, underlying111 → adt, underlying5 → ady, underlying45 → adL, func137 → ad9, underlying4 → aeJ, func13 → ae8, func10 → af6, func14 → af7, func185 → agy, func15 → agI, func12 → agJ, func136 → ahj, func138 → ahk, func24 → ahz, func18 → ahC, f7 → ahQ, func135 → aiA, checked → aiC, func58 → aiP, func19 → aiW, func21 → aiX, func17 → aiY, func23 → aiZ, func8 → ajg, func7 → ajh, func139 → akq, func132 → akr, func133 → aks, func134 → akt
open Go.Proofs.YtngkdkbpgoddlaaGreat.Rows renaming imageBackSpec → afT, imageBackRow → aiL
open Go.Value renaming okWide → aij
open Int renaming le_trans → afy
open List renaming length_append → acB, mem_of_getElem? → acC, length_singleton → acH, length_cons → acK, length_nil → acS, not_mem_nil → ac0, replicate → ac3, mem_cons → ac6, length_take → ac9, length_map → ada, length_replicate → adb, mem_singleton → adh, length_drop → adj, take_length → adm, mem_append → adn, append_assoc → adB, replicate_succ' → ah0
open Nat renaming le_of_ble_eq_true → acA, le_trans → acU, le_refl → ac8
namespace Go.Proofs.YtngkdkbpgoddlaaGreat
open Go.RowKit Go.Rl
open Go.Gr
theorem ya (n:Nat) (iv lv ov:Value) (ins:List Int) (ls:List I5) (lost:List Int) (w:World) (hi:Sl vI w iv ins) (hl:Sm aV w lv ls) (ho:Sl vI w ov lost) (v M:Int) (hT:Bj n M ins ls) (hM:0≤M) (Sd:(n:Int)*M≤1152921504606846976) (Qr:M≤1152921504606846976) (hn:n≤12):aM acD 134 #[.agg #[.int .i64 (n:Int),iv,lv,ov],.int .i64 v] w fun r w'=>∃out,fK aV 5 98 w' w.heap.size r out∧(∀s∈out,o7 n ls v s)∧out.length≤144∧Ext w w':=by
 refine aM.aZ akt ?_
 rw[cS]
 have hN:=aH.nil w none_
 have Fa:(df ls v n).length≤n:=dZ _ n
 have Om:(cw ls v n).length≤n:=dZ _ n
 refine RW.aN ?_
 refine RL.aL (bJ (cs:=[vJ n,iv,lv,ov]) rfl rfl hN ?_)
 clear hN
 intro g1 w1 (hN:aH w none_ w1 [_])
 refine RL.ag (v:=vN) ai (RL.bY (RL.ag (aE (cs:=[vJ n,iv,lv,ov]) acI cI (hN.aJ 0 rfl)) (RL.ag (v:=.int .i64 (v)) U ?_)))
 refine RL.aL (bu ahk rfl rfl rfl rfl ((qE n _ _ _ ins ls lost _ (hi.o.now hN) (hl.o.now hN) (ho.o.now hN) v (by omega)).mono ?_))
 rintro v2 w2 ⟨cL,bl⟩
 replace hN:aH w none_ w2 [_,_]:=hN.cl (l:=df ls v n) cL bl
 clear cL bl
 refine RL.ag (v:=v2) ai (RL.bY (RL.ag (aE (cs:=[vJ n,iv,lv,ov]) acI cI (hN.aJ 1 rfl)) (RL.ag (v:=.int .i64 (v)) U ?_)))
 refine RL.aL (bu ahj rfl rfl rfl rfl ((oO n _ _ _ ins ls lost _ (hi.o.now hN) (hl.o.now hN) (ho.o.now hN) v (by omega)).mono ?_))
 rintro v3 w3 ⟨cL,bl⟩
 replace hN:aH w none_ w3 [_,_,_]:=hN.cl (l:=cw ls v n) cL bl
 clear cL bl
 refine RL.ag (v:=v3) ai (RL.bY (RL.ag (v:=vN) ai (RL.ak ?_)))
 iterate 2 refine RW.seq ?_
 replace hN:=hN.ew aV 5 98
 replace hN:aH w none_ w3 [.cd aV 5 98 (vN) ([]),.own vI 3 (v3) (cw ls v n),.own vI 3 (v2) (df ls v n),.aJ g1 [vJ n,iv,lv,ov] 194]:=hN
 refine RW.region (RL.ag (v:=.int .i64 (0)) ai (RL.ak (RW.block ?_)))
 refine RW.loop (fun k R0 cv=>∃va:Value,∃acc:List I5,∃i:Nat,R0 1=.int .i64 (v)∧R0 2=vP g1∧R0 5=v2∧R0 6=v3∧R0 7=va∧R0 8=vJ i∧aH w none_ cv [.cd aV 5 98 (va) (acc),.own vI 3 (v3) (cw ls v n),.own vI 3 (v2) (df ls v n),.aJ g1 [vJ n,iv,lv,ov] 194]∧(i+k=(df ls v n).length)∧(∀s∈acc,o7 n ls v s)∧(acc.length≤12*i)) ((df ls v n).length) ?_ ?_
 exact⟨vN,[],0,rfl,rfl,rfl,rfl,rfl,rfl,hN,by omega,(fun s hs=>absurd hs ac0),ac8 _⟩
 clear hN
 rintro k R0 cv ⟨va,acc,i,bN,bQ,cy,cV,cC,cM,hN,fP,ff,im⟩
 have cz:=oK bN bQ cy cV cC cM
 obtain⟨fV,rfl⟩:=cz
 clear bN bQ cy cV cC cM
 iterate 2 refine RW.seq ?_
 refine RW.region (RL.ag (v:=vJ i) U (RL.ag (v:=v2) U ?_))
 have r7:=(hN.sl 2 rfl).bw
 refine RL.ag (aQ acz (hN.sl 2 rfl)) (RL.ag (aK) (RL.ak ?_))
 refine RW.aG _ (fun cD=>?_) (fun cD=>?_)
 refine RW.skip (aA (RW.seq (RW.block (RW.seq ?_))))
 replace hN:=hN.ext (Ext.drew cv)
 refine RW.bA (fun u=>aH w none_ u [.cd aV 5 98 (va) (acc),.own vI 3 (v3) (cw ls v n),.own vI 3 (v2) (df ls v n),.aJ g1 [vJ n,iv,lv,ov] 194]) 13 [(0,0),(1,0),(2,0),(3,0),(4,0),(5,0)] (by intro _ _ _ h;exact h) hN (RQ.an rfl (fun w hS=>(aE (cs:=[vJ n,iv,lv,ov]) acI cI (hS.aJ 3 rfl))) (RQ.an (v:=v2) rfl (fun w hS=>U) (RQ.an (v:=vJ i) rfl (fun w hS=>U) (RQ.an rfl (fun w hS=>(aC acz bI (hS.sl 2 rfl))) ?_))))
 have aO:=cQ ((df ls v n)) i
 obtain⟨ap,bV⟩:=aO
 refine RQ.an rfl (fun w hS=>(aF (m:=i) (a:=ap) acy (hS.sl 2 rfl) bV)) ?_
 have aO:=(sG (acC bV)).2.2.some
 obtain⟨xp,Ml⟩:=aO
 have eN:0≤xp.1:=(hT.ws _ (dS Ml)).2.2.2.2.1
 have hmp:xp.1≤M:=(hT.ws _ (dS Ml)).2.2.2.2.2
 refine RQ.an (v:=.int .i64 (v)) rfl (fun w hS=>U) ?_
 refine RQ.two (i:=6) (j:=10) [(7,0),(8,0),(9,0),(10,1),(11,1),(12,0)] [(6,1),(7,0),(8,0),(9,0),(11,1),(12,0)] (by kernel_rfl) rfl rfl rfl rfl (by kernel_rfl) ?_ ?_
 refine(cn ad9 rfl rfl rfl rfl rfl ((lr n _ _ _ ins ls lost _ (hi.o.now hN) (hl.o.now hN) (ho.o.now hN) ap v xp Ml).mono ?_))
 rintro _ w5 ⟨rfl,bl⟩
 replace hN:=hN.ext bl
 clear bl
 refine⟨hN,?_⟩
 refine RQ.an (v:=.tuple #[.agg #[.int .i64 (xp.1),.int .i64 (xp.2.1),.int .i64 (xp.2.2)],.bool true]) rfl (fun w hS=>U) ?_
 iterate 2 refine RQ.an rfl (fun w hS=>(bE)) ?_
 refine RQ.bW rfl (bz (cs:=[.int .i64 (0),.int .i64 (0),.int .i64 (0)]) eQ rfl hN ?_)
 clear hN
 intro g6 w6 (hN:aH w none_ w6 [_,_,_,_,_])
 refine⟨(hN.sb [1,2,3,4]),?_⟩
 refine RQ.bW rfl (aS (vs:=[.int .i64 (xp.1),.int .i64 (xp.2.1),.int .i64 (xp.2.2)]) cT rfl rfl rfl (bh (bh (bh cZ))) hN 0 rfl rfl ?_)
 clear hN
 intro w7 (hN:aH w none_ w7 [_,_,_,_,_])
 refine⟨(hN.sb [1,2,3,4]),?_⟩
 refine RQ.an (v:=.bool true) rfl (fun w hS=>ai) (RQ.bq (aA (RW.aN (RL.ag (v:=.int .i64 (0)) ai (RL.ak (RW.block ?_))))))
 refine RW.loop (fun k2 R1 ez=>∃qs:Value,∃js:List I5,∃q:Nat,R1 1=.int .i64 (v)∧R1 2=vP g1∧R1 5=v2∧R1 6=v3∧R1 7=qs∧R1 8=vJ i∧R1 9=vP g6∧R1 11=vJ q∧aH w none_ ez [.aJ g6 [.int .i64 (xp.1),.int .i64 (xp.2.1),.int .i64 (xp.2.2)] 96,.cd aV 5 98 (qs) (js),.own vI 3 (v3) (cw ls v n),.own vI 3 (v2) (df ls v n),.aJ g1 [vJ n,iv,lv,ov] 194]∧(q+k2=(cw ls v n).length)∧(∀s∈js,o7 n ls v s)∧(js.length≤12*i+q)) ((cw ls v n).length) ?_ ?_
 exact⟨va,acc,0,rfl,rfl,rfl,rfl,rfl,rfl,rfl,rfl,hN,by omega,ff,im⟩
 clear hN
 rintro k2 R1 ez ⟨qs,js,q,bN,bQ,cy,cV,cC,cM,dN,eu,hN,yl,j7,LD⟩
 have cz:=rN bN bQ cy cV cC cM dN eu
 obtain⟨re,rfl⟩:=cz
 clear bN bQ cy cV cC cM dN eu
 iterate 2 refine RW.seq ?_
 refine RW.region (RL.ag (v:=vJ q) U (RL.ag (v:=v3) U ?_))
 have LJ:=(hN.sl 2 rfl).bw
 refine RL.ag (aQ acz (hN.sl 2 rfl)) (RL.ag (aK) (RL.ak ?_))
 refine RW.aG _ (fun ep=>?_) (fun ep=>?_)
 refine RW.skip (aA (RW.seq (RW.block (RW.seq ?_))))
 replace hN:=hN.ext (Ext.drew ez)
 refine RW.bA (fun u=>aH w none_ u [.aJ g6 [.int .i64 (xp.1),.int .i64 (xp.2.1),.int .i64 (xp.2.2)] 96,.cd aV 5 98 (qs) (js),.own vI 3 (v3) (cw ls v n),.own vI 3 (v2) (df ls v n),.aJ g1 [vJ n,iv,lv,ov] 194]) 13 [(0,0),(1,0),(2,0),(3,0),(4,0),(5,0)] (by intro _ _ _ h;exact h) hN (RQ.an rfl (fun w hS=>(aE (cs:=[vJ n,iv,lv,ov]) acI cI (hS.aJ 4 rfl))) (RQ.an (v:=.int .i64 (v)) rfl (fun w hS=>U) (RQ.an (v:=v3) rfl (fun w hS=>U) (RQ.an (v:=vJ q) rfl (fun w hS=>U) (RQ.an rfl (fun w hS=>(aC acz bI (hS.sl 2 rfl))) ?_)))))
 have aO:=cQ ((cw ls v n)) q
 obtain⟨ar,jS⟩:=aO
 refine RQ.an rfl (fun w hS=>(aF (m:=q) (a:=ar) acy (hS.sl 2 rfl) jS)) ?_
 have aO:=(pG (acC jS)).2.2.some
 obtain⟨xr,ub⟩:=aO
 have hlr:0≤xr.1:=(hT.ws _ (dS ub)).2.2.2.2.1
 have hmr:xr.1≤M:=(hT.ws _ (dS ub)).2.2.2.2.2
 refine RQ.two (i:=6) (j:=10) [(7,0),(8,0),(9,0),(10,1),(11,1),(12,0)] [(6,1),(7,0),(8,0),(9,0),(11,1),(12,0)] (by kernel_rfl) rfl rfl rfl rfl (by kernel_rfl) ?_ ?_
 refine(cn ad9 rfl rfl rfl rfl rfl ((lr n _ _ _ ins ls lost _ (hi.o.now hN) (hl.o.now hN) (ho.o.now hN) v ar xr ub).mono ?_))
 rintro _ w9 ⟨rfl,bl⟩
 replace hN:=hN.ext bl
 clear bl
 refine⟨hN,?_⟩
 refine RQ.an (v:=.tuple #[.agg #[.int .i64 (xr.1),.int .i64 (xr.2.1),.int .i64 (xr.2.2)],.bool true]) rfl (fun w hS=>U) ?_
 iterate 2 refine RQ.an rfl (fun w hS=>(bE)) ?_
 refine RQ.bW rfl (bz (cs:=[.int .i64 (0),.int .i64 (0),.int .i64 (0)]) eQ rfl hN ?_)
 clear hN
 intro AS lR (hN:aH w none_ lR [_,_,_,_,_,_])
 refine⟨(hN.sb [1,2,3,4,5]),?_⟩
 refine RQ.bW rfl (aS (vs:=[.int .i64 (xr.1),.int .i64 (xr.2.1),.int .i64 (xr.2.2)]) cT rfl rfl rfl (bh (bh (bh cZ))) hN 0 rfl rfl ?_)
 clear hN
 intro kY (hN:aH w none_ kY [_,_,_,_,_,_])
 refine⟨(hN.sb [1,2,3,4,5]),?_⟩
 refine RQ.an (v:=.bool true) rfl (fun w hS=>ai) (RQ.bq (aA (RW.seq ?_)))
 replace hN:=hN.ext (Ext.drew kY)
 refine RW.bA (fun u=>aH w none_ u [.aJ AS [.int .i64 (xr.1),.int .i64 (xr.2.1),.int .i64 (xr.2.2)] 96,.aJ g6 [.int .i64 (xp.1),.int .i64 (xp.2.1),.int .i64 (xp.2.2)] 96,.cd aV 5 98 (qs) (js),.own vI 3 (v3) (cw ls v n),.own vI 3 (v2) (df ls v n),.aJ g1 [vJ n,iv,lv,ov] 194]) 28 [(0,0),(1,0),(2,0),(3,0),(4,0),(5,0),(6,0),(7,0),(8,0),(9,0),(10,0),(11,0),(12,0),(13,0),(14,0),(15,0),(16,0),(17,0),(18,0),(19,0),(20,0),(21,0),(22,0),(23,0),(24,0),(25,1),(26,0),(27,0)] (by intro _ _ _ h;exact h) hN (RQ.an (v:=v2) rfl (fun w hS=>U) (RQ.an (v:=vJ i) rfl (fun w hS=>U) (RQ.an rfl (fun w hS=>(aC acz bI (hS.sl 4 rfl))) (RQ.an rfl (fun w hS=>(aF (m:=i) (a:=ap) acy (hS.sl 4 rfl) bV)) (RQ.an (v:=v3) rfl (fun w hS=>U) (RQ.an (v:=vJ q) rfl (fun w hS=>U) (RQ.an rfl (fun w hS=>(aC acz bI (hS.sl 3 rfl))) (RQ.an rfl (fun w hS=>(aF (m:=q) (a:=ar) acy (hS.sl 3 rfl) jS)) (RQ.an rfl (fun w hS=>(bj)) ?_)))))))))
 refine RQ.an (v:=.bool (decide (¬ap=ar))) rfl (fun w hS=>U) ?_
 by_cases iG:¬ap=ar
 rw[decide_eq_true iG]
 refine RQ.aR rfl (fun w hS=>(aE (cs:=[vJ n,iv,lv,ov]) acI cI (hS.aJ 5 rfl))) (RQ.aR (v:=v2) rfl (fun w hS=>U) (RQ.aR (v:=vJ i) rfl (fun w hS=>U) (RQ.aR rfl (fun w hS=>(aC acz bI (hS.sl 4 rfl))) (RQ.aR rfl (fun w hS=>(aF (m:=i) (a:=ap) acy (hS.sl 4 rfl) bV)) (RQ.aR (v:=v3) rfl (fun w hS=>U) (RQ.aR (v:=vJ q) rfl (fun w hS=>U) (RQ.aR rfl (fun w hS=>(aC acz bI (hS.sl 3 rfl))) (RQ.aR rfl (fun w hS=>(aF (m:=q) (a:=ar) acy (hS.sl 3 rfl) jS)) (RQ.aR (v:=.int .i64 (v)) rfl (fun w hS=>U) ?_)))))))))
 refine RQ.aR rfl (fun w hS=>(ah acN rfl bI)) (RQ.aR rfl (fun w hS=>(aj acy (hS.aJ 1 rfl))) (RQ.aR rfl (fun w hS=>(ah acN rfl bI)) (RQ.aR rfl (fun w hS=>(aj acy (hS.aJ 0 rfl))) (RQ.aR rfl (fun w hS=>(aD rfl rfl rfl (bg (by omega) (by omega)))) ?_))))
 refine RQ.dQ rfl (lH agy rfl rfl rfl rfl rfl rfl rfl ((mc n _ _ _ ins ls lost _ (hi.o.now hN) (hl.o.now hN) (ho.o.now hN) ap ar v (xp.1+xr.1) M hT hM Sd (by omega)).mono ?_))
 rintro _ qq ⟨Qv,rfl,bl⟩
 replace hN:=hN.ext bl
 clear bl
 refine⟨hN,?_⟩
 refine RQ.aR rfl (fun w hS=>(cU rfl)) (RQ.an (v:=.bool (decide (¬(Qv=true)))) rfl (fun w hS=>(al)) (RQ.bq (aA ?_)))
 refine RW.aG _ (fun CP=>?_) (fun CP=>?_)
 replace hN:=hN.ext (Ext.drew qq)
 refine RW.bA (fun u=>aH w none_ u [.aJ AS [.int .i64 (xr.1),.int .i64 (xr.2.1),.int .i64 (xr.2.2)] 96,.aJ g6 [.int .i64 (xp.1),.int .i64 (xp.2.1),.int .i64 (xp.2.2)] 96,.own vI 3 (v3) (cw ls v n),.own vI 3 (v2) (df ls v n),.aJ g1 [vJ n,iv,lv,ov] 194]) 20 [(0,0),(1,0),(2,0),(3,0),(4,0),(5,0),(6,0),(7,0),(8,0),(9,0),(10,0),(11,0),(12,0),(13,0),(14,0),(15,0),(16,0),(17,1),(18,1),(19,0)] (by intro _ _ _ h;exact h) (hN.sb [0,1,3,4,5]) (RQ.an (v:=qs) rfl (fun w hS=>U) (RQ.an (v:=v2) rfl (fun w hS=>U) (RQ.an (v:=vJ i) rfl (fun w hS=>U) (RQ.an rfl (fun w hS=>(aC acz bI (hS.sl 3 rfl))) (RQ.an rfl (fun w hS=>(aF (m:=i) (a:=ap) acy (hS.sl 3 rfl) bV)) (RQ.an (v:=v3) rfl (fun w hS=>U) (RQ.an (v:=vJ q) rfl (fun w hS=>U) (RQ.an rfl (fun w hS=>(aC acz bI (hS.sl 2 rfl))) (RQ.an rfl (fun w hS=>(aF (m:=q) (a:=ar) acy (hS.sl 2 rfl) jS)) ?_)))))))))
 refine RQ.an rfl (fun w hS=>(ah acN rfl bI)) (RQ.an rfl (fun w hS=>(aj acy (hS.aJ 1 rfl))) (RQ.an rfl (fun w hS=>(ah acN rfl bI)) (RQ.an rfl (fun w hS=>(aj acy (hS.aJ 0 rfl))) (RQ.an rfl (fun w hS=>(aD rfl rfl rfl (bg (by omega) (by omega)))) (RQ.an (v:=.int .i64 (v)) rfl (fun w hS=>U) (RQ.an rfl (fun w hS=>(bR (cs:=[.int .i64 (xp.1+xr.1),.int .i64 (v),.int .i64 (-1)]) acN eQ (places:=#[(0,1),(1,1),(2,1)]) (by intro w;kernel_rfl) (pl:=[(0,.tmp 93),(1,.tmp 94),(2,.const (.int .i64 (-1)))]) rfl (ps:=[(0,.int .i64 (xp.1+xr.1)),(1,.int .i64 (v)),(2,.int .i64 (-1))]) rfl (zc:=[.int .i64 (0),.int .i64 (0),.int .i64 (0)]) rfl (aP (vs:=[.int .i64 (xp.1+xr.1)]) rfl rfl (acA rfl) (aP (vs:=[.int .i64 (v)]) rfl rfl (acA rfl) (aP (vs:=[.int .i64 (-1)]) rfl rfl (acA rfl) rfl))))) (RQ.an rfl (fun w hS=>(bR (cs:=[.int .i64 (ap),.int .i64 (ar),.int .i64 (xp.1+xr.1),.int .i64 (v),.int .i64 (-1)]) acG fW (places:=#[(0,1),(1,1),(2,3)]) (by intro w;kernel_rfl) (pl:=[(0,.tmp 84),(1,.tmp 88),(2,.tmp 95)]) rfl (ps:=[(0,.int .i64 (ap)),(1,.int .i64 (ar)),(2,.agg #[.int .i64 (xp.1+xr.1),.int .i64 (v),.int .i64 (-1)])]) rfl (zc:=[.int .i64 (0),.int .i64 (0),.int .i64 (0),.int .i64 (0),.int .i64 (0)]) rfl (aP (vs:=[.int .i64 (ap)]) rfl rfl (acA rfl) (aP (vs:=[.int .i64 (ar)]) rfl rfl (acA rfl) (aP (vs:=[.int .i64 (xp.1+xr.1),.int .i64 (v),.int .i64 (-1)]) rfl rfl (acA rfl) rfl))))) ?_)))))))
 refine RQ.bW rfl (dn (cf:=aV) (s:=5) (pl:=[(0,.tmp 96)]) (ps:=[(0,.agg #[.int .i64 (ap),.int .i64 (ar),.int .i64 (xp.1+xr.1),.int .i64 (v),.int .i64 (-1)])]) (zc:=[.int .i64 (0),.int .i64 (0),.int .i64 (0),.int .i64 (0),.int .i64 (0)]) (l:=[(ap,ar,xp.1+xr.1,v,-1)]) acL jz (by kernel_rfl) rfl rfl (aP (vs:=[.int .i64 (ap),.int .i64 (ar),.int .i64 (xp.1+xr.1),.int .i64 (v),.int .i64 (-1)]) rfl rfl (acA rfl) rfl) aI rfl (by decide) (by decide) (by decide) hN ?_)
 clear hN
 intro TU zo (hN:aH w none_ zo [_,_,_,_,_,_,_])
 refine⟨(hN.sb [1,2,4,5,6]),?_⟩
 refine RQ.bW rfl (cp acL jz rfl (by decide) dp aI hN 3 rfl rfl (hN.sm 0 rfl) rfl (by(try simp only[acB,acH,acK,acS]);omega) (by decide) ?_)
 clear hN
 intro v20 Bp (hN:aH w none_ Bp [_,_,_,_,_,_,_])
 refine⟨(hN.sb [1,2,4,5,6]),?_⟩
 refine RQ.an (v:=v20) rfl (fun w hS=>ai) (RQ.bq (ba (aA (RW.region (RL.ag (v:=vJ q) U (RL.ag (aD rfl rfl rfl (bg (by omega) (by omega))) (RL.ag (v:=.int .i64 ((q:Int)+1)) ai (RL.ak ?_))))))))
 exact⟨k2-1,by omega,v20,js++[(ap,ar,xp.1+xr.1,v,-1)],q+1,rfl,rfl,rfl,rfl,rfl,rfl,rfl,rfl,(hN.sb [2,3,4,5,6]),by omega,fun s hs=>(adn.1 hs).elim (j7 s) fun h=>by rw[adh]at h;subst h;exact⟨⟨iG,rfl,rfl⟩,_,_,Ml,ub,rfl⟩,by(try simp only[acB,acH]);omega⟩
 refine RW.skip (ba (aA (RW.region (RL.ag (v:=vJ q) U (RL.ag (aD rfl rfl rfl (bg (by omega) (by omega))) (RL.ag (v:=.int .i64 ((q:Int)+1)) ai (RL.ak ?_)))))))
 exact⟨k2-1,by omega,qs,js,q+1,rfl,rfl,rfl,rfl,rfl,rfl,rfl,rfl,(hN.sb [1,2,3,4,5]),by omega,j7,by omega⟩
 rw[decide_eq_false iG]
 iterate 17 refine RQ.bU rfl ?_
 refine RQ.an (v:=.bool false) rfl (fun w hS=>(aB)) (RQ.bq (aA (RW.cj (RW.skip (ba (aA (RW.region (RL.ag (v:=vJ q) U (RL.ag (aD rfl rfl rfl (bg (by omega) (by omega))) ?_)))))))))
 refine RL.ag (v:=.int .i64 ((q:Int)+1)) ai (RL.ak ?_)
 exact⟨k2-1,by omega,qs,js,q+1,rfl,rfl,rfl,rfl,rfl,rfl,rfl,rfl,(hN.sb [1,2,3,4,5]),by omega,j7,by omega⟩
 refine(bz (cs:=[.int .i64 (0),.int .i64 (0),.int .i64 (0)]) eQ rfl hN ?_)
 clear hN
 intro Wr BB (hN:aH w none_ BB [_,_,_,_,_,_])
 refine⟨(hN.sb [1,2,3,4,5]),?_⟩
 refine RQ.bW rfl (cn ad9 rfl rfl rfl rfl rfl ((lr n _ _ _ ins ls lost _ (hi.o.now hN) (hl.o.now hN) (ho.o.now hN) v ar xr ub).mono ?_))
 rintro _ yY ⟨rfl,bl⟩
 replace hN:=hN.ext bl
 clear bl
 refine⟨(hN.sb [1,2,3,4,5]),?_⟩
 refine RQ.an (v:=.tuple #[.agg #[.int .i64 (xr.1),.int .i64 (xr.2.1),.int .i64 (xr.2.2)],.bool true]) rfl (fun w hS=>U) ?_
 iterate 2 refine RQ.an rfl (fun w hS=>(bE)) ?_
 refine RQ.bW rfl (aS (vs:=[.int .i64 (xr.1),.int .i64 (xr.2.1),.int .i64 (xr.2.2)]) cT rfl rfl rfl (bh (bh (bh cZ))) hN 0 rfl rfl ?_)
 clear hN
 intro zn (hN:aH w none_ zn [_,_,_,_,_,_])
 refine⟨(hN.sb [1,2,3,4,5]),?_⟩
 refine RQ.an (v:=.bool true) rfl (fun w hS=>ai) (RQ.bq (aA (RW.seq ?_)))
 replace hN:=hN.ext (Ext.drew zn)
 refine RW.bA (fun u=>aH w none_ u [.aJ Wr [.int .i64 (xr.1),.int .i64 (xr.2.1),.int .i64 (xr.2.2)] 96,.aJ g6 [.int .i64 (xp.1),.int .i64 (xp.2.1),.int .i64 (xp.2.2)] 96,.cd aV 5 98 (qs) (js),.own vI 3 (v3) (cw ls v n),.own vI 3 (v2) (df ls v n),.aJ g1 [vJ n,iv,lv,ov] 194]) 28 [(0,0),(1,0),(2,0),(3,0),(4,0),(5,0),(6,0),(7,0),(8,0),(9,0),(10,0),(11,0),(12,0),(13,0),(14,0),(15,0),(16,0),(17,0),(18,0),(19,0),(20,0),(21,0),(22,0),(23,0),(24,0),(25,1),(26,0),(27,0)] (by intro _ _ _ h;exact h) hN (RQ.an (v:=v2) rfl (fun w hS=>U) (RQ.an (v:=vJ i) rfl (fun w hS=>U) (RQ.an rfl (fun w hS=>(aC acz bI (hS.sl 4 rfl))) (RQ.an rfl (fun w hS=>(aF (m:=i) (a:=ap) acy (hS.sl 4 rfl) bV)) (RQ.an (v:=v3) rfl (fun w hS=>U) (RQ.an (v:=vJ q) rfl (fun w hS=>U) (RQ.an rfl (fun w hS=>(aC acz bI (hS.sl 3 rfl))) (RQ.an rfl (fun w hS=>(aF (m:=q) (a:=ar) acy (hS.sl 3 rfl) jS)) (RQ.an rfl (fun w hS=>(bj)) ?_)))))))))
 refine RQ.an (v:=.bool (decide (¬ap=ar))) rfl (fun w hS=>U) ?_
 by_cases iG:¬ap=ar
 rw[decide_eq_true iG]
 refine RQ.aR rfl (fun w hS=>(aE (cs:=[vJ n,iv,lv,ov]) acI cI (hS.aJ 5 rfl))) (RQ.aR (v:=v2) rfl (fun w hS=>U) (RQ.aR (v:=vJ i) rfl (fun w hS=>U) (RQ.aR rfl (fun w hS=>(aC acz bI (hS.sl 4 rfl))) (RQ.aR rfl (fun w hS=>(aF (m:=i) (a:=ap) acy (hS.sl 4 rfl) bV)) (RQ.aR (v:=v3) rfl (fun w hS=>U) (RQ.aR (v:=vJ q) rfl (fun w hS=>U) (RQ.aR rfl (fun w hS=>(aC acz bI (hS.sl 3 rfl))) (RQ.aR rfl (fun w hS=>(aF (m:=q) (a:=ar) acy (hS.sl 3 rfl) jS)) (RQ.aR (v:=.int .i64 (v)) rfl (fun w hS=>U) ?_)))))))))
 refine RQ.aR rfl (fun w hS=>(ah acN rfl bI)) (RQ.aR rfl (fun w hS=>(aj acy (hS.aJ 1 rfl))) (RQ.aR rfl (fun w hS=>(ah acN rfl bI)) (RQ.aR rfl (fun w hS=>(aj acy (hS.aJ 0 rfl))) (RQ.aR rfl (fun w hS=>(aD rfl rfl rfl (bg (by omega) (by omega)))) ?_))))
 refine RQ.dQ rfl (lH agy rfl rfl rfl rfl rfl rfl rfl ((mc n _ _ _ ins ls lost _ (hi.o.now hN) (hl.o.now hN) (ho.o.now hN) ap ar v (xp.1+xr.1) M hT hM Sd (by omega)).mono ?_))
 rintro _ Eb ⟨Tg,rfl,bl⟩
 replace hN:=hN.ext bl
 clear bl
 refine⟨hN,?_⟩
 refine RQ.aR rfl (fun w hS=>(cU rfl)) (RQ.an (v:=.bool (decide (¬(Tg=true)))) rfl (fun w hS=>(al)) (RQ.bq (aA ?_)))
 refine RW.aG _ (fun CP=>?_) (fun CP=>?_)
 replace hN:=hN.ext (Ext.drew Eb)
 refine RW.bA (fun u=>aH w none_ u [.aJ Wr [.int .i64 (xr.1),.int .i64 (xr.2.1),.int .i64 (xr.2.2)] 96,.aJ g6 [.int .i64 (xp.1),.int .i64 (xp.2.1),.int .i64 (xp.2.2)] 96,.own vI 3 (v3) (cw ls v n),.own vI 3 (v2) (df ls v n),.aJ g1 [vJ n,iv,lv,ov] 194]) 20 [(0,0),(1,0),(2,0),(3,0),(4,0),(5,0),(6,0),(7,0),(8,0),(9,0),(10,0),(11,0),(12,0),(13,0),(14,0),(15,0),(16,0),(17,1),(18,1),(19,0)] (by intro _ _ _ h;exact h) (hN.sb [0,1,3,4,5]) (RQ.an (v:=qs) rfl (fun w hS=>U) (RQ.an (v:=v2) rfl (fun w hS=>U) (RQ.an (v:=vJ i) rfl (fun w hS=>U) (RQ.an rfl (fun w hS=>(aC acz bI (hS.sl 3 rfl))) (RQ.an rfl (fun w hS=>(aF (m:=i) (a:=ap) acy (hS.sl 3 rfl) bV)) (RQ.an (v:=v3) rfl (fun w hS=>U) (RQ.an (v:=vJ q) rfl (fun w hS=>U) (RQ.an rfl (fun w hS=>(aC acz bI (hS.sl 2 rfl))) (RQ.an rfl (fun w hS=>(aF (m:=q) (a:=ar) acy (hS.sl 2 rfl) jS)) ?_)))))))))
 refine RQ.an rfl (fun w hS=>(ah acN rfl bI)) (RQ.an rfl (fun w hS=>(aj acy (hS.aJ 1 rfl))) (RQ.an rfl (fun w hS=>(ah acN rfl bI)) (RQ.an rfl (fun w hS=>(aj acy (hS.aJ 0 rfl))) (RQ.an rfl (fun w hS=>(aD rfl rfl rfl (bg (by omega) (by omega)))) (RQ.an (v:=.int .i64 (v)) rfl (fun w hS=>U) (RQ.an rfl (fun w hS=>(bR (cs:=[.int .i64 (xp.1+xr.1),.int .i64 (v),.int .i64 (-1)]) acN eQ (places:=#[(0,1),(1,1),(2,1)]) (by intro w;kernel_rfl) (pl:=[(0,.tmp 93),(1,.tmp 94),(2,.const (.int .i64 (-1)))]) rfl (ps:=[(0,.int .i64 (xp.1+xr.1)),(1,.int .i64 (v)),(2,.int .i64 (-1))]) rfl (zc:=[.int .i64 (0),.int .i64 (0),.int .i64 (0)]) rfl (aP (vs:=[.int .i64 (xp.1+xr.1)]) rfl rfl (acA rfl) (aP (vs:=[.int .i64 (v)]) rfl rfl (acA rfl) (aP (vs:=[.int .i64 (-1)]) rfl rfl (acA rfl) rfl))))) (RQ.an rfl (fun w hS=>(bR (cs:=[.int .i64 (ap),.int .i64 (ar),.int .i64 (xp.1+xr.1),.int .i64 (v),.int .i64 (-1)]) acG fW (places:=#[(0,1),(1,1),(2,3)]) (by intro w;kernel_rfl) (pl:=[(0,.tmp 84),(1,.tmp 88),(2,.tmp 95)]) rfl (ps:=[(0,.int .i64 (ap)),(1,.int .i64 (ar)),(2,.agg #[.int .i64 (xp.1+xr.1),.int .i64 (v),.int .i64 (-1)])]) rfl (zc:=[.int .i64 (0),.int .i64 (0),.int .i64 (0),.int .i64 (0),.int .i64 (0)]) rfl (aP (vs:=[.int .i64 (ap)]) rfl rfl (acA rfl) (aP (vs:=[.int .i64 (ar)]) rfl rfl (acA rfl) (aP (vs:=[.int .i64 (xp.1+xr.1),.int .i64 (v),.int .i64 (-1)]) rfl rfl (acA rfl) rfl))))) ?_)))))))
 refine RQ.bW rfl (dn (cf:=aV) (s:=5) (pl:=[(0,.tmp 96)]) (ps:=[(0,.agg #[.int .i64 (ap),.int .i64 (ar),.int .i64 (xp.1+xr.1),.int .i64 (v),.int .i64 (-1)])]) (zc:=[.int .i64 (0),.int .i64 (0),.int .i64 (0),.int .i64 (0),.int .i64 (0)]) (l:=[(ap,ar,xp.1+xr.1,v,-1)]) acL jz (by kernel_rfl) rfl rfl (aP (vs:=[.int .i64 (ap),.int .i64 (ar),.int .i64 (xp.1+xr.1),.int .i64 (v),.int .i64 (-1)]) rfl rfl (acA rfl) rfl) aI rfl (by decide) (by decide) (by decide) hN ?_)
 clear hN
 intro YM Kt (hN:aH w none_ Kt [_,_,_,_,_,_,_])
 refine⟨(hN.sb [1,2,4,5,6]),?_⟩
 refine RQ.bW rfl (cp acL jz rfl (by decide) dp aI hN 3 rfl rfl (hN.sm 0 rfl) rfl (by(try simp only[acB,acH,acK,acS]);omega) (by decide) ?_)
 clear hN
 intro L9 FN (hN:aH w none_ FN [_,_,_,_,_,_,_])
 refine⟨(hN.sb [1,2,4,5,6]),?_⟩
 refine RQ.an (v:=L9) rfl (fun w hS=>ai) (RQ.bq (ba (aA (RW.region (RL.ag (v:=vJ q) U (RL.ag (aD rfl rfl rfl (bg (by omega) (by omega))) (RL.ag (v:=.int .i64 ((q:Int)+1)) ai (RL.ak ?_))))))))
 exact⟨k2-1,by omega,L9,js++[(ap,ar,xp.1+xr.1,v,-1)],q+1,rfl,rfl,rfl,rfl,rfl,rfl,rfl,rfl,(hN.sb [2,3,4,5,6]),by omega,fun s hs=>(adn.1 hs).elim (j7 s) fun h=>by rw[adh]at h;subst h;exact⟨⟨iG,rfl,rfl⟩,_,_,Ml,ub,rfl⟩,by(try simp only[acB,acH]);omega⟩
 refine RW.skip (ba (aA (RW.region (RL.ag (v:=vJ q) U (RL.ag (aD rfl rfl rfl (bg (by omega) (by omega))) (RL.ag (v:=.int .i64 ((q:Int)+1)) ai (RL.ak ?_)))))))
 exact⟨k2-1,by omega,qs,js,q+1,rfl,rfl,rfl,rfl,rfl,rfl,rfl,rfl,(hN.sb [1,2,3,4,5]),by omega,j7,by omega⟩
 rw[decide_eq_false iG]
 iterate 17 refine RQ.bU rfl ?_
 refine RQ.an (v:=.bool false) rfl (fun w hS=>(aB)) (RQ.bq (aA (RW.cj (RW.skip (ba (aA (RW.region (RL.ag (v:=vJ q) U (RL.ag (aD rfl rfl rfl (bg (by omega) (by omega))) ?_)))))))))
 refine RL.ag (v:=.int .i64 ((q:Int)+1)) ai (RL.ak ?_)
 exact⟨k2-1,by omega,qs,js,q+1,rfl,rfl,rfl,rfl,rfl,rfl,rfl,rfl,(hN.sb [1,2,3,4,5]),by omega,j7,by omega⟩
 refine RW.exit ?_
 iterate 2 refine bP ?_
 refine aY (ba (aA (RW.region (RL.ag (v:=vJ i) U (RL.ag (aD rfl rfl rfl (bg (by omega) (by omega))) (RL.ag (v:=.int .i64 ((i:Int)+1)) ai (RL.ak ?_)))))))
 exact⟨k-1,by omega,qs,js,i+1,rfl,rfl,rfl,rfl,rfl,rfl,(hN.sb [1,2,3,4]),by omega,j7,by omega⟩
 refine(bz (cs:=[.int .i64 (0),.int .i64 (0),.int .i64 (0)]) eQ rfl hN ?_)
 clear hN
 intro Kf Gm (hN:aH w none_ Gm [_,_,_,_,_])
 refine⟨(hN.sb [1,2,3,4]),?_⟩
 refine RQ.bW rfl (cn ad9 rfl rfl rfl rfl rfl ((lr n _ _ _ ins ls lost _ (hi.o.now hN) (hl.o.now hN) (ho.o.now hN) ap v xp Ml).mono ?_))
 rintro _ Ks ⟨rfl,bl⟩
 replace hN:=hN.ext bl
 clear bl
 refine⟨(hN.sb [1,2,3,4]),?_⟩
 refine RQ.an (v:=.tuple #[.agg #[.int .i64 (xp.1),.int .i64 (xp.2.1),.int .i64 (xp.2.2)],.bool true]) rfl (fun w hS=>U) ?_
 iterate 2 refine RQ.an rfl (fun w hS=>(bE)) ?_
 refine RQ.bW rfl (aS (vs:=[.int .i64 (xp.1),.int .i64 (xp.2.1),.int .i64 (xp.2.2)]) cT rfl rfl rfl (bh (bh (bh cZ))) hN 0 rfl rfl ?_)
 clear hN
 intro L4 (hN:aH w none_ L4 [_,_,_,_,_])
 refine⟨(hN.sb [1,2,3,4]),?_⟩
 refine RQ.an (v:=.bool true) rfl (fun w hS=>ai) (RQ.bq (aA (RW.aN (RL.ag (v:=.int .i64 (0)) ai (RL.ak (RW.block ?_))))))
 refine RW.loop (fun k2 R1 ez=>∃qs:Value,∃js:List I5,∃q:Nat,R1 1=.int .i64 (v)∧R1 2=vP g1∧R1 5=v2∧R1 6=v3∧R1 7=qs∧R1 8=vJ i∧R1 9=vP Kf∧R1 11=vJ q∧aH w none_ ez [.aJ Kf [.int .i64 (xp.1),.int .i64 (xp.2.1),.int .i64 (xp.2.2)] 96,.cd aV 5 98 (qs) (js),.own vI 3 (v3) (cw ls v n),.own vI 3 (v2) (df ls v n),.aJ g1 [vJ n,iv,lv,ov] 194]∧(q+k2=(cw ls v n).length)∧(∀s∈js,o7 n ls v s)∧(js.length≤12*i+q)) ((cw ls v n).length) ?_ ?_
 exact⟨va,acc,0,rfl,rfl,rfl,rfl,rfl,rfl,rfl,rfl,hN,by omega,ff,im⟩
 clear hN
 rintro k2 R1 ez ⟨qs,js,q,bN,bQ,cy,cV,cC,cM,dN,eu,hN,yl,j7,LD⟩
 have cz:=rN bN bQ cy cV cC cM dN eu
 obtain⟨re,rfl⟩:=cz
 clear bN bQ cy cV cC cM dN eu
 iterate 2 refine RW.seq ?_
 refine RW.region (RL.ag (v:=vJ q) U (RL.ag (v:=v3) U ?_))
 have Yq:=(hN.sl 2 rfl).bw
 refine RL.ag (aQ acz (hN.sl 2 rfl)) (RL.ag (aK) (RL.ak ?_))
 refine RW.aG _ (fun ep=>?_) (fun ep=>?_)
 refine RW.skip (aA (RW.seq (RW.block (RW.seq ?_))))
 replace hN:=hN.ext (Ext.drew ez)
 refine RW.bA (fun u=>aH w none_ u [.aJ Kf [.int .i64 (xp.1),.int .i64 (xp.2.1),.int .i64 (xp.2.2)] 96,.cd aV 5 98 (qs) (js),.own vI 3 (v3) (cw ls v n),.own vI 3 (v2) (df ls v n),.aJ g1 [vJ n,iv,lv,ov] 194]) 13 [(0,0),(1,0),(2,0),(3,0),(4,0),(5,0)] (by intro _ _ _ h;exact h) hN (RQ.an rfl (fun w hS=>(aE (cs:=[vJ n,iv,lv,ov]) acI cI (hS.aJ 4 rfl))) (RQ.an (v:=.int .i64 (v)) rfl (fun w hS=>U) (RQ.an (v:=v3) rfl (fun w hS=>U) (RQ.an (v:=vJ q) rfl (fun w hS=>U) (RQ.an rfl (fun w hS=>(aC acz bI (hS.sl 2 rfl))) ?_)))))
 have aO:=cQ ((cw ls v n)) q
 obtain⟨ar,jS⟩:=aO
 refine RQ.an rfl (fun w hS=>(aF (m:=q) (a:=ar) acy (hS.sl 2 rfl) jS)) ?_
 have aO:=(pG (acC jS)).2.2.some
 obtain⟨xr,ub⟩:=aO
 have hlr:0≤xr.1:=(hT.ws _ (dS ub)).2.2.2.2.1
 have hmr:xr.1≤M:=(hT.ws _ (dS ub)).2.2.2.2.2
 refine RQ.two (i:=6) (j:=10) [(7,0),(8,0),(9,0),(10,1),(11,1),(12,0)] [(6,1),(7,0),(8,0),(9,0),(11,1),(12,0)] (by kernel_rfl) rfl rfl rfl rfl (by kernel_rfl) ?_ ?_
 refine(cn ad9 rfl rfl rfl rfl rfl ((lr n _ _ _ ins ls lost _ (hi.o.now hN) (hl.o.now hN) (ho.o.now hN) v ar xr ub).mono ?_))
 rintro _ Ns ⟨rfl,bl⟩
 replace hN:=hN.ext bl
 clear bl
 refine⟨hN,?_⟩
 refine RQ.an (v:=.tuple #[.agg #[.int .i64 (xr.1),.int .i64 (xr.2.1),.int .i64 (xr.2.2)],.bool true]) rfl (fun w hS=>U) ?_
 iterate 2 refine RQ.an rfl (fun w hS=>(bE)) ?_
 refine RQ.bW rfl (bz (cs:=[.int .i64 (0),.int .i64 (0),.int .i64 (0)]) eQ rfl hN ?_)
 clear hN
 intro YL Kr (hN:aH w none_ Kr [_,_,_,_,_,_])
 refine⟨(hN.sb [1,2,3,4,5]),?_⟩
 refine RQ.bW rfl (aS (vs:=[.int .i64 (xr.1),.int .i64 (xr.2.1),.int .i64 (xr.2.2)]) cT rfl rfl rfl (bh (bh (bh cZ))) hN 0 rfl rfl ?_)
 clear hN
 intro Kq (hN:aH w none_ Kq [_,_,_,_,_,_])
 refine⟨(hN.sb [1,2,3,4,5]),?_⟩
 refine RQ.an (v:=.bool true) rfl (fun w hS=>ai) (RQ.bq (aA (RW.seq ?_)))
 replace hN:=hN.ext (Ext.drew Kq)
 refine RW.bA (fun u=>aH w none_ u [.aJ YL [.int .i64 (xr.1),.int .i64 (xr.2.1),.int .i64 (xr.2.2)] 96,.aJ Kf [.int .i64 (xp.1),.int .i64 (xp.2.1),.int .i64 (xp.2.2)] 96,.cd aV 5 98 (qs) (js),.own vI 3 (v3) (cw ls v n),.own vI 3 (v2) (df ls v n),.aJ g1 [vJ n,iv,lv,ov] 194]) 28 [(0,0),(1,0),(2,0),(3,0),(4,0),(5,0),(6,0),(7,0),(8,0),(9,0),(10,0),(11,0),(12,0),(13,0),(14,0),(15,0),(16,0),(17,0),(18,0),(19,0),(20,0),(21,0),(22,0),(23,0),(24,0),(25,1),(26,0),(27,0)] (by intro _ _ _ h;exact h) hN (RQ.an (v:=v2) rfl (fun w hS=>U) (RQ.an (v:=vJ i) rfl (fun w hS=>U) (RQ.an rfl (fun w hS=>(aC acz bI (hS.sl 4 rfl))) (RQ.an rfl (fun w hS=>(aF (m:=i) (a:=ap) acy (hS.sl 4 rfl) bV)) (RQ.an (v:=v3) rfl (fun w hS=>U) (RQ.an (v:=vJ q) rfl (fun w hS=>U) (RQ.an rfl (fun w hS=>(aC acz bI (hS.sl 3 rfl))) (RQ.an rfl (fun w hS=>(aF (m:=q) (a:=ar) acy (hS.sl 3 rfl) jS)) (RQ.an rfl (fun w hS=>(bj)) ?_)))))))))
 refine RQ.an (v:=.bool (decide (¬ap=ar))) rfl (fun w hS=>U) ?_
 by_cases iG:¬ap=ar
 rw[decide_eq_true iG]
 refine RQ.aR rfl (fun w hS=>(aE (cs:=[vJ n,iv,lv,ov]) acI cI (hS.aJ 5 rfl))) (RQ.aR (v:=v2) rfl (fun w hS=>U) (RQ.aR (v:=vJ i) rfl (fun w hS=>U) (RQ.aR rfl (fun w hS=>(aC acz bI (hS.sl 4 rfl))) (RQ.aR rfl (fun w hS=>(aF (m:=i) (a:=ap) acy (hS.sl 4 rfl) bV)) (RQ.aR (v:=v3) rfl (fun w hS=>U) (RQ.aR (v:=vJ q) rfl (fun w hS=>U) (RQ.aR rfl (fun w hS=>(aC acz bI (hS.sl 3 rfl))) (RQ.aR rfl (fun w hS=>(aF (m:=q) (a:=ar) acy (hS.sl 3 rfl) jS)) (RQ.aR (v:=.int .i64 (v)) rfl (fun w hS=>U) ?_)))))))))
 refine RQ.aR rfl (fun w hS=>(ah acN rfl bI)) (RQ.aR rfl (fun w hS=>(aj acy (hS.aJ 1 rfl))) (RQ.aR rfl (fun w hS=>(ah acN rfl bI)) (RQ.aR rfl (fun w hS=>(aj acy (hS.aJ 0 rfl))) (RQ.aR rfl (fun w hS=>(aD rfl rfl rfl (bg (by omega) (by omega)))) ?_))))
 refine RQ.dQ rfl (lH agy rfl rfl rfl rfl rfl rfl rfl ((mc n _ _ _ ins ls lost _ (hi.o.now hN) (hl.o.now hN) (ho.o.now hN) ap ar v (xp.1+xr.1) M hT hM Sd (by omega)).mono ?_))
 rintro _ PZ ⟨b44,rfl,bl⟩
 replace hN:=hN.ext bl
 clear bl
 refine⟨hN,?_⟩
 refine RQ.aR rfl (fun w hS=>(cU rfl)) (RQ.an (v:=.bool (decide (¬(b44=true)))) rfl (fun w hS=>(al)) (RQ.bq (aA ?_)))
 refine RW.aG _ (fun CP=>?_) (fun CP=>?_)
 replace hN:=hN.ext (Ext.drew PZ)
 refine RW.bA (fun u=>aH w none_ u [.aJ YL [.int .i64 (xr.1),.int .i64 (xr.2.1),.int .i64 (xr.2.2)] 96,.aJ Kf [.int .i64 (xp.1),.int .i64 (xp.2.1),.int .i64 (xp.2.2)] 96,.own vI 3 (v3) (cw ls v n),.own vI 3 (v2) (df ls v n),.aJ g1 [vJ n,iv,lv,ov] 194]) 20 [(0,0),(1,0),(2,0),(3,0),(4,0),(5,0),(6,0),(7,0),(8,0),(9,0),(10,0),(11,0),(12,0),(13,0),(14,0),(15,0),(16,0),(17,1),(18,1),(19,0)] (by intro _ _ _ h;exact h) (hN.sb [0,1,3,4,5]) (RQ.an (v:=qs) rfl (fun w hS=>U) (RQ.an (v:=v2) rfl (fun w hS=>U) (RQ.an (v:=vJ i) rfl (fun w hS=>U) (RQ.an rfl (fun w hS=>(aC acz bI (hS.sl 3 rfl))) (RQ.an rfl (fun w hS=>(aF (m:=i) (a:=ap) acy (hS.sl 3 rfl) bV)) (RQ.an (v:=v3) rfl (fun w hS=>U) (RQ.an (v:=vJ q) rfl (fun w hS=>U) (RQ.an rfl (fun w hS=>(aC acz bI (hS.sl 2 rfl))) (RQ.an rfl (fun w hS=>(aF (m:=q) (a:=ar) acy (hS.sl 2 rfl) jS)) ?_)))))))))
 refine RQ.an rfl (fun w hS=>(ah acN rfl bI)) (RQ.an rfl (fun w hS=>(aj acy (hS.aJ 1 rfl))) (RQ.an rfl (fun w hS=>(ah acN rfl bI)) (RQ.an rfl (fun w hS=>(aj acy (hS.aJ 0 rfl))) (RQ.an rfl (fun w hS=>(aD rfl rfl rfl (bg (by omega) (by omega)))) (RQ.an (v:=.int .i64 (v)) rfl (fun w hS=>U) (RQ.an rfl (fun w hS=>(bR (cs:=[.int .i64 (xp.1+xr.1),.int .i64 (v),.int .i64 (-1)]) acN eQ (places:=#[(0,1),(1,1),(2,1)]) (by intro w;kernel_rfl) (pl:=[(0,.tmp 93),(1,.tmp 94),(2,.const (.int .i64 (-1)))]) rfl (ps:=[(0,.int .i64 (xp.1+xr.1)),(1,.int .i64 (v)),(2,.int .i64 (-1))]) rfl (zc:=[.int .i64 (0),.int .i64 (0),.int .i64 (0)]) rfl (aP (vs:=[.int .i64 (xp.1+xr.1)]) rfl rfl (acA rfl) (aP (vs:=[.int .i64 (v)]) rfl rfl (acA rfl) (aP (vs:=[.int .i64 (-1)]) rfl rfl (acA rfl) rfl))))) (RQ.an rfl (fun w hS=>(bR (cs:=[.int .i64 (ap),.int .i64 (ar),.int .i64 (xp.1+xr.1),.int .i64 (v),.int .i64 (-1)]) acG fW (places:=#[(0,1),(1,1),(2,3)]) (by intro w;kernel_rfl) (pl:=[(0,.tmp 84),(1,.tmp 88),(2,.tmp 95)]) rfl (ps:=[(0,.int .i64 (ap)),(1,.int .i64 (ar)),(2,.agg #[.int .i64 (xp.1+xr.1),.int .i64 (v),.int .i64 (-1)])]) rfl (zc:=[.int .i64 (0),.int .i64 (0),.int .i64 (0),.int .i64 (0),.int .i64 (0)]) rfl (aP (vs:=[.int .i64 (ap)]) rfl rfl (acA rfl) (aP (vs:=[.int .i64 (ar)]) rfl rfl (acA rfl) (aP (vs:=[.int .i64 (xp.1+xr.1),.int .i64 (v),.int .i64 (-1)]) rfl rfl (acA rfl) rfl))))) ?_)))))))
 refine RQ.bW rfl (dn (cf:=aV) (s:=5) (pl:=[(0,.tmp 96)]) (ps:=[(0,.agg #[.int .i64 (ap),.int .i64 (ar),.int .i64 (xp.1+xr.1),.int .i64 (v),.int .i64 (-1)])]) (zc:=[.int .i64 (0),.int .i64 (0),.int .i64 (0),.int .i64 (0),.int .i64 (0)]) (l:=[(ap,ar,xp.1+xr.1,v,-1)]) acL jz (by kernel_rfl) rfl rfl (aP (vs:=[.int .i64 (ap),.int .i64 (ar),.int .i64 (xp.1+xr.1),.int .i64 (v),.int .i64 (-1)]) rfl rfl (acA rfl) rfl) aI rfl (by decide) (by decide) (by decide) hN ?_)
 clear hN
 intro Wp Nr (hN:aH w none_ Nr [_,_,_,_,_,_,_])
 refine⟨(hN.sb [1,2,4,5,6]),?_⟩
 refine RQ.bW rfl (cp acL jz rfl (by decide) dp aI hN 3 rfl rfl (hN.sm 0 rfl) rfl (by(try simp only[acB,acH,acK,acS]);omega) (by decide) ?_)
 clear hN
 intro WN PY (hN:aH w none_ PY [_,_,_,_,_,_,_])
 refine⟨(hN.sb [1,2,4,5,6]),?_⟩
 refine RQ.an (v:=WN) rfl (fun w hS=>ai) (RQ.bq (ba (aA (RW.region (RL.ag (v:=vJ q) U (RL.ag (aD rfl rfl rfl (bg (by omega) (by omega))) (RL.ag (v:=.int .i64 ((q:Int)+1)) ai (RL.ak ?_))))))))
 exact⟨k2-1,by omega,WN,js++[(ap,ar,xp.1+xr.1,v,-1)],q+1,rfl,rfl,rfl,rfl,rfl,rfl,rfl,rfl,(hN.sb [2,3,4,5,6]),by omega,fun s hs=>(adn.1 hs).elim (j7 s) fun h=>by rw[adh]at h;subst h;exact⟨⟨iG,rfl,rfl⟩,_,_,Ml,ub,rfl⟩,by(try simp only[acB,acH]);omega⟩
 refine RW.skip (ba (aA (RW.region (RL.ag (v:=vJ q) U (RL.ag (aD rfl rfl rfl (bg (by omega) (by omega))) (RL.ag (v:=.int .i64 ((q:Int)+1)) ai (RL.ak ?_)))))))
 exact⟨k2-1,by omega,qs,js,q+1,rfl,rfl,rfl,rfl,rfl,rfl,rfl,rfl,(hN.sb [1,2,3,4,5]),by omega,j7,by omega⟩
 rw[decide_eq_false iG]
 iterate 17 refine RQ.bU rfl ?_
 refine RQ.an (v:=.bool false) rfl (fun w hS=>(aB)) (RQ.bq (aA (RW.cj (RW.skip (ba (aA (RW.region (RL.ag (v:=vJ q) U (RL.ag (aD rfl rfl rfl (bg (by omega) (by omega))) ?_)))))))))
 refine RL.ag (v:=.int .i64 ((q:Int)+1)) ai (RL.ak ?_)
 exact⟨k2-1,by omega,qs,js,q+1,rfl,rfl,rfl,rfl,rfl,rfl,rfl,rfl,(hN.sb [1,2,3,4,5]),by omega,j7,by omega⟩
 refine(bz (cs:=[.int .i64 (0),.int .i64 (0),.int .i64 (0)]) eQ rfl hN ?_)
 clear hN
 intro Wo Ts (hN:aH w none_ Ts [_,_,_,_,_,_])
 refine⟨(hN.sb [1,2,3,4,5]),?_⟩
 refine RQ.bW rfl (cn ad9 rfl rfl rfl rfl rfl ((lr n _ _ _ ins ls lost _ (hi.o.now hN) (hl.o.now hN) (ho.o.now hN) v ar xr ub).mono ?_))
 rintro _ QC ⟨rfl,bl⟩
 replace hN:=hN.ext bl
 clear bl
 refine⟨(hN.sb [1,2,3,4,5]),?_⟩
 refine RQ.an (v:=.tuple #[.agg #[.int .i64 (xr.1),.int .i64 (xr.2.1),.int .i64 (xr.2.2)],.bool true]) rfl (fun w hS=>U) ?_
 iterate 2 refine RQ.an rfl (fun w hS=>(bE)) ?_
 refine RQ.bW rfl (aS (vs:=[.int .i64 (xr.1),.int .i64 (xr.2.1),.int .i64 (xr.2.2)]) cT rfl rfl rfl (bh (bh (bh cZ))) hN 0 rfl rfl ?_)
 clear hN
 intro PX (hN:aH w none_ PX [_,_,_,_,_,_])
 refine⟨(hN.sb [1,2,3,4,5]),?_⟩
 refine RQ.an (v:=.bool true) rfl (fun w hS=>ai) (RQ.bq (aA (RW.seq ?_)))
 replace hN:=hN.ext (Ext.drew PX)
 refine RW.bA (fun u=>aH w none_ u [.aJ Wo [.int .i64 (xr.1),.int .i64 (xr.2.1),.int .i64 (xr.2.2)] 96,.aJ Kf [.int .i64 (xp.1),.int .i64 (xp.2.1),.int .i64 (xp.2.2)] 96,.cd aV 5 98 (qs) (js),.own vI 3 (v3) (cw ls v n),.own vI 3 (v2) (df ls v n),.aJ g1 [vJ n,iv,lv,ov] 194]) 28 [(0,0),(1,0),(2,0),(3,0),(4,0),(5,0),(6,0),(7,0),(8,0),(9,0),(10,0),(11,0),(12,0),(13,0),(14,0),(15,0),(16,0),(17,0),(18,0),(19,0),(20,0),(21,0),(22,0),(23,0),(24,0),(25,1),(26,0),(27,0)] (by intro _ _ _ h;exact h) hN (RQ.an (v:=v2) rfl (fun w hS=>U) (RQ.an (v:=vJ i) rfl (fun w hS=>U) (RQ.an rfl (fun w hS=>(aC acz bI (hS.sl 4 rfl))) (RQ.an rfl (fun w hS=>(aF (m:=i) (a:=ap) acy (hS.sl 4 rfl) bV)) (RQ.an (v:=v3) rfl (fun w hS=>U) (RQ.an (v:=vJ q) rfl (fun w hS=>U) (RQ.an rfl (fun w hS=>(aC acz bI (hS.sl 3 rfl))) (RQ.an rfl (fun w hS=>(aF (m:=q) (a:=ar) acy (hS.sl 3 rfl) jS)) (RQ.an rfl (fun w hS=>(bj)) ?_)))))))))
 refine RQ.an (v:=.bool (decide (¬ap=ar))) rfl (fun w hS=>U) ?_
 by_cases iG:¬ap=ar
 rw[decide_eq_true iG]
 refine RQ.aR rfl (fun w hS=>(aE (cs:=[vJ n,iv,lv,ov]) acI cI (hS.aJ 5 rfl))) (RQ.aR (v:=v2) rfl (fun w hS=>U) (RQ.aR (v:=vJ i) rfl (fun w hS=>U) (RQ.aR rfl (fun w hS=>(aC acz bI (hS.sl 4 rfl))) (RQ.aR rfl (fun w hS=>(aF (m:=i) (a:=ap) acy (hS.sl 4 rfl) bV)) (RQ.aR (v:=v3) rfl (fun w hS=>U) (RQ.aR (v:=vJ q) rfl (fun w hS=>U) (RQ.aR rfl (fun w hS=>(aC acz bI (hS.sl 3 rfl))) (RQ.aR rfl (fun w hS=>(aF (m:=q) (a:=ar) acy (hS.sl 3 rfl) jS)) (RQ.aR (v:=.int .i64 (v)) rfl (fun w hS=>U) ?_)))))))))
 refine RQ.aR rfl (fun w hS=>(ah acN rfl bI)) (RQ.aR rfl (fun w hS=>(aj acy (hS.aJ 1 rfl))) (RQ.aR rfl (fun w hS=>(ah acN rfl bI)) (RQ.aR rfl (fun w hS=>(aj acy (hS.aJ 0 rfl))) (RQ.aR rfl (fun w hS=>(aD rfl rfl rfl (bg (by omega) (by omega)))) ?_))))
 refine RQ.dQ rfl (lH agy rfl rfl rfl rfl rfl rfl rfl ((mc n _ _ _ ins ls lost _ (hi.o.now hN) (hl.o.now hN) (ho.o.now hN) ap ar v (xp.1+xr.1) M hT hM Sd (by omega)).mono ?_))
 rintro _ Y1 ⟨b56,rfl,bl⟩
 replace hN:=hN.ext bl
 clear bl
 refine⟨hN,?_⟩
 refine RQ.aR rfl (fun w hS=>(cU rfl)) (RQ.an (v:=.bool (decide (¬(b56=true)))) rfl (fun w hS=>(al)) (RQ.bq (aA ?_)))
 refine RW.aG _ (fun CP=>?_) (fun CP=>?_)
 replace hN:=hN.ext (Ext.drew Y1)
 refine RW.bA (fun u=>aH w none_ u [.aJ Wo [.int .i64 (xr.1),.int .i64 (xr.2.1),.int .i64 (xr.2.2)] 96,.aJ Kf [.int .i64 (xp.1),.int .i64 (xp.2.1),.int .i64 (xp.2.2)] 96,.own vI 3 (v3) (cw ls v n),.own vI 3 (v2) (df ls v n),.aJ g1 [vJ n,iv,lv,ov] 194]) 20 [(0,0),(1,0),(2,0),(3,0),(4,0),(5,0),(6,0),(7,0),(8,0),(9,0),(10,0),(11,0),(12,0),(13,0),(14,0),(15,0),(16,0),(17,1),(18,1),(19,0)] (by intro _ _ _ h;exact h) (hN.sb [0,1,3,4,5]) (RQ.an (v:=qs) rfl (fun w hS=>U) (RQ.an (v:=v2) rfl (fun w hS=>U) (RQ.an (v:=vJ i) rfl (fun w hS=>U) (RQ.an rfl (fun w hS=>(aC acz bI (hS.sl 3 rfl))) (RQ.an rfl (fun w hS=>(aF (m:=i) (a:=ap) acy (hS.sl 3 rfl) bV)) (RQ.an (v:=v3) rfl (fun w hS=>U) (RQ.an (v:=vJ q) rfl (fun w hS=>U) (RQ.an rfl (fun w hS=>(aC acz bI (hS.sl 2 rfl))) (RQ.an rfl (fun w hS=>(aF (m:=q) (a:=ar) acy (hS.sl 2 rfl) jS)) ?_)))))))))
 refine RQ.an rfl (fun w hS=>(ah acN rfl bI)) (RQ.an rfl (fun w hS=>(aj acy (hS.aJ 1 rfl))) (RQ.an rfl (fun w hS=>(ah acN rfl bI)) (RQ.an rfl (fun w hS=>(aj acy (hS.aJ 0 rfl))) (RQ.an rfl (fun w hS=>(aD rfl rfl rfl (bg (by omega) (by omega)))) (RQ.an (v:=.int .i64 (v)) rfl (fun w hS=>U) (RQ.an rfl (fun w hS=>(bR (cs:=[.int .i64 (xp.1+xr.1),.int .i64 (v),.int .i64 (-1)]) acN eQ (places:=#[(0,1),(1,1),(2,1)]) (by intro w;kernel_rfl) (pl:=[(0,.tmp 93),(1,.tmp 94),(2,.const (.int .i64 (-1)))]) rfl (ps:=[(0,.int .i64 (xp.1+xr.1)),(1,.int .i64 (v)),(2,.int .i64 (-1))]) rfl (zc:=[.int .i64 (0),.int .i64 (0),.int .i64 (0)]) rfl (aP (vs:=[.int .i64 (xp.1+xr.1)]) rfl rfl (acA rfl) (aP (vs:=[.int .i64 (v)]) rfl rfl (acA rfl) (aP (vs:=[.int .i64 (-1)]) rfl rfl (acA rfl) rfl))))) (RQ.an rfl (fun w hS=>(bR (cs:=[.int .i64 (ap),.int .i64 (ar),.int .i64 (xp.1+xr.1),.int .i64 (v),.int .i64 (-1)]) acG fW (places:=#[(0,1),(1,1),(2,3)]) (by intro w;kernel_rfl) (pl:=[(0,.tmp 84),(1,.tmp 88),(2,.tmp 95)]) rfl (ps:=[(0,.int .i64 (ap)),(1,.int .i64 (ar)),(2,.agg #[.int .i64 (xp.1+xr.1),.int .i64 (v),.int .i64 (-1)])]) rfl (zc:=[.int .i64 (0),.int .i64 (0),.int .i64 (0),.int .i64 (0),.int .i64 (0)]) rfl (aP (vs:=[.int .i64 (ap)]) rfl rfl (acA rfl) (aP (vs:=[.int .i64 (ar)]) rfl rfl (acA rfl) (aP (vs:=[.int .i64 (xp.1+xr.1),.int .i64 (v),.int .i64 (-1)]) rfl rfl (acA rfl) rfl))))) ?_)))))))
 refine RQ.bW rfl (dn (cf:=aV) (s:=5) (pl:=[(0,.tmp 96)]) (ps:=[(0,.agg #[.int .i64 (ap),.int .i64 (ar),.int .i64 (xp.1+xr.1),.int .i64 (v),.int .i64 (-1)])]) (zc:=[.int .i64 (0),.int .i64 (0),.int .i64 (0),.int .i64 (0),.int .i64 (0)]) (l:=[(ap,ar,xp.1+xr.1,v,-1)]) acL jz (by kernel_rfl) rfl rfl (aP (vs:=[.int .i64 (ap),.int .i64 (ar),.int .i64 (xp.1+xr.1),.int .i64 (v),.int .i64 (-1)]) rfl rfl (acA rfl) rfl) aI rfl (by decide) (by decide) (by decide) hN ?_)
 clear hN
 intro g59 T1 (hN:aH w none_ T1 [_,_,_,_,_,_,_])
 refine⟨(hN.sb [1,2,4,5,6]),?_⟩
 refine RQ.bW rfl (cp acL jz rfl (by decide) dp aI hN 3 rfl rfl (hN.sm 0 rfl) rfl (by(try simp only[acB,acH,acK,acS]);omega) (by decide) ?_)
 clear hN
 intro WM Nq (hN:aH w none_ Nq [_,_,_,_,_,_,_])
 refine⟨(hN.sb [1,2,4,5,6]),?_⟩
 refine RQ.an (v:=WM) rfl (fun w hS=>ai) (RQ.bq (ba (aA (RW.region (RL.ag (v:=vJ q) U (RL.ag (aD rfl rfl rfl (bg (by omega) (by omega))) (RL.ag (v:=.int .i64 ((q:Int)+1)) ai (RL.ak ?_))))))))
 exact⟨k2-1,by omega,WM,js++[(ap,ar,xp.1+xr.1,v,-1)],q+1,rfl,rfl,rfl,rfl,rfl,rfl,rfl,rfl,(hN.sb [2,3,4,5,6]),by omega,fun s hs=>(adn.1 hs).elim (j7 s) fun h=>by rw[adh]at h;subst h;exact⟨⟨iG,rfl,rfl⟩,_,_,Ml,ub,rfl⟩,by(try simp only[acB,acH]);omega⟩
 refine RW.skip (ba (aA (RW.region (RL.ag (v:=vJ q) U (RL.ag (aD rfl rfl rfl (bg (by omega) (by omega))) (RL.ag (v:=.int .i64 ((q:Int)+1)) ai (RL.ak ?_)))))))
 exact⟨k2-1,by omega,qs,js,q+1,rfl,rfl,rfl,rfl,rfl,rfl,rfl,rfl,(hN.sb [1,2,3,4,5]),by omega,j7,by omega⟩
 rw[decide_eq_false iG]
 iterate 17 refine RQ.bU rfl ?_
 refine RQ.an (v:=.bool false) rfl (fun w hS=>(aB)) (RQ.bq (aA (RW.cj (RW.skip (ba (aA (RW.region (RL.ag (v:=vJ q) U (RL.ag (aD rfl rfl rfl (bg (by omega) (by omega))) ?_)))))))))
 refine RL.ag (v:=.int .i64 ((q:Int)+1)) ai (RL.ak ?_)
 exact⟨k2-1,by omega,qs,js,q+1,rfl,rfl,rfl,rfl,rfl,rfl,rfl,rfl,(hN.sb [1,2,3,4,5]),by omega,j7,by omega⟩
 refine RW.exit ?_
 iterate 2 refine bP ?_
 refine aY (ba (aA (RW.region (RL.ag (v:=vJ i) U (RL.ag (aD rfl rfl rfl (bg (by omega) (by omega))) (RL.ag (v:=.int .i64 ((i:Int)+1)) ai (RL.ak ?_)))))))
 exact⟨k-1,by omega,qs,js,i+1,rfl,rfl,rfl,rfl,rfl,rfl,(hN.sb [1,2,3,4]),by omega,j7,by omega⟩
 refine RW.exit ?_
 iterate 2 refine bP ?_
 refine aY (aA (RW.aN (RL.ag (v:=va) U (RL.ag (v:=va) ai (RL.ak (RW.ret (bc (RV.tmp rfl) ?_)))))))
 exact⟨acc,hN.fL 0 rfl,ff,by omega,hN.aX⟩
end Go.Proofs.YtngkdkbpgoddlaaGreat
namespace Go.Proofs.YtngkdkbpgoddlaaGreat
open Go.RowKit Go.Rl
open Go.Gr
theorem Be (n:Nat) (v:Value) (l:List I3) (kv:Value) (ks:List Int) (w:World) (hv:Sm bC w v l) (hk:Sl vI w kv ks) (hlen:ks.length=l.length) (hl:l.length≤40) (hn:n≤12) (CI:∀a∈l,EJ n a) (Vj:ks=kept l):aM acD 60 #[.agg #[.int .i64 (n:Int),v,kv]] w fun r w'=>∃rv wv rk ways ins ls,r=.agg #[rv,wv]∧aH w none_ w' [.own vI 3 rv rk,.cd aV 5 98 wv ways]∧zh n l n rk ways ins ls:=by
 refine aM.aZ Tryz.func60 ?_
 rw[cH]
 have hN:=aH.nil w none_
 refine RW.aN ?_
 refine RL.aL (bJ (cs:=[vJ n,v,kv]) rfl rfl hN ?_)
 clear hN
 intro g1 w1 (hN:aH w none_ w1 [_])
 refine RL.aL (bz (cs:=[vN,vN]) oG rfl hN ?_)
 clear hN
 intro g2 w2 (hN:aH w none_ w2 [_,_])
 refine RL.bY (RL.ag (aE (cs:=[vJ n,v,kv]) adt oo (hN.aJ 1 rfl)) ?_)
 refine RL.aL (bo akr rfl rfl rfl ((BF n _ l _ ks _ (hv.o.now hN) (hk.o.now hN) hlen hl hn).mono ?_))
 rintro _ w3 ⟨iv,lv,ov,ls,lost,rfl,Qu,TT,Qt,ZZ,mJ,hls,bl⟩
 have Yk:=eB.KF Qu (F:=b6 [.aJ g2 [vN,vN] 28,.aJ g1 [vJ n,v,kv] 111]) (fun k hk=>hN.qQ hk)
 have Yj:=fK.KD TT (F:=b6 [.aJ g2 [vN,vN] 28,.aJ g1 [vJ n,v,kv] 111]) (fun k hk=>hN.qQ hk)
 have Yi:=eB.KF Qt (F:=b6 [.aJ g2 [vN,vN] 28,.aJ g1 [vJ n,v,kv] 111]) (fun k hk=>hN.qQ hk)
 replace hN:=hN.ext bl
 clear Qu TT Qt bl
 have YD:=hN
 clear hN
 have hN:=YD.here
 replace hN:aH w3 _ w3 [.aJ g2 [vN,vN] 28,.aJ g1 [vJ n,v,kv] 111]:=hN
 refine RL.aL (bz (cs:=[.int .i64 (0),vN,vN,vN]) jb rfl hN ?_)
 clear hN
 intro g5 w5 (hN:aH w3 _ w5 [_,_,_])
 refine RL.aL (aS (vs:=[vJ n,iv,lv,ov]) cI rfl rfl rfl (by intro u hu;simp only[ac6,ac0,or_false]at hu;rcases hu with rfl|rfl|rfl|rfl<;>first|rfl|exact(Yk.now hN).bT|exact(Yj.now hN).bT|exact(Yi.now hN).bT) hN 0 rfl rfl ?_)
 clear hN
 intro w6 (hN:aH w3 _ w6 [_,_,_])
 refine RL.bY (RL.ag (bR (cs:=[vN,vN]) acE oG (places:=#[(0,1),(1,1)]) (by intro w;kernel_rfl) (pl:=[]) rfl (ps:=[]) rfl (zc:=[vN,vN]) rfl rfl) ?_)
 refine RL.aL (bz (cs:=[vN,vN]) oG rfl hN ?_)
 clear hN
 intro g7 w7 (hN:aH w3 _ w7 [_,_,_,_])
 refine RL.aL (aS (vs:=[vN,vN]) dq rfl rfl rfl (bh (bh cZ)) hN 0 rfl rfl ?_)
 clear hN
 intro w8 (hN:aH w3 _ w8 [_,_,_,_])
 refine RL.ak ?_
 iterate 2 refine RW.seq ?_
 replace hN:=hN.ew aV 5 98
 replace hN:=hN.dy vI 3
 replace hN:aH w3 _ w8 [.own vI 3 (vN) ([]),.cd aV 5 98 (vN) ([]),.aJ g7 [vN,vN] 28,.aJ g5 [vJ n,iv,lv,ov] 194,.aJ g2 [vN,vN] 28,.aJ g1 [vJ n,v,kv] 111]:=hN
 refine RW.region (RL.ag (v:=.int .i64 (0)) ai (RL.ak (RW.block ?_)))
 refine RW.loop (fun k R0 cv=>∃v0:Value,∃a0:List Int,∃i:Nat,R0 1=vP g1∧R0 2=vP g2∧R0 3=vP g5∧R0 4=vP g7∧R0 5=vJ i∧aH w3 (b6 [.aJ g2 [vN,vN] 28,.aJ g1 [vJ n,v,kv] 111]) cv [.own vI 3 (v0) (a0),.cd aV 5 98 (vN) ([]),.aJ g7 [v0,vN] 28,.aJ g5 [vJ n,iv,lv,ov] 194,.aJ g2 [vN,vN] 28,.aJ g1 [vJ n,v,kv] 111]∧(i+k=n)∧(a0=ac3 i 0)∧(a0.length=i)) (n) ?_ ?_
 exact⟨vN,[],0,rfl,rfl,rfl,rfl,rfl,hN,by omega,rfl,rfl⟩
 clear hN
 rintro k R0 cv ⟨v0,a0,i,bN,bQ,cb,cu,cy,hN,fP,h0,Pp⟩
 have cz:=hC bN bQ cb cu cy
 obtain⟨fV,rfl⟩:=cz
 clear bN bQ cb cu cy
 iterate 2 refine RW.seq ?_
 refine RW.region (RL.ag (v:=vJ i) U (RL.ag (ah adt rfl dw) (RL.ag (ah acJ rfl bI) (RL.ag (aj acy (hN.aJ 5 rfl)) (RL.ag (aK) (RL.ak ?_))))))
 refine RW.aG _ (fun cD=>?_) (fun cD=>?_)
 refine RW.skip (aA (RW.seq (RW.block (RW.region (RL.ag (ah acE rfl cc) (RL.ag (aj acz (hN.aJ 2 rfl)) ?_))))))
 refine RL.aL (cx (enc:=vI) (l:=[0]) (xs:=[.const (.int .i64 (0))]) acz bI mN rfl rfl (fun _=>rfl) rfl (by decide) (by decide) hN ?_)
 clear hN
 intro g9 w9 (hN:aH w3 _ w9 [_,_,_,_,_,_,_])
 refine RL.aL (b9 acz fI rfl (fun _=>rfl) hN 1 rfl rfl (hN.sl 0 rfl) rfl (by rw[Pp];simp only[acH,acK,acS];omega) (by decide) ?_)
 clear hN
 intro v10 lR (hN:aH w3 _ lR [_,_,_,_,_,_,_])
 refine RL.ag (ah acE rfl cc) ?_
 refine RL.aL (b7 cc rfl rfl (hN.sl 1 rfl).cK (hN.sl 1 rfl).bT hN 3 rfl (acA rfl) ?_)
 clear hN
 intro kY (hN:aH w3 _ kY [_,_,_,_,_,_,_])
 refine RL.nil (ba (aA (RW.region (RL.ag (v:=vJ i) U (RL.ag (aD rfl rfl rfl (bg (by omega) (by omega))) (RL.ag (v:=.int .i64 ((i:Int)+1)) ai (RL.ak ?_)))))))
 exact⟨k-1,by omega,v10,a0++[0],i+1,rfl,rfl,rfl,rfl,rfl,(hN.sb [1,2,3,4,5,6]),by omega,by rw[ah0,h0],by rw[acB,Pp];rfl⟩
 refine RW.exit ?_
 iterate 2 refine bP ?_
 refine aY (aA ?_)
 iterate 2 refine RW.seq ?_
 refine RW.region (RL.ag (v:=.int .i64 (0)) ai (RL.ak (RW.block ?_)))
 refine RW.loop (fun k1 R1 ez=>∃vr:Value,∃rk:List Int,∃vw:Value,∃ways:List I5,∃iE:Value,∃bX:List Int,∃Hs:Value,∃cN:List I5,∃iD:Value,∃kL:List Int,∃r:Nat,R1 1=vP g1∧R1 2=vP g2∧R1 3=vP g5∧R1 4=vP g7∧R1 6=vJ r∧aH w3 (b6 [.aJ g2 [vN,vN] 28,.aJ g1 [vJ n,v,kv] 111]) ez [.own vI 3 (vr) (rk),.cd aV 5 98 (vw) (ways),.aJ g7 [vr,vw] 28,.aJ g5 [vJ n,iE,Hs,iD] 194,.aJ g2 [vN,vN] 28,.aJ g1 [vJ n,v,kv] 111]∧(r+k1=n)∧(zh n l r rk ways bX cN)∧(kL.length=n)∧(cN.length≤480+144*r)∧(nR (b6 [.own vI 3 (vr) (rk),.cd aV 5 98 (vw) (ways),.aJ g7 [vr,vw] 28,.aJ g5 [vJ n,iE,Hs,iD] 194,.aJ g2 [vN,vN] 28,.aJ g1 [vJ n,v,kv] 111]) vI ez iE bX)∧(mz (b6 [.own vI 3 (vr) (rk),.cd aV 5 98 (vw) (ways),.aJ g7 [vr,vw] 28,.aJ g5 [vJ n,iE,Hs,iD] 194,.aJ g2 [vN,vN] 28,.aJ g1 [vJ n,v,kv] 111]) aV ez Hs cN)∧(nR (b6 [.own vI 3 (vr) (rk),.cd aV 5 98 (vw) (ways),.aJ g7 [vr,vw] 28,.aJ g5 [vJ n,iE,Hs,iD] 194,.aJ g2 [vN,vN] 28,.aJ g1 [vJ n,v,kv] 111]) vI ez iD kL)) (n) ?_ ?_
 exact⟨v0,a0,vN,[],iv,(ac3 n 1),lv,ls,ov,lost,0,rfl,rfl,rfl,rfl,rfl,hN,by omega,zh.start CI Vj ZZ (by rw[h0,show i=n by omega]),mJ,by omega,Yk.step hN,mz.step fE Yj hN,Yi.step hN⟩
 clear hN
 rintro k1 R1 ez ⟨vr,rk,vw,ways,iE,bX,Hs,cN,iD,kL,r,bN,bQ,cb,cu,cV,hN,Qi,hB,Ln,CJ,CW,Wg,CV⟩
 have cz:=hC bN bQ cb cu cV
 obtain⟨re,rfl⟩:=cz
 clear bN bQ cb cu cV
 have Pn:=hN
 clear hN
 have hN:=Pn.here
 replace hN:aH ez _ ez [.own vI 3 (vr) (rk),.cd aV 5 98 (vw) (ways),.aJ g7 [vr,vw] 28,.aJ g5 [vJ n,iE,Hs,iD] 194,.aJ g2 [vN,vN] 28,.aJ g1 [vJ n,v,kv] 111]:=hN
 iterate 2 refine RW.seq ?_
 refine RW.region (RL.ag (v:=vJ r) U (RL.ag (ah adt rfl dw) (RL.ag (ah acJ rfl bI) (RL.ag (aj acy (hN.aJ 5 rfl)) (RL.ag (aK) (RL.ak ?_))))))
 refine RW.aG _ (fun pP=>?_) (fun pP=>?_)
 refine RW.skip (aA (RW.seq (RW.block (RW.aN (RL.ag (aE (cs:=[vJ n,iE,Hs,iD]) acI cI (hN.aJ 3 rfl)) ?_)))))
 refine RL.aL (bo aks rfl rfl rfl ((Cd n _ _ _ bX cN kL _ (CW.now hN) (Wg.now hN) (CV.now hN) hB.tok.ins Ln (by omega)).mono ?_))
 rintro _ lX ⟨cB,rfl,Un,bl⟩
 replace hN:=hN.ext bl
 clear bl
 have u9:=Un (hB.left (by omega))
 have aax:=u9.1
 have aaw:=u9.2.1
 refine RL.ag (v:=.int .i64 (cB)) ai (RL.ak (RW.seq ?_))
 have Aj:=hB.zO
 refine RW.region (RL.ag (ah acE rfl cc) (RL.ag (aj acz (hN.aJ 2 rfl)) (RL.ag (v:=.int .i64 (cB)) U (RL.ag (v:=vJ r) U (RL.ag (aC acz bI (hN.sl 0 rfl)) ?_)))))
 refine RL.aL (cm (m:=(cB).toNat) (a:=(r:Int)) bI hN 0 rfl rfl (by omega) rfl rfl rfl rfl ?_)
 clear hN
 intro oI (hN:aH ez _ oI [_,_,_,_,_,_])
 refine RL.bY (RL.ag (aE (cs:=[vJ n,iE,Hs,iD]) acI cI (hN.aJ 3 rfl)) (RL.ag (v:=.int .i64 (cB)) U ?_))
 refine RL.aL (bu akt rfl rfl rfl rfl ((ya n _ _ _ bX cN kL _ (CW.now hN) (Wg.now hN) (CV.now hN) cB (iU r) hB.tok (gj r) (sR (by omega) hn) (afy (pg (by omega)) (by decide)) hn).mono ?_))
 rintro kZ ph ⟨out,cL,fA,Om,bl⟩
 replace hN:aH ez _ ph [_,_,_,_,_,_,_]:=hN.fw cL bl
 clear cL bl
 refine RL.ag (v:=kZ) ai (RL.ak ?_)
 iterate 2 refine RW.seq ?_
 refine RW.region (RL.ag (v:=.int .i64 (0)) ai (RL.ak (RW.block ?_)))
 refine RW.loop (fun k2 R2 gR=>∃mX:Value,∃q:Nat,R2 1=vP g1∧R2 2=vP g2∧R2 3=vP g5∧R2 4=vP g7∧R2 6=vJ r∧R2 7=.int .i64 (cB)∧R2 8=kZ∧R2 9=vJ q∧aH ez (b6 [.own vI 3 (vr) (rk),.cd aV 5 98 (vw) (ways),.aJ g7 [vr,vw] 28,.aJ g5 [vJ n,iE,Hs,iD] 194,.aJ g2 [vN,vN] 28,.aJ g1 [vJ n,v,kv] 111]) gR [.cd aV 5 98 (kZ) (out),.own vI 3 (vr) ((rk).set (cB).toNat ((r:Int))),.cd aV 5 98 (vw) (ways),.aJ g7 [vr,vw] 28,.aJ g5 [vJ n,iE,mX,iD] 194,.aJ g2 [vN,vN] 28,.aJ g1 [vJ n,v,kv] 111]∧(q+k2=out.length)∧((bf n bX cN (out.take q)).length≤cN.length+q)∧(mz (b6 [.cd aV 5 98 (kZ) (out),.own vI 3 (vr) ((rk).set (cB).toNat ((r:Int))),.cd aV 5 98 (vw) (ways),.aJ g7 [vr,vw] 28,.aJ g5 [vJ n,iE,mX,iD] 194,.aJ g2 [vN,vN] 28,.aJ g1 [vJ n,v,kv] 111]) aV gR mX (bf n bX cN (out.take q)))) (out.length) ?_ ?_
 exact⟨Hs,0,rfl,rfl,rfl,rfl,rfl,rfl,rfl,rfl,hN,by omega,ac8 _,(mz.step fE Wg hN)⟩
 clear hN
 rintro k2 R2 gR ⟨mX,q,bN,bQ,cb,cu,cV,cC,cM,dN,hN,yl,OE,vU⟩
 have cz:=rN bN bQ cb cu cV cC cM dN
 obtain⟨M9,rfl⟩:=cz
 clear bN bQ cb cu cV cC cM dN
 have iY:=hN
 clear hN
 have hN:=iY.here
 replace hN:aH gR _ gR [.cd aV 5 98 (kZ) (out),.own vI 3 (vr) ((rk).set (cB).toNat ((r:Int))),.cd aV 5 98 (vw) (ways),.aJ g7 [vr,vw] 28,.aJ g5 [vJ n,iE,mX,iD] 194,.aJ g2 [vN,vN] 28,.aJ g1 [vJ n,v,kv] 111]:=hN
 iterate 2 refine RW.seq ?_
 refine RW.region (RL.ag (v:=vJ q) U (RL.ag (v:=kZ) U ?_))
 have Yy:=(hN.sm 0 rfl).bw
 refine RL.ag (bO acL (hN.sm 0 rfl)) (RL.ag (aK) (RL.ak ?_))
 refine RW.aG _ (fun ep=>?_) (fun ep=>?_)
 refine RW.skip (aA (RW.seq (RW.block (RW.seq ?_))))
 replace hN:=hN.ext (Ext.drew gR)
 refine RW.bA (fun u=>aH gR (b6 [.cd aV 5 98 (kZ) (out),.own vI 3 (vr) ((rk).set (cB).toNat ((r:Int))),.cd aV 5 98 (vw) (ways),.aJ g7 [vr,vw] 28,.aJ g5 [vJ n,iE,mX,iD] 194,.aJ g2 [vN,vN] 28,.aJ g1 [vJ n,v,kv] 111]) u [.cd aV 5 98 (kZ) (out),.own vI 3 (vr) ((rk).set (cB).toNat ((r:Int))),.cd aV 5 98 (vw) (ways),.aJ g7 [vr,vw] 28,.aJ g5 [vJ n,iE,mX,iD] 194,.aJ g2 [vN,vN] 28,.aJ g1 [vJ n,v,kv] 111]) 30 [(0,0),(1,0),(2,0),(3,0),(4,0),(5,0),(6,0),(7,0),(8,0),(9,0),(10,0),(11,0),(12,0),(13,0),(14,0),(15,0),(16,0),(17,0),(18,0),(19,0),(20,0),(21,0),(22,0)] (by intro _ _ _ h;exact h) hN (RQ.an rfl (fun w hS=>(aE (cs:=[vJ n,iE,mX,iD]) acI cI (hS.aJ 4 rfl))) (RQ.an (v:=kZ) rfl (fun w hS=>U) (RQ.an (v:=vJ q) rfl (fun w hS=>U) (RQ.an rfl (fun w hS=>(aT acL eh aI (hS.sm 0 rfl))) ?_))))
 have aO:=cQ (out) q
 obtain⟨ap,bV⟩:=aO
 refine RQ.an rfl (fun w hS=>(bm (m:=q) (b:=0) acG rfl bI aI (hS.sm 0 rfl) bV)) (RQ.an rfl (fun w hS=>(bB (m:=q) (j:=0) (a:=ap) acy aI (hS.sm 0 rfl) bV)) (RQ.an (v:=kZ) rfl (fun w hS=>U) (RQ.an (v:=vJ q) rfl (fun w hS=>U) (RQ.an rfl (fun w hS=>(aT acL eh aI (hS.sm 0 rfl))) (RQ.an rfl (fun w hS=>(bm (m:=q) (b:=0) acG rfl bI aI (hS.sm 0 rfl) bV)) (RQ.an rfl (fun w hS=>(bB (m:=q) (j:=1) (a:=ap) acy aI (hS.sm 0 rfl) bV)) (RQ.an (v:=kZ) rfl (fun w hS=>U) (RQ.an (v:=vJ q) rfl (fun w hS=>U) (RQ.an rfl (fun w hS=>(aT acL eh aI (hS.sm 0 rfl))) ?_)))))))))
 refine RQ.an rfl (fun w hS=>(bm (m:=q) (b:=0) acG rfl cT aI (hS.sm 0 rfl) bV)) (RQ.an rfl (fun w hS=>(bm (m:=q) (b:=2) acN rfl bI aI (hS.sm 0 rfl) bV)) (RQ.an rfl (fun w hS=>(bB (m:=q) (j:=2) (a:=ap) acy aI (hS.sm 0 rfl) bV)) (RQ.an (v:=kZ) rfl (fun w hS=>U) (RQ.an (v:=vJ q) rfl (fun w hS=>U) (RQ.an rfl (fun w hS=>(aT acL eh aI (hS.sm 0 rfl))) (RQ.an rfl (fun w hS=>(bm (m:=q) (b:=0) acG rfl cT aI (hS.sm 0 rfl) bV)) (RQ.an rfl (fun w hS=>(bm (m:=q) (b:=2) acN rfl bI aI (hS.sm 0 rfl) bV)) (RQ.an rfl (fun w hS=>(bB (m:=q) (j:=3) (a:=ap) acy aI (hS.sm 0 rfl) bV)) ?_))))))))
 refine RQ.two (i:=23) (j:=27) [(24,0),(25,0),(26,0),(27,1),(28,1),(29,0)] [(23,1),(24,0),(25,0),(26,0),(28,1),(29,0)] (by kernel_rfl) rfl rfl rfl rfl (by kernel_rfl) ?_ ?_
 refine(lH aiA rfl rfl rfl rfl rfl rfl rfl ((tE (b6 [.cd aV 5 98 (kZ) (out),.own vI 3 (vr) ((rk).set (cB).toNat ((r:Int))),.cd aV 5 98 (vw) (ways),.aJ g7 [vr,vw] 28,.aJ g5 [vJ n,iE,mX,iD] 194,.aJ g2 [vN,vN] 28,.aJ g1 [vJ n,v,kv] 111]) (fun k hk=>hN.qQ hk) n _ _ _ bX (bf n bX cN (out.take q)) kL ap.1 ap.2.1 ap.2.2.1 ap.2.2.2.1 ((CW.step iY).step hN) (mz.step fE vU hN) ((CV.step iY).step hN) hB.tok.ins (by omega)).mono ?_))
 rintro _ vd ⟨Ht,JW,rfl,Pe,bl⟩
 replace hN:=hN.ext bl
 clear bl
 have yu:=hN
 clear hN
 have hN:=yu.here
 replace hN:aH vd _ vd [.cd aV 5 98 (kZ) (out),.own vI 3 (vr) ((rk).set (cB).toNat ((r:Int))),.cd aV 5 98 (vw) (ways),.aJ g7 [vr,vw] 28,.aJ g5 [vJ n,iE,mX,iD] 194,.aJ g2 [vN,vN] 28,.aJ g1 [vJ n,v,kv] 111]:=hN
 refine⟨(yu.back hN),?_⟩
 refine RQ.an (v:=.tuple #[.agg #[vJ n,iE,Ht,iD],.bool JW]) rfl (fun w hS=>U) ?_
 iterate 2 refine RQ.an rfl (fun w hS=>(bE)) ?_
 refine RQ.bW rfl (bz (cs:=[.int .i64 (0),vN,vN,vN]) jb rfl hN ?_)
 clear hN
 intro g20 Bp (hN:aH vd _ Bp [_,_,_,_,_,_,_,_])
 refine⟨((yu.back hN).sb [1,2,3,4,5,6,7]),?_⟩
 refine RQ.bW rfl (aS (vs:=[vJ n,iE,Ht,iD]) cI rfl rfl rfl (by intro u hu;simp only[ac6,ac0,or_false]at hu;rcases hu with rfl|rfl|rfl|rfl<;>first|rfl|exact(((CW.step iY).step yu).now hN).bT|exact(((CV.step iY).step yu).now hN).bT|exact(Pe.now hN).bT) hN 0 rfl rfl ?_)
 clear hN
 intro BB (hN:aH vd _ BB [_,_,_,_,_,_,_,_])
 refine⟨((yu.back hN).sb [1,2,3,4,5,6,7]),?_⟩
 refine RQ.an (v:=.bool JW) rfl (fun w hS=>ai) (RQ.bq (aA (RW.region (RL.ag (aE (cs:=[vJ n,iE,Ht,iD]) acI cI (hN.aJ 0 rfl)) ?_))))
 refine RL.aL (aS (vs:=[vJ n,iE,Ht,iD]) cI rfl rfl rfl (by intro u hu;simp only[ac6,ac0,or_false]at hu;rcases hu with rfl|rfl|rfl|rfl<;>first|rfl|exact(((CW.step iY).step yu).now hN).bT|exact(((CV.step iY).step yu).now hN).bT|exact(Pe.now hN).bT) hN 5 rfl rfl ?_)
 clear hN
 intro yY (hN:aH vd _ yY [_,_,_,_,_,_,_,_])
 refine RL.nil (ba (aA (RW.region (RL.ag (v:=vJ q) U (RL.ag (aD rfl rfl rfl (bg (by omega) (by omega))) (RL.ag (v:=.int .i64 ((q:Int)+1)) ai (RL.ak ?_)))))))
 exact⟨k2-1,by omega,Ht,q+1,rfl,rfl,rfl,rfl,rfl,rfl,rfl,rfl,(iY.back (yu.back (hN.sb [1,2,3,4,5,6,7]))),by omega,by rw[kK bV];have:=tD n bX (bf n bX cN (out.take q)) ap.1 ap.2.1 ap.2.2.1 ap.2.2.2.1;omega,by rw[kK bV];exact mz.step fE Pe (hN.sb [1,2,3,4,5,6,7])⟩
 refine(bz (cs:=[.int .i64 (0),vN,vN,vN]) jb rfl hN ?_)
 clear hN
 intro YO zn (hN:aH gR _ zn [_,_,_,_,_,_,_,_])
 refine⟨(hN.sb [1,2,3,4,5,6,7]),?_⟩
 refine RQ.bW rfl (lH aiA rfl rfl rfl rfl rfl rfl rfl ((tE (b6 [.aJ YO [.int .i64 (0),vN,vN,vN] 194,.cd aV 5 98 (kZ) (out),.own vI 3 (vr) ((rk).set (cB).toNat ((r:Int))),.cd aV 5 98 (vw) (ways),.aJ g7 [vr,vw] 28,.aJ g5 [vJ n,iE,mX,iD] 194,.aJ g2 [vN,vN] 28,.aJ g1 [vJ n,v,kv] 111]) (fun k hk=>hN.qQ hk) n _ _ _ bX (bf n bX cN (out.take q)) kL ap.1 ap.2.1 ap.2.2.1 ap.2.2.2.1 ((CW.step iY).step hN) (mz.step fE vU hN) ((CV.step iY).step hN) hB.tok.ins (by omega)).mono ?_))
 rintro _ Dk ⟨Hr,M3,rfl,Pd,bl⟩
 replace hN:=hN.ext bl
 clear bl
 have AL:=hN
 clear hN
 have hN:=AL.here
 replace hN:aH Dk _ Dk [.aJ YO [.int .i64 (0),vN,vN,vN] 194,.cd aV 5 98 (kZ) (out),.own vI 3 (vr) ((rk).set (cB).toNat ((r:Int))),.cd aV 5 98 (vw) (ways),.aJ g7 [vr,vw] 28,.aJ g5 [vJ n,iE,mX,iD] 194,.aJ g2 [vN,vN] 28,.aJ g1 [vJ n,v,kv] 111]:=hN
 refine⟨((AL.back hN).sb [1,2,3,4,5,6,7]),?_⟩
 refine RQ.an (v:=.tuple #[.agg #[vJ n,iE,Hr,iD],.bool M3]) rfl (fun w hS=>U) ?_
 iterate 2 refine RQ.an rfl (fun w hS=>(bE)) ?_
 refine RQ.bW rfl (aS (vs:=[vJ n,iE,Hr,iD]) cI rfl rfl rfl (by intro u hu;simp only[ac6,ac0,or_false]at hu;rcases hu with rfl|rfl|rfl|rfl<;>first|rfl|exact(((CW.step iY).step AL).now hN).bT|exact(((CV.step iY).step AL).now hN).bT|exact(Pd.now hN).bT) hN 0 rfl rfl ?_)
 clear hN
 intro FO (hN:aH Dk _ FO [_,_,_,_,_,_,_,_])
 refine⟨((AL.back hN).sb [1,2,3,4,5,6,7]),?_⟩
 refine RQ.an (v:=.bool M3) rfl (fun w hS=>ai) (RQ.bq (aA (RW.region (RL.ag (aE (cs:=[vJ n,iE,Hr,iD]) acI cI (hN.aJ 0 rfl)) ?_))))
 refine RL.aL (aS (vs:=[vJ n,iE,Hr,iD]) cI rfl rfl rfl (by intro u hu;simp only[ac6,ac0,or_false]at hu;rcases hu with rfl|rfl|rfl|rfl<;>first|rfl|exact(((CW.step iY).step AL).now hN).bT|exact(((CV.step iY).step AL).now hN).bT|exact(Pd.now hN).bT) hN 5 rfl rfl ?_)
 clear hN
 intro Gn (hN:aH Dk _ Gn [_,_,_,_,_,_,_,_])
 refine RL.nil (ba (aA (RW.region (RL.ag (v:=vJ q) U (RL.ag (aD rfl rfl rfl (bg (by omega) (by omega))) (RL.ag (v:=.int .i64 ((q:Int)+1)) ai (RL.ak ?_)))))))
 exact⟨k2-1,by omega,Hr,q+1,rfl,rfl,rfl,rfl,rfl,rfl,rfl,rfl,(iY.back (AL.back (hN.sb [1,2,3,4,5,6,7]))),by omega,by rw[kK bV];have:=tD n bX (bf n bX cN (out.take q)) ap.1 ap.2.1 ap.2.2.1 ap.2.2.2.1;omega,by rw[kK bV];exact mz.step fE Pd (hN.sb [1,2,3,4,5,6,7])⟩
 refine RW.exit ?_
 iterate 2 refine bP ?_
 refine aY (aA (RW.seq ?_))
 have fF:q=out.length:=by omega
 rw[fF,adm]at vU OE
 replace hN:aH gR _ gR [.cd aV 5 98 (kZ) (out),.own vI 3 (vr) ((rk).set (cB).toNat ((r:Int))),.cd aV 5 98 (vw) (ways),.aJ g7 [vr,vw] 28,.aJ g5 [vJ n,iE,mX,iD] 194,.aJ g2 [vN,vN] 28,.aJ g1 [vJ n,v,kv] 111]:=hN
 have ZH:=hB.QB
 have U3:(cw (bf n bX cN out) cB n).length≤n:=dZ _ n
 have aay:(df (bf n bX cN out) cB n).length≤n:=dZ _ n
 refine RW.region (RL.ag (aE (cs:=[vJ n,iE,mX,iD]) acI cI (hN.aJ 4 rfl)) (RL.ag (v:=.int .i64 (cB)) U ?_))
 refine RL.aL (bu ahj rfl rfl rfl rfl ((oO n _ _ _ bX (bf n bX cN out) kL _ ((CW.step iY).now hN) (vU.now hN) ((CV.step iY).now hN) cB (by omega)).mono ?_))
 rintro y0 Eb ⟨cL,bl⟩
 replace hN:aH gR _ Eb [_,_,_,_,_,_,_,_]:=hN.cl (l:=cw (bf n bX cN out) cB n) cL bl
 clear cL bl
 refine RL.ag (v:=y0) ai (RL.ak ?_)
 iterate 2 refine RW.seq ?_
 refine RW.region (RL.ag (v:=.int .i64 (0)) ai (RL.ak (RW.block ?_)))
 refine RW.loop (fun k3 R3 P5=>∃L8:Value,∃nd:List I5,∃i3:Nat,R3 1=vP g1∧R3 2=vP g2∧R3 3=vP g5∧R3 4=vP g7∧R3 6=vJ r∧R3 7=.int .i64 (cB)∧R3 12=y0∧R3 13=vJ i3∧aH gR (b6 [.cd aV 5 98 (kZ) (out),.own vI 3 (vr) ((rk).set (cB).toNat ((r:Int))),.cd aV 5 98 (vw) (ways),.aJ g7 [vr,vw] 28,.aJ g5 [vJ n,iE,mX,iD] 194,.aJ g2 [vN,vN] 28,.aJ g1 [vJ n,v,kv] 111]) P5 [.own vI 3 (y0) (cw (bf n bX cN out) cB n),.cd aV 5 98 (kZ) (out),.own vI 3 (vr) ((rk).set (cB).toNat ((r:Int))),.cd aV 5 98 (L8) (nd),.aJ g7 [vr,L8] 28,.aJ g5 [vJ n,iE,mX,iD] 194,.aJ g2 [vN,vN] 28,.aJ g1 [vJ n,v,kv] 111]∧(i3+k3=(cw (bf n bX cN out) cB n).length)∧(nd=ways++((cw (bf n bX cN out) cB n).take i3).map (sT (bf n bX cN out) cB))∧(nd.length≤ways.length+i3)) ((cw (bf n bX cN out) cB n).length) ?_ ?_
 exact⟨vw,ways,0,rfl,rfl,rfl,rfl,rfl,rfl,rfl,rfl,hN,by omega,by simp,ac8 _⟩
 clear hN
 rintro k3 R3 P5 ⟨L8,nd,i3,bN,bQ,cb,cu,cV,cC,eK,fe,hN,hk3,CA,TH⟩
 have cz:=rN bN bQ cb cu cV cC eK fe
 obtain⟨R3_,rfl⟩:=cz
 clear bN bQ cb cu cV cC eK fe
 iterate 2 refine RW.seq ?_
 refine RW.region (RL.ag (v:=vJ i3) U (RL.ag (v:=y0) U ?_))
 have Ys:=(hN.sl 0 rfl).bw
 refine RL.ag (aQ acz (hN.sl 0 rfl)) (RL.ag (aK) (RL.ak ?_))
 refine RW.aG _ (fun yn=>?_) (fun yn=>?_)
 refine RW.skip (aA (RW.seq (RW.block (RW.seq ?_))))
 replace hN:=hN.ext (Ext.drew P5)
 refine RW.bA (fun u=>aH gR (b6 [.cd aV 5 98 (kZ) (out),.own vI 3 (vr) ((rk).set (cB).toNat ((r:Int))),.cd aV 5 98 (vw) (ways),.aJ g7 [vr,vw] 28,.aJ g5 [vJ n,iE,mX,iD] 194,.aJ g2 [vN,vN] 28,.aJ g1 [vJ n,v,kv] 111]) u [.own vI 3 (y0) (cw (bf n bX cN out) cB n),.cd aV 5 98 (kZ) (out),.own vI 3 (vr) ((rk).set (cB).toNat ((r:Int))),.cd aV 5 98 (L8) (nd),.aJ g7 [vr,L8] 28,.aJ g5 [vJ n,iE,mX,iD] 194,.aJ g2 [vN,vN] 28,.aJ g1 [vJ n,v,kv] 111]) 13 [(0,0),(1,0),(2,0),(3,0),(4,0),(5,0)] (by intro _ _ _ h;exact h) hN (RQ.an rfl (fun w hS=>(aE (cs:=[vJ n,iE,mX,iD]) acI cI (hS.aJ 5 rfl))) (RQ.an (v:=.int .i64 (cB)) rfl (fun w hS=>U) (RQ.an (v:=y0) rfl (fun w hS=>U) (RQ.an (v:=vJ i3) rfl (fun w hS=>U) (RQ.an rfl (fun w hS=>(aC acz bI (hS.sl 0 rfl))) ?_)))))
 have aO:=cQ ((cw (bf n bX cN out) cB n)) i3
 obtain⟨ac,ja⟩:=aO
 refine RQ.an rfl (fun w hS=>(aF (m:=i3) (a:=ac) acy (hS.sl 0 rfl) ja)) ?_
 refine RQ.two (i:=6) (j:=10) [(7,0),(8,0),(9,0),(10,1),(11,1),(12,0)] [(6,1),(7,0),(8,0),(9,0),(11,1),(12,0)] (by kernel_rfl) rfl rfl rfl rfl (by kernel_rfl) ?_ ?_
 refine(cn ad9 rfl rfl rfl rfl rfl ((gw n _ _ _ bX (bf n bX cN out) kL _ ((CW.step iY).now hN) (vU.now hN) ((CV.step iY).now hN) cB ac).mono ?_))
 rintro _ L5 ⟨rfl,bl⟩
 replace hN:=hN.ext bl
 clear bl
 refine⟨hN,?_⟩
 refine RQ.an (v:=.tuple #[.agg #[.int .i64 (((bF (bf n bX cN out) cB ac).getD (0,0,0)).1),.int .i64 (((bF (bf n bX cN out) cB ac).getD (0,0,0)).2.1),.int .i64 (((bF (bf n bX cN out) cB ac).getD (0,0,0)).2.2)],.bool (decide (cO (bf n bX cN out) cB ac))]) rfl (fun w hS=>U) ?_
 iterate 2 refine RQ.an rfl (fun w hS=>(bE)) ?_
 refine RQ.bW rfl (bz (cs:=[.int .i64 (0),.int .i64 (0),.int .i64 (0)]) eQ rfl hN ?_)
 clear hN
 intro YM Kt (hN:aH gR _ Kt [_,_,_,_,_,_,_,_,_])
 refine⟨(hN.sb [1,2,3,4,5,6,7,8]),?_⟩
 refine RQ.bW rfl (aS (vs:=[.int .i64 (((bF (bf n bX cN out) cB ac).getD (0,0,0)).1),.int .i64 (((bF (bf n bX cN out) cB ac).getD (0,0,0)).2.1),.int .i64 (((bF (bf n bX cN out) cB ac).getD (0,0,0)).2.2)]) cT rfl rfl rfl (bh (bh (bh cZ))) hN 0 rfl rfl ?_)
 clear hN
 intro FN (hN:aH gR _ FN [_,_,_,_,_,_,_,_,_])
 refine⟨(hN.sb [1,2,3,4,5,6,7,8]),?_⟩
 refine RQ.an (v:=.bool (decide (cO (bf n bX cN out) cB ac))) rfl (fun w hS=>ai) (RQ.bq (aA ?_))
 replace hN:=hN.ext (Ext.drew FN)
 refine RW.bA (fun u=>aH gR (b6 [.cd aV 5 98 (kZ) (out),.own vI 3 (vr) ((rk).set (cB).toNat ((r:Int))),.cd aV 5 98 (vw) (ways),.aJ g7 [vr,vw] 28,.aJ g5 [vJ n,iE,mX,iD] 194,.aJ g2 [vN,vN] 28,.aJ g1 [vJ n,v,kv] 111]) u [.aJ YM [.int .i64 (((bF (bf n bX cN out) cB ac).getD (0,0,0)).1),.int .i64 (((bF (bf n bX cN out) cB ac).getD (0,0,0)).2.1),.int .i64 (((bF (bf n bX cN out) cB ac).getD (0,0,0)).2.2)] 96,.own vI 3 (y0) (cw (bf n bX cN out) cB n),.cd aV 5 98 (kZ) (out),.own vI 3 (vr) ((rk).set (cB).toNat ((r:Int))),.aJ g7 [vr,L8] 28,.aJ g5 [vJ n,iE,mX,iD] 194,.aJ g2 [vN,vN] 28,.aJ g1 [vJ n,v,kv] 111]) 12 [(0,0),(1,0),(2,0),(3,0),(4,0),(5,0),(6,0),(7,0),(8,0),(9,1),(10,1),(11,0),(12,2)] (by intro _ _ _ h;exact h) (hN.sb [0,1,2,3,5,6,7,8]) (RQ.an rfl (fun w hS=>(ah acE rfl eF)) (RQ.an rfl (fun w hS=>(aj acL (hS.aJ 4 rfl))) (RQ.an (v:=.int .i64 (cB)) rfl (fun w hS=>U) (RQ.an (v:=y0) rfl (fun w hS=>U) (RQ.an (v:=vJ i3) rfl (fun w hS=>U) (RQ.an rfl (fun w hS=>(aC acz bI (hS.sl 1 rfl))) (RQ.an rfl (fun w hS=>(aF (m:=i3) (a:=ac) acy (hS.sl 1 rfl) ja)) ?_)))))))
 refine RQ.an rfl (fun w hS=>(aE (cs:=[.int .i64 (((bF (bf n bX cN out) cB ac).getD (0,0,0)).1),.int .i64 (((bF (bf n bX cN out) cB ac).getD (0,0,0)).2.1),.int .i64 (((bF (bf n bX cN out) cB ac).getD (0,0,0)).2.2)]) acN cT (hS.aJ 0 rfl))) (RQ.an rfl (fun w hS=>(bR (cs:=[.int .i64 (cB),.int .i64 (ac),.int .i64 (((bF (bf n bX cN out) cB ac).getD (0,0,0)).1),.int .i64 (((bF (bf n bX cN out) cB ac).getD (0,0,0)).2.1),.int .i64 (((bF (bf n bX cN out) cB ac).getD (0,0,0)).2.2)]) acG fW (places:=#[(0,1),(1,1),(2,3)]) (by intro w;kernel_rfl) (pl:=[(0,.tmp 109),(1,.tmp 113),(2,.tmp 114)]) rfl (ps:=[(0,.int .i64 (cB)),(1,.int .i64 (ac)),(2,.agg #[.int .i64 (((bF (bf n bX cN out) cB ac).getD (0,0,0)).1),.int .i64 (((bF (bf n bX cN out) cB ac).getD (0,0,0)).2.1),.int .i64 (((bF (bf n bX cN out) cB ac).getD (0,0,0)).2.2)])]) rfl (zc:=[.int .i64 (0),.int .i64 (0),.int .i64 (0),.int .i64 (0),.int .i64 (0)]) rfl (aP (vs:=[.int .i64 (cB)]) rfl rfl (acA rfl) (aP (vs:=[.int .i64 (ac)]) rfl rfl (acA rfl) (aP (vs:=[.int .i64 (((bF (bf n bX cN out) cB ac).getD (0,0,0)).1),.int .i64 (((bF (bf n bX cN out) cB ac).getD (0,0,0)).2.1),.int .i64 (((bF (bf n bX cN out) cB ac).getD (0,0,0)).2.2)]) rfl rfl (acA rfl) rfl))))) ?_)
 refine RQ.bW rfl (dn (cf:=aV) (s:=5) (pl:=[(0,.tmp 115)]) (ps:=[(0,.agg #[.int .i64 (cB),.int .i64 (ac),.int .i64 (((bF (bf n bX cN out) cB ac).getD (0,0,0)).1),.int .i64 (((bF (bf n bX cN out) cB ac).getD (0,0,0)).2.1),.int .i64 (((bF (bf n bX cN out) cB ac).getD (0,0,0)).2.2)])]) (zc:=[.int .i64 (0),.int .i64 (0),.int .i64 (0),.int .i64 (0),.int .i64 (0)]) (l:=[(cB,ac,((bF (bf n bX cN out) cB ac).getD (0,0,0)).1,((bF (bf n bX cN out) cB ac).getD (0,0,0)).2.1,((bF (bf n bX cN out) cB ac).getD (0,0,0)).2.2)]) acL jz (by kernel_rfl) rfl rfl (aP (vs:=[.int .i64 (cB),.int .i64 (ac),.int .i64 (((bF (bf n bX cN out) cB ac).getD (0,0,0)).1),.int .i64 (((bF (bf n bX cN out) cB ac).getD (0,0,0)).2.1),.int .i64 (((bF (bf n bX cN out) cB ac).getD (0,0,0)).2.2)]) rfl rfl (acA rfl) rfl) aI rfl (by decide) (by decide) (by decide) hN ?_)
 clear hN
 intro g34 Ks (hN:aH gR _ Ks [_,_,_,_,_,_,_,_,_,_])
 refine⟨(hN.sb [1,2,3,4,6,7,8,9]),?_⟩
 refine RQ.bW rfl (cp acL jz rfl (by decide) dp aI hN 5 rfl rfl (hN.sm 0 rfl) rfl (by(try simp only[acB,acH,acK,acS,ada,ac9]);omega) (by decide) ?_)
 clear hN
 intro Za L4 (hN:aH gR _ L4 [_,_,_,_,_,_,_,_,_,_])
 refine⟨(hN.sb [1,2,3,4,6,7,8,9]),?_⟩
 refine RQ.an rfl (fun w hS=>(ah acE rfl eF)) ?_
 refine RQ.last rfl rfl (b7 eF rfl rfl (hN.sm 5 rfl).cK (hN.sm 5 rfl).bT hN 6 rfl (acA rfl) ?_)
 clear hN
 intro P4 (hN:aH gR _ P4 [_,_,_,_,_,_,_,_,_,_])
 refine RZ.dW (ba (aA (RW.region (RL.ag (v:=vJ i3) U (RL.ag (aD rfl rfl rfl (bg (by omega) (by omega))) (RL.ag (v:=.int .i64 ((i3:Int)+1)) ai (RL.ak ?_)))))))
 exact⟨k3-1,by omega,Za,nd++[(cB,ac,((bF (bf n bX cN out) cB ac).getD (0,0,0)).1,((bF (bf n bX cN out) cB ac).getD (0,0,0)).2.1,((bF (bf n bX cN out) cB ac).getD (0,0,0)).2.2)],i3+1,rfl,rfl,rfl,rfl,rfl,rfl,rfl,rfl,(hN.sb [2,3,4,5,6,7,8,9]),by omega,by rw[ef _ ja,CA,adB];rfl,by(try simp only[acB,acH]);omega⟩
 refine(bz (cs:=[.int .i64 (0),.int .i64 (0),.int .i64 (0)]) eQ rfl hN ?_)
 clear hN
 intro g37 Ns (hN:aH gR _ Ns [_,_,_,_,_,_,_,_,_])
 refine⟨(hN.sb [1,2,3,4,5,6,7,8]),?_⟩
 refine RQ.bW rfl (cn ad9 rfl rfl rfl rfl rfl ((gw n _ _ _ bX (bf n bX cN out) kL _ ((CW.step iY).now hN) (vU.now hN) ((CV.step iY).now hN) cB ac).mono ?_))
 rintro _ Kr ⟨rfl,bl⟩
 replace hN:=hN.ext bl
 clear bl
 refine⟨(hN.sb [1,2,3,4,5,6,7,8]),?_⟩
 refine RQ.an (v:=.tuple #[.agg #[.int .i64 (((bF (bf n bX cN out) cB ac).getD (0,0,0)).1),.int .i64 (((bF (bf n bX cN out) cB ac).getD (0,0,0)).2.1),.int .i64 (((bF (bf n bX cN out) cB ac).getD (0,0,0)).2.2)],.bool (decide (cO (bf n bX cN out) cB ac))]) rfl (fun w hS=>U) ?_
 iterate 2 refine RQ.an rfl (fun w hS=>(bE)) ?_
 refine RQ.bW rfl (aS (vs:=[.int .i64 (((bF (bf n bX cN out) cB ac).getD (0,0,0)).1),.int .i64 (((bF (bf n bX cN out) cB ac).getD (0,0,0)).2.1),.int .i64 (((bF (bf n bX cN out) cB ac).getD (0,0,0)).2.2)]) cT rfl rfl rfl (bh (bh (bh cZ))) hN 0 rfl rfl ?_)
 clear hN
 intro Kq (hN:aH gR _ Kq [_,_,_,_,_,_,_,_,_])
 refine⟨(hN.sb [1,2,3,4,5,6,7,8]),?_⟩
 refine RQ.an (v:=.bool (decide (cO (bf n bX cN out) cB ac))) rfl (fun w hS=>ai) (RQ.bq (aA ?_))
 replace hN:=hN.ext (Ext.drew Kq)
 refine RW.bA (fun u=>aH gR (b6 [.cd aV 5 98 (kZ) (out),.own vI 3 (vr) ((rk).set (cB).toNat ((r:Int))),.cd aV 5 98 (vw) (ways),.aJ g7 [vr,vw] 28,.aJ g5 [vJ n,iE,mX,iD] 194,.aJ g2 [vN,vN] 28,.aJ g1 [vJ n,v,kv] 111]) u [.aJ g37 [.int .i64 (((bF (bf n bX cN out) cB ac).getD (0,0,0)).1),.int .i64 (((bF (bf n bX cN out) cB ac).getD (0,0,0)).2.1),.int .i64 (((bF (bf n bX cN out) cB ac).getD (0,0,0)).2.2)] 96,.own vI 3 (y0) (cw (bf n bX cN out) cB n),.cd aV 5 98 (kZ) (out),.own vI 3 (vr) ((rk).set (cB).toNat ((r:Int))),.aJ g7 [vr,L8] 28,.aJ g5 [vJ n,iE,mX,iD] 194,.aJ g2 [vN,vN] 28,.aJ g1 [vJ n,v,kv] 111]) 12 [(0,0),(1,0),(2,0),(3,0),(4,0),(5,0),(6,0),(7,0),(8,0),(9,1),(10,1),(11,0),(12,2)] (by intro _ _ _ h;exact h) (hN.sb [0,1,2,3,5,6,7,8]) (RQ.an rfl (fun w hS=>(ah acE rfl eF)) (RQ.an rfl (fun w hS=>(aj acL (hS.aJ 4 rfl))) (RQ.an (v:=.int .i64 (cB)) rfl (fun w hS=>U) (RQ.an (v:=y0) rfl (fun w hS=>U) (RQ.an (v:=vJ i3) rfl (fun w hS=>U) (RQ.an rfl (fun w hS=>(aC acz bI (hS.sl 1 rfl))) (RQ.an rfl (fun w hS=>(aF (m:=i3) (a:=ac) acy (hS.sl 1 rfl) ja)) ?_)))))))
 refine RQ.an rfl (fun w hS=>(aE (cs:=[.int .i64 (((bF (bf n bX cN out) cB ac).getD (0,0,0)).1),.int .i64 (((bF (bf n bX cN out) cB ac).getD (0,0,0)).2.1),.int .i64 (((bF (bf n bX cN out) cB ac).getD (0,0,0)).2.2)]) acN cT (hS.aJ 0 rfl))) (RQ.an rfl (fun w hS=>(bR (cs:=[.int .i64 (cB),.int .i64 (ac),.int .i64 (((bF (bf n bX cN out) cB ac).getD (0,0,0)).1),.int .i64 (((bF (bf n bX cN out) cB ac).getD (0,0,0)).2.1),.int .i64 (((bF (bf n bX cN out) cB ac).getD (0,0,0)).2.2)]) acG fW (places:=#[(0,1),(1,1),(2,3)]) (by intro w;kernel_rfl) (pl:=[(0,.tmp 109),(1,.tmp 113),(2,.tmp 114)]) rfl (ps:=[(0,.int .i64 (cB)),(1,.int .i64 (ac)),(2,.agg #[.int .i64 (((bF (bf n bX cN out) cB ac).getD (0,0,0)).1),.int .i64 (((bF (bf n bX cN out) cB ac).getD (0,0,0)).2.1),.int .i64 (((bF (bf n bX cN out) cB ac).getD (0,0,0)).2.2)])]) rfl (zc:=[.int .i64 (0),.int .i64 (0),.int .i64 (0),.int .i64 (0),.int .i64 (0)]) rfl (aP (vs:=[.int .i64 (cB)]) rfl rfl (acA rfl) (aP (vs:=[.int .i64 (ac)]) rfl rfl (acA rfl) (aP (vs:=[.int .i64 (((bF (bf n bX cN out) cB ac).getD (0,0,0)).1),.int .i64 (((bF (bf n bX cN out) cB ac).getD (0,0,0)).2.1),.int .i64 (((bF (bf n bX cN out) cB ac).getD (0,0,0)).2.2)]) rfl rfl (acA rfl) rfl))))) ?_)
 refine RQ.bW rfl (dn (cf:=aV) (s:=5) (pl:=[(0,.tmp 115)]) (ps:=[(0,.agg #[.int .i64 (cB),.int .i64 (ac),.int .i64 (((bF (bf n bX cN out) cB ac).getD (0,0,0)).1),.int .i64 (((bF (bf n bX cN out) cB ac).getD (0,0,0)).2.1),.int .i64 (((bF (bf n bX cN out) cB ac).getD (0,0,0)).2.2)])]) (zc:=[.int .i64 (0),.int .i64 (0),.int .i64 (0),.int .i64 (0),.int .i64 (0)]) (l:=[(cB,ac,((bF (bf n bX cN out) cB ac).getD (0,0,0)).1,((bF (bf n bX cN out) cB ac).getD (0,0,0)).2.1,((bF (bf n bX cN out) cB ac).getD (0,0,0)).2.2)]) acL jz (by kernel_rfl) rfl rfl (aP (vs:=[.int .i64 (cB),.int .i64 (ac),.int .i64 (((bF (bf n bX cN out) cB ac).getD (0,0,0)).1),.int .i64 (((bF (bf n bX cN out) cB ac).getD (0,0,0)).2.1),.int .i64 (((bF (bf n bX cN out) cB ac).getD (0,0,0)).2.2)]) rfl rfl (acA rfl) rfl) aI rfl (by decide) (by decide) (by decide) hN ?_)
 clear hN
 intro g41 P2 (hN:aH gR _ P2 [_,_,_,_,_,_,_,_,_,_])
 refine⟨(hN.sb [1,2,3,4,6,7,8,9]),?_⟩
 refine RQ.bW rfl (cp acL jz rfl (by decide) dp aI hN 5 rfl rfl (hN.sm 0 rfl) rfl (by(try simp only[acB,acH,acK,acS,ada,ac9]);omega) (by decide) ?_)
 clear hN
 intro Y7 P1 (hN:aH gR _ P1 [_,_,_,_,_,_,_,_,_,_])
 refine⟨(hN.sb [1,2,3,4,6,7,8,9]),?_⟩
 refine RQ.an rfl (fun w hS=>(ah acE rfl eF)) ?_
 refine RQ.last rfl rfl (b7 eF rfl rfl (hN.sm 5 rfl).cK (hN.sm 5 rfl).bT hN 6 rfl (acA rfl) ?_)
 clear hN
 intro P0 (hN:aH gR _ P0 [_,_,_,_,_,_,_,_,_,_])
 refine RZ.dW (ba (aA (RW.region (RL.ag (v:=vJ i3) U (RL.ag (aD rfl rfl rfl (bg (by omega) (by omega))) (RL.ag (v:=.int .i64 ((i3:Int)+1)) ai (RL.ak ?_)))))))
 exact⟨k3-1,by omega,Y7,nd++[(cB,ac,((bF (bf n bX cN out) cB ac).getD (0,0,0)).1,((bF (bf n bX cN out) cB ac).getD (0,0,0)).2.1,((bF (bf n bX cN out) cB ac).getD (0,0,0)).2.2)],i3+1,rfl,rfl,rfl,rfl,rfl,rfl,rfl,rfl,(hN.sb [2,3,4,5,6,7,8,9]),by omega,by rw[ef _ ja,CA,adB];rfl,by(try simp only[acB,acH]);omega⟩
 refine RW.exit ?_
 iterate 2 refine bP ?_
 refine aY (aA (RW.aN (RL.ag (aE (cs:=[vJ n,iE,mX,iD]) acI cI (hN.aJ 5 rfl)) (RL.ag (v:=.int .i64 (cB)) U ?_))))
 refine RL.aL (bu ahk rfl rfl rfl rfl ((qE n _ _ _ bX (bf n bX cN out) kL _ ((CW.step iY).now hN) (vU.now hN) ((CV.step iY).now hN) cB (by omega)).mono ?_))
 rintro FQ PZ ⟨cL,bl⟩
 replace hN:aH gR _ PZ [_,_,_,_,_,_,_,_,_]:=hN.cl (l:=df (bf n bX cN out) cB n) cL bl
 clear cL bl
 refine RL.ag (v:=FQ) ai (RL.ak ?_)
 iterate 2 refine RW.seq ?_
 refine RW.region (RL.ag (v:=.int .i64 (0)) ai (RL.ak (RW.block ?_)))
 refine RW.loop (fun k4 R4 P3=>∃FP:Value,∃nc:List I5,∃i4:Nat,R4 1=vP g1∧R4 2=vP g2∧R4 3=vP g5∧R4 4=vP g7∧R4 6=vJ r∧R4 7=.int .i64 (cB)∧R4 16=FQ∧R4 17=vJ i4∧aH gR (b6 [.cd aV 5 98 (kZ) (out),.own vI 3 (vr) ((rk).set (cB).toNat ((r:Int))),.cd aV 5 98 (vw) (ways),.aJ g7 [vr,vw] 28,.aJ g5 [vJ n,iE,mX,iD] 194,.aJ g2 [vN,vN] 28,.aJ g1 [vJ n,v,kv] 111]) P3 [.own vI 3 (FQ) (df (bf n bX cN out) cB n),.own vI 3 (y0) (cw (bf n bX cN out) cB n),.cd aV 5 98 (kZ) (out),.own vI 3 (vr) ((rk).set (cB).toNat ((r:Int))),.cd aV 5 98 (FP) (nc),.aJ g7 [vr,FP] 28,.aJ g5 [vJ n,iE,mX,iD] 194,.aJ g2 [vN,vN] 28,.aJ g1 [vJ n,v,kv] 111]∧(i4+k4=(df (bf n bX cN out) cB n).length)∧(nc=nd++((df (bf n bX cN out) cB n).take i4).map (J0 (bf n bX cN out) cB))∧(nc.length≤nd.length+i4)) ((df (bf n bX cN out) cB n).length) ?_ ?_
 exact⟨L8,nd,0,rfl,rfl,rfl,rfl,rfl,rfl,rfl,rfl,hN,by omega,by simp,ac8 _⟩
 clear hN
 rintro k4 R4 P3 ⟨FP,nc,i4,bN,bQ,cb,cu,cV,cC,Ax,eJ,hN,X0,Cz,TG⟩
 have cz:=rN bN bQ cb cu cV cC Ax eJ
 obtain⟨R4_,rfl⟩:=cz
 clear bN bQ cb cu cV cC Ax eJ
 iterate 2 refine RW.seq ?_
 refine RW.region (RL.ag (v:=vJ i4) U (RL.ag (v:=FQ) U ?_))
 have Yo:=(hN.sl 0 rfl).bw
 refine RL.ag (aQ acz (hN.sl 0 rfl)) (RL.ag (aK) (RL.ak ?_))
 refine RW.aG _ (fun OA=>?_) (fun OA=>?_)
 refine RW.skip (aA (RW.seq (RW.block (RW.seq ?_))))
 replace hN:=hN.ext (Ext.drew P3)
 refine RW.bA (fun u=>aH gR (b6 [.cd aV 5 98 (kZ) (out),.own vI 3 (vr) ((rk).set (cB).toNat ((r:Int))),.cd aV 5 98 (vw) (ways),.aJ g7 [vr,vw] 28,.aJ g5 [vJ n,iE,mX,iD] 194,.aJ g2 [vN,vN] 28,.aJ g1 [vJ n,v,kv] 111]) u [.own vI 3 (FQ) (df (bf n bX cN out) cB n),.own vI 3 (y0) (cw (bf n bX cN out) cB n),.cd aV 5 98 (kZ) (out),.own vI 3 (vr) ((rk).set (cB).toNat ((r:Int))),.cd aV 5 98 (FP) (nc),.aJ g7 [vr,FP] 28,.aJ g5 [vJ n,iE,mX,iD] 194,.aJ g2 [vN,vN] 28,.aJ g1 [vJ n,v,kv] 111]) 13 [(0,0),(1,0),(2,0),(3,0),(4,0),(5,0)] (by intro _ _ _ h;exact h) hN (RQ.an rfl (fun w hS=>(aE (cs:=[vJ n,iE,mX,iD]) acI cI (hS.aJ 6 rfl))) (RQ.an (v:=FQ) rfl (fun w hS=>U) (RQ.an (v:=vJ i4) rfl (fun w hS=>U) (RQ.an rfl (fun w hS=>(aC acz bI (hS.sl 0 rfl))) ?_))))
 have aO:=cQ ((df (bf n bX cN out) cB n)) i4
 obtain⟨ad,ze⟩:=aO
 refine RQ.an rfl (fun w hS=>(aF (m:=i4) (a:=ad) acy (hS.sl 0 rfl) ze)) (RQ.an (v:=.int .i64 (cB)) rfl (fun w hS=>U) ?_)
 refine RQ.two (i:=6) (j:=10) [(7,0),(8,0),(9,0),(10,1),(11,1),(12,0)] [(6,1),(7,0),(8,0),(9,0),(11,1),(12,0)] (by kernel_rfl) rfl rfl rfl rfl (by kernel_rfl) ?_ ?_
 refine(cn ad9 rfl rfl rfl rfl rfl ((gw n _ _ _ bX (bf n bX cN out) kL _ ((CW.step iY).now hN) (vU.now hN) ((CV.step iY).now hN) ad cB).mono ?_))
 rintro _ Tt ⟨rfl,bl⟩
 replace hN:=hN.ext bl
 clear bl
 refine⟨hN,?_⟩
 refine RQ.an (v:=.tuple #[.agg #[.int .i64 (((bF (bf n bX cN out) ad cB).getD (0,0,0)).1),.int .i64 (((bF (bf n bX cN out) ad cB).getD (0,0,0)).2.1),.int .i64 (((bF (bf n bX cN out) ad cB).getD (0,0,0)).2.2)],.bool (decide (cO (bf n bX cN out) ad cB))]) rfl (fun w hS=>U) ?_
 iterate 2 refine RQ.an rfl (fun w hS=>(bE)) ?_
 refine RQ.bW rfl (bz (cs:=[.int .i64 (0),.int .i64 (0),.int .i64 (0)]) eQ rfl hN ?_)
 clear hN
 intro Wp Nr (hN:aH gR _ Nr [_,_,_,_,_,_,_,_,_,_])
 refine⟨(hN.sb [1,2,3,4,5,6,7,8,9]),?_⟩
 refine RQ.bW rfl (aS (vs:=[.int .i64 (((bF (bf n bX cN out) ad cB).getD (0,0,0)).1),.int .i64 (((bF (bf n bX cN out) ad cB).getD (0,0,0)).2.1),.int .i64 (((bF (bf n bX cN out) ad cB).getD (0,0,0)).2.2)]) cT rfl rfl rfl (bh (bh (bh cZ))) hN 0 rfl rfl ?_)
 clear hN
 intro PY (hN:aH gR _ PY [_,_,_,_,_,_,_,_,_,_])
 refine⟨(hN.sb [1,2,3,4,5,6,7,8,9]),?_⟩
 refine RQ.an (v:=.bool (decide (cO (bf n bX cN out) ad cB))) rfl (fun w hS=>ai) (RQ.bq (aA ?_))
 replace hN:=hN.ext (Ext.drew PY)
 refine RW.bA (fun u=>aH gR (b6 [.cd aV 5 98 (kZ) (out),.own vI 3 (vr) ((rk).set (cB).toNat ((r:Int))),.cd aV 5 98 (vw) (ways),.aJ g7 [vr,vw] 28,.aJ g5 [vJ n,iE,mX,iD] 194,.aJ g2 [vN,vN] 28,.aJ g1 [vJ n,v,kv] 111]) u [.aJ Wp [.int .i64 (((bF (bf n bX cN out) ad cB).getD (0,0,0)).1),.int .i64 (((bF (bf n bX cN out) ad cB).getD (0,0,0)).2.1),.int .i64 (((bF (bf n bX cN out) ad cB).getD (0,0,0)).2.2)] 96,.own vI 3 (FQ) (df (bf n bX cN out) cB n),.own vI 3 (y0) (cw (bf n bX cN out) cB n),.cd aV 5 98 (kZ) (out),.own vI 3 (vr) ((rk).set (cB).toNat ((r:Int))),.aJ g7 [vr,FP] 28,.aJ g5 [vJ n,iE,mX,iD] 194,.aJ g2 [vN,vN] 28,.aJ g1 [vJ n,v,kv] 111]) 12 [(0,0),(1,0),(2,0),(3,0),(4,0),(5,0),(6,0),(7,0),(8,0),(9,1),(10,1),(11,0),(12,2)] (by intro _ _ _ h;exact h) (hN.sb [0,1,2,3,4,6,7,8,9]) (RQ.an rfl (fun w hS=>(ah acE rfl eF)) (RQ.an rfl (fun w hS=>(aj acL (hS.aJ 5 rfl))) (RQ.an (v:=FQ) rfl (fun w hS=>U) (RQ.an (v:=vJ i4) rfl (fun w hS=>U) (RQ.an rfl (fun w hS=>(aC acz bI (hS.sl 1 rfl))) (RQ.an rfl (fun w hS=>(aF (m:=i4) (a:=ad) acy (hS.sl 1 rfl) ze)) ?_))))))
 refine RQ.an (v:=.int .i64 (cB)) rfl (fun w hS=>U) (RQ.an rfl (fun w hS=>(aE (cs:=[.int .i64 (((bF (bf n bX cN out) ad cB).getD (0,0,0)).1),.int .i64 (((bF (bf n bX cN out) ad cB).getD (0,0,0)).2.1),.int .i64 (((bF (bf n bX cN out) ad cB).getD (0,0,0)).2.2)]) acN cT (hS.aJ 0 rfl))) (RQ.an rfl (fun w hS=>(bR (cs:=[.int .i64 (ad),.int .i64 (cB),.int .i64 (((bF (bf n bX cN out) ad cB).getD (0,0,0)).1),.int .i64 (((bF (bf n bX cN out) ad cB).getD (0,0,0)).2.1),.int .i64 (((bF (bf n bX cN out) ad cB).getD (0,0,0)).2.2)]) acG fW (places:=#[(0,1),(1,1),(2,3)]) (by intro w;kernel_rfl) (pl:=[(0,.tmp 143),(1,.tmp 144),(2,.tmp 145)]) rfl (ps:=[(0,.int .i64 (ad)),(1,.int .i64 (cB)),(2,.agg #[.int .i64 (((bF (bf n bX cN out) ad cB).getD (0,0,0)).1),.int .i64 (((bF (bf n bX cN out) ad cB).getD (0,0,0)).2.1),.int .i64 (((bF (bf n bX cN out) ad cB).getD (0,0,0)).2.2)])]) rfl (zc:=[.int .i64 (0),.int .i64 (0),.int .i64 (0),.int .i64 (0),.int .i64 (0)]) rfl (aP (vs:=[.int .i64 (ad)]) rfl rfl (acA rfl) (aP (vs:=[.int .i64 (cB)]) rfl rfl (acA rfl) (aP (vs:=[.int .i64 (((bF (bf n bX cN out) ad cB).getD (0,0,0)).1),.int .i64 (((bF (bf n bX cN out) ad cB).getD (0,0,0)).2.1),.int .i64 (((bF (bf n bX cN out) ad cB).getD (0,0,0)).2.2)]) rfl rfl (acA rfl) rfl))))) ?_))
 refine RQ.bW rfl (dn (cf:=aV) (s:=5) (pl:=[(0,.tmp 146)]) (ps:=[(0,.agg #[.int .i64 (ad),.int .i64 (cB),.int .i64 (((bF (bf n bX cN out) ad cB).getD (0,0,0)).1),.int .i64 (((bF (bf n bX cN out) ad cB).getD (0,0,0)).2.1),.int .i64 (((bF (bf n bX cN out) ad cB).getD (0,0,0)).2.2)])]) (zc:=[.int .i64 (0),.int .i64 (0),.int .i64 (0),.int .i64 (0),.int .i64 (0)]) (l:=[(ad,cB,((bF (bf n bX cN out) ad cB).getD (0,0,0)).1,((bF (bf n bX cN out) ad cB).getD (0,0,0)).2.1,((bF (bf n bX cN out) ad cB).getD (0,0,0)).2.2)]) acL jz (by kernel_rfl) rfl rfl (aP (vs:=[.int .i64 (ad),.int .i64 (cB),.int .i64 (((bF (bf n bX cN out) ad cB).getD (0,0,0)).1),.int .i64 (((bF (bf n bX cN out) ad cB).getD (0,0,0)).2.1),.int .i64 (((bF (bf n bX cN out) ad cB).getD (0,0,0)).2.2)]) rfl rfl (acA rfl) rfl) aI rfl (by decide) (by decide) (by decide) hN ?_)
 clear hN
 intro g50 QC (hN:aH gR _ QC [_,_,_,_,_,_,_,_,_,_,_])
 refine⟨(hN.sb [1,2,3,4,5,7,8,9,10]),?_⟩
 refine RQ.bW rfl (cp acL jz rfl (by decide) dp aI hN 6 rfl rfl (hN.sm 0 rfl) rfl (by(try simp only[acB,acH,acK,acS,ada,ac9]);omega) (by decide) ?_)
 clear hN
 intro Y4 PX (hN:aH gR _ PX [_,_,_,_,_,_,_,_,_,_,_])
 refine⟨(hN.sb [1,2,3,4,5,7,8,9,10]),?_⟩
 refine RQ.an rfl (fun w hS=>(ah acE rfl eF)) ?_
 refine RQ.last rfl rfl (b7 eF rfl rfl (hN.sm 6 rfl).cK (hN.sm 6 rfl).bT hN 7 rfl (acA rfl) ?_)
 clear hN
 intro T2 (hN:aH gR _ T2 [_,_,_,_,_,_,_,_,_,_,_])
 refine RZ.dW (ba (aA (RW.region (RL.ag (v:=vJ i4) U (RL.ag (aD rfl rfl rfl (bg (by omega) (by omega))) (RL.ag (v:=.int .i64 ((i4:Int)+1)) ai (RL.ak ?_)))))))
 exact⟨k4-1,by omega,Y4,nc++[(ad,cB,((bF (bf n bX cN out) ad cB).getD (0,0,0)).1,((bF (bf n bX cN out) ad cB).getD (0,0,0)).2.1,((bF (bf n bX cN out) ad cB).getD (0,0,0)).2.2)],i4+1,rfl,rfl,rfl,rfl,rfl,rfl,rfl,rfl,(hN.sb [2,3,4,5,6,7,8,9,10]),by omega,by rw[ef _ ze,Cz,adB];rfl,by(try simp only[acB,acH]);omega⟩
 refine(bz (cs:=[.int .i64 (0),.int .i64 (0),.int .i64 (0)]) eQ rfl hN ?_)
 clear hN
 intro g53 Y2 (hN:aH gR _ Y2 [_,_,_,_,_,_,_,_,_,_])
 refine⟨(hN.sb [1,2,3,4,5,6,7,8,9]),?_⟩
 refine RQ.bW rfl (cn ad9 rfl rfl rfl rfl rfl ((gw n _ _ _ bX (bf n bX cN out) kL _ ((CW.step iY).now hN) (vU.now hN) ((CV.step iY).now hN) ad cB).mono ?_))
 rintro _ w54 ⟨rfl,bl⟩
 replace hN:=hN.ext bl
 clear bl
 refine⟨(hN.sb [1,2,3,4,5,6,7,8,9]),?_⟩
 refine RQ.an (v:=.tuple #[.agg #[.int .i64 (((bF (bf n bX cN out) ad cB).getD (0,0,0)).1),.int .i64 (((bF (bf n bX cN out) ad cB).getD (0,0,0)).2.1),.int .i64 (((bF (bf n bX cN out) ad cB).getD (0,0,0)).2.2)],.bool (decide (cO (bf n bX cN out) ad cB))]) rfl (fun w hS=>U) ?_
 iterate 2 refine RQ.an rfl (fun w hS=>(bE)) ?_
 refine RQ.bW rfl (aS (vs:=[.int .i64 (((bF (bf n bX cN out) ad cB).getD (0,0,0)).1),.int .i64 (((bF (bf n bX cN out) ad cB).getD (0,0,0)).2.1),.int .i64 (((bF (bf n bX cN out) ad cB).getD (0,0,0)).2.2)]) cT rfl rfl rfl (bh (bh (bh cZ))) hN 0 rfl rfl ?_)
 clear hN
 intro WL (hN:aH gR _ WL [_,_,_,_,_,_,_,_,_,_])
 refine⟨(hN.sb [1,2,3,4,5,6,7,8,9]),?_⟩
 refine RQ.an (v:=.bool (decide (cO (bf n bX cN out) ad cB))) rfl (fun w hS=>ai) (RQ.bq (aA ?_))
 replace hN:=hN.ext (Ext.drew WL)
 refine RW.bA (fun u=>aH gR (b6 [.cd aV 5 98 (kZ) (out),.own vI 3 (vr) ((rk).set (cB).toNat ((r:Int))),.cd aV 5 98 (vw) (ways),.aJ g7 [vr,vw] 28,.aJ g5 [vJ n,iE,mX,iD] 194,.aJ g2 [vN,vN] 28,.aJ g1 [vJ n,v,kv] 111]) u [.aJ g53 [.int .i64 (((bF (bf n bX cN out) ad cB).getD (0,0,0)).1),.int .i64 (((bF (bf n bX cN out) ad cB).getD (0,0,0)).2.1),.int .i64 (((bF (bf n bX cN out) ad cB).getD (0,0,0)).2.2)] 96,.own vI 3 (FQ) (df (bf n bX cN out) cB n),.own vI 3 (y0) (cw (bf n bX cN out) cB n),.cd aV 5 98 (kZ) (out),.own vI 3 (vr) ((rk).set (cB).toNat ((r:Int))),.aJ g7 [vr,FP] 28,.aJ g5 [vJ n,iE,mX,iD] 194,.aJ g2 [vN,vN] 28,.aJ g1 [vJ n,v,kv] 111]) 12 [(0,0),(1,0),(2,0),(3,0),(4,0),(5,0),(6,0),(7,0),(8,0),(9,1),(10,1),(11,0),(12,2)] (by intro _ _ _ h;exact h) (hN.sb [0,1,2,3,4,6,7,8,9]) (RQ.an rfl (fun w hS=>(ah acE rfl eF)) (RQ.an rfl (fun w hS=>(aj acL (hS.aJ 5 rfl))) (RQ.an (v:=FQ) rfl (fun w hS=>U) (RQ.an (v:=vJ i4) rfl (fun w hS=>U) (RQ.an rfl (fun w hS=>(aC acz bI (hS.sl 1 rfl))) (RQ.an rfl (fun w hS=>(aF (m:=i4) (a:=ad) acy (hS.sl 1 rfl) ze)) ?_))))))
 refine RQ.an (v:=.int .i64 (cB)) rfl (fun w hS=>U) (RQ.an rfl (fun w hS=>(aE (cs:=[.int .i64 (((bF (bf n bX cN out) ad cB).getD (0,0,0)).1),.int .i64 (((bF (bf n bX cN out) ad cB).getD (0,0,0)).2.1),.int .i64 (((bF (bf n bX cN out) ad cB).getD (0,0,0)).2.2)]) acN cT (hS.aJ 0 rfl))) (RQ.an rfl (fun w hS=>(bR (cs:=[.int .i64 (ad),.int .i64 (cB),.int .i64 (((bF (bf n bX cN out) ad cB).getD (0,0,0)).1),.int .i64 (((bF (bf n bX cN out) ad cB).getD (0,0,0)).2.1),.int .i64 (((bF (bf n bX cN out) ad cB).getD (0,0,0)).2.2)]) acG fW (places:=#[(0,1),(1,1),(2,3)]) (by intro w;kernel_rfl) (pl:=[(0,.tmp 143),(1,.tmp 144),(2,.tmp 145)]) rfl (ps:=[(0,.int .i64 (ad)),(1,.int .i64 (cB)),(2,.agg #[.int .i64 (((bF (bf n bX cN out) ad cB).getD (0,0,0)).1),.int .i64 (((bF (bf n bX cN out) ad cB).getD (0,0,0)).2.1),.int .i64 (((bF (bf n bX cN out) ad cB).getD (0,0,0)).2.2)])]) rfl (zc:=[.int .i64 (0),.int .i64 (0),.int .i64 (0),.int .i64 (0),.int .i64 (0)]) rfl (aP (vs:=[.int .i64 (ad)]) rfl rfl (acA rfl) (aP (vs:=[.int .i64 (cB)]) rfl rfl (acA rfl) (aP (vs:=[.int .i64 (((bF (bf n bX cN out) ad cB).getD (0,0,0)).1),.int .i64 (((bF (bf n bX cN out) ad cB).getD (0,0,0)).2.1),.int .i64 (((bF (bf n bX cN out) ad cB).getD (0,0,0)).2.2)]) rfl rfl (acA rfl) rfl))))) ?_))
 refine RQ.bW rfl (dn (cf:=aV) (s:=5) (pl:=[(0,.tmp 146)]) (ps:=[(0,.agg #[.int .i64 (ad),.int .i64 (cB),.int .i64 (((bF (bf n bX cN out) ad cB).getD (0,0,0)).1),.int .i64 (((bF (bf n bX cN out) ad cB).getD (0,0,0)).2.1),.int .i64 (((bF (bf n bX cN out) ad cB).getD (0,0,0)).2.2)])]) (zc:=[.int .i64 (0),.int .i64 (0),.int .i64 (0),.int .i64 (0),.int .i64 (0)]) (l:=[(ad,cB,((bF (bf n bX cN out) ad cB).getD (0,0,0)).1,((bF (bf n bX cN out) ad cB).getD (0,0,0)).2.1,((bF (bf n bX cN out) ad cB).getD (0,0,0)).2.2)]) acL jz (by kernel_rfl) rfl rfl (aP (vs:=[.int .i64 (ad),.int .i64 (cB),.int .i64 (((bF (bf n bX cN out) ad cB).getD (0,0,0)).1),.int .i64 (((bF (bf n bX cN out) ad cB).getD (0,0,0)).2.1),.int .i64 (((bF (bf n bX cN out) ad cB).getD (0,0,0)).2.2)]) rfl rfl (acA rfl) rfl) aI rfl (by decide) (by decide) (by decide) hN ?_)
 clear hN
 intro g57 Y0 (hN:aH gR _ Y0 [_,_,_,_,_,_,_,_,_,_,_])
 refine⟨(hN.sb [1,2,3,4,5,7,8,9,10]),?_⟩
 refine RQ.bW rfl (cp acL jz rfl (by decide) dp aI hN 6 rfl rfl (hN.sm 0 rfl) rfl (by(try simp only[acB,acH,acK,acS,ada,ac9]);omega) (by decide) ?_)
 clear hN
 intro Y3 YZ (hN:aH gR _ YZ [_,_,_,_,_,_,_,_,_,_,_])
 refine⟨(hN.sb [1,2,3,4,5,7,8,9,10]),?_⟩
 refine RQ.an rfl (fun w hS=>(ah acE rfl eF)) ?_
 refine RQ.last rfl rfl (b7 eF rfl rfl (hN.sm 6 rfl).cK (hN.sm 6 rfl).bT hN 7 rfl (acA rfl) ?_)
 clear hN
 intro T1 (hN:aH gR _ T1 [_,_,_,_,_,_,_,_,_,_,_])
 refine RZ.dW (ba (aA (RW.region (RL.ag (v:=vJ i4) U (RL.ag (aD rfl rfl rfl (bg (by omega) (by omega))) (RL.ag (v:=.int .i64 ((i4:Int)+1)) ai (RL.ak ?_)))))))
 exact⟨k4-1,by omega,Y3,nc++[(ad,cB,((bF (bf n bX cN out) ad cB).getD (0,0,0)).1,((bF (bf n bX cN out) ad cB).getD (0,0,0)).2.1,((bF (bf n bX cN out) ad cB).getD (0,0,0)).2.2)],i4+1,rfl,rfl,rfl,rfl,rfl,rfl,rfl,rfl,(hN.sb [2,3,4,5,6,7,8,9,10]),by omega,by rw[ef _ ze,Cz,adB];rfl,by(try simp only[acB,acH]);omega⟩
 refine RW.exit ?_
 iterate 2 refine bP ?_
 refine aY (aA (RW.seq ?_))
 have Uu:nd=ways++(cw (bf n bX cN out) cB n).map (sT (bf n bX cN out) cB):=by rw[CA,show i3=(cw (bf n bX cN out) cB n).length by omega,adm]
 have Ut:nc=rj n (bf n bX cN out) cB ways:=by rw[Cz,show i4=(df (bf n bX cN out) cB n).length by omega,adm,Uu];rfl
 have aam:=B2 n bX out cN
 refine RW.region (RL.ag (aE (cs:=[vJ n,iE,mX,iD]) acI cI (hN.aJ 6 rfl)) (RL.ag (v:=.int .i64 (cB)) U ?_))
 refine RL.aL (bu akq rfl rfl rfl rfl ((zr (b6 [.own vI 3 (FQ) (df (bf n bX cN out) cB n),.own vI 3 (y0) (cw (bf n bX cN out) cB n),.cd aV 5 98 (kZ) (out),.own vI 3 (vr) ((rk).set (cB).toNat ((r:Int))),.cd aV 5 98 (FP) (nc),.aJ g7 [vr,FP] 28,.aJ g5 [vJ n,iE,mX,iD] 194,.aJ g2 [vN,vN] 28,.aJ g1 [vJ n,v,kv] 111]) (fun k hk=>hN.qQ hk) n _ _ _ bX (bf n bX cN out) kL cB ((CW.step iY).step hN) (mz.step fE vU hN) ((CV.step iY).step hN) u9 hB.tok.ins Ln (by omega) (by omega)).mono ?_))
 rintro _ Nq ⟨Hz,Hq,G3,NV,YQ,rfl,Jn,Jm,Jl,Sj,bl⟩
 replace hN:=hN.ext bl
 clear bl
 have S2:=hN
 clear hN
 have hN:=S2.here
 replace hN:aH Nq _ Nq [.own vI 3 (FQ) (df (bf n bX cN out) cB n),.own vI 3 (y0) (cw (bf n bX cN out) cB n),.cd aV 5 98 (kZ) (out),.own vI 3 (vr) ((rk).set (cB).toNat ((r:Int))),.cd aV 5 98 (FP) (nc),.aJ g7 [vr,FP] 28,.aJ g5 [vJ n,iE,mX,iD] 194,.aJ g2 [vN,vN] 28,.aJ g1 [vJ n,v,kv] 111]:=hN
 refine RL.ag (v:=.tuple #[.agg #[vJ n,Hz,Hq,G3],.bool YQ]) U ?_
 iterate 2 refine RL.ag (bE) ?_
 refine RL.aL (bz (cs:=[.int .i64 (0),vN,vN,vN]) jb rfl hN ?_)
 clear hN
 intro g62 YY (hN:aH Nq _ YY [_,_,_,_,_,_,_,_,_,_])
 refine RL.aL (aS (vs:=[vJ n,Hz,Hq,G3]) cI rfl rfl rfl (by intro u hu;simp only[ac6,ac0,or_false]at hu;rcases hu with rfl|rfl|rfl|rfl<;>first|rfl|exact(Jn.now hN).bT|exact(Jm.now hN).bT|exact(Jl.now hN).bT) hN 0 rfl rfl ?_)
 clear hN
 intro YX (hN:aH Nq _ YX [_,_,_,_,_,_,_,_,_,_])
 refine RL.ag (v:=.bool YQ) ai (RL.ak (RW.region (RL.ag (aE (cs:=[vJ n,Hz,Hq,G3]) acI cI (hN.aJ 0 rfl)) ?_)))
 refine RL.aL (aS (vs:=[vJ n,Hz,Hq,G3]) cI rfl rfl rfl (by intro u hu;simp only[ac6,ac0,or_false]at hu;rcases hu with rfl|rfl|rfl|rfl<;>first|rfl|exact(Jn.now hN).bT|exact(Jm.now hN).bT|exact(Jl.now hN).bT) hN 7 rfl rfl ?_)
 clear hN
 intro YW (hN:aH Nq _ YW [_,_,_,_,_,_,_,_,_,_])
 refine RL.nil (ba (aA (RW.region (RL.ag (v:=vJ r) U (RL.ag (aD rfl rfl rfl (bg (by omega) (by omega))) (RL.ag (v:=.int .i64 ((r:Int)+1)) ai (RL.ak ?_)))))))
 exact⟨k1-1,by omega,vr,(rk).set (cB).toNat ((r:Int)),FP,nc,Hz,(bX.set (cB).toNat 0),Hq,(wu (bf n bX cN out) cB),G3,NV,r+1,rfl,rfl,rfl,rfl,rfl,(Pn.back (iY.back (S2.back (hN.sb [4,5,6,7,8,9])))),by omega,by rw[Ut];exact hB.step (by omega) hn u9 fA,Sj,by have:=Eg (bf n bX cN out) cB;omega,Jn.step (hN.sb [4,5,6,7,8,9]),mz.step fE Jm (hN.sb [4,5,6,7,8,9]),Jl.step (hN.sb [4,5,6,7,8,9])⟩
 refine RW.exit ?_
 iterate 2 refine bP ?_
 refine aY (aA (RW.aN (RL.ag (aE (cs:=[vr,vw]) acE dq (hN.aJ 2 rfl)) ?_)))
 refine RL.aL (aS (vs:=[vr,vw]) dq rfl rfl rfl (by intro u hu;simp only[ac6,ac0,or_false]at hu;rcases hu with rfl|rfl<;>first|rfl|exact(hN.sl 0 rfl).bT|exact(hN.sm 1 rfl).bT) hN 4 rfl rfl ?_)
 clear hN
 intro YV (hN:aH ez _ YV [_,_,_,_,_,_])
 refine RL.ak (RW.ret (bc (RV.cell rfl rfl (hN.aJ 4 rfl) acE rfl dq) ?_))
 have lS:r=n:=by omega
 subst lS
 exact⟨_,_,_,_,_,_,rfl,(YD.back (Pn.back hN)).sb [0,1],hB⟩
end Go.Proofs.YtngkdkbpgoddlaaGreat
namespace Go.Proofs.YtngkdkbpgoddlaaGreat
open Go.RowKit Go.Rl
open Go.Gr
theorem E8 (n:Nat) (v:Value) (l:List I3) (w:World) (hv:Sm bC w v l) (ff:dU (n:Int) l=0) (hl:l.length≤40) (hn:n≤12):aM acD 25 #[.agg #[.int .i64 (n:Int),v]] w fun r w'=>∃rv wv rk ways ins ls,r=.agg #[rv,wv]∧aH w none_ w' [.own vI 3 rv rk,.cd aV 5 98 wv ways]∧zh n l n rk ways ins ls:=by
 refine aM.aZ Tryz.func25 ?_
 rw[cH]
 have hN:=aH.nil w none_
 have CI:=(nZ ff).2.2.2
 refine RW.aN ?_
 refine RL.aL (bJ (cs:=[vJ n,v]) rfl rfl hN ?_)
 clear hN
 intro g1 w1 (hN:aH w none_ w1 [_])
 refine RL.aL (bz (cs:=[vN,vN]) oG rfl hN ?_)
 clear hN
 intro g2 w2 (hN:aH w none_ w2 [_,_])
 refine RL.bY (RL.ag (aE (cs:=[vJ n,v]) acJ dw (hN.aJ 1 rfl)) ?_)
 refine RL.aL (bo aiP rfl rfl rfl ((uO ((n:Int)) _ l _ (hv.o.now hN) ff).mono ?_))
 rintro _ w3 ⟨Ud,rfl,cL,bl⟩
 replace hN:aH w none_ w3 [_,_,_]:=hN.cl cL bl
 clear cL bl
 refine RL.ag (v:=.tuple #[.agg #[vJ n,v,Ud],.bool true]) U ?_
 iterate 2 refine RL.ag (bE) ?_
 refine RL.aL (bz (cs:=[.int .i64 (0),vN,vN]) pd rfl hN ?_)
 clear hN
 intro g4 w4 (hN:aH w none_ w4 [_,_,_,_])
 refine RL.aL (aS (vs:=[vJ n,v,Ud]) oo rfl rfl rfl (by intro u hu;simp only[ac6,ac0,or_false]at hu;rcases hu with rfl|rfl|rfl<;>first|rfl|exact(hN.sl 1 rfl).bT|exact(hv.o.now hN).bT) hN 0 rfl rfl ?_)
 clear hN
 intro w5 (hN:aH w none_ w5 [_,_,_,_])
 refine RL.ag (v:=.bool true) ai (RL.bY (RL.ag (aE (cs:=[vJ n,v,Ud]) adt oo (hN.aJ 0 rfl)) ?_))
 refine RL.aL (bo Tryz.func60 rfl rfl rfl ((Be n _ l _ (kept l) _ (hv.o.now hN) (hN.sl 1 rfl) (Hy _) hl hn CI rfl).mono ?_))
 rintro _ w6 ⟨rv,wv,rk,ways,ins,ls,rfl,cE,hB⟩
 replace hN:aH w none_ w6 [_,_,_,_,_,_]:=hN.fG cE
 clear cE
 refine RL.aL (aS (vs:=[rv,wv]) dq rfl rfl rfl (by intro u hu;simp only[ac6,ac0,or_false]at hu;rcases hu with rfl|rfl<;>first|rfl|exact(hN.sl 0 rfl).bT|exact(hN.sm 1 rfl).bT) hN 4 rfl rfl ?_)
 clear hN
 intro w7 (hN:aH w none_ w7 [_,_,_,_,_,_])
 refine RL.ak (RW.ret (bc (RV.cell rfl rfl (hN.aJ 4 rfl) acE rfl dq) ?_))
 exact⟨_,_,_,_,_,_,rfl,hN.sb [0,1],hB⟩
theorem tR (n:Nat) (v:Value) (l:List I3) (kk:Int) (w:World) (hv:Sm bC w v l) (ff:dU (n:Int) l=0) (hl:l.length≤40) (hn:n≤12):aM acD 8 #[.agg #[.int .i64 (n:Int),v],.int .i64 kk] w fun r w'=>∃rv wv rk ways ins ls gv fv ov iv cW cX Qh far gM outs gI jC E3 so E4 si,r=.tuple #[.agg #[.int .i64 (n:Int),v,rv,wv,gv,fv,ov,iv,cW,cX],.int .i64 0]∧aH w none_ w' [.own vI 3 rv rk,.cd aV 5 98 wv ways,.own vI 3 gv (b8 rk (cA (rk.length:Int) kk) rk.length),.own vh 25 fv Qh,.eD vI Qh far,.own vh 118 ov gM,.ed bG gM outs,.own vh 118 iv gI,.ed bG gI jC,.own vh 25 cW E3,.eD vI E3 so,.own vh 25 cX E4,.eD vI E4 si]∧zh n l n rk ways ins ls∧mB n rk (cA (rk.length:Int) kk) (b8 rk (cA (rk.length:Int) kk) rk.length) far outs jC so si:=by
 refine aM.aZ ajg ?_
 rw[cS]
 have hN:=aH.nil w none_
 refine RW.aN ?_
 refine RL.aL (bJ (cs:=[vJ n,v]) rfl rfl hN ?_)
 clear hN
 intro g1 w1 (hN:aH w none_ w1 [_])
 refine RL.aL (bz (cs:=[.int .i64 (0),vN,vN,vN,vN,vN,vN,vN,vN,vN]) fM rfl hN ?_)
 clear hN
 intro g2 w2 (hN:aH w none_ w2 [_,_])
 refine RL.ag (v:=.int .i64 (0)) ai (RL.bY (RL.ag (aE (cs:=[vJ n,v]) acJ dw (hN.aJ 1 rfl)) ?_))
 refine RL.aL (bo ahz rfl rfl rfl ((wU ((n:Int)) _ l _ (hv.o.now hN) ff).mono ?_))
 rintro _ w3 ⟨rfl,bl⟩
 replace hN:=hN.ext bl
 clear bl
 refine RL.ag (v:=.int .i64 (0)) ai (RL.ak ?_)
 iterate 2 refine RW.seq ?_
 refine RW.region (RL.ag (v:=.int .i64 (0)) U (RL.ag (cG (bj) (fun h=>h rfl)) (RL.ak (RW.cj (RW.skip (aA (RW.aN ?_)))))))
 refine RL.ag (aE (cs:=[vJ n,v]) acJ dw (hN.aJ 1 rfl)) ?_
 refine RL.aL (bo Tryz.func25 rfl rfl rfl ((E8 n _ l _ (hv.o.now hN) ff hl hn).mono ?_))
 rintro _ w4 ⟨rv,wv,rk,ways,ins,ls,rfl,cE,hB⟩
 replace hN:aH w none_ w4 [_,_,_,_]:=hN.fG cE
 clear cE
 have hH:=hB.ff
 refine RL.aL (bz (cs:=[vN,vN]) oG rfl hN ?_)
 clear hN
 intro g5 w5 (hN:aH w none_ w5 [_,_,_,_,_])
 refine RL.aL (aS (vs:=[rv,wv]) dq rfl rfl rfl (by intro u hu;simp only[ac6,ac0,or_false]at hu;rcases hu with rfl|rfl<;>first|rfl|exact(hN.sl 1 rfl).bT|exact(hN.sm 2 rfl).bT) hN 0 rfl rfl ?_)
 clear hN
 intro w6 (hN:aH w none_ w6 [_,_,_,_,_])
 refine RL.ak (RW.seq ?_)
 replace hN:=hN.ext (Ext.drew w6)
 refine RW.bA (fun u=>aH w none_ u [.aJ g5 [rv,wv] 28,.own vI 3 (rv) (rk),.cd aV 5 98 (wv) (ways),.aJ g1 [vJ n,v] 24]) 8 [(0,0),(1,0),(2,0),(3,0),(4,1),(5,0),(6,1),(7,0)] (by intro _ _ _ h;exact h) (hN.sb [0,1,2,4]) (RQ.an rfl (fun w hS=>(aE (cs:=[vJ n,v]) acJ dw (hS.aJ 3 rfl))) ?_)
 iterate 2 refine RQ.an rfl (fun w hS=>(aE (cs:=[rv,wv]) acE dq (hS.aJ 0 rfl))) ?_
 refine RQ.an (v:=.int .i64 (kk)) rfl (fun w hS=>U) ?_
 refine RQ.bW rfl (bu Tryz.func26 rfl rfl rfl rfl ((Ej n _ _ rk ways _ (hN.sl 1 rfl) (hN.sm 2 rfl) hH kk hn).mono ?_))
 rintro _ w7 ⟨gv,fv,ov,iv,cW,cX,Qh,far,gM,outs,gI,jC,E3,so,E4,si,rfl,cE,hGT⟩
 replace hN:aH w none_ w7 [_,_,_,_,_,_,_,_,_,_,_,_,_,_,_,_]:=hN.fG cE
 clear cE
 refine⟨(hN.sb [11,12,13,15]),?_⟩
 refine RQ.an rfl (fun w hS=>(bR (cs:=[vJ n,v,rv,wv,gv,fv,ov,iv,cW,cX]) acO fM (places:=#[(0,2),(2,2),(4,6)]) (by intro w;kernel_rfl) (pl:=[(0,.tmp 16),(1,.tmp 17),(2,.tmp 20)]) rfl (ps:=[(0,.agg #[vJ n,v]),(1,.agg #[rv,wv]),(2,.agg #[gv,fv,ov,iv,cW,cX])]) rfl (zc:=[.int .i64 (0),vN,vN,vN,vN,vN,vN,vN,vN,vN]) rfl (aP (vs:=[vJ n,v]) rfl rfl (acA rfl) (aP (vs:=[rv,wv]) rfl rfl (acA rfl) (aP (vs:=[gv,fv,ov,iv,cW,cX]) rfl rfl (acA rfl) rfl))))) ?_
 refine RQ.bW rfl (aS (vs:=[vJ n,v,rv,wv,gv,fv,ov,iv,cW,cX]) eR rfl rfl rfl (by intro u hu;simp only[ac6,ac0,or_false]at hu;rcases hu with rfl|rfl|rfl|rfl|rfl|rfl|rfl|rfl|rfl|rfl<;>first|rfl|exact(hN.sl 0 rfl).bT|exact(hN.sl 1 rfl).bT|exact(hN.sl 12 rfl).bT|exact(hN.sl 3 rfl).bT|exact(hN.sl 5 rfl).bT|exact(hN.sl 7 rfl).bT|exact(hN.sl 9 rfl).bT|exact(hN.sm 13 rfl).bT|exact(hv.o.now hN).bT) hN 14 rfl rfl ?_)
 clear hN
 intro w8 (hN:aH w none_ w8 [_,_,_,_,_,_,_,_,_,_,_,_,_,_,_,_])
 refine⟨(hN.sb [11,12,13,15]),?_⟩
 refine RQ.an (v:=.int .i64 (0)) rfl (fun w hS=>ai) (RQ.bq (aA (RW.ret (bc (RV.eo rfl rfl (dG (hN.aJ 14 rfl) acO rfl eR)) ?_))))
 exact⟨_,_,_,_,_,_,_,_,_,_,_,_,_,_,_,_,_,_,_,_,_,_,rfl,hN.sb [12,13,0,1,2,3,4,5,6,7,8,9,10],hB,hGT⟩
end Go.Proofs.YtngkdkbpgoddlaaGreat
namespace Go.Proofs.YtngkdkbpgoddlaaGreat
open Go.RowKit Go.Rl
open Go.Gr Go.dj Go.jR
theorem fT (w:World):aM acD 13 #[] w fun r w'=>r=.bool true∧Ext w w':=by
 refine aM.aZ ae8 ?_
 rw[M5]
 have hN:=aH.nil w none_
 refine RW.aN (RL.ag (v:=.bool false) ai (RL.ak (RW.aN ?_)))
 refine RL.aL (Hb vb acW sX rfl hN ?_)
 clear hN
 intro v1 w1 (hN:aH w none_ w1 [_])
 have aO:=(hN.QK 0 rfl).hd
 obtain⟨h3,fF⟩:=aO
 subst fF
 refine RL.aL (cx (enc:=vh) (l:=[h3]) (xs:=[.tmp 2]) adL lY Nc rfl rfl (fun _=>rfl) rfl (by decide) (by decide) hN ?_)
 clear hN
 intro g2 w2 (hN:aH w none_ w2 [_,_])
 refine RL.aL (bo ahC rfl rfl rfl ((oR _ ([h3]) [[]] _ (hN.sl 0 rfl) (gG.cons (hN.QK 1 rfl) (sN.none _ _) (gG.nil _ _ _)) (by decide)).mono ?_))
 rintro v4 w4 ⟨cL,bl⟩
 replace hN:aH w none_ w4 [_,_,_]:=hN.cl (l:=dC [[]]) cL bl
 clear cL bl
 replace hN:=hN.l7 0 rfl (show _=[4,0,0,0,0,0,0,0]from wX)
 replace hN:aH w none_ w4 [_,_,_]:=hN
 refine RL.ag (v:=v4) ai (RL.ak (RW.aN ?_))
 refine RL.aL (bo ahC rfl rfl rfl ((oR _ [] [] _ (Sl.nil _ _) (gG.nil _ _ _) (by decide)).mono ?_))
 rintro v5 w5 ⟨cL,bl⟩
 replace hN:aH w none_ w5 [_,_,_,_]:=hN.cl (l:=dC []) cL bl
 clear cL bl
 have AK:=(hN.sl 0 rfl).bw
 refine RL.ag (aQ acW (hN.sl 0 rfl)) (RL.ag (dB (ca) rfl) (RL.ag (v:=.bool true) U (RL.aw (v:=v4) U ?_)))
 have Fm:=(hN.sl 1 rfl).bw
 refine RL.aw (aQ acW (hN.sl 1 rfl)) (RL.aw (dB (ca) rfl) (RL.ag (v:=.bool true) (al) (RL.ag (v:=.bool true) U (RL.aw (v:=v4) U (RL.aw (jQ acW sX (hN.sl 1 rfl) rfl rfl (by decide) (by decide)) (RL.aw (kA (m:=0) (a:=4) ady rfl (hN.sl 1 rfl) rfl rfl) (RL.aw (dB (ca) rfl) (RL.ag (v:=.bool true) (al) (RL.ag (v:=.bool true) U ?_)))))))))
 refine RL.aw (v:=v4) U (RL.aw (jQ acW sX (hN.sl 1 rfl) rfl rfl (by decide) (by decide)) (RL.aw (kA (m:=7) (a:=0) ady rfl (hN.sl 1 rfl) rfl rfl) (RL.aw (dB (ca) rfl) (RL.ag (v:=.bool true) (al) (RL.ag (v:=.bool true) U (RL.aw (v:=v4) U ?_))))))
 refine RL.er (bo af7 rfl rfl rfl ((jK _ ([4,0,0,0,0,0,0,0]) _ (hN.sl 1 rfl) (by decide)).mono ?_))
 rintro v10 lR ⟨UK,cE⟩
 replace hN:aH w none_ lR [_,_,_,_,_,_]:=hN.fG cE
 clear cE
 have XK:=km [[]] (by decide)
 rw[wX]at XK
 have OZ:=(hN.fR 1 rfl).1
 rw[XK]at OZ
 have S1:=(hN.sl 0 rfl).bw
 refine RL.aw (aQ adL (hN.sl 0 rfl)) (RL.aw (dB (ca) (by rw[OZ];rfl)) (RL.ag (v:=.bool true) (al) (RL.ag (v:=.bool true) ai (RL.ak (RW.ret (bc (RV.tmp rfl) ?_))))))
 exact⟨rfl,hN.aX⟩
theorem EM (n:Int) (v:Value) (l:List I3) (w:World) (hv:Sm bC w v l):aM acD 9 #[.int .i64 n,v] w fun r w'=>∃v',r=.agg #[.int .i64 (jj n),v']∧fK bC 3 100 w' w.heap.size v' (cJ (jj n) l)∧Ext w w':=by
 refine aM.aZ Tryz.func9 ?_
 rw[cS]
 have hN:=aH.nil w none_
 refine RW.aN ?_
 refine RL.aL (bz (cs:=[.int .i64 (0),vN]) mZ rfl hN ?_)
 clear hN
 intro g1 w1 (hN:aH w none_ w1 [_])
 refine RL.bY (RL.ag (v:=.int .i64 (n)) U (RL.ag (v:=v) U ?_))
 refine RL.aL (bu Tryz.func27 rfl rfl rfl rfl ((Hf (n) _ l _ (hv.o.now hN)).mono ?_))
 rintro _ w2 ⟨v2,rfl,cL,bl⟩
 replace hN:aH w none_ w2 [_,_]:=hN.fw cL bl
 clear cL bl
 refine RL.aL (aS (vs:=[.int .i64 ((jj (n))),v2]) dw rfl rfl rfl (by intro u hu;simp only[ac6,ac0,or_false]at hu;rcases hu with rfl|rfl<;>first|rfl|exact(hN.sm 0 rfl).bT) hN 1 rfl rfl ?_)
 clear hN
 intro w3 (hN:aH w none_ w3 [_,_])
 refine RL.ak (RW.ret (bc (RV.cell rfl rfl (hN.aJ 1 rfl) acJ rfl dw) ?_))
 exact⟨_,rfl,hN.fL 0 rfl,hN.aX⟩
theorem EK (n:Int) (v:Value) (l:List I3) (w:World) (hv:Sm bC w v l):aM acD 9 #[.int .i64 n,v] w fun r w'=>∃(q:Nat) (v':Value),r=.agg #[.int .i64 (q:Int),v']∧((q:Int)=jj n∧1≤q∧q≤12∧dU (q:Int) (cJ (q:Int) l)=0∧(cJ (q:Int) l).length≤40)∧fK bC 3 100 w' w.heap.size v' (cJ (q:Int) l)∧Ext w w':=by
  refine(EM n v l w hv).mono ?_
  rintro r w' ⟨v',rfl,ho,he⟩
  have h1:=sF n
  have e:((jj n).toNat:Int)=jj n:=by omega
  refine⟨(jj n).toNat,v',by rw[e],⟨e,by omega,by omega,by rw[e];exact KY n l,tL _ l⟩,by rw[e];exact ho,he⟩
end Go.Proofs.YtngkdkbpgoddlaaGreat
namespace Go.Proofs.YtngkdkbpgoddlaaGreat
open Go.RowKit Go.Rl
open Go.Gr Go.dj Go.jR
theorem gE {x:qg} (v:Value) (l:List UInt8) (w:World) (hv:Sl vb w v l) (hl:l.length≤1048576) (hd:uU l=some x):aM acD 15 #[v] w fun r w'=>∃v rv wv gv fv ov iv cW cX hf ho ic gM gI,r=.tuple #[.agg #[.int .i64 x.n,v,rv,wv,gv,fv,ov,iv,cW,cX],.int .i64 0]∧aH w none_ w' [.cd bC 3 100 v x.ar,.own vI 3 rv x.rk,.cd aV 5 98 wv x.ws,.own vI 3 gv x.g,.own vh 25 fv hf,.eD vI hf x.far,.own vh 118 ov ho,.ed bG ho x.outs,.own vh 118 iv ic,.ed bG ic x.ins,.own vh 25 cW gM,.eD vI gM x.so,.own vh 25 cX gI,.eD vI gI x.si]:=
  (yG v l w hv hl).mono fun _ _ h=>by rw[hd]at h;exact h
end Go.Proofs.YtngkdkbpgoddlaaGreat
namespace Go.Proofs.YtngkdkbpgoddlaaGreat
open Go.RowKit Go.Rl
open Go.Gr Go.dj Go.jR
theorem rY (n:Int) (av:Value) (l:List I3) (k:Int) (x:qg) (v rv wv gv fv ov iv cW cX:Value) (hf ho hi gM gI:List Hd) (w:World) (ha:Sm bC w av l) (hv:Sm bC w v x.ar) (hr:Sl vI w rv x.rk) (hw:Sm aV w wv x.ws) (hT:qe none_ w gv x.g fv hf x.far ov ho x.outs iv hi x.ins cW gM x.so cX gI x.si) (DJ:Dd x) (TJ:0≤k) (F4:k<256):aM acD 7 #[.int .i64 n,av,.int .u8 k,.agg #[.int .i64 x.n,v,rv,wv,gv,fv,ov,iv,cW,cX]] w fun r w'=>r=.bool true∧Ext w w':=by
 refine aM.aZ ajh ?_
 rw[kE]
 have hN:=aH.nil w none_
 refine RW.aN ?_
 refine RL.aL (bJ (cs:=[.int .i64 (x.n),v,rv,wv,gv,fv,ov,iv,cW,cX]) rfl rfl hN ?_)
 clear hN
 intro g1 w1 (hN:aH w none_ w1 [_])
 refine RL.ag (v:=.bool false) ai (RL.bY (RL.ag (v:=.int .i64 (n)) U (RL.ag (v:=av) U ?_)))
 refine RL.aL (bu Tryz.func9 rfl rfl rfl rfl ((EK (n) _ l _ (ha.o.now hN)).mono ?_))
 rintro _ w2 ⟨q2,v2,rfl,Ay,cL,bl⟩
 obtain⟨ZX,ZY,XH,j7,LD⟩:=Ay
 replace hN:aH w none_ w2 [_,_]:=hN.fw cL bl
 clear cL bl
 refine RL.aL (bz (cs:=[.int .i64 (0),vN]) mZ rfl hN ?_)
 clear hN
 intro g3 w3 (hN:aH w none_ w3 [_,_,_])
 refine RL.aL (aS (vs:=[vJ q2,v2]) dw rfl rfl rfl (by intro u hu;simp only[ac6,ac0,or_false]at hu;rcases hu with rfl|rfl<;>first|rfl|exact(hN.sm 1 rfl).bT) hN 0 rfl rfl ?_)
 clear hN
 intro w4 (hN:aH w none_ w4 [_,_,_])
 refine RL.ak (RW.seq ?_)
 replace hN:=hN.ext (Ext.drew w4)
 refine RW.bA (fun u=>aH w none_ u [.aJ g3 [vJ q2,v2] 24,.cd bC 3 100 (v2) ((cJ (q2:Int) l)),.aJ g1 [.int .i64 (x.n),v,rv,wv,gv,fv,ov,iv,cW,cX] 34]) 14 [(0,0),(1,0),(2,0),(3,0),(4,0),(5,0),(6,0)] (by intro _ _ _ h;exact h) hN (RQ.an rfl (fun w hS=>(aE (cs:=[vJ q2,v2]) acJ dw (hS.aJ 0 rfl))) (RQ.an (v:=.int .u8 (k)) rfl (fun w hS=>U) (RQ.an rfl (fun w hS=>(en ady acy rfl (Bx (by omega) (by omega)))) (RQ.an rfl (fun w hS=>(ah acJ rfl bI)) (RQ.an rfl (fun w hS=>(aj acy (hS.aJ 0 rfl))) (RQ.an rfl (fun w hS=>(aD rfl rfl rfl (bg (by omega) (by omega)))) (RQ.an rfl (fun w hS=>(show Ev _ _ _ _ (.int .i64 (k.tmod ((q2:Int)+1)))from JG rfl rfl (by omega) rfl)) ?_)))))))
 refine RQ.two (i:=7) (j:=11) [(8,0),(9,0),(10,0),(11,1),(12,1),(13,0)] [(7,1),(8,0),(9,0),(10,0),(12,1),(13,0)] (by kernel_rfl) rfl rfl rfl rfl (by kernel_rfl) ?_ ?_
 refine(bu ajg rfl rfl rfl rfl ((tR q2 _ (cJ (q2:Int) l) ((k.tmod ((q2:Int)+1))) _ (hN.sm 1 rfl) j7 LD (by omega)).mono ?_))
 rintro _ w5 ⟨NA,Nk,gK,jc,Uf,Zp,Pq,Pu,NJ,NY,BM,BP,Of,mU,N7,jw,Oc,jy,HM,y1,HN,y3,rfl,cE,Wk,Pm⟩
 generalize aar:(k.tmod ((q2:Int)+1))=y6 at cE Pm
 replace hN:aH w none_ w5 [_,_,_,_,_,_,_,_,_,_,_,_,_,_,_,_]:=hN.fG cE
 clear cE
 have oc:=Pm.size (l:=(cJ (q2:Int) l)) (ways:=jc) (by omega) (by rw[Wk.zO];omega) (by have:=Wk.QB;omega) (by omega)
 have aab:=oc.ES (n:=(q2:Int))
 refine⟨(hN.sb [13,14,15]),?_⟩
 refine RQ.an (v:=.tuple #[.agg #[vJ q2,v2,NA,Nk,Pq,Pu,NJ,NY,BM,BP],.int .i64 (0)]) rfl (fun w hS=>U) ?_
 iterate 2 refine RQ.an rfl (fun w hS=>(bE)) ?_
 refine RQ.bW rfl (bz (cs:=[.int .i64 (0),vN,vN,vN,vN,vN,vN,vN,vN,vN]) fM rfl hN ?_)
 clear hN
 intro g6 w6 (hN:aH w none_ w6 [_,_,_,_,_,_,_,_,_,_,_,_,_,_,_,_,_])
 refine⟨(hN.sb [14,15,16]),?_⟩
 refine RQ.bW rfl (aS (vs:=[vJ q2,v2,NA,Nk,Pq,Pu,NJ,NY,BM,BP]) eR rfl rfl rfl (by intro u hu;simp only[ac6,ac0,or_false]at hu;rcases hu with rfl|rfl|rfl|rfl|rfl|rfl|rfl|rfl|rfl|rfl<;>first|rfl|exact(hN.sl 1 rfl).bT|exact(hN.sl 10 rfl).bT|exact(hN.sl 12 rfl).bT|exact(hN.sl 3 rfl).bT|exact(hN.sl 4 rfl).bT|exact(hN.sl 6 rfl).bT|exact(hN.sl 8 rfl).bT|exact(hN.sm 15 rfl).bT|exact(hN.sm 2 rfl).bT) hN 0 rfl rfl ?_)
 clear hN
 intro w7 (hN:aH w none_ w7 [_,_,_,_,_,_,_,_,_,_,_,_,_,_,_,_,_])
 refine⟨(hN.sb [14,15,16]),?_⟩
 refine RQ.an (v:=.int .i64 (0)) rfl (fun w hS=>ai) (RQ.bq (aA (RW.seq ?_)))
 have VM:=wV j7 (by omega) Wk Pm
 have VI:=qa (x:=⟨(q2:Int),(cJ (q2:Int) l),gK,jc,(b8 gK (cA (gK.length:Int) y6) gK.length),mU,jw,jy,y1,y3⟩) VM oc (by decide) (by decide) (by decide)
 have aau:=fZ (gT (q2:Int) (cJ (q2:Int) l) gK jc (b8 gK (cA (gK.length:Int) y6) gK.length) mU jw jy y1 y3)
 refine RW.region (RL.ag (aE (cs:=[vJ q2,v2,NA,Nk,Pq,Pu,NJ,NY,BM,BP]) acO eR (hN.aJ 0 rfl)) ?_)
 refine RL.aL (bo af6 rfl rfl rfl ((jr (q2:Int) (cJ (q2:Int) l) gK jc (b8 gK (cA (gK.length:Int) y6) gK.length) mU jw jy y1 y3 _ _ _ _ _ _ _ _ _ _ _ _ _ _ _ (hN.sm 15 rfl) (hN.sl 1 rfl) (hN.sm 2 rfl) ⟨(hN.sl 3 rfl).o,(hN.sl 4 rfl).o,(hN.fR 5 rfl),(hN.sl 6 rfl).o,(hN.lP 7 rfl),(hN.sl 8 rfl).o,(hN.lP 9 rfl),(hN.sl 10 rfl).o,(hN.fR 11 rfl),(hN.sl 12 rfl).o,(hN.fR 13 rfl)⟩ (acU oc.ar (by omega)) (acU oc.rk (by omega)) (acU oc.ws (by omega)) (acU oc.g (by omega)) ⟨acU oc.far.1 (by omega),fun r hr=>acU (oc.far.2 r hr) (by omega)⟩ ⟨acU oc.outs.1 (by omega),fun r hr=>acU (oc.outs.2 r hr) (by omega)⟩ ⟨acU oc.ins.1 (by omega),fun r hr=>acU (oc.ins.2 r hr) (by omega)⟩ ⟨acU oc.so.1 (by omega),fun r hr=>acU (oc.so.2 r hr) (by omega)⟩ ⟨acU oc.si.1 (by omega),fun r hr=>acU (oc.si.2 r hr) (by omega)⟩ (by omega)).mono ?_))
 rintro v8 w8 ⟨cL,bl⟩
 replace hN:aH w none_ w8 [_,_,_,_,_,_,_,_,_,_,_,_,_,_,_,_,_,_]:=hN.cl (l:=dC (gT (q2:Int) (cJ (q2:Int) l) gK jc (b8 gK (cA (gK.length:Int) y6) gK.length) mU jw jy y1 y3)) cL bl
 clear cL bl
 refine RL.ag (v:=v8) ai (RL.bY (RL.ag (v:=v8) U ?_))
 refine RL.aL (bo agI rfl rfl rfl ((gE _ (dC (gT (q2:Int) (cJ (q2:Int) l) gK jc (b8 gK (cA (gK.length:Int) y6) gK.length) mU jw jy y1 y3)) _ (hN.sl 0 rfl) (by omega) VI).mono ?_))
 rintro _ w9 ⟨v9,y5,yX,S6,Ta,QV,Q4,GC,GH,VA,U5,Vq,N6,Ob,rfl,cE⟩
 replace hN:aH w none_ w9 [_,_,_,_,_,_,_,_,_,_,_,_,_,_,_,_,_,_,_,_,_,_,_,_,_,_,_,_,_,_,_,_]:=hN.fG cE
 clear cE
 refine RL.ag (v:=.tuple #[.agg #[vJ q2,v9,y5,yX,S6,Ta,QV,Q4,GC,GH],.int .i64 (0)]) U ?_
 iterate 2 refine RL.ag (bE) ?_
 refine RL.aL (bz (cs:=[.int .i64 (0),vN,vN,vN,vN,vN,vN,vN,vN,vN]) fM rfl hN ?_)
 clear hN
 intro AS lR (hN:aH w none_ lR [_,_,_,_,_,_,_,_,_,_,_,_,_,_,_,_,_,_,_,_,_,_,_,_,_,_,_,_,_,_,_,_,_])
 refine RL.aL (aS (vs:=[vJ q2,v9,y5,yX,S6,Ta,QV,Q4,GC,GH]) eR rfl rfl rfl (by intro u hu;simp only[ac6,ac0,or_false]at hu;rcases hu with rfl|rfl|rfl|rfl|rfl|rfl|rfl|rfl|rfl|rfl<;>first|rfl|exact(hN.sl 11 rfl).bT|exact(hN.sl 13 rfl).bT|exact(hN.sl 2 rfl).bT|exact(hN.sl 4 rfl).bT|exact(hN.sl 5 rfl).bT|exact(hN.sl 7 rfl).bT|exact(hN.sl 9 rfl).bT|exact(hN.sm 1 rfl).bT|exact(hN.sm 3 rfl).bT) hN 0 rfl rfl ?_)
 clear hN
 intro kY (hN:aH w none_ kY [_,_,_,_,_,_,_,_,_,_,_,_,_,_,_,_,_,_,_,_,_,_,_,_,_,_,_,_,_,_,_,_,_])
 refine RL.ag (v:=.int .i64 (0)) ai (RL.ak ?_)
 iterate 2 refine RW.seq ?_
 replace hN:=hN.ext (Ext.drew kY)
 refine RW.bA (fun u=>aH w none_ u [.aJ AS [vJ q2,v9,y5,yX,S6,Ta,QV,Q4,GC,GH] 34,.cd bC 3 100 (v9) ((cJ (q2:Int) l)),.own vI 3 (y5) (gK),.cd aV 5 98 (yX) (jc),.own vI 3 (S6) ((b8 gK (cA (gK.length:Int) y6) gK.length)),.own vh 25 (Ta) (VA),.eD vI (VA) (mU),.own vh 118 (QV) (U5),.ed bG (U5) (jw),.own vh 118 (Q4) (Vq),.ed bG (Vq) (jy),.own vh 25 (GC) (N6),.eD vI (N6) (y1),.own vh 25 (GH) (Ob),.eD vI (Ob) (y3),.own vb 5 (v8) (dC (gT (q2:Int) (cJ (q2:Int) l) gK jc (b8 gK (cA (gK.length:Int) y6) gK.length) mU jw jy y1 y3)),.aJ g6 [vJ q2,v2,NA,Nk,Pq,Pu,NJ,NY,BM,BP] 34,.own vI 3 (NA) (gK),.cd aV 5 98 (Nk) (jc),.own vI 3 (Pq) ((b8 gK (cA (gK.length:Int) y6) gK.length)),.own vh 25 (Pu) (Of),.eD vI (Of) (mU),.own vh 118 (NJ) (N7),.ed bG (N7) (jw),.own vh 118 (NY) (Oc),.ed bG (Oc) (jy),.own vh 25 (BM) (HM),.eD vI (HM) (y1),.own vh 25 (BP) (HN),.eD vI (HN) (y3),.aJ g3 [vJ q2,v2] 24,.cd bC 3 100 (v2) ((cJ (q2:Int) l)),.aJ g1 [.int .i64 (x.n),v,rv,wv,gv,fv,ov,iv,cW,cX] 34]) 21 [(0,0),(1,0),(2,0),(3,0),(4,0),(5,1),(6,0),(7,0),(8,0),(9,0),(11,0),(10,1),(12,1),(13,0),(14,0),(15,0),(16,0),(17,1),(18,1),(19,0),(20,0)] (by intro _ _ _ h;exact h) hN ?_
 refine RQ.an (v:=.int .i64 (0)) rfl (fun w hS=>U) (RQ.an rfl (fun w hS=>(cG (bj) (fun h=>h rfl))) (RQ.an (v:=.bool false) rfl (fun w hS=>U) (RQ.aR rfl (fun w hS=>(aE (cs:=[vJ q2,v2,NA,Nk,Pq,Pu,NJ,NY,BM,BP]) acO eR (hS.aJ 16 rfl))) (RQ.aR rfl (fun w hS=>(aE (cs:=[vJ q2,v9,y5,yX,S6,Ta,QV,Q4,GC,GH]) acO eR (hS.aJ 0 rfl))) ?_))))
 refine RQ.dQ rfl (bu agJ rfl rfl rfl rfl ((jF _ ((q2:Int)) _ _ _ (cJ (q2:Int) l) gK jc (hN.sm 31 rfl) (hN.sl 17 rfl) (hN.sm 18 rfl) _ (b8 gK (cA (gK.length:Int) y6) gK.length) (hN.sl 19 rfl) _ Of mU (hN.sl 20 rfl) (hN.fR 21 rfl) _ N7 jw (hN.sl 22 rfl) (hN.lP 23 rfl) _ Oc jy (hN.sl 24 rfl) (hN.lP 25 rfl) _ HM y1 (hN.sl 26 rfl) (hN.fR 27 rfl) _ HN y3 (hN.sl 28 rfl) (hN.fR 29 rfl) ((q2:Int)) _ _ _ (cJ (q2:Int) l) gK jc (hN.sm 1 rfl) (hN.sl 2 rfl) (hN.sm 3 rfl) _ (b8 gK (cA (gK.length:Int) y6) gK.length) (hN.sl 4 rfl) _ VA mU (hN.sl 5 rfl) (hN.fR 6 rfl) _ U5 jw (hN.sl 7 rfl) (hN.lP 8 rfl) _ Vq jy (hN.sl 9 rfl) (hN.lP 10 rfl) _ N6 y1 (hN.sl 11 rfl) (hN.fR 12 rfl) _ Ob y3 (hN.sl 13 rfl) (hN.fR 14 rfl)).mono ?_))
 rintro _ kI ⟨rfl,bl⟩
 rw[decide_eq_true (show(((q2:Int):Int)=(q2:Int)∧((cJ (q2:Int) l):List I3)=(cJ (q2:Int) l))∧((gK:List Int)=gK∧(jc:List I5)=jc)∧((b8 gK (cA (gK.length:Int) y6) gK.length):List Int)=(b8 gK (cA (gK.length:Int) y6) gK.length)∧(mU:List (List Int))=mU∧(jw:List (List I2))=jw∧(jy:List (List I2))=jy∧(y1:List (List Int))=y1∧(y3:List (List Int))=y3 from⟨⟨rfl,rfl⟩,⟨rfl,rfl⟩,rfl,rfl,rfl,rfl,rfl,rfl⟩)]
 replace hN:=hN.ext bl
 clear bl
 refine⟨hN,?_⟩
 refine RQ.aR rfl (fun w hS=>(jY rfl)) (RQ.an (v:=.bool false) rfl (fun w hS=>(aB)) (RQ.an (v:=.bool false) rfl (fun w hS=>U) (RQ.aR (v:=v8) rfl (fun w hS=>U) (RQ.aR rfl (fun w hS=>(aE (cs:=[vJ q2,v2,NA,Nk,Pq,Pu,NJ,NY,BM,BP]) acO eR (hS.aJ 16 rfl))) ?_))))
 refine RQ.dQ rfl (bo aiX rfl rfl rfl ((wY _ (dC (gT (q2:Int) (cJ (q2:Int) l) gK jc (b8 gK (cA (gK.length:Int) y6) gK.length) mU jw jy y1 y3)) _ (hN.sl 15 rfl) (by omega) (show nq (dC (gT (q2:Int) (cJ (q2:Int) l) gK jc (b8 gK (cA (gK.length:Int) y6) gK.length) mU jw jy y1 y3))=_ from tF (x:=⟨(q2:Int),(cJ (q2:Int) l),gK,jc,(b8 gK (cA (gK.length:Int) y6) gK.length),mU,jw,jy,y1,y3⟩) (show fO (gT (q2:Int) (cJ (q2:Int) l) gK jc (b8 gK (cA (gK.length:Int) y6) gK.length) mU jw jy y1 y3)<4294967296 by omega) j7)).mono ?_))
 rintro _ lX ⟨rfl,bl⟩
 replace hN:=hN.ext bl
 clear bl
 refine⟨hN,?_⟩
 refine RQ.dQ rfl (bo aiZ rfl rfl rfl ((ot ((q2:Int)) (cJ (q2:Int) l) _ _ _ _ _ _ _ _ _ _ (hN.sm 31 rfl) j7).mono ?_))
 rintro _ oI ⟨rfl,bl⟩
 replace hN:=hN.ext bl
 clear bl
 refine⟨hN,?_⟩
 refine RQ.aR rfl (fun w hS=>(cG (bj) (fun h=>h rfl))) (RQ.an (v:=.bool false) rfl (fun w hS=>(aB)) (RQ.an (v:=.bool false) rfl (fun w hS=>U) (RQ.aR (v:=v8) rfl (fun w hS=>U) ?_)))
 have Ok:=km (gT (q2:Int) (cJ (q2:Int) l) gK jc (b8 gK (cA (gK.length:Int) y6) gK.length) mU jw jy y1 y3) (by omega)
 refine RQ.dQ rfl (bo af7 rfl rfl rfl ((jK _ (dC (gT (q2:Int) (cJ (q2:Int) l) gK jc (b8 gK (cA (gK.length:Int) y6) gK.length) mU jw jy y1 y3)) _ (hN.sl 15 rfl) (by(try simp only[acB,ac9,adj,acS,acK,acH,adb,acB,ada]);omega)).mono ?_))
 rintro kZ ph ⟨ZQ,cE⟩
 rw[Ok]at cE
 replace hN:aH w none_ ph [_,_,_,_,_,_,_,_,_,_,_,_,_,_,_,_,_,_,_,_,_,_,_,_,_,_,_,_,_,_,_,_,_,_,_]:=hN.fG cE
 clear cE
 refine⟨(hN.sb [2,3,4,5,6,7,8,9,10,11,12,13,14,15,16,17,18,19,20,21,22,23,24,25,26,27,28,29,30,31,32,33,34]),?_⟩
 have Wl:=(hN.fR 1 rfl).1
 have SZ:=(hN.sl 0 rfl).bw
 refine RQ.dQ rfl (ey.ev (aQ adL (hN.sl 0 rfl)) ⟨(hN.sb [2,3,4,5,6,7,8,9,10,11,12,13,14,15,16,17,18,19,20,21,22,23,24,25,26,27,28,29,30,31,32,33,34]),?_⟩)
 refine RQ.aR rfl (fun w hS=>(cG (bj) (fun h=>h (by rw[Wl];rfl)))) (RQ.an (v:=.bool false) rfl (fun w hS=>(aB)) (RQ.bq (aA (RW.cj (RW.skip (aA ?_))))))
 iterate 2 refine RW.seq ?_
 refine RW.region (RL.ag (aE (cs:=[.int .i64 (x.n),v,rv,wv,gv,fv,ov,iv,cW,cX]) acO eR (hN.aJ 34 rfl)) ?_)
 refine RL.aL (bo aiY rfl rfl rfl ((pK x _ _ _ _ _ _ _ _ _ _ _ _ _ _ _ (hv.o.now hN) (hr.o.now hN) (hw.o.now hN) (hT.ext hN.aX)).mono ?_))
 rintro _ u3 ⟨rfl,bl⟩
 replace hN:=hN.ext bl
 clear bl
 refine RL.ag (v:=.bool (decide (oF x))) U ?_
 by_cases pQ:oF x
 rw[decide_eq_true pQ]
 iterate 4 refine RL.bH ?_
 refine RL.ag (v:=.bool true) (al) (RL.ag (v:=.bool true) U ?_)
 iterate 3 refine RL.bH ?_
 refine RL.ag (v:=.bool true) (al) (RL.ak (RW.bD (RW.aN ?_)))
 refine RL.aL (ji ae8 rfl rfl ((fT _).mono ?_))
 rintro _ vd ⟨rfl,bl⟩
 replace hN:=hN.ext bl
 clear bl
 refine RL.ag (v:=.bool true) ai (RL.ak (RW.ret (aU (bc (RV.tmp rfl) ?_))))
 exact⟨rfl,hN.aX⟩
 rw[decide_eq_false pQ]
 refine RL.aw (ah acO rfl dw) (RL.aw (ah acJ rfl bI) (RL.aw (aj acy (hN.aJ 34 rfl)) (RL.aw (cq) (RL.ag (v:=.bool (decide (14<x.n))) (aB) (RL.ag (v:=.bool (decide (14<x.n))) U ?_)))))
 by_cases Ia:14<x.n
 rw[decide_eq_true Ia]
 iterate 3 refine RL.bH ?_
 refine RL.ag (v:=.bool true) (al) (RL.ak (RW.bD (RW.aN ?_)))
 refine RL.aL (ji ae8 rfl rfl ((fT _).mono ?_))
 rintro _ zo ⟨rfl,bl⟩
 replace hN:=hN.ext bl
 clear bl
 refine RL.ag (v:=.bool true) ai (RL.ak (RW.ret (aU (bc (RV.tmp rfl) ?_))))
 exact⟨rfl,hN.aX⟩
 rw[decide_eq_false Ia]
 refine RL.aw (aE (cs:=[.int .i64 (x.n),v,rv,wv,gv,fv,ov,iv,cW,cX]) acO eR (hN.aJ 34 rfl)) ?_
 refine RL.er (bo aiW rfl rfl rfl ((oB (x.n) _ _ _ x.ar x.rk x.ws _ (hv.o.now hN) (hr.o.now hN) (hw.o.now hN) _ x.g (hT.tg.now hN) _ hf x.far (hT.tf.now hN) (hT.Ec.fm hN) _ ho x.outs (hT.to.now hN) (hT.Bq.ext hN.aX) _ hi x.ins (hT.ti.now hN) (hT.tie.ext hN.aX) _ gM x.so (hT.Dm.now hN) (hT.qt.fm hN) _ gI x.si (hT.Dn.now hN) (hT.qu.fm hN) DJ.1 DJ.2).mono ?_))
 rintro _ Bp ⟨rfl,bl⟩
 replace hN:=hN.ext bl
 clear bl
 refine RL.aw (bj) (RL.ag (v:=.bool (decide (¬(nB x)=0))) (aB) (RL.ak ?_))
 refine RW.aG _ (fun Kb=>?_) (fun Kb=>?_)
 refine RW.aN ?_
 refine RL.aL (ji ae8 rfl rfl ((fT _).mono ?_))
 rintro _ BB ⟨rfl,bl⟩
 replace hN:=hN.ext bl
 clear bl
 refine RL.ag (v:=.bool true) ai (RL.ak (RW.ret (aU (bc (RV.tmp rfl) ?_))))
 exact⟨rfl,hN.aX⟩
 refine RW.skip (aA (RW.seq ?_))
 have rF:=acX.1 Kb
 unfold oF at pQ
 have hO:=Bd (A:=90) (R:=14) rF (by omega) (by omega) (by omega)
 have VH:=qa rF hO (by decide) (by decide) (by decide)
 have Oy:=hO.ES (n:=x.n)
 have hjx:=fZ (gT x.n x.ar x.rk x.ws x.g x.far x.outs x.ins x.so x.si)
 refine RW.region (RL.ag (aE (cs:=[.int .i64 (x.n),v,rv,wv,gv,fv,ov,iv,cW,cX]) acO eR (hN.aJ 34 rfl)) ?_)
 refine RL.aL (bo af6 rfl rfl rfl ((jr x.n x.ar x.rk x.ws x.g x.far x.outs x.ins x.so x.si _ _ _ _ _ _ _ _ _ _ _ _ _ _ _ (hv.o.now hN) (hr.o.now hN) (hw.o.now hN) ⟨(hT.tg.now hN).o,(hT.tf.now hN).o,(hT.Ec.fm hN),(hT.to.now hN).o,(hT.Bq.ext hN.aX),(hT.ti.now hN).o,(hT.tie.ext hN.aX),(hT.Dm.now hN).o,(hT.qt.fm hN),(hT.Dn.now hN).o,(hT.qu.fm hN)⟩ (acU hO.ar (by omega)) (acU hO.rk (by omega)) (acU hO.ws (by omega)) (acU hO.g (by omega)) ⟨acU hO.far.1 (by omega),fun r hr=>acU (hO.far.2 r hr) (by omega)⟩ ⟨acU hO.outs.1 (by omega),fun r hr=>acU (hO.outs.2 r hr) (by omega)⟩ ⟨acU hO.ins.1 (by omega),fun r hr=>acU (hO.ins.2 r hr) (by omega)⟩ ⟨acU hO.so.1 (by omega),fun r hr=>acU (hO.so.2 r hr) (by omega)⟩ ⟨acU hO.si.1 (by omega),fun r hr=>acU (hO.si.2 r hr) (by omega)⟩ (by omega)).mono ?_))
 rintro WR yY ⟨cL,bl⟩
 replace hN:aH w none_ yY [_,_,_,_,_,_,_,_,_,_,_,_,_,_,_,_,_,_,_,_,_,_,_,_,_,_,_,_,_,_,_,_,_,_,_,_]:=hN.cl (l:=dC (gT x.n x.ar x.rk x.ws x.g x.far x.outs x.ins x.so x.si)) cL bl
 clear cL bl
 refine RL.aL (bo agI rfl rfl rfl ((gE _ (dC (gT x.n x.ar x.rk x.ws x.g x.far x.outs x.ins x.so x.si)) _ (hN.sl 0 rfl) (by omega) VH).mono ?_))
 rintro _ zn ⟨Tw,NC,Nm,Pt,Pw,NL,N0,GF,GJ,VC,U7,Vu,Rn,Rp,rfl,cE⟩
 replace hN:aH w none_ zn [_,_,_,_,_,_,_,_,_,_,_,_,_,_,_,_,_,_,_,_,_,_,_,_,_,_,_,_,_,_,_,_,_,_,_,_,_,_,_,_,_,_,_,_,_,_,_,_,_,_]:=hN.fG cE
 clear cE
 refine RL.ag (v:=.tuple #[.agg #[.int .i64 (x.n),Tw,NC,Nm,Pt,Pw,NL,N0,GF,GJ],.int .i64 (0)]) U ?_
 iterate 2 refine RL.ag (bE) ?_
 refine RL.aL (bz (cs:=[.int .i64 (0),vN,vN,vN,vN,vN,vN,vN,vN,vN]) fM rfl hN ?_)
 clear hN
 intro Wq Dk (hN:aH w none_ Dk [_,_,_,_,_,_,_,_,_,_,_,_,_,_,_,_,_,_,_,_,_,_,_,_,_,_,_,_,_,_,_,_,_,_,_,_,_,_,_,_,_,_,_,_,_,_,_,_,_,_,_])
 refine RL.aL (aS (vs:=[.int .i64 (x.n),Tw,NC,Nm,Pt,Pw,NL,N0,GF,GJ]) eR rfl rfl rfl (by intro u hu;simp only[ac6,ac0,or_false]at hu;rcases hu with rfl|rfl|rfl|rfl|rfl|rfl|rfl|rfl|rfl|rfl<;>first|rfl|exact(hN.sl 11 rfl).bT|exact(hN.sl 13 rfl).bT|exact(hN.sl 2 rfl).bT|exact(hN.sl 4 rfl).bT|exact(hN.sl 5 rfl).bT|exact(hN.sl 7 rfl).bT|exact(hN.sl 9 rfl).bT|exact(hN.sm 1 rfl).bT|exact(hN.sm 3 rfl).bT) hN 0 rfl rfl ?_)
 clear hN
 intro L7 (hN:aH w none_ L7 [_,_,_,_,_,_,_,_,_,_,_,_,_,_,_,_,_,_,_,_,_,_,_,_,_,_,_,_,_,_,_,_,_,_,_,_,_,_,_,_,_,_,_,_,_,_,_,_,_,_,_])
 refine RL.ag (v:=.int .i64 (0)) ai (RL.bY (RL.ag (v:=.int .i64 (0)) U (RL.ag (dB (ca) rfl) (RL.ag (v:=.bool true) U (RL.aw (aE (cs:=[.int .i64 (x.n),Tw,NC,Nm,Pt,Pw,NL,N0,GF,GJ]) acO eR (hN.aJ 0 rfl)) (RL.aw (aE (cs:=[.int .i64 (x.n),v,rv,wv,gv,fv,ov,iv,cW,cX]) acO eR (hN.aJ 50 rfl)) ?_))))))
 refine RL.er (bu agJ rfl rfl rfl rfl ((jF _ (x.n) _ _ _ x.ar x.rk x.ws (hN.sm 1 rfl) (hN.sl 2 rfl) (hN.sm 3 rfl) _ x.g (hN.sl 4 rfl) _ VC x.far (hN.sl 5 rfl) (hN.fR 6 rfl) _ U7 x.outs (hN.sl 7 rfl) (hN.lP 8 rfl) _ Vu x.ins (hN.sl 9 rfl) (hN.lP 10 rfl) _ Rn x.so (hN.sl 11 rfl) (hN.fR 12 rfl) _ Rp x.si (hN.sl 13 rfl) (hN.fR 14 rfl) (x.n) _ _ _ x.ar x.rk x.ws (hv.o.now hN) (hr.o.now hN) (hw.o.now hN) _ x.g (hT.tg.now hN) _ hf x.far (hT.tf.now hN) (hT.Ec.fm hN) _ ho x.outs (hT.to.now hN) (hT.Bq.ext hN.aX) _ hi x.ins (hT.ti.now hN) (hT.tie.ext hN.aX) _ gM x.so (hT.Dm.now hN) (hT.qt.fm hN) _ gI x.si (hT.Dn.now hN) (hT.qu.fm hN)).mono ?_))
 rintro _ FO ⟨rfl,bl⟩
 rw[decide_eq_true (show((x.n:Int)=x.n∧(x.ar:List I3)=x.ar)∧((x.rk:List Int)=x.rk∧(x.ws:List I5)=x.ws)∧(x.g:List Int)=x.g∧(x.far:List (List Int))=x.far∧(x.outs:List (List I2))=x.outs∧(x.ins:List (List I2))=x.ins∧(x.so:List (List Int))=x.so∧(x.si:List (List Int))=x.si from⟨⟨rfl,rfl⟩,⟨rfl,rfl⟩,rfl,rfl,rfl,rfl,rfl,rfl⟩)]
 replace hN:=hN.ext bl
 clear bl
 refine RL.ag (v:=.bool true) (al) (RL.ag (v:=.bool true) U ?_)
 refine RL.er (ji ae8 rfl rfl ((fT _).mono ?_))
 rintro _ Gn ⟨rfl,bl⟩
 replace hN:=hN.ext bl
 clear bl
 refine RL.ag (v:=.bool true) (al) (RL.ag (v:=.bool true) ai (RL.ak (RW.ret (bc (RV.tmp rfl) ?_))))
 exact⟨rfl,hN.aX⟩
 refine(bz (cs:=[.int .i64 (0),vN,vN,vN,vN,vN,vN,vN,vN,vN]) fM rfl hN ?_)
 clear hN
 intro YN Eb (hN:aH w none_ Eb [_,_,_,_])
 refine⟨(hN.sb [1,2,3]),?_⟩
 refine RQ.bW rfl (bu ajg rfl rfl rfl rfl ((tR q2 _ (cJ (q2:Int) l) ((k.tmod ((q2:Int)+1))) _ (hN.sm 2 rfl) j7 LD (by omega)).mono ?_))
 rintro _ L6 ⟨BU,Bv,dE,fY,Uf,Zp,CY,CZ,B7,Cq,sY,sZ,HW,jA,HR,gB,HV,gC,CB,mO,CC,mP,rfl,cE,Po,Jr⟩
 generalize XY:(k.tmod ((q2:Int)+1))=mR at cE Jr
 replace hN:aH w none_ L6 [_,_,_,_,_,_,_,_,_,_,_,_,_,_,_,_,_]:=hN.fG cE
 clear cE
 have j1:=Jr.size (l:=(cJ (q2:Int) l)) (ways:=fY) (by omega) (by rw[Po.zO];omega) (by have:=Po.QB;omega) (by omega)
 have XT:=j1.ES (n:=(q2:Int))
 refine⟨(hN.sb [14,15,16]),?_⟩
 refine RQ.an (v:=.tuple #[.agg #[vJ q2,v2,BU,Bv,CY,CZ,B7,Cq,sY,sZ],.int .i64 (0)]) rfl (fun w hS=>U) ?_
 iterate 2 refine RQ.an rfl (fun w hS=>(bE)) ?_
 refine RQ.bW rfl (aS (vs:=[vJ q2,v2,BU,Bv,CY,CZ,B7,Cq,sY,sZ]) eR rfl rfl rfl (by intro u hu;simp only[ac6,ac0,or_false]at hu;rcases hu with rfl|rfl|rfl|rfl|rfl|rfl|rfl|rfl|rfl|rfl<;>first|rfl|exact(hN.sl 0 rfl).bT|exact(hN.sl 11 rfl).bT|exact(hN.sl 2 rfl).bT|exact(hN.sl 3 rfl).bT|exact(hN.sl 5 rfl).bT|exact(hN.sl 7 rfl).bT|exact(hN.sl 9 rfl).bT|exact(hN.sm 1 rfl).bT|exact(hN.sm 15 rfl).bT) hN 13 rfl rfl ?_)
 clear hN
 intro L5 (hN:aH w none_ L5 [_,_,_,_,_,_,_,_,_,_,_,_,_,_,_,_,_])
 refine⟨(hN.sb [14,15,16]),?_⟩
 refine RQ.an (v:=.int .i64 (0)) rfl (fun w hS=>ai) (RQ.bq (aA (RW.seq ?_)))
 have SK:=wV j7 (by omega) Po Jr
 have SJ:=qa (x:=⟨(q2:Int),(cJ (q2:Int) l),dE,fY,(b8 dE (cA (dE.length:Int) mR) dE.length),jA,gB,gC,mO,mP⟩) SK j1 (by decide) (by decide) (by decide)
 have X1:=fZ (gT (q2:Int) (cJ (q2:Int) l) dE fY (b8 dE (cA (dE.length:Int) mR) dE.length) jA gB gC mO mP)
 refine RW.region (RL.ag (aE (cs:=[vJ q2,v2,BU,Bv,CY,CZ,B7,Cq,sY,sZ]) acO eR (hN.aJ 13 rfl)) ?_)
 refine RL.aL (bo af6 rfl rfl rfl ((jr (q2:Int) (cJ (q2:Int) l) dE fY (b8 dE (cA (dE.length:Int) mR) dE.length) jA gB gC mO mP _ _ _ _ _ _ _ _ _ _ _ _ _ _ _ (hN.sm 15 rfl) (hN.sl 0 rfl) (hN.sm 1 rfl) ⟨(hN.sl 2 rfl).o,(hN.sl 3 rfl).o,(hN.fR 4 rfl),(hN.sl 5 rfl).o,(hN.lP 6 rfl),(hN.sl 7 rfl).o,(hN.lP 8 rfl),(hN.sl 9 rfl).o,(hN.fR 10 rfl),(hN.sl 11 rfl).o,(hN.fR 12 rfl)⟩ (acU j1.ar (by omega)) (acU j1.rk (by omega)) (acU j1.ws (by omega)) (acU j1.g (by omega)) ⟨acU j1.far.1 (by omega),fun r hr=>acU (j1.far.2 r hr) (by omega)⟩ ⟨acU j1.outs.1 (by omega),fun r hr=>acU (j1.outs.2 r hr) (by omega)⟩ ⟨acU j1.ins.1 (by omega),fun r hr=>acU (j1.ins.2 r hr) (by omega)⟩ ⟨acU j1.so.1 (by omega),fun r hr=>acU (j1.so.2 r hr) (by omega)⟩ ⟨acU j1.si.1 (by omega),fun r hr=>acU (j1.si.2 r hr) (by omega)⟩ (by omega)).mono ?_))
 rintro FR Kt ⟨cL,bl⟩
 replace hN:aH w none_ Kt [_,_,_,_,_,_,_,_,_,_,_,_,_,_,_,_,_,_]:=hN.cl (l:=dC (gT (q2:Int) (cJ (q2:Int) l) dE fY (b8 dE (cA (dE.length:Int) mR) dE.length) jA gB gC mO mP)) cL bl
 clear cL bl
 refine RL.ag (v:=FR) ai (RL.bY (RL.ag (v:=FR) U ?_))
 refine RL.aL (bo agI rfl rfl rfl ((gE _ (dC (gT (q2:Int) (cJ (q2:Int) l) dE fY (b8 dE (cA (dE.length:Int) mR) dE.length) jA gB gC mO mP)) _ (hN.sl 0 rfl) (by omega) SJ).mono ?_))
 rintro _ FN ⟨L9,GR,Gf,Ju,JB,G4,HA,zv,zy,OW,Ou,OP,HQ,HU,rfl,cE⟩
 replace hN:aH w none_ FN [_,_,_,_,_,_,_,_,_,_,_,_,_,_,_,_,_,_,_,_,_,_,_,_,_,_,_,_,_,_,_,_]:=hN.fG cE
 clear cE
 refine RL.ag (v:=.tuple #[.agg #[vJ q2,L9,GR,Gf,Ju,JB,G4,HA,zv,zy],.int .i64 (0)]) U ?_
 iterate 2 refine RL.ag (bE) ?_
 refine RL.aL (bz (cs:=[.int .i64 (0),vN,vN,vN,vN,vN,vN,vN,vN,vN]) fM rfl hN ?_)
 clear hN
 intro Kf Gm (hN:aH w none_ Gm [_,_,_,_,_,_,_,_,_,_,_,_,_,_,_,_,_,_,_,_,_,_,_,_,_,_,_,_,_,_,_,_,_])
 refine RL.aL (aS (vs:=[vJ q2,L9,GR,Gf,Ju,JB,G4,HA,zv,zy]) eR rfl rfl rfl (by intro u hu;simp only[ac6,ac0,or_false]at hu;rcases hu with rfl|rfl|rfl|rfl|rfl|rfl|rfl|rfl|rfl|rfl<;>first|rfl|exact(hN.sl 11 rfl).bT|exact(hN.sl 13 rfl).bT|exact(hN.sl 2 rfl).bT|exact(hN.sl 4 rfl).bT|exact(hN.sl 5 rfl).bT|exact(hN.sl 7 rfl).bT|exact(hN.sl 9 rfl).bT|exact(hN.sm 1 rfl).bT|exact(hN.sm 3 rfl).bT) hN 0 rfl rfl ?_)
 clear hN
 intro Ks (hN:aH w none_ Ks [_,_,_,_,_,_,_,_,_,_,_,_,_,_,_,_,_,_,_,_,_,_,_,_,_,_,_,_,_,_,_,_,_])
 refine RL.ag (v:=.int .i64 (0)) ai (RL.ak ?_)
 iterate 2 refine RW.seq ?_
 replace hN:=hN.ext (Ext.drew Ks)
 refine RW.bA (fun u=>aH w none_ u [.aJ Kf [vJ q2,L9,GR,Gf,Ju,JB,G4,HA,zv,zy] 34,.cd bC 3 100 (L9) ((cJ (q2:Int) l)),.own vI 3 (GR) (dE),.cd aV 5 98 (Gf) (fY),.own vI 3 (Ju) ((b8 dE (cA (dE.length:Int) mR) dE.length)),.own vh 25 (JB) (OW),.eD vI (OW) (jA),.own vh 118 (G4) (Ou),.ed bG (Ou) (gB),.own vh 118 (HA) (OP),.ed bG (OP) (gC),.own vh 25 (zv) (HQ),.eD vI (HQ) (mO),.own vh 25 (zy) (HU),.eD vI (HU) (mP),.own vb 5 (FR) (dC (gT (q2:Int) (cJ (q2:Int) l) dE fY (b8 dE (cA (dE.length:Int) mR) dE.length) jA gB gC mO mP)),.own vI 3 (BU) (dE),.cd aV 5 98 (Bv) (fY),.own vI 3 (CY) ((b8 dE (cA (dE.length:Int) mR) dE.length)),.own vh 25 (CZ) (HW),.eD vI (HW) (jA),.own vh 118 (B7) (HR),.ed bG (HR) (gB),.own vh 118 (Cq) (HV),.ed bG (HV) (gC),.own vh 25 (sY) (CB),.eD vI (CB) (mO),.own vh 25 (sZ) (CC),.eD vI (CC) (mP),.aJ YN [vJ q2,v2,BU,Bv,CY,CZ,B7,Cq,sY,sZ] 34,.aJ g3 [vJ q2,v2] 24,.cd bC 3 100 (v2) ((cJ (q2:Int) l)),.aJ g1 [.int .i64 (x.n),v,rv,wv,gv,fv,ov,iv,cW,cX] 34]) 21 [(0,0),(1,0),(2,0),(3,0),(4,0),(5,1),(6,0),(7,0),(8,0),(9,0),(11,0),(10,1),(12,1),(13,0),(14,0),(15,0),(16,0),(17,1),(18,1),(19,0),(20,0)] (by intro _ _ _ h;exact h) hN ?_
 refine RQ.an (v:=.int .i64 (0)) rfl (fun w hS=>U) (RQ.an rfl (fun w hS=>(cG (bj) (fun h=>h rfl))) (RQ.an (v:=.bool false) rfl (fun w hS=>U) (RQ.aR rfl (fun w hS=>(aE (cs:=[vJ q2,v2,BU,Bv,CY,CZ,B7,Cq,sY,sZ]) acO eR (hS.aJ 29 rfl))) (RQ.aR rfl (fun w hS=>(aE (cs:=[vJ q2,L9,GR,Gf,Ju,JB,G4,HA,zv,zy]) acO eR (hS.aJ 0 rfl))) ?_))))
 refine RQ.dQ rfl (bu agJ rfl rfl rfl rfl ((jF _ ((q2:Int)) _ _ _ (cJ (q2:Int) l) dE fY (hN.sm 31 rfl) (hN.sl 16 rfl) (hN.sm 17 rfl) _ (b8 dE (cA (dE.length:Int) mR) dE.length) (hN.sl 18 rfl) _ HW jA (hN.sl 19 rfl) (hN.fR 20 rfl) _ HR gB (hN.sl 21 rfl) (hN.lP 22 rfl) _ HV gC (hN.sl 23 rfl) (hN.lP 24 rfl) _ CB mO (hN.sl 25 rfl) (hN.fR 26 rfl) _ CC mP (hN.sl 27 rfl) (hN.fR 28 rfl) ((q2:Int)) _ _ _ (cJ (q2:Int) l) dE fY (hN.sm 1 rfl) (hN.sl 2 rfl) (hN.sm 3 rfl) _ (b8 dE (cA (dE.length:Int) mR) dE.length) (hN.sl 4 rfl) _ OW jA (hN.sl 5 rfl) (hN.fR 6 rfl) _ Ou gB (hN.sl 7 rfl) (hN.lP 8 rfl) _ OP gC (hN.sl 9 rfl) (hN.lP 10 rfl) _ HQ mO (hN.sl 11 rfl) (hN.fR 12 rfl) _ HU mP (hN.sl 13 rfl) (hN.fR 14 rfl)).mono ?_))
 rintro _ L4 ⟨rfl,bl⟩
 rw[decide_eq_true (show(((q2:Int):Int)=(q2:Int)∧((cJ (q2:Int) l):List I3)=(cJ (q2:Int) l))∧((dE:List Int)=dE∧(fY:List I5)=fY)∧((b8 dE (cA (dE.length:Int) mR) dE.length):List Int)=(b8 dE (cA (dE.length:Int) mR) dE.length)∧(jA:List (List Int))=jA∧(gB:List (List I2))=gB∧(gC:List (List I2))=gC∧(mO:List (List Int))=mO∧(mP:List (List Int))=mP from⟨⟨rfl,rfl⟩,⟨rfl,rfl⟩,rfl,rfl,rfl,rfl,rfl,rfl⟩)]
 replace hN:=hN.ext bl
 clear bl
 refine⟨hN,?_⟩
 refine RQ.aR rfl (fun w hS=>(jY rfl)) (RQ.an (v:=.bool false) rfl (fun w hS=>(aB)) (RQ.an (v:=.bool false) rfl (fun w hS=>U) (RQ.aR (v:=FR) rfl (fun w hS=>U) (RQ.aR rfl (fun w hS=>(aE (cs:=[vJ q2,v2,BU,Bv,CY,CZ,B7,Cq,sY,sZ]) acO eR (hS.aJ 29 rfl))) ?_))))
 refine RQ.dQ rfl (bo aiX rfl rfl rfl ((wY _ (dC (gT (q2:Int) (cJ (q2:Int) l) dE fY (b8 dE (cA (dE.length:Int) mR) dE.length) jA gB gC mO mP)) _ (hN.sl 15 rfl) (by omega) (show nq (dC (gT (q2:Int) (cJ (q2:Int) l) dE fY (b8 dE (cA (dE.length:Int) mR) dE.length) jA gB gC mO mP))=_ from tF (x:=⟨(q2:Int),(cJ (q2:Int) l),dE,fY,(b8 dE (cA (dE.length:Int) mR) dE.length),jA,gB,gC,mO,mP⟩) (show fO (gT (q2:Int) (cJ (q2:Int) l) dE fY (b8 dE (cA (dE.length:Int) mR) dE.length) jA gB gC mO mP)<4294967296 by omega) j7)).mono ?_))
 rintro _ P4 ⟨rfl,bl⟩
 replace hN:=hN.ext bl
 clear bl
 refine⟨hN,?_⟩
 refine RQ.dQ rfl (bo aiZ rfl rfl rfl ((ot ((q2:Int)) (cJ (q2:Int) l) _ _ _ _ _ _ _ _ _ _ (hN.sm 31 rfl) j7).mono ?_))
 rintro _ Ns ⟨rfl,bl⟩
 replace hN:=hN.ext bl
 clear bl
 refine⟨hN,?_⟩
 refine RQ.aR rfl (fun w hS=>(cG (bj) (fun h=>h rfl))) (RQ.an (v:=.bool false) rfl (fun w hS=>(aB)) (RQ.an (v:=.bool false) rfl (fun w hS=>U) (RQ.aR (v:=FR) rfl (fun w hS=>U) ?_)))
 have Ok:=km (gT (q2:Int) (cJ (q2:Int) l) dE fY (b8 dE (cA (dE.length:Int) mR) dE.length) jA gB gC mO mP) (by omega)
 refine RQ.dQ rfl (bo af7 rfl rfl rfl ((jK _ (dC (gT (q2:Int) (cJ (q2:Int) l) dE fY (b8 dE (cA (dE.length:Int) mR) dE.length) jA gB gC mO mP)) _ (hN.sl 15 rfl) (by(try simp only[acB,ac9,adj,acS,acK,acH,adb,acB,ada]);omega)).mono ?_))
 rintro Tv Kr ⟨ZP,cE⟩
 rw[Ok]at cE
 replace hN:aH w none_ Kr [_,_,_,_,_,_,_,_,_,_,_,_,_,_,_,_,_,_,_,_,_,_,_,_,_,_,_,_,_,_,_,_,_,_,_]:=hN.fG cE
 clear cE
 refine⟨(hN.sb [2,3,4,5,6,7,8,9,10,11,12,13,14,15,16,17,18,19,20,21,22,23,24,25,26,27,28,29,30,31,32,33,34]),?_⟩
 have Wl:=(hN.fR 1 rfl).1
 have Yp:=(hN.sl 0 rfl).bw
 refine RQ.dQ rfl (ey.ev (aQ adL (hN.sl 0 rfl)) ⟨(hN.sb [2,3,4,5,6,7,8,9,10,11,12,13,14,15,16,17,18,19,20,21,22,23,24,25,26,27,28,29,30,31,32,33,34]),?_⟩)
 refine RQ.aR rfl (fun w hS=>(cG (bj) (fun h=>h (by rw[Wl];rfl)))) (RQ.an (v:=.bool false) rfl (fun w hS=>(aB)) (RQ.bq (aA (RW.cj (RW.skip (aA ?_))))))
 iterate 2 refine RW.seq ?_
 refine RW.region (RL.ag (aE (cs:=[.int .i64 (x.n),v,rv,wv,gv,fv,ov,iv,cW,cX]) acO eR (hN.aJ 34 rfl)) ?_)
 refine RL.aL (bo aiY rfl rfl rfl ((pK x _ _ _ _ _ _ _ _ _ _ _ _ _ _ _ (hv.o.now hN) (hr.o.now hN) (hw.o.now hN) (hT.ext hN.aX)).mono ?_))
 rintro _ Tu ⟨rfl,bl⟩
 replace hN:=hN.ext bl
 clear bl
 refine RL.ag (v:=.bool (decide (oF x))) U ?_
 by_cases pQ:oF x
 rw[decide_eq_true pQ]
 iterate 4 refine RL.bH ?_
 refine RL.ag (v:=.bool true) (al) (RL.ag (v:=.bool true) U ?_)
 iterate 3 refine RL.bH ?_
 refine RL.ag (v:=.bool true) (al) (RL.ak (RW.bD (RW.aN ?_)))
 refine RL.aL (ji ae8 rfl rfl ((fT _).mono ?_))
 rintro _ P2 ⟨rfl,bl⟩
 replace hN:=hN.ext bl
 clear bl
 refine RL.ag (v:=.bool true) ai (RL.ak (RW.ret (aU (bc (RV.tmp rfl) ?_))))
 exact⟨rfl,hN.aX⟩
 rw[decide_eq_false pQ]
 refine RL.aw (ah acO rfl dw) (RL.aw (ah acJ rfl bI) (RL.aw (aj acy (hN.aJ 34 rfl)) (RL.aw (cq) (RL.ag (v:=.bool (decide (14<x.n))) (aB) (RL.ag (v:=.bool (decide (14<x.n))) U ?_)))))
 by_cases Ia:14<x.n
 rw[decide_eq_true Ia]
 iterate 3 refine RL.bH ?_
 refine RL.ag (v:=.bool true) (al) (RL.ak (RW.bD (RW.aN ?_)))
 refine RL.aL (ji ae8 rfl rfl ((fT _).mono ?_))
 rintro _ P1 ⟨rfl,bl⟩
 replace hN:=hN.ext bl
 clear bl
 refine RL.ag (v:=.bool true) ai (RL.ak (RW.ret (aU (bc (RV.tmp rfl) ?_))))
 exact⟨rfl,hN.aX⟩
 rw[decide_eq_false Ia]
 refine RL.aw (aE (cs:=[.int .i64 (x.n),v,rv,wv,gv,fv,ov,iv,cW,cX]) acO eR (hN.aJ 34 rfl)) ?_
 refine RL.er (bo aiW rfl rfl rfl ((oB (x.n) _ _ _ x.ar x.rk x.ws _ (hv.o.now hN) (hr.o.now hN) (hw.o.now hN) _ x.g (hT.tg.now hN) _ hf x.far (hT.tf.now hN) (hT.Ec.fm hN) _ ho x.outs (hT.to.now hN) (hT.Bq.ext hN.aX) _ hi x.ins (hT.ti.now hN) (hT.tie.ext hN.aX) _ gM x.so (hT.Dm.now hN) (hT.qt.fm hN) _ gI x.si (hT.Dn.now hN) (hT.qu.fm hN) DJ.1 DJ.2).mono ?_))
 rintro _ P0 ⟨rfl,bl⟩
 replace hN:=hN.ext bl
 clear bl
 refine RL.aw (bj) (RL.ag (v:=.bool (decide (¬(nB x)=0))) (aB) (RL.ak ?_))
 refine RW.aG _ (fun Kb=>?_) (fun Kb=>?_)
 refine RW.aN ?_
 refine RL.aL (ji ae8 rfl rfl ((fT _).mono ?_))
 rintro _ PZ ⟨rfl,bl⟩
 replace hN:=hN.ext bl
 clear bl
 refine RL.ag (v:=.bool true) ai (RL.ak (RW.ret (aU (bc (RV.tmp rfl) ?_))))
 exact⟨rfl,hN.aX⟩
 refine RW.skip (aA (RW.seq ?_))
 have rF:=acX.1 Kb
 unfold oF at pQ
 have hO:=Bd (A:=90) (R:=14) rF (by omega) (by omega) (by omega)
 have VH:=qa rF hO (by decide) (by decide) (by decide)
 have Oy:=hO.ES (n:=x.n)
 have hjx:=fZ (gT x.n x.ar x.rk x.ws x.g x.far x.outs x.ins x.so x.si)
 refine RW.region (RL.ag (aE (cs:=[.int .i64 (x.n),v,rv,wv,gv,fv,ov,iv,cW,cX]) acO eR (hN.aJ 34 rfl)) ?_)
 refine RL.aL (bo af6 rfl rfl rfl ((jr x.n x.ar x.rk x.ws x.g x.far x.outs x.ins x.so x.si _ _ _ _ _ _ _ _ _ _ _ _ _ _ _ (hv.o.now hN) (hr.o.now hN) (hw.o.now hN) ⟨(hT.tg.now hN).o,(hT.tf.now hN).o,(hT.Ec.fm hN),(hT.to.now hN).o,(hT.Bq.ext hN.aX),(hT.ti.now hN).o,(hT.tie.ext hN.aX),(hT.Dm.now hN).o,(hT.qt.fm hN),(hT.Dn.now hN).o,(hT.qu.fm hN)⟩ (acU hO.ar (by omega)) (acU hO.rk (by omega)) (acU hO.ws (by omega)) (acU hO.g (by omega)) ⟨acU hO.far.1 (by omega),fun r hr=>acU (hO.far.2 r hr) (by omega)⟩ ⟨acU hO.outs.1 (by omega),fun r hr=>acU (hO.outs.2 r hr) (by omega)⟩ ⟨acU hO.ins.1 (by omega),fun r hr=>acU (hO.ins.2 r hr) (by omega)⟩ ⟨acU hO.so.1 (by omega),fun r hr=>acU (hO.so.2 r hr) (by omega)⟩ ⟨acU hO.si.1 (by omega),fun r hr=>acU (hO.si.2 r hr) (by omega)⟩ (by omega)).mono ?_))
 rintro v45 T3 ⟨cL,bl⟩
 replace hN:aH w none_ T3 [_,_,_,_,_,_,_,_,_,_,_,_,_,_,_,_,_,_,_,_,_,_,_,_,_,_,_,_,_,_,_,_,_,_,_,_]:=hN.cl (l:=dC (gT x.n x.ar x.rk x.ws x.g x.far x.outs x.ins x.so x.si)) cL bl
 clear cL bl
 refine RL.aL (bo agI rfl rfl rfl ((gE _ (dC (gT x.n x.ar x.rk x.ws x.g x.far x.outs x.ins x.so x.si)) _ (hN.sl 0 rfl) (by omega) VH).mono ?_))
 rintro _ Tt ⟨QD,NB,Nl,Ps,Pv,NK,NZ,GD,GI,VB,U6,Vt,Rm,Ro,rfl,cE⟩
 replace hN:aH w none_ Tt [_,_,_,_,_,_,_,_,_,_,_,_,_,_,_,_,_,_,_,_,_,_,_,_,_,_,_,_,_,_,_,_,_,_,_,_,_,_,_,_,_,_,_,_,_,_,_,_,_,_]:=hN.fG cE
 clear cE
 refine RL.ag (v:=.tuple #[.agg #[.int .i64 (x.n),QD,NB,Nl,Ps,Pv,NK,NZ,GD,GI],.int .i64 (0)]) U ?_
 iterate 2 refine RL.ag (bE) ?_
 refine RL.aL (bz (cs:=[.int .i64 (0),vN,vN,vN,vN,vN,vN,vN,vN,vN]) fM rfl hN ?_)
 clear hN
 intro Wp Nr (hN:aH w none_ Nr [_,_,_,_,_,_,_,_,_,_,_,_,_,_,_,_,_,_,_,_,_,_,_,_,_,_,_,_,_,_,_,_,_,_,_,_,_,_,_,_,_,_,_,_,_,_,_,_,_,_,_])
 refine RL.aL (aS (vs:=[.int .i64 (x.n),QD,NB,Nl,Ps,Pv,NK,NZ,GD,GI]) eR rfl rfl rfl (by intro u hu;simp only[ac6,ac0,or_false]at hu;rcases hu with rfl|rfl|rfl|rfl|rfl|rfl|rfl|rfl|rfl|rfl<;>first|rfl|exact(hN.sl 11 rfl).bT|exact(hN.sl 13 rfl).bT|exact(hN.sl 2 rfl).bT|exact(hN.sl 4 rfl).bT|exact(hN.sl 5 rfl).bT|exact(hN.sl 7 rfl).bT|exact(hN.sl 9 rfl).bT|exact(hN.sm 1 rfl).bT|exact(hN.sm 3 rfl).bT) hN 0 rfl rfl ?_)
 clear hN
 intro PY (hN:aH w none_ PY [_,_,_,_,_,_,_,_,_,_,_,_,_,_,_,_,_,_,_,_,_,_,_,_,_,_,_,_,_,_,_,_,_,_,_,_,_,_,_,_,_,_,_,_,_,_,_,_,_,_,_])
 refine RL.ag (v:=.int .i64 (0)) ai (RL.bY (RL.ag (v:=.int .i64 (0)) U (RL.ag (dB (ca) rfl) (RL.ag (v:=.bool true) U (RL.aw (aE (cs:=[.int .i64 (x.n),QD,NB,Nl,Ps,Pv,NK,NZ,GD,GI]) acO eR (hN.aJ 0 rfl)) (RL.aw (aE (cs:=[.int .i64 (x.n),v,rv,wv,gv,fv,ov,iv,cW,cX]) acO eR (hN.aJ 50 rfl)) ?_))))))
 refine RL.er (bu agJ rfl rfl rfl rfl ((jF _ (x.n) _ _ _ x.ar x.rk x.ws (hN.sm 1 rfl) (hN.sl 2 rfl) (hN.sm 3 rfl) _ x.g (hN.sl 4 rfl) _ VB x.far (hN.sl 5 rfl) (hN.fR 6 rfl) _ U6 x.outs (hN.sl 7 rfl) (hN.lP 8 rfl) _ Vt x.ins (hN.sl 9 rfl) (hN.lP 10 rfl) _ Rm x.so (hN.sl 11 rfl) (hN.fR 12 rfl) _ Ro x.si (hN.sl 13 rfl) (hN.fR 14 rfl) (x.n) _ _ _ x.ar x.rk x.ws (hv.o.now hN) (hr.o.now hN) (hw.o.now hN) _ x.g (hT.tg.now hN) _ hf x.far (hT.tf.now hN) (hT.Ec.fm hN) _ ho x.outs (hT.to.now hN) (hT.Bq.ext hN.aX) _ hi x.ins (hT.ti.now hN) (hT.tie.ext hN.aX) _ gM x.so (hT.Dm.now hN) (hT.qt.fm hN) _ gI x.si (hT.Dn.now hN) (hT.qu.fm hN)).mono ?_))
 rintro _ Ts ⟨rfl,bl⟩
 rw[decide_eq_true (show((x.n:Int)=x.n∧(x.ar:List I3)=x.ar)∧((x.rk:List Int)=x.rk∧(x.ws:List I5)=x.ws)∧(x.g:List Int)=x.g∧(x.far:List (List Int))=x.far∧(x.outs:List (List I2))=x.outs∧(x.ins:List (List I2))=x.ins∧(x.so:List (List Int))=x.so∧(x.si:List (List Int))=x.si from⟨⟨rfl,rfl⟩,⟨rfl,rfl⟩,rfl,rfl,rfl,rfl,rfl,rfl⟩)]
 replace hN:=hN.ext bl
 clear bl
 refine RL.ag (v:=.bool true) (al) (RL.ag (v:=.bool true) U ?_)
 refine RL.er (ji ae8 rfl rfl ((fT _).mono ?_))
 rintro _ QC ⟨rfl,bl⟩
 replace hN:=hN.ext bl
 clear bl
 refine RL.ag (v:=.bool true) (al) (RL.ag (v:=.bool true) ai (RL.ak (RW.ret (bc (RV.tmp rfl) ?_))))
 exact⟨rfl,hN.aX⟩
end Go.Proofs.YtngkdkbpgoddlaaGreat
namespace Go.Proofs.YtngkdkbpgoddlaaGreat.imageBack
open Go.ChangeShapes Go.WideShapes Go.ChangeAt Go.RowKit Go.Rl
open Go.ChangeMaps (open_string shut_string)
open Go.Gr
theorem own:ownKnob acD.godebug=none:=by kernel_rfl
theorem laidOut:laidOutB acD=true:=by kernel_rfl
theorem lifted (os:Os) (started:os.Started) (H:Type) (enc:TypeId×Value→H):
    ReturnsInHanded {} aiC os 7 .any (afT.pre6 enc acD ahQ aiL.domain false) (afT.post enc acD ahQ false true false false):=by
  refine returnsInHanded_of_change_sized (C := aiC) own started (by kernel_rfl) ajh
    (ChangeSpec.witness6 (enc:=enc) (C:=aiC) false ⟨#[],#[.int .i64 0,vN,.int .u8 0,.agg #[.int .i64 (0),vN,vN,vN,vN,vN,vN,vN,vN,vN]],[]⟩ 8 (by kernel_rfl) (by kernel_rfl) (by kernel_rfl) (by kernel_rfl)) ?_
  intro W base args ds gs before Mo hW od Ri _
  have eI:(adS acD (ahQ.params.toList++afT.plain.varTypes acD) (ds++gs)).all (·≤reachBytes)=true:=Ri
  have HL:∀(j:Nat) t v,ahQ.params[j]?=some t→args[j]?=some v→aij acD W .any base t v:=Mo
  have hW':=hW
  obtain⟨p,q,TS,hV,rfl,hfz,ox⟩:=hW
  have hA:DataW.TrodAll enc acD W 0 (fun _=>true) true ahQ.params.toList args.toList ds p:=TS
  rw[Tryz.params7]at hA HL eI
  obtain⟨v0,vs0,d0,ds0,p0,q0,xf,rfl,rfl,h0,r0⟩:=trodAll_cons hA
  obtain⟨v1,vs1,d1,ds1,p1,q1,rfl,rfl,rfl,h1,r1⟩:=trodAll_cons r0
  obtain⟨v2,vs2,d2,ds2,p2,q2,rfl,rfl,rfl,h2,r2⟩:=trodAll_cons r1
  obtain⟨v3,vs3,d3,ds3,p3,q3,rfl,rfl,rfl,h3,r3⟩:=trodAll_cons r2
  obtain⟨rfl,rfl,rfl⟩:=trodAll_nil r3
  obtain rfl:args=#[v0,v1,v2,v3]:=by cases args;simp_all
  obtain⟨rfl,rfl⟩:=trodVars_none hV
  have k0:=h0
  have Zo:∀x∈p0,x.block<W.heap.size:=by obtain⟨m,hm⟩:=k0;exact agT m _ _ _ hm
  obtain⟨a0,rfl,rfl,rfl,w0⟩:=open_int acy (HL 0 3 v0 rfl rfl) h0
  have w0:=wf_i64 w0
  have k1:=h1
  have Zn:∀x∈p1,x.block<W.heap.size:=by obtain⟨m,hm⟩:=k1;exact agT m _ _ _ hm
  obtain⟨l1,s1,b1⟩:=JX eI (j:=1) rfl rfl acP (by kernel_rfl) (by kernel_rfl) (HL 1 22 v1 rfl rfl) h1
  have k2:=h2
  have Zm:∀x∈p2,x.block<W.heap.size:=by obtain⟨m,hm⟩:=k2;exact agT m _ _ _ hm
  obtain⟨a2,rfl,rfl,rfl,w2⟩:=open_int ady (HL 2 5 v2 rfl rfl) h2
  have w2:=wf_u8 w2
  have k3:=h3
  have Zl:∀x∈p3,x.block<W.heap.size:=by obtain⟨m,hm⟩:=k3;exact agT m _ _ _ hm
  obtain⟨YU,ci3,rfl,Zx,if3,Zy⟩:=Lg eI (j:=3) rfl rfl acO (by kernel_rfl) (by kernel_rfl) (HL 3 34 v3 rfl rfl) h3
  obtain⟨_,_,_,_,_,_,_,_,_,_,_,_,_,_,rfl,ZC,ZB,ZA,Zz⟩:=Zx
  clear TS Mo Ri eI
  refine ahR (rY a0 _ _ a2 YU _ _ _ _ _ _ _ _ _ _ _ _ _ _ W s1 ZC ZB ZA Zz Zy w2.1 w2.2) fun e W' hx=>?_
  obtain⟨r,rfl,rfl,iW⟩:=hx
  have Td:=iW.below
  exact⟨_,rfl,_,_,_,[],_,[],hW',trodAll_mk1 (shut_bool aeJ _),(trodAll_cons_mk (Below.trod laidOut (by kernel_rfl) (of_decide_eq_true (by kernel_rfl)) k0 Td Zo) (trodAll_cons_mk (Below.trod laidOut (by kernel_rfl) (of_decide_eq_true (by kernel_rfl)) k1 Td Zn) (trodAll_cons_mk (Below.trod laidOut (by kernel_rfl) (of_decide_eq_true (by kernel_rfl)) k2 Td Zm) (trodAll_cons_mk (Below.trod laidOut (by kernel_rfl) (of_decide_eq_true (by kernel_rfl)) k3 Td Zl) trodAll_mk0)))),rfl,Td.frame _,fun h=>by cases h⟩
theorem over:aiL.holds Tryz.pinned (OpenSpec.ofChange afT):=
  OpenClaim.holds_of_wide 7 ahQ rfl rfl rfl rfl rfl rfl rfl ⟨rfl, rfl, rfl, rfl, rfl⟩ rfl rfl rfl rfl rfl (by kernel_rfl) ajh (by kernel_rfl)
    (of_decide_eq_true (by kernel_rfl)) (by unfold Func.isWrapper;first|(rw[if_pos (by decide+kernel)];kernel_rfl)|(rw[if_neg (by decide+kernel)];exact⟨rfl,rfl⟩))
    (fun os started H enc _=>lifted os started H enc)
end Go.Proofs.YtngkdkbpgoddlaaGreat.imageBack
namespace Go.Proofs.YtngkdkbpgoddlaaGreat
theorem imageBack_holds:Rows.ImageBackSaid:=imageBack.over
end Go.Proofs.YtngkdkbpgoddlaaGreat
