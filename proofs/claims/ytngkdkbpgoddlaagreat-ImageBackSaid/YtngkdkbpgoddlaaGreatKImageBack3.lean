/- The law ImageBack: texts that its row leans on (3). -/
import Derived.Test.YtngkdkbpgoddlaaGreatKImageBack2
set_option linter.unusedVariables false
set_option linter.unusedSimpArgs false
set_option linter.unusedSectionVars false
set_option maxHeartbeats 4000000
set_option maxRecDepth 100000
open Array renaming getElem?_eq_some_iff → adr
open BitVec renaming ofNat → afd
open Decidable renaming not_not → acX
open Go.Proofs.Tryz renaming underlying3 → acy, underlying25 → acz, prog → acD, underlying98 → acG, underlying24 → acJ, underlying26 → acL, underlying96 → acN, underlying22 → acP, underlying100 → acT, underlying38 → acW, underlying135 → acY, underlying118 → ac1, underlying207 → ado, underlying111 → adt, underlying5 → ady, underlying57 → adK, underlying45 → adL, underlying209 → adM, underlying206 → adR, underlying142 → ad2, underlying211 → ad6, underlying75 → aec, underlying246 → aeh, underlying9 → aeq, underlying4 → aeJ, underlying144 → aeL, func70 → aeP, underlying47 → aeS, func145 → aff, func146 → afg, func149 → afh, func40 → afp, func156 → afQ, underlying257 → afR, func66 → af4, func76 → af5, func131 → ags, func153 → agt, func36 → agF, func57 → agG, func84 → agH, underlying123 → agN, func152 → aha, func105 → ahb, func128 → ahc, func65 → ahy, func24 → ahz, func67 → ahA, func45 → ahB, func18 → ahC, func71 → ahD, func68 → ahE, func29 → ahF, func129 → aik, func58 → aiP, func37 → aiQ, func92 → aiR, func91 → aiS, func28 → aiT, func130 → ajG, func207 → ajH, func182 → ajI, func148 → ajJ, func192 → ajK, func147 → ajL, func190 → ajM, func191 → ajN, func209 → ajO, func151 → ajP, func150 → ajQ, func195 → ajR, func194 → ajS, func157 → ajT, func210 → ajU, func193 → ajV, func155 → ajW
open Go.Value renaming bool → acV, int → ac4
open Go.World renaming cell?_of_block → aeQ
open Int renaming toNat_natCast → aek, emod_nonneg → agn
open List renaming length_append → acB, mem_of_getElem? → acC, getElem?_eq_some_iff → acF, length_singleton → acH, length_cons → acK, getElem?_eq_getElem → acM, length_nil → acS, not_mem_nil → ac0, take_of_length_le → ac2, replicate → ac3, mem_cons → ac6, length_take → ac9, length_map → ada, length_replicate → adb, length_drop → adj, take_length → adm, getElem?_set → adp, append_nil → adw, append_assoc → adB, range → adC, length_set → adO, map_append → ad7, take_succ_eq_append_getElem → ad8, nil_append → aeG, drop_eq_getElem_cons → aeM, take_add_one → ae1, take_zero → ae9, drop_drop → aft, size_toArray → agW
open Nat renaming le_of_ble_eq_true → acA, le_trans → acU, le_refl → ac8, lt_or_ge → adi, lt_of_le_of_lt → adD, zero_le → adW, lt_of_lt_of_le → aef, lt_succ_iff_lt_or_eq → afe, min_eq_left → ahp, mul_one → ahu
open Option.some renaming inj → ac7
open Prod renaming snd → ad4
open UInt8 renaming ofNat → aeV
namespace Go.Proofs.YtngkdkbpgoddlaaGreat
open Go.RowKit Go.Rl
open Go.Gr
theorem oN (x n:Int) (w:World) (hn:0<n) (hn2:n≤2147483649):aM acD 65 #[.int .i64 (x),.int .i64 (n)] w fun r w'=>r=.int .i64 (x%n)∧w=w':=by
 refine aM.aZ ahy ?_
 rw[cS]
 have hN:=aH.nil w none_
 refine RW.aN (RL.ag (v:=.int .i64 (0)) ai (RL.bY (RL.ag (v:=.int .i64 (x)) U (RL.ag (v:=.int .i64 (n)) U (RL.ag (JG rfl rfl (by omega) rfl) ?_)))))
 refine RL.ag (v:=.int .i64 (x.tmod n)) ai (RL.ak ?_)
 iterate 2 refine RW.seq ?_
 refine RW.region (RL.ag (v:=.int .i64 (x.tmod n)) U (RL.ag (aK) (RL.ak ?_)))
 refine RW.aG _ (fun CG=>?_) (fun CG=>?_)
 refine RW.seq ?_
 have hb_: -n≤x.tmod n:=by have h1:=tmod_neg hn CG;have h2:=agn x (b:=n) (by omega);rw[←h1]at h2;omega
 refine RW.region (RL.ag (v:=.int .i64 (x.tmod n)) U (RL.ag (v:=.int .i64 (n)) U (RL.ag (aD rfl rfl rfl (bg (by omega) (by omega))) (RL.ag (v:=.int .i64 (x.tmod n+n)) ai (RL.ak (RW.ret (aU (bc (RV.tmp rfl) ?_))))))))
 exact⟨congrArg (ac4 .i64) (tmod_neg hn CG),rfl⟩
 refine RW.skip (aA (RW.aN (RL.ag (v:=.int .i64 (x.tmod n)) U (RL.ag (v:=.int .i64 (x.tmod n)) ai (RL.ak (RW.ret (bc (RV.tmp rfl) ?_)))))))
 exact⟨congrArg (ac4 .i64) (Ky hn CG),rfl⟩
theorem Hf (n:Int) (v:Value) (l:List I3) (w:World) (hv:Sm bC w v l):aM acD 27 #[.int .i64 n,v] w fun r w'=>∃v',r=.agg #[.int .i64 (jj n),v']∧fK bC 3 100 w' w.heap.size v' (cJ (jj n) l)∧Ext w w':=by
 refine aM.aZ Tryz.func27 ?_
 rw[cS]
 have hN:=aH.nil w none_
 have Z8:=sF n
 refine RW.aN ?_
 refine RL.aL (bz (cs:=[.int .i64 (0),vN]) mZ rfl hN ?_)
 clear hN
 intro g1 w1 (hN:aH w none_ w1 [_])
 refine RL.bY (RL.ag (v:=.int .i64 (n)) U (RL.ag (yD rfl rfl) (RL.ag (show Ev _ _ _ _ (.int .i64 (jj n))from uS rfl rfl) (RL.ag (v:=.int .i64 (jj n)) ai (RL.ak ?_)))))
 refine RW.aN (RL.ag (v:=.int .i64 (jj n)) U (RL.ag (bR (cs:=[.int .i64 (jj n),vN]) acJ mZ (places:=#[(0,1),(1,1)]) (by intro w;kernel_rfl) (pl:=[(0,.tmp 11)]) rfl (ps:=[(0,.int .i64 (jj n))]) rfl (zc:=[.int .i64 (0),vN]) rfl (aP (vs:=[.int .i64 (jj n)]) rfl rfl (acA rfl) rfl)) ?_))
 refine RL.aL (bz (cs:=[.int .i64 (0),vN]) mZ rfl hN ?_)
 clear hN
 intro g2 w2 (hN:aH w none_ w2 [_,_])
 refine RL.aL (aS (vs:=[.int .i64 (jj n),vN]) dw rfl rfl rfl (bh (bh cZ)) hN 0 rfl rfl ?_)
 clear hN
 intro w3 (hN:aH w none_ w3 [_,_])
 refine RL.ak ?_
 iterate 2 refine RW.seq ?_
 replace hN:=hN.ew bC 3 100
 replace hN:aH w none_ w3 [.cd bC 3 100 (vN) ([]),.aJ g2 [.int .i64 (jj n),vN] 24,.aJ g1 [.int .i64 (0),vN] 24]:=hN
 refine RW.region (RL.ag (v:=.int .i64 (0)) ai (RL.ak (RW.block ?_)))
 refine RW.loop (fun k R0 cv=>∃va:Value,∃acc:List I3,∃i:Nat,R0 0=.int .i64 (jj n)∧R0 1=v∧R0 4=vP g1∧R0 5=vP g2∧R0 6=vJ i∧aH w none_ cv [.cd bC 3 100 (va) (acc),.aJ g2 [.int .i64 (jj n),va] 24,.aJ g1 [.int .i64 (0),vN] 24]∧(i+k=l.length)∧(i≤40)∧(acc=(l.take i).map (DA (jj n)))∧(acc.length=i)) (l.length) ?_ ?_
 exact⟨vN,[],0,rfl,rfl,rfl,rfl,rfl,hN,by omega,by omega,rfl,rfl⟩
 clear hN
 rintro k R0 cv ⟨va,acc,i,cF,bN,cu,cy,cV,hN,fP,aaD,ha,im⟩
 have cz:=hC cF bN cu cy cV
 obtain⟨fV,rfl⟩:=cz
 clear cF bN cu cy cV
 iterate 2 refine RW.seq ?_
 refine RW.region (RL.ag (v:=vJ i) U (RL.ag (v:=v) U ?_))
 have r7:=(hv.o.now hN).bw
 refine RL.ag (bO acP (hv.o.now hN)) (RL.ag (aK) (RL.ag (v:=.bool (decide ((i:Int)<(l.length:Int)))) U ?_))
 by_cases pP:(i:Int)<(l.length:Int)
 rw[decide_eq_true pP]
 refine RL.aw (v:=vJ i) U (RL.aw (aK) (RL.ag (v:=.bool (decide ((i:Int)<40))) (al) (RL.ak ?_)))
 refine RW.aG _ (fun cD=>?_) (fun cD=>?_)
 refine RW.skip (aA (RW.seq (RW.block (RW.aN (RL.ag (v:=v) U (RL.ag (v:=vJ i) U (RL.ag (aT acP cY aW (hv.o.now hN)) ?_)))))))
 have aO:=cQ (l) i
 obtain⟨ap,bV⟩:=aO
 refine RL.ag (b0 (m:=i) (a:=ap) acT cY aW (hv.o.now hN) bV (cs:=[.int .i64 (ap.1),.int .i64 (ap.2.1),.int .i64 (ap.2.2)])) ?_
 refine RL.aL (bz (cs:=[.int .i64 (0),.int .i64 (0),.int .i64 (0)]) fu rfl hN ?_)
 clear hN
 intro g5 w5 (hN:aH w none_ w5 [_,_,_,_])
 refine RL.aL (aS (vs:=[.int .i64 (ap.1),.int .i64 (ap.2.1),.int .i64 (ap.2.2)]) cY rfl rfl rfl (bh (bh (bh cZ))) hN 0 rfl rfl ?_)
 clear hN
 intro w6 (hN:aH w none_ w6 [_,_,_,_])
 refine RL.ak ?_
 replace hN:=hN.ext (Ext.drew w6)
 refine RW.bA (fun u=>aH w none_ u [.aJ g5 [.int .i64 (ap.1),.int .i64 (ap.2.1),.int .i64 (ap.2.2)] 100,.aJ g2 [.int .i64 (jj n),va] 24,.aJ g1 [.int .i64 (0),vN] 24]) 17 [(0,0),(1,0),(2,0),(3,0),(4,0),(6,0),(7,0),(8,0),(10,0),(11,0),(5,1),(9,1),(12,1),(13,0),(14,1),(15,1),(16,0),(17,2)] (by intro _ _ _ h;exact h) (hN.sb [0,2,3]) (RQ.an rfl (fun w hS=>(ah acJ rfl eZ)) (RQ.an rfl (fun w hS=>(aj acP (hS.aJ 1 rfl))) (RQ.an rfl (fun w hS=>(ah acT rfl bI)) (RQ.an rfl (fun w hS=>(aj acy (hS.aJ 0 rfl))) (RQ.an (v:=.int .i64 (jj n)) rfl (fun w hS=>U) (RQ.an rfl (fun w hS=>(ah acT rfl bI)) (RQ.an rfl (fun w hS=>(aj acy (hS.aJ 0 rfl))) (RQ.an (v:=.int .i64 (jj n)) rfl (fun w hS=>U) (RQ.an rfl (fun w hS=>(ah acT rfl bI)) ?_)))))))))
 refine RQ.an rfl (fun w hS=>(aj acy (hS.aJ 0 rfl))) ?_
 refine RQ.bW rfl (bu ahy rfl rfl rfl rfl ((oN (ap.1) (jj n) _ (by omega) (by omega)).mono ?_))
 rintro _ _ ⟨rfl,rfl⟩
 refine⟨(hN.sb [0,2,3]),?_⟩
 refine RQ.bW rfl (bu ahy rfl rfl rfl rfl ((oN (ap.2.1) (jj n) _ (by omega) (by omega)).mono ?_))
 rintro _ _ ⟨rfl,rfl⟩
 refine⟨(hN.sb [0,2,3]),?_⟩
 refine RQ.bW rfl (bu ahy rfl rfl rfl rfl ((oN (ap.2.2) (2147483649) _ (by omega) (by omega)).mono ?_))
 rintro _ _ ⟨rfl,rfl⟩
 refine⟨(hN.sb [0,2,3]),?_⟩
 refine RQ.an rfl (fun w hS=>(bR (cs:=[.int .i64 (((ap.1)%(jj n))),.int .i64 (((ap.2.1)%(jj n))),.int .i64 (((ap.2.2)%(2147483649)))]) acT fu (places:=#[(0,1),(1,1),(2,1)]) (by intro w;kernel_rfl) (pl:=[(0,.tmp 32),(1,.tmp 36),(2,.tmp 39)]) rfl (ps:=[(0,.int .i64 (((ap.1)%(jj n)))),(1,.int .i64 (((ap.2.1)%(jj n)))),(2,.int .i64 (((ap.2.2)%(2147483649))))]) rfl (zc:=[.int .i64 (0),.int .i64 (0),.int .i64 (0)]) rfl (aP (vs:=[.int .i64 (((ap.1)%(jj n)))]) rfl rfl (acA rfl) (aP (vs:=[.int .i64 (((ap.2.1)%(jj n)))]) rfl rfl (acA rfl) (aP (vs:=[.int .i64 (((ap.2.2)%(2147483649)))]) rfl rfl (acA rfl) rfl))))) ?_
 refine RQ.bW rfl (dn (cf:=bC) (s:=3) (pl:=[(0,.tmp 40)]) (ps:=[(0,.agg #[.int .i64 (((ap.1)%(jj n))),.int .i64 (((ap.2.1)%(jj n))),.int .i64 (((ap.2.2)%(2147483649)))])]) (zc:=[.int .i64 (0),.int .i64 (0),.int .i64 (0)]) (l:=[(((ap.1)%(jj n)),((ap.2.1)%(jj n)),((ap.2.2)%(2147483649)))]) acP tZ (by kernel_rfl) rfl rfl (aP (vs:=[.int .i64 (((ap.1)%(jj n))),.int .i64 (((ap.2.1)%(jj n))),.int .i64 (((ap.2.2)%(2147483649)))]) rfl rfl (acA rfl) rfl) aW rfl (by decide) (by decide) (by decide) hN ?_)
 clear hN
 intro AS lR (hN:aH w none_ lR [_,_,_,_,_])
 refine⟨(hN.sb [1,3,4]),?_⟩
 refine RQ.bW rfl (cp acP tZ rfl (by decide) eH aW hN 2 rfl rfl (hN.sm 0 rfl) rfl (by rw[im];simp only[acH,acK,acS];omega) (by decide) ?_)
 clear hN
 intro v11 kY (hN:aH w none_ kY [_,_,_,_,_])
 refine⟨(hN.sb [1,3,4]),?_⟩
 refine RQ.an rfl (fun w hS=>(ah acJ rfl eZ)) ?_
 refine RQ.last rfl rfl (b7 eZ rfl rfl (hN.sm 2 rfl).cK (hN.sm 2 rfl).bT hN 3 rfl (acA rfl) ?_)
 clear hN
 intro kI (hN:aH w none_ kI [_,_,_,_,_])
 refine RZ.dW (ba (aA (RW.region (RL.ag (v:=vJ i) U (RL.ag (aD rfl rfl rfl (bg (by omega) (by omega))) (RL.ag (v:=.int .i64 ((i:Int)+1)) ai (RL.ak ?_)))))))
 exact⟨k-1,by omega,v11,acc++[(((ap.1)%(jj n)),((ap.2.1)%(jj n)),((ap.2.2)%(2147483649)))],i+1,rfl,rfl,rfl,rfl,rfl,(hN.sb [2,3,4]),by omega,by omega,by rw[ha,ae1,bV,ad7];rfl,by rw[acB,im];rfl⟩
 refine RW.exit ?_
 iterate 2 refine bP ?_
 refine aY (aA (RW.aN (RL.ag (aE (cs:=[.int .i64 (jj n),va]) acJ dw (hN.aJ 1 rfl)) ?_)))
 refine RL.aL (aS (vs:=[.int .i64 (jj n),va]) dw rfl rfl rfl (by intro u hu;simp only[ac6,ac0,or_false]at hu;rcases hu with rfl|rfl<;>first|rfl|exact(hN.sm 0 rfl).bT) hN 2 rfl rfl ?_)
 clear hN
 intro lX (hN:aH w none_ lX [_,_,_])
 refine RL.ak (RW.ret (bc (RV.cell rfl rfl (hN.aJ 2 rfl) acJ rfl dw) ?_))
 have fF:(l.take i).map (DA (jj n))=cJ (jj n) l:=by
   unfold cJ
   rcases adi i 40 with h|h
   · rw[ac2 (by omega),ac2 (by omega)]
   · rw[show i=40 by omega]
 rw[fF]at ha
 subst ha
 exact⟨va,rfl,hN.fL 0 rfl,hN.aX⟩
 rw[decide_eq_false pP]
 iterate 2 refine RL.bH ?_
 refine RL.ag (v:=.bool false) (aB) (RL.ak (RW.cj (RW.exit ?_)))
 iterate 2 refine bP ?_
 refine aY (aA (RW.aN (RL.ag (aE (cs:=[.int .i64 (jj n),va]) acJ dw (hN.aJ 1 rfl)) ?_)))
 refine RL.aL (aS (vs:=[.int .i64 (jj n),va]) dw rfl rfl rfl (by intro u hu;simp only[ac6,ac0,or_false]at hu;rcases hu with rfl|rfl<;>first|rfl|exact(hN.sm 0 rfl).bT) hN 2 rfl rfl ?_)
 clear hN
 intro oI (hN:aH w none_ oI [_,_,_])
 refine RL.ak (RW.ret (bc (RV.cell rfl rfl (hN.aJ 2 rfl) acJ rfl dw) ?_))
 have fF:(l.take i).map (DA (jj n))=cJ (jj n) l:=by
   unfold cJ
   rcases adi i 40 with h|h
   · rw[ac2 (by omega),ac2 (by omega)]
   · rw[show i=40 by omega]
 rw[fF]at ha
 subst ha
 exact⟨va,rfl,hN.fL 0 rfl,hN.aX⟩
theorem tO (n:Int) (v:Value) (l:List I3) (w:World) (hv:Sm bC w v l):aM acD 24 #[.agg #[.int .i64 n,v]] w fun r w'=>r=.int .i64 (dU n l)∧Ext w w':=by
 refine aM.aZ ahz ?_
 rw[cH]
 have hN:=aH.nil w none_
 refine RW.aN ?_
 refine RL.aL (bJ (cs:=[.int .i64 (n),v]) rfl rfl hN ?_)
 clear hN
 intro g1 w1 (hN:aH w none_ w1 [_])
 refine RL.ag (v:=.int .i64 (0)) ai (RL.ak ?_)
 iterate 2 refine RW.seq ?_
 refine RW.region (RL.ag (ah acJ rfl bI) (RL.ag (aj acy (hN.aJ 0 rfl)) (RL.ag (cq) (RL.ag (v:=.bool (decide (16777216<n))) U ?_))))
 by_cases kP:16777216<n
 rw[decide_eq_true kP]
 iterate 4 refine RL.bH ?_
 refine RL.ag (v:=.bool true) (al) (RL.ak (RW.bD (RW.aN (RL.ag (v:=.int .i64 (3)) ai (RL.ak (RW.ret ?_))))))
 refine aU (bc (RV.tmp rfl) ?_)
 exact⟨congrArg (ac4 .i64) (if_pos (by omega)).symm,hN.aX⟩
 rw[decide_eq_false kP]
 refine RL.aw (ah acJ rfl eZ) (RL.aw (aj acP (hN.aJ 0 rfl)) ?_)
 have iH:=(hv.o.now hN).bw
 refine RL.aw (bO acP (hv.o.now hN)) (RL.aw (cq) (RL.ag (v:=.bool (decide (67108864<(l.length:Int)))) (aB) (RL.ak ?_)))
 refine RW.aG _ (fun j9=>?_) (fun j9=>?_)
 refine RW.aN (RL.ag (v:=.int .i64 (3)) ai (RL.ak (RW.ret (aU (bc (RV.tmp rfl) ?_)))))
 exact⟨congrArg (ac4 .i64) (if_pos (by omega)).symm,hN.aX⟩
 refine RW.skip (aA ?_)
 iterate 2 refine RW.seq ?_
 refine RW.region (RL.ag (ah acJ rfl bI) (RL.ag (aj acy (hN.aJ 0 rfl)) (RL.ag (aK) (RL.ak ?_))))
 refine RW.aG _ (fun oW=>?_) (fun oW=>?_)
 refine RW.aN (RL.ag (v:=.int .i64 (2)) ai (RL.ak (RW.ret (aU (bc (RV.tmp rfl) ?_)))))
 refine⟨congrArg (ac4 .i64) ?_,hN.aX⟩
 unfold dU
 rw[if_neg (by omega),if_pos (by omega)]
 refine RW.skip (aA ?_)
 iterate 2 refine RW.seq ?_
 refine RW.region (RL.ag (v:=.int .i64 (0)) ai (RL.ak (RW.block ?_)))
 refine RW.loop (fun k R0 cv=>∃i:Nat,R0 1=vP g1∧R0 3=vJ i∧aH w none_ cv [.aJ g1 [.int .i64 (n),v] 24]∧(i+k=l.length)∧(∀a∈l.take i,EJ n a)) (l.length) ?_ ?_
 exact⟨0,rfl,rfl,hN,by omega,fun a ha=>by cases ha⟩
 clear hN
 rintro k R0 cv ⟨i,bN,cb,hN,fP,ff⟩
 have cz:=BE bN cb
 obtain⟨fV,rfl⟩:=cz
 clear bN cb
 iterate 2 refine RW.seq ?_
 refine RW.region (RL.ag (v:=vJ i) U (RL.ag (ah acJ rfl eZ) (RL.ag (aj acP (hN.aJ 0 rfl)) (RL.ag (bO acP (hv.o.now hN)) (RL.ag (aK) (RL.ak ?_))))))
 refine RW.aG _ (fun cD=>?_) (fun cD=>?_)
 refine RW.skip (aA (RW.seq (RW.block (RW.aN (RL.ag (ah acJ rfl eZ) (RL.ag (aj acP (hN.aJ 0 rfl)) (RL.ag (v:=vJ i) U (RL.ag (aT acP cY aW (hv.o.now hN)) ?_))))))))
 have aO:=cQ (l) i
 obtain⟨ap,bV⟩:=aO
 refine RL.ag (b0 (m:=i) (a:=ap) acT cY aW (hv.o.now hN) bV (cs:=[.int .i64 (ap.1),.int .i64 (ap.2.1),.int .i64 (ap.2.2)])) ?_
 refine RL.aL (bz (cs:=[.int .i64 (0),.int .i64 (0),.int .i64 (0)]) fu rfl hN ?_)
 clear hN
 intro g3 w3 (hN:aH w none_ w3 [_,_])
 refine RL.aL (aS (vs:=[.int .i64 (ap.1),.int .i64 (ap.2.1),.int .i64 (ap.2.2)]) cY rfl rfl rfl (bh (bh (bh cZ))) hN 0 rfl rfl ?_)
 clear hN
 intro w4 (hN:aH w none_ w4 [_,_])
 refine RL.bY (RL.ag (ah acT rfl bI) (RL.ag (aj acy (hN.aJ 0 rfl)) (RL.ag (aK) (RL.ag (v:=.bool (decide (ap.1<0))) U ?_))))
 by_cases My:ap.1<0
 rw[decide_eq_true My]
 iterate 5 refine RL.bH ?_
 refine RL.ag (v:=.bool true) (al) (RL.ag (v:=.bool true) U ?_)
 iterate 3 refine RL.bH ?_
 refine RL.ag (v:=.bool true) (al) (RL.ag (v:=.bool true) U ?_)
 iterate 5 refine RL.bH ?_
 refine RL.ag (v:=.bool true) (al) (RL.ag (v:=.bool true) U ?_)
 iterate 3 refine RL.bH ?_
 refine RL.ag (v:=.bool true) (al) (RL.ag (v:=.bool true) U ?_)
 iterate 3 refine RL.bH ?_
 refine RL.ag (v:=.bool true) (al) (RL.ak (RW.bD (RW.aN (RL.ag (v:=.int .i64 (2)) ai (RL.ak (RW.ret ?_))))))
 refine bb ?_
 iterate 2 refine aU ?_
 refine bb (aU (bc (RV.tmp rfl) ?_))
 refine⟨congrArg (ac4 .i64) ?_,hN.aX⟩
 unfold dU
 rw[if_neg (by omega),if_neg (by omega),if_neg]
 intro fQ
 have aO:=fQ ap (acC bV)
 obtain⟨h1,h2,h3,h4,h5,h6⟩:=aO
 omega
 rw[decide_eq_false My]
 refine RL.aw (ah acT rfl bI) (RL.aw (aj acy (hN.aJ 0 rfl)) (RL.aw (ah acJ rfl bI) (RL.aw (aj acy (hN.aJ 1 rfl)) (RL.aw (ck) (RL.ag (v:=.bool (decide (n≤ap.1))) (aB) (RL.ag (v:=.bool (decide (n≤ap.1))) U ?_))))))
 by_cases Iy:n≤ap.1
 rw[decide_eq_true Iy]
 iterate 3 refine RL.bH ?_
 refine RL.ag (v:=.bool true) (al) (RL.ag (v:=.bool true) U ?_)
 iterate 5 refine RL.bH ?_
 refine RL.ag (v:=.bool true) (al) (RL.ag (v:=.bool true) U ?_)
 iterate 3 refine RL.bH ?_
 refine RL.ag (v:=.bool true) (al) (RL.ag (v:=.bool true) U ?_)
 iterate 3 refine RL.bH ?_
 refine RL.ag (v:=.bool true) (al) (RL.ak (RW.bD (RW.aN (RL.ag (v:=.int .i64 (2)) ai (RL.ak (RW.ret ?_))))))
 refine bb ?_
 iterate 2 refine aU ?_
 refine bb (aU (bc (RV.tmp rfl) ?_))
 refine⟨congrArg (ac4 .i64) ?_,hN.aX⟩
 unfold dU
 rw[if_neg (by omega),if_neg (by omega),if_neg]
 intro fQ
 have aO:=fQ ap (acC bV)
 obtain⟨h1,h2,h3,h4,h5,h6⟩:=aO
 omega
 rw[decide_eq_false Iy]
 refine RL.aw (ah acT rfl bI) (RL.aw (aj acy (hN.aJ 0 rfl)) (RL.aw (aK) (RL.ag (v:=.bool (decide (ap.2.1<0))) (aB) (RL.ag (v:=.bool (decide (ap.2.1<0))) U ?_))))
 by_cases Iv:ap.2.1<0
 rw[decide_eq_true Iv]
 iterate 5 refine RL.bH ?_
 refine RL.ag (v:=.bool true) (al) (RL.ag (v:=.bool true) U ?_)
 iterate 3 refine RL.bH ?_
 refine RL.ag (v:=.bool true) (al) (RL.ag (v:=.bool true) U ?_)
 iterate 3 refine RL.bH ?_
 refine RL.ag (v:=.bool true) (al) (RL.ak (RW.bD (RW.aN (RL.ag (v:=.int .i64 (2)) ai (RL.ak (RW.ret ?_))))))
 refine bb ?_
 iterate 2 refine aU ?_
 refine bb (aU (bc (RV.tmp rfl) ?_))
 refine⟨congrArg (ac4 .i64) ?_,hN.aX⟩
 unfold dU
 rw[if_neg (by omega),if_neg (by omega),if_neg]
 intro fQ
 have aO:=fQ ap (acC bV)
 obtain⟨h1,h2,h3,h4,h5,h6⟩:=aO
 omega
 rw[decide_eq_false Iv]
 refine RL.aw (ah acT rfl bI) (RL.aw (aj acy (hN.aJ 0 rfl)) (RL.aw (ah acJ rfl bI) (RL.aw (aj acy (hN.aJ 1 rfl)) (RL.aw (ck) (RL.ag (v:=.bool (decide (n≤ap.2.1))) (aB) (RL.ag (v:=.bool (decide (n≤ap.2.1))) U ?_))))))
 by_cases Iu:n≤ap.2.1
 rw[decide_eq_true Iu]
 iterate 3 refine RL.bH ?_
 refine RL.ag (v:=.bool true) (al) (RL.ag (v:=.bool true) U ?_)
 iterate 3 refine RL.bH ?_
 refine RL.ag (v:=.bool true) (al) (RL.ak (RW.bD (RW.aN (RL.ag (v:=.int .i64 (2)) ai (RL.ak (RW.ret ?_))))))
 refine bb ?_
 iterate 2 refine aU ?_
 refine bb (aU (bc (RV.tmp rfl) ?_))
 refine⟨congrArg (ac4 .i64) ?_,hN.aX⟩
 unfold dU
 rw[if_neg (by omega),if_neg (by omega),if_neg]
 intro fQ
 have aO:=fQ ap (acC bV)
 obtain⟨h1,h2,h3,h4,h5,h6⟩:=aO
 omega
 rw[decide_eq_false Iu]
 refine RL.aw (ah acT rfl bI) (RL.aw (aj acy (hN.aJ 0 rfl)) (RL.aw (aK) (RL.ag (v:=.bool (decide (ap.2.2<0))) (aB) (RL.ag (v:=.bool (decide (ap.2.2<0))) U ?_))))
 by_cases It:ap.2.2<0
 rw[decide_eq_true It]
 iterate 3 refine RL.bH ?_
 refine RL.ag (v:=.bool true) (al) (RL.ak (RW.bD (RW.aN (RL.ag (v:=.int .i64 (2)) ai (RL.ak (RW.ret ?_))))))
 refine bb ?_
 iterate 2 refine aU ?_
 refine bb (aU (bc (RV.tmp rfl) ?_))
 refine⟨congrArg (ac4 .i64) ?_,hN.aX⟩
 unfold dU
 rw[if_neg (by omega),if_neg (by omega),if_neg]
 intro fQ
 have aO:=fQ ap (acC bV)
 obtain⟨h1,h2,h3,h4,h5,h6⟩:=aO
 omega
 rw[decide_eq_false It]
 refine RL.aw (ah acT rfl bI) (RL.aw (aj acy (hN.aJ 0 rfl)) (RL.aw (cq) (RL.ag (v:=.bool (decide (2147483648<ap.2.2))) (aB) (RL.ak ?_))))
 refine RW.aG _ (fun O4=>?_) (fun O4=>?_)
 refine RW.aN (RL.ag (v:=.int .i64 (2)) ai (RL.ak (RW.ret (bb ?_))))
 iterate 2 refine aU ?_
 refine bb (aU (bc (RV.tmp rfl) ?_))
 refine⟨congrArg (ac4 .i64) ?_,hN.aX⟩
 unfold dU
 rw[if_neg (by omega),if_neg (by omega),if_neg]
 intro fQ
 have aO:=fQ ap (acC bV)
 obtain⟨h1,h2,h3,h4,h5,h6⟩:=aO
 omega
 refine RW.skip (ba (aA (RW.region (RL.ag (v:=vJ i) U (RL.ag (aD rfl rfl rfl (bg (by omega) (by omega))) (RL.ag (v:=.int .i64 ((i:Int)+1)) ai (RL.ak ?_)))))))
 exact⟨k-1,by omega,i+1,rfl,rfl,(hN.sb [1]),by omega,fun a ha=>(dk bV ha).elim (ff a) (fun e=>e▸⟨by omega,by omega,by omega,by omega,by omega,by omega⟩)⟩
 refine RW.exit ?_
 iterate 2 refine bP ?_
 refine aY (aA (RW.aN (RL.ag (v:=.int .i64 (0)) ai (RL.ak (RW.ret (bc (RV.tmp rfl) ?_))))))
 refine⟨congrArg (ac4 .i64) ?_,hN.aX⟩
 unfold dU
 rw[if_neg (by omega),if_neg (by omega),if_pos]
 rw[ac2 (by omega)]at ff
 exact ff
theorem wU (n:Int) (v:Value) (l:List I3) (w:World) (hv:Sm bC w v l) (h:dU n l=0):aM acD 24 #[.agg #[.int .i64 n,v]] w fun r w'=>r=.int .i64 0∧Ext w w':=(tO n v l w hv).mono fun r w' hr=>by rw[h]at hr;exact hr
end Go.Proofs.YtngkdkbpgoddlaaGreat
namespace Go.Proofs.YtngkdkbpgoddlaaGreat
open Go.RowKit Go.Rl
open Go.Gr
theorem yH (n:Int) (v:Value) (l:List I3) (k:Nat) (w:World) (hv:Sm bC w v l) (hk:k<l.length):aM acD 130 #[.agg #[.int .i64 n,v],.int .i64 (k:Int)] w fun r w'=>r=.bool (decide (jZ l k))∧Ext w w':=by
 refine aM.aZ ajG ?_
 rw[cS]
 have hN:=aH.nil w none_
 refine RW.aN ?_
 refine RL.aL (bJ (cs:=[.int .i64 (n),v]) rfl rfl hN ?_)
 clear hN
 intro g1 w1 (hN:aH w none_ w1 [_])
 refine RL.ag (v:=.bool false) ai (RL.bY (RL.ag (ah acJ rfl eZ) (RL.ag (aj acP (hN.aJ 0 rfl)) (RL.ag (v:=vJ k) U (RL.ag (aT acP cY aW (hv.o.now hN)) ?_)))))
 have aO:=cQ (l) k
 obtain⟨ap,bV⟩:=aO
 refine RL.ag (b0 (m:=k) (a:=ap) acT cY aW (hv.o.now hN) bV (cs:=[.int .i64 (ap.1),.int .i64 (ap.2.1),.int .i64 (ap.2.2)])) ?_
 refine RL.aL (bz (cs:=[.int .i64 (0),.int .i64 (0),.int .i64 (0)]) fu rfl hN ?_)
 clear hN
 intro g2 w2 (hN:aH w none_ w2 [_,_])
 refine RL.aL (aS (vs:=[.int .i64 (ap.1),.int .i64 (ap.2.1),.int .i64 (ap.2.2)]) cY rfl rfl rfl (bh (bh (bh cZ))) hN 0 rfl rfl ?_)
 clear hN
 intro w3 (hN:aH w none_ w3 [_,_])
 refine RL.ak ?_
 iterate 2 refine RW.seq ?_
 refine RW.region (RL.ag (ah acT rfl bI) (RL.ag (aj acy (hN.aJ 0 rfl)) (RL.ag (ah acT rfl bI) (RL.ag (aj acy (hN.aJ 0 rfl)) (RL.ag (ca) (RL.ak ?_))))))
 refine RW.aG _ (fun HZ=>?_) (fun HZ=>?_)
 refine RW.aN (RL.ag (v:=.bool false) ai (RL.ak (RW.ret (aU (bc (RV.tmp rfl) ?_)))))
 refine⟨congrArg acV (decide_eq_false ?_).symm,hN.aX⟩
 rintro⟨a,ha,dX,_⟩
 rw[bV]at ha
 cases ha
 exact dX HZ
 refine RW.skip (aA ?_)
 iterate 2 refine RW.seq ?_
 refine RW.region (RL.ag (v:=.int .i64 (0)) ai (RL.ak (RW.block ?_)))
 refine RW.loop (fun q R0 cv=>∃i:Nat,R0 1=vJ k∧R0 2=vP g1∧R0 5=vP g2∧R0 6=vJ i∧aH w none_ cv [.aJ g2 [.int .i64 (ap.1),.int .i64 (ap.2.1),.int .i64 (ap.2.2)] 100,.aJ g1 [.int .i64 (n),v] 24]∧(i+q=l.length)∧(∀(j:Nat) b,j<i→l[j]?=some b→¬(b.1=ap.1∧b.2.1=ap.2.1∧(b.2.2<ap.2.2∨b.2.2=ap.2.2∧j<k)))) (l.length) ?_ ?_
 exact⟨0,rfl,rfl,rfl,rfl,hN,by omega,fun j b hj=>by omega⟩
 clear hN
 rintro q R0 cv ⟨i,bN,bQ,cy,cV,hN,fP,fA⟩
 have cz:=iV bN bQ cy cV
 obtain⟨fV,rfl⟩:=cz
 clear bN bQ cy cV
 iterate 2 refine RW.seq ?_
 refine RW.region (RL.ag (v:=vJ i) U (RL.ag (ah acJ rfl eZ) (RL.ag (aj acP (hN.aJ 1 rfl)) ?_)))
 have r7:=(hv.o.now hN).bw
 refine RL.ag (bO acP (hv.o.now hN)) (RL.ag (aK) (RL.ak ?_))
 refine RW.aG _ (fun cD=>?_) (fun cD=>?_)
 refine RW.skip (aA (RW.seq (RW.block (RW.aN (RL.ag (ah acJ rfl eZ) (RL.ag (aj acP (hN.aJ 1 rfl)) (RL.ag (v:=vJ i) U (RL.ag (aT acP cY aW (hv.o.now hN)) ?_))))))))
 have aO:=cQ (l) i
 obtain⟨ab,ql⟩:=aO
 refine RL.ag (b0 (m:=i) (a:=ab) acT cY aW (hv.o.now hN) ql (cs:=[.int .i64 (ab.1),.int .i64 (ab.2.1),.int .i64 (ab.2.2)])) ?_
 refine RL.aL (bz (cs:=[.int .i64 (0),.int .i64 (0),.int .i64 (0)]) fu rfl hN ?_)
 clear hN
 intro g5 w5 (hN:aH w none_ w5 [_,_,_])
 refine RL.aL (aS (vs:=[.int .i64 (ab.1),.int .i64 (ab.2.1),.int .i64 (ab.2.2)]) cY rfl rfl rfl (bh (bh (bh cZ))) hN 0 rfl rfl ?_)
 clear hN
 intro w6 (hN:aH w none_ w6 [_,_,_])
 refine RL.bY (RL.ag (ah acT rfl bI) (RL.ag (aj acy (hN.aJ 0 rfl)) (RL.ag (ah acT rfl bI) (RL.ag (aj acy (hN.aJ 1 rfl)) (RL.ag (ca) (RL.ag (v:=.bool (decide (ab.1=ap.1))) U ?_))))))
 by_cases MA:ab.1=ap.1
 rw[decide_eq_true MA]
 refine RL.aw (ah acT rfl bI) (RL.aw (aj acy (hN.aJ 0 rfl)) (RL.aw (ah acT rfl bI) (RL.aw (aj acy (hN.aJ 1 rfl)) (RL.aw (ca) (RL.ag (v:=.bool (decide (ab.2.1=ap.2.1))) (al) (RL.ag (v:=.bool (decide (ab.2.1=ap.2.1))) U ?_))))))
 by_cases IA:ab.2.1=ap.2.1
 rw[decide_eq_true IA]
 refine RL.aw (ah acT rfl bI) (RL.aw (aj acy (hN.aJ 0 rfl)) (RL.aw (ah acT rfl bI) (RL.aw (aj acy (hN.aJ 1 rfl)) (RL.aw (aK) (RL.aw (v:=.bool (decide (ab.2.2<ap.2.2))) U ?_)))))
 by_cases uk:ab.2.2<ap.2.2
 rw[decide_eq_true uk]
 iterate 6 refine RL.bH ?_
 iterate 3 refine RL.iy ?_
 refine RL.bH (RL.aw (v:=.bool true) (al) (RL.ag (v:=.bool true) (al) (RL.ak (RW.bD (RW.aN (RL.ag (v:=.bool false) ai (RL.nil ?_)))))))
 refine aA (RW.ret (bb ?_))
 iterate 2 refine aU ?_
 refine bb (aU (bc (RV.tmp rfl) ?_))
 refine⟨congrArg acV (decide_eq_false ?_).symm,hN.aX⟩
 rintro⟨a,ha,dX,fQ⟩
 rw[bV]at ha
 cases ha
 exact fQ i ab ql ⟨by omega,by omega,by omega⟩
 rw[decide_eq_false uk]
 refine RL.aw (ah acT rfl bI) (RL.aw (aj acy (hN.aJ 0 rfl)) (RL.aw (ah acT rfl bI) (RL.aw (aj acy (hN.aJ 1 rfl)) (RL.aw (ca) (RL.aw (v:=.bool (decide (ab.2.2=ap.2.2))) U ?_)))))
 by_cases Iz:ab.2.2=ap.2.2
 rw[decide_eq_true Iz]
 refine RL.aw (v:=vJ i) U (RL.aw (v:=vJ k) U (RL.aw (aK) (RL.aw (v:=.bool (decide ((i:Int)<(k:Int)))) (al) (RL.aw (v:=.bool (decide ((i:Int)<(k:Int)))) (aB) (RL.ag (v:=.bool (decide ((i:Int)<(k:Int)))) (al) (RL.ak ?_))))))
 refine RW.aG _ (fun O4=>?_) (fun O4=>?_)
 refine RW.aN (RL.ag (v:=.bool false) ai (RL.ak (RW.ret (bb ?_))))
 iterate 2 refine aU ?_
 refine bb (aU (bc (RV.tmp rfl) ?_))
 refine⟨congrArg acV (decide_eq_false ?_).symm,hN.aX⟩
 rintro⟨a,ha,dX,fQ⟩
 rw[bV]at ha
 cases ha
 exact fQ i ab ql ⟨by omega,by omega,by omega⟩
 refine RW.skip (ba (aA (RW.region (RL.ag (v:=vJ i) U (RL.ag (aD rfl rfl rfl (bg (by omega) (by omega))) (RL.ag (v:=.int .i64 ((i:Int)+1)) ai (RL.ak ?_)))))))
 exact⟨q-1,by omega,i+1,rfl,rfl,rfl,rfl,(hN.sb [1,2]),by omega,fun j b hj hb=>(afe.1 hj).elim (fun h=>fA j b h hb) (fun h=>by subst h;rw[ql]at hb;cases hb;rintro⟨h1,h2,h3⟩;omega)⟩
 rw[decide_eq_false Iz]
 iterate 3 refine RL.bH ?_
 iterate 2 refine RL.aw (v:=.bool false) (aB) ?_
 refine RL.ag (v:=.bool false) (al) (RL.ak (RW.cj (RW.skip (ba (aA (RW.region (RL.ag (v:=vJ i) U (RL.ag (aD rfl rfl rfl (bg (by omega) (by omega))) ?_))))))))
 refine RL.ag (v:=.int .i64 ((i:Int)+1)) ai (RL.ak ?_)
 exact⟨q-1,by omega,i+1,rfl,rfl,rfl,rfl,(hN.sb [1,2]),by omega,fun j b hj hb=>(afe.1 hj).elim (fun h=>fA j b h hb) (fun h=>by subst h;rw[ql]at hb;cases hb;rintro⟨h1,h2,h3⟩;omega)⟩
 rw[decide_eq_false IA]
 iterate 6 refine RL.bH ?_
 iterate 10 refine RL.iy ?_
 refine RL.bH (RL.ag (v:=.bool false) (aB) (RL.ak (RW.cj (RW.skip (ba (aA (RW.region (RL.ag (v:=vJ i) U ?_))))))))
 refine RL.ag (aD rfl rfl rfl (bg (by omega) (by omega))) (RL.ag (v:=.int .i64 ((i:Int)+1)) ai (RL.ak ?_))
 exact⟨q-1,by omega,i+1,rfl,rfl,rfl,rfl,(hN.sb [1,2]),by omega,fun j b hj hb=>(afe.1 hj).elim (fun h=>fA j b h hb) (fun h=>by subst h;rw[ql]at hb;cases hb;rintro⟨h1,h2,h3⟩;omega)⟩
 rw[decide_eq_false MA]
 iterate 5 refine RL.bH ?_
 refine RL.ag (v:=.bool false) (aB) (RL.ag (v:=.bool false) U ?_)
 iterate 6 refine RL.bH ?_
 iterate 10 refine RL.iy ?_
 refine RL.bH (RL.ag (v:=.bool false) (aB) (RL.ak (RW.cj (RW.skip (ba (aA (RW.region (RL.ag (v:=vJ i) U ?_))))))))
 refine RL.ag (aD rfl rfl rfl (bg (by omega) (by omega))) (RL.ag (v:=.int .i64 ((i:Int)+1)) ai (RL.ak ?_))
 exact⟨q-1,by omega,i+1,rfl,rfl,rfl,rfl,(hN.sb [1,2]),by omega,fun j b hj hb=>(afe.1 hj).elim (fun h=>fA j b h hb) (fun h=>by subst h;rw[ql]at hb;cases hb;rintro⟨h1,h2,h3⟩;omega)⟩
 refine RW.exit ?_
 iterate 2 refine bP ?_
 refine aY (aA (RW.aN (RL.ag (v:=.bool true) ai (RL.ak (RW.ret (bc (RV.tmp rfl) ?_))))))
 refine⟨congrArg acV (decide_eq_true ⟨ap,bV,HZ,fun j b hb=>fA j b (by have:=(acF.1 hb).1;omega) hb⟩).symm,hN.aX⟩
theorem uO (n:Int) (v:Value) (l:List I3) (w:World) (hv:Sm bC w v l) (ff:dU n l=0):aM acD 58 #[.agg #[.int .i64 n,v]] w fun r w'=>∃kv,r=.tuple #[.agg #[.int .i64 n,v,kv],.bool true]∧eB vI 3 w' w.heap.size kv (kept l)∧Ext w w':=by
 refine aM.aZ aiP ?_
 rw[cH]
 have hN:=aH.nil w none_
 have hl0:=(nZ ff).2.2.1
 refine RW.aN ?_
 refine RL.aL (bJ (cs:=[.int .i64 (n),v]) rfl rfl hN ?_)
 clear hN
 intro g1 w1 (hN:aH w none_ w1 [_])
 refine RL.aL (bz (cs:=[.int .i64 (0),vN,vN]) pd rfl hN ?_)
 clear hN
 intro g2 w2 (hN:aH w none_ w2 [_,_])
 refine RL.ag (v:=.bool false) ai (RL.ak ?_)
 iterate 2 refine RW.seq ?_
 refine RW.region (RL.ag (aE (cs:=[.int .i64 (n),v]) acJ dw (hN.aJ 1 rfl)) ?_)
 refine RL.aL (bo ahz rfl rfl rfl ((wU (n) _ l _ (hv.o.now hN) ff).mono ?_))
 rintro _ w3 ⟨rfl,bl⟩
 replace hN:=hN.ext bl
 clear bl
 refine RL.ag (cG (bj) (fun h=>h rfl)) (RL.ak (RW.cj (RW.skip (aA (RW.aN (RL.ag (aE (cs:=[.int .i64 (n),v]) acJ dw (hN.aJ 1 rfl)) (RL.ag (bR (cs:=[.int .i64 (n),v,vN]) adt pd (places:=#[(0,2),(2,1)]) (by intro w;kernel_rfl) (pl:=[(0,.tmp 11)]) rfl (ps:=[(0,.agg #[.int .i64 (n),v])]) rfl (zc:=[.int .i64 (0),vN,vN]) rfl (aP (vs:=[.int .i64 (n),v]) rfl rfl (acA rfl) rfl)) ?_)))))))
 refine RL.aL (bz (cs:=[.int .i64 (0),vN,vN]) pd rfl hN ?_)
 clear hN
 intro g4 w4 (hN:aH w none_ w4 [_,_,_])
 refine RL.aL (aS (vs:=[.int .i64 (n),v,vN]) oo rfl rfl rfl (by intro u hu;simp only[ac6,ac0,or_false]at hu;rcases hu with rfl|rfl|rfl<;>first|rfl|exact(hv.o.now hN).bT) hN 0 rfl rfl ?_)
 clear hN
 intro w5 (hN:aH w none_ w5 [_,_,_])
 refine RL.ak ?_
 iterate 2 refine RW.seq ?_
 replace hN:=hN.dy vI 3
 replace hN:aH w none_ w5 [.own vI 3 (vN) ([]),.aJ g4 [.int .i64 (n),v,vN] 111,.aJ g2 [.int .i64 (0),vN,vN] 111,.aJ g1 [.int .i64 (n),v] 24]:=hN
 refine RW.region (RL.ag (v:=.int .i64 (0)) ai (RL.ak (RW.block ?_)))
 refine RW.loop (fun k R0 cv=>∃va:Value,∃acc:List Int,∃i:Nat,R0 1=vP g1∧R0 2=vP g2∧R0 4=vP g4∧R0 5=vJ i∧aH w none_ cv [.own vI 3 (va) (acc),.aJ g4 [.int .i64 (n),v,va] 111,.aJ g2 [.int .i64 (0),vN,vN] 111,.aJ g1 [.int .i64 (n),v] 24]∧(i+k=l.length)∧(acc=(adC i).map (fun k=>if jZ l k then(1:Int)else 0))∧(acc.length=i)) (l.length) ?_ ?_
 exact⟨vN,[],0,rfl,rfl,rfl,rfl,hN,by omega,rfl,rfl⟩
 clear hN
 rintro k R0 cv ⟨va,acc,i,bN,bQ,cu,cy,hN,fP,ha,im⟩
 have cz:=iV bN bQ cu cy
 obtain⟨fV,rfl⟩:=cz
 clear bN bQ cu cy
 iterate 2 refine RW.seq ?_
 refine RW.region (RL.ag (v:=vJ i) U (RL.ag (ah acJ rfl eZ) (RL.ag (aj acP (hN.aJ 3 rfl)) ?_)))
 have AK:=(hv.o.now hN).bw
 refine RL.ag (bO acP (hv.o.now hN)) (RL.ag (aK) (RL.ak ?_))
 refine RW.aG _ (fun cD=>?_) (fun cD=>?_)
 refine RW.skip (aA (RW.seq (RW.block (RW.aN (RL.ag (v:=.int .i64 (0)) ai (RL.ak ?_))))))
 iterate 2 refine RW.seq ?_
 refine RW.region (RL.ag (aE (cs:=[.int .i64 (n),v]) acJ dw (hN.aJ 3 rfl)) (RL.ag (v:=vJ i) U ?_))
 refine RL.aL (bu ajG rfl rfl rfl rfl ((yH (n) _ l i _ (hv.o.now hN) (by omega)).mono ?_))
 rintro _ w7 ⟨rfl,bl⟩
 replace hN:=hN.ext bl
 clear bl
 refine RL.ak ?_
 refine RW.aG _ (fun VL=>?_) (fun VL=>?_)
 refine RW.region (RL.ag (v:=.int .i64 (1)) ai (RL.ak (RW.region (RL.ag (ah adt rfl cc) (RL.ag (aj acz (hN.aJ 1 rfl)) (RL.ag (v:=.int .i64 (1)) U ?_))))))
 refine RL.aL (cx (enc:=vI) (l:=[1]) (xs:=[.tmp 25]) acz bI mN rfl rfl (fun _=>rfl) rfl (by decide) (by decide) hN ?_)
 clear hN
 intro g8 w8 (hN:aH w none_ w8 [_,_,_,_,_])
 refine RL.aL (b9 acz fI rfl (fun _=>rfl) hN 1 rfl rfl (hN.sl 0 rfl) rfl (by rw[im];simp only[acH,acK,acS];omega) (by decide) ?_)
 clear hN
 intro v9 w9 (hN:aH w none_ w9 [_,_,_,_,_])
 refine RL.ag (ah adt rfl cc) ?_
 refine RL.aL (b7 cc rfl rfl (hN.sl 1 rfl).cK (hN.sl 1 rfl).bT hN 2 rfl (acA rfl) ?_)
 clear hN
 intro lR (hN:aH w none_ lR [_,_,_,_,_])
 refine RL.nil (ba (aA (RW.region (RL.ag (v:=vJ i) U (RL.ag (aD rfl rfl rfl (bg (by omega) (by omega))) (RL.ag (v:=.int .i64 ((i:Int)+1)) ai (RL.ak ?_)))))))
 exact⟨k-1,by omega,v9,acc++[1],i+1,rfl,rfl,rfl,rfl,(hN.sb [1,2,3,4]),by omega,by rw[wW,ha,if_pos VL],by rw[acB,im];rfl⟩
 refine RW.skip (aA (RW.region (RL.ag (ah adt rfl cc) (RL.ag (aj acz (hN.aJ 1 rfl)) (RL.ag (v:=.int .i64 (0)) U ?_)))))
 refine RL.aL (cx (enc:=vI) (l:=[0]) (xs:=[.tmp 25]) acz bI mN rfl rfl (fun _=>rfl) rfl (by decide) (by decide) hN ?_)
 clear hN
 intro MW kY (hN:aH w none_ kY [_,_,_,_,_])
 refine RL.aL (b9 acz fI rfl (fun _=>rfl) hN 1 rfl rfl (hN.sl 0 rfl) rfl (by rw[im];simp only[acH,acK,acS];omega) (by decide) ?_)
 clear hN
 intro rh kI (hN:aH w none_ kI [_,_,_,_,_])
 refine RL.ag (ah adt rfl cc) ?_
 refine RL.aL (b7 cc rfl rfl (hN.sl 1 rfl).cK (hN.sl 1 rfl).bT hN 2 rfl (acA rfl) ?_)
 clear hN
 intro lX (hN:aH w none_ lX [_,_,_,_,_])
 refine RL.nil (ba (aA (RW.region (RL.ag (v:=vJ i) U (RL.ag (aD rfl rfl rfl (bg (by omega) (by omega))) (RL.ag (v:=.int .i64 ((i:Int)+1)) ai (RL.ak ?_)))))))
 exact⟨k-1,by omega,rh,acc++[0],i+1,rfl,rfl,rfl,rfl,(hN.sb [1,2,3,4]),by omega,by rw[wW,ha,if_neg VL],by rw[acB,im];rfl⟩
 refine RW.exit ?_
 iterate 2 refine bP ?_
 refine aY (aA (RW.aN (RL.ag (aE (cs:=[.int .i64 (n),v,va]) adt oo (hN.aJ 1 rfl)) ?_)))
 refine RL.aL (aS (vs:=[.int .i64 (n),v,va]) oo rfl rfl rfl (by intro u hu;simp only[ac6,ac0,or_false]at hu;rcases hu with rfl|rfl|rfl<;>first|rfl|exact(hN.sl 0 rfl).bT|exact(hv.o.now hN).bT) hN 2 rfl rfl ?_)
 clear hN
 intro oI (hN:aH w none_ oI [_,_,_,_])
 refine RL.ag (v:=.bool true) ai (RL.ak (RW.ret (bc (RV.eo rfl rfl (dG (hN.aJ 2 rfl) adt rfl oo)) ?_)))
 have ic:i=l.length:=by omega
 subst ic
 subst ha
 exact⟨va,rfl,hN.ft 0 rfl,hN.aX⟩
theorem B0 (v:Value) (l:List I3) (e:I3) (w:World) (hv:Sm bC w v l) (hl:l.length≤67108864):aM acD 207 #[v,.agg #[.int .i64 e.1,.int .i64 e.2.1,.int .i64 e.2.2]] w fun r w'=>∃k,k≤l.length∧fK bC 3 246 w' w.heap.size r (l.take k++[e]++l.drop k)∧Ext w w':=by
 refine aM.aZ ajH ?_
 rw[cS]
 have hN:=aH.nil w none_
 refine RW.aN ?_
 refine RL.aL (bJ (cs:=[.int .i64 (e.1),.int .i64 (e.2.1),.int .i64 (e.2.2)]) rfl rfl hN ?_)
 clear hN
 intro g1 w1 (hN:aH w none_ w1 [_])
 refine RL.ag (v:=vN) ai (RL.bY (RL.ag (v:=.int .i64 (0)) ai (RL.ak (RW.seq (RW.block ?_)))))
 refine RW.loop (fun k R0 cv=>∃i:Nat,R0 0=v∧R0 3=vP g1∧R0 5=vJ i∧aH w none_ cv [.aJ g1 [.int .i64 (e.1),.int .i64 (e.2.1),.int .i64 (e.2.2)] 246]∧(i+k=l.length)) (l.length) ?_ ?_
 exact⟨0,rfl,rfl,rfl,hN,by omega⟩
 clear hN
 rintro k R0 cv ⟨i,cF,cb,cy,hN,fP⟩
 have cz:=k5 cF cb cy
 obtain⟨fV,rfl⟩:=cz
 clear cF cb cy
 iterate 2 refine RW.seq ?_
 replace hN:=hN.ext (Ext.drew cv)
 refine RW.bA (fun u=>aH w none_ u [.aJ g1 [.int .i64 (e.1),.int .i64 (e.2.1),.int .i64 (e.2.2)] 246]) 14 [(0,0),(1,0),(2,0),(3,0),(4,0),(5,0),(6,0),(7,0),(8,0),(9,0),(10,0),(11,0),(12,0),(13,0)] (by intro _ _ _ h;exact h) hN (RQ.an (v:=vJ i) rfl (fun w hS=>U) (RQ.an (v:=v) rfl (fun w hS=>U) ?_))
 have iH:=(hv.o.now hN).bw
 refine RQ.an rfl (fun w hS=>(bO ado (hv.o.now hS))) (RQ.an rfl (fun w hS=>(aK)) (RQ.an (v:=.bool (decide ((i:Int)<(l.length:Int)))) rfl (fun w hS=>U) ?_))
 by_cases cD:(i:Int)<(l.length:Int)
 rw[decide_eq_true cD]
 refine RQ.aR (v:=v) rfl (fun w hS=>U) (RQ.aR (v:=vJ i) rfl (fun w hS=>U) (RQ.aR rfl (fun w hS=>(aT ado om aW (hv.o.now hS))) ?_))
 have aO:=cQ (l) i
 obtain⟨ap,bV⟩:=aO
 refine RQ.aR rfl (fun w hS=>(bm (m:=i) (b:=0) aeh rfl bI aW (hv.o.now hS) bV)) (RQ.aR rfl (fun w hS=>(bB (m:=i) (j:=0) (a:=ap) acy aW (hv.o.now hS) bV)) (RQ.aR rfl (fun w hS=>(ah aeh rfl bI)) (RQ.aR rfl (fun w hS=>(aj acy (hS.aJ 0 rfl))) (RQ.aR rfl (fun w hS=>(aK)) (RQ.an (v:=.bool (decide (ap.1<e.1))) rfl (fun w hS=>(al)) (RQ.bq (aA ?_)))))))
 refine RW.aG _ (fun ZM=>?_) (fun ZM=>?_)
 refine RW.skip (aA (RW.block (RW.region (RL.ag (v:=vJ i) U (RL.ag (aD rfl rfl rfl (bg (by omega) (by omega))) (RL.ag (v:=.int .i64 ((i:Int)+1)) ai (RL.nil (ba (aA ?_)))))))))
 exact⟨k-1,by omega,i+1,rfl,rfl,rfl,hN,by omega⟩
 refine RW.exit ?_
 iterate 2 refine bP ?_
 refine aY (aA (RW.aN (RL.ag (v:=vN) ai (RL.bY (RL.ag (v:=vN) U ?_)))))
 refine RL.ag (v:=v) U (RL.ag (v:=vJ i) U (RL.ag (xi ado om (hv.o.now hN) rfl rfl (by omega) (by omega)) ?_))
 replace hN:=hN.ew bC 3 246
 refine RL.aL (cp ado jW rfl (by decide) eH aW hN 0 rfl rfl ((hv.o.now hN).rL aW (by omega)) rfl (by simp only[ac9,acS];omega) (by decide) ?_)
 clear hN
 intro v3 w3 (hN:aH w none_ w3 [_,_])
 replace hN:=hN.xK 0 rfl (show _=(l.take i)from aeG _)
 replace hN:aH w none_ w3 [_,_]:=hN
 refine RL.ag (v:=v3) ai (RL.bY (RL.ag (v:=v3) U (RL.ag (aE (cs:=[.int .i64 (e.1),.int .i64 (e.2.1),.int .i64 (e.2.2)]) aeh om (hN.aJ 1 rfl)) ?_)))
 refine RL.aL (dn (cf:=bC) (s:=3) (pl:=[(0,.tmp 29)]) (ps:=[(0,.agg #[.int .i64 (e.1),.int .i64 (e.2.1),.int .i64 (e.2.2)])]) (zc:=[.int .i64 (0),.int .i64 (0),.int .i64 (0)]) (l:=[(e.1,e.2.1,e.2.2)]) ado jW (by kernel_rfl) rfl rfl (aP (vs:=[.int .i64 (e.1),.int .i64 (e.2.1),.int .i64 (e.2.2)]) rfl rfl (acA rfl) rfl) aW rfl (by decide) (by decide) (by decide) hN ?_)
 clear hN
 intro g4 w4 (hN:aH w none_ w4 [_,_,_])
 refine RL.aL (cp ado jW rfl (by decide) eH aW hN 1 rfl rfl (hN.sm 0 rfl) rfl (by simp only[ac9,acK,acS];omega) (by decide) ?_)
 clear hN
 intro v5 w5 (hN:aH w none_ w5 [_,_,_])
 refine RL.ag (v:=v5) ai (RL.bY (RL.ag (v:=v5) U (RL.ag (v:=v) U (RL.ag (v:=vJ i) U (RL.ag (rK ado om (hv.o.now hN) rfl rfl (by omega) (by omega)) ?_)))))
 refine RL.aL (cp ado jW rfl (by decide) eH aW hN 1 rfl rfl ((hv.o.now hN).kX aW (by omega)) rfl (by simp only[acB,ac9,adj,acK,acS];omega) (by decide) ?_)
 clear hN
 intro v6 w6 (hN:aH w none_ w6 [_,_,_])
 refine RL.ag (v:=v6) ai (RL.ak (RW.ret (bc (RV.tmp rfl) ?_)))
 exact⟨i,by omega,hN.fL 1 rfl,hN.aX⟩
 rw[decide_eq_false cD]
 iterate 8 refine RQ.bU rfl ?_
 refine RQ.an (v:=.bool false) rfl (fun w hS=>(aB)) (RQ.bq (aA (RW.cj (RW.exit ?_))))
 iterate 2 refine bP ?_
 refine aY (aA (RW.aN (RL.ag (v:=vN) ai (RL.bY (RL.ag (v:=vN) U ?_)))))
 refine RL.ag (v:=v) U (RL.ag (v:=vJ i) U (RL.ag (xi ado om (hv.o.now hN) rfl rfl (by omega) (by omega)) ?_))
 replace hN:=hN.ew bC 3 246
 refine RL.aL (cp ado jW rfl (by decide) eH aW hN 0 rfl rfl ((hv.o.now hN).rL aW (by omega)) rfl (by simp only[ac9,acS];omega) (by decide) ?_)
 clear hN
 intro v7 w7 (hN:aH w none_ w7 [_,_])
 replace hN:=hN.xK 0 rfl (show _=(l.take i)from aeG _)
 replace hN:aH w none_ w7 [_,_]:=hN
 refine RL.ag (v:=v7) ai (RL.bY (RL.ag (v:=v7) U (RL.ag (aE (cs:=[.int .i64 (e.1),.int .i64 (e.2.1),.int .i64 (e.2.2)]) aeh om (hN.aJ 1 rfl)) ?_)))
 refine RL.aL (dn (cf:=bC) (s:=3) (pl:=[(0,.tmp 29)]) (ps:=[(0,.agg #[.int .i64 (e.1),.int .i64 (e.2.1),.int .i64 (e.2.2)])]) (zc:=[.int .i64 (0),.int .i64 (0),.int .i64 (0)]) (l:=[(e.1,e.2.1,e.2.2)]) ado jW (by kernel_rfl) rfl rfl (aP (vs:=[.int .i64 (e.1),.int .i64 (e.2.1),.int .i64 (e.2.2)]) rfl rfl (acA rfl) rfl) aW rfl (by decide) (by decide) (by decide) hN ?_)
 clear hN
 intro g8 w8 (hN:aH w none_ w8 [_,_,_])
 refine RL.aL (cp ado jW rfl (by decide) eH aW hN 1 rfl rfl (hN.sm 0 rfl) rfl (by simp only[ac9,acK,acS];omega) (by decide) ?_)
 clear hN
 intro v9 w9 (hN:aH w none_ w9 [_,_,_])
 refine RL.ag (v:=v9) ai (RL.bY (RL.ag (v:=v9) U (RL.ag (v:=v) U (RL.ag (v:=vJ i) U (RL.ag (rK ado om (hv.o.now hN) rfl rfl (by omega) (by omega)) ?_)))))
 refine RL.aL (cp ado jW rfl (by decide) eH aW hN 1 rfl rfl ((hv.o.now hN).kX aW (by omega)) rfl (by simp only[acB,ac9,adj,acK,acS];omega) (by decide) ?_)
 clear hN
 intro v10 lR (hN:aH w none_ lR [_,_,_])
 refine RL.ag (v:=v10) ai (RL.ak (RW.ret (bc (RV.tmp rfl) ?_)))
 exact⟨i,by omega,hN.fL 1 rfl,hN.aX⟩
theorem EF (n:Int) (v:Value) (l:List I3) (kv:Value) (ks:List Int) (x:Int) (w:World) (hv:Sm bC w v l) (hk:Sl vI w kv ks) (hlen:ks.length=l.length) (hl:l.length≤67108864):aM acD 182 #[.agg #[.int .i64 n,v,kv],.int .i64 x] w fun r w'=>∃out,fK bC 3 246 w' w.heap.size r out∧out.Perm (FV l ks x l.length)∧Ext w w':=by
 refine aM.aZ ajI ?_
 rw[cS]
 have hN:=aH.nil w none_
 refine RW.aN ?_
 refine RL.aL (bJ (cs:=[.int .i64 (n),v,kv]) rfl rfl hN ?_)
 clear hN
 intro g1 w1 (hN:aH w none_ w1 [_])
 refine RL.ag (v:=vN) ai (RL.bY (RL.ag (v:=vN) ai (RL.ak ?_)))
 iterate 2 refine RW.seq ?_
 replace hN:=hN.ew bC 3 246
 replace hN:aH w none_ w1 [.cd bC 3 246 (vN) ([]),.aJ g1 [.int .i64 (n),v,kv] 111]:=hN
 refine RW.region (RL.ag (v:=.int .i64 (0)) ai (RL.ak (RW.block ?_)))
 refine RW.loop (fun k R0 cv=>∃va:Value,∃acc:List I3,∃i:Nat,R0 1=.int .i64 (x)∧R0 2=vP g1∧R0 5=va∧R0 6=vJ i∧aH w none_ cv [.cd bC 3 246 (va) (acc),.aJ g1 [.int .i64 (n),v,kv] 111]∧(i+k=ks.length)∧(acc.Perm (FV l ks x i))∧(acc.length≤i)) (ks.length) ?_ ?_
 exact⟨vN,[],0,rfl,rfl,rfl,rfl,hN,by omega,.refl _,ac8 _⟩
 clear hN
 rintro k R0 cv ⟨va,acc,i,bN,bQ,cy,cV,hN,fP,ha,im⟩
 have cz:=iV bN bQ cy cV
 obtain⟨fV,rfl⟩:=cz
 clear bN bQ cy cV
 iterate 2 refine RW.seq ?_
 refine RW.region (RL.ag (v:=vJ i) U (RL.ag (ah adt rfl cc) (RL.ag (aj acz (hN.aJ 1 rfl)) ?_)))
 have iH:=(hk.o.now hN).bw
 refine RL.ag (aQ acz (hk.o.now hN)) (RL.ag (aK) (RL.ak ?_))
 refine RW.aG _ (fun cD=>?_) (fun cD=>?_)
 refine RW.skip (aA (RW.seq (RW.block (RW.seq ?_))))
 have aO:=cQ l i
 obtain⟨ap,bV⟩:=aO
 have aO:=cQ ks i
 obtain⟨s,hs⟩:=aO
 by_cases h1:s=1
 refine RW.region (RL.ag (ah adt rfl cc) (RL.ag (aj acz (hN.aJ 1 rfl)) (RL.ag (v:=vJ i) U (RL.ag (aC acz bI (hk.o.now hN)) (RL.ag (aF (m:=i) (a:=s) acy (hk.o.now hN) hs) (RL.ag (dB (ca) h1) (RL.ag (v:=.bool true) U (RL.aw (ah adt rfl dw) (RL.aw (ah acJ rfl eZ) ?_)))))))))
 refine RL.aw (aj acP (hN.aJ 1 rfl)) ?_
 by_cases h2:ap.1=x
 refine RL.aw (v:=vJ i) U (RL.aw (aT acP cY aW (hv.o.now hN)) (RL.aw (bm (m:=i) (b:=0) acT rfl bI aW (hv.o.now hN) bV) (RL.aw (bB (m:=i) (j:=0) (a:=ap) acy aW (hv.o.now hN) bV) (RL.aw (v:=.int .i64 (x)) U (RL.aw (dB (ca) h2) (RL.ag (v:=.bool true) (al) (RL.ak (RW.bD ?_))))))))
 replace hN:=hN.ext (Ext.drew cv)
 refine RW.bA (fun u=>aH w none_ u [.aJ g1 [.int .i64 (n),v,kv] 111]) 19 [(0,0),(1,0),(2,0),(3,0),(4,0),(5,0),(6,0),(7,0),(8,0),(9,0),(10,0),(11,0),(12,0),(13,0),(14,0),(15,0),(16,0),(17,1),(18,0)] (by intro _ _ _ h;exact h) (hN.sb [1]) (RQ.an (v:=va) rfl (fun w hS=>U) (RQ.an rfl (fun w hS=>(ah adt rfl dw)) (RQ.an rfl (fun w hS=>(ah acJ rfl eZ)) (RQ.an rfl (fun w hS=>(aj acP (hS.aJ 0 rfl))) (RQ.an (v:=vJ i) rfl (fun w hS=>U) (RQ.an rfl (fun w hS=>(aT acP cY aW (hv.o.now hS))) (RQ.an rfl (fun w hS=>(bm (m:=i) (b:=0) acT rfl bI aW (hv.o.now hS) bV)) (RQ.an rfl (fun w hS=>(bB (m:=i) (j:=1) (a:=ap) acy aW (hv.o.now hS) bV)) (RQ.an rfl (fun w hS=>(ah adt rfl dw)) ?_)))))))))
 refine RQ.an rfl (fun w hS=>(ah acJ rfl eZ)) (RQ.an rfl (fun w hS=>(aj acP (hS.aJ 0 rfl))) (RQ.an (v:=vJ i) rfl (fun w hS=>U) (RQ.an rfl (fun w hS=>(aT acP cY aW (hv.o.now hS))) (RQ.an rfl (fun w hS=>(bm (m:=i) (b:=0) acT rfl bI aW (hv.o.now hS) bV)) (RQ.an rfl (fun w hS=>(bB (m:=i) (j:=2) (a:=ap) acy aW (hv.o.now hS) bV)) (RQ.an (v:=vJ i) rfl (fun w hS=>U) (RQ.an rfl (fun w hS=>(bR (cs:=[.int .i64 (ap.2.1),.int .i64 (ap.2.2),vJ i]) aeh xu (places:=#[(0,1),(1,1),(2,1)]) (by intro w;kernel_rfl) (pl:=[(0,.tmp 38),(1,.tmp 45),(2,.tmp 46)]) rfl (ps:=[(0,.int .i64 (ap.2.1)),(1,.int .i64 (ap.2.2)),(2,vJ i)]) rfl (zc:=[.int .i64 (0),.int .i64 (0),.int .i64 (0)]) rfl (aP (vs:=[.int .i64 (ap.2.1)]) rfl rfl (acA rfl) (aP (vs:=[.int .i64 (ap.2.2)]) rfl rfl (acA rfl) (aP (vs:=[vJ i]) rfl rfl (acA rfl) rfl))))) ?_)))))))
 refine RQ.bW rfl (bu ajH rfl rfl rfl rfl ((B0 _ acc (ap.2.1,ap.2.2,(i:Int)) _ (hN.sm 0 rfl) (by omega)).mono ?_))
 rintro v4 w4 ⟨k4,X0,cL,bl⟩
 replace hN:aH w none_ w4 [_,_,_]:=hN.fw cL bl
 clear cL bl
 refine⟨(hN.sb [2]),?_⟩
 refine RQ.an (v:=v4) rfl (fun w hS=>ai) (RQ.bq (ba (aA (RW.region (RL.ag (v:=vJ i) U (RL.ag (aD rfl rfl rfl (bg (by omega) (by omega))) (RL.ag (v:=.int .i64 ((i:Int)+1)) ai (RL.ak ?_))))))))
 exact⟨k-1,by omega,v4,(acc.take k4++[(ap.2.1,ap.2.2,(i:Int))]++acc.drop k4),i+1,rfl,rfl,rfl,rfl,(hN.sb [0,2]),by omega,by rw[lA,show jB l ks x i=[(ap.2.1,ap.2.2,(i:Int))]from by unfold jB;rw[bV];exact if_pos ⟨by rw[hs,h1],h2⟩];exact(zQ _ _ _).trans (List.Perm.append_right _ ha),by rw[K7];omega⟩
 refine RL.aw (v:=vJ i) U (RL.aw (aT acP cY aW (hv.o.now hN)) (RL.aw (bm (m:=i) (b:=0) acT rfl bI aW (hv.o.now hN) bV) (RL.aw (bB (m:=i) (j:=0) (a:=ap) acy aW (hv.o.now hN) bV) (RL.aw (v:=.int .i64 (x)) U (RL.aw (cG (ca) h2) (RL.ag (v:=.bool false) (al) (RL.ak (RW.cj ?_))))))))
 refine RW.skip (ba (aA (RW.region (RL.ag (v:=vJ i) U (RL.ag (aD rfl rfl rfl (bg (by omega) (by omega))) (RL.ag (v:=.int .i64 ((i:Int)+1)) ai (RL.ak ?_)))))))
 exact⟨k-1,by omega,va,acc,i+1,rfl,rfl,rfl,rfl,hN,by omega,by rw[lA,show jB l ks x i=[]from by unfold jB;rw[bV];exact if_neg (fun h=>h2 h.2)];rw[adw];exact ha,by omega⟩
 refine RW.region (RL.ag (ah adt rfl cc) (RL.ag (aj acz (hN.aJ 1 rfl)) (RL.ag (v:=vJ i) U (RL.ag (aC acz bI (hk.o.now hN)) (RL.ag (aF (m:=i) (a:=s) acy (hk.o.now hN) hs) (RL.ag (cG (ca) h1) (RL.ag (v:=.bool false) U ?_)))))))
 iterate 9 refine RL.bH ?_
 refine RL.ag (v:=.bool false) (aB) (RL.ak (RW.cj (RW.skip (ba (aA (RW.region (RL.ag (v:=vJ i) U (RL.ag (aD rfl rfl rfl (bg (by omega) (by omega))) ?_))))))))
 refine RL.ag (v:=.int .i64 ((i:Int)+1)) ai (RL.ak ?_)
 exact⟨k-1,by omega,va,acc,i+1,rfl,rfl,rfl,rfl,hN,by omega,by rw[lA,show jB l ks x i=[]from by unfold jB;rw[bV];exact if_neg (fun h=>h1 (ac7 (hs.symm.trans h.1)))];rw[adw];exact ha,by omega⟩
 refine RW.exit ?_
 iterate 2 refine bP ?_
 refine aY (aA (RW.aN (RL.ag (v:=va) U (RL.ag (v:=va) ai (RL.ak (RW.ret (bc (RV.tmp rfl) ?_)))))))
 have ic:i=l.length:=by omega
 subst ic
 exact⟨acc,hN.fL 0 rfl,ha,hN.aX⟩
end Go.Proofs.YtngkdkbpgoddlaaGreat
namespace Go.Proofs.YtngkdkbpgoddlaaGreat
open Go.RowKit Go.Rl
open Go.Gr
theorem lZ (h:yW) (x:Int) (w:World):aM acD 131 #[.int .u64 (h.toNat:Int),.int .i64 x] w fun r w'=>r=.int .u64 ((k6 h x).toNat:Int)∧w=w':=by
 refine aM.aZ ags ?_
 rw[cS]
 have hN:=aH.nil w none_
 refine RW.aN (RL.ag (v:=.int .u64 (0)) ai (RL.bY (RL.ag (v:=.int .u64 (((h).toNat:Int))) U (RL.ag (v:=.int .i64 (x)) U (RL.ag (en acy adK rfl (GQ x)) ?_)))))
 refine RL.ag (aD rfl rfl rfl (Dr _ _)) (RL.ag (aD rfl rfl rfl (Mc _)) (RL.ag (v:=.int .u64 (((mixed h x).toNat:Int))) ai (RL.ak (RW.aN ?_))))
 iterate 2 refine RL.ag (v:=.int .u64 (((mixed h x).toNat:Int))) U ?_
 refine RL.ag (PB rfl rfl (by decide) (QM _)) (RL.ag (aD rfl rfl rfl (Dr _ _)) (RL.ag (v:=.int .u64 (((k6 h x).toNat:Int))) ai (RL.ak (RW.ret (bc (RV.tmp rfl) ?_)))))
 exact⟨rfl,rfl⟩
end Go.Proofs.YtngkdkbpgoddlaaGreat
namespace Go.Proofs.YtngkdkbpgoddlaaGreat
open Go.RowKit Go.Rl
open Go.Gr
theorem yA (n:Int) (v kv:Value) (l:List I3) (w:World) (hv:Sm bC w v l):aM acD 59 #[.agg #[.int .i64 n,v,kv]] w fun r w'=>r=.int .u64 ((jg n l).toNat:Int)∧Ext w w':=by
 refine aM.aZ Tryz.func59 ?_
 rw[cH]
 have hN:=aH.nil w none_
 refine RW.aN ?_
 refine RL.aL (bJ (cs:=[.int .i64 (n),v,kv]) rfl rfl hN ?_)
 clear hN
 intro g1 w1 (hN:aH w none_ w1 [_])
 refine RL.ag (v:=.int .u64 (0)) ai (RL.bY (RL.ag (ah adt rfl dw) (RL.ag (ah acJ rfl bI) (RL.ag (aj acy (hN.aJ 0 rfl)) ?_))))
 refine RL.aL (bu ags rfl rfl rfl rfl ((lZ (14695981039346656037#64) n _).mono ?_))
 rintro _ _ ⟨rfl,rfl⟩
 refine RL.ag (v:=.int .u64 (((k6 (14695981039346656037#64) n).toNat:Int))) ai (RL.ak ?_)
 iterate 2 refine RW.seq ?_
 refine RW.region (RL.ag (v:=.int .i64 (0)) ai (RL.ak (RW.block ?_)))
 refine RW.loop (fun k R0 cv=>∃h:yW,∃i:Nat,R0 1=vP g1∧R0 3=.int .u64 (((h).toNat:Int))∧R0 4=vJ i∧aH w none_ cv [.aJ g1 [.int .i64 (n),v,kv] 111]∧(i+k=l.length)∧(h=(l.take i).foldl ri (k6 (14695981039346656037#64) n))) (l.length) ?_ ?_
 exact⟨k6 (14695981039346656037#64) n,0,rfl,rfl,rfl,hN,by omega,rfl⟩
 clear hN
 rintro k R0 cv ⟨h,i,bN,cb,cu,hN,fP,hh⟩
 have cz:=k5 bN cb cu
 obtain⟨fV,rfl⟩:=cz
 clear bN cb cu
 iterate 2 refine RW.seq ?_
 refine RW.region (RL.ag (v:=vJ i) U (RL.ag (ah adt rfl dw) (RL.ag (ah acJ rfl eZ) (RL.ag (aj acP (hN.aJ 0 rfl)) ?_))))
 have kH:=(hv.o.now hN).bw
 refine RL.ag (bO acP (hv.o.now hN)) (RL.ag (aK) (RL.ak ?_))
 refine RW.aG _ (fun cD=>?_) (fun cD=>?_)
 refine RW.skip (aA (RW.seq (RW.block (RW.aN (RL.ag (ah adt rfl dw) (RL.ag (ah acJ rfl eZ) (RL.ag (aj acP (hN.aJ 0 rfl)) (RL.ag (v:=vJ i) U ?_))))))))
 refine RL.ag (aT acP cY aW (hv.o.now hN)) ?_
 have aO:=cQ (l) i
 obtain⟨ap,bV⟩:=aO
 refine RL.ag (b0 (m:=i) (a:=ap) acT cY aW (hv.o.now hN) bV (cs:=[.int .i64 (ap.1),.int .i64 (ap.2.1),.int .i64 (ap.2.2)])) ?_
 refine RL.aL (bz (cs:=[.int .i64 (0),.int .i64 (0),.int .i64 (0)]) fu rfl hN ?_)
 clear hN
 intro g4 w4 (hN:aH w none_ w4 [_,_])
 refine RL.aL (aS (vs:=[.int .i64 (ap.1),.int .i64 (ap.2.1),.int .i64 (ap.2.2)]) cY rfl rfl rfl (bh (bh (bh cZ))) hN 0 rfl rfl ?_)
 clear hN
 intro w5 (hN:aH w none_ w5 [_,_])
 refine RL.ak ?_
 replace hN:=hN.ext (Ext.drew w5)
 refine RW.bA (fun u=>aH w none_ u [.aJ g4 [.int .i64 (ap.1),.int .i64 (ap.2.1),.int .i64 (ap.2.2)] 100,.aJ g1 [.int .i64 (n),v,kv] 111]) 11 [(0,0),(1,0),(2,0),(4,0),(5,0),(7,0),(8,0),(3,1),(6,1),(9,1),(10,0)] (by intro _ _ _ h;exact h) hN (RQ.an (v:=.int .u64 (((h).toNat:Int))) rfl (fun w hS=>U) (RQ.an rfl (fun w hS=>(ah acT rfl bI)) (RQ.an rfl (fun w hS=>(aj acy (hS.aJ 0 rfl))) (RQ.an rfl (fun w hS=>(ah acT rfl bI)) (RQ.an rfl (fun w hS=>(aj acy (hS.aJ 0 rfl))) (RQ.an rfl (fun w hS=>(ah acT rfl bI)) (RQ.an rfl (fun w hS=>(aj acy (hS.aJ 0 rfl))) ?_)))))))
 refine RQ.bW rfl (bu ags rfl rfl rfl rfl ((lZ (h) ap.1 _).mono ?_))
 rintro _ _ ⟨rfl,rfl⟩
 refine⟨hN,?_⟩
 refine RQ.bW rfl (bu ags rfl rfl rfl rfl ((lZ (k6 (h) ap.1) ap.2.1 _).mono ?_))
 rintro _ _ ⟨rfl,rfl⟩
 refine⟨hN,?_⟩
 refine RQ.bW rfl (bu ags rfl rfl rfl rfl ((lZ (k6 (k6 (h) ap.1) ap.2.1) ap.2.2 _).mono ?_))
 rintro _ _ ⟨rfl,rfl⟩
 refine⟨hN,?_⟩
 refine RQ.an (v:=.int .u64 (((k6 (k6 (k6 (h) ap.1) ap.2.1) ap.2.2).toNat:Int))) rfl (fun w hS=>ai) (RQ.bq (ba (aA (RW.region (RL.ag (v:=vJ i) U (RL.ag (aD rfl rfl rfl (bg (by omega) (by omega))) (RL.ag (v:=.int .i64 ((i:Int)+1)) ai (RL.ak ?_))))))))
 exact⟨k-1,by omega,ri h ap,i+1,rfl,rfl,rfl,(hN.sb [1]),by omega,by rw[rl bV,hh]⟩
 refine RW.exit ?_
 iterate 2 refine bP ?_
 refine aY (aA (RW.aN (RL.ag (v:=.int .u64 (((h).toNat:Int))) U (RL.ag (v:=.int .u64 (((h).toNat:Int))) ai (RL.ak (RW.ret (bc (RV.tmp rfl) ?_)))))))
 rw[show i=l.length by omega,adm]at hh
 subst hh
 exact⟨rfl,hN.aX⟩
end Go.Proofs.YtngkdkbpgoddlaaGreat
namespace Go.Proofs.YtngkdkbpgoddlaaGreat
open Go.RowKit Go.Rl
open Go.Gr
theorem iI (k:Int) (gm:Nat) (n:Int) (mv:Value) (ar:List I3) (a:I3) (w:World) (hb:ij w gm [.int .i64 n,mv] 24) (hm:Sm bC w mv ar) (h0:0≤k) (ha:ar[k.toNat]?=some a):aM acD 145 #[.int .i64 k,vP gm] w fun r w'=>r=.int .i64 a.1∧Ext w w':=by
 refine aM.aZ aff ?_
 rw[cS]
 have hN:=aH.nil w none_
 have cD:=(acF.1 ha).1
 refine RW.aN (RL.ag (v:=.int .i64 (0)) ai (RL.bY (RL.ag (ah acJ rfl eZ) (RL.ag (aj acP (hb.ext hN.aX)) (RL.ag (v:=.int .i64 (k)) U ?_)))))
 refine RL.ag (aT acP cY aW (hm.o.now hN)) (RL.ag (bm (m:=(k).toNat) (b:=0) acT rfl bI aW (hm.o.now hN) ha) (RL.ag (bB (m:=(k).toNat) (j:=0) (a:=a) acy aW (hm.o.now hN) ha) (RL.ag (v:=.int .i64 (a.1)) ai (RL.ak (RW.ret (bc (RV.tmp rfl) ?_))))))
 exact⟨rfl,hN.aX⟩
theorem ki (k:Int) (gm:Nat) (n:Int) (mv:Value) (ar:List I3) (a:I3) (w:World) (hb:ij w gm [.int .i64 n,mv] 24) (hm:Sm bC w mv ar) (h0:0≤k) (ha:ar[k.toNat]?=some a):aM acD 146 #[.int .i64 k,vP gm] w fun r w'=>r=.int .i64 a.2.1∧Ext w w':=by
 refine aM.aZ afg ?_
 rw[cS]
 have hN:=aH.nil w none_
 have cD:=(acF.1 ha).1
 refine RW.aN (RL.ag (v:=.int .i64 (0)) ai (RL.bY (RL.ag (ah acJ rfl eZ) (RL.ag (aj acP (hb.ext hN.aX)) (RL.ag (v:=.int .i64 (k)) U ?_)))))
 refine RL.ag (aT acP cY aW (hm.o.now hN)) (RL.ag (bm (m:=(k).toNat) (b:=0) acT rfl bI aW (hm.o.now hN) ha) (RL.ag (bB (m:=(k).toNat) (j:=1) (a:=a) acy aW (hm.o.now hN) ha) (RL.ag (v:=.int .i64 (a.2.1)) ai (RL.ak (RW.ret (bc (RV.tmp rfl) ?_))))))
 exact⟨rfl,hN.aX⟩
theorem nk (n:Nat) (lv:Value) (l:List Int) (gm:Nat) (mv:Value) (ar:List I3) (w:World) (hl:Sl vI w lv l) (hb:ij w gm [.int .i64 (n:Int),mv] 24) (hm:Sm bC w mv ar) (ff:∀a∈ar,EJ n a) (hv:∀k∈l,0≤k∧k<(ar.length:Int)) (hn:n≤16777216) (Br:l.length≤67108864):aM acD 149 #[.int .i64 (n:Int),lv,.func (.func 145) #[] #[vP gm]] w fun r w'=>∃os,eB vI 3 w' w.heap.size r os∧Laid l (dK ar (·.1) l) os l.length∧Ext w w':=by
 refine aM.aZ afh ?_
 rw[iu]
 have hN:=aH.nil w none_
 have vO:=fC ar (·.1) l
 have CK:∀x∈(dK ar (·.1) l),0≤x:=n0 hv (fun a ha=>by obtain⟨h0,_,h2,_⟩:=ff a ha;first|exact h0|exact h2)
 refine RW.aN (RL.ag (v:=vN) ai (RL.bY (RL.ag (v:=vJ n) U (RL.ag (aD rfl rfl rfl ((bg (by omega) (by omega)).trans (by omega:(n:Int)+1=((n+1:Nat):Int)))) ?_))))
 refine RL.aL (iq (enc:=vI) (z:=0) acz fI rfl hN rfl (by omega) (by omega) (by omega) ?_)
 clear hN
 intro v1 w1 (hN:aH w none_ w1 [_])
 refine RL.ag (v:=v1) ai (RL.ak ?_)
 iterate 2 refine RW.seq ?_
 refine RW.region (RL.ag (v:=lv) U ?_)
 have iH:=(hl.o.now hN).bw
 refine RL.ag (aQ acz (hl.o.now hN)) (RL.ag (v:=.int .i64 (0)) U (RL.ak (RW.block ?_)))
 refine RW.loop (fun k R0 cv=>∃cs:List Int,∃i:Nat,R0 0=vJ n∧R0 1=lv∧R0 2=.func (.func 145) #[] #[vP gm]∧R0 7=v1∧R0 17=lv∧R0 18=.int .i64 ((l.length:Int))∧R0 19=vJ i∧aH w none_ cv [.own vI 3 (v1) (cs)]∧(i+k=l.length)∧(Cs n cs (f0 (dK ar (·.1) l) i))) (l.length) ?_ ?_
 exact⟨ac3 (n+1) 0,0,rfl,rfl,rfl,rfl,rfl,rfl,rfl,hN,by omega,p5⟩
 clear hN
 rintro k R0 cv ⟨cs,i,cF,bN,bQ,cC,eJ,fc,fz,hN,fP,oz⟩
 have cz:=BD cF bN bQ cC eJ fc fz
 obtain⟨fV,rfl⟩:=cz
 clear cF bN bQ cC eJ fc fz
 refine RW.aN (RL.ag (aK) (RL.ak (RW.seq ?_)))
 refine RW.aG _ (fun cD=>?_) (fun cD=>?_)
 refine RW.skip (aA (RW.seq (RW.block (RW.aN (RL.ag (aC acz bI (hl.o.now hN)) ?_)))))
 have aO:=cQ (l) i
 obtain⟨ap,bV⟩:=aO
 refine RL.ag (aF (m:=i) (a:=ap) acy (hl.o.now hN) bV) (RL.ag (v:=.int .i64 (ap)) ai (RL.ak ?_))
 have F6:=oz.len
 refine RW.region (RL.ag (v:=v1) U (RL.ag (v:=.func (.func 145) #[] #[vP gm]) U (RL.ag (v:=.int .i64 (ap)) U ?_)))
 have OH:0≤ap∧ap<(ar.length:Int):=hv ap (acC bV)
 have aO:=cQ ar ((ap).toNat)
 obtain⟨b4,Fg⟩:=aO
 have aO:=ff b4 (acC Fg)
 obtain⟨UW,UU,UT,US,UR,UQ⟩:=aO
 refine RL.aL (ct (first:=#[]) (captured:=#[vP gm]) (v0:=.int .i64 (ap)) (args:=#[.int .i64 (ap),vP gm]) aff rfl rfl (by simp) rfl rfl ((iI (ap) gm ((n:Int)) _ ar b4 _ (hb.ext hN.aX) (hm.o.now hN) OH.1 Fg).mono ?_))
 rintro _ w3 ⟨rfl,bl⟩
 replace hN:=hN.ext bl
 clear bl
 refine RL.ag (aD rfl rfl rfl (bg (by omega) (by omega))) (RL.ag (aC acz bI (hN.sl 0 rfl)) ?_)
 have aO:=cQ (cs) ((b4.1+1).toNat)
 obtain⟨ac,ja⟩:=aO
 refine RL.ag (aF (m:=(b4.1+1).toNat) (a:=ac) acy (hN.sl 0 rfl) ja) ?_
 have fx:=sL oz (iR bV Fg) (by omega) (by omega) ja
 obtain⟨qk,pM,fx⟩:=fx
 refine RL.ag (aD rfl rfl rfl (bg (by omega) (by omega))) (RL.ag (aC acz bI (hN.sl 0 rfl)) ?_)
 refine RL.aL (cm (m:=(b4.1+1).toNat) (a:=(ac+1)) bI hN 0 rfl rfl (by omega) rfl rfl rfl rfl ?_)
 clear hN
 intro w5 (hN:aH w none_ w5 [_])
 refine RL.nil (ba (aA (RW.region (RL.ag (aD rfl rfl rfl (bg (by omega) (by omega))) (RL.ag (v:=.int .i64 ((i:Int)+1)) U (RL.ak ?_))))))
 exact⟨k-1,by omega,(cs).set (b4.1+1).toNat ((ac+1)),i+1,rfl,rfl,rfl,rfl,rfl,rfl,rfl,hN,by omega,fx⟩
 refine RW.exit ?_
 iterate 2 refine bP ?_
 refine aY (aA ?_)
 iterate 2 refine RW.seq ?_
 refine RW.region (RL.ag (v:=vJ n) U (RL.ag (v:=.int .i64 (0)) U (RL.ak (RW.block ?_))))
 refine RW.loop (fun k1 R1 ez=>∃mV:List Int,∃v:Nat,R1 1=lv∧R1 2=.func (.func 145) #[] #[vP gm]∧R1 7=v1∧R1 33=vJ n∧R1 34=vJ v∧aH w none_ ez [.own vI 3 (v1) (mV)]∧(v+k1=n)∧(Cs n mV (f1 (dK ar (·.1) l) v))) (n) ?_ ?_
 exact⟨cs,0,rfl,rfl,rfl,rfl,rfl,hN,by omega,p4 (by rw[vO,←(show i=l.length by omega)];exact oz) CK⟩
 clear hN
 rintro k1 R1 ez ⟨mV,v,bN,bQ,cC,nE,nD,hN,Uw,nI⟩
 have cz:=hC bN bQ cC nE nD
 obtain⟨re,rfl⟩:=cz
 clear bN bQ cC nE nD
 refine RW.aN (RL.ag (aK) (RL.ak (RW.seq ?_)))
 refine RW.aG _ (fun pP=>?_) (fun pP=>?_)
 refine RW.skip (aA (RW.seq (RW.block (RW.aN (RL.ag (v:=vJ v) U (RL.ag (v:=vJ v) ai (RL.ak ?_)))))))
 have F6:=nI.len
 have aO:=cQ mV (v+1)
 obtain⟨ax,Jj⟩:=aO
 have aO:=cQ mV v
 obtain⟨ay,pY⟩:=aO
 have fx:=sK nI (by omega) Jj pY
 obtain⟨qk,pM,Up,Uo,fx⟩:=fx
 replace hN:=hN.ext (Ext.drew ez)
 refine RW.bA (fun u=>aH w none_ u [.own vI 3 (v1) (mV)]) 11 [(0,0),(1,0),(2,0),(3,0),(4,0),(5,0),(6,0),(7,0),(8,0),(9,0),(10,0),(11,2)] (by intro _ _ _ h;exact h) hN (RQ.an (v:=v1) rfl (fun w hS=>U) (RQ.an (v:=vJ v) rfl (fun w hS=>U) (RQ.an rfl (fun w hS=>(aD rfl rfl rfl ((bg (by omega) (by omega)).trans (by omega:(v:Int)+1=((v+1:Nat):Int))))) (RQ.an rfl (fun w hS=>(aC acz bI (hS.sl 0 rfl))) (RQ.an rfl (fun w hS=>(aF (m:=(v+1)) (a:=ax) acy (hS.sl 0 rfl) Jj)) (RQ.an (v:=v1) rfl (fun w hS=>U) (RQ.an (v:=vJ v) rfl (fun w hS=>U) (RQ.an rfl (fun w hS=>(aC acz bI (hS.sl 0 rfl))) (RQ.an rfl (fun w hS=>(aF (m:=v) (a:=ay) acy (hS.sl 0 rfl) pY)) ?_)))))))))
 refine RQ.an rfl (fun w hS=>(aD rfl rfl rfl (bg (by omega) (by omega)))) (RQ.an rfl (fun w hS=>(aC acz bI (hS.sl 0 rfl))) ?_)
 refine RQ.last rfl rfl (cm (m:=(v+1)) (a:=(ax+ay)) bI hN 0 rfl rfl (by omega) rfl rfl rfl rfl ?_)
 clear hN
 intro w8 (hN:aH w none_ w8 [_])
 refine RZ.dW (ba (aA (RW.region (RL.ag (aD rfl rfl rfl (bg (by omega) (by omega))) (RL.ag (v:=.int .i64 ((v:Int)+1)) U (RL.ak ?_))))))
 exact⟨k1-1,by omega,(mV).set (v+1) ((ax+ay)),v+1,rfl,rfl,rfl,rfl,rfl,hN,by omega,fx⟩
 refine RW.exit ?_
 iterate 2 refine bP ?_
 refine aY (aA (RW.aN (RL.ag (v:=lv) U (RL.ag (aQ acz (hl.o.now hN)) ?_))))
 refine RL.aL (iq (enc:=vI) (z:=0) acz fI rfl hN rfl (by omega) (by omega) (by omega) ?_)
 clear hN
 intro v9 w9 (hN:aH w none_ w9 [_,_])
 refine RL.ag (v:=v9) ai (RL.ak ?_)
 iterate 2 refine RW.seq ?_
 refine RW.region (RL.ag (v:=lv) U (RL.ag (aQ acz (hl.o.now hN)) (RL.ag (v:=.int .i64 (0)) U (RL.ak (RW.block ?_)))))
 refine RW.loop (fun k2 R2 gR=>∃FC:List Int,∃os:List Int,∃j:Nat,R2 2=.func (.func 145) #[] #[vP gm]∧R2 7=v1∧R2 11=v9∧R2 52=lv∧R2 53=.int .i64 ((l.length:Int))∧R2 54=vJ j∧aH w none_ gR [.own vI 3 (v9) (os),.own vI 3 (v1) (FC)]∧(j+k2=l.length)∧(Cs n FC (f2 (dK ar (·.1) l) j))∧(Laid l (dK ar (·.1) l) os j)) (l.length) ?_ ?_
 have I9:Cs n mV (f1 (dK ar (·.1) l) n):=by
   have e_:v=n:=by omega
   rw[e_]at nI;exact nI
 exact⟨mV,ac3 l.length 0,0,rfl,rfl,rfl,rfl,rfl,rfl,hN,by omega,AY I9,Laid.start⟩
 clear hN
 rintro k2 R2 gR ⟨FC,os,j,bQ,cC,eu,Ao,An,Am,hN,DM,Ja,CH⟩
 have cz:=oK bQ cC eu Ao An Am
 obtain⟨M9,rfl⟩:=cz
 clear bQ cC eu Ao An Am
 refine RW.aN (RL.ag (aK) (RL.ak (RW.seq ?_)))
 refine RW.aG _ (fun ep=>?_) (fun ep=>?_)
 refine RW.skip (aA (RW.seq (RW.block (RW.aN (RL.ag (aC acz bI (hl.o.now hN)) ?_)))))
 have aO:=cQ (l) j
 obtain⟨aq,ir⟩:=aO
 refine RL.ag (aF (m:=j) (a:=aq) acy (hl.o.now hN) ir) (RL.ag (v:=.int .i64 (aq)) ai (RL.ak (RW.seq ?_)))
 have F6:=Ja.len
 refine RW.region (RL.ag (v:=v9) U (RL.ag (v:=v1) U (RL.ag (v:=.func (.func 145) #[] #[vP gm]) U (RL.ag (v:=.int .i64 (aq)) U ?_))))
 have Ik:0≤aq∧aq<(ar.length:Int):=hv aq (acC ir)
 have aO:=cQ ar ((aq).toNat)
 obtain⟨zg,uF⟩:=aO
 have aO:=ff zg (acC uF)
 obtain⟨RO,RN,RM,RK,RJ,RI⟩:=aO
 refine RL.aL (ct (first:=#[]) (captured:=#[vP gm]) (v0:=.int .i64 (aq)) (args:=#[.int .i64 (aq),vP gm]) aff rfl rfl (by simp) rfl rfl ((iI (aq) gm ((n:Int)) _ ar zg _ (hb.ext hN.aX) (hm.o.now hN) Ik.1 uF).mono ?_))
 rintro _ lR ⟨rfl,bl⟩
 replace hN:=hN.ext bl
 clear bl
 refine RL.ag (aC acz bI (hN.sl 1 rfl)) ?_
 have aO:=cQ (FC) ((zg.1).toNat)
 obtain⟨ad,ze⟩:=aO
 refine RL.ag (aF (m:=(zg.1).toNat) (a:=ad) acy (hN.sl 1 rfl) ze) ?_
 have fx:=DX Ja (iR ir uF) (by omega) (by omega) ze
 obtain⟨qk,pM,Mm,fx⟩:=fx
 have CI:=CH.step vO ir (iR ir uF) Mm
 have U2:=CH.len
 refine RL.ag (v:=.int .i64 (aq)) U (RL.ag (aC acz bI (hN.sl 0 rfl)) ?_)
 refine RL.aL (cm (m:=(ad).toNat) (a:=aq) bI hN 0 rfl rfl (by omega) rfl rfl rfl rfl ?_)
 clear hN
 intro kI (hN:aH w none_ kI [_,_])
 refine RL.ak (RW.region (RL.ag (v:=v1) U (RL.ag (v:=.func (.func 145) #[] #[vP gm]) U (RL.ag (v:=.int .i64 (aq)) U ?_))))
 have Ij:0≤aq∧aq<(ar.length:Int):=hv aq (acC ir)
 have aO:=cQ ar ((aq).toNat)
 obtain⟨Da,CS⟩:=aO
 have aO:=ff Da (acC CS)
 obtain⟨RH,RG,RF,RD,RC,RB⟩:=aO
 refine RL.aL (ct (first:=#[]) (captured:=#[vP gm]) (v0:=.int .i64 (aq)) (args:=#[.int .i64 (aq),vP gm]) aff rfl rfl (by simp) rfl rfl ((iI (aq) gm ((n:Int)) _ ar Da _ (hb.ext hN.aX) (hm.o.now hN) Ij.1 CS).mono ?_))
 rintro _ lX ⟨rfl,bl⟩
 replace hN:=hN.ext bl
 clear bl
 have uD:Da=zg:=ac7 (CS.symm.trans uF)
 subst uD
 refine RL.ag (aC acz bI (hN.sl 1 rfl)) ?_
 have aO:=cQ (FC) ((Da.1).toNat)
 obtain⟨ae,SV⟩:=aO
 refine RL.ag (aF (m:=(Da.1).toNat) (a:=ae) acy (hN.sl 1 rfl) SV) ?_
 have O0:ae=ad:=ac7 (SV.symm.trans ze)
 rw[←O0]at fx
 refine RL.ag (aD rfl rfl rfl (bg (by omega) (by omega))) (RL.ag (aC acz bI (hN.sl 1 rfl)) ?_)
 refine RL.aL (cm (m:=(Da.1).toNat) (a:=(ae+1)) bI hN 1 rfl rfl (by omega) rfl rfl rfl rfl ?_)
 clear hN
 intro ph (hN:aH w none_ ph [_,_])
 refine RL.nil (ba (aA (RW.region (RL.ag (aD rfl rfl rfl (bg (by omega) (by omega))) (RL.ag (v:=.int .i64 ((j:Int)+1)) U (RL.ak ?_))))))
 exact⟨k2-1,by omega,(FC).set (Da.1).toNat ((ae+1)),(os).set (ad).toNat (aq),j+1,rfl,rfl,rfl,rfl,rfl,rfl,hN,by omega,fx,CI⟩
 refine RW.exit ?_
 iterate 2 refine bP ?_
 refine aY (aA (RW.aN (RL.ag (v:=v9) U (RL.ag (v:=v9) ai (RL.ak (RW.ret (bc (RV.tmp rfl) ?_)))))))
 have Lp:j=l.length:=by omega
 subst Lp
 exact⟨os,hN.ft 0 rfl,CH,hN.aX⟩
theorem qv (n:Nat) (lv:Value) (l:List Int) (gm:Nat) (mv:Value) (ar:List I3) (w:World) (hl:Sl vI w lv l) (hb:ij w gm [.int .i64 (n:Int),mv] 24) (hm:Sm bC w mv ar) (ff:∀a∈ar,EJ n a) (hv:∀k∈l,0≤k∧k<(ar.length:Int)) (hn:n≤16777216) (Br:l.length≤67108864):aM acD 149 #[.int .i64 (n:Int),lv,.func (.func 146) #[] #[vP gm]] w fun r w'=>∃os,eB vI 3 w' w.heap.size r os∧Laid l (dK ar (·.2.1) l) os l.length∧Ext w w':=by
 refine aM.aZ afh ?_
 rw[iu]
 have hN:=aH.nil w none_
 have vO:=fC ar (·.2.1) l
 have CK:∀x∈(dK ar (·.2.1) l),0≤x:=n0 hv (fun a ha=>by obtain⟨h0,_,h2,_⟩:=ff a ha;first|exact h0|exact h2)
 refine RW.aN (RL.ag (v:=vN) ai (RL.bY (RL.ag (v:=vJ n) U (RL.ag (aD rfl rfl rfl ((bg (by omega) (by omega)).trans (by omega:(n:Int)+1=((n+1:Nat):Int)))) ?_))))
 refine RL.aL (iq (enc:=vI) (z:=0) acz fI rfl hN rfl (by omega) (by omega) (by omega) ?_)
 clear hN
 intro v1 w1 (hN:aH w none_ w1 [_])
 refine RL.ag (v:=v1) ai (RL.ak ?_)
 iterate 2 refine RW.seq ?_
 refine RW.region (RL.ag (v:=lv) U ?_)
 have iH:=(hl.o.now hN).bw
 refine RL.ag (aQ acz (hl.o.now hN)) (RL.ag (v:=.int .i64 (0)) U (RL.ak (RW.block ?_)))
 refine RW.loop (fun k R0 cv=>∃cs:List Int,∃i:Nat,R0 0=vJ n∧R0 1=lv∧R0 2=.func (.func 146) #[] #[vP gm]∧R0 7=v1∧R0 17=lv∧R0 18=.int .i64 ((l.length:Int))∧R0 19=vJ i∧aH w none_ cv [.own vI 3 (v1) (cs)]∧(i+k=l.length)∧(Cs n cs (f0 (dK ar (·.2.1) l) i))) (l.length) ?_ ?_
 exact⟨ac3 (n+1) 0,0,rfl,rfl,rfl,rfl,rfl,rfl,rfl,hN,by omega,p5⟩
 clear hN
 rintro k R0 cv ⟨cs,i,cF,bN,bQ,cC,eJ,fc,fz,hN,fP,oz⟩
 have cz:=BD cF bN bQ cC eJ fc fz
 obtain⟨fV,rfl⟩:=cz
 clear cF bN bQ cC eJ fc fz
 refine RW.aN (RL.ag (aK) (RL.ak (RW.seq ?_)))
 refine RW.aG _ (fun cD=>?_) (fun cD=>?_)
 refine RW.skip (aA (RW.seq (RW.block (RW.aN (RL.ag (aC acz bI (hl.o.now hN)) ?_)))))
 have aO:=cQ (l) i
 obtain⟨ap,bV⟩:=aO
 refine RL.ag (aF (m:=i) (a:=ap) acy (hl.o.now hN) bV) (RL.ag (v:=.int .i64 (ap)) ai (RL.ak ?_))
 have F6:=oz.len
 refine RW.region (RL.ag (v:=v1) U (RL.ag (v:=.func (.func 146) #[] #[vP gm]) U (RL.ag (v:=.int .i64 (ap)) U ?_)))
 have OH:0≤ap∧ap<(ar.length:Int):=hv ap (acC bV)
 have aO:=cQ ar ((ap).toNat)
 obtain⟨b4,Fg⟩:=aO
 have aO:=ff b4 (acC Fg)
 obtain⟨UW,UU,UT,US,UR,UQ⟩:=aO
 refine RL.aL (ct (first:=#[]) (captured:=#[vP gm]) (v0:=.int .i64 (ap)) (args:=#[.int .i64 (ap),vP gm]) afg rfl rfl (by simp) rfl rfl ((ki (ap) gm ((n:Int)) _ ar b4 _ (hb.ext hN.aX) (hm.o.now hN) OH.1 Fg).mono ?_))
 rintro _ w3 ⟨rfl,bl⟩
 replace hN:=hN.ext bl
 clear bl
 refine RL.ag (aD rfl rfl rfl (bg (by omega) (by omega))) (RL.ag (aC acz bI (hN.sl 0 rfl)) ?_)
 have aO:=cQ (cs) ((b4.2.1+1).toNat)
 obtain⟨ac,ja⟩:=aO
 refine RL.ag (aF (m:=(b4.2.1+1).toNat) (a:=ac) acy (hN.sl 0 rfl) ja) ?_
 have fx:=sL oz (iR bV Fg) (by omega) (by omega) ja
 obtain⟨qk,pM,fx⟩:=fx
 refine RL.ag (aD rfl rfl rfl (bg (by omega) (by omega))) (RL.ag (aC acz bI (hN.sl 0 rfl)) ?_)
 refine RL.aL (cm (m:=(b4.2.1+1).toNat) (a:=(ac+1)) bI hN 0 rfl rfl (by omega) rfl rfl rfl rfl ?_)
 clear hN
 intro w5 (hN:aH w none_ w5 [_])
 refine RL.nil (ba (aA (RW.region (RL.ag (aD rfl rfl rfl (bg (by omega) (by omega))) (RL.ag (v:=.int .i64 ((i:Int)+1)) U (RL.ak ?_))))))
 exact⟨k-1,by omega,(cs).set (b4.2.1+1).toNat ((ac+1)),i+1,rfl,rfl,rfl,rfl,rfl,rfl,rfl,hN,by omega,fx⟩
 refine RW.exit ?_
 iterate 2 refine bP ?_
 refine aY (aA ?_)
 iterate 2 refine RW.seq ?_
 refine RW.region (RL.ag (v:=vJ n) U (RL.ag (v:=.int .i64 (0)) U (RL.ak (RW.block ?_))))
 refine RW.loop (fun k1 R1 ez=>∃mV:List Int,∃v:Nat,R1 1=lv∧R1 2=.func (.func 146) #[] #[vP gm]∧R1 7=v1∧R1 33=vJ n∧R1 34=vJ v∧aH w none_ ez [.own vI 3 (v1) (mV)]∧(v+k1=n)∧(Cs n mV (f1 (dK ar (·.2.1) l) v))) (n) ?_ ?_
 exact⟨cs,0,rfl,rfl,rfl,rfl,rfl,hN,by omega,p4 (by rw[vO,←(show i=l.length by omega)];exact oz) CK⟩
 clear hN
 rintro k1 R1 ez ⟨mV,v,bN,bQ,cC,nE,nD,hN,Uw,nI⟩
 have cz:=hC bN bQ cC nE nD
 obtain⟨re,rfl⟩:=cz
 clear bN bQ cC nE nD
 refine RW.aN (RL.ag (aK) (RL.ak (RW.seq ?_)))
 refine RW.aG _ (fun pP=>?_) (fun pP=>?_)
 refine RW.skip (aA (RW.seq (RW.block (RW.aN (RL.ag (v:=vJ v) U (RL.ag (v:=vJ v) ai (RL.ak ?_)))))))
 have F6:=nI.len
 have aO:=cQ mV (v+1)
 obtain⟨ax,Jj⟩:=aO
 have aO:=cQ mV v
 obtain⟨ay,pY⟩:=aO
 have fx:=sK nI (by omega) Jj pY
 obtain⟨qk,pM,Up,Uo,fx⟩:=fx
 replace hN:=hN.ext (Ext.drew ez)
 refine RW.bA (fun u=>aH w none_ u [.own vI 3 (v1) (mV)]) 11 [(0,0),(1,0),(2,0),(3,0),(4,0),(5,0),(6,0),(7,0),(8,0),(9,0),(10,0),(11,2)] (by intro _ _ _ h;exact h) hN (RQ.an (v:=v1) rfl (fun w hS=>U) (RQ.an (v:=vJ v) rfl (fun w hS=>U) (RQ.an rfl (fun w hS=>(aD rfl rfl rfl ((bg (by omega) (by omega)).trans (by omega:(v:Int)+1=((v+1:Nat):Int))))) (RQ.an rfl (fun w hS=>(aC acz bI (hS.sl 0 rfl))) (RQ.an rfl (fun w hS=>(aF (m:=(v+1)) (a:=ax) acy (hS.sl 0 rfl) Jj)) (RQ.an (v:=v1) rfl (fun w hS=>U) (RQ.an (v:=vJ v) rfl (fun w hS=>U) (RQ.an rfl (fun w hS=>(aC acz bI (hS.sl 0 rfl))) (RQ.an rfl (fun w hS=>(aF (m:=v) (a:=ay) acy (hS.sl 0 rfl) pY)) ?_)))))))))
 refine RQ.an rfl (fun w hS=>(aD rfl rfl rfl (bg (by omega) (by omega)))) (RQ.an rfl (fun w hS=>(aC acz bI (hS.sl 0 rfl))) ?_)
 refine RQ.last rfl rfl (cm (m:=(v+1)) (a:=(ax+ay)) bI hN 0 rfl rfl (by omega) rfl rfl rfl rfl ?_)
 clear hN
 intro w8 (hN:aH w none_ w8 [_])
 refine RZ.dW (ba (aA (RW.region (RL.ag (aD rfl rfl rfl (bg (by omega) (by omega))) (RL.ag (v:=.int .i64 ((v:Int)+1)) U (RL.ak ?_))))))
 exact⟨k1-1,by omega,(mV).set (v+1) ((ax+ay)),v+1,rfl,rfl,rfl,rfl,rfl,hN,by omega,fx⟩
 refine RW.exit ?_
 iterate 2 refine bP ?_
 refine aY (aA (RW.aN (RL.ag (v:=lv) U (RL.ag (aQ acz (hl.o.now hN)) ?_))))
 refine RL.aL (iq (enc:=vI) (z:=0) acz fI rfl hN rfl (by omega) (by omega) (by omega) ?_)
 clear hN
 intro v9 w9 (hN:aH w none_ w9 [_,_])
 refine RL.ag (v:=v9) ai (RL.ak ?_)
 iterate 2 refine RW.seq ?_
 refine RW.region (RL.ag (v:=lv) U (RL.ag (aQ acz (hl.o.now hN)) (RL.ag (v:=.int .i64 (0)) U (RL.ak (RW.block ?_)))))
 refine RW.loop (fun k2 R2 gR=>∃FC:List Int,∃os:List Int,∃j:Nat,R2 2=.func (.func 146) #[] #[vP gm]∧R2 7=v1∧R2 11=v9∧R2 52=lv∧R2 53=.int .i64 ((l.length:Int))∧R2 54=vJ j∧aH w none_ gR [.own vI 3 (v9) (os),.own vI 3 (v1) (FC)]∧(j+k2=l.length)∧(Cs n FC (f2 (dK ar (·.2.1) l) j))∧(Laid l (dK ar (·.2.1) l) os j)) (l.length) ?_ ?_
 have I9:Cs n mV (f1 (dK ar (·.2.1) l) n):=by
   have e_:v=n:=by omega
   rw[e_]at nI;exact nI
 exact⟨mV,ac3 l.length 0,0,rfl,rfl,rfl,rfl,rfl,rfl,hN,by omega,AY I9,Laid.start⟩
 clear hN
 rintro k2 R2 gR ⟨FC,os,j,bQ,cC,eu,Ao,An,Am,hN,DM,Ja,CH⟩
 have cz:=oK bQ cC eu Ao An Am
 obtain⟨M9,rfl⟩:=cz
 clear bQ cC eu Ao An Am
 refine RW.aN (RL.ag (aK) (RL.ak (RW.seq ?_)))
 refine RW.aG _ (fun ep=>?_) (fun ep=>?_)
 refine RW.skip (aA (RW.seq (RW.block (RW.aN (RL.ag (aC acz bI (hl.o.now hN)) ?_)))))
 have aO:=cQ (l) j
 obtain⟨aq,ir⟩:=aO
 refine RL.ag (aF (m:=j) (a:=aq) acy (hl.o.now hN) ir) (RL.ag (v:=.int .i64 (aq)) ai (RL.ak (RW.seq ?_)))
 have F6:=Ja.len
 refine RW.region (RL.ag (v:=v9) U (RL.ag (v:=v1) U (RL.ag (v:=.func (.func 146) #[] #[vP gm]) U (RL.ag (v:=.int .i64 (aq)) U ?_))))
 have Ik:0≤aq∧aq<(ar.length:Int):=hv aq (acC ir)
 have aO:=cQ ar ((aq).toNat)
 obtain⟨zg,uF⟩:=aO
 have aO:=ff zg (acC uF)
 obtain⟨RO,RN,RM,RK,RJ,RI⟩:=aO
 refine RL.aL (ct (first:=#[]) (captured:=#[vP gm]) (v0:=.int .i64 (aq)) (args:=#[.int .i64 (aq),vP gm]) afg rfl rfl (by simp) rfl rfl ((ki (aq) gm ((n:Int)) _ ar zg _ (hb.ext hN.aX) (hm.o.now hN) Ik.1 uF).mono ?_))
 rintro _ lR ⟨rfl,bl⟩
 replace hN:=hN.ext bl
 clear bl
 refine RL.ag (aC acz bI (hN.sl 1 rfl)) ?_
 have aO:=cQ (FC) ((zg.2.1).toNat)
 obtain⟨ad,ze⟩:=aO
 refine RL.ag (aF (m:=(zg.2.1).toNat) (a:=ad) acy (hN.sl 1 rfl) ze) ?_
 have fx:=DX Ja (iR ir uF) (by omega) (by omega) ze
 obtain⟨qk,pM,Mm,fx⟩:=fx
 have CI:=CH.step vO ir (iR ir uF) Mm
 have U2:=CH.len
 refine RL.ag (v:=.int .i64 (aq)) U (RL.ag (aC acz bI (hN.sl 0 rfl)) ?_)
 refine RL.aL (cm (m:=(ad).toNat) (a:=aq) bI hN 0 rfl rfl (by omega) rfl rfl rfl rfl ?_)
 clear hN
 intro kI (hN:aH w none_ kI [_,_])
 refine RL.ak (RW.region (RL.ag (v:=v1) U (RL.ag (v:=.func (.func 146) #[] #[vP gm]) U (RL.ag (v:=.int .i64 (aq)) U ?_))))
 have Ij:0≤aq∧aq<(ar.length:Int):=hv aq (acC ir)
 have aO:=cQ ar ((aq).toNat)
 obtain⟨Da,CS⟩:=aO
 have aO:=ff Da (acC CS)
 obtain⟨RH,RG,RF,RD,RC,RB⟩:=aO
 refine RL.aL (ct (first:=#[]) (captured:=#[vP gm]) (v0:=.int .i64 (aq)) (args:=#[.int .i64 (aq),vP gm]) afg rfl rfl (by simp) rfl rfl ((ki (aq) gm ((n:Int)) _ ar Da _ (hb.ext hN.aX) (hm.o.now hN) Ij.1 CS).mono ?_))
 rintro _ lX ⟨rfl,bl⟩
 replace hN:=hN.ext bl
 clear bl
 have uD:Da=zg:=ac7 (CS.symm.trans uF)
 subst uD
 refine RL.ag (aC acz bI (hN.sl 1 rfl)) ?_
 have aO:=cQ (FC) ((Da.2.1).toNat)
 obtain⟨ae,SV⟩:=aO
 refine RL.ag (aF (m:=(Da.2.1).toNat) (a:=ae) acy (hN.sl 1 rfl) SV) ?_
 have O0:ae=ad:=ac7 (SV.symm.trans ze)
 rw[←O0]at fx
 refine RL.ag (aD rfl rfl rfl (bg (by omega) (by omega))) (RL.ag (aC acz bI (hN.sl 1 rfl)) ?_)
 refine RL.aL (cm (m:=(Da.2.1).toNat) (a:=(ae+1)) bI hN 1 rfl rfl (by omega) rfl rfl rfl rfl ?_)
 clear hN
 intro ph (hN:aH w none_ ph [_,_])
 refine RL.nil (ba (aA (RW.region (RL.ag (aD rfl rfl rfl (bg (by omega) (by omega))) (RL.ag (v:=.int .i64 ((j:Int)+1)) U (RL.ak ?_))))))
 exact⟨k2-1,by omega,(FC).set (Da.2.1).toNat ((ae+1)),(os).set (ad).toNat (aq),j+1,rfl,rfl,rfl,rfl,rfl,rfl,hN,by omega,fx,CI⟩
 refine RW.exit ?_
 iterate 2 refine bP ?_
 refine aY (aA (RW.aN (RL.ag (v:=v9) U (RL.ag (v:=v9) ai (RL.ak (RW.ret (bc (RV.tmp rfl) ?_)))))))
 have Lp:j=l.length:=by omega
 subst Lp
 exact⟨os,hN.ft 0 rfl,CH,hN.aX⟩
end Go.Proofs.YtngkdkbpgoddlaaGreat
namespace Go.Proofs.YtngkdkbpgoddlaaGreat
open Go.RowKit Go.Rl
open Go.Gr
theorem Ac (i:Int) (a:I3) (w:World):aM acD 148 #[.int .i64 i,.agg #[.int .i64 a.1,.int .i64 a.2.1,.int .i64 a.2.2]] w fun r w'=>r=.bool (decide (¬a.1=a.2.1))∧Ext w w':=by
 refine aM.aZ ajJ ?_
 rw[cS]
 have hN:=aH.nil w none_
 refine RW.aN ?_
 refine RL.aL (bJ (cs:=[.int .i64 (a.1),.int .i64 (a.2.1),.int .i64 (a.2.2)]) rfl rfl hN ?_)
 clear hN
 intro g1 w1 (hN:aH w none_ w1 [_])
 refine RL.ag (v:=.bool false) ai (RL.bY (RL.ag (ah acT rfl bI) (RL.ag (aj acy (hN.aJ 0 rfl)) (RL.ag (ah acT rfl bI) (RL.ag (aj acy (hN.aJ 0 rfl)) (RL.ag (bj) ?_))))))
 refine RL.ag (v:=.bool (decide (¬a.1=a.2.1))) ai (RL.ak (RW.ret (bc (RV.tmp rfl) ?_)))
 exact⟨rfl,hN.aX⟩
theorem Cr (i:Int) (b:Bool) (w:World):aM acD 192 #[.int .i64 i,.bool (decide (b=true))] w fun r w'=>r=.bool (decide (b=true))∧Ext w w':=by
 refine aM.aZ ajK ?_
 rw[cS]
 have hN:=aH.nil w none_
 refine RW.aN (RL.ag (v:=.bool false) ai (RL.bY (RL.ag (v:=.bool (decide (b=true))) U (RL.ag (v:=.bool (decide (b=true))) ai (RL.nil ?_)))))
 refine aA (RW.ret (bc (RV.tmp rfl) ?_))
 exact⟨rfl,hN.aX⟩
theorem x8 (v:Value) (ar:List I3) (w:World) (hv:Sm bC w v ar):aM acD 147 #[v,.func (.func 148) #[] #[]] w fun r w'=>∃gp gq,r=.func (.func 190) #[] #[vP gp,vP gq]∧aH w none_ w' [.aJ gp [v] 22,.aJ gq [.func (.func 148) #[] #[]] 215]:=by
 refine aM.aZ ajL ?_
 rw[cS]
 have hN:=aH.nil w none_
 refine RW.aN ?_
 refine RL.aL (bJ (cs:=[v]) rfl (hv.o.now hN).cK hN ?_)
 clear hN
 intro g1 w1 (hN:aH w none_ w1 [_])
 refine RL.aL (bJ (cs:=[.func (.func 148) #[] #[]]) rfl rfl hN ?_)
 clear hN
 intro g2 w2 (hN:aH w none_ w2 [_,_])
 refine RL.ag ai (RL.bY (RL.ag (dM (vs:=[vP g1,vP g2]) (xs:=[.tmp 2,.tmp 3]) rfl rfl) (RL.ag (v:=.func (.func 190) #[] #[vP g1,vP g2]) ai (RL.ak (RW.ret ?_)))))
 refine bc (RV.tmp rfl) ?_
 exact⟨_,_,rfl,hN.sb [1,0]⟩
theorem vG (ar:List I3) {σ:Type} (l:Nat) (C:Bool→σ→Atom) (T:σ→Int→Bool→σ→Prop) (s0:σ) {F:Nat→Prop} (w:World) (hT:∀s x b s',T s x b s'→b=true) (hY:oD acD l C T id s0 (fb (ny ar) 0 ar.length) TX LQ) (gp gq:Nat) (v:Value) (hN:aH w F w [C true s0,.aJ gp [v] 22,.aJ gq [.func (.func 148) #[] #[]] 215]) (hv:mz F bC w v ar) (im:ar.length≤67108864):aM acD 190 #[.func (.yield l) #[] #[],vP gp,vP gq] w fun _ w'=>∃s',vc T id s0 (fb (ny ar) 0 ar.length) s'∧aH w F w' [C true s']:=by
 refine aM.k7 ajM rfl (acA rfl) ?_
 rw[iu]
 refine XW.seq (XW.bK (RL.ag (aj acP (hN.aJ 1 rfl)) ?_))
 have nJ:=(hv.now hN).bw
 refine RL.ag (bO acP (hv.now hN)) (RL.ag (v:=.int .i64 (0)) U (RL.nil (cg (bS (XW.block ?_)))))
 refine XW.loop (fun k R0 cv=>∃si:σ,∃i:Nat,R0 0=.func (.yield l) #[] #[]∧R0 2=vP gq∧R0 6=v∧R0 7=.int .i64 ((ar.length:Int))∧R0 8=vJ i∧aH w F cv [C true si,.aJ gp [v] 22,.aJ gq [.func (.func 148) #[] #[]] 215]∧(i+k=ar.length)∧(eW T id s0 (fb (ny ar) 0 ar.length) si (fb (ny ar) i k))) (ar.length) ?_ ?_
 exact⟨s0,0,rfl,rfl,rfl,rfl,rfl,hN,by omega,eW.start⟩
 clear hN
 rintro k R0 cv ⟨si,i,cF,bQ,cV,cC,cM,hN,fP,hg⟩
 have cz:=hC cF bQ cV cC cM
 obtain⟨fV,rfl⟩:=cz
 clear cF bQ cV cC cM
 refine XW.seq (XW.bK (RL.ag (aK) (RL.nil (cg (bS (XW.seq ?_))))))
 refine XW.mK _ rfl (fun cD=>?_) (fun cD=>?_)
 refine XW.skip (bS (XW.seq (XW.block (XW.seq (XW.bK (RL.ag (v:=vJ i) U (RL.ag (aT acP cY aW (hv.now hN)) ?_)))))))
 have aO:=cQ (ar) i
 obtain⟨ap,bV⟩:=aO
 refine RL.ag (b0 (m:=i) (a:=ap) acT cY aW (hv.now hN) bV (cs:=[.int .i64 (ap.1),.int .i64 (ap.2.1),.int .i64 (ap.2.2)])) ?_
 refine RL.aL (bz (cs:=[.int .i64 (0),.int .i64 (0),.int .i64 (0)]) fu rfl hN ?_)
 clear hN
 intro g2 w2 (hN:aH w F w2 [_,_,_,_])
 refine RL.ag (v:=vJ i) ai ?_
 refine RL.aL (aS (vs:=[.int .i64 (ap.1),.int .i64 (ap.2.1),.int .i64 (ap.2.2)]) cY rfl rfl rfl (bh (bh (bh cZ))) hN 0 rfl rfl ?_)
 clear hN
 intro w3 (hN:aH w F w3 [_,_,_,_])
 refine RL.nil (cg (bS (XW.seq (XW.sE (XL.eP (aj Tryz.underlying215 (hN.aJ 3 rfl)) (XL.eP (v:=vJ i) U (XL.eP (aE (cs:=[.int .i64 (ap.1),.int .i64 (ap.2.1),.int .i64 (ap.2.2)]) acT cY (hN.aJ 0 rfl)) ?_)))))))
 refine XL.op rfl rfl (lV.of rfl (wN (first:=#[]) (captured:=#[]) (v0:=vJ i) (v1:=.agg #[.int .i64 (ap.1),.int .i64 (ap.2.1),.int .i64 (ap.2.2)]) (args:=#[vJ i,.agg #[.int .i64 (ap.1),.int .i64 (ap.2.1),.int .i64 (ap.2.2)]]) ajJ rfl rfl (by simp) rfl rfl rfl ((Ac ((i:Int)) ap _).mono ?_)))
 rintro _ w4 ⟨rfl,bl⟩
 replace hN:=hN.ext bl
 clear bl
 refine XL.eP (v:=.bool (decide (¬ap.1=ap.2.1))) U ?_
 by_cases hq:¬ap.1=ap.2.1
 rw[decide_eq_true hq]
 refine XL.dA (v:=.func (.yield l) #[] #[]) U (XL.dA (v:=vJ i) U ?_)
 replace hg:=hg.as (wH (by omega) (Lc bV hq))
 refine XL.jx (dg rfl rfl ((eW.yield hT hY (i:Int) hg (hN.de (M:=[_]) [1] (by decide) rfl) trivial).mono ?_))
 rintro _ w5 ⟨s5,rfl,gP,cE⟩
 replace hg:=gP
 clear gP
 replace hN:aH w F w5 [_,_,_,_]:=aH.dd (M:=[_]) (N:=[_,_,_]) (hN.sb [1,0,2,3]) cE
 clear cE
 refine XL.dA (jY rfl) (XL.eP (v:=.bool false) (al) (XL.nil (bS (XW.oA rfl (XW.skip (eX (bS (XW.bK (RL.ag (aD rfl rfl rfl (bg (by omega) (by omega))) ?_)))))))))
 refine RL.ag (v:=.int .i64 ((i:Int)+1)) U (RL.nil (cg (bS ?_)))
 exact⟨rfl,k-1,by omega,s5,i+1,rfl,rfl,rfl,rfl,rfl,(hN.sb [0,2,3]),by omega,hg⟩
 rw[decide_eq_false hq]
 iterate 4 refine XL.off rfl rfl (by decide) rfl rfl ?_
 refine XL.eP (v:=.bool false) (aB) (XL.nil (bS (XW.oA rfl (XW.skip (eX (bS (XW.bK (RL.ag (aD rfl rfl rfl (bg (by omega) (by omega))) (RL.ag (v:=.int .i64 ((i:Int)+1)) U ?_)))))))))
 refine RL.nil (cg (bS ?_))
 replace hg:=hg.as (wI (by omega) (Ld bV hq))
 exact⟨rfl,k-1,by omega,si,i+1,rfl,rfl,rfl,rfl,rfl,(hN.sb [1,2,3]),by omega,hg⟩
 refine XW.exit ?_
 iterate 2 refine na ?_
 refine iK (wi (RV.zero rfl) ?_)
 have TJ:k=0:=by omega
 subst TJ
 exact⟨_,hg.done,hN.sb [0]⟩
theorem z7 (ar:List I3) (gp gq:Nat) (v:Value) (im:ar.length≤67108864):u2 acD 190 #[vP gp,vP gq] [.aJ gp [v] 22,.aJ gq [.func (.func 148) #[] #[]] 215] (fun F w=>mz F bC w v ar) id LQ TX (fb (ny ar) 0 ar.length):=by
  intro σ l C T s0 w0 w F hT hY F5 hN
  have h1:=hN.de (M:=[_,_,_]) [0,1,2] (by decide) rfl
  refine(vG ar l C T s0 w hT hY gp gq v h1 (mz.step oS F5 hN) im).mono ?_
  rintro _ w' ⟨s',hr,h2⟩
  exact⟨s',hr,aH.dd (M:=[_,_,_]) (N:=[]) hN h2⟩
theorem vF (v:Value) (ar:List Bool) (w:World) (hv:Sl vB w v ar):aM acD 191 #[v,.func (.func 192) #[] #[]] w fun r w'=>∃gp gq,r=.func (.func 209) #[] #[vP gp,vP gq]∧aH w none_ w' [.aJ gp [v] 206,.aJ gq [.func (.func 192) #[] #[]] 256]:=by
 refine aM.aZ ajN ?_
 rw[cS]
 have hN:=aH.nil w none_
 refine RW.aN ?_
 refine RL.aL (bJ (cs:=[v]) rfl (hv.o.now hN).cK hN ?_)
 clear hN
 intro g1 w1 (hN:aH w none_ w1 [_])
 refine RL.aL (bJ (cs:=[.func (.func 192) #[] #[]]) rfl rfl hN ?_)
 clear hN
 intro g2 w2 (hN:aH w none_ w2 [_,_])
 refine RL.ag ai (RL.bY (RL.ag (dM (vs:=[vP g1,vP g2]) (xs:=[.tmp 2,.tmp 3]) rfl rfl) (RL.ag (v:=.func (.func 209) #[] #[vP g1,vP g2]) ai (RL.ak (RW.ret ?_)))))
 refine bc (RV.tmp rfl) ?_
 exact⟨_,_,rfl,hN.sb [1,0]⟩
theorem tM (ar:List Bool) {σ:Type} (l:Nat) (C:Bool→σ→Atom) (T:σ→Int→Bool→σ→Prop) (s0:σ) {F:Nat→Prop} (w:World) (hT:∀s x b s',T s x b s'→b=true) (hY:oD acD l C T id s0 (fb (oa ar) 0 ar.length) TX LQ) (gp gq:Nat) (v:Value) (hN:aH w F w [C true s0,.aJ gp [v] 206,.aJ gq [.func (.func 192) #[] #[]] 256]) (hv:nR F vB w v ar) (im:ar.length≤67108864):aM acD 209 #[.func (.yield l) #[] #[],vP gp,vP gq] w fun _ w'=>∃s',vc T id s0 (fb (oa ar) 0 ar.length) s'∧aH w F w' [C true s']:=by
 refine aM.k7 ajO rfl (acA rfl) ?_
 rw[iu]
 refine XW.seq (XW.bK (RL.ag (aj adR (hN.aJ 1 rfl)) ?_))
 have nJ:=(hv.now hN).bw
 refine RL.ag (aQ adR (hv.now hN)) (RL.ag (v:=.int .i64 (0)) U (RL.nil (cg (bS (XW.block ?_)))))
 refine XW.loop (fun k R0 cv=>∃si:σ,∃i:Nat,R0 0=.func (.yield l) #[] #[]∧R0 2=vP gq∧R0 6=v∧R0 7=.int .i64 ((ar.length:Int))∧R0 8=vJ i∧aH w F cv [C true si,.aJ gp [v] 206,.aJ gq [.func (.func 192) #[] #[]] 256]∧(i+k=ar.length)∧(eW T id s0 (fb (oa ar) 0 ar.length) si (fb (oa ar) i k))) (ar.length) ?_ ?_
 exact⟨s0,0,rfl,rfl,rfl,rfl,rfl,hN,by omega,eW.start⟩
 clear hN
 rintro k R0 cv ⟨si,i,cF,bQ,cV,cC,cM,hN,fP,hg⟩
 have cz:=hC cF bQ cV cC cM
 obtain⟨fV,rfl⟩:=cz
 clear cF bQ cV cC cM
 refine XW.seq (XW.bK (RL.ag (aK) (RL.nil (cg (bS (XW.seq ?_))))))
 refine XW.mK _ rfl (fun cD=>?_) (fun cD=>?_)
 refine XW.skip (bS (XW.seq (XW.block (XW.seq (XW.bK (RL.ag (v:=vJ i) U (RL.ag (aC adR oM (hv.now hN)) ?_)))))))
 have aO:=cQ (ar) i
 obtain⟨ap,bV⟩:=aO
 refine RL.ag (aF (m:=i) (a:=ap) aeJ (hv.now hN) bV) (RL.ag (v:=vJ i) ai (RL.ag (v:=.bool (decide (ap=true))) ai (RL.nil (cg (bS (XW.seq (XW.sE (XL.eP (aj Tryz.underlying256 (hN.aJ 2 rfl)) (XL.eP (v:=vJ i) U ?_)))))))))
 refine XL.eP (v:=.bool (decide (ap=true))) U ?_
 refine XL.op rfl rfl (lV.of rfl (wN (first:=#[]) (captured:=#[]) (v0:=vJ i) (v1:=.bool (decide (ap=true))) (args:=#[vJ i,.bool (decide (ap=true))]) ajK rfl rfl (by simp) rfl rfl rfl ((Cr ((i:Int)) ap _).mono ?_)))
 rintro _ w2 ⟨rfl,bl⟩
 replace hN:=hN.ext bl
 clear bl
 refine XL.eP (v:=.bool (decide (ap=true))) U ?_
 by_cases hq:ap=true
 rw[decide_eq_true hq]
 refine XL.dA (v:=.func (.yield l) #[] #[]) U (XL.dA (v:=vJ i) U ?_)
 replace hg:=hg.as (wH (by omega) (N1 bV hq))
 refine XL.jx (dg rfl rfl ((eW.yield hT hY (i:Int) hg (hN.de (M:=[_]) [0] (by decide) rfl) trivial).mono ?_))
 rintro _ w3 ⟨s3,rfl,gP,cE⟩
 replace hg:=gP
 clear gP
 replace hN:aH w F w3 [_,_,_]:=aH.dd (M:=[_]) (N:=[_,_]) (hN.sb [0,1,2]) cE
 clear cE
 refine XL.dA (jY rfl) (XL.eP (v:=.bool false) (al) (XL.nil (bS (XW.oA rfl (XW.skip (eX (bS (XW.bK (RL.ag (aD rfl rfl rfl (bg (by omega) (by omega))) ?_)))))))))
 refine RL.ag (v:=.int .i64 ((i:Int)+1)) U (RL.nil (cg (bS ?_)))
 exact⟨rfl,k-1,by omega,s3,i+1,rfl,rfl,rfl,rfl,rfl,hN,by omega,hg⟩
 rw[decide_eq_false hq]
 iterate 4 refine XL.off rfl rfl (by decide) rfl rfl ?_
 refine XL.eP (v:=.bool false) (aB) (XL.nil (bS (XW.oA rfl (XW.skip (eX (bS (XW.bK (RL.ag (aD rfl rfl rfl (bg (by omega) (by omega))) (RL.ag (v:=.int .i64 ((i:Int)+1)) U ?_)))))))))
 refine RL.nil (cg (bS ?_))
 replace hg:=hg.as (wI (by omega) (N2 bV hq))
 exact⟨rfl,k-1,by omega,si,i+1,rfl,rfl,rfl,rfl,rfl,hN,by omega,hg⟩
 refine XW.exit ?_
 iterate 2 refine na ?_
 refine iK (wi (RV.zero rfl) ?_)
 have TJ:k=0:=by omega
 subst TJ
 exact⟨_,hg.done,hN.sb [0]⟩
theorem x7 (ar:List Bool) (gp gq:Nat) (v:Value) (im:ar.length≤67108864):u2 acD 209 #[vP gp,vP gq] [.aJ gp [v] 206,.aJ gq [.func (.func 192) #[] #[]] 256] (fun F w=>nR F vB w v ar) id LQ TX (fb (oa ar) 0 ar.length):=by
  intro σ l C T s0 w0 w F hT hY F5 hN
  have h1:=hN.de (M:=[_,_,_]) [0,1,2] (by decide) rfl
  refine(tM ar l C T s0 w hT hY gp gq v h1 (F5.step hN) im).mono ?_
  rintro _ w' ⟨s',hr,h2⟩
  exact⟨s',hr,aH.dd (M:=[_,_,_]) (N:=[]) hN h2⟩
end Go.Proofs.YtngkdkbpgoddlaaGreat
namespace Go.Proofs.YtngkdkbpgoddlaaGreat
open Go.RowKit Go.Rl
open Go.Gr
theorem Aa (g:Nat) (c0 c1 c2 c3 c4 c5 kv:Value) (bs:List Bool) (w:World) (hb:ij w g [c0,c1,c2,c3,c4,c5,kv] 211) (hk:Sl vB w kv bs) (hl:bs.length≤67108864):aM acD 151 #[vP g] w fun r w'=>eB vI 3 w' w.heap.size r (fb (oa bs) 0 bs.length)∧Ext w w':=by
 refine aM.k7 ajP rfl (acA rfl) ?_
 rw[cH]
 have hN:=aH.nil w none_
 refine XW.seq (XW.bK (RL.ag (v:=vN) ai (RL.nil (cg (bS (XW.seq (XW.bK ?_)))))))
 refine RL.aL (bz (cs:=[vN]) Gd rfl hN ?_)
 clear hN
 intro g1 w1 (hN:aH w none_ w1 [_])
 refine RL.nil (cg (bS ?_))
 iterate 2 refine XW.seq ?_
 refine XW.bK (RL.ag (v:=vP g) U (RL.ag (cG (jP agN rfl rfl) (by simp)) (RL.nil (cg (bS (XW.oA rfl (XW.skip (bS ?_))))))))
 iterate 2 refine XW.seq ?_
 replace hN:=hN.dy vI 3
 replace hN:aH w none_ w1 [.own vI 3 (vN) ([]),.aJ g1 [vN] 25]:=hN
 refine XW.bK (RL.ag (v:=vP g) U (RL.ag (bM) (RL.ag (ah ad6 rfl wA) (RL.ag (aj adR (hb.ext hN.aX)) ?_))))
 refine RL.aL (bu ajN rfl rfl rfl rfl ((vF _ bs _ (hk.o.now hN)).mono ?_))
 rintro _ w2 ⟨YK,YJ,rfl,cE⟩
 replace hN:aH w none_ w2 [_,_,_,_]:=hN.fG cE
 clear cE
 refine RL.nil (cg (bS (XW.block ?_)))
 refine XW.BZ (gf:=209) (lb:=#[vP YK,vP YJ]) (M:=[_,_]) (fun s:Value×List Int=>[.aJ g1 [s.1] 25,.own vI 3 s.1 s.2]) (Bo Int) (vN,[]) (hN.sb [3,2,0,1]) rfl ajO rfl rfl (x7 bs YK YJ _ (by omega)) Bo.on hk.o (fun _=>rfl) (by decide) ?_ ?_
 clear hN
 rintro l_ D_ Mf FF ⟨v_,a_⟩ x_ QT Mg wr fy Lh Qj hN
 change XW _ _ _ _ _ _ (dm _ 12 (.int .i64 (x_))) _
 replace hN:aH wr FF wr [.obj l_ (.loop (Mf .ready none)),.obj D_ (.deferred (some [])),.aJ g1 [v_] 25,.own vI 3 (v_) (a_)]:=hN
 have Pc:a_.length<((fb (oa bs) 0 bs.length)).length:=D5 fy rfl Lh
 have Uq:=nV (oa bs) bs.length 0
 refine XW.bK (RL.ag (v:=.int .i64 (x_)) ai (RL.nil (cg (uZ ?_))))
 clear hN
 intro w3 (hN:aH wr FF w3 [.obj l_ (.loop (Mf .busy none)),.obj D_ (.deferred (some [])),.aJ g1 [v_] 25,.own vI 3 (v_) (a_)])
 refine XW.block (XW.bK (RL.ag (aj acz (hN.aJ 2 rfl)) (RL.ag (v:=.int .i64 (x_)) U ?_)))
 refine RL.aL (cx (enc:=vI) (l:=[x_]) (xs:=[.tmp 14]) acz bI mN rfl rfl (fun _=>rfl) rfl (by decide) (by decide) hN ?_)
 clear hN
 intro g4 w4 (hN:aH wr FF w4 [_,_,_,_,_])
 refine RL.aL (b9 acz fI rfl (fun _=>rfl) hN 4 rfl rfl (hN.sl 0 rfl) rfl (by(try simp only[acB,ac9,adj,acS,acK,acH,adb,acB,ada]);omega) (by decide) ?_)
 clear hN
 intro v5 w5 (hN:aH wr FF w5 [_,_,_,_,_])
 refine RL.aL (b7 cc rfl rfl (hN.sl 4 rfl).cK (hN.sl 4 rfl).bT hN 3 rfl (acA rfl) ?_)
 clear hN
 intro w6 (hN:aH wr FF w6 [_,_,_,_,_])
 refine RL.nil (cg (eX ?_))
 exact xI ⟨v5,a_++[x_]⟩ ⟨rfl,rfl⟩ (hN.sb [1,2,3,4])
 clear hN
 rintro l_ D_ o_ ⟨v_,a_⟩ w7 fy hN
 replace hN:aH w none_ w7 [.obj l_ o_,.obj D_ (.deferred (some [])),.aJ g1 [v_] 25,.own vI 3 (v_) (a_)]:=hN
 have Qq:a_=(fb (oa bs) 0 bs.length):=yR fy
 refine eX (bS (XW.seq (XW.bK (RL.ag (aj acz (hN.aJ 2 rfl)) (RL.ag (v:=v_) ai (RL.nil (cg (bS (XW.ret ?_)))))))))
 refine Ge hN (.inl rfl) 1 rfl ?_
 clear hN
 intro w8 (hN:aH w none_ w8 [_,_,_,_])
 refine⟨_,RV.tmp rfl,?_⟩
 exact⟨(hN.ft 3 rfl).l7 Qq,hN.aX⟩
theorem yO (n k q:Int) (mv:Value) (ar:List I3) (a b:I3) (w:World) (hm:Sm bC w mv ar) (h0:0≤k) (ha:ar[k.toNat]?=some a) (h1:0≤q) (hb:ar[q.toNat]?=some b):aM acD 150 #[.agg #[.int .i64 n,mv],.int .i64 k,.int .i64 q] w fun r w'=>r=.bool (decide (a.2.2<b.2.2))∧Ext w w':=by
 refine aM.aZ ajQ ?_
 rw[iu]
 have hN:=aH.nil w none_
 have cD:=(acF.1 ha).1
 have ep:=(acF.1 hb).1
 refine RW.aN ?_
 refine RL.aL (bJ (cs:=[.int .i64 (n),mv]) rfl rfl hN ?_)
 clear hN
 intro g1 w1 (hN:aH w none_ w1 [_])
 refine RL.ag (v:=.bool false) ai (RL.ak (RW.seq ?_))
 replace hN:=hN.ext (Ext.drew w1)
 refine RW.bA (fun u=>aH w none_ u [.aJ g1 [.int .i64 (n),mv] 24]) 14 [(0,0),(1,0),(2,0),(3,0),(4,0),(5,0),(6,0),(7,0),(8,0),(9,0),(10,0),(11,0),(12,0),(13,0)] (by intro _ _ _ h;exact h) hN (RQ.an rfl (fun w hS=>(ah acJ rfl eZ)) (RQ.an rfl (fun w hS=>(aj acP (hS.aJ 0 rfl))) (RQ.an (v:=.int .i64 (k)) rfl (fun w hS=>U) (RQ.an rfl (fun w hS=>(aT acP cY aW (hm.o.now hS))) (RQ.an rfl (fun w hS=>(bm (m:=(k).toNat) (b:=0) acT rfl bI aW (hm.o.now hS) ha)) (RQ.an rfl (fun w hS=>(bB (m:=(k).toNat) (j:=2) (a:=a) acy aW (hm.o.now hS) ha)) (RQ.an rfl (fun w hS=>(ah acJ rfl eZ)) (RQ.an rfl (fun w hS=>(aj acP (hS.aJ 0 rfl))) (RQ.an (v:=.int .i64 (q)) rfl (fun w hS=>U) ?_)))))))))
 refine RQ.an rfl (fun w hS=>(aT acP cY aW (hm.o.now hS))) (RQ.an rfl (fun w hS=>(bm (m:=(q).toNat) (b:=0) acT rfl bI aW (hm.o.now hS) hb)) (RQ.an rfl (fun w hS=>(bB (m:=(q).toNat) (j:=2) (a:=b) acy aW (hm.o.now hS) hb)) (RQ.an rfl (fun w hS=>(aK)) (RQ.an (v:=.bool (decide (a.2.2<b.2.2))) rfl (fun w hS=>ai) (RQ.bq (aA (RW.ret (bc (RV.tmp rfl) ?_))))))))
 exact⟨rfl,hN.aX⟩
theorem Hx (n:Nat) (lv:Value) (l:List Int) (gm:Nat) (mv:Value) (ar:List I3) (w:World) (hl:Sl vI w lv l) (hb:ij w gm [.int .i64 (n:Int),mv] 24) (hm:Sm bC w mv ar) (ff:∀a∈ar,EJ n a) (hv:∀k∈l,0≤k∧k<(ar.length:Int)) (hn:n≤16777216) (Br:l.length≤67108864):aM acD 152 #[.agg #[.int .i64 (n:Int),mv],lv,.func (.func 145) #[] #[vP gm],.func (.func 146) #[] #[vP gm]] w fun r w'=>∃bv ev bs es os KQ,r=.agg #[bv,ev]∧aH w none_ w' [.own vI 3 bv bs,.cd bC 3 246 ev es]∧Cs n bs (f1 (dK ar (·.1) os) n)∧es=os.map (qW ar (·.2.1))∧Laid KQ (dK ar (·.1) KQ) os KQ.length∧Laid l (dK ar (·.2.1) l) KQ l.length:=by
 refine aM.aZ aha ?_
 rw[kE]
 have hN:=aH.nil w none_
 refine RW.aN ?_
 refine RL.aL (bJ (cs:=[vJ n,mv]) rfl rfl hN ?_)
 clear hN
 intro g1 w1 (hN:aH w none_ w1 [_])
 refine RL.aL (bz (cs:=[vN,vN]) nT rfl hN ?_)
 clear hN
 intro g2 w2 (hN:aH w none_ w2 [_,_])
 refine RL.bY (RL.ag (ah acJ rfl bI) (RL.ag (aj acy (hN.aJ 1 rfl)) (RL.ag (aD rfl rfl rfl ((bg (by omega) (by omega)).trans (by omega:(n:Int)+1=((n+1:Nat):Int)))) ?_)))
 refine RL.aL (iq (enc:=vI) (z:=0) acz fI rfl hN rfl (by omega) (by omega) (by omega) ?_)
 clear hN
 intro v3 w3 (hN:aH w none_ w3 [_,_,_])
 refine RL.ag (bR (cs:=[v3,vN]) adM nT (places:=#[(0,1),(1,1)]) (by intro w;kernel_rfl) (pl:=[(0,.tmp 16)]) rfl (ps:=[(0,v3)]) rfl (zc:=[vN,vN]) rfl (aP (vs:=[v3]) (hN.sl 0 rfl).cK rfl (acA rfl) rfl)) ?_
 refine RL.aL (bz (cs:=[vN,vN]) nT rfl hN ?_)
 clear hN
 intro g4 w4 (hN:aH w none_ w4 [_,_,_,_])
 refine RL.aL (aS (vs:=[v3,vN]) mE rfl rfl rfl (by intro u hu;simp only[ac6,ac0,or_false]at hu;rcases hu with rfl|rfl<;>first|rfl|exact(hN.sl 1 rfl).bT) hN 0 rfl rfl ?_)
 clear hN
 intro w5 (hN:aH w none_ w5 [_,_,_,_])
 refine RL.ak ?_
 iterate 2 refine RW.seq ?_
 replace hN:=hN.ext (Ext.drew w5)
 refine RW.bA (fun u=>aH w none_ u [.aJ g4 [v3,vN] 209,.own vI 3 (v3) (ac3 (n+1) 0),.aJ g2 [vN,vN] 209,.aJ g1 [vJ n,mv] 24]) 11 [(0,0),(1,0),(2,0),(3,0),(4,0),(5,0),(7,0),(10,0),(6,1),(8,1),(9,1)] (by intro _ _ _ h;exact h) hN (RQ.an rfl (fun w hS=>(ah acJ rfl bI)) (RQ.an rfl (fun w hS=>(aj acy (hS.aJ 3 rfl))) (RQ.an rfl (fun w hS=>(ah acJ rfl bI)) (RQ.an rfl (fun w hS=>(aj acy (hS.aJ 3 rfl))) (RQ.an (v:=lv) rfl (fun w hS=>U) (RQ.an (v:=.func (.func 146) #[] #[vP gm]) rfl (fun w hS=>U) (RQ.an (v:=.func (.func 145) #[] #[vP gm]) rfl (fun w hS=>U) (RQ.an (v:=.int .i64 (0)) rfl (fun w hS=>U) ?_))))))))
 refine RQ.bW rfl (cn afh rfl rfl rfl rfl rfl ((qv n _ l gm _ ar _ (hl.o.now hN) (hb.ext hN.aX) (hm.o.now hN) ff hv (by omega) (by omega)).mono ?_))
 rintro v6 w6 ⟨zV,cL,Ih,bl⟩
 replace hN:aH w none_ w6 [_,_,_,_,_]:=hN.cl cL bl
 clear cL bl
 have H3:=Ih.perm (fC _ _ _)
 have Ve:=H3.length_eq
 have HK:∀x∈zV,0≤x∧x<(ar.length:Int):=fun x hx=>hv x (H3.mem_iff.1 hx)
 refine⟨(hN.sb [1,2,3,4]),?_⟩
 refine RQ.bW rfl (cn afh rfl rfl rfl rfl rfl ((nk n _ zV gm _ ar _ (hN.sl 0 rfl) (hb.ext hN.aX) (hm.o.now hN) ff HK (by omega) (by omega)).mono ?_))
 rintro v7 w7 ⟨lF,cL,Ig,bl⟩
 replace hN:aH w none_ w7 [_,_,_,_,_,_]:=hN.cl cL bl
 clear cL bl
 have H2:=Ig.perm (fC _ _ _)
 have Vd:=H2.length_eq
 have HJ:∀x∈lF,0≤x∧x<(ar.length:Int):=fun x hx=>HK x (H2.mem_iff.1 hx)
 refine⟨(hN.sb [2,3,4,5]),?_⟩
 have LJ:=(hN.sl 0 rfl).bw
 refine RQ.bW rfl (ey.ev (aQ acz (hN.sl 0 rfl)) ⟨(hN.sb [2,3,4,5]),?_⟩)
 replace hN:=hN.ew bC 3 246
 replace hN:aH w none_ w7 [.cd bC 3 246 (vN) ([]),.own vI 3 (v7) (lF),.own vI 3 (v6) (zV),.aJ g4 [v3,vN] 209,.own vI 3 (v3) (ac3 (n+1) 0),.aJ g2 [vN,vN] 209,.aJ g1 [vJ n,mv] 24]:=hN
 have vO:=fC ar (·.1) lF
 have CK:∀x∈(dK ar (·.1) lF),0≤x:=n0 HJ (fun a ha=>by obtain⟨h0,_,h2,_⟩:=ff a ha;first|exact h0|exact h2)
 refine RQ.bq (aA (RW.block ?_))
 refine RW.loop (fun k R0 cv=>∃cs:List Int,∃ve:Value,∃es:List I3,∃i:Nat,R0 2=.func (.func 145) #[] #[vP gm]∧R0 3=.func (.func 146) #[] #[vP gm]∧R0 4=vP g1∧R0 8=vP g2∧R0 9=vP g4∧R0 26=v7∧R0 27=.int .i64 ((lF.length:Int))∧R0 28=vJ i∧aH w none_ cv [.cd bC 3 246 (ve) (es),.own vI 3 (v7) (lF),.own vI 3 (v6) (zV),.aJ g4 [v3,ve] 209,.own vI 3 (v3) (cs),.aJ g2 [vN,vN] 209,.aJ g1 [vJ n,mv] 24]∧(i+k=lF.length)∧(Cs n cs (f0 (dK ar (·.1) lF) i))∧(es=(lF.take i).map (qW ar (·.2.1)))∧(es.length=i)) (lF.length) ?_ ?_
 exact⟨ac3 (n+1) 0,vN,[],0,rfl,rfl,rfl,rfl,rfl,rfl,rfl,rfl,hN,by omega,p5,rfl,rfl⟩
 clear hN
 rintro k R0 cv ⟨cs,ve,es,i,bQ,cb,cu,cM,dN,gN,At,As,hN,fP,oz,OX,iX⟩
 have cz:=rN bQ cb cu cM dN gN At As
 obtain⟨fV,rfl⟩:=cz
 clear bQ cb cu cM dN gN At As
 refine RW.aN (RL.ag (aK) (RL.ak (RW.seq ?_)))
 refine RW.aG _ (fun cD=>?_) (fun cD=>?_)
 refine RW.skip (aA (RW.seq (RW.block (RW.aN (RL.ag (aC acz bI (hN.sl 1 rfl)) ?_)))))
 have aO:=cQ (lF) i
 obtain⟨ap,bV⟩:=aO
 refine RL.ag (aF (m:=i) (a:=ap) acy (hN.sl 1 rfl) bV) (RL.ag (v:=.int .i64 (ap)) ai ?_)
 have aO:=HJ ap (acC bV)
 obtain⟨Sz,Sy⟩:=aO
 have aO:=cQ ar ((ap).toNat)
 obtain⟨br,LA⟩:=aO
 refine RL.ak (RW.seq ?_)
 replace hN:=hN.ext (Ext.drew cv)
 refine RW.bA (fun u=>aH w none_ u [.own vI 3 (v7) (lF),.own vI 3 (v6) (zV),.aJ g4 [v3,ve] 209,.own vI 3 (v3) (cs),.aJ g2 [vN,vN] 209,.aJ g1 [vJ n,mv] 24]) 16 [(0,0),(1,0),(2,0),(3,0),(5,0),(6,0),(7,0),(8,0),(9,0),(10,0),(11,0),(4,1),(12,0),(13,1),(14,1),(15,0),(16,2)] (by intro _ _ _ h;exact h) (hN.sb [1,2,3,4,5,6]) (RQ.an rfl (fun w hS=>(ah adM rfl wz)) (RQ.an rfl (fun w hS=>(aj ado (hS.aJ 2 rfl))) (RQ.an (v:=.func (.func 146) #[] #[vP gm]) rfl (fun w hS=>U) (RQ.an (v:=.int .i64 (ap)) rfl (fun w hS=>U) (RQ.an rfl (fun w hS=>(ah acJ rfl eZ)) (RQ.an rfl (fun w hS=>(aj acP (hS.aJ 5 rfl))) (RQ.an (v:=.int .i64 (ap)) rfl (fun w hS=>U) (RQ.an rfl (fun w hS=>(aT acP cY aW (hm.o.now hS))) (RQ.an rfl (fun w hS=>(bm (m:=(ap).toNat) (b:=0) acT rfl bI aW (hm.o.now hS) LA)) ?_)))))))))
 refine RQ.an rfl (fun w hS=>(bB (m:=(ap).toNat) (j:=2) (a:=br) acy aW (hm.o.now hS) LA)) (RQ.an (v:=.int .i64 (ap)) rfl (fun w hS=>U) ?_)
 have Il:0≤ap∧ap<(ar.length:Int):=⟨by omega,by omega⟩
 have aO:=cQ ar ((ap).toNat)
 obtain⟨PN,CT⟩:=aO
 have aO:=ff PN (acC CT)
 obtain⟨R5,RY,RX,RU,RR,RP⟩:=aO
 refine RQ.bW rfl (ct (first:=#[]) (captured:=#[vP gm]) (v0:=.int .i64 (ap)) (args:=#[.int .i64 (ap),vP gm]) afg rfl rfl (by simp) rfl rfl ((ki (ap) gm ((n:Int)) _ ar PN _ (hb.ext hN.aX) (hm.o.now hN) Il.1 CT).mono ?_))
 rintro _ w9 ⟨rfl,bl⟩
 replace hN:=hN.ext bl
 clear bl
 refine⟨(hN.sb [1,2,3,4,5,6]),?_⟩
 have uD:br=PN:=ac7 (LA.symm.trans CT)
 subst uD
 refine RQ.an rfl (fun w hS=>(bR (cs:=[.int .i64 (br.2.1),.int .i64 (br.2.2),.int .i64 (ap)]) aeh xu (places:=#[(0,1),(1,1),(2,1)]) (by intro w;kernel_rfl) (pl:=[(0,.tmp 36),(1,.tmp 42),(2,.tmp 43)]) rfl (ps:=[(0,.int .i64 (br.2.1)),(1,.int .i64 (br.2.2)),(2,.int .i64 (ap))]) rfl (zc:=[.int .i64 (0),.int .i64 (0),.int .i64 (0)]) rfl (aP (vs:=[.int .i64 (br.2.1)]) rfl rfl (acA rfl) (aP (vs:=[.int .i64 (br.2.2)]) rfl rfl (acA rfl) (aP (vs:=[.int .i64 (ap)]) rfl rfl (acA rfl) rfl))))) ?_
 refine RQ.bW rfl (dn (cf:=bC) (s:=3) (pl:=[(0,.tmp 44)]) (ps:=[(0,.agg #[.int .i64 (br.2.1),.int .i64 (br.2.2),.int .i64 (ap)])]) (zc:=[.int .i64 (0),.int .i64 (0),.int .i64 (0)]) (l:=[(br.2.1,br.2.2,ap)]) ado jW (by kernel_rfl) rfl rfl (aP (vs:=[.int .i64 (br.2.1),.int .i64 (br.2.2),.int .i64 (ap)]) rfl rfl (acA rfl) rfl) aW rfl (by decide) (by decide) (by decide) hN ?_)
 clear hN
 intro MW kY (hN:aH w none_ kY [_,_,_,_,_,_,_,_])
 refine⟨(hN.sb [2,3,4,5,6,7]),?_⟩
 refine RQ.bW rfl (cp ado jW rfl (by decide) eH aW hN 1 rfl rfl (hN.sm 0 rfl) rfl (by rw[iX];simp only[acH,acK,acS];omega) (by decide) ?_)
 clear hN
 intro rh kI (hN:aH w none_ kI [_,_,_,_,_,_,_,_])
 refine⟨(hN.sb [2,3,4,5,6,7]),?_⟩
 refine RQ.an rfl (fun w hS=>(ah adM rfl wz)) ?_
 refine RQ.last rfl rfl (b7 wz rfl rfl (hN.sm 1 rfl).cK (hN.sm 1 rfl).bT hN 4 rfl (acA rfl) ?_)
 clear hN
 intro lX (hN:aH w none_ lX [_,_,_,_,_,_,_,_])
 refine RZ.dW (aA ?_)
 have F6:=oz.len
 replace hN:=hN.ext (Ext.drew lX)
 refine RW.bA (fun u=>aH w none_ u [.cd bC 3 246 (.slice (some ⟨MW,0,none⟩) 1 1) ([(br.2.1,br.2.2,ap)]),.cd bC 3 246 (rh) (es++[(br.2.1,br.2.2,ap)]),.own vI 3 (v7) (lF),.own vI 3 (v6) (zV),.aJ g4 [v3,rh] 209,.own vI 3 (v3) (cs),.aJ g2 [vN,vN] 209,.aJ g1 [vJ n,mv] 24]) 10 [(0,0),(1,0),(2,0),(3,0),(4,1),(5,0),(6,0),(7,0),(8,0),(9,0),(10,2)] (by intro _ _ _ h;exact h) hN (RQ.an rfl (fun w hS=>(ah adM rfl cc)) (RQ.an rfl (fun w hS=>(aj acz (hS.aJ 4 rfl))) (RQ.an (v:=.func (.func 145) #[] #[vP gm]) rfl (fun w hS=>U) (RQ.an (v:=.int .i64 (ap)) rfl (fun w hS=>U) ?_))))
 have Ii:0≤ap∧ap<(ar.length:Int):=⟨by omega,by omega⟩
 have aO:=cQ ar ((ap).toNat)
 obtain⟨PL,uE⟩:=aO
 have aO:=ff PL (acC uE)
 obtain⟨Rz,Ry,Rx,Rw,Rv,Ru⟩:=aO
 refine RQ.bW rfl (ct (first:=#[]) (captured:=#[vP gm]) (v0:=.int .i64 (ap)) (args:=#[.int .i64 (ap),vP gm]) aff rfl rfl (by simp) rfl rfl ((iI (ap) gm ((n:Int)) _ ar PL _ (hb.ext hN.aX) (hm.o.now hN) Ii.1 uE).mono ?_))
 rintro _ oI ⟨rfl,bl⟩
 replace hN:=hN.ext bl
 clear bl
 refine⟨hN,?_⟩
 have uD:br=PL:=ac7 (LA.symm.trans uE)
 subst uD
 refine RQ.an rfl (fun w hS=>(aD rfl rfl rfl (bg (by omega) (by omega)))) (RQ.an rfl (fun w hS=>(aC acz bI (hS.sl 5 rfl))) ?_)
 have aO:=cQ (cs) ((br.1+1).toNat)
 obtain⟨ac,ja⟩:=aO
 refine RQ.an rfl (fun w hS=>(aF (m:=(br.1+1).toNat) (a:=ac) acy (hS.sl 5 rfl) ja)) ?_
 have fx:=sL oz (iR bV uE) (by omega) (by omega) ja
 obtain⟨qk,pM,fx⟩:=fx
 refine RQ.an rfl (fun w hS=>(aD rfl rfl rfl (bg (by omega) (by omega)))) (RQ.an rfl (fun w hS=>(aC acz bI (hS.sl 5 rfl))) ?_)
 refine RQ.last rfl rfl (cm (m:=(br.1+1).toNat) (a:=(ac+1)) bI hN 5 rfl rfl (by omega) rfl rfl rfl rfl ?_)
 clear hN
 intro qq (hN:aH w none_ qq [_,_,_,_,_,_,_,_])
 refine RZ.dW (ba (aA (RW.region (RL.ag (aD rfl rfl rfl (bg (by omega) (by omega))) (RL.ag (v:=.int .i64 ((i:Int)+1)) U (RL.ak ?_))))))
 exact⟨k-1,by omega,(cs).set (br.1+1).toNat ((ac+1)),rh,es++[(br.2.1,br.2.2,ap)],i+1,rfl,rfl,rfl,rfl,rfl,rfl,rfl,rfl,(hN.sb [1,2,3,4,5,6,7]),by omega,fx,by rw[ef _ bV,OX,xj uE],by rw[acB,iX];rfl⟩
 refine RW.exit ?_
 iterate 2 refine bP ?_
 refine aY (aA ?_)
 iterate 2 refine RW.seq ?_
 refine RW.region (RL.ag (ah acJ rfl bI) (RL.ag (aj acy (hN.aJ 6 rfl)) (RL.ag (v:=.int .i64 (0)) U (RL.ak (RW.block ?_)))))
 refine RW.loop (fun k1 R1 ez=>∃mV:List Int,∃v:Nat,R1 8=vP g2∧R1 9=vP g4∧R1 60=vJ n∧R1 61=vJ v∧aH w none_ ez [.cd bC 3 246 (ve) (es),.own vI 3 (v7) (lF),.own vI 3 (v6) (zV),.aJ g4 [v3,ve] 209,.own vI 3 (v3) (mV),.aJ g2 [vN,vN] 209,.aJ g1 [vJ n,mv] 24]∧(v+k1=n)∧(Cs n mV (f1 (dK ar (·.1) lF) v))) (n) ?_ ?_
 have O1:Cs n cs (f0 (dK ar (·.1) lF) (dK ar (·.1) lF).length):=by rw[vO,←(show i=lF.length by omega)];exact oz
 exact⟨cs,0,rfl,rfl,rfl,rfl,hN,by omega,p4 O1 CK⟩
 clear hN
 rintro k1 R1 ez ⟨mV,v,cM,dN,Al,Ak,hN,Uw,nI⟩
 have cz:=iV cM dN Al Ak
 obtain⟨re,rfl⟩:=cz
 clear cM dN Al Ak
 refine RW.aN (RL.ag (aK) (RL.ak (RW.seq ?_)))
 refine RW.aG _ (fun pP=>?_) (fun pP=>?_)
 refine RW.skip (aA (RW.seq (RW.block (RW.aN (RL.ag (v:=vJ v) U (RL.ag (v:=vJ v) ai (RL.ak ?_)))))))
 have F6:=nI.len
 have aO:=cQ mV (v+1)
 obtain⟨ax,Jj⟩:=aO
 have aO:=cQ mV v
 obtain⟨ay,pY⟩:=aO
 have fx:=sK nI (by omega) Jj pY
 obtain⟨qk,pM,Up,Uo,fx⟩:=fx
 replace hN:=hN.ext (Ext.drew ez)
 refine RW.bA (fun u=>aH w none_ u [.cd bC 3 246 (ve) (es),.own vI 3 (v7) (lF),.own vI 3 (v6) (zV),.aJ g4 [v3,ve] 209,.own vI 3 (v3) (mV),.aJ g2 [vN,vN] 209,.aJ g1 [vJ n,mv] 24]) 13 [(0,0),(1,0),(2,0),(3,0),(4,0),(5,0),(6,0),(7,0),(8,0),(9,0),(10,0),(11,0),(12,0),(13,2)] (by intro _ _ _ h;exact h) hN (RQ.an rfl (fun w hS=>(ah adM rfl cc)) (RQ.an rfl (fun w hS=>(aj acz (hS.aJ 3 rfl))) (RQ.an (v:=vJ v) rfl (fun w hS=>U) (RQ.an rfl (fun w hS=>(aD rfl rfl rfl ((bg (by omega) (by omega)).trans (by omega:(v:Int)+1=((v+1:Nat):Int))))) (RQ.an rfl (fun w hS=>(aC acz bI (hS.sl 4 rfl))) (RQ.an rfl (fun w hS=>(aF (m:=(v+1)) (a:=ax) acy (hS.sl 4 rfl) Jj)) (RQ.an rfl (fun w hS=>(ah adM rfl cc)) (RQ.an rfl (fun w hS=>(aj acz (hS.aJ 3 rfl))) (RQ.an (v:=vJ v) rfl (fun w hS=>U) ?_)))))))))
 refine RQ.an rfl (fun w hS=>(aC acz bI (hS.sl 4 rfl))) (RQ.an rfl (fun w hS=>(aF (m:=v) (a:=ay) acy (hS.sl 4 rfl) pY)) (RQ.an rfl (fun w hS=>(aD rfl rfl rfl (bg (by omega) (by omega)))) (RQ.an rfl (fun w hS=>(aC acz bI (hS.sl 4 rfl))) ?_)))
 refine RQ.last rfl rfl (cm (m:=(v+1)) (a:=(ax+ay)) bI hN 4 rfl rfl (by omega) rfl rfl rfl rfl ?_)
 clear hN
 intro zo (hN:aH w none_ zo [_,_,_,_,_,_,_])
 refine RZ.dW (ba (aA (RW.region (RL.ag (aD rfl rfl rfl (bg (by omega) (by omega))) (RL.ag (v:=.int .i64 ((v:Int)+1)) U (RL.ak ?_))))))
 exact⟨k1-1,by omega,(mV).set (v+1) ((ax+ay)),v+1,rfl,rfl,rfl,rfl,hN,by omega,fx⟩
 refine RW.exit ?_
 iterate 2 refine bP ?_
 refine aY (aA (RW.aN (RL.ag (aE (cs:=[v3,ve]) adM mE (hN.aJ 3 rfl)) ?_)))
 refine RL.aL (aS (vs:=[v3,ve]) mE rfl rfl rfl (by intro u hu;simp only[ac6,ac0,or_false]at hu;rcases hu with rfl|rfl<;>first|rfl|exact(hN.sl 4 rfl).bT|exact(hN.sm 0 rfl).bT) hN 5 rfl rfl ?_)
 clear hN
 intro Bp (hN:aH w none_ Bp [_,_,_,_,_,_,_])
 refine RL.ak (RW.ret (bc (RV.cell rfl rfl (hN.aJ 5 rfl) adM rfl mE) ?_))
 have Ux:v=n:=by omega
 subst Ux
 have ic:i=lF.length:=by omega
 rw[ic,adm]at OX
 exact⟨_,_,mV,es,_,_,rfl,hN.sb [4,0],nI,OX,Ig,Ih⟩
theorem NX (n:Nat) (lv:Value) (l:List Int) (gm:Nat) (mv:Value) (ar:List I3) (w:World) (hl:Sl vI w lv l) (hb:ij w gm [.int .i64 (n:Int),mv] 24) (hm:Sm bC w mv ar) (ff:∀a∈ar,EJ n a) (hv:∀k∈l,0≤k∧k<(ar.length:Int)) (hn:n≤16777216) (Br:l.length≤67108864):aM acD 152 #[.agg #[.int .i64 (n:Int),mv],lv,.func (.func 146) #[] #[vP gm],.func (.func 145) #[] #[vP gm]] w fun r w'=>∃bv ev bs es os KQ,r=.agg #[bv,ev]∧aH w none_ w' [.own vI 3 bv bs,.cd bC 3 246 ev es]∧Cs n bs (f1 (dK ar (·.2.1) os) n)∧es=os.map (qW ar (·.1))∧Laid KQ (dK ar (·.2.1) KQ) os KQ.length∧Laid l (dK ar (·.1) l) KQ l.length:=by
 refine aM.aZ aha ?_
 rw[kE]
 have hN:=aH.nil w none_
 refine RW.aN ?_
 refine RL.aL (bJ (cs:=[vJ n,mv]) rfl rfl hN ?_)
 clear hN
 intro g1 w1 (hN:aH w none_ w1 [_])
 refine RL.aL (bz (cs:=[vN,vN]) nT rfl hN ?_)
 clear hN
 intro g2 w2 (hN:aH w none_ w2 [_,_])
 refine RL.bY (RL.ag (ah acJ rfl bI) (RL.ag (aj acy (hN.aJ 1 rfl)) (RL.ag (aD rfl rfl rfl ((bg (by omega) (by omega)).trans (by omega:(n:Int)+1=((n+1:Nat):Int)))) ?_)))
 refine RL.aL (iq (enc:=vI) (z:=0) acz fI rfl hN rfl (by omega) (by omega) (by omega) ?_)
 clear hN
 intro v3 w3 (hN:aH w none_ w3 [_,_,_])
 refine RL.ag (bR (cs:=[v3,vN]) adM nT (places:=#[(0,1),(1,1)]) (by intro w;kernel_rfl) (pl:=[(0,.tmp 16)]) rfl (ps:=[(0,v3)]) rfl (zc:=[vN,vN]) rfl (aP (vs:=[v3]) (hN.sl 0 rfl).cK rfl (acA rfl) rfl)) ?_
 refine RL.aL (bz (cs:=[vN,vN]) nT rfl hN ?_)
 clear hN
 intro g4 w4 (hN:aH w none_ w4 [_,_,_,_])
 refine RL.aL (aS (vs:=[v3,vN]) mE rfl rfl rfl (by intro u hu;simp only[ac6,ac0,or_false]at hu;rcases hu with rfl|rfl<;>first|rfl|exact(hN.sl 1 rfl).bT) hN 0 rfl rfl ?_)
 clear hN
 intro w5 (hN:aH w none_ w5 [_,_,_,_])
 refine RL.ak ?_
 iterate 2 refine RW.seq ?_
 replace hN:=hN.ext (Ext.drew w5)
 refine RW.bA (fun u=>aH w none_ u [.aJ g4 [v3,vN] 209,.own vI 3 (v3) (ac3 (n+1) 0),.aJ g2 [vN,vN] 209,.aJ g1 [vJ n,mv] 24]) 11 [(0,0),(1,0),(2,0),(3,0),(4,0),(5,0),(7,0),(10,0),(6,1),(8,1),(9,1)] (by intro _ _ _ h;exact h) hN (RQ.an rfl (fun w hS=>(ah acJ rfl bI)) (RQ.an rfl (fun w hS=>(aj acy (hS.aJ 3 rfl))) (RQ.an rfl (fun w hS=>(ah acJ rfl bI)) (RQ.an rfl (fun w hS=>(aj acy (hS.aJ 3 rfl))) (RQ.an (v:=lv) rfl (fun w hS=>U) (RQ.an (v:=.func (.func 145) #[] #[vP gm]) rfl (fun w hS=>U) (RQ.an (v:=.func (.func 146) #[] #[vP gm]) rfl (fun w hS=>U) (RQ.an (v:=.int .i64 (0)) rfl (fun w hS=>U) ?_))))))))
 refine RQ.bW rfl (cn afh rfl rfl rfl rfl rfl ((nk n _ l gm _ ar _ (hl.o.now hN) (hb.ext hN.aX) (hm.o.now hN) ff hv (by omega) (by omega)).mono ?_))
 rintro v6 w6 ⟨zV,cL,Ih,bl⟩
 replace hN:aH w none_ w6 [_,_,_,_,_]:=hN.cl cL bl
 clear cL bl
 have H3:=Ih.perm (fC _ _ _)
 have Ve:=H3.length_eq
 have HK:∀x∈zV,0≤x∧x<(ar.length:Int):=fun x hx=>hv x (H3.mem_iff.1 hx)
 refine⟨(hN.sb [1,2,3,4]),?_⟩
 refine RQ.bW rfl (cn afh rfl rfl rfl rfl rfl ((qv n _ zV gm _ ar _ (hN.sl 0 rfl) (hb.ext hN.aX) (hm.o.now hN) ff HK (by omega) (by omega)).mono ?_))
 rintro v7 w7 ⟨lF,cL,Ig,bl⟩
 replace hN:aH w none_ w7 [_,_,_,_,_,_]:=hN.cl cL bl
 clear cL bl
 have H2:=Ig.perm (fC _ _ _)
 have Vd:=H2.length_eq
 have HJ:∀x∈lF,0≤x∧x<(ar.length:Int):=fun x hx=>HK x (H2.mem_iff.1 hx)
 refine⟨(hN.sb [2,3,4,5]),?_⟩
 have LJ:=(hN.sl 0 rfl).bw
 refine RQ.bW rfl (ey.ev (aQ acz (hN.sl 0 rfl)) ⟨(hN.sb [2,3,4,5]),?_⟩)
 replace hN:=hN.ew bC 3 246
 replace hN:aH w none_ w7 [.cd bC 3 246 (vN) ([]),.own vI 3 (v7) (lF),.own vI 3 (v6) (zV),.aJ g4 [v3,vN] 209,.own vI 3 (v3) (ac3 (n+1) 0),.aJ g2 [vN,vN] 209,.aJ g1 [vJ n,mv] 24]:=hN
 have vO:=fC ar (·.2.1) lF
 have CK:∀x∈(dK ar (·.2.1) lF),0≤x:=n0 HJ (fun a ha=>by obtain⟨h0,_,h2,_⟩:=ff a ha;first|exact h0|exact h2)
 refine RQ.bq (aA (RW.block ?_))
 refine RW.loop (fun k R0 cv=>∃cs:List Int,∃ve:Value,∃es:List I3,∃i:Nat,R0 2=.func (.func 146) #[] #[vP gm]∧R0 3=.func (.func 145) #[] #[vP gm]∧R0 4=vP g1∧R0 8=vP g2∧R0 9=vP g4∧R0 26=v7∧R0 27=.int .i64 ((lF.length:Int))∧R0 28=vJ i∧aH w none_ cv [.cd bC 3 246 (ve) (es),.own vI 3 (v7) (lF),.own vI 3 (v6) (zV),.aJ g4 [v3,ve] 209,.own vI 3 (v3) (cs),.aJ g2 [vN,vN] 209,.aJ g1 [vJ n,mv] 24]∧(i+k=lF.length)∧(Cs n cs (f0 (dK ar (·.2.1) lF) i))∧(es=(lF.take i).map (qW ar (·.1)))∧(es.length=i)) (lF.length) ?_ ?_
 exact⟨ac3 (n+1) 0,vN,[],0,rfl,rfl,rfl,rfl,rfl,rfl,rfl,rfl,hN,by omega,p5,rfl,rfl⟩
 clear hN
 rintro k R0 cv ⟨cs,ve,es,i,bQ,cb,cu,cM,dN,gN,At,As,hN,fP,oz,OX,iX⟩
 have cz:=rN bQ cb cu cM dN gN At As
 obtain⟨fV,rfl⟩:=cz
 clear bQ cb cu cM dN gN At As
 refine RW.aN (RL.ag (aK) (RL.ak (RW.seq ?_)))
 refine RW.aG _ (fun cD=>?_) (fun cD=>?_)
 refine RW.skip (aA (RW.seq (RW.block (RW.aN (RL.ag (aC acz bI (hN.sl 1 rfl)) ?_)))))
 have aO:=cQ (lF) i
 obtain⟨ap,bV⟩:=aO
 refine RL.ag (aF (m:=i) (a:=ap) acy (hN.sl 1 rfl) bV) (RL.ag (v:=.int .i64 (ap)) ai ?_)
 have aO:=HJ ap (acC bV)
 obtain⟨Sz,Sy⟩:=aO
 have aO:=cQ ar ((ap).toNat)
 obtain⟨br,LA⟩:=aO
 refine RL.ak (RW.seq ?_)
 replace hN:=hN.ext (Ext.drew cv)
 refine RW.bA (fun u=>aH w none_ u [.own vI 3 (v7) (lF),.own vI 3 (v6) (zV),.aJ g4 [v3,ve] 209,.own vI 3 (v3) (cs),.aJ g2 [vN,vN] 209,.aJ g1 [vJ n,mv] 24]) 16 [(0,0),(1,0),(2,0),(3,0),(5,0),(6,0),(7,0),(8,0),(9,0),(10,0),(11,0),(4,1),(12,0),(13,1),(14,1),(15,0),(16,2)] (by intro _ _ _ h;exact h) (hN.sb [1,2,3,4,5,6]) (RQ.an rfl (fun w hS=>(ah adM rfl wz)) (RQ.an rfl (fun w hS=>(aj ado (hS.aJ 2 rfl))) (RQ.an (v:=.func (.func 145) #[] #[vP gm]) rfl (fun w hS=>U) (RQ.an (v:=.int .i64 (ap)) rfl (fun w hS=>U) (RQ.an rfl (fun w hS=>(ah acJ rfl eZ)) (RQ.an rfl (fun w hS=>(aj acP (hS.aJ 5 rfl))) (RQ.an (v:=.int .i64 (ap)) rfl (fun w hS=>U) (RQ.an rfl (fun w hS=>(aT acP cY aW (hm.o.now hS))) (RQ.an rfl (fun w hS=>(bm (m:=(ap).toNat) (b:=0) acT rfl bI aW (hm.o.now hS) LA)) ?_)))))))))
 refine RQ.an rfl (fun w hS=>(bB (m:=(ap).toNat) (j:=2) (a:=br) acy aW (hm.o.now hS) LA)) (RQ.an (v:=.int .i64 (ap)) rfl (fun w hS=>U) ?_)
 have Il:0≤ap∧ap<(ar.length:Int):=⟨by omega,by omega⟩
 have aO:=cQ ar ((ap).toNat)
 obtain⟨PN,CT⟩:=aO
 have aO:=ff PN (acC CT)
 obtain⟨R5,RY,RX,RU,RR,RP⟩:=aO
 refine RQ.bW rfl (ct (first:=#[]) (captured:=#[vP gm]) (v0:=.int .i64 (ap)) (args:=#[.int .i64 (ap),vP gm]) aff rfl rfl (by simp) rfl rfl ((iI (ap) gm ((n:Int)) _ ar PN _ (hb.ext hN.aX) (hm.o.now hN) Il.1 CT).mono ?_))
 rintro _ w9 ⟨rfl,bl⟩
 replace hN:=hN.ext bl
 clear bl
 refine⟨(hN.sb [1,2,3,4,5,6]),?_⟩
 have uD:br=PN:=ac7 (LA.symm.trans CT)
 subst uD
 refine RQ.an rfl (fun w hS=>(bR (cs:=[.int .i64 (br.1),.int .i64 (br.2.2),.int .i64 (ap)]) aeh xu (places:=#[(0,1),(1,1),(2,1)]) (by intro w;kernel_rfl) (pl:=[(0,.tmp 36),(1,.tmp 42),(2,.tmp 43)]) rfl (ps:=[(0,.int .i64 (br.1)),(1,.int .i64 (br.2.2)),(2,.int .i64 (ap))]) rfl (zc:=[.int .i64 (0),.int .i64 (0),.int .i64 (0)]) rfl (aP (vs:=[.int .i64 (br.1)]) rfl rfl (acA rfl) (aP (vs:=[.int .i64 (br.2.2)]) rfl rfl (acA rfl) (aP (vs:=[.int .i64 (ap)]) rfl rfl (acA rfl) rfl))))) ?_
 refine RQ.bW rfl (dn (cf:=bC) (s:=3) (pl:=[(0,.tmp 44)]) (ps:=[(0,.agg #[.int .i64 (br.1),.int .i64 (br.2.2),.int .i64 (ap)])]) (zc:=[.int .i64 (0),.int .i64 (0),.int .i64 (0)]) (l:=[(br.1,br.2.2,ap)]) ado jW (by kernel_rfl) rfl rfl (aP (vs:=[.int .i64 (br.1),.int .i64 (br.2.2),.int .i64 (ap)]) rfl rfl (acA rfl) rfl) aW rfl (by decide) (by decide) (by decide) hN ?_)
 clear hN
 intro MW kY (hN:aH w none_ kY [_,_,_,_,_,_,_,_])
 refine⟨(hN.sb [2,3,4,5,6,7]),?_⟩
 refine RQ.bW rfl (cp ado jW rfl (by decide) eH aW hN 1 rfl rfl (hN.sm 0 rfl) rfl (by rw[iX];simp only[acH,acK,acS];omega) (by decide) ?_)
 clear hN
 intro rh kI (hN:aH w none_ kI [_,_,_,_,_,_,_,_])
 refine⟨(hN.sb [2,3,4,5,6,7]),?_⟩
 refine RQ.an rfl (fun w hS=>(ah adM rfl wz)) ?_
 refine RQ.last rfl rfl (b7 wz rfl rfl (hN.sm 1 rfl).cK (hN.sm 1 rfl).bT hN 4 rfl (acA rfl) ?_)
 clear hN
 intro lX (hN:aH w none_ lX [_,_,_,_,_,_,_,_])
 refine RZ.dW (aA ?_)
 have F6:=oz.len
 replace hN:=hN.ext (Ext.drew lX)
 refine RW.bA (fun u=>aH w none_ u [.cd bC 3 246 (.slice (some ⟨MW,0,none⟩) 1 1) ([(br.1,br.2.2,ap)]),.cd bC 3 246 (rh) (es++[(br.1,br.2.2,ap)]),.own vI 3 (v7) (lF),.own vI 3 (v6) (zV),.aJ g4 [v3,rh] 209,.own vI 3 (v3) (cs),.aJ g2 [vN,vN] 209,.aJ g1 [vJ n,mv] 24]) 10 [(0,0),(1,0),(2,0),(3,0),(4,1),(5,0),(6,0),(7,0),(8,0),(9,0),(10,2)] (by intro _ _ _ h;exact h) hN (RQ.an rfl (fun w hS=>(ah adM rfl cc)) (RQ.an rfl (fun w hS=>(aj acz (hS.aJ 4 rfl))) (RQ.an (v:=.func (.func 146) #[] #[vP gm]) rfl (fun w hS=>U) (RQ.an (v:=.int .i64 (ap)) rfl (fun w hS=>U) ?_))))
 have Ii:0≤ap∧ap<(ar.length:Int):=⟨by omega,by omega⟩
 have aO:=cQ ar ((ap).toNat)
 obtain⟨PL,uE⟩:=aO
 have aO:=ff PL (acC uE)
 obtain⟨Rz,Ry,Rx,Rw,Rv,Ru⟩:=aO
 refine RQ.bW rfl (ct (first:=#[]) (captured:=#[vP gm]) (v0:=.int .i64 (ap)) (args:=#[.int .i64 (ap),vP gm]) afg rfl rfl (by simp) rfl rfl ((ki (ap) gm ((n:Int)) _ ar PL _ (hb.ext hN.aX) (hm.o.now hN) Ii.1 uE).mono ?_))
 rintro _ oI ⟨rfl,bl⟩
 replace hN:=hN.ext bl
 clear bl
 refine⟨hN,?_⟩
 have uD:br=PL:=ac7 (LA.symm.trans uE)
 subst uD
 refine RQ.an rfl (fun w hS=>(aD rfl rfl rfl (bg (by omega) (by omega)))) (RQ.an rfl (fun w hS=>(aC acz bI (hS.sl 5 rfl))) ?_)
 have aO:=cQ (cs) ((br.2.1+1).toNat)
 obtain⟨ac,ja⟩:=aO
 refine RQ.an rfl (fun w hS=>(aF (m:=(br.2.1+1).toNat) (a:=ac) acy (hS.sl 5 rfl) ja)) ?_
 have fx:=sL oz (iR bV uE) (by omega) (by omega) ja
 obtain⟨qk,pM,fx⟩:=fx
 refine RQ.an rfl (fun w hS=>(aD rfl rfl rfl (bg (by omega) (by omega)))) (RQ.an rfl (fun w hS=>(aC acz bI (hS.sl 5 rfl))) ?_)
 refine RQ.last rfl rfl (cm (m:=(br.2.1+1).toNat) (a:=(ac+1)) bI hN 5 rfl rfl (by omega) rfl rfl rfl rfl ?_)
 clear hN
 intro qq (hN:aH w none_ qq [_,_,_,_,_,_,_,_])
 refine RZ.dW (ba (aA (RW.region (RL.ag (aD rfl rfl rfl (bg (by omega) (by omega))) (RL.ag (v:=.int .i64 ((i:Int)+1)) U (RL.ak ?_))))))
 exact⟨k-1,by omega,(cs).set (br.2.1+1).toNat ((ac+1)),rh,es++[(br.1,br.2.2,ap)],i+1,rfl,rfl,rfl,rfl,rfl,rfl,rfl,rfl,(hN.sb [1,2,3,4,5,6,7]),by omega,fx,by rw[ef _ bV,OX,xj uE],by rw[acB,iX];rfl⟩
 refine RW.exit ?_
 iterate 2 refine bP ?_
 refine aY (aA ?_)
 iterate 2 refine RW.seq ?_
 refine RW.region (RL.ag (ah acJ rfl bI) (RL.ag (aj acy (hN.aJ 6 rfl)) (RL.ag (v:=.int .i64 (0)) U (RL.ak (RW.block ?_)))))
 refine RW.loop (fun k1 R1 ez=>∃mV:List Int,∃v:Nat,R1 8=vP g2∧R1 9=vP g4∧R1 60=vJ n∧R1 61=vJ v∧aH w none_ ez [.cd bC 3 246 (ve) (es),.own vI 3 (v7) (lF),.own vI 3 (v6) (zV),.aJ g4 [v3,ve] 209,.own vI 3 (v3) (mV),.aJ g2 [vN,vN] 209,.aJ g1 [vJ n,mv] 24]∧(v+k1=n)∧(Cs n mV (f1 (dK ar (·.2.1) lF) v))) (n) ?_ ?_
 have O1:Cs n cs (f0 (dK ar (·.2.1) lF) (dK ar (·.2.1) lF).length):=by rw[vO,←(show i=lF.length by omega)];exact oz
 exact⟨cs,0,rfl,rfl,rfl,rfl,hN,by omega,p4 O1 CK⟩
 clear hN
 rintro k1 R1 ez ⟨mV,v,cM,dN,Al,Ak,hN,Uw,nI⟩
 have cz:=iV cM dN Al Ak
 obtain⟨re,rfl⟩:=cz
 clear cM dN Al Ak
 refine RW.aN (RL.ag (aK) (RL.ak (RW.seq ?_)))
 refine RW.aG _ (fun pP=>?_) (fun pP=>?_)
 refine RW.skip (aA (RW.seq (RW.block (RW.aN (RL.ag (v:=vJ v) U (RL.ag (v:=vJ v) ai (RL.ak ?_)))))))
 have F6:=nI.len
 have aO:=cQ mV (v+1)
 obtain⟨ax,Jj⟩:=aO
 have aO:=cQ mV v
 obtain⟨ay,pY⟩:=aO
 have fx:=sK nI (by omega) Jj pY
 obtain⟨qk,pM,Up,Uo,fx⟩:=fx
 replace hN:=hN.ext (Ext.drew ez)
 refine RW.bA (fun u=>aH w none_ u [.cd bC 3 246 (ve) (es),.own vI 3 (v7) (lF),.own vI 3 (v6) (zV),.aJ g4 [v3,ve] 209,.own vI 3 (v3) (mV),.aJ g2 [vN,vN] 209,.aJ g1 [vJ n,mv] 24]) 13 [(0,0),(1,0),(2,0),(3,0),(4,0),(5,0),(6,0),(7,0),(8,0),(9,0),(10,0),(11,0),(12,0),(13,2)] (by intro _ _ _ h;exact h) hN (RQ.an rfl (fun w hS=>(ah adM rfl cc)) (RQ.an rfl (fun w hS=>(aj acz (hS.aJ 3 rfl))) (RQ.an (v:=vJ v) rfl (fun w hS=>U) (RQ.an rfl (fun w hS=>(aD rfl rfl rfl ((bg (by omega) (by omega)).trans (by omega:(v:Int)+1=((v+1:Nat):Int))))) (RQ.an rfl (fun w hS=>(aC acz bI (hS.sl 4 rfl))) (RQ.an rfl (fun w hS=>(aF (m:=(v+1)) (a:=ax) acy (hS.sl 4 rfl) Jj)) (RQ.an rfl (fun w hS=>(ah adM rfl cc)) (RQ.an rfl (fun w hS=>(aj acz (hS.aJ 3 rfl))) (RQ.an (v:=vJ v) rfl (fun w hS=>U) ?_)))))))))
 refine RQ.an rfl (fun w hS=>(aC acz bI (hS.sl 4 rfl))) (RQ.an rfl (fun w hS=>(aF (m:=v) (a:=ay) acy (hS.sl 4 rfl) pY)) (RQ.an rfl (fun w hS=>(aD rfl rfl rfl (bg (by omega) (by omega)))) (RQ.an rfl (fun w hS=>(aC acz bI (hS.sl 4 rfl))) ?_)))
 refine RQ.last rfl rfl (cm (m:=(v+1)) (a:=(ax+ay)) bI hN 4 rfl rfl (by omega) rfl rfl rfl rfl ?_)
 clear hN
 intro zo (hN:aH w none_ zo [_,_,_,_,_,_,_])
 refine RZ.dW (ba (aA (RW.region (RL.ag (aD rfl rfl rfl (bg (by omega) (by omega))) (RL.ag (v:=.int .i64 ((v:Int)+1)) U (RL.ak ?_))))))
 exact⟨k1-1,by omega,(mV).set (v+1) ((ax+ay)),v+1,rfl,rfl,rfl,rfl,hN,by omega,fx⟩
 refine RW.exit ?_
 iterate 2 refine bP ?_
 refine aY (aA (RW.aN (RL.ag (aE (cs:=[v3,ve]) adM mE (hN.aJ 3 rfl)) ?_)))
 refine RL.aL (aS (vs:=[v3,ve]) mE rfl rfl rfl (by intro u hu;simp only[ac6,ac0,or_false]at hu;rcases hu with rfl|rfl<;>first|rfl|exact(hN.sl 4 rfl).bT|exact(hN.sm 0 rfl).bT) hN 5 rfl rfl ?_)
 clear hN
 intro Bp (hN:aH w none_ Bp [_,_,_,_,_,_,_])
 refine RL.ak (RW.ret (bc (RV.cell rfl rfl (hN.aJ 5 rfl) adM rfl mE) ?_))
 have Ux:v=n:=by omega
 subst Ux
 have ic:i=lF.length:=by omega
 rw[ic,adm]at OX
 exact⟨_,_,mV,es,_,_,rfl,hN.sb [4,0],nI,OX,Ig,Ih⟩
end Go.Proofs.YtngkdkbpgoddlaaGreat
namespace Go.Proofs.YtngkdkbpgoddlaaGreat
open Go.RowKit Go.Rl
open Go.Gr
theorem mn (n:Int) (v:Value) (l:List I3) (w:World) (hv:Sm bC w v l):aM acD 105 #[.agg #[.int .i64 n,v]] w fun r w'=>r=.int .i64 (dU n l)∧Ext w w':=by
 refine aM.aZ ahb ?_
 rw[cH]
 have hN:=aH.nil w none_
 refine RW.aN ?_
 refine RL.aL (bJ (cs:=[.int .i64 (n),v]) rfl rfl hN ?_)
 clear hN
 intro g1 w1 (hN:aH w none_ w1 [_])
 refine RL.ag (v:=.int .i64 (0)) ai (RL.ak ?_)
 iterate 2 refine RW.seq ?_
 refine RW.region (RL.ag (ah acJ rfl bI) (RL.ag (aj acy (hN.aJ 0 rfl)) (RL.ag (cq) (RL.ag (v:=.bool (decide (16777216<n))) U ?_))))
 by_cases kP:16777216<n
 rw[decide_eq_true kP]
 iterate 4 refine RL.bH ?_
 refine RL.ag (v:=.bool true) (al) (RL.ak (RW.bD (RW.aN (RL.ag (v:=.int .i64 (3)) ai (RL.ak (RW.ret ?_))))))
 refine aU (bc (RV.tmp rfl) ?_)
 exact⟨congrArg (ac4 .i64) (if_pos (by omega)).symm,hN.aX⟩
 rw[decide_eq_false kP]
 refine RL.aw (ah acJ rfl eZ) (RL.aw (aj acP (hN.aJ 0 rfl)) ?_)
 have iH:=(hv.o.now hN).bw
 refine RL.aw (bO acP (hv.o.now hN)) (RL.aw (cq) (RL.ag (v:=.bool (decide (67108864<(l.length:Int)))) (aB) (RL.ak ?_)))
 refine RW.aG _ (fun j9=>?_) (fun j9=>?_)
 refine RW.aN (RL.ag (v:=.int .i64 (3)) ai (RL.ak (RW.ret (aU (bc (RV.tmp rfl) ?_)))))
 exact⟨congrArg (ac4 .i64) (if_pos (by omega)).symm,hN.aX⟩
 refine RW.skip (aA ?_)
 iterate 2 refine RW.seq ?_
 refine RW.region (RL.ag (ah acJ rfl bI) (RL.ag (aj acy (hN.aJ 0 rfl)) (RL.ag (aK) (RL.ak ?_))))
 refine RW.aG _ (fun oW=>?_) (fun oW=>?_)
 refine RW.aN (RL.ag (v:=.int .i64 (2)) ai (RL.ak (RW.ret (aU (bc (RV.tmp rfl) ?_)))))
 refine⟨congrArg (ac4 .i64) ?_,hN.aX⟩
 unfold dU
 rw[if_neg (by omega),if_pos (by omega)]
 refine RW.skip (aA ?_)
 iterate 2 refine RW.seq ?_
 refine RW.region (RL.ag (ah acJ rfl eZ) (RL.ag (aj acP (hN.aJ 0 rfl)) (RL.ag (bO acP (hv.o.now hN)) (RL.ag (v:=.int .i64 (0)) U (RL.ak (RW.block ?_))))))
 refine RW.loop (fun k R0 cv=>∃i:Nat,R0 1=vP g1∧R0 18=v∧R0 19=.int .i64 ((l.length:Int))∧R0 20=vJ i∧aH w none_ cv [.aJ g1 [.int .i64 (n),v] 24]∧(i+k=l.length)∧(∀a∈l.take i,EJ n a)) (l.length) ?_ ?_
 exact⟨0,rfl,rfl,rfl,rfl,hN,by omega,fun a ha=>by cases ha⟩
 clear hN
 rintro k R0 cv ⟨i,bN,fc,fz,Av,hN,fP,ff⟩
 have cz:=iV bN fc fz Av
 obtain⟨fV,rfl⟩:=cz
 clear bN fc fz Av
 refine RW.aN (RL.ag (aK) (RL.ak (RW.seq ?_)))
 refine RW.aG _ (fun cD=>?_) (fun cD=>?_)
 refine RW.skip (aA (RW.seq (RW.block (RW.aN (RL.ag (aT acP cY aW (hv.o.now hN)) ?_)))))
 have aO:=cQ (l) i
 obtain⟨ap,bV⟩:=aO
 refine RL.ag (b0 (m:=i) (a:=ap) acT cY aW (hv.o.now hN) bV (cs:=[.int .i64 (ap.1),.int .i64 (ap.2.1),.int .i64 (ap.2.2)])) ?_
 refine RL.aL (bz (cs:=[.int .i64 (0),.int .i64 (0),.int .i64 (0)]) fu rfl hN ?_)
 clear hN
 intro g3 w3 (hN:aH w none_ w3 [_,_])
 refine RL.aL (aS (vs:=[.int .i64 (ap.1),.int .i64 (ap.2.1),.int .i64 (ap.2.2)]) cY rfl rfl rfl (bh (bh (bh cZ))) hN 0 rfl rfl ?_)
 clear hN
 intro w4 (hN:aH w none_ w4 [_,_])
 refine RL.bY (RL.ag (ah acT rfl bI) (RL.ag (aj acy (hN.aJ 0 rfl)) (RL.ag (ah acT rfl bI) (RL.ag (aj acy (hN.aJ 0 rfl)) (RL.ag (ah acT rfl bI) (RL.ag (aj acy (hN.aJ 0 rfl)) ?_))))))
 refine RL.ag (DY rfl rfl rfl) (RL.ag (aK) (RL.ag (v:=.bool (decide ((min (min (ap.1) (ap.2.1)) (ap.2.2))<0))) U ?_))
 by_cases oy:(min (min (ap.1) (ap.2.1)) (ap.2.2))<0
 rw[decide_eq_true oy]
 iterate 8 refine RL.bH ?_
 refine RL.ag (v:=.bool true) (al) (RL.ag (v:=.bool true) U ?_)
 iterate 3 refine RL.bH ?_
 refine RL.ag (v:=.bool true) (al) (RL.ak (RW.bD (RW.aN (RL.ag (v:=.int .i64 (2)) ai (RL.ak (RW.ret ?_))))))
 refine bb ?_
 iterate 2 refine aU ?_
 refine bb (aU (bc (RV.tmp rfl) ?_))
 refine⟨congrArg (ac4 .i64) ?_,hN.aX⟩
 unfold dU
 rw[if_neg (by omega),if_neg (by omega),if_neg]
 intro fQ
 have aO:=fQ ap (acC bV)
 obtain⟨h1,h2,h3,h4,h5,h6⟩:=aO
 omega
 rw[decide_eq_false oy]
 refine RL.aw (ah acT rfl bI) (RL.aw (aj acy (hN.aJ 0 rfl)) (RL.aw (ah acT rfl bI) (RL.aw (aj acy (hN.aJ 0 rfl)) (RL.aw (uS rfl rfl) (RL.aw (ah acJ rfl bI) (RL.aw (aj acy (hN.aJ 1 rfl)) (RL.aw (ck) (RL.ag (v:=.bool (decide (n≤(max (ap.1) (ap.2.1))))) (aB) (RL.ag (v:=.bool (decide (n≤(max (ap.1) (ap.2.1))))) U ?_)))))))))
 by_cases uk:n≤(max (ap.1) (ap.2.1))
 rw[decide_eq_true uk]
 iterate 3 refine RL.bH ?_
 refine RL.ag (v:=.bool true) (al) (RL.ak (RW.bD (RW.aN (RL.ag (v:=.int .i64 (2)) ai (RL.ak (RW.ret ?_))))))
 refine bb ?_
 iterate 2 refine aU ?_
 refine bb (aU (bc (RV.tmp rfl) ?_))
 refine⟨congrArg (ac4 .i64) ?_,hN.aX⟩
 unfold dU
 rw[if_neg (by omega),if_neg (by omega),if_neg]
 intro fQ
 have aO:=fQ ap (acC bV)
 obtain⟨h1,h2,h3,h4,h5,h6⟩:=aO
 omega
 rw[decide_eq_false uk]
 refine RL.aw (ah acT rfl bI) (RL.aw (aj acy (hN.aJ 0 rfl)) (RL.aw (cq) (RL.ag (v:=.bool (decide (2147483648<ap.2.2))) (aB) (RL.ak ?_))))
 refine RW.aG _ (fun VT=>?_) (fun VT=>?_)
 refine RW.aN (RL.ag (v:=.int .i64 (2)) ai (RL.ak (RW.ret (bb ?_))))
 iterate 2 refine aU ?_
 refine bb (aU (bc (RV.tmp rfl) ?_))
 refine⟨congrArg (ac4 .i64) ?_,hN.aX⟩
 unfold dU
 rw[if_neg (by omega),if_neg (by omega),if_neg]
 intro fQ
 have aO:=fQ ap (acC bV)
 obtain⟨h1,h2,h3,h4,h5,h6⟩:=aO
 omega
 refine RW.skip (ba (aA (RW.region (RL.ag (aD rfl rfl rfl (bg (by omega) (by omega))) (RL.ag (v:=.int .i64 ((i:Int)+1)) U (RL.ak ?_))))))
 exact⟨k-1,by omega,i+1,rfl,rfl,rfl,rfl,(hN.sb [1]),by omega,fun a ha=>(dk bV ha).elim (ff a) (fun e=>e▸⟨by omega,by omega,by omega,by omega,by omega,by omega⟩)⟩
 refine RW.exit ?_
 iterate 2 refine bP ?_
 refine aY (aA (RW.aN (RL.ag (v:=.int .i64 (0)) ai (RL.ak (RW.ret (bc (RV.tmp rfl) ?_))))))
 refine⟨congrArg (ac4 .i64) ?_,hN.aX⟩
 unfold dU
 rw[if_neg (by omega),if_neg (by omega),if_pos]
 rw[ac2 (by omega)]at ff
 exact ff
end Go.Proofs.YtngkdkbpgoddlaaGreat
namespace Go.Proofs.YtngkdkbpgoddlaaGreat
open Go.RowKit Go.Rl
open Go.Gr
theorem AR (n:Int) (v:Value) (l:List I3) (w:World) (hv:Sm bC w v l) (h:dU n l=0):aM acD 105 #[.agg #[.int .i64 n,v]] w fun r w'=>r=.int .i64 0∧Ext w w':=(mn n v l w hv).mono fun r w' hr=>by rw[h]at hr;exact hr
theorem uM (n:Nat) (v:Value) (ar:List I3) (w:World) (hv:Sm bC w v ar) (H5:dU (n:Int) ar=0):aM acD 67 #[.agg #[.int .i64 (n:Int),v]] w fun r w'=>∃g mv c0 c1 c2 c3 c4,r=vP g∧ij w' g [.int .i64 (n:Int),mv,c0,c1,c2,c3,c4] 211∧Sm bC w' mv ar∧Ext w w':=by
 refine aM.k7 ahA rfl (acA rfl) ?_
 rw[cH]
 have hN:=aH.nil w none_
 have aO:=nZ H5
 obtain⟨hn0,Z8,im,ff⟩:=aO
 refine XW.seq (XW.bK ?_)
 refine RL.aL (bJ (cs:=[vJ n,v]) rfl rfl hN ?_)
 clear hN
 intro g1 w1 (hN:aH w none_ w1 [_])
 refine RL.ag (v:=.pointer none) ai (RL.nil (cg (bS (XW.scope ?_))))
 iterate 2 refine XW.seq ?_
 refine XW.bK (RL.ag (aE (cs:=[vJ n,v]) acJ dw (hN.aJ 0 rfl)) ?_)
 refine RL.aL (bo ahb rfl rfl rfl ((AR ((n:Int)) _ ar _ (hv.o.now hN) H5).mono ?_))
 rintro _ w2 ⟨rfl,bl⟩
 replace hN:=hN.ext bl
 clear bl
 refine RL.ag (cG (bj) (fun h=>h rfl)) (RL.nil (cg (bS (XW.oA rfl (XW.skip (bS (XW.seq (XW.bK (RL.ag (ah acJ rfl eZ) ?_)))))))))
 refine RL.ag (aj acP (hN.aJ 0 rfl)) ?_
 replace hN:=hN.ew bC 3 100
 refine RL.aL (cp acP tZ rfl (by decide) eH aW hN 0 rfl rfl (hv.o.now hN) rfl (by simp only[acS];omega) (by decide) ?_)
 clear hN
 intro v3 w3 (hN:aH w none_ w3 [_,_])
 replace hN:=hN.xK 0 rfl (show _=ar from aeG _)
 replace hN:aH w none_ w3 [_,_]:=hN
 refine RL.ag (ah acJ rfl eZ) ?_
 refine RL.aL (b7 eZ rfl rfl (hN.sm 0 rfl).cK (hN.sm 0 rfl).bT hN 1 rfl (acA rfl) ?_)
 clear hN
 intro w4 (hN:aH w none_ w4 [_,_])
 refine RL.nil (cg (bS (XW.seq ?_)))
 replace hN:=hN.ext (Ext.drew w4)
 refine XW.A9 rfl (by kernel_rfl) (fun u=>aH w none_ u [.cd bC 3 100 (v3) (ar),.aJ g1 [vJ n,v3] 24]) 8 [(0,0),(1,0),(2,0),(3,0),(4,1),(5,1),(6,1),(7,0)] (by kernel_rfl) hN (RQ.an rfl (fun w hS=>(aE (cs:=[vJ n,v3]) acJ dw (hS.aJ 1 rfl))) (RQ.an rfl (fun w hS=>(ah acJ rfl eZ)) (RQ.an rfl (fun w hS=>(aj acP (hS.aJ 1 rfl))) ?_)))
 have qP:=(hN.sm 0 rfl).bw
 refine RQ.an rfl (fun w hS=>(bO acP (hS.sm 0 rfl))) ?_
 refine RQ.bW rfl (iq (enc:=vB) (z:=false) adR Ug rfl hN rfl (by omega) (by omega) (by omega) ?_)
 clear hN
 intro v6 w6 (hN:aH w none_ w6 [_,_,_])
 refine⟨(hN.sb [1,2]),?_⟩
 refine RQ.bW rfl (ey.ev (bR (cs:=[vJ n,v3,vN,vN,vN,vN,v6]) ad6 Kn (places:=#[(0,2),(2,2),(4,2),(6,1)]) (by intro w;kernel_rfl) (pl:=[(0,.tmp 19),(3,.tmp 23)]) rfl (ps:=[(0,.agg #[vJ n,v3]),(3,v6)]) rfl (zc:=[.int .i64 (0),vN,vN,vN,vN,vN,vN]) rfl (aP (vs:=[vJ n,v3]) rfl rfl (acA rfl) (aP (vs:=[v6]) (hN.sl 0 rfl).cK rfl (acA rfl) rfl))) ⟨(hN.sb [1,2]),?_⟩)
 refine RQ.bW rfl (bJ (cs:=[vJ n,v3,vN,vN,vN,vN,v6]) rfl rfl hN ?_)
 clear hN
 intro g7 w7 (hN:aH w none_ w7 [_,_,_,_])
 refine⟨(hN.sb [2,3]),?_⟩
 refine RQ.an (v:=vP g7) rfl (fun w hS=>ai) (RQ.bq (cg (bS (XW.seq (XW.bK (RL.ag (dM (vs:=[vP g1]) (xs:=[.tmp 1]) rfl rfl) (RL.ag (v:=.func (.func 145) #[] #[vP g1]) ai (RL.nil (cg ?_)))))))))
 refine bS (XW.seq (XW.bK (RL.ag (dM (vs:=[vP g1]) (xs:=[.tmp 1]) rfl rfl) (RL.ag (v:=.func (.func 146) #[] #[vP g1]) ai (RL.nil (cg (bS (XW.seq (XW.bK ?_)))))))))
 refine RL.aL (bz (cs:=[vN]) Gd rfl hN ?_)
 clear hN
 intro g8 w8 (hN:aH w none_ w8 [_,_,_,_,_])
 refine RL.nil (cg (bS ?_))
 iterate 2 refine XW.seq ?_
 have F7:=hN.Nv (M:=[.aJ g8 [vN] 25,.aJ g7 [vJ n,v3,vN,vN,vN,vN,v6] 211,.own vB 4 (v6) (ac3 (((ar).length:Int)).toNat false)]) 3 rfl [0,1,2] rfl rfl
 have pZ:=hN.PJ (M:=[.aJ g8 [vN] 25,.aJ g7 [vJ n,v3,vN,vN,vN,vN,v6] 211,.own vB 4 (v6) (ac3 (((ar).length:Int)).toNat false)]) 4 rfl [0,1,2] rfl rfl
 have S3:aH w none_ w8 [.aJ g8 [vN] 25,.aJ g7 [vJ n,v3,vN,vN,vN,vN,v6] 211,.own vB 4 (v6) (ac3 (((ar).length:Int)).toNat false)]:=hN.sb [0,1,2]
 clear hN
 have hN:=S3.here
 replace hN:aH w8 _ w8 [.aJ g8 [vN] 25,.aJ g7 [vJ n,v3,vN,vN,vN,vN,v6] 211,.own vB 4 (v6) (ac3 (((ar).length:Int)).toNat false)]:=hN
 replace hN:=hN.dy vI 3
 replace hN:aH w8 _ w8 [.own vI 3 (vN) ([]),.aJ g8 [vN] 25,.aJ g7 [vJ n,v3,vN,vN,vN,vN,v6] 211,.own vB 4 (v6) (ac3 (((ar).length:Int)).toNat false)]:=hN
 refine XW.bK (RL.ag (ah acJ rfl eZ) (RL.ag (aj acP (pZ.now hN)) ?_))
 refine RL.aL (bu ajL rfl rfl rfl rfl ((x8 _ (ar) _ (F7.now hN)).mono ?_))
 rintro _ kI ⟨S8,S7,rfl,cE⟩
 replace hN:aH w8 _ kI [_,_,_,_,_,_]:=hN.fG cE
 clear cE
 refine RL.nil (cg (bS (XW.block ?_)))
 refine XW.BZ (gf:=190) (lb:=#[vP S8,vP S7]) (M:=[_,_]) (fun s:Value×List Int=>[.aJ g8 [s.1] 25,.own vI 3 s.1 s.2,.aJ g7 [vJ n,v3,vN,vN,vN,vN,v6] 211,.own vB 4 (v6) (ac3 (((ar).length:Int)).toNat false)]) (Bo Int) (vN,[]) (hN.sb [3,2,4,5,0,1]) rfl ajM rfl rfl (z7 (ar) S8 S7 _ (by omega)) Bo.on F7 (fun _=>rfl) (by decide) ?_ ?_
 clear hN
 rintro l_ D_ Mf FF ⟨v_,a_⟩ x_ QT Mg wr fy Lh Qj hN
 change XW _ _ _ _ _ _ (dm _ 31 (.int .i64 (x_))) _
 replace hN:aH wr FF wr [.obj l_ (.loop (Mf .ready none)),.obj D_ (.deferred (some [])),.aJ g8 [v_] 25,.own vI 3 (v_) (a_),.aJ g7 [vJ n,v3,vN,vN,vN,vN,v6] 211,.own vB 4 (v6) (ac3 (((ar).length:Int)).toNat false)]:=hN
 have Pc:a_.length<((fb (ny ar) 0 ar.length)).length:=D5 fy rfl Lh
 have Uq:=nV (ny ar) ar.length 0
 refine XW.bK (RL.ag (v:=.int .i64 (x_)) ai (RL.nil (cg (uZ ?_))))
 clear hN
 intro lX (hN:aH wr FF lX [.obj l_ (.loop (Mf .busy none)),.obj D_ (.deferred (some [])),.aJ g8 [v_] 25,.own vI 3 (v_) (a_),.aJ g7 [vJ n,v3,vN,vN,vN,vN,v6] 211,.own vB 4 (v6) (ac3 (((ar).length:Int)).toNat false)])
 refine XW.block (XW.bK (RL.ag (aj acz (hN.aJ 2 rfl)) (RL.ag (v:=.int .i64 (x_)) U ?_)))
 refine RL.aL (cx (enc:=vI) (l:=[x_]) (xs:=[.tmp 33]) acz bI mN rfl rfl (fun _=>rfl) rfl (by decide) (by decide) hN ?_)
 clear hN
 intro MV oI (hN:aH wr FF oI [_,_,_,_,_,_,_])
 refine RL.aL (b9 acz fI rfl (fun _=>rfl) hN 4 rfl rfl (hN.sl 0 rfl) rfl (by(try simp only[acB,ac9,adj,acS,acK,acH,adb,acB,ada]);omega) (by decide) ?_)
 clear hN
 intro kZ ph (hN:aH wr FF ph [_,_,_,_,_,_,_])
 refine RL.aL (b7 cc rfl rfl (hN.sl 4 rfl).cK (hN.sl 4 rfl).bT hN 3 rfl (acA rfl) ?_)
 clear hN
 intro qq (hN:aH wr FF qq [_,_,_,_,_,_,_])
 refine RL.nil (cg (eX ?_))
 exact xI ⟨kZ,a_++[x_]⟩ ⟨rfl,rfl⟩ (hN.sb [1,2,3,4,5,6])
 clear hN
 rintro l_ D_ o_ ⟨v_,a_⟩ u3 fy hN
 replace hN:aH w8 _ u3 [.obj l_ o_,.obj D_ (.deferred (some [])),.aJ g8 [v_] 25,.own vI 3 (v_) (a_),.aJ g7 [vJ n,v3,vN,vN,vN,vN,v6] 211,.own vB 4 (v6) (ac3 (((ar).length:Int)).toNat false)]:=hN
 have Qq:a_=(fb (ny ar) 0 ar.length):=yR fy
 refine eX (bS (XW.seq ?_))
 have Us:=nV (ny ar) ar.length 0
 have Rf:∀x∈a_,0≤x∧x<(ar.length:Int):=fun x hx=>by
   rw[Qq]at hx
   have aO:=wT.1 hx
   obtain⟨j,_,hj,_,rfl⟩:=aO
   omega
 have Pc:a_.length≤ar.length:=by rw[Qq];exact Us
 refine XW.bK (RL.ag (v:=.int .i64 (-1)) ai (RL.nil (cg (bS (XW.seq (XW.label (bS ?_)))))))
 iterate 2 refine XW.seq ?_
 replace hN:=hN.ext (Ext.drew u3)
 refine XW.A9 rfl (by kernel_rfl) (fun u=>aH w8 (b6 [.aJ g8 [vN] 25,.aJ g7 [vJ n,v3,vN,vN,vN,vN,v6] 211,.own vB 4 (v6) (ac3 (((ar).length:Int)).toNat false)]) u [.obj l_ o_,.obj D_ (.deferred (some [])),.aJ g8 [v_] 25,.own vI 3 (v_) (a_),.aJ g7 [vJ n,v3,vN,vN,vN,vN,v6] 211,.own vB 4 (v6) (ac3 (((ar).length:Int)).toNat false)]) 11 [(0,0),(1,0),(2,0),(3,0),(4,0),(5,0),(7,0),(10,0),(6,1),(8,1),(9,1)] (by kernel_rfl) hN (RQ.an rfl (fun w hS=>(ah acJ rfl bI)) (RQ.an rfl (fun w hS=>(aj acy (pZ.now hS))) (RQ.an rfl (fun w hS=>(ah acJ rfl bI)) (RQ.an rfl (fun w hS=>(aj acy (pZ.now hS))) (RQ.an rfl (fun w hS=>(aj acz (hS.aJ 2 rfl))) (RQ.an (v:=.func (.func 146) #[] #[vP g1]) rfl (fun w hS=>U) (RQ.an (v:=.func (.func 145) #[] #[vP g1]) rfl (fun w hS=>U) (RQ.an (v:=.int .i64 (0)) rfl (fun w hS=>U) ?_))))))))
 refine RQ.bW rfl (cn afh rfl rfl rfl rfl rfl ((qv n _ a_ g1 _ ar _ (hN.sl 3 rfl) (pZ.now hN) (F7.now hN) ff Rf (by omega) (by omega)).mono ?_))
 rintro T5 vd ⟨KP,cL,Sr,bl⟩
 replace hN:aH w8 _ vd [_,_,_,_,_,_,_]:=hN.cl cL bl
 clear cL bl
 have Mu:=Sr.perm (fC _ _ _)
 have XX:=Mu.length_eq
 have Mn:∀x∈KP,0≤x∧x<(ar.length:Int):=fun x hx=>Rf x (Mu.mem_iff.1 hx)
 refine⟨(hN.sb [1,2,3,4,5,6]),?_⟩
 refine RQ.bW rfl (cn afh rfl rfl rfl rfl rfl ((nk n _ KP g1 _ ar _ (hN.sl 0 rfl) (pZ.now hN) (F7.now hN) ff Mn (by omega) (by omega)).mono ?_))
 rintro J2 zo ⟨B8,cL,Sq,bl⟩
 replace hN:aH w8 _ zo [_,_,_,_,_,_,_,_]:=hN.cl cL bl
 clear cL bl
 have Mt:=Sq.perm (fC _ _ _)
 have XV:=Mt.length_eq
 have Rg:∀x∈B8,0≤x∧x<(ar.length:Int):=fun x hx=>Mn x (Mt.mem_iff.1 hx)
 refine⟨(hN.sb [2,3,4,5,6,7]),?_⟩
 have SY:=(hN.sl 0 rfl).bw
 refine RQ.bW rfl (ey.ev (aQ acz (hN.sl 0 rfl)) ⟨(hN.sb [2,3,4,5,6,7]),?_⟩)
 refine RQ.bq (cg (bS (XW.block ?_)))
 refine XW.loop (fun k R0 cv=>∃la:Int,∃kl:List Bool,∃i:Nat,R0 1=vP g1∧R0 3=vP g7∧R0 4=.func (.func 145) #[] #[vP g1]∧R0 5=.func (.func 146) #[] #[vP g1]∧R0 8=.int .i64 (la)∧R0 44=J2∧R0 45=.int .i64 ((B8.length:Int))∧R0 46=vJ i∧aH w8 (b6 [.aJ g8 [vN] 25,.aJ g7 [vJ n,v3,vN,vN,vN,vN,v6] 211,.own vB 4 (v6) (ac3 (((ar).length:Int)).toNat false)]) cv [.own vI 3 (J2) (B8),.own vI 3 (T5) (KP),.obj l_ o_,.obj D_ (.deferred (some [])),.aJ g8 [v_] 25,.own vI 3 (v_) (a_),.aJ g7 [vJ n,v3,vN,vN,vN,vN,v6] 211,.own vB 4 (v6) (kl)]∧(i+k=B8.length)∧(la= -1∨(0≤la∧la<(ar.length:Int)))∧(kl.length=ar.length)) (B8.length) ?_ ?_
 exact⟨-1,ac3 ar.length false,0,rfl,rfl,rfl,rfl,rfl,rfl,rfl,rfl,hN,by omega,.inl rfl,adb⟩
 clear hN
 rintro k R0 cv ⟨la,kl,i,bN,cb,cu,cy,cM,Mr,Mq,Mp,hN,fP,CI,vO⟩
 have cz:=rN bN cb cu cy cM Mr Mq Mp
 obtain⟨fV,rfl⟩:=cz
 clear bN cb cu cy cM Mr Mq Mp
 refine XW.seq (XW.bK (RL.ag (aK) (RL.nil (cg (bS (XW.seq ?_))))))
 refine XW.mK _ rfl (fun cD=>?_) (fun cD=>?_)
 refine XW.skip (bS (XW.seq (XW.block (XW.seq (XW.bK (RL.ag (aC acz bI (hN.sl 0 rfl)) ?_))))))
 have aO:=cQ (B8) i
 obtain⟨ap,bV⟩:=aO
 refine RL.ag (aF (m:=i) (a:=ap) acy (hN.sl 0 rfl) bV) (RL.ag (v:=.int .i64 (ap)) ai ?_)
 have aO:=Rg ap (acC bV)
 obtain⟨Sz,Sy⟩:=aO
 refine RL.nil (cg (bS ?_))
 iterate 2 refine XW.seq ?_
 refine XW.bK (RL.ag (v:=.int .i64 (la)) U (RL.ag (ck) (RL.ag (v:=.bool (decide (0≤la))) U ?_)))
 by_cases IZ:0≤la
 rw[decide_eq_true IZ]
 refine RL.aw (v:=.func (.func 145) #[] #[vP g1]) U (RL.aw (v:=.int .i64 (la)) U ?_)
 have Sx:0≤la∧la<(ar.length:Int):=⟨by omega,by omega⟩
 have aO:=cQ ar ((la).toNat)
 obtain⟨Th,SU⟩:=aO
 have aO:=ff Th (acC SU)
 obtain⟨XG,XE,XD,XC,XB,Xz⟩:=aO
 refine RL.er (ct (first:=#[]) (captured:=#[vP g1]) (v0:=.int .i64 (la)) (args:=#[.int .i64 (la),vP g1]) aff rfl rfl (by simp) rfl rfl ((iI (la) g1 ((n:Int)) _ ar Th _ (pZ.now hN) (F7.now hN) Sx.1 SU).mono ?_))
 rintro _ BB ⟨rfl,bl⟩
 replace hN:=hN.ext bl
 clear bl
 refine RL.aw (v:=.func (.func 145) #[] #[vP g1]) U (RL.aw (v:=.int .i64 (ap)) U ?_)
 have Sw:0≤ap∧ap<(ar.length:Int):=⟨by omega,by omega⟩
 have aO:=cQ ar ((ap).toNat)
 obtain⟨M3,SS⟩:=aO
 have aO:=ff M3 (acC SS)
 obtain⟨Xy,Xx,Xw,Xv,Xu,Xt⟩:=aO
 refine RL.er (ct (first:=#[]) (captured:=#[vP g1]) (v0:=.int .i64 (ap)) (args:=#[.int .i64 (ap),vP g1]) aff rfl rfl (by simp) rfl rfl ((iI (ap) g1 ((n:Int)) _ ar M3 _ (pZ.now hN) (F7.now hN) Sw.1 SS).mono ?_))
 rintro _ zn ⟨rfl,bl⟩
 replace hN:=hN.ext bl
 clear bl
 refine RL.aw (ca) (RL.ag (v:=.bool (decide (Th.1=M3.1))) (al) (RL.ag (v:=.bool (decide (Th.1=M3.1))) U ?_))
 by_cases DT:Th.1=M3.1
 rw[decide_eq_true DT]
 refine RL.aw (v:=.func (.func 146) #[] #[vP g1]) U (RL.aw (v:=.int .i64 (la)) U ?_)
 have Sv:0≤la∧la<(ar.length:Int):=⟨by omega,by omega⟩
 have aO:=cQ ar ((la).toNat)
 obtain⟨WC,SR⟩:=aO
 have aO:=ff WC (acC SR)
 obtain⟨Xs,Xr,Xq,Xp,Xo,Xn⟩:=aO
 refine RL.er (ct (first:=#[]) (captured:=#[vP g1]) (v0:=.int .i64 (la)) (args:=#[.int .i64 (la),vP g1]) afg rfl rfl (by simp) rfl rfl ((ki (la) g1 ((n:Int)) _ ar WC _ (pZ.now hN) (F7.now hN) Sv.1 SR).mono ?_))
 rintro _ L7 ⟨rfl,bl⟩
 replace hN:=hN.ext bl
 clear bl
 refine RL.aw (v:=.func (.func 146) #[] #[vP g1]) U (RL.aw (v:=.int .i64 (ap)) U ?_)
 have Su:0≤ap∧ap<(ar.length:Int):=⟨by omega,by omega⟩
 have aO:=cQ ar ((ap).toNat)
 obtain⟨Tg,SQ⟩:=aO
 have aO:=ff Tg (acC SQ)
 obtain⟨Xm,Xl,Xk,Xj,Xi,Xh⟩:=aO
 refine RL.er (ct (first:=#[]) (captured:=#[vP g1]) (v0:=.int .i64 (ap)) (args:=#[.int .i64 (ap),vP g1]) afg rfl rfl (by simp) rfl rfl ((ki (ap) g1 ((n:Int)) _ ar Tg _ (pZ.now hN) (F7.now hN) Su.1 SQ).mono ?_))
 rintro _ Gn ⟨rfl,bl⟩
 replace hN:=hN.ext bl
 clear bl
 refine RL.aw (ca) (RL.ag (v:=.bool (decide (WC.2.1=Tg.2.1))) (al) (RL.nil (cg (bS ?_))))
 refine XW.mK _ rfl (fun VP=>?_) (fun VP=>?_)
 iterate 2 refine XW.seq ?_
 refine XW.bK (RL.ag (aE (cs:=[vJ n,v3]) acJ dw (pZ.now hN)) (RL.ag (v:=.int .i64 (ap)) U (RL.ag (v:=.int .i64 (la)) U ?_)))
 have aO:=cQ ar ((ap).toNat)
 obtain⟨e31,VG⟩:=aO
 have aO:=cQ ar ((la).toNat)
 obtain⟨e32,VF⟩:=aO
 refine RL.aL (cn ajQ rfl rfl rfl rfl rfl ((yO ((n:Int)) (ap) (la) _ ar e31 e32 _ (F7.now hN) (by omega) VG (by omega) VF).mono ?_))
 rintro _ L6 ⟨rfl,bl⟩
 replace hN:=hN.ext bl
 clear bl
 refine RL.ag (cU rfl) (RL.nil (cg (bS ?_)))
 refine XW.mK _ rfl (fun VO=>?_) (fun VO=>?_)
 refine XW.exit ?_
 iterate 2 refine na ?_
 refine iK (bS (XW.bK (RL.ag (aD rfl rfl rfl (bg (by omega) (by omega))) (RL.ag (v:=.int .i64 ((i:Int)+1)) U (RL.nil (cg (bS ?_)))))))
 exact⟨rfl,k-1,by omega,la,kl,i+1,rfl,rfl,rfl,rfl,rfl,rfl,rfl,rfl,hN,by omega,CI,by(try simp only[adO]);exact vO⟩
 refine XW.skip (bS (XW.bK (RL.ag (v:=vP g7) U (RL.ag (bM) (RL.ag (ah ad6 rfl wA) (RL.ag (aj adR (hN.aJ 6 rfl)) (RL.ag (v:=.int .i64 (la)) U (RL.ag (aC adR oM (hN.sl 7 rfl)) ?_))))))))
 refine RL.aL (cm (m:=(la).toNat) (a:=false) oM hN 7 rfl rfl (by omega) rfl rfl rfl rfl ?_)
 clear hN
 intro Gm (hN:aH w8 _ Gm [_,_,_,_,_,_,_,_])
 refine RL.nil (cg (bS ?_))
 have OI:((kl).set (la).toNat (false)).length=ar.length:=by(try simp only[adO]);exact vO
 refine XW.bK (RL.ag (v:=vP g7) U (RL.ag (bM) (RL.ag (ah ad6 rfl wA) (RL.ag (aj adR (hN.aJ 6 rfl)) ?_))))
 iterate 2 refine RL.ag (v:=.int .i64 (ap)) U ?_
 refine RL.ag (aC adR oM (hN.sl 7 rfl)) ?_
 refine RL.aL (cm (m:=(ap).toNat) (a:=true) oM hN 7 rfl rfl (by omega) rfl rfl rfl rfl ?_)
 clear hN
 intro Ks (hN:aH w8 _ Ks [_,_,_,_,_,_,_,_])
 refine RL.ag (v:=.int .i64 (ap)) ai (RL.nil (cg (eX (bS (XW.bK (RL.ag (aD rfl rfl rfl (bg (by omega) (by omega))) (RL.ag (v:=.int .i64 ((i:Int)+1)) U (RL.nil (cg ?_)))))))))
 refine bS ?_
 exact⟨rfl,k-1,by omega,ap,((kl).set (la).toNat (false)).set (ap).toNat (true),i+1,rfl,rfl,rfl,rfl,rfl,rfl,rfl,rfl,hN,by omega,.inr ⟨by omega,by omega⟩,by(try simp only[adO]);exact vO⟩
 refine XW.skip (bS ?_)
 have OI:(kl).length=ar.length:=by(try simp only[adO]);exact vO
 refine XW.bK (RL.ag (v:=vP g7) U (RL.ag (bM) (RL.ag (ah ad6 rfl wA) (RL.ag (aj adR (hN.aJ 6 rfl)) ?_))))
 iterate 2 refine RL.ag (v:=.int .i64 (ap)) U ?_
 refine RL.ag (aC adR oM (hN.sl 7 rfl)) ?_
 refine RL.aL (cm (m:=(ap).toNat) (a:=true) oM hN 7 rfl rfl (by omega) rfl rfl rfl rfl ?_)
 clear hN
 intro L4 (hN:aH w8 _ L4 [_,_,_,_,_,_,_,_])
 refine RL.ag (v:=.int .i64 (ap)) ai (RL.nil (cg (eX (bS (XW.bK (RL.ag (aD rfl rfl rfl (bg (by omega) (by omega))) (RL.ag (v:=.int .i64 ((i:Int)+1)) U (RL.nil (cg ?_)))))))))
 refine bS ?_
 exact⟨rfl,k-1,by omega,ap,(kl).set (ap).toNat (true),i+1,rfl,rfl,rfl,rfl,rfl,rfl,rfl,rfl,hN,by omega,.inr ⟨by omega,by omega⟩,by(try simp only[adO]);exact vO⟩
 rw[decide_eq_false DT]
 iterate 7 refine RL.bH ?_
 refine RL.ag (v:=.bool false) (aB) (RL.nil (cg (bS (XW.oA rfl (XW.skip (bS ?_))))))
 have OI:(kl).length=ar.length:=by(try simp only[adO]);exact vO
 refine XW.bK (RL.ag (v:=vP g7) U (RL.ag (bM) (RL.ag (ah ad6 rfl wA) (RL.ag (aj adR (hN.aJ 6 rfl)) ?_))))
 iterate 2 refine RL.ag (v:=.int .i64 (ap)) U ?_
 refine RL.ag (aC adR oM (hN.sl 7 rfl)) ?_
 refine RL.aL (cm (m:=(ap).toNat) (a:=true) oM hN 7 rfl rfl (by omega) rfl rfl rfl rfl ?_)
 clear hN
 intro P4 (hN:aH w8 _ P4 [_,_,_,_,_,_,_,_])
 refine RL.ag (v:=.int .i64 (ap)) ai (RL.nil (cg (eX (bS (XW.bK (RL.ag (aD rfl rfl rfl (bg (by omega) (by omega))) (RL.ag (v:=.int .i64 ((i:Int)+1)) U (RL.nil (cg ?_)))))))))
 refine bS ?_
 exact⟨rfl,k-1,by omega,ap,(kl).set (ap).toNat (true),i+1,rfl,rfl,rfl,rfl,rfl,rfl,rfl,rfl,hN,by omega,.inr ⟨by omega,by omega⟩,by(try simp only[adO]);exact vO⟩
 rw[decide_eq_false IZ]
 iterate 7 refine RL.bH ?_
 refine RL.ag (v:=.bool false) (aB) (RL.ag (v:=.bool false) U ?_)
 iterate 7 refine RL.bH ?_
 refine RL.ag (v:=.bool false) (aB) (RL.nil (cg (bS (XW.oA rfl (XW.skip (bS ?_))))))
 have OI:(kl).length=ar.length:=by(try simp only[adO]);exact vO
 refine XW.bK (RL.ag (v:=vP g7) U (RL.ag (bM) (RL.ag (ah ad6 rfl wA) (RL.ag (aj adR (hN.aJ 6 rfl)) ?_))))
 iterate 2 refine RL.ag (v:=.int .i64 (ap)) U ?_
 refine RL.ag (aC adR oM (hN.sl 7 rfl)) ?_
 refine RL.aL (cm (m:=(ap).toNat) (a:=true) oM hN 7 rfl rfl (by omega) rfl rfl rfl rfl ?_)
 clear hN
 intro Ns (hN:aH w8 _ Ns [_,_,_,_,_,_,_,_])
 refine RL.ag (v:=.int .i64 (ap)) ai (RL.nil (cg (eX (bS (XW.bK (RL.ag (aD rfl rfl rfl (bg (by omega) (by omega))) (RL.ag (v:=.int .i64 ((i:Int)+1)) U (RL.nil (cg ?_)))))))))
 refine bS ?_
 exact⟨rfl,k-1,by omega,ap,(kl).set (ap).toNat (true),i+1,rfl,rfl,rfl,rfl,rfl,rfl,rfl,rfl,hN,by omega,.inr ⟨by omega,by omega⟩,by(try simp only[adO]);exact vO⟩
 refine XW.exit ?_
 iterate 2 refine na ?_
 refine iK (bS (XW.seq (XW.bK (RL.ag (v:=vP g7) U ?_))))
 refine RL.aL (bo ajP rfl rfl rfl ((Aa g7 (vJ n) (v3) (vN) (vN) (vN) (vN) _ kl _ (hN.aJ 6 rfl) (hN.sl 7 rfl) (by omega)).mono ?_))
 rintro Tv Kr ⟨cL,bl⟩
 replace hN:aH w8 _ Kr [_,_,_,_,_,_,_,_,_]:=hN.cl (l:=(fb (oa kl) 0 kl.length)) cL bl
 clear cL bl
 have Ss:∀x∈(fb (oa kl) 0 kl.length),0≤x∧x<(ar.length:Int):=fun x hx=>by
   have aO:=wT.1 hx
   obtain⟨j,_,hj,_,rfl⟩:=aO
   omega
 have aaq:=nV (oa kl) kl.length 0
 refine RL.ag (v:=Tv) ai (RL.nil (cg (bS (XW.seq ?_))))
 replace hN:=hN.ext (Ext.drew Kr)
 refine XW.A9 rfl (by kernel_rfl) (fun u=>aH w8 (b6 [.aJ g8 [vN] 25,.aJ g7 [vJ n,v3,vN,vN,vN,vN,v6] 211,.own vB 4 (v6) (ac3 (((ar).length:Int)).toNat false)]) u [.own vI 3 (J2) (B8),.own vI 3 (T5) (KP),.obj l_ o_,.obj D_ (.deferred (some [])),.aJ g8 [v_] 25,.own vI 3 (v_) (a_),.own vB 4 (v6) (kl)]) 18 [(0,0),(1,0),(2,0),(3,0),(4,0),(5,0),(7,0),(8,0),(9,0),(10,0),(6,1),(11,1),(12,0),(13,0),(14,1),(15,0),(16,0),(17,1)] (by kernel_rfl) (hN.sb [1,2,3,4,5,6,8]) ?_
 iterate 2 refine RQ.an (v:=vP g7) rfl (fun w hS=>U) ?_
 refine RQ.an rfl (fun w hS=>(aE (cs:=[vJ n,v3]) acJ dw (pZ.now hS))) (RQ.an (v:=Tv) rfl (fun w hS=>U) (RQ.an (v:=.func (.func 145) #[] #[vP g1]) rfl (fun w hS=>U) (RQ.an (v:=.func (.func 146) #[] #[vP g1]) rfl (fun w hS=>U) (RQ.an rfl (fun w hS=>(aE (cs:=[vJ n,v3]) acJ dw (pZ.now hS))) (RQ.an (v:=Tv) rfl (fun w hS=>U) (RQ.an (v:=.func (.func 146) #[] #[vP g1]) rfl (fun w hS=>U) (RQ.an (v:=.func (.func 145) #[] #[vP g1]) rfl (fun w hS=>U) ?_)))))))
 refine RQ.bW rfl (dH aha rfl rfl rfl rfl rfl rfl ((Hx n _ (fb (oa kl) 0 kl.length) g1 _ ar _ (hN.sl 0 rfl) (pZ.now hN) (F7.now hN) ff Ss (by omega) (by omega)).mono ?_))
 rintro _ Kq ⟨WB,Ww,abn,abh,Zk,Zi,rfl,cE,_,_,_,_⟩
 replace hN:aH w8 _ Kq [_,_,_,_,_,_,_,_,_,_,_]:=hN.fG cE
 clear cE
 refine⟨(hN.sb [3,4,5,6,7,8,10]),?_⟩
 refine RQ.bW rfl (dH aha rfl rfl rfl rfl rfl rfl ((NX n _ (fb (oa kl) 0 kl.length) g1 _ ar _ (hN.sl 2 rfl) (pZ.now hN) (F7.now hN) ff Ss (by omega) (by omega)).mono ?_))
 rintro _ Tu ⟨WA,Wv,abm,abg,Zj,Zh,rfl,cE,_,_,_,_⟩
 replace hN:aH w8 _ Tu [_,_,_,_,_,_,_,_,_,_,_,_,_]:=hN.fG cE
 clear cE
 refine⟨(hN.sb [5,6,7,8,9,10,12]),?_⟩
 refine RQ.an rfl (fun w hS=>(bM)) (RQ.an rfl (fun w hS=>(ah ad6 rfl mE)) ?_)
 refine RQ.bW rfl (pC (vs:=[WB,Ww]) mE rfl rfl rfl (by intro u hu;simp only[ac6,ac0,or_false]at hu;rcases hu with rfl|rfl<;>first|rfl|exact(hN.sl 2 rfl).bT|exact(hN.sm 3 rfl).bT) hN 11 rfl (acA rfl) ?_)
 clear hN
 intro P2 (hN:aH w8 _ P2 [_,_,_,_,_,_,_,_,_,_,_,_,_])
 refine⟨(hN.sb [5,6,7,8,9,10,12]),?_⟩
 refine RQ.an rfl (fun w hS=>(bM)) (RQ.an rfl (fun w hS=>(ah ad6 rfl mE)) ?_)
 refine RQ.bW rfl (pC (vs:=[WA,Wv]) mE rfl rfl rfl (by intro u hu;simp only[ac6,ac0,or_false]at hu;rcases hu with rfl|rfl<;>first|rfl|exact(hN.sl 0 rfl).bT|exact(hN.sm 1 rfl).bT) hN 11 rfl (acA rfl) ?_)
 clear hN
 intro P1 (hN:aH w8 _ P1 [_,_,_,_,_,_,_,_,_,_,_,_,_])
 refine⟨(hN.sb [5,6,7,8,9,10,12]),?_⟩
 refine RQ.bq (cg (bS (XW.seq (XW.bK (RL.ag (v:=vP g7) U (RL.ag (v:=vP g7) ai (RL.nil (cg (bS ?_)))))))))
 refine XW.ret (Di (Ge hN (.inl rfl) 8 rfl ?_))
 clear hN
 intro P0 (hN:aH w8 _ P0 [_,_,_,_,_,_,_,_,_,_,_,_,_])
 refine⟨_,RV.tmp rfl,?_⟩
 exact⟨_,_,_,_,_,_,_,rfl,(hN.aJ 11 rfl),(F7.now hN),(S3.back hN).aX⟩
theorem yz (n:Int) (v:Value) (ar:List I3) (w:World) (hv:Sm bC w v ar) (LB:¬dU n ar=0):aM acD 67 #[.agg #[.int .i64 n,v]] w fun r w'=>r=.pointer none∧Ext w w':=by
 refine aM.k7 ahA rfl (acA rfl) ?_
 rw[cH]
 have hN:=aH.nil w none_
 refine XW.seq (XW.bK ?_)
 refine RL.aL (bJ (cs:=[.int .i64 (n),v]) rfl rfl hN ?_)
 clear hN
 intro g1 w1 (hN:aH w none_ w1 [_])
 refine RL.ag (v:=.pointer none) ai (RL.nil (cg (bS (XW.scope ?_))))
 iterate 2 refine XW.seq ?_
 refine XW.bK (RL.ag (aE (cs:=[.int .i64 (n),v]) acJ dw (hN.aJ 0 rfl)) ?_)
 refine RL.aL (bo ahb rfl rfl rfl ((mn (n) _ ar _ (hv.o.now hN)).mono ?_))
 rintro _ w2 ⟨rfl,bl⟩
 replace hN:=hN.ext bl
 clear bl
 refine RL.ag (dB (bj) LB) (RL.nil (cg (bS (XW.JR rfl (XW.seq (XW.bK (RL.ag (v:=.pointer none) ai (RL.nil (cg ?_)))))))))
 refine bS (XW.ret (Nj (Di (QA (RV.tmp rfl) ?_))))
 exact⟨rfl,hN.aX⟩
end Go.Proofs.YtngkdkbpgoddlaaGreat
namespace Go.Proofs.YtngkdkbpgoddlaaGreat
open Go.RowKit Go.Rl
open Go.Gr
theorem n7 (h:yW) (x:Int) (g:Nat) (w:World) (hN:aH w (b6 [.aJ g [.int .u64 ((h).toNat:Int)] 57]) w [.aJ g [.int .u64 ((h).toNat:Int)] 57]):aM acD 153 #[.int .i64 x,vP g] w fun r w'=>r=.tuple #[]∧aH w (b6 [.aJ g [.int .u64 ((h).toNat:Int)] 57]) w' [.aJ g [.int .u64 ((k6 h x).toNat:Int)] 57]:=by
 refine aM.aZ agt ?_
 rw[cS]
 refine RW.aN (RL.ag (aj adK (hN.aJ 0 rfl)) (RL.ag (v:=.int .i64 (x)) U (RL.ag (en acy adK rfl (GQ x)) (RL.ag (aD rfl rfl rfl (Dr _ _)) (RL.ag (aD rfl rfl rfl (Mc _)) ?_)))))
 refine RL.aL (b7 Nu rfl rfl rfl rfl hN 0 rfl (acA rfl) ?_)
 clear hN
 intro w1 (hN:aH w _ w1 [_])
 refine RL.ak (RW.region ?_)
 iterate 2 refine RL.ag (aj adK (hN.aJ 0 rfl)) ?_
 refine RL.ag (nL rfl rfl (by decide) (QL _)) (RL.ag (aD rfl rfl rfl (Dr _ _)) ?_)
 refine RL.aL (b7 Nu rfl rfl rfl rfl hN 0 rfl (acA rfl) ?_)
 clear hN
 intro w2 (hN:aH w _ w2 [_])
 refine RL.nil (QP (RV.zero rfl) ?_)
 exact⟨rfl,hN⟩
end Go.Proofs.YtngkdkbpgoddlaaGreat
namespace Go.Proofs.YtngkdkbpgoddlaaGreat
open Go.RowKit Go.Rl
open Go.dj
theorem uY (wide:Int) (w:World):aM acD 129 #[vi wide] w fun r w'=>r=vi (clip wide:Nat)∧w=w':=by
 refine aM.aZ aik ?_
 rw[cH]
 refine RW.aN (RL.ag ai (RL.bY (RL.ag U (RL.ag (yD rfl rfl) (RL.ag (uS rfl rfl) ?_)))))
 refine RL.ag ai (RL.ak (RW.ret (bc (RV.tmp rfl) ?_)))
 refine⟨?_,rfl⟩
 show ac4 .i64 (max 0 (min wide 8))=_
 unfold clip vi;congr 1;omega
theorem lE (n:Nat) (wide:Int) (w:World) (hn:n<18446744073709551616):aM acD 66 #[.int .u64 (n:Int),vi wide] w fun r w'=>eB vb 5 w' w.heap.size r (put n (clip wide))∧Ext w w':=by
 refine aM.aZ af4 ?_
 rw[cS]
 refine RW.aN (RL.ag ai (RL.bY (RL.ag U ?_)))
 refine RL.aL (bo aik rfl rfl rfl ((uY wide _).mono ?_))
 rintro _ _ ⟨rfl,rfl⟩
 have Yb:=D1 wide
 generalize hk:clip wide=kk at Yb
 refine RL.aL (Dw (enc:=vb) (z:=0) acW rX rfl rfl (by omega) (by omega) (by omega) ?_)
 intro w1 pO qL qK lk
 simp only[aek]at pO qL ⊢
 rw[←xM n]at pO
 refine RL.ag ai (RL.ak ?_)
 iterate 2 refine RW.seq ?_
 refine RW.region (RL.ag U (RL.ag (aQ acW pO.sl) ?_))
 rw[kj]
 refine RL.ag U (RL.ak (RW.block ?_))
 refine RW.loop (fun k R w'=>∃i:Nat,R 12=.int .i64 (i:Int)∧R 11=.int .i64 (kk:Int)∧R 0=.int .u64 (n:Int)∧R 5=.slice (some ⟨w.heap.size,0,none⟩) kk kk∧(i+k=kk)∧(eB vb 5 w' w.heap.size (.slice (some ⟨w.heap.size,0,none⟩) kk kk) (jf n kk i))∧(Ext w w')) kk ?_ ?_
 exact⟨0,rfl,rfl,rfl,rfl,by omega,pO,qK⟩
 rintro k R w' ⟨i,eK,eu,cF,cy,fP,ho,iW⟩
 have cz:=iV eK eu cF cy
 obtain⟨R0,rfl⟩:=cz
 clear eK eu cF cy
 refine RW.aN (RL.ag (aK) (RL.ak (RW.seq ?_)))
 refine RW.aG _ (fun cD=>?_) (fun cD=>?_)
 refine RW.skip (aA (RW.seq (RW.block (RW.aN (RL.ag U (RL.ag ai (RL.ak ?_)))))))
 refine RW.region ?_
 iterate 4 refine RL.ag U ?_
 refine RL.ag (aD rfl rfl rfl (DB (by omega) (by omega))) (RL.ag (nL rfl rfl (by omega) (GK n i (by omega))) (RL.ag (en adK ady rfl (Gh _)) (RL.ag (jQ acW sX ho.sl rfl rfl (by omega) (by rw[kj];omega)) ?_)))
 refine RL.aL (rn (a:=aeV (n/256^i)) sX ho rfl (by rw[kj];omega) rfl rfl rfl rfl ?_)
 intro w2 H6 Az ow
 rw[aek,←xN]at H6
 have vR:Ext w w2:=iW.then Az (fun x hx e=>by have:=(ho.lt _ e).1;omega)
 refine RL.nil (ba (aA (RW.region (RL.ag (aD rfl rfl rfl (bg (by omega) (by omega))) (RL.ag U (RL.ak ?_))))))
 exact⟨k-1,by omega,i+1,rfl,rfl,rfl,rfl,by omega,H6,vR⟩
 refine RW.exit ?_
 iterate 2 refine bP ?_
 refine aY (aA (RW.aN (RL.ag U (RL.ag ai (RL.ak (RW.ret (bc (RV.tmp rfl) ?_)))))))
 refine⟨?_,iW⟩
 have hi:i=kk:=by omega
 subst hi
 rw[xO]at ho
 exact ho
theorem fD (v:Value) (l:List Int) (w:World) (hv:Sl vi w v l) (hl:l.length*8≤140737488351232):aM acD 70 #[v] w fun r w'=>eB vb 5 w' w.heap.size r (bL l)∧Ext w w':=by
 refine aM.aZ aeP ?_
 rw[cH]
 refine RW.aN (RL.ag ai (RL.bY (RL.ag U (RL.ag (aQ acz hv) (RL.ag (en acy adK rfl (ln _ (by omega))) ?_)))))
 refine RL.aL (bu af4 rfl rfl rfl rfl ((lE l.length 4 _ (by omega)).mono ?_))
 rintro v1 w1 ⟨pO,qK⟩
 rw[yM]at pO
 refine RL.ag ai (RL.ak ?_)
 iterate 2 refine RW.seq ?_
 refine RW.region (RL.ag U (RL.ag (aQ acz (hv.ext qK)) (RL.ag U (RL.ak (RW.block ?_)))))
 refine RW.loop (fun k R w'=>∃i:Nat,∃vo:Value,R 12=.int .i64 (i:Int)∧R 11=.int .i64 (l.length:Int)∧R 10=v∧R 3=vo∧(i+k=l.length)∧(eB vb 5 w' w.heap.size vo (put l.length 4++(l.take i).flatMap fun x=>put (rO x) 8))∧(Ext w w')) l.length ?_ ?_
 exact⟨0,v1,rfl,rfl,rfl,rfl,by omega,by simpa using pO,qK⟩
 rintro k R w' ⟨i,vo,eK,eu,db,cb,fP,ho,iW⟩
 have cz:=iV eK eu db cb
 obtain⟨R0,rfl⟩:=cz
 clear eK eu db cb
 refine RW.aN (RL.ag (aK) (RL.ak (RW.seq ?_)))
 refine RW.aG _ (fun cD=>?_) (fun cD=>?_)
 refine RW.skip (aA (RW.seq (RW.block (RW.aN (RL.ag (aC acz bI (hv.ext iW)) (RL.ag (lO acy rfl (hv.ext iW) rfl (by omega)) (RL.ag ai (RL.nil ?_))))))))
 refine aA (RW.region ?_)
 iterate 2 refine RL.ag U ?_
 refine RL.ag (en acy adK rfl (wrap_u64 _)) ?_
 refine RL.aL (bu af4 rfl rfl rfl rfl ((lE (rO (l[(i:Int).toNat]'(by omega))) 8 _ (Gs _)).mono ?_))
 rintro v2 w2 ⟨H6,vR⟩
 rw[JT]at H6
 refine RL.aL (iQ acW rX rfl oJ (ho.ext vR) rfl H6.sl rfl (by simp only[acB,dr];rw[kR];simp only[ac9];omega) (by decide) (by have:=iW.size;have:=vR.size;omega) ?_)
 intro v3 w3 Z6 Qk hk3
 have zd:Ext w w3:=(iW.trans vR).then Qk (fun x hx e=>by have:=(ho.lt _ e).1;omega)
 refine RL.ag ai (RL.nil (ba (aA (RW.region (RL.ag (aD rfl rfl rfl (bg (by omega) (by omega))) (RL.ag U (RL.ak ?_)))))))
 refine⟨k-1,by omega,i+1,v3,rfl,rfl,rfl,rfl,by omega,?_,zd⟩
 rw[Fq l i (by omega),←adB]
 simpa using Z6
 refine RW.exit ?_
 iterate 2 refine bP ?_
 refine aY (aA (RW.aN (RL.ag U (RL.ag ai (RL.ak (RW.ret (bc (RV.tmp rfl) ?_)))))))
 refine⟨?_,iW⟩
 rw[ac2 (by omega)]at ho
 exact ho
theorem BI (s:List UInt8) (w:World) (hl:s.length≤140737488351232):aM acD 48 #[str s] w fun r w'=>eB vb 5 w' w.heap.size r (jG s)∧Ext w w':=by
 refine aM.aZ Tryz.func48 ?_
 rw[cH]
 refine RW.aN (RL.ag ai (RL.bY (RL.ag U (RL.ag (JI aeq rfl) (RL.ag (en acy adK rfl (ln _ (by omega))) ?_)))))
 refine RL.aL (bu af4 rfl rfl rfl rfl ((lE s.length 4 _ (by omega)).mono ?_))
 rintro v1 w1 ⟨pO,qK⟩
 rw[yM]at pO
 refine RL.ag U ?_
 refine RL.aL (xT acW aeq rX pO rfl rfl (by rw[dr];omega) qK.size ?_)
 intro v2 w2 H6 Az
 have vR:Ext w w2:=qK.then Az (fun x hx e=>by have:=(pO.lt _ e).1;omega)
 refine RL.ag ai (RL.ak (RW.ret (bc (RV.tmp rfl) ?_)))
 refine⟨?_,vR⟩
 exact H6
end Go.Proofs.YtngkdkbpgoddlaaGreat
namespace Go.Proofs.YtngkdkbpgoddlaaGreat
open Go.RowKit Go.Rl
open Go.dj
theorem Nd:(acD.info? 142).map (·.zero)=some (some (.agg #[vN,.int .i64 0])):=by kernel_rfl
theorem nY (v:Value) (l:List UInt8) (w:World) (hv:Sl vb w v l) (hl:l.length≤140737488355328):aM acD 36 #[v] w fun r w'=>∃g,r=vP g∧Rd 142 w' w.heap.size w'.heap.size g (l,0)∧Ext w w':=by
 refine aM.aZ agF ?_
 rw[cH]
 refine RW.aN (RL.ag ai (RL.bY (RL.ag U ?_)))
 refine RL.aL (iQ (l:=[]) acW rX rfl oJ (eB.nil vb 5 w w.heap.size) rfl hv rfl (by simp;omega) (by decide) (ac8 _) ?_)
 intro v1 w1 pO jv F4
 rw[aeG]at pO
 have qK:Ext w w1:=jv.mono (by intro i _ h;cases h)
 have lk:=pO.sl
 have qL:=pO.lt
 obtain⟨A1,c1,rfl,hc1,jv,O3⟩:=lk
 refine RL.ag (A7 (cs:=[.slice A1 l.length c1,.int .i64 0]) ad2 Nd (places:=#[(0,1),(1,1)]) (by intro w;kernel_rfl) (pl:=[(0,.tmp 4)]) rfl rfl rfl) ?_
 refine RL.aL (Ha (cs:=[.slice A1 l.length c1,.int .i64 0]) rfl rfl ?_)
 intro w2 MN vR ow
 refine RL.ag ai (RL.ak (RW.ret (bc (RV.tmp rfl) ?_)))
 refine⟨w1.heap.size,rfl,⟨qK.size,by omega,_,MN,Sl.ext ⟨A1,c1,rfl,hc1,jv,O3⟩ vR,fun k hk=>?_⟩,qK.trans vR⟩
 have:=qL k hk
 exact⟨this.1,by omega,by omega⟩
theorem ky (lo hi g:Nat) (s:St) (e:Int) (w:World) (hr:Rd 142 w lo hi g s):aM acD 156 #[vP g,vi e] w fun r w'=>Rd 142 w' lo hi g ([],e)∧Rl.Mod (fun k=>k=g) w w'∧w'.heap.size=w.heap.size:=by
 refine aM.aZ afQ ?_
 rw[cS]
 obtain⟨mJ,mY,v,hb,hs,hv⟩:=hr
 refine RW.region ?_
 iterate 3 refine RL.ag U ?_
 refine RL.ag (bM) (RL.ag (ah ad2 rfl lY) ?_)
 refine RL.aL (lG (v:=vN) lY rfl rfl rfl rfl hb (by simp) ?_)
 intro w1 qL jv lk
 refine RL.ag (bM) (RL.ag (ah ad2 rfl vf) ?_)
 refine RL.aL (lG (v:=vi e) vf rfl rfl rfl rfl qL (by simp) ?_)
 intro w2 MN Az ow
 refine RL.nil (QP (RV.zero rfl) ?_)
 exact⟨⟨mJ,mY,_,MN,Sl.nil _ _,fun k hk=>by cases hk⟩,Mod.trans jv Az (fun _ _=>id) (fun _ _=>id),by omega⟩
theorem oL (lo hi g:Nat) (s:St) (n:Nat) (w:World) (hr:Rd 142 w lo hi g s):aM acD 128 #[vP g,vi (n:Int)] w fun r w'=>∃x b,r=.tuple #[x,.bool b]∧Sl vb w' x (fj s n).2∧(∀k,x.ownBlock=some k→lo≤k∧k<hi∧k≠g)∧Rd 142 w' lo hi g (fj s n).1∧Rl.Mod (fun k=>k=g) w w'∧w'.heap.size=w.heap.size:=by
 refine aM.aZ ahc ?_
 rw[cS]
 have Xg:=hr
 obtain⟨mJ,mY,v,hb,hs,hv⟩:=hr
 refine RW.aN ?_
 iterate 2 refine RL.ag ai ?_
 refine RL.ak (RW.seq (RW.block (RW.aN (RL.ag U (RL.ag (cG (jP aec rfl rfl) (by simp)) (RL.ag U (RL.aw U ?_)))))))
 refine RL.aw (bM) (RL.aw (ah ad2 rfl vf) (RL.aw (aj aeS hb) (RL.aw (bj) (RL.ag (aB) (RL.ag ai (RL.ak ?_))))))
 refine RW.aG _ (fun dX=>?_) (fun dX=>?_)
 refine RW.aN ?_
 iterate 2 refine RL.ag ai ?_
 refine RL.ak (RW.ret (bb (aU (bc (RV.ju rfl) ?_))))
 rw[Eh n dX]
 exact⟨_,_,rfl,Sl.nil _ _,(fun k hk=>by cases hk),Xg,Mod.refl _ _,rfl⟩
 refine RW.aN ?_
 have hz:s.2=0:=acX.1 dX
 have hlen:=hs.bw
 iterate 2 refine RL.ag U ?_
 refine RL.ag (bM) (RL.ag (ah ad2 rfl lY) (RL.ag (aj acW hb) (RL.ag (aQ acW hs) (RL.ag (cq) (RL.ag ai (RL.ak ?_))))))
 refine RW.aG _ (fun cD=>?_) (fun cD=>?_)
 refine RW.aN (RL.ag U ?_)
 refine RL.aL (bu afQ rfl rfl rfl rfl ((ky lo hi g s 10 _ Xg).mono ?_))
 rintro _ w1 ⟨pN,jv,lk⟩
 refine RL.ak (RW.aN ?_)
 iterate 2 refine RL.ag ai ?_
 refine RL.ak (RW.ret (bb (aU (bc (RV.ju rfl) ?_))))
 rw[zq hz (by omega)]
 exact⟨_,_,rfl,Sl.nil _ _,(fun k hk=>by cases hk),pN,jv,lk⟩
 refine RW.skip (ba (aA (RW.aN (RL.ag U (RL.ag (bM) (RL.ag (ah ad2 rfl lY) (RL.ag (aj acW hb) ?_)))))))
 iterate 2 refine RL.ag U ?_
 refine RL.ag (PI acW sX hs rfl rfl rfl (by omega) (by omega)) (RL.ag ai (RL.ak (RW.aN ?_)))
 iterate 2 refine RL.ag U ?_
 refine RL.ag (bM) (RL.ag (ah ad2 rfl lY) (RL.ag (aj acW hb) (RL.ag U (RL.ag (kB acW sX hs rfl rfl (by omega) (by omega)) (RL.ag (bM) (RL.ag (ah ad2 rfl lY) ?_))))))
 refine RL.aL (lG (v:=vY v (n:Int).toNat s.1.length) lY rfl rfl (by obtain⟨A1,c1,rfl,_⟩:=hs;rfl) (by obtain⟨A1,c1,rfl,_⟩:=hs;rfl) hb (by simp) ?_)
 intro w1 qL jv lk
 refine RL.bY (RL.ag U ?_)
 iterate 2 refine RL.ag ai ?_
 refine RL.ak (RW.ret (bc (RV.ju rfl) ?_))
 rw[ng hz (by omega)]
 simp only[aek]at qL ⊢
 have lk:=hs.mod jv (fun k hk e=>(hv k hk).2.2 e)
 refine⟨FH v n,true,rfl,lk.FH (by omega),fun k hk=>hv k (by rw[C8 lk]at hk;exact hk),⟨mJ,mY,_,by rw[hz]at qL;exact qL,lk.kX (by omega),fun k hk=>hv k (by rw[oY lk]at hk;exact hk)⟩,jv,by omega⟩
theorem nX (lo hi g:Nat) (s:St) (wide:Int) (w:World) (hr:Rd 142 w lo hi g s):aM acD 57 #[vP g,vi wide] w fun r w'=>r=.int .u64 ((jM s (clip wide)).2:Int)∧Rd 142 w' lo hi g (jM s (clip wide)).1∧Rl.Mod (fun k=>k=g) w w'∧w'.heap.size=w.heap.size:=by
 refine aM.aZ agG ?_
 rw[cS]
 refine RW.aN (RL.ag ai (RL.ak (RW.aN ?_)))
 iterate 2 refine RL.ag U ?_
 refine RL.aL (bo aik rfl rfl rfl ((uY wide _).mono ?_))
 rintro _ _ ⟨rfl,rfl⟩
 refine RL.aL (bu ahc rfl rfl rfl rfl ((oL lo hi g s (clip wide) _ hr).mono ?_))
 rintro _ w1 ⟨x,b,rfl,hx,TC,pN,jv,lk⟩
 have hlen:=wx s (clip wide)
 have Yb:=D1 wide
 have hle:∀i,le ((fj s (clip wide)).2.take i)<256^((fj s (clip wide)).2.take i).length:=fun i=>Hv _
 unfold jM
 generalize hl:(fj s (clip wide)).2=l at hx hlen hle
 refine RL.ag U ?_
 iterate 2 refine RL.ag (bE) ?_
 iterate 2 refine RL.ag ai ?_
 refine RL.bY (RL.ag ai (RL.ak ?_))
 iterate 2 refine RW.seq ?_
 refine RW.region (RL.ag U (RL.ag (aQ acW hx) (RL.ag U (RL.ak (RW.block ?_)))))
 refine RW.loop (fun k R w'=>∃i:Nat,R 19=.int .i64 (i:Int)∧R 18=.int .i64 (l.length:Int)∧R 17=x∧R 7=.int .u64 (le (l.take i):Int)∧(i+k=l.length)∧(w1=w')) l.length ?_ ?_
 exact⟨0,rfl,rfl,rfl,rfl,by omega,rfl⟩
 rintro k R w' ⟨i,fz,fc,eJ,cC,fP,hw⟩
 have cz:=iV fz fc eJ cC
 obtain⟨R0,rfl⟩:=cz
 clear fz fc eJ cC
 subst hw
 refine RW.aN (RL.ag (aK) (RL.ak (RW.seq ?_)))
 refine RW.aG _ (fun cD=>?_) (fun cD=>?_)
 refine RW.skip (aA (RW.seq (RW.block (RW.aN (RL.ag U (RL.ag (aC acW sX hx) (RL.ag (lO ady rfl hx rfl (by omega)) ?_)))))))
 iterate 2 refine RL.ag ai ?_
 refine RL.ak (RW.region ?_)
 iterate 2 refine RL.ag U ?_
 refine RL.ag (en ady adK rfl (ln _ (by have:=(l[(i:Int).toNat]'(by omega)).toNat_lt;omega))) (RL.ag U (RL.ag (aD rfl rfl rfl (DB (by omega) (by omega))) (RL.ag (PA rfl rfl (by omega) (GL _ i (by omega))) (RL.ag (aD rfl rfl rfl (KR _ _ i (by have:=hle i;rwa [ac9,ahp (by omega)]at this) (l[(i:Int).toNat]'(by omega)).toNat_lt (by omega))) (RL.ag ai (RL.nil (ba (aA (RW.region ?_)))))))))
 refine RL.ag (aD rfl rfl rfl (bg (by omega) (by omega))) (RL.ag U (RL.ak ?_))
 refine⟨k-1,by omega,i+1,rfl,rfl,rfl,?_,by omega,rfl⟩
 rw[K8 l i (by omega)];rfl
 refine RW.exit ?_
 iterate 2 refine bP ?_
 refine aY (aA (RW.aN (RL.ag U (RL.ag ai (RL.ak (RW.ret (bc (RV.tmp rfl) ?_)))))))
 refine⟨?_,pN,jv,lk⟩
 exact congrArg (fun l=>ac4 .u64 ((le l:Nat):Int)) (ac2 (by omega))
theorem tW (lo hi g:Nat) (s:St) (w:World) (hr:Rd 142 w lo hi g s):aM acD 37 #[vP g] w fun r w'=>r=vi (s.1.length:Int)∧w=w':=by
 refine aM.aZ aiQ ?_
 rw[cH]
 obtain⟨mJ,mY,v,hb,hs,hv⟩:=hr
 refine RW.aN (RL.ag ai (RL.ak ?_))
 iterate 2 refine RW.seq ?_
 refine RW.region (RL.ag U (RL.ag (cG (jP aec rfl rfl) (by simp)) (RL.ak (RW.cj (RW.skip (aA (RW.aN ?_)))))))
 refine RL.ag U (RL.ag (bM) (RL.ag (ah ad2 rfl lY) (RL.ag (aj acW hb) (RL.ag (aQ acW hs) (RL.ag ai (RL.ak (RW.ret (bc (RV.tmp rfl) ?_))))))))
 exact⟨rfl,rfl⟩
theorem ga (lo hi g:Nat) (s:St) (w:World) (hr:Rd 142 w lo hi g s):aM acD 40 #[vP g] w fun r w'=>r=vi s.2∧w=w':=by
 refine aM.aZ afp ?_
 rw[cH]
 obtain⟨mJ,mY,v,hb,hs,hv⟩:=hr
 refine RW.aN (RL.ag ai (RL.ak ?_))
 iterate 2 refine RW.seq ?_
 refine RW.region (RL.ag U (RL.ag (cG (jP aec rfl rfl) (by simp)) (RL.ak (RW.cj (RW.skip (aA (RW.aN ?_)))))))
 refine RL.ag U (RL.ag (bM) (RL.ag (ah ad2 rfl vf) (RL.ag (aj aeS hb) (RL.ag ai (RL.ak (RW.ret (bc (RV.tmp rfl) ?_)))))))
 exact⟨rfl,rfl⟩
theorem qV (lo hi g:Nat) (s:St) (w:World) (hr:Rd 142 w lo hi g s):aM acD 45 #[vP g] w fun r w'=>r=vi (oe s)∧w=w':=by
 refine aM.aZ ahB ?_
 rw[cH]
 refine RW.aN (RL.ag ai (RL.ak ?_))
 iterate 2 refine RW.seq ?_
 refine RW.region (RL.ag U ?_)
 refine RL.aL (bo afp rfl rfl rfl ((ga lo hi g s _ hr).mono ?_))
 rintro _ _ ⟨rfl,rfl⟩
 refine RL.ag ai (RL.bY (RL.ag U (RL.ag (bj) (RL.ak ?_))))
 refine RW.aG _ (fun dX=>?_) (fun dX=>?_)
 refine RW.aN (RL.ag U (RL.ag ai (RL.ak (RW.ret (aU (bc (RV.tmp rfl) ?_))))))
 refine⟨?_,rfl⟩
 unfold oe;rw[if_pos dX];rfl
 refine RW.skip (aA ?_)
 iterate 2 refine RW.seq ?_
 refine RW.region (RL.ag U ?_)
 refine RL.aL (bo aiQ rfl rfl rfl ((tW lo hi g s _ hr).mono ?_))
 rintro _ _ ⟨rfl,rfl⟩
 refine RL.ag (cq) (RL.ak ?_)
 refine RW.aG _ (fun cD=>?_) (fun cD=>?_)
 refine RW.aN (RL.ag ai (RL.ak (RW.ret (aU (bc (RV.tmp rfl) ?_)))))
 refine⟨?_,rfl⟩
 unfold oe;rw[if_neg dX,if_pos (by omega)];rfl
 refine RW.skip (aA (RW.aN (RL.ag ai (RL.ak (RW.ret (bc (RV.tmp rfl) ?_))))))
 refine⟨?_,rfl⟩
 unfold oe;rw[if_neg dX,if_neg (by omega)];rfl
theorem yh (v:Value) (l:List UInt8) (w:World) (hv:Sl vb w v l) (hl:l.length=8):aM acD 195 #[v] w fun r w'=>r=vi (Ma (le l))∧Ext w w':=by
 refine aM.aZ ajR ?_
 rw[cH]
 refine RW.aN (RL.ag ai (RL.bY (RL.ag U ?_)))
 refine RL.aL (bo agF rfl rfl rfl ((nY v l _ hv (by omega)).mono ?_))
 rintro _ w1 ⟨g,rfl,pN,qK⟩
 refine RL.aL (bu agG rfl rfl rfl rfl ((nX _ _ g _ 8 _ pN).mono ?_))
 rintro _ w2 ⟨rfl,Aw,Az,ow⟩
 have H8:(jM (l,0) (clip 8)).2=le l:=by
   unfold jM;rw[JT,ng rfl (show 8≤l.length by omega)]
   exact congrArg le (ac2 (show l.length≤8 by omega))
 rw[H8]
 have hg:=pN.lt
 refine RL.ag (en adK acy rfl (D9 _ (K9 l (by omega)))) (RL.ag ai (RL.ak (RW.ret (bc (RV.tmp rfl) ?_))))
 exact⟨rfl,qK.then Az (fun i hi e=>by omega)⟩
theorem wg (v:Value) (b:UInt8) (w:World) (hv:Sl vb w v [b]):aM acD 94 #[v] w fun r w'=>r=vb b∧w=w':=by
 refine aM.aZ Tryz.func94 ?_
 rw[cH]
 refine RW.aN (RL.ag ai (RL.bY (RL.ag U (RL.ag (jQ acW sX hv rfl rfl (by decide) (by simp)) (RL.ag (kA ady rfl hv rfl (m:=0) rfl) ?_)))))
 refine RL.ag ai (RL.ak (RW.ret (bc (RV.tmp rfl) ?_)))
 exact⟨rfl,rfl⟩
theorem xH (lo hi g:Nat) (s:St) (most:Int) (w:World) (hr:Rd 142 w lo hi g s) (mY:hi≤w.heap.size) (kF: -9223372036854775808≤most) (jv:most≤9223372036854775807) (kN:s.1.length≤140737488351232):aM acD 194 #[vP g,vi most,vi 8,.func (.func 195) #[] #[]] w fun r w'=>eB vi 3 w' w.heap.size r (jN ((l6 s most 8).2.length/8) (l6 s most 8).2)∧Rd 142 w' lo hi g (l6 s most 8).1∧Rl.Mod (fun k=>k=g) w w':=by
 refine aM.aZ ajS ?_
 rw[kE]
 refine RW.aN (RL.ag ai (RL.bY (RL.ag U ?_)))
 refine RL.aL (bu agG rfl rfl rfl rfl ((nX lo hi g s 4 _ hr).mono ?_))
 rintro _ w1 ⟨rfl,pN,ym,lk⟩
 rw[yM]at pN ⊢
 have Ox:=wR s
 have Oa:(jM s 4).1.1.length≤s.1.length:=(gx s 4).1
 unfold l6
 generalize (jM s 4).1=s1 at pN Oa ⊢
 generalize (jM s 4).2=m at Ox ⊢
 have Oh:=pN
 obtain⟨mJ,hhg,v1,qL,UI,uc⟩:=Oh
 refine RL.ag ai (RL.ak ?_)
 iterate 2 refine RW.seq ?_
 refine RW.region (RL.ag U (RL.ag (cG (jP aec rfl rfl) (by simp)) (RL.ag U (RL.aw U (RL.aw (bM) (RL.aw (ah ad2 rfl vf) (RL.aw (aj aeS qL) (RL.aw (bj) (RL.ag (aB) ?_)))))))))
 refine RL.ak ?_
 refine RW.aG _ (fun dX=>?_) (fun dX=>?_)
 refine RW.aN (RL.ag ai (RL.ak (RW.ret (aU (bc (RV.tmp rfl) ?_)))))
 rw[if_pos dX]
 exact⟨xR _ _ _,pN,ym⟩
 refine RW.skip (aA ?_)
 iterate 2 refine RW.seq ?_
 rcases(show most<0∨(¬most<0∧most<(m:Int))∨(¬most<0∧¬most<(m:Int)) by omega)with hc|hc|hc
 refine RW.region ?_
 have hz:s1.2=0:=acX.1 dX
 rw[if_neg dX]
 refine RL.ag U (RL.ag (dB (aK) hc) (RL.ag U ?_))
 iterate 4 refine RL.bH ?_
 refine RL.ag (al) (RL.ak (RW.bD (RW.aN (RL.ag U ?_))))
 refine RL.aL (bu afQ rfl rfl rfl rfl ((ky lo hi g s1 3 _ pN).mono ?_))
 rintro _ w2 ⟨Aw,uf,ow⟩
 refine RL.bY (RL.ag ai (RL.ak (RW.ret (aU (bc (RV.tmp rfl) ?_)))))
 rw[if_pos (show most<0∨most<(m:Int) by omega)]
 exact⟨xR _ _ _,Aw,Mod.trans ym uf (fun _ _=>id) (fun _ _=>id)⟩
 refine RW.region ?_
 have hz:s1.2=0:=acX.1 dX
 rw[if_neg dX]
 refine RL.ag U (RL.ag (cG (aK) hc.1) (RL.ag U ?_))
 iterate 2 refine RL.aw U ?_
 refine RL.aw (en acy adK rfl ((wrap_u64 most).trans (show(rO most:Int)=most by unfold rO;omega))) (RL.aw (dB (cq) hc.2) (RL.ag (aB) (RL.ak (RW.bD (RW.aN (RL.ag U ?_))))))
 refine RL.aL (bu afQ rfl rfl rfl rfl ((ky lo hi g s1 3 _ pN).mono ?_))
 rintro _ w2 ⟨Aw,uf,ow⟩
 refine RL.bY (RL.ag ai (RL.ak (RW.ret (aU (bc (RV.tmp rfl) ?_)))))
 rw[if_pos (show most<0∨most<(m:Int) by omega)]
 exact⟨xR _ _ _,Aw,Mod.trans ym uf (fun _ _=>id) (fun _ _=>id)⟩
 refine RW.region ?_
 have hz:s1.2=0:=acX.1 dX
 rw[if_neg dX]
 refine RL.ag U (RL.ag (cG (aK) hc.1) (RL.ag U ?_))
 iterate 2 refine RL.aw U ?_
 refine RL.aw (en acy adK rfl ((wrap_u64 most).trans (show(rO most:Int)=most by unfold rO;omega))) (RL.aw (cG (cq) hc.2) (RL.ag (aB) (RL.ak (RW.cj (RW.skip (aA (RW.aN ?_)))))))
 iterate 2 refine RL.ag U ?_
 refine RL.ag (en adK acy rfl (wrap_i64 (by omega) (by omega))) (RL.ag U (RL.ag (aD rfl rfl rfl ((DB (by omega) (by omega)).trans (show(m:Int)*8=((m*8:Nat):Int) by norm_cast))) ?_))
 refine RL.aL (bu ahc rfl rfl rfl rfl ((oL lo hi g s1 (m*8) _ pN).mono ?_))
 rintro _ w2 ⟨x,b,rfl,hx,TC,Aw,uf,ow⟩
 have Qr:Rl.Mod (fun k=>k=g) w w2:=Mod.trans ym uf (fun _ _=>id) (fun _ _=>id)
 rw[if_neg (show ¬(most<0∨most<(m:Int)) by omega)]
 have I7:=wy s1 m 8
 have ep:=(gx s1 (m*8)).2
 have HH:=hx.bw
 generalize (fj s1 (m*8)).1=s2 at Aw ⊢
 generalize (fj s1 (m*8)).2=l at hx I7 ep HH ⊢
 refine RL.ag U ?_
 iterate 2 refine RL.ag (bE) ?_
 iterate 2 refine RL.ag ai ?_
 refine RL.bY (RL.ag ai (RL.ak (RW.seq (RW.block ?_))))
 refine RW.loop (fun k R w'=>∃i:Nat,∃vo:Value,∃xr:Value,R 12=vo∧R 10=xr∧R 2=vi 8∧R 3=.func (.func 195) #[] #[]∧(i*8+k=l.length)∧(Sl vb w' xr (l.drop (i*8)))∧(xr.ownBlock=x.ownBlock)∧(eB vi 3 w' w.heap.size vo (jN i l))∧(Ext w2 w')) l.length ?_ ?_
 exact⟨0,vN,x,rfl,rfl,rfl,rfl,by simp,by simpa using hx,rfl,eB.nil _ _ _ _,Mod.refl _ _⟩
 rintro k R w' ⟨i,vo,xr,eK,db,bQ,cb,fP,ub,Rb,ho,iW⟩
 have cz:=iV eK db bQ cb
 obtain⟨R0,rfl⟩:=cz
 clear eK db bQ cb
 iterate 2 refine RW.seq ?_
 refine RW.region (RL.ag U (RL.ag (aQ acW ub) (RL.ag (cq) (RL.ak ?_))))
 refine RW.aG _ (fun iF=>?_) (fun iF=>?_)
 refine RW.skip (aA (RW.seq (RW.block (RW.region ?_))))
 have Bs:(l.drop (i*8)).length=l.length-i*8:=by simp
 rw[Bs]at iF
 have h8:8≤l.length-i*8:=by obtain⟨c,hc⟩:=I7;omega
 have SD:i<l.length:=by omega
 have UH:=Qr.size
 have UG:=iW.size
 iterate 4 refine RL.ag U ?_
 refine RL.ag (nM acW sX ub rfl rfl (by decide) (by rw[Bs];omega)) ?_
 refine RL.aL (wP ajR rfl rfl rfl rfl ((yh _ _ _ (ub.rL (hi:=8) (by rw[Bs];omega)) (by rw[ac9,Bs];omega)).mono ?_))
 rintro _ w3 ⟨rfl,zd⟩
 refine RL.aL (xS (enc:=vi) (l:=[Ma (le ((l.drop (i*8)).take 8))]) (xs:=[.tmp 54]) acz bI mN rfl rfl (fun _=>rfl) rfl (by decide) (by decide) ?_)
 intro w4 Sa Fg Lu rr
 have UF:=zd.size
 have UE:=Lu.size
 refine RL.aL (iQ acz fI rfl (fun _=>rfl) (ho.ext (zd.trans Lu)) rfl Sa.sl rfl (by simp only[acB,acK,acS,yg];omega) (by decide) (by omega) ?_)
 intro v5 w5 Ot Oz XZ
 have Cy:=(ub.ext (zd.trans Lu)).mod Oz (fun k hk e=>by have h1:=(ho.lt _ e).1;rw[Rb]at hk;have h2:=(TC _ hk).2.1;omega)
 have Z5:=ho.lt
 refine RL.ag ai (RL.nil (ba (aA (RW.region ?_))))
 iterate 2 refine RL.ag U ?_
 refine RL.ag (kB acW sX Cy rfl rfl (by decide) (by rw[Bs];omega)) (RL.ag ai (RL.ak ?_))
 have jH:=Cy.kX (lo:=8) (by rw[Bs];omega)
 rw[aft,show i*8+8=(i+1)*8 by omega]at jH
 refine⟨k-8,by omega,i+1,v5,_,rfl,rfl,rfl,rfl,by omega,jH,(oY Cy _ _).trans Rb,?_,(iW.trans (zd.trans Lu)).then Oz (fun x hx e=>by have:=(ho.lt _ e).1;omega)⟩
 rw[Ct]
 exact Ot
 refine RW.exit ?_
 iterate 2 refine bP ?_
 refine aY (aA (RW.aN (RL.ag U (RL.ag ai (RL.ak (RW.ret (bc (RV.tmp rfl) ?_)))))))
 rw[adj]at iF
 have hi:i*8=l.length:=by omega
 refine⟨?_,Aw.ext iW,Mod.trans Qr iW (fun _ _=>id) (fun _ _ h=>h.elim)⟩
 rw[show l.length/8=i by omega]
 exact ho
theorem vv (lo hi g:Nat) (s:St) (most:Int) (w:World) (hr:Rd 142 w lo hi g s) (mY:hi≤w.heap.size) (kF: -9223372036854775808≤most) (jv:most≤9223372036854775807) (kN:s.1.length≤140737488351232):aM acD 93 #[vP g,vi most,vi 1,.func (.func 94) #[] #[]] w fun r w'=>eB vb 5 w' w.heap.size r (l6 s most 1).2∧Rd 142 w' lo hi g (l6 s most 1).1∧Rl.Mod (fun k=>k=g) w w':=by
 refine aM.aZ Tryz.func93 ?_
 rw[kE]
 refine RW.aN (RL.ag ai (RL.bY (RL.ag U ?_)))
 refine RL.aL (bu agG rfl rfl rfl rfl ((nX lo hi g s 4 _ hr).mono ?_))
 rintro _ w1 ⟨rfl,pN,ym,lk⟩
 rw[yM]at pN ⊢
 have Ox:=wR s
 have Oa:(jM s 4).1.1.length≤s.1.length:=(gx s 4).1
 unfold l6
 generalize (jM s 4).1=s1 at pN Oa ⊢
 generalize (jM s 4).2=m at Ox ⊢
 have Oh:=pN
 obtain⟨mJ,hhg,v1,qL,UI,uc⟩:=Oh
 refine RL.ag ai (RL.ak ?_)
 iterate 2 refine RW.seq ?_
 refine RW.region (RL.ag U (RL.ag (cG (jP aec rfl rfl) (by simp)) (RL.ag U (RL.aw U (RL.aw (bM) (RL.aw (ah ad2 rfl vf) (RL.aw (aj aeS qL) (RL.aw (bj) (RL.ag (aB) ?_)))))))))
 refine RL.ak ?_
 refine RW.aG _ (fun dX=>?_) (fun dX=>?_)
 refine RW.aN (RL.ag ai (RL.ak (RW.ret (aU (bc (RV.tmp rfl) ?_)))))
 rw[if_pos dX]
 exact⟨eB.nil _ _ _ _,pN,ym⟩
 refine RW.skip (aA ?_)
 iterate 2 refine RW.seq ?_
 rcases(show most<0∨(¬most<0∧most<(m:Int))∨(¬most<0∧¬most<(m:Int)) by omega)with hc|hc|hc
 refine RW.region ?_
 have hz:s1.2=0:=acX.1 dX
 rw[if_neg dX]
 refine RL.ag U (RL.ag (dB (aK) hc) (RL.ag U ?_))
 iterate 4 refine RL.bH ?_
 refine RL.ag (al) (RL.ak (RW.bD (RW.aN (RL.ag U ?_))))
 refine RL.aL (bu afQ rfl rfl rfl rfl ((ky lo hi g s1 3 _ pN).mono ?_))
 rintro _ w2 ⟨Aw,uf,ow⟩
 refine RL.bY (RL.ag ai (RL.ak (RW.ret (aU (bc (RV.tmp rfl) ?_)))))
 rw[if_pos (show most<0∨most<(m:Int) by omega)]
 exact⟨eB.nil _ _ _ _,Aw,Mod.trans ym uf (fun _ _=>id) (fun _ _=>id)⟩
 refine RW.region ?_
 have hz:s1.2=0:=acX.1 dX
 rw[if_neg dX]
 refine RL.ag U (RL.ag (cG (aK) hc.1) (RL.ag U ?_))
 iterate 2 refine RL.aw U ?_
 refine RL.aw (en acy adK rfl ((wrap_u64 most).trans (show(rO most:Int)=most by unfold rO;omega))) (RL.aw (dB (cq) hc.2) (RL.ag (aB) (RL.ak (RW.bD (RW.aN (RL.ag U ?_))))))
 refine RL.aL (bu afQ rfl rfl rfl rfl ((ky lo hi g s1 3 _ pN).mono ?_))
 rintro _ w2 ⟨Aw,uf,ow⟩
 refine RL.bY (RL.ag ai (RL.ak (RW.ret (aU (bc (RV.tmp rfl) ?_)))))
 rw[if_pos (show most<0∨most<(m:Int) by omega)]
 exact⟨eB.nil _ _ _ _,Aw,Mod.trans ym uf (fun _ _=>id) (fun _ _=>id)⟩
 refine RW.region ?_
 have hz:s1.2=0:=acX.1 dX
 rw[if_neg dX]
 refine RL.ag U (RL.ag (cG (aK) hc.1) (RL.ag U ?_))
 iterate 2 refine RL.aw U ?_
 refine RL.aw (en acy adK rfl ((wrap_u64 most).trans (show(rO most:Int)=most by unfold rO;omega))) (RL.aw (cG (cq) hc.2) (RL.ag (aB) (RL.ak (RW.cj (RW.skip (aA (RW.aN ?_)))))))
 iterate 2 refine RL.ag U ?_
 refine RL.ag (en adK acy rfl (wrap_i64 (by omega) (by omega))) (RL.ag U (RL.ag (aD rfl rfl rfl ((DB (by omega) (by omega)).trans (show(m:Int)*1=((m*1:Nat):Int) by norm_cast))) ?_))
 refine RL.aL (bu ahc rfl rfl rfl rfl ((oL lo hi g s1 (m*1) _ pN).mono ?_))
 rintro _ w2 ⟨x,b,rfl,hx,TC,Aw,uf,ow⟩
 have Qr:Rl.Mod (fun k=>k=g) w w2:=Mod.trans ym uf (fun _ _=>id) (fun _ _=>id)
 rw[if_neg (show ¬(most<0∨most<(m:Int)) by omega)]
 have I7:=wy s1 m 1
 have ep:=(gx s1 (m*1)).2
 have HH:=hx.bw
 generalize (fj s1 (m*1)).1=s2 at Aw ⊢
 generalize (fj s1 (m*1)).2=l at hx I7 ep HH ⊢
 refine RL.ag U ?_
 iterate 2 refine RL.ag (bE) ?_
 iterate 2 refine RL.ag ai ?_
 refine RL.bY (RL.ag ai (RL.ak (RW.seq (RW.block ?_))))
 refine RW.loop (fun k R w'=>∃i:Nat,∃vo:Value,∃xr:Value,R 12=vo∧R 10=xr∧R 2=vi 1∧R 3=.func (.func 94) #[] #[]∧(i*1+k=l.length)∧(Sl vb w' xr (l.drop (i*1)))∧(xr.ownBlock=x.ownBlock)∧(eB vb 5 w' w.heap.size vo (l.take i))∧(Ext w2 w')) l.length ?_ ?_
 exact⟨0,vN,x,rfl,rfl,rfl,rfl,by simp,by simpa using hx,rfl,by simpa using eB.nil _ _ _ _,Mod.refl _ _⟩
 rintro k R w' ⟨i,vo,xr,eK,db,bQ,cb,fP,ub,Rb,ho,iW⟩
 have cz:=iV eK db bQ cb
 obtain⟨R0,rfl⟩:=cz
 clear eK db bQ cb
 iterate 2 refine RW.seq ?_
 refine RW.region (RL.ag U (RL.ag (aQ acW ub) (RL.ag (cq) (RL.ak ?_))))
 refine RW.aG _ (fun iF=>?_) (fun iF=>?_)
 refine RW.skip (aA (RW.seq (RW.block (RW.region ?_))))
 have Bs:(l.drop (i*1)).length=l.length-i*1:=by simp
 rw[Bs]at iF
 have h8:1≤l.length-i*1:=by obtain⟨c,hc⟩:=I7;omega
 have SD:i<l.length:=by omega
 have UH:=Qr.size
 have UG:=iW.size
 iterate 4 refine RL.ag U ?_
 refine RL.ag (nM acW sX ub rfl rfl (by decide) (by rw[Bs];omega)) ?_
 refine RL.aL (wP Tryz.func94 rfl rfl rfl rfl ((wg _ (l[i]'SD) _ (by have h:=ub.rL (hi:=1) (by rw[Bs];omega);rwa [ahu,aeM SD,List.take_succ_cons,ae9]at h)).mono ?_))
 rintro _ w3 ⟨rfl,rfl⟩
 have zd:Ext w' w':=Mod.refl _ _
 refine RL.aL (xS (enc:=vb) (l:=[l[i]'SD]) (xs:=[.tmp 54]) acW sX Tq rfl rfl (fun _=>rfl) rfl (by decide) (by decide) ?_)
 intro w4 Sa Fg Lu rr
 have UF:=zd.size
 have UE:=Lu.size
 refine RL.aL (iQ acW rX rfl (fun _=>rfl) (ho.ext (zd.trans Lu)) rfl Sa.sl rfl (by simp only[acB,acK,acS,ac9];omega) (by decide) (by omega) ?_)
 intro v5 w5 Ot Oz XZ
 have Cy:=(ub.ext (zd.trans Lu)).mod Oz (fun k hk e=>by have h1:=(ho.lt _ e).1;rw[Rb]at hk;have h2:=(TC _ hk).2.1;omega)
 have Z5:=ho.lt
 refine RL.ag ai (RL.nil (ba (aA (RW.region ?_))))
 iterate 2 refine RL.ag U ?_
 refine RL.ag (kB acW sX Cy rfl rfl (by decide) (by rw[Bs];omega)) (RL.ag ai (RL.ak ?_))
 have jH:=Cy.kX (lo:=1) (by rw[Bs];omega)
 rw[aft,show i*1+1=(i+1)*1 by omega]at jH
 refine⟨k-1,by omega,i+1,v5,_,rfl,rfl,rfl,rfl,by omega,jH,(oY Cy _ _).trans Rb,?_,(iW.trans (zd.trans Lu)).then Oz (fun x hx e=>by have:=(ho.lt _ e).1;omega)⟩
 rw[ad8 SD]
 exact Ot
 refine RW.exit ?_
 iterate 2 refine bP ?_
 refine aY (aA (RW.aN (RL.ag U (RL.ag ai (RL.ak (RW.ret (bc (RV.tmp rfl) ?_)))))))
 rw[adj]at iF
 have hi:i*1=l.length:=by omega
 refine⟨?_,Aw.ext iW,Mod.trans Qr iW (fun _ _=>id) (fun _ _ h=>h.elim)⟩
 rw[ac2 (by omega)]at ho
 exact ho
end Go.Proofs.YtngkdkbpgoddlaaGreat
namespace Go.Proofs.YtngkdkbpgoddlaaGreat
open Go.RowKit Go.Rl
open Go.dj
theorem zL (lo hi g:Nat) (s:St) (most:Int) (w:World) (hr:Rd 142 w lo hi g s) (mY:hi≤w.heap.size) (kF: -9223372036854775808≤most) (jv:most≤9223372036854775807) (kN:s.1.length≤140737488351232):aM acD 157 #[vP g,vi most] w fun r w'=>eB vi 3 w' w.heap.size r (da s most).2∧Rd 142 w' lo hi g (da s most).1∧Rl.Mod (fun k=>k=g) w w':=by
 refine aM.aZ ajT ?_
 rw[cS]
 refine RW.aN (RL.ag ai (RL.ak (RW.aN ?_)))
 iterate 2 refine RL.ag U ?_
 refine RL.aL (dH ajS rfl rfl rfl rfl rfl rfl ((xH lo hi g s most _ hr mY kF jv kN).mono ?_))
 rintro v1 w1 ⟨pO,pN,jv⟩
 refine RL.ag ai (RL.ak (RW.ret (bc (RV.tmp rfl) ?_)))
 exact⟨pO,pN,jv⟩
theorem zC (lo hi g:Nat) (s:St) (most:Int) (w:World) (hr:Rd 142 w lo hi g s) (mY:hi≤w.heap.size) (kF: -9223372036854775808≤most) (jv:most≤9223372036854775807) (kN:s.1.length≤140737488351232):aM acD 39 #[vP g,vi most] w fun r w'=>r=str (eg s most).2∧Rd 142 w' lo hi g (eg s most).1∧Rl.Mod (fun k=>k=g) w w':=by
 refine aM.aZ Tryz.func39 ?_
 rw[cS]
 refine RW.aN (RL.ag ai (RL.ak (RW.aN ?_)))
 iterate 2 refine RL.ag U ?_
 refine RL.aL (dH Tryz.func93 rfl rfl rfl rfl rfl rfl ((vv lo hi g s most _ hr mY kF jv kN).mono ?_))
 rintro v1 w1 ⟨pO,pN,jv⟩
 refine RL.ag (kz acW ady aeq pO.sl rfl) (RL.ag ai (RL.ak (RW.ret (bc (RV.tmp rfl) ?_))))
 exact⟨rfl,pN,jv⟩
theorem NT {lo hi g:Nat} {s s':St} {wide:Int} {k m:Nat} {w:World} (hr:Rd 142 w lo hi g s) (hk:clip wide=k) (hn:jM s k=(s',m)):
    aM acD 57 #[vP g,vi wide] w (fun r w'=>r=.int .u64 (m:Int)∧Rd 142 w' lo hi g s'∧Rl.Mod (fun k=>k=g) w w'∧w'.heap.size=w.heap.size):=by
  subst hk
  have h:=nX lo hi g s wide w hr
  rw[hn]at h
  exact h
theorem GV {lo hi g:Nat} {s s':St} {most:Int} {l:List Int} {w:World} (hr:Rd 142 w lo hi g s) (mY:hi≤w.heap.size) (kF: -9223372036854775808≤most) (jv:most≤9223372036854775807) (kN:s.1.length≤140737488351232) (hn:da s most=(s',l)):
    aM acD 157 #[vP g,vi most] w (fun r w'=>eB vi 3 w' w.heap.size r l∧Rd 142 w' lo hi g s'∧Rl.Mod (fun k=>k=g) w w'):=by
  have h:=zL lo hi g s most w hr mY kF jv kN
  rw[hn]at h
  exact h
theorem GS {lo hi g:Nat} {s s':St} {most:Int} {l:List UInt8} {w:World} (hr:Rd 142 w lo hi g s) (mY:hi≤w.heap.size) (kF: -9223372036854775808≤most) (jv:most≤9223372036854775807) (kN:s.1.length≤140737488351232) (hn:eg s most=(s',l)):
    aM acD 39 #[vP g,vi most] w (fun r w'=>r=str l∧Rd 142 w' lo hi g s'∧Rl.Mod (fun k=>k=g) w w'):=by
  have h:=zC lo hi g s most w hr mY kF jv kN
  rw[hn]at h
  exact h
theorem tj (a b:Value) (x y:List Int) (w:World) (ha:Sl vi w a x) (hb:Sl vi w b y):aM acD 88 #[a,b] w fun r w'=>r=.bool (decide (x=y))∧Ext w w':=by
 refine aM.aZ Tryz.func88 ?_
 rw[cS]
 refine RW.aN ?_
 have hlen:=ha.bw
 refine RL.ag ai (RL.ak ?_)
 iterate 2 refine RW.seq ?_
 refine RW.region (RL.ag U (RL.ag (aQ acz ha) (RL.ag U (RL.ag (aQ acz hb) (RL.ag (bj) (RL.ak ?_))))))
 refine RW.aG _ (fun dX=>?_) (fun dX=>?_)
 refine RW.aN (RL.ag ai (RL.ak (RW.ret (aU (bc (RV.tmp rfl) ?_)))))
 refine⟨?_,Mod.refl _ _⟩
 rw[decide_eq_false (fun e:x=y=>dX (by rw[e]))];rfl
 refine RW.skip (aA ?_)
 iterate 2 refine RW.seq ?_
 refine RW.region ?_
 have Mk:x.length=y.length:=by omega
 refine RL.ag ai (RL.ak (RW.block ?_))
 refine RW.loop (fun k R w'=>∃i:Nat,R 5=.int .i64 (i:Int)∧R 0=a∧R 1=b∧(i+k=x.length)∧(x.take i=y.take i)∧(Ext w w')) x.length ?_ ?_
 exact⟨0,rfl,rfl,rfl,by omega,by simp,Mod.refl _ _⟩
 rintro k R w' ⟨i,cy,cF,bN,fP,J8,iW⟩
 have cz:=k5 cy cF bN
 obtain⟨R0,rfl⟩:=cz
 clear cy cF bN
 iterate 2 refine RW.seq ?_
 refine RW.region ?_
 iterate 2 refine RL.ag U ?_
 refine RL.ag (aQ acz (ha.ext iW)) (RL.ag (aK) (RL.ak ?_))
 refine RW.aG _ (fun cD=>?_) (fun cD=>?_)
 refine RW.skip (aA (RW.seq (RW.block (RW.seq (RW.draw rfl (fun u=>Ext w u) ?_)))))
 have hS:Ext w w'.drew:=iW.trans (Ext.drew w')
 refine RA.take (i:=0) rfl rfl (by kernel_rfl) (by kernel_rfl) (by kernel_rfl) (by intro _ _ _ h;exact h) rfl hS (fun w hS=>U) (RA.take (i:=1) rfl rfl (by kernel_rfl) (by kernel_rfl) (by kernel_rfl) (by intro _ _ _ h;exact h) rfl hS (fun w hS=>U) (RA.take (i:=2) rfl rfl (by kernel_rfl) (by kernel_rfl) (by kernel_rfl) (by intro _ _ _ h;exact h) rfl hS (fun w hS=>(aC acz bI (ha.ext hS))) (RA.take (i:=3) rfl rfl (by kernel_rfl) (by kernel_rfl) (by kernel_rfl) (by intro _ _ _ h;exact h) rfl hS (fun w hS=>(lO (m:=(i:Int).toNat) acy rfl (ha.ext hS) rfl (by omega))) (RA.take (i:=4) rfl rfl (by kernel_rfl) (by kernel_rfl) (by kernel_rfl) (by intro _ _ _ h;exact h) rfl hS (fun w hS=>U) (RA.take (i:=5) rfl rfl (by kernel_rfl) (by kernel_rfl) (by kernel_rfl) (by intro _ _ _ h;exact h) rfl hS (fun w hS=>U) (RA.take (i:=6) rfl rfl (by kernel_rfl) (by kernel_rfl) (by kernel_rfl) (by intro _ _ _ h;exact h) rfl hS (fun w hS=>(aC acz bI (hb.ext hS))) (RA.take (i:=7) rfl rfl (by kernel_rfl) (by kernel_rfl) (by kernel_rfl) (by intro _ _ _ h;exact h) rfl hS (fun w hS=>(lO (m:=(i:Int).toNat) acy rfl (hb.ext hS) rfl (by omega))) (RA.take (i:=8) rfl rfl (by kernel_rfl) (by kernel_rfl) (by kernel_rfl) (by intro _ _ _ h;exact h) rfl hS (fun w hS=>(bj)) (RA.done (by kernel_rfl) ?_)))))))))
 refine aA ?_
 refine RW.aG _ (fun j8=>?_) (fun j8=>?_)
 refine RW.aN (RL.ag ai (RL.ak (RW.ret (bb ?_))))
 iterate 2 refine aU ?_
 refine bb (aU (bc (RV.tmp rfl) ?_))
 refine⟨?_,hS⟩
 rw[decide_eq_false (fun e:x=y=>j8 (by subst e;rfl))];rfl
 refine RW.skip (ba (aA (RW.region (RL.ag U (RL.ag (aD rfl rfl rfl (bg (by omega) (by omega))) (RL.ag ai (RL.ak ?_)))))))
 refine⟨k-1,by omega,i+1,rfl,rfl,rfl,by omega,?_,hS⟩
 rw[ad8 (show i<x.length by omega),ad8 (show i<y.length by omega),J8]
 simp only[aek,acX]at j8
 rw[j8]
 refine RW.exit ?_
 iterate 2 refine bP ?_
 refine aY (aA (RW.aN (RL.ag ai (RL.ak (RW.ret (bc (RV.tmp rfl) ?_))))))
 refine⟨?_,iW⟩
 rw[ac2 (by omega),ac2 (by omega)]at J8
 rw[decide_eq_true J8];rfl
end Go.Proofs.YtngkdkbpgoddlaaGreat
namespace Go.Proofs.YtngkdkbpgoddlaaGreat
open Go.RowKit Go.Rl
open Go.dj
end Go.Proofs.YtngkdkbpgoddlaaGreat
namespace Go.Proofs.YtngkdkbpgoddlaaGreat
open Go.RowKit Go.Rl
open Go.dj
end Go.Proofs.YtngkdkbpgoddlaaGreat
namespace Go.Proofs.YtngkdkbpgoddlaaGreat
open Go.RowKit Go.Rl
open Go.jR
theorem xq:(acD.info? 257).map (·.zero)=some (some (.agg (ac3 256 (.int .u32 0)).toArray)):=by kernel_rfl
theorem BK (x:BitVec 32) (w:World):aM acD 210 #[u32 x] w fun v w'=>v=u32 (jR.step x)∧w=w':=by
 refine aM.aZ ajU ?_
 rw[cH]
 refine RW.aN (RL.ag ai (RL.bY (RL.ag U (RL.ag (nL rfl rfl (by decide) (Bg _ 1 (by decide))) (RL.ag U ?_)))))
 refine RL.ag (aD rfl rfl rfl (M0 _ 1#32)) (RL.ag (PD rfl (Tf _)) (RL.ag (aD rfl rfl rfl (M0 _ G2)) (RL.ag (aD rfl rfl rfl (JV _ _)) (RL.ag ai (RL.ak (RW.ret (bc (RV.tmp rfl) ?_)))))))
 exact⟨rfl,rfl⟩
theorem zs (w:World):aM acD 193 #[] w fun v w'=>v=.agg (jT 256).toArray∧Ext w w':=by
 refine aM.aZ ajV ?_
 rw[M5]
 refine RW.aN ?_
 refine RL.aL (pB xq rfl ?_)
 intro w1 TO qK lk
 refine RL.ak (RW.aN ?_)
 refine RL.aL (pB xq rfl ?_)
 intro w2 qL vR ow
 refine RL.ak ?_
 iterate 2 refine RW.seq ?_
 refine RW.region (RL.ag U (RL.ak (RW.block ?_)))
 refine RW.loop (fun k R w'=>∃i:Nat,R 4=.int .i64 (i:Int)∧R 0=.pointer (some ⟨w.heap.size,0,none⟩)∧R 1=.pointer (some ⟨w1.heap.size,0,none⟩)∧(i+k=256)∧(ij w' w.heap.size (ac3 256 (.int .u32 0)) 257)∧(ij w' w1.heap.size (jT i) 257)∧(Ext w w')) 256 ?_ ?_
 exact⟨0,rfl,rfl,rfl,rfl,TO.ext vR,by rw[zt];exact qL,qK.trans vR⟩
 rintro k R w' ⟨i,cu,cF,bN,fP,Yc,Je,iW⟩
 have cz:=k5 cu cF bN
 obtain⟨R0,rfl⟩:=cz
 clear cu cF bN
 refine RW.aN (RL.ag (aK) (RL.ak (RW.seq ?_)))
 refine RW.aG _ (fun cD=>?_) (fun cD=>?_)
 refine RW.skip (aA (RW.seq (RW.block (RW.aN (RL.ag U (RL.ag ai (RL.ak ?_)))))))
 refine RW.aN (RL.ag U (RL.ag (en acy aeL rfl (JQ i)) (RL.ag ai (RL.ak ?_))))
 iterate 2 refine RW.seq ?_
 refine RW.region (RL.ag U (RL.ak (RW.block ?_)))
 refine RW.loop (fun k2 R2 BC=>∃j:Nat,R2 9=.int .i64 (j:Int)∧R2 3=u32 (eT j (afd 32 i))∧R2 2=.int .i64 (i:Int)∧R2 4=.int .i64 (i:Int)∧R2 0=.pointer (some ⟨w.heap.size,0,none⟩)∧R2 1=.pointer (some ⟨w1.heap.size,0,none⟩)∧(j+k2=8)∧(BC=w')) 8 ?_ ?_
 exact⟨0,rfl,rfl,rfl,rfl,rfl,rfl,rfl,rfl⟩
 rintro k2 R2 BC ⟨j,dN,cb,bQ,cu,cF,bN,DM,hw⟩
 have cz:=oK dN cb bQ cu cF bN
 obtain⟨R20,rfl⟩:=cz
 clear dN cb bQ cu cF bN
 subst hw
 refine RW.aN (RL.ag (aK) (RL.ak (RW.seq ?_)))
 refine RW.aG _ (fun ep=>?_) (fun ep=>?_)
 refine RW.skip (aA (RW.seq (RW.block (RW.region (RL.ag U ?_)))))
 refine RL.aL (bo ajU rfl rfl rfl ((BK (eT j (afd 32 i)) _).mono ?_))
 rintro _ _ ⟨rfl,rfl⟩
 refine RL.ag ai (RL.nil (ba (aA (RW.region (RL.ag (aD rfl rfl rfl (bg (by omega) (by omega))) (RL.ag U (RL.ak ?_)))))))
 exact⟨k2-1,by omega,j+1,rfl,by rw[BL];rfl,rfl,rfl,rfl,rfl,by omega,rfl⟩
 refine RW.exit ?_
 iterate 2 refine bP ?_
 refine aY (aA (RW.region ?_))
 iterate 2 refine RL.ag U ?_
 refine RL.ag (rJ afR Gx rfl rfl (by omega) (by omega)) ?_
 refine RL.aL (lG Gx rfl rfl rfl rfl Je (by rw[fB];omega) ?_)
 intro w3 Qp Qk Rr
 refine RL.nil (ba (aA (RW.region (RL.ag (aD rfl rfl rfl (bg (by omega) (by omega))) (RL.ag U (RL.ak ?_))))))
 have hj8:j=8:=by omega
 subst hj8
 exact⟨k-1,by omega,i+1,rfl,rfl,rfl,by omega,Yc.mod Qk (by omega),by rw[zu i];exact Qp,iW.then Qk (by have:=iW.size;omega)⟩
 refine RW.exit ?_
 iterate 2 refine bP ?_
 refine aY (aA (RW.aN (RL.ag (aE (cs:=jT 256) afR (by rw[fB];exact Dq) (by rw[show i=256 from by omega]at Je;exact Je)) ?_)))
 refine RL.aL (ns (vs:=jT 256) (by rw[fB];exact Dq) rfl rfl rfl (sW 256) Yc (by rw[fB];simp) ?_)
 intro w4 Fg Se rr
 refine RL.ak (RW.ret (bc (RV.cell rfl rfl Fg afR rfl (by rw[agW,fB];exact Dq)) ?_))
 exact⟨rfl,iW.then Se (by omega)⟩
theorem Ce (n:BitVec 32) (v:Value) (l:List UInt8) (w:World) (hv:Sl vb w v l):aM acD 155 #[u32 n,v] w fun r w'=>r=u32 (jR.more n l)∧Ext w w':=by
 refine aM.aZ ajW ?_
 rw[cS]
 refine RW.aN (RL.ag ai (RL.ak (RW.aN ?_)))
 refine RL.aL (ji ajV rfl rfl ((zs _).mono ?_))
 rintro _ w1 ⟨rfl,qK⟩
 refine RL.aL (pB xq rfl ?_)
 intro w2 MN vR ow
 refine RL.aL (ns (vs:=jT 256) (by rw[fB];exact Dq) rfl rfl rfl (sW 256) MN (by rw[fB];simp) ?_)
 intro w3 Qp Qk Rr
 have zd:Ext w w3:=(qK.trans vR).then Qk (by have:=qK.size;omega)
 have Uy:=hv.ext zd
 have hlen:=hv.bw
 refine RL.bY (RL.ag U (RL.ag (A6 rfl (MZ _)) (RL.ag ai (RL.ak ?_))))
 iterate 2 refine RW.seq ?_
 refine RW.region (RL.ag U (RL.ag (aQ acW Uy) (RL.ag U (RL.ak (RW.block ?_)))))
 refine RW.loop (fun k R w'=>∃i:Nat,R 13=.int .i64 (i:Int)∧R 0=u32 (ou (~~~n) (l.take i))∧R 11=v∧R 12=.int .i64 (l.length:Int)∧R 5=.pointer (some ⟨w1.heap.size,0,none⟩)∧(i+k=l.length)∧(w'=w3)) l.length ?_ ?_
 exact⟨0,rfl,rfl,rfl,rfl,rfl,by omega,rfl⟩
 rintro k R w' ⟨i,fe,cF,eu,eK,cy,fP,hw⟩
 have cz:=hC fe cF eu eK cy
 obtain⟨R0,rfl⟩:=cz
 clear fe cF eu eK cy
 subst hw
 refine RW.aN (RL.ag (aK) (RL.ak (RW.seq ?_)))
 refine RW.aG _ (fun cD=>?_) (fun cD=>?_)
 refine RW.skip (aA (RW.seq (RW.block (RW.aN (RL.ag (aC acW sX Uy) (RL.ag (lO ady rfl Uy rfl (by omega)) (RL.ag ai (RL.nil ?_))))))))
 refine aA (RW.region (RL.ag U (RL.ag (nL rfl rfl (by decide) (Bg _ 8 (by decide))) (RL.ag U (RL.ag (en aeL ady rfl (Te _)) (RL.ag U (RL.ag (aD rfl rfl rfl (PK _ _)) (RL.ag (rJ afR Gx rfl rfl (by omega) (by have:=JY (ou (~~~n) (l.take i)^^^wide l[(i:Int).toNat]);omega)) (RL.ag (A5 aeL rfl rfl Qp (Kz _ (JY _))) ?_)))))))))
 refine RL.ag (aD rfl rfl rfl (Tc _ _)) (RL.ag ai (RL.nil (ba (aA (RW.region (RL.ag (aD rfl rfl rfl (bg (by omega) (by omega))) (RL.ag U (RL.ak ?_))))))))
 refine⟨k-1,by omega,i+1,rfl,?_,rfl,rfl,rfl,by omega,rfl⟩
 rw[←Cf (~~~n) l i (by omega)];rfl
 refine RW.exit ?_
 iterate 2 refine bP ?_
 refine aY (aA (RW.aN (RL.ag U (RL.ag (A6 rfl (MZ _)) (RL.ag ai (RL.ak (RW.ret ?_)))))))
 refine bc (RV.tmp rfl) ?_
 refine⟨?_,zd⟩
 show u32 (~~~(ou (~~~n) (l.take i)))=_
 rw[ac2 (by omega)];rfl
theorem wB (v:Value) (l:List UInt8) (w:World) (hv:Sl vb w v l):aM acD 92 #[v] w fun r w'=>r=u32 (jR.sum l)∧Ext w w':=by
 refine aM.aZ aiR ?_
 rw[cH]
 refine RW.aN (RL.ag ai (RL.bY (RL.ag U ?_)))
 refine RL.aL (bu ajW rfl rfl rfl rfl ((Ce 0#32 v l _ hv).mono ?_))
 rintro _ w1 ⟨rfl,qK⟩
 refine RL.ag ai (RL.ak (RW.ret (bc (RV.tmp rfl) ?_)))
 exact⟨rfl,qK⟩
theorem sV (n:BitVec 32) (w:World):aM acD 91 #[u32 n] w fun r w'=>eB vb 5 w' w.heap.size r (nj n)∧Ext w w':=by
 refine aM.aZ aiS ?_
 rw[cH]
 refine RW.aN (RL.ag ai (RL.bY (RL.ag U (RL.ag (en aeL ady rfl (LX _)) (RL.ag U ?_)))))
 refine RL.ag (nL rfl rfl (by decide) (Bg _ 8 (by decide))) (RL.ag (en aeL ady rfl (C9 _ 8)) (RL.ag U (RL.ag (nL rfl rfl (by decide) (Bg _ 16 (by decide))) (RL.ag (en aeL ady rfl (C9 _ 16)) (RL.ag U (RL.ag (nL rfl rfl (by decide) (Bg _ 24 (by decide))) (RL.ag (en aeL ady rfl (C9 _ 24)) ?_)))))))
 refine RL.aL (xS (enc:=vb) (l:=nj n) (xs:=[.tmp 4,.tmp 7,.tmp 10,.tmp 13]) acW sX Tq rfl rfl Gp rfl (by decide) (by decide) ?_)
 intro w1 pO qL qK lk
 refine RL.ag ai (RL.ak (RW.ret (bc (RV.tmp rfl) ?_)))
 exact⟨pO,qK⟩
theorem Bw (v:Value) (l:List UInt8) (w:World) (hv:Sl vb w v l) (hl:l.length≤140737488355324):aM acD 49 #[v] w fun r w'=>eB vb 5 w' w.heap.size r (l++nj (jR.sum l))∧Ext w w':=by
 refine aM.aZ Tryz.func49 ?_
 rw[cH]
 refine RW.aN (RL.ag ai (RL.bY (RL.ag U ?_)))
 refine RL.aL (iQ (l:=[]) acW rX rfl oJ (eB.nil vb 5 w w.heap.size) rfl hv rfl (by simp;omega) (by decide) (ac8 _) ?_)
 intro v1 w1 pO jv F4
 rw[aeG]at pO
 have qK:Ext w w1:=jv.mono (by intro i _ h;cases h)
 refine RL.ag ai (RL.ak (RW.aN ?_))
 iterate 2 refine RL.ag U ?_
 refine RL.aL (bo aiR rfl rfl rfl ((wB v l _ (hv.ext qK)).mono ?_))
 rintro _ w2 ⟨rfl,vR⟩
 refine RL.aL (bo aiS rfl rfl rfl ((sV (jR.sum l) _).mono ?_))
 rintro vt w3 ⟨U1,zd⟩
 refine RL.aL (iQ acW rX rfl oJ (pO.ext (vR.trans zd)) rfl U1.sl rfl (by simp[nj];omega) (by decide) (by have:=qK.size;have:=vR.size;have:=zd.size;omega) ?_)
 intro v4 w4 Sa Se X0
 refine RL.ag ai (RL.ak (RW.ret (bc (RV.tmp rfl) ?_)))
 exact⟨Sa,((qK.trans vR).trans zd).then Se (fun i hi e=>by have:=(pO.lt _ e).1;omega)⟩
theorem B9 (v:Value) (l:List UInt8) (w:World) (hv:Sl vb w v l) (hl:l.length≤140737488355328):aM acD 38 #[v] w fun r w'=>(jV l=true∧∃x,r=.tuple #[x,.int .i64 0]∧eB vb 5 w' w.heap.size x (l.take (l.length-4))∧Ext w w')∨(jV l=false∧r=.tuple #[vN,.int .i64 5]∧Ext w w'):=by
 refine aM.aZ Tryz.func38 ?_
 rw[cH]
 refine RW.aN ?_
 iterate 2 refine RL.ag ai ?_
 refine RL.ak (RW.aN ?_)
 have hlen:=hv.bw
 refine RL.ag U (RL.ag (aQ acW hv) (RL.ag (aD rfl rfl rfl (pn (by omega) (by omega))) (RL.ag ai (RL.ak ?_))))
 iterate 2 refine RW.seq ?_
 by_cases CG:(l.length:Int)-4<0
 refine RW.draw rfl (fun w'=>Ext w w') ?_
 have hS:Ext w w.drew:=Ext.drew w
 have r5:decide ((l.length:Int)-4<0)=true:=decide_eq_true CG
 refine RA.take (i:=0) rfl rfl (by kernel_rfl) (by kernel_rfl) (by kernel_rfl) (by intro _ _ _ h;exact h) rfl hS (fun w hS=>U) (RA.take (i:=1) rfl rfl (by kernel_rfl) (by kernel_rfl) (by kernel_rfl) (by intro _ _ _ h;exact h) rfl hS (fun w hS=>(aK)) (RA.take (i:=2) rfl rfl (by kernel_rfl) (by kernel_rfl) (by kernel_rfl) (by intro _ _ _ h;exact h) rfl hS (fun w hS=>U) (RA.jd (i:=3) rfl rfl rfl (by decide) (congrArg acV r5) (by kernel_rfl) (by kernel_rfl) (by kernel_rfl) (by intro _ _ _ h;exact h) rfl hS (RA.jd (i:=4) rfl rfl rfl (by decide) (congrArg acV r5) (by kernel_rfl) (by kernel_rfl) (by kernel_rfl) (by intro _ _ _ h;exact h) rfl hS (RA.jd (i:=5) rfl rfl rfl (by decide) (congrArg acV r5) (by kernel_rfl) (by kernel_rfl) (by kernel_rfl) (by intro _ _ _ h;exact h) rfl hS (RA.jd (i:=6) rfl rfl rfl (by decide) (congrArg acV r5) (by kernel_rfl) (by kernel_rfl) (by kernel_rfl) (by intro _ _ _ h;exact h) rfl hS (RA.jd (i:=7) rfl rfl rfl (by decide) (congrArg acV r5) (by kernel_rfl) (by kernel_rfl) (by kernel_rfl) (by intro _ _ _ h;exact h) rfl hS (RA.jd (i:=8) rfl rfl rfl (by decide) (congrArg acV r5) (by kernel_rfl) (by kernel_rfl) (by kernel_rfl) (by intro _ _ _ h;exact h) rfl hS (RA.jd (i:=9) rfl rfl rfl (by decide) (congrArg acV r5) (by kernel_rfl) (by kernel_rfl) (by kernel_rfl) (by intro _ _ _ h;exact h) rfl hS ?_)))))))))
 refine RA.jd (i:=10) rfl rfl rfl (by decide) (congrArg acV r5) (by kernel_rfl) (by kernel_rfl) (by kernel_rfl) (by intro _ _ _ h;exact h) rfl hS (RA.jd (i:=11) rfl rfl rfl (by decide) (congrArg acV r5) (by kernel_rfl) (by kernel_rfl) (by kernel_rfl) (by intro _ _ _ h;exact h) rfl hS (RA.jd (i:=12) rfl rfl rfl (by decide) (congrArg acV r5) (by kernel_rfl) (by kernel_rfl) (by kernel_rfl) (by intro _ _ _ h;exact h) rfl hS (RA.jd (i:=13) rfl rfl rfl (by decide) (congrArg acV r5) (by kernel_rfl) (by kernel_rfl) (by kernel_rfl) (by intro _ _ _ h;exact h) rfl hS (RA.take (i:=14) rfl rfl (by kernel_rfl) (by kernel_rfl) (by kernel_rfl) (by intro _ _ _ h;exact h) rfl hS (fun w hS=>(AZ (by exact congrArg acV r5))) (RA.done (by kernel_rfl) (aA (RW.bD (RW.aN ?_))))))))
 iterate 2 refine RL.ag ai ?_
 refine RL.ak (RW.ret (aU (bc (RV.ju rfl) ?_)))
 refine .inr ⟨?_,rfl,Ext.drew w⟩
 unfold jV;exact decide_eq_false (by omega)
 refine RW.draw rfl (fun w'=>Ext w w') ?_
 have hS:Ext w w.drew:=Ext.drew w
 have r5:decide ((l.length:Int)-4<0)=false:=decide_eq_false CG
 have UB:((l.length:Int)-4).toNat=l.length-4:=by omega
 refine RA.take (i:=0) rfl rfl (by kernel_rfl) (by kernel_rfl) (by kernel_rfl) (by intro _ _ _ h;exact h) rfl hS (fun w hS=>U) (RA.take (i:=1) rfl rfl (by kernel_rfl) (by kernel_rfl) (by kernel_rfl) (by intro _ _ _ h;exact h) rfl hS (fun w hS=>(aK)) (RA.take (i:=2) rfl rfl (by kernel_rfl) (by kernel_rfl) (by kernel_rfl) (by intro _ _ _ h;exact h) rfl hS (fun w hS=>U) (RA.nh (i:=3) rfl rfl rfl (by decide) (congrArg acV r5) (by kernel_rfl) (by kernel_rfl) (by kernel_rfl) (by intro _ _ _ h;exact h) rfl hS (fun w hS=>U) (RA.nh (i:=4) rfl rfl rfl (by decide) (congrArg acV r5) (by kernel_rfl) (by kernel_rfl) (by kernel_rfl) (by intro _ _ _ h;exact h) rfl hS (fun w hS=>U) (RA.nh (i:=5) rfl rfl rfl (by decide) (congrArg acV r5) (by kernel_rfl) (by kernel_rfl) (by kernel_rfl) (by intro _ _ _ h;exact h) rfl hS (fun w hS=>(nM acW sX (hv.ext hS) rfl rfl (by omega) (by omega))) (RA.nh (i:=9) rfl rfl rfl (by decide) (congrArg acV r5) (by kernel_rfl) (by kernel_rfl) (by kernel_rfl) (by intro _ _ _ h;exact h) rfl hS (fun w hS=>U) (RA.nh (i:=10) rfl rfl rfl (by decide) (congrArg acV r5) (by kernel_rfl) (by kernel_rfl) (by kernel_rfl) (by intro _ _ _ h;exact h) rfl hS (fun w hS=>U) (RA.nh (i:=11) rfl rfl rfl (by decide) (congrArg acV r5) (by kernel_rfl) (by kernel_rfl) (by kernel_rfl) (by intro _ _ _ h;exact h) rfl hS (fun w hS=>(kB acW sX (hv.ext hS) rfl rfl (by omega) (by omega))) ?_))))))))
 refine RA.nh (i:=12) rfl rfl rfl (by decide) (congrArg acV r5) (by kernel_rfl) (by kernel_rfl) (by kernel_rfl) (by intro _ _ _ h;exact h) rfl hS (fun w hS=>(kz acW ady aeq ((hv.ext hS).kX (by omega)) rfl)) ?_
 refine RA.Cb (i:=6) (by kernel_rfl) rfl rfl rfl (by decide) (congrArg acV r5) rfl (bo aiR rfl rfl rfl ((wB _ _ _ ((hv.ext hS).rL (by omega))).mono ?_))
 rintro _ w1 ⟨rfl,qK⟩
 have Yl:Ext w w1:=hS.trans qK
 refine⟨Yl,?_⟩
 clear hS
 have hS:=Yl
 refine RA.Cb (i:=7) (by kernel_rfl) rfl rfl rfl (by decide) (congrArg acV r5) rfl (bo aiS rfl rfl rfl ((sV _ _).mono ?_))
 rintro vt w2 ⟨U1,vR⟩
 have TP:Ext w w2:=hS.trans vR
 refine⟨TP,?_⟩
 clear hS
 have hS:=TP
 refine RA.Cb (i:=8) (by kernel_rfl) rfl rfl rfl (by decide) (congrArg acV r5) rfl (ey.ev (kz acW ady aeq U1.sl rfl) ⟨hS,?_⟩)
 refine RA.nh (i:=13) rfl rfl rfl (by decide) (congrArg acV r5) (by kernel_rfl) (by kernel_rfl) (by kernel_rfl) (by intro _ _ _ h;exact h) rfl hS (fun w hS=>(uR rfl rfl)) (RA.take (i:=14) rfl rfl (by kernel_rfl) (by kernel_rfl) (by kernel_rfl) (by intro _ _ _ h;exact h) rfl hS (fun w hS=>(A2 (by exact congrArg acV r5))) (RA.done (by kernel_rfl) (aA ?_)))
 refine RW.aG _ (fun dX=>?_) (fun dX=>?_)
 simp only[UB]at dX
 refine RW.aN ?_
 iterate 2 refine RL.ag ai ?_
 refine RL.ak (RW.ret (aU (bc (RV.ju rfl) ?_)))
 first
   |exact .inl ⟨by unfold jV;exact decide_eq_true ⟨by omega,acX.1 dX⟩,v5,rfl,Ot,Ya⟩
   |exact .inr ⟨by unfold jV;exact decide_eq_false (fun h=>dX h.2),rfl,hS⟩
 simp only[UB]at dX
 refine RW.skip (aA (RW.aN ?_))
 iterate 2 refine RL.ag U ?_
 refine RL.ag (nM acW sX (hv.ext hS) rfl rfl (by omega) (by omega)) ?_
 refine RL.aL (iQ (l:=[]) acW rX rfl oJ (eB.nil vb 5 _ w.heap.size) rfl ((hv.ext hS).rL (by omega)) rfl (by simp;omega) (by decide) hS.size ?_)
 intro v5 w5 Ot Oz XZ
 rw[aeG,UB]at Ot
 have Ya:Ext w w5:=hS.trans (Oz.mono (by intro i _ h;cases h))
 iterate 2 refine RL.ag ai ?_
 refine RL.ak (RW.ret (bc (RV.ju rfl) ?_))
 first
   |exact .inl ⟨by unfold jV;exact decide_eq_true ⟨by omega,acX.1 dX⟩,v5,rfl,Ot,Ya⟩
   |exact .inr ⟨by unfold jV;exact decide_eq_false (fun h=>dX h.2),rfl,hS⟩
end Go.Proofs.YtngkdkbpgoddlaaGreat
namespace Go.Proofs.YtngkdkbpgoddlaaGreat
open Go.RowKit Go.Rl
open Go.jR
end Go.Proofs.YtngkdkbpgoddlaaGreat
namespace Go.Proofs.YtngkdkbpgoddlaaGreat
open Go.RowKit Go.Rl
open Go.jR
end Go.Proofs.YtngkdkbpgoddlaaGreat
namespace Go.dj
open Go.Rl
section
variable {w0 w w':World} {F:Nat→Prop} {L:List Atom} {a a' b:Atom}
theorem Ku (h:aH w0 F w L) (i:Nat) (hi:L[i]?=some a) (hm:Rl.Mod a.dR w w') (hs:a'.says w') (hf:∀k,a'.dR k→a.dR k) (hb:b.says w') (V3:∀k,b.dR k→w.heap.size≤k∧k<w'.heap.size):aH w0 F w' (b::L.set i a'):=by
  have hU:=h.dm i hi hm hs (fun k hk=>⟨.inl (hf k hk),aef (h.low i a hi k (hf k hk)).2 hm.size⟩)
  refine hU.add hb (fun k hk=>⟨acU h.size (V3 k hk).1,(V3 k hk).2⟩) fun j c hc k hk iZ=>?_
  have cD:k<w.heap.size:=by
    rw[adp]at hc
    split at hc
    · split at hc
      · cases hc;exact(h.low i a hi k (hf k hk)).2
      · cases hc
    · exact(h.low j c hc k hk).2
  have:=(V3 k iZ).1
  omega
def dF (T:TypeId) (lo hi g:Nat) (s:St):Atom where
  dR k:=lo≤k∧k<hi
  says w:=Rd T w lo hi g s
  kp:=by
    intro w w' h hs
    obtain⟨hb,hc,v,h1,⟨A,c,hv,l1,l2,fq⟩,h3⟩:=hs
    refine⟨hb,hc,v,?_,⟨A,c,hv,l1,l2,fun j u hj=>?_⟩,h3⟩
    · unfold ij at *
      exact(h g ⟨hb,hc⟩ (adr.1 h1).1).trans h1
    · obtain ⟨ad, e, hq⟩ := fq j u hj
      refine⟨ad,e,?_⟩
      have Qo:=block_lt_of_cell hq
      have hk:v.ownBlock=some ad.block:=by rw[hv,e];rfl
      rw[block_add]at Qo
      exact(aeQ (by rw[block_add];exact h _ ⟨(h3 _ hk).1,(h3 _ hk).2.1⟩ Qo)).trans hq
theorem dF.says {T:TypeId} {lo hi g:Nat} {s:St} (h:aH w0 F w L) (i:Nat) (ic:L[i]?=some (dF T lo hi g s)):Rd T w lo hi g s:=h.says i _ ic
theorem Dt {T:TypeId} {lo hi g:Nat} {s s':St} (h:aH w0 F w L) (i:Nat) (ic:L[i]?=some (dF T lo hi g s)) (hr:Rd T w' lo hi g s') (hm:Rl.Mod (fun k=>k=g) w w'):aH w0 F w' (L.set i (dF T lo hi g s')):=by
  have h0:=dF.says h i ic
  refine h.dm i ic (hm.mono fun k _ e=>?_) hr fun k hk=>⟨.inl hk,aef (h.low i _ ic k hk).2 hm.size⟩
  cases e;exact⟨h0.1,h0.2.1⟩
theorem NF {α:Type} {enc:α→Value} {E T:TypeId} {lo hi g:Nat} {s s':St} {v:Value} {l:List α} (h:aH w0 F w L) (i:Nat) (ic:L[i]?=some (dF T lo hi g s)) (ho:eB enc E w' w.heap.size v l) (hr:Rd T w' lo hi g s') (hm:Rl.Mod (fun k=>k=g) w w'):
    aH w0 F w' (.own enc E v l::L.set i (dF T lo hi g s')):=by
  have h0:=dF.says h i ic
  refine Ku h i ic (hm.mono fun k _ e=>?_) hr (fun _ hk=>hk) (ho.lower (adW _)) (fun k hk=>ho.lt k hk)
  cases e;exact⟨h0.1,h0.2.1⟩
theorem Me {T:TypeId} {lo hi g:Nat} {s:St} (h:aH w0 F w L) (i:Nat) (ic:L[i]?=some (dF T lo hi g s)):hi≤w.heap.size:=by
  have h0:=dF.says h i ic
  have cD:lo<hi:=adD h0.1 h0.2.1
  have:=(h.low i _ ic (hi-1) ⟨by omega,by omega⟩).2
  omega
theorem xL {T:TypeId} {g:Nat} {s:St} (h:aH w0 F w L) (hr:Rd T w' w.heap.size w'.heap.size g s) (he:Ext w w'):aH w0 F w' (dF T w.heap.size w'.heap.size g s::L):=
  h.push he hr fun k hk=>hk
end
end Go.dj
namespace Go.Proofs.YtngkdkbpgoddlaaGreat
open Go.RowKit Go.Rl
open Go.dj Go.jR
theorem oR (v:Value) (hs:List Hd) (ls:List (List UInt8)) (w:World) (hv:Sl vh w v hs) (iX:gG none_ vb w hs ls) (eI:fO ls≤140737488351232):aM acD 18 #[v] w fun r w'=>eB vb 5 w' w.heap.size r (dC ls)∧Ext w w':=by
 refine aM.aZ ahC ?_
 rw[cH]
 have hN:=aH.nil w none_
 have hl0:=iX.1
 have hm8:=ER ls
 refine RW.aN (RL.ag ai (RL.bY (RL.ag ai (RL.ak ?_))))
 iterate 2 refine RW.seq ?_
 refine RW.region (RL.ag U ?_)
 have nJ:=(hv.ext hN.aX).bw
 refine RL.ag (aQ adL (hv.ext hN.aX)) (RL.ag U (RL.ak (RW.block ?_)))
 replace hN:=hN.dy vb 5
 refine RW.loop (fun k R0 cv=>∃vo:Value,∃acc:List UInt8,∃i:Nat,R0 3=vo∧R0 6=v∧R0 7=.int .i64 ((hs.length:Int))∧R0 8=vJ i∧aH w none_ cv [.own vb 5 (vo) (acc)]∧(i+k=hs.length)∧(acc=dC (ls.take i))) (hs.length) ?_ ?_
 exact⟨vN,[],0,rfl,rfl,rfl,rfl,hN,by omega,rfl⟩
 clear hN
 rintro k R0 cv ⟨vo,acc,i,cb,cV,cC,cM,hN,fP,mT⟩
 have cz:=iV cb cV cC cM
 obtain⟨fV,rfl⟩:=cz
 clear cb cV cC cM
 refine RW.aN (RL.ag (aK) (RL.ak (RW.seq ?_)))
 refine RW.aG _ (fun cD=>?_) (fun cD=>?_)
 refine RW.skip (aA (RW.seq (RW.block (RW.aN (RL.ag (aC adL lY (hv.ext hN.aX)) ?_)))))
 have aO:=cQ (hs) i
 obtain⟨ap,bV⟩:=aO
 have aO:∃l_,(ls)[i]?=some l_:=⟨_,acM (by have:=iX.1;omega)⟩
 obtain⟨lp,eN⟩:=aO
 refine RL.ag (aF (m:=i) (a:=ap) acW (hv.ext hN.aX) bV) ?_
 have Vn:=Cp eN
 have hmt:=Ck eN
 have hml:=Hl ls (i+1)
 have SA:=fZ (ls.take i)
 have im:acc.length=fO (ls.take i):=by rw[mT,SA]
 refine RL.ag ai (RL.ak (RW.region ?_))
 iterate 2 refine RL.ag U ?_
 refine RL.aL (bo Tryz.func49 rfl rfl rfl ((Bw _ lp _ ((iX.2 _ _ _ bV eN).1.ext hN.aX) (by(try simp only[acB,ac9,adj,cr,eG,dr,eE,acS,acK]);omega)).mono ?_))
 rintro v3 w3 ⟨cL,bl⟩
 replace hN:aH w none_ w3 [_,_]:=hN.cl (l:=mD lp) cL bl
 clear cL bl
 refine RL.ag (kz acW ady aeq (hN.sl 0 rfl) rfl) ?_
 refine RL.aL (bo Tryz.func48 rfl rfl rfl ((BI (mD lp) _ (by(try simp only[acB,ac9,adj,cr,eG,dr,eE,acS,acK]);omega)).mono ?_))
 rintro v4 w4 ⟨cL,bl⟩
 replace hN:aH w none_ w4 [_,_,_]:=hN.cl (l:=jG (mD lp)) cL bl
 clear cL bl
 refine RL.aL (b9 acW rX rfl oJ hN 2 rfl rfl (hN.sl 0 rfl) rfl (by rw[eG,eE];omega) (by decide) ?_)
 clear hN
 intro v5 w5 (hN:aH w none_ w5 [_,_,_])
 refine RL.ag ai (RL.nil (ba (aA (RW.region (RL.ag (aD rfl rfl rfl (bg (by omega) (by omega))) (RL.ag U (RL.ak ?_)))))))
 exact⟨k-1,by omega,v5,acc++(jG (mD lp)),i+1,rfl,rfl,rfl,rfl,(hN.sb [2]),by omega,by rw[Vn,mT]⟩
 refine RW.exit ?_
 iterate 2 refine bP ?_
 refine aY (aA (RW.aN (RL.ag U (RL.ag ai (RL.ak (RW.ret (bc (RV.tmp rfl) ?_)))))))
 exact⟨(hN.ft 0 rfl).l7 (by rw[mT,ac2 (by omega)]),hN.aX⟩
end Go.Proofs.YtngkdkbpgoddlaaGreat
namespace Go.Proofs.YtngkdkbpgoddlaaGreat
open Go.RowKit Go.Rl
open Go.Gr Go.dj Go.jR
theorem my (fi:FuncId) (fn:Func) (fd:I3→Int) (SF:acD.funcs[fi]?=some fn) (DU:(fn.name == "runtime.NumGoroutine")=false) (SH:fn.body.isSome=true) (SG:∀(a:I3) (w:World),aM acD fi #[.agg #[.int .i64 a.1,.int .i64 a.2.1,.int .i64 a.2.2]] w fun r w'=>r=.int .i64 (fd a)∧Ext w w') (v:Value) (l:List I3) (w:World) (hv:Sm bC w v l) (hl:l.length≤67108864):aM acD 71 #[v,.func (.func fi) #[] #[]] w fun r w'=>eB vb 5 w' w.heap.size r (bL (l.map fd))∧Ext w w':=by
 refine aM.aZ ahD ?_
 rw[cS]
 have hN:=aH.nil w none_
 refine RW.aN (RL.ag (v:=vN) ai (RL.bY (RL.ag (v:=vN) ai (RL.ak ?_))))
 iterate 2 refine RW.seq ?_
 refine RW.region (RL.ag (v:=v) U ?_)
 have nJ:=(hv.o.now hN).bw
 refine RL.ag (bO acP (hv.o.now hN)) (RL.ag (v:=.int .i64 (0)) U (RL.ak (RW.block ?_)))
 replace hN:=hN.dy vi 3
 refine RW.loop (fun k R0 cv=>∃va:Value,∃acc:List Int,∃i:Nat,R0 1=.func (.func fi) #[] #[]∧R0 5=va∧R0 8=v∧R0 9=.int .i64 ((l.length:Int))∧R0 10=vJ i∧aH w none_ cv [.own vi 3 (va) (acc)]∧(i+k=l.length)∧(acc=(l.take i).map fd)∧(acc.length=i)) (l.length) ?_ ?_
 exact⟨vN,[],0,rfl,rfl,rfl,rfl,rfl,hN,by omega,rfl,rfl⟩
 clear hN
 rintro k R0 cv ⟨va,acc,i,bN,cy,cM,dN,db,hN,fP,ha,im⟩
 have cz:=hC bN cy cM dN db
 obtain⟨fV,rfl⟩:=cz
 clear bN cy cM dN db
 refine RW.aN (RL.ag (aK) (RL.ak (RW.seq ?_)))
 refine RW.aG _ (fun cD=>?_) (fun cD=>?_)
 refine RW.skip (aA (RW.seq (RW.block (RW.aN (RL.ag (aT acP cY aW (hv.o.now hN)) ?_)))))
 have aO:=cQ (l) i
 obtain⟨ap,bV⟩:=aO
 refine RL.ag (b0 (m:=i) (a:=ap) acT cY aW (hv.o.now hN) bV (cs:=[.int .i64 (ap.1),.int .i64 (ap.2.1),.int .i64 (ap.2.2)])) ?_
 refine RL.aL (bz (cs:=[.int .i64 (0),.int .i64 (0),.int .i64 (0)]) fu rfl hN ?_)
 clear hN
 intro g3 w3 (hN:aH w none_ w3 [_,_])
 refine RL.aL (aS (vs:=[.int .i64 (ap.1),.int .i64 (ap.2.1),.int .i64 (ap.2.2)]) cY rfl rfl rfl (bh (bh (bh cZ))) hN 0 rfl rfl ?_)
 clear hN
 intro w4 (hN:aH w none_ w4 [_,_])
 refine RL.ak (RW.region (RL.ag (v:=va) U (RL.ag (v:=.func (.func fi) #[] #[]) U (RL.ag (aE (cs:=[.int .i64 (ap.1),.int .i64 (ap.2.1),.int .i64 (ap.2.2)]) acT cY (hN.aJ 0 rfl)) ?_))))
 refine RL.aL (ct (first:=#[]) (captured:=#[]) (v0:=.agg #[.int .i64 (ap.1),.int .i64 (ap.2.1),.int .i64 (ap.2.2)]) (args:=#[.agg #[.int .i64 (ap.1),.int .i64 (ap.2.1),.int .i64 (ap.2.2)]]) SF DU SH (by simp) rfl rfl ((SG ap _).mono ?_))
 rintro _ w5 ⟨rfl,bl⟩
 replace hN:=hN.ext bl
 clear bl
 refine RL.aL (cx (enc:=vi) (l:=[(fd ap)]) (xs:=[.tmp 17]) acz bI mN rfl rfl (fun _=>rfl) rfl (by decide) (by decide) hN ?_)
 clear hN
 intro g6 w6 (hN:aH w none_ w6 [_,_,_])
 refine RL.aL (b9 acz fI rfl (fun _=>rfl) hN 2 rfl rfl (hN.sl 0 rfl) rfl (by rw[im];simp only[acH,acK,acS];omega) (by decide) ?_)
 clear hN
 intro v7 w7 (hN:aH w none_ w7 [_,_,_])
 refine RL.ag (v:=v7) ai (RL.nil (ba (aA (RW.region (RL.ag (aD rfl rfl rfl (bg (by omega) (by omega))) (RL.ag (v:=.int .i64 ((i:Int)+1)) U (RL.ak ?_)))))))
 exact⟨k-1,by omega,v7,acc++[(fd ap)],i+1,rfl,rfl,rfl,rfl,rfl,(hN.sb [2]),by omega,by rw[ef _ bV,ha],by rw[acB,im];rfl⟩
 refine RW.exit ?_
 iterate 2 refine bP ?_
 refine aY (aA (RW.seq ?_))
 have ic:i=l.length:=by omega
 refine RW.region (RL.ag (v:=va) U ?_)
 refine RL.aL (bo aeP rfl rfl rfl ((fD _ acc _ (hN.sl 0 rfl) (by(try simp only[acB,ac9,adj,acS,acK,acH,adb,acB,ada]);omega)).mono ?_))
 rintro v8 w8 ⟨cL,bl⟩
 replace hN:aH w none_ w8 [_,_]:=hN.cl (l:=bL acc) cL bl
 clear cL bl
 refine RL.ag (v:=v8) ai (RL.ak (RW.ret (bc (RV.tmp rfl) ?_)))
 rw[ic,adm]at ha
 subst ha
 exact⟨hN.ft 0 rfl,hN.aX⟩
theorem vX (a:I3) (w:World):aM acD 72 #[.agg #[.int .i64 a.1,.int .i64 a.2.1,.int .i64 a.2.2]] w fun r w'=>r=.int .i64 a.1∧Ext w w':=by
 refine aM.aZ Tryz.func72 ?_
 rw[cH]
 have hN:=aH.nil w none_
 refine RW.aN ?_
 refine RL.aL (bJ (cs:=[.int .i64 (a.1),.int .i64 (a.2.1),.int .i64 (a.2.2)]) rfl rfl hN ?_)
 clear hN
 intro g1 w1 (hN:aH w none_ w1 [_])
 refine RL.ag (v:=.int .i64 (0)) ai (RL.bY (RL.ag (ah acT rfl bI) (RL.ag (aj acy (hN.aJ 0 rfl)) (RL.ag (v:=.int .i64 (a.1)) ai (RL.ak ?_)))))
 refine RW.ret (bc (RV.tmp rfl) ?_)
 exact⟨rfl,hN.aX⟩
theorem wc (v:Value) (l:List I3) (w:World) (hv:Sm bC w v l) (hl:l.length≤67108864):aM acD 71 #[v,.func (.func 72) #[] #[]] w fun r w'=>eB vb 5 w' w.heap.size r (bL (l.map fun a=>a.1))∧Ext w w':=
  my 72 _ (fun a=>a.1) Tryz.func72 rfl rfl vX v l w hv hl
theorem vW (a:I3) (w:World):aM acD 73 #[.agg #[.int .i64 a.1,.int .i64 a.2.1,.int .i64 a.2.2]] w fun r w'=>r=.int .i64 a.2.1∧Ext w w':=by
 refine aM.aZ Tryz.func73 ?_
 rw[cH]
 have hN:=aH.nil w none_
 refine RW.aN ?_
 refine RL.aL (bJ (cs:=[.int .i64 (a.1),.int .i64 (a.2.1),.int .i64 (a.2.2)]) rfl rfl hN ?_)
 clear hN
 intro g1 w1 (hN:aH w none_ w1 [_])
 refine RL.ag (v:=.int .i64 (0)) ai (RL.bY (RL.ag (ah acT rfl bI) (RL.ag (aj acy (hN.aJ 0 rfl)) (RL.ag (v:=.int .i64 (a.2.1)) ai (RL.ak ?_)))))
 refine RW.ret (bc (RV.tmp rfl) ?_)
 exact⟨rfl,hN.aX⟩
theorem wb (v:Value) (l:List I3) (w:World) (hv:Sm bC w v l) (hl:l.length≤67108864):aM acD 71 #[v,.func (.func 73) #[] #[]] w fun r w'=>eB vb 5 w' w.heap.size r (bL (l.map fun a=>a.2.1))∧Ext w w':=
  my 73 _ (fun a=>a.2.1) Tryz.func73 rfl rfl vW v l w hv hl
theorem vV (a:I3) (w:World):aM acD 74 #[.agg #[.int .i64 a.1,.int .i64 a.2.1,.int .i64 a.2.2]] w fun r w'=>r=.int .i64 a.2.2∧Ext w w':=by
 refine aM.aZ Tryz.func74 ?_
 rw[cH]
 have hN:=aH.nil w none_
 refine RW.aN ?_
 refine RL.aL (bJ (cs:=[.int .i64 (a.1),.int .i64 (a.2.1),.int .i64 (a.2.2)]) rfl rfl hN ?_)
 clear hN
 intro g1 w1 (hN:aH w none_ w1 [_])
 refine RL.ag (v:=.int .i64 (0)) ai (RL.bY (RL.ag (ah acT rfl bI) (RL.ag (aj acy (hN.aJ 0 rfl)) (RL.ag (v:=.int .i64 (a.2.2)) ai (RL.ak ?_)))))
 refine RW.ret (bc (RV.tmp rfl) ?_)
 exact⟨rfl,hN.aX⟩
theorem wa (v:Value) (l:List I3) (w:World) (hv:Sm bC w v l) (hl:l.length≤67108864):aM acD 71 #[v,.func (.func 74) #[] #[]] w fun r w'=>eB vb 5 w' w.heap.size r (bL (l.map fun a=>a.2.2))∧Ext w w':=
  my 74 _ (fun a=>a.2.2) Tryz.func74 rfl rfl vV v l w hv hl
theorem gQ (fi:FuncId) (fn:Func) (fd:I5→Int) (SF:acD.funcs[fi]?=some fn) (DU:(fn.name == "runtime.NumGoroutine")=false) (SH:fn.body.isSome=true) (SG:∀(a:I5) (w:World),aM acD fi #[.agg #[.int .i64 a.1,.int .i64 a.2.1,.int .i64 a.2.2.1,.int .i64 a.2.2.2.1,.int .i64 a.2.2.2.2]] w fun r w'=>r=.int .i64 (fd a)∧Ext w w') (v:Value) (l:List I5) (w:World) (hv:Sm aV w v l) (hl:l.length≤67108864):aM acD 76 #[v,.func (.func fi) #[] #[]] w fun r w'=>eB vb 5 w' w.heap.size r (bL (l.map fd))∧Ext w w':=by
 refine aM.aZ af5 ?_
 rw[cS]
 have hN:=aH.nil w none_
 refine RW.aN (RL.ag (v:=vN) ai (RL.bY (RL.ag (v:=vN) ai (RL.ak ?_))))
 iterate 2 refine RW.seq ?_
 refine RW.region (RL.ag (v:=v) U ?_)
 have nJ:=(hv.o.now hN).bw
 refine RL.ag (bO acL (hv.o.now hN)) (RL.ag (v:=.int .i64 (0)) U (RL.ak (RW.block ?_)))
 replace hN:=hN.dy vi 3
 refine RW.loop (fun k R0 cv=>∃va:Value,∃acc:List Int,∃i:Nat,R0 1=.func (.func fi) #[] #[]∧R0 5=va∧R0 8=v∧R0 9=.int .i64 ((l.length:Int))∧R0 10=vJ i∧aH w none_ cv [.own vi 3 (va) (acc)]∧(i+k=l.length)∧(acc=(l.take i).map fd)∧(acc.length=i)) (l.length) ?_ ?_
 exact⟨vN,[],0,rfl,rfl,rfl,rfl,rfl,hN,by omega,rfl,rfl⟩
 clear hN
 rintro k R0 cv ⟨va,acc,i,bN,cy,cM,dN,db,hN,fP,ha,im⟩
 have cz:=hC bN cy cM dN db
 obtain⟨fV,rfl⟩:=cz
 clear bN cy cM dN db
 refine RW.aN (RL.ag (aK) (RL.ak (RW.seq ?_)))
 refine RW.aG _ (fun cD=>?_) (fun cD=>?_)
 refine RW.skip (aA (RW.seq (RW.block (RW.aN (RL.ag (aT acL eh aI (hv.o.now hN)) ?_)))))
 have aO:=cQ (l) i
 obtain⟨ap,bV⟩:=aO
 refine RL.ag (b0 (m:=i) (a:=ap) acG eh aI (hv.o.now hN) bV (cs:=[.int .i64 (ap.1),.int .i64 (ap.2.1),.int .i64 (ap.2.2.1),.int .i64 (ap.2.2.2.1),.int .i64 (ap.2.2.2.2)])) ?_
 refine RL.aL (bz (cs:=[.int .i64 (0),.int .i64 (0),.int .i64 (0),.int .i64 (0),.int .i64 (0)]) fW rfl hN ?_)
 clear hN
 intro g3 w3 (hN:aH w none_ w3 [_,_])
 refine RL.aL (aS (vs:=[.int .i64 (ap.1),.int .i64 (ap.2.1),.int .i64 (ap.2.2.1),.int .i64 (ap.2.2.2.1),.int .i64 (ap.2.2.2.2)]) eh rfl rfl rfl (bh (bh (bh (bh (bh cZ))))) hN 0 rfl rfl ?_)
 clear hN
 intro w4 (hN:aH w none_ w4 [_,_])
 refine RL.ak (RW.region (RL.ag (v:=va) U (RL.ag (v:=.func (.func fi) #[] #[]) U (RL.ag (aE (cs:=[.int .i64 (ap.1),.int .i64 (ap.2.1),.int .i64 (ap.2.2.1),.int .i64 (ap.2.2.2.1),.int .i64 (ap.2.2.2.2)]) acG eh (hN.aJ 0 rfl)) ?_))))
 refine RL.aL (ct (first:=#[]) (captured:=#[]) (v0:=.agg #[.int .i64 (ap.1),.int .i64 (ap.2.1),.int .i64 (ap.2.2.1),.int .i64 (ap.2.2.2.1),.int .i64 (ap.2.2.2.2)]) (args:=#[.agg #[.int .i64 (ap.1),.int .i64 (ap.2.1),.int .i64 (ap.2.2.1),.int .i64 (ap.2.2.2.1),.int .i64 (ap.2.2.2.2)]]) SF DU SH (by simp) rfl rfl ((SG ap _).mono ?_))
 rintro _ w5 ⟨rfl,bl⟩
 replace hN:=hN.ext bl
 clear bl
 refine RL.aL (cx (enc:=vi) (l:=[(fd ap)]) (xs:=[.tmp 17]) acz bI mN rfl rfl (fun _=>rfl) rfl (by decide) (by decide) hN ?_)
 clear hN
 intro g6 w6 (hN:aH w none_ w6 [_,_,_])
 refine RL.aL (b9 acz fI rfl (fun _=>rfl) hN 2 rfl rfl (hN.sl 0 rfl) rfl (by rw[im];simp only[acH,acK,acS];omega) (by decide) ?_)
 clear hN
 intro v7 w7 (hN:aH w none_ w7 [_,_,_])
 refine RL.ag (v:=v7) ai (RL.nil (ba (aA (RW.region (RL.ag (aD rfl rfl rfl (bg (by omega) (by omega))) (RL.ag (v:=.int .i64 ((i:Int)+1)) U (RL.ak ?_)))))))
 exact⟨k-1,by omega,v7,acc++[(fd ap)],i+1,rfl,rfl,rfl,rfl,rfl,(hN.sb [2]),by omega,by rw[ef _ bV,ha],by rw[acB,im];rfl⟩
 refine RW.exit ?_
 iterate 2 refine bP ?_
 refine aY (aA (RW.seq ?_))
 have ic:i=l.length:=by omega
 refine RW.region (RL.ag (v:=va) U ?_)
 refine RL.aL (bo aeP rfl rfl rfl ((fD _ acc _ (hN.sl 0 rfl) (by(try simp only[acB,ac9,adj,acS,acK,acH,adb,acB,ada]);omega)).mono ?_))
 rintro v8 w8 ⟨cL,bl⟩
 replace hN:aH w none_ w8 [_,_]:=hN.cl (l:=bL acc) cL bl
 clear cL bl
 refine RL.ag (v:=v8) ai (RL.ak (RW.ret (bc (RV.tmp rfl) ?_)))
 rw[ic,adm]at ha
 subst ha
 exact⟨hN.ft 0 rfl,hN.aX⟩
theorem sf (a:I5) (w:World):aM acD 77 #[.agg #[.int .i64 a.1,.int .i64 a.2.1,.int .i64 a.2.2.1,.int .i64 a.2.2.2.1,.int .i64 a.2.2.2.2]] w fun r w'=>r=.int .i64 a.1∧Ext w w':=by
 refine aM.aZ Tryz.func77 ?_
 rw[cH]
 have hN:=aH.nil w none_
 refine RW.aN ?_
 refine RL.aL (bJ (cs:=[.int .i64 (a.1),.int .i64 (a.2.1),.int .i64 (a.2.2.1),.int .i64 (a.2.2.2.1),.int .i64 (a.2.2.2.2)]) rfl rfl hN ?_)
 clear hN
 intro g1 w1 (hN:aH w none_ w1 [_])
 refine RL.ag (v:=.int .i64 (0)) ai (RL.bY (RL.ag (ah acG rfl bI) (RL.ag (aj acy (hN.aJ 0 rfl)) (RL.ag (v:=.int .i64 (a.1)) ai (RL.ak ?_)))))
 refine RW.ret (bc (RV.tmp rfl) ?_)
 exact⟨rfl,hN.aX⟩
theorem sA (v:Value) (l:List I5) (w:World) (hv:Sm aV w v l) (hl:l.length≤67108864):aM acD 76 #[v,.func (.func 77) #[] #[]] w fun r w'=>eB vb 5 w' w.heap.size r (bL (l.map fun a=>a.1))∧Ext w w':=
  gQ 77 _ (fun a=>a.1) Tryz.func77 rfl rfl sf v l w hv hl
theorem se (a:I5) (w:World):aM acD 78 #[.agg #[.int .i64 a.1,.int .i64 a.2.1,.int .i64 a.2.2.1,.int .i64 a.2.2.2.1,.int .i64 a.2.2.2.2]] w fun r w'=>r=.int .i64 a.2.1∧Ext w w':=by
 refine aM.aZ Tryz.func78 ?_
 rw[cH]
 have hN:=aH.nil w none_
 refine RW.aN ?_
 refine RL.aL (bJ (cs:=[.int .i64 (a.1),.int .i64 (a.2.1),.int .i64 (a.2.2.1),.int .i64 (a.2.2.2.1),.int .i64 (a.2.2.2.2)]) rfl rfl hN ?_)
 clear hN
 intro g1 w1 (hN:aH w none_ w1 [_])
 refine RL.ag (v:=.int .i64 (0)) ai (RL.bY (RL.ag (ah acG rfl bI) (RL.ag (aj acy (hN.aJ 0 rfl)) (RL.ag (v:=.int .i64 (a.2.1)) ai (RL.ak ?_)))))
 refine RW.ret (bc (RV.tmp rfl) ?_)
 exact⟨rfl,hN.aX⟩
theorem sz (v:Value) (l:List I5) (w:World) (hv:Sm aV w v l) (hl:l.length≤67108864):aM acD 76 #[v,.func (.func 78) #[] #[]] w fun r w'=>eB vb 5 w' w.heap.size r (bL (l.map fun a=>a.2.1))∧Ext w w':=
  gQ 78 _ (fun a=>a.2.1) Tryz.func78 rfl rfl se v l w hv hl
theorem sd (a:I5) (w:World):aM acD 79 #[.agg #[.int .i64 a.1,.int .i64 a.2.1,.int .i64 a.2.2.1,.int .i64 a.2.2.2.1,.int .i64 a.2.2.2.2]] w fun r w'=>r=.int .i64 a.2.2.1∧Ext w w':=by
 refine aM.aZ Tryz.func79 ?_
 rw[cH]
 have hN:=aH.nil w none_
 refine RW.aN ?_
 refine RL.aL (bJ (cs:=[.int .i64 (a.1),.int .i64 (a.2.1),.int .i64 (a.2.2.1),.int .i64 (a.2.2.2.1),.int .i64 (a.2.2.2.2)]) rfl rfl hN ?_)
 clear hN
 intro g1 w1 (hN:aH w none_ w1 [_])
 refine RL.ag (v:=.int .i64 (0)) ai (RL.bY (RL.ag (ah acG rfl cT) (RL.ag (ah acN rfl bI) (RL.ag (aj acy (hN.aJ 0 rfl)) (RL.ag (v:=.int .i64 (a.2.2.1)) ai (RL.nil ?_))))))
 refine aA (RW.ret (bc (RV.tmp rfl) ?_))
 exact⟨rfl,hN.aX⟩
theorem sy (v:Value) (l:List I5) (w:World) (hv:Sm aV w v l) (hl:l.length≤67108864):aM acD 76 #[v,.func (.func 79) #[] #[]] w fun r w'=>eB vb 5 w' w.heap.size r (bL (l.map fun a=>a.2.2.1))∧Ext w w':=
  gQ 79 _ (fun a=>a.2.2.1) Tryz.func79 rfl rfl sd v l w hv hl
theorem sc (a:I5) (w:World):aM acD 80 #[.agg #[.int .i64 a.1,.int .i64 a.2.1,.int .i64 a.2.2.1,.int .i64 a.2.2.2.1,.int .i64 a.2.2.2.2]] w fun r w'=>r=.int .i64 a.2.2.2.1∧Ext w w':=by
 refine aM.aZ Tryz.func80 ?_
 rw[cH]
 have hN:=aH.nil w none_
 refine RW.aN ?_
 refine RL.aL (bJ (cs:=[.int .i64 (a.1),.int .i64 (a.2.1),.int .i64 (a.2.2.1),.int .i64 (a.2.2.2.1),.int .i64 (a.2.2.2.2)]) rfl rfl hN ?_)
 clear hN
 intro g1 w1 (hN:aH w none_ w1 [_])
 refine RL.ag (v:=.int .i64 (0)) ai (RL.bY (RL.ag (ah acG rfl cT) (RL.ag (ah acN rfl bI) (RL.ag (aj acy (hN.aJ 0 rfl)) (RL.ag (v:=.int .i64 (a.2.2.2.1)) ai (RL.nil ?_))))))
 refine aA (RW.ret (bc (RV.tmp rfl) ?_))
 exact⟨rfl,hN.aX⟩
theorem sx (v:Value) (l:List I5) (w:World) (hv:Sm aV w v l) (hl:l.length≤67108864):aM acD 76 #[v,.func (.func 80) #[] #[]] w fun r w'=>eB vb 5 w' w.heap.size r (bL (l.map fun a=>a.2.2.2.1))∧Ext w w':=
  gQ 80 _ (fun a=>a.2.2.2.1) Tryz.func80 rfl rfl sc v l w hv hl
theorem sa (a:I5) (w:World):aM acD 81 #[.agg #[.int .i64 a.1,.int .i64 a.2.1,.int .i64 a.2.2.1,.int .i64 a.2.2.2.1,.int .i64 a.2.2.2.2]] w fun r w'=>r=.int .i64 a.2.2.2.2∧Ext w w':=by
 refine aM.aZ Tryz.func81 ?_
 rw[cH]
 have hN:=aH.nil w none_
 refine RW.aN ?_
 refine RL.aL (bJ (cs:=[.int .i64 (a.1),.int .i64 (a.2.1),.int .i64 (a.2.2.1),.int .i64 (a.2.2.2.1),.int .i64 (a.2.2.2.2)]) rfl rfl hN ?_)
 clear hN
 intro g1 w1 (hN:aH w none_ w1 [_])
 refine RL.ag (v:=.int .i64 (0)) ai (RL.bY (RL.ag (ah acG rfl cT) (RL.ag (ah acN rfl bI) (RL.ag (aj acy (hN.aJ 0 rfl)) (RL.ag (v:=.int .i64 (a.2.2.2.2)) ai (RL.nil ?_))))))
 refine aA (RW.ret (bc (RV.tmp rfl) ?_))
 exact⟨rfl,hN.aX⟩
theorem su (v:Value) (l:List I5) (w:World) (hv:Sm aV w v l) (hl:l.length≤67108864):aM acD 76 #[v,.func (.func 81) #[] #[]] w fun r w'=>eB vb 5 w' w.heap.size r (bL (l.map fun a=>a.2.2.2.2))∧Ext w w':=
  gQ 81 _ (fun a=>a.2.2.2.2) Tryz.func81 rfl rfl sa v l w hv hl
theorem nN (fi:FuncId) (fn:Func) (fd:I2→Int) (SF:acD.funcs[fi]?=some fn) (DU:(fn.name == "runtime.NumGoroutine")=false) (SH:fn.body.isSome=true) (SG:∀(a:I2) (w:World),aM acD fi #[.agg #[.int .i64 a.1,.int .i64 a.2]] w fun r w'=>r=.int .i64 (fd a)∧Ext w w') (v:Value) (l:List I2) (w:World) (hv:Sm bG w v l) (hl:l.length≤67108864):aM acD 84 #[v,.func (.func fi) #[] #[]] w fun r w'=>eB vb 5 w' w.heap.size r (bL (l.map fd))∧Ext w w':=by
 refine aM.aZ agH ?_
 rw[cS]
 have hN:=aH.nil w none_
 refine RW.aN (RL.ag (v:=vN) ai (RL.bY (RL.ag (v:=vN) ai (RL.ak ?_))))
 iterate 2 refine RW.seq ?_
 refine RW.region (RL.ag (v:=v) U ?_)
 have nJ:=(hv.o.now hN).bw
 refine RL.ag (bO ac1 (hv.o.now hN)) (RL.ag (v:=.int .i64 (0)) U (RL.ak (RW.block ?_)))
 replace hN:=hN.dy vi 3
 refine RW.loop (fun k R0 cv=>∃va:Value,∃acc:List Int,∃i:Nat,R0 1=.func (.func fi) #[] #[]∧R0 5=va∧R0 8=v∧R0 9=.int .i64 ((l.length:Int))∧R0 10=vJ i∧aH w none_ cv [.own vi 3 (va) (acc)]∧(i+k=l.length)∧(acc=(l.take i).map fd)∧(acc.length=i)) (l.length) ?_ ?_
 exact⟨vN,[],0,rfl,rfl,rfl,rfl,rfl,hN,by omega,rfl,rfl⟩
 clear hN
 rintro k R0 cv ⟨va,acc,i,bN,cy,cM,dN,db,hN,fP,ha,im⟩
 have cz:=hC bN cy cM dN db
 obtain⟨fV,rfl⟩:=cz
 clear bN cy cM dN db
 refine RW.aN (RL.ag (aK) (RL.ak (RW.seq ?_)))
 refine RW.aG _ (fun cD=>?_) (fun cD=>?_)
 refine RW.skip (aA (RW.seq (RW.block (RW.aN (RL.ag (aT ac1 dY bp (hv.o.now hN)) ?_)))))
 have aO:=cQ (l) i
 obtain⟨ap,bV⟩:=aO
 refine RL.ag (b0 (m:=i) (a:=ap) acY dY bp (hv.o.now hN) bV (cs:=[.int .i64 (ap.1),.int .i64 (ap.2)])) ?_
 refine RL.aL (bz (cs:=[.int .i64 (0),.int .i64 (0)]) pc rfl hN ?_)
 clear hN
 intro g3 w3 (hN:aH w none_ w3 [_,_])
 refine RL.aL (aS (vs:=[.int .i64 (ap.1),.int .i64 (ap.2)]) dY rfl rfl rfl (bh (bh cZ)) hN 0 rfl rfl ?_)
 clear hN
 intro w4 (hN:aH w none_ w4 [_,_])
 refine RL.ak (RW.region (RL.ag (v:=va) U (RL.ag (v:=.func (.func fi) #[] #[]) U (RL.ag (aE (cs:=[.int .i64 (ap.1),.int .i64 (ap.2)]) acY dY (hN.aJ 0 rfl)) ?_))))
 refine RL.aL (ct (first:=#[]) (captured:=#[]) (v0:=.agg #[.int .i64 (ap.1),.int .i64 (ap.2)]) (args:=#[.agg #[.int .i64 (ap.1),.int .i64 (ap.2)]]) SF DU SH (by simp) rfl rfl ((SG ap _).mono ?_))
 rintro _ w5 ⟨rfl,bl⟩
 replace hN:=hN.ext bl
 clear bl
 refine RL.aL (cx (enc:=vi) (l:=[(fd ap)]) (xs:=[.tmp 17]) acz bI mN rfl rfl (fun _=>rfl) rfl (by decide) (by decide) hN ?_)
 clear hN
 intro g6 w6 (hN:aH w none_ w6 [_,_,_])
 refine RL.aL (b9 acz fI rfl (fun _=>rfl) hN 2 rfl rfl (hN.sl 0 rfl) rfl (by rw[im];simp only[acH,acK,acS];omega) (by decide) ?_)
 clear hN
 intro v7 w7 (hN:aH w none_ w7 [_,_,_])
 refine RL.ag (v:=v7) ai (RL.nil (ba (aA (RW.region (RL.ag (aD rfl rfl rfl (bg (by omega) (by omega))) (RL.ag (v:=.int .i64 ((i:Int)+1)) U (RL.ak ?_)))))))
 exact⟨k-1,by omega,v7,acc++[(fd ap)],i+1,rfl,rfl,rfl,rfl,rfl,(hN.sb [2]),by omega,by rw[ef _ bV,ha],by rw[acB,im];rfl⟩
 refine RW.exit ?_
 iterate 2 refine bP ?_
 refine aY (aA (RW.seq ?_))
 have ic:i=l.length:=by omega
 refine RW.region (RL.ag (v:=va) U ?_)
 refine RL.aL (bo aeP rfl rfl rfl ((fD _ acc _ (hN.sl 0 rfl) (by(try simp only[acB,ac9,adj,acS,acK,acH,adb,acB,ada]);omega)).mono ?_))
 rintro v8 w8 ⟨cL,bl⟩
 replace hN:aH w none_ w8 [_,_]:=hN.cl (l:=bL acc) cL bl
 clear cL bl
 refine RL.ag (v:=v8) ai (RL.ak (RW.ret (bc (RV.tmp rfl) ?_)))
 rw[ic,adm]at ha
 subst ha
 exact⟨hN.ft 0 rfl,hN.aX⟩
theorem sk (a:I2) (w:World):aM acD 85 #[.agg #[.int .i64 a.1,.int .i64 a.2]] w fun r w'=>r=.int .i64 a.1∧Ext w w':=by
 refine aM.aZ Tryz.func85 ?_
 rw[cH]
 have hN:=aH.nil w none_
 refine RW.aN ?_
 refine RL.aL (bJ (cs:=[.int .i64 (a.1),.int .i64 (a.2)]) rfl rfl hN ?_)
 clear hN
 intro g1 w1 (hN:aH w none_ w1 [_])
 refine RL.ag (v:=.int .i64 (0)) ai (RL.bY (RL.ag (ah acY rfl bI) (RL.ag (aj acy (hN.aJ 0 rfl)) (RL.ag (v:=.int .i64 (a.1)) ai (RL.ak ?_)))))
 refine RW.ret (bc (RV.tmp rfl) ?_)
 exact⟨rfl,hN.aX⟩
theorem mM (v:Value) (l:List I2) (w:World) (hv:Sm bG w v l) (hl:l.length≤67108864):aM acD 84 #[v,.func (.func 85) #[] #[]] w fun r w'=>eB vb 5 w' w.heap.size r (bL (l.map fun a=>a.1))∧Ext w w':=
  nN 85 _ (fun a=>a.1) Tryz.func85 rfl rfl sk v l w hv hl
theorem sg (a:I2) (w:World):aM acD 86 #[.agg #[.int .i64 a.1,.int .i64 a.2]] w fun r w'=>r=.int .i64 a.2∧Ext w w':=by
 refine aM.aZ Tryz.func86 ?_
 rw[cH]
 have hN:=aH.nil w none_
 refine RW.aN ?_
 refine RL.aL (bJ (cs:=[.int .i64 (a.1),.int .i64 (a.2)]) rfl rfl hN ?_)
 clear hN
 intro g1 w1 (hN:aH w none_ w1 [_])
 refine RL.ag (v:=.int .i64 (0)) ai (RL.bY (RL.ag (ah acY rfl bI) (RL.ag (aj acy (hN.aJ 0 rfl)) (RL.ag (v:=.int .i64 (a.2)) ai (RL.ak ?_)))))
 refine RW.ret (bc (RV.tmp rfl) ?_)
 exact⟨rfl,hN.aX⟩
theorem mL (v:Value) (l:List I2) (w:World) (hv:Sm bG w v l) (hl:l.length≤67108864):aM acD 84 #[v,.func (.func 86) #[] #[]] w fun r w'=>eB vb 5 w' w.heap.size r (bL (l.map fun a=>a.2))∧Ext w w':=
  nN 86 _ (fun a=>a.2) Tryz.func86 rfl rfl sg v l w hv hl
end Go.Proofs.YtngkdkbpgoddlaaGreat
namespace Go.Proofs.YtngkdkbpgoddlaaGreat
open Go.RowKit Go.Rl
open Go.Gr Go.dj Go.jR
theorem xP (g:Nat) (n:Nat) (mv c0 c1 c2 c3 c4:Value) (ar:List I3) (w:World) (hb:ij w g [.int .i64 (n:Int),mv,c0,c1,c2,c3,c4] 211) (hm:Sm bC w mv ar):aM acD 68 #[vP g] w fun r w'=>r=.int .u64 ((jg (n:Int) ar).toNat:Int)∧Ext w w':=by
 refine aM.aZ ahE ?_
 rw[cH]
 have hN:=aH.nil w none_
 refine RW.aN (RL.ag (v:=.int .u64 (0)) ai (RL.ak ?_))
 iterate 2 refine RW.seq ?_
 refine RW.region (RL.ag (v:=vP g) U (RL.ag (cG (jP agN rfl rfl) (by simp)) (RL.ak (RW.cj (RW.skip (aA (RW.aN ?_)))))))
 refine RL.aL (bz (cs:=[.int .u64 (0)]) Nh rfl hN ?_)
 clear hN
 intro g1 w1 (hN:aH w none_ w1 [_])
 refine RL.aL (b7 Nu rfl rfl rfl rfl hN 0 rfl (acA rfl) ?_)
 clear hN
 intro w2 (hN:aH w none_ w2 [_])
 refine RL.bY (RL.ag (dM (vs:=[vP g1]) (xs:=[.tmp 3]) rfl rfl) (RL.ag (v:=.func (.func 153) #[] #[vP g1]) ai (RL.ak (RW.aN ?_))))
 refine RL.ag (v:=.func (.func 153) #[] #[vP g1]) U (RL.ag (v:=vP g) U (RL.ag (bM) (RL.ag (ah ad6 rfl dw) (RL.ag (ah acJ rfl bI) (RL.ag (aj acy (hb.ext hN.aX)) ?_)))))
 refine RL.aL (ct (first:=#[]) (captured:=#[vP g1]) (v0:=vJ n) (args:=#[vJ n,vP g1]) agt rfl rfl (by simp) rfl rfl ((n7 (14695981039346656037#64) (n:Int) g1 _ (hN.de (M:=[_]) [0] (by decide) rfl)).mono ?_))
 rintro _ w3 ⟨rfl,cE⟩
 replace hN:aH w none_ w3 [_]:=aH.dd (M:=[_]) (N:=[]) (hN.sb [0]) cE
 clear cE
 refine RL.ak ?_
 iterate 2 refine RW.seq ?_
 refine RW.region (RL.ag (v:=vP g) U (RL.ag (bM) (RL.ag (ah ad6 rfl dw) (RL.ag (ah acJ rfl eZ) (RL.ag (aj acP (hb.ext hN.aX)) ?_)))))
 have r7:=(hm.o.now hN).bw
 refine RL.ag (bO acP (hm.o.now hN)) (RL.ag (v:=.int .i64 (0)) U (RL.ak (RW.block ?_)))
 refine RW.loop (fun k R0 cv=>∃h:yW,∃i:Nat,R0 3=vP g1∧R0 4=.func (.func 153) #[] #[vP g1]∧R0 21=mv∧R0 22=.int .i64 ((ar.length:Int))∧R0 23=vJ i∧aH w none_ cv [.aJ g1 [.int .u64 (((h).toNat:Int))] 57]∧(i+k=ar.length)∧(h=(ar.take i).foldl ri (k6 (14695981039346656037#64) (n:Int)))) (ar.length) ?_ ?_
 exact⟨k6 (14695981039346656037#64) (n:Int),0,rfl,rfl,rfl,rfl,rfl,hN,by omega,rfl⟩
 clear hN
 rintro k R0 cv ⟨h,i,cb,cu,Au,kO,iS,hN,fP,hh⟩
 have cz:=hC cb cu Au kO iS
 obtain⟨fV,rfl⟩:=cz
 clear cb cu Au kO iS
 refine RW.aN (RL.ag (aK) (RL.ak (RW.seq ?_)))
 refine RW.aG _ (fun cD=>?_) (fun cD=>?_)
 refine RW.skip (aA (RW.seq (RW.block (RW.aN (RL.ag (aT acP cY aW (hm.o.now hN)) ?_)))))
 have aO:=cQ (ar) i
 obtain⟨ap,bV⟩:=aO
 refine RL.ag (b0 (m:=i) (a:=ap) acT cY aW (hm.o.now hN) bV (cs:=[.int .i64 (ap.1),.int .i64 (ap.2.1),.int .i64 (ap.2.2)])) ?_
 refine RL.aL (bz (cs:=[.int .i64 (0),.int .i64 (0),.int .i64 (0)]) fu rfl hN ?_)
 clear hN
 intro g5 w5 (hN:aH w none_ w5 [_,_])
 refine RL.aL (aS (vs:=[.int .i64 (ap.1),.int .i64 (ap.2.1),.int .i64 (ap.2.2)]) cY rfl rfl rfl (bh (bh (bh cZ))) hN 0 rfl rfl ?_)
 clear hN
 intro w6 (hN:aH w none_ w6 [_,_])
 refine RL.bY (RL.ag (v:=.func (.func 153) #[] #[vP g1]) U (RL.ag (ah acT rfl bI) (RL.ag (aj acy (hN.aJ 0 rfl)) ?_)))
 refine RL.aL (ct (first:=#[]) (captured:=#[vP g1]) (v0:=.int .i64 (ap.1)) (args:=#[.int .i64 (ap.1),vP g1]) agt rfl rfl (by simp) rfl rfl ((n7 (h) ap.1 g1 _ (hN.de (M:=[_]) [1] (by decide) rfl)).mono ?_))
 rintro _ w7 ⟨rfl,cE⟩
 replace hN:aH w none_ w7 [_,_]:=aH.dd (M:=[_]) (N:=[_]) (hN.sb [1,0]) cE
 clear cE
 refine RL.bY (RL.ag (v:=.func (.func 153) #[] #[vP g1]) U (RL.ag (ah acT rfl bI) (RL.ag (aj acy (hN.aJ 1 rfl)) ?_)))
 refine RL.aL (ct (first:=#[]) (captured:=#[vP g1]) (v0:=.int .i64 (ap.2.1)) (args:=#[.int .i64 (ap.2.1),vP g1]) agt rfl rfl (by simp) rfl rfl ((n7 (k6 (h) ap.1) ap.2.1 g1 _ (hN.de (M:=[_]) [0] (by decide) rfl)).mono ?_))
 rintro _ w8 ⟨rfl,cE⟩
 replace hN:aH w none_ w8 [_,_]:=aH.dd (M:=[_]) (N:=[_]) (hN.sb [0,1]) cE
 clear cE
 refine RL.ak (RW.region (RL.ag (v:=.func (.func 153) #[] #[vP g1]) U (RL.ag (ah acT rfl bI) (RL.ag (aj acy (hN.aJ 1 rfl)) ?_))))
 refine RL.aL (ct (first:=#[]) (captured:=#[vP g1]) (v0:=.int .i64 (ap.2.2)) (args:=#[.int .i64 (ap.2.2),vP g1]) agt rfl rfl (by simp) rfl rfl ((n7 (k6 (k6 (h) ap.1) ap.2.1) ap.2.2 g1 _ (hN.de (M:=[_]) [0] (by decide) rfl)).mono ?_))
 rintro _ w9 ⟨rfl,cE⟩
 replace hN:aH w none_ w9 [_,_]:=aH.dd (M:=[_]) (N:=[_]) (hN.sb [0,1]) cE
 clear cE
 refine RL.nil (ba (aA (RW.region (RL.ag (aD rfl rfl rfl (bg (by omega) (by omega))) (RL.ag (v:=.int .i64 ((i:Int)+1)) U (RL.ak ?_))))))
 exact⟨k-1,by omega,ri h ap,i+1,rfl,rfl,rfl,rfl,rfl,(hN.sb [0]),by omega,by rw[rl bV,hh]⟩
 refine RW.exit ?_
 iterate 2 refine bP ?_
 refine aY (aA (RW.aN (RL.ag (aj adK (hN.aJ 0 rfl)) (RL.ag (v:=.int .u64 (((h).toNat:Int))) ai (RL.ak (RW.ret (bc (RV.tmp rfl) ?_)))))))
 rw[show i=ar.length by omega,adm]at hh
 subst hh
 exact⟨rfl,hN.aX⟩
theorem B4 (w:World):aM acD 68 #[.pointer none] w fun r w'=>r=.int .u64 0∧Ext w w':=by
 refine aM.aZ ahE ?_
 rw[cH]
 have hN:=aH.nil w none_
 refine RW.aN (RL.ag (v:=.int .u64 (0)) ai (RL.ak ?_))
 iterate 2 refine RW.seq ?_
 refine RW.region (RL.ag (v:=.pointer none) U (RL.ag (dB (jP agN rfl rfl) rfl) (RL.ak (RW.bD (RW.aN (RL.ag (v:=.int .u64 (0)) ai (RL.nil ?_)))))))
 refine aA (RW.ret (aU (bc (RV.tmp rfl) ?_)))
 exact⟨rfl,hN.aX⟩
theorem yp (n:Nat) (v:Value) (ar:List I3) (w:World) (hv:Sm bC w v ar) (H5:dU (n:Int) ar=0):aM acD 28 #[.agg #[.int .i64 (n:Int),v]] w fun r w'=>eB vb 5 w' w.heap.size r (j3 (n:Int) ar)∧Ext w w':=by
 refine aM.aZ aiT ?_
 rw[cH]
 have hN:=aH.nil w none_
 refine RW.aN ?_
 refine RL.aL (bJ (cs:=[vJ n,v]) rfl rfl hN ?_)
 clear hN
 intro g1 w1 (hN:aH w none_ w1 [_])
 refine RL.ag (v:=vN) ai (RL.ak (RW.aN ?_))
 refine RL.aL (cx (enc:=vb) (l:=[80,82,49]) (xs:=[.const (.int .u8 (80)),.const (.int .u8 (82)),.const (.int .u8 (49))]) acW sX Tq rfl rfl (fun _=>rfl) rfl (by decide) (by decide) hN ?_)
 clear hN
 intro g2 w2 (hN:aH w none_ w2 [_,_])
 refine RL.aL (pD acW ady hN 0 rfl rfl rfl ?_)
 clear hN
 intro w3 (hN:aH w none_ w3 [_,_])
 refine RL.ag (aE (cs:=[vJ n,v]) acJ dw (hN.aJ 1 rfl)) ?_
 refine RL.aL (bo ahA rfl rfl rfl ((uM n _ ar _ (hv.o.now hN) H5).mono ?_))
 rintro _ w4 ⟨g4,mv4,d0,d1,d2,d3,d4,rfl,Fg,rr,bl⟩
 replace hN:=hN.ext bl
 clear bl
 refine RL.aL (bo ahE rfl rfl rfl ((xP g4 n _ _ _ _ _ _ ar _ Fg rr).mono ?_))
 rintro _ w5 ⟨rfl,bl⟩
 replace hN:=hN.ext bl
 clear bl
 have Oj:=(jg (n:Int) ar).isLt
 refine RL.aL (bu af4 rfl rfl rfl rfl ((lE ((jg (n:Int) ar).toNat) 8 _ (by omega)).mono ?_))
 rintro v6 w6 ⟨cL,bl⟩
 replace hN:aH w none_ w6 [_,_,_]:=hN.cl (l:=put ((jg (n:Int) ar).toNat) 8) cL bl
 clear cL bl
 refine RL.aL (nt acW rX rfl hN (hN.QK 1 rfl) rfl rfl (hN.sl 0 rfl) (by rw[dr];omega) rfl (by rw[dr];simp only[acK,acS];omega) (by decide) ?_)
 clear hN
 intro v7 w7 (hN:aH w none_ w7 [_,_,_,_])
 refine RL.ag (v:=v7) ai (RL.ak (RW.ret (bc (RV.tmp rfl) ?_)))
 exact⟨(hN.ft 0 rfl).l7 (AH H5).symm,hN.aX⟩
theorem vQ (n:Int) (v:Value) (ar:List I3) (w:World) (hv:Sm bC w v ar) (LB:¬dU n ar=0):aM acD 28 #[.agg #[.int .i64 n,v]] w fun r w'=>eB vb 5 w' w.heap.size r (j3 n ar)∧Ext w w':=by
 refine aM.aZ aiT ?_
 rw[cH]
 have hN:=aH.nil w none_
 refine RW.aN ?_
 refine RL.aL (bJ (cs:=[.int .i64 (n),v]) rfl rfl hN ?_)
 clear hN
 intro g1 w1 (hN:aH w none_ w1 [_])
 refine RL.ag (v:=vN) ai (RL.ak (RW.aN ?_))
 refine RL.aL (cx (enc:=vb) (l:=[80,82,49]) (xs:=[.const (.int .u8 (80)),.const (.int .u8 (82)),.const (.int .u8 (49))]) acW sX Tq rfl rfl (fun _=>rfl) rfl (by decide) (by decide) hN ?_)
 clear hN
 intro g2 w2 (hN:aH w none_ w2 [_,_])
 refine RL.aL (pD acW ady hN 0 rfl rfl rfl ?_)
 clear hN
 intro w3 (hN:aH w none_ w3 [_,_])
 refine RL.ag (aE (cs:=[.int .i64 (n),v]) acJ dw (hN.aJ 1 rfl)) ?_
 refine RL.aL (bo ahA rfl rfl rfl ((yz (n) _ ar _ (hv.o.now hN) LB).mono ?_))
 rintro _ w4 ⟨rfl,bl⟩
 replace hN:=hN.ext bl
 clear bl
 refine RL.aL (bo ahE rfl rfl rfl ((B4 _).mono ?_))
 rintro _ w5 ⟨rfl,bl⟩
 replace hN:=hN.ext bl
 clear bl
 have Oj:=(jg n ar).isLt
 refine RL.aL (bu af4 rfl rfl rfl rfl ((lE 0 8 _ (by omega)).mono ?_))
 rintro v6 w6 ⟨cL,bl⟩
 replace hN:aH w none_ w6 [_,_,_]:=hN.cl (l:=put 0 8) cL bl
 clear cL bl
 refine RL.aL (nt acW rX rfl hN (hN.QK 1 rfl) rfl rfl (hN.sl 0 rfl) (by rw[dr];omega) rfl (by rw[dr];simp only[acK,acS];omega) (by decide) ?_)
 clear hN
 intro v7 w7 (hN:aH w none_ w7 [_,_,_,_])
 refine RL.ag (v:=v7) ai (RL.ak (RW.ret (bc (RV.tmp rfl) ?_)))
 exact⟨(hN.ft 0 rfl).l7 (Ff LB).symm,hN.aX⟩
theorem AG (n:Int) (v:Value) (ar:List I3) (w:World) (hv:Sm bC w v ar):aM acD 28 #[.agg #[.int .i64 n,v]] w fun r w'=>eB vb 5 w' w.heap.size r (j3 n ar)∧Ext w w':=by
  by_cases h:dU n ar=0
  · obtain ⟨h0, _⟩ := nZ h
    obtain⟨q,rfl⟩:∃q:Nat,n=(q:Int):=⟨n.toNat,by omega⟩
    exact yp q v ar w hv h
  · exact vQ n v ar w hv h
theorem mm (gf:FuncId) (fn:Func) (lb:Array Value) (M:List Atom) (Fx:(Nat→Prop)→World→Prop) (xs:List (List UInt8)) (hf:acD.funcs[gf]?=some fn) (hn:(fn.name == "runtime.NumGoroutine")=false) (hb:fn.body.isSome=true) (SB:u2 acD gf lb M Fx ad4 A8 (M8 vb) xs) (eI:xs.flatten.length≤140737488351232) (w:World) (F5:Fx (b6 M) w) (hN:aH w (b6 M) w M):aM acD 29 #[.func (.func gf) #[] lb] w fun r w'=>aH w (b6 M) w' [.own vb 5 r xs.flatten]:=by
 refine aM.k7 ahF rfl (acA rfl) ?_
 rw[cH]
 replace hN:=hN.Tl
 refine XW.seq (XW.bK (RL.ag (v:=vN) ai (RL.nil (cg (bS (XW.seq (XW.bK ?_)))))))
 refine RL.aL (bz (cs:=[vN]) Ni rfl hN ?_)
 clear hN
 intro g1 w1 (hN:aH w (b6 M) w1 [_,_])
 refine RL.nil (cg (bS ?_))
 iterate 2 refine XW.seq ?_
 replace hN:=hN.dy vb 5
 replace hN:aH w (b6 M) w1 [.own vb 5 (vN) ([]),.aJ g1 [vN] 38,.all M]:=hN
 refine XW.bK (RL.ag (v:=.func (.func gf) #[] lb) U (RL.nil (cg (bS (XW.block ?_)))))
 refine XW.BZ (gf:=gf) (lb:=lb) (M:=M) (fun s:Value×List UInt8=>[.aJ g1 [s.1] 38,.own vb 5 s.1 s.2]) (FL UInt8) (vN,[]) (aH.comm (L:=M) (aH.unpack (hN.sb [2,1,0]))) rfl hf hn hb SB FL.on F5 (fun _=>rfl) (by decide) ?_ ?_
 clear hN
 rintro l_ D_ Mf FF ⟨v_,a_⟩ ⟨xv,xb⟩ QT Mg wr fy Lh Qj hN
 change XW _ _ _ _ _ _ (dm _ 6 (xv)) _
 replace hN:aH wr FF wr [.obj l_ (.loop (Mf .ready none)),.obj D_ (.deferred (some [])),.aJ g1 [v_] 38,.own vb 5 (v_) (a_)]:=hN
 have Ra:Sl vb wr xv xb:=Qj.1
 have ZF:sN FF xv xb:=Qj.2
 have Pc:a_.length+xb.length≤xs.flatten.length:=LV fy rfl Lh
 refine XW.bK (RL.ag (v:=xv) ai (RL.nil (cg (uZ ?_))))
 clear hN
 intro w2 (hN:aH wr FF w2 [.obj l_ (.loop (Mf .busy none)),.obj D_ (.deferred (some [])),.aJ g1 [v_] 38,.own vb 5 (v_) (a_)])
 refine XW.block (XW.bK (RL.ag (aj acW (hN.aJ 2 rfl)) (RL.ag (v:=xv) U ?_)))
 refine RL.aL (b9 acW rX rfl oJ hN 3 rfl rfl (Ra.off ZF hN.mod) rfl (by(try simp only[acB,ac9,adj,acS,acK,acH,adb,acB,ada]);omega) (by decide) ?_)
 clear hN
 intro v3 w3 (hN:aH wr FF w3 [_,_,_,_])
 refine RL.aL (b7 lY rfl rfl (hN.sl 3 rfl).cK (hN.sl 3 rfl).bT hN 2 rfl (acA rfl) ?_)
 clear hN
 intro w4 (hN:aH wr FF w4 [_,_,_,_])
 refine RL.nil (cg (eX ?_))
 exact xI ⟨v3,a_++xb⟩ ⟨rfl,rfl⟩ (hN.sb [0,1,2,3])
 clear hN
 rintro l_ D_ o_ ⟨v_,a_⟩ w5 fy hN
 replace hN:aH w (b6 M) w5 [.obj l_ o_,.obj D_ (.deferred (some [])),.aJ g1 [v_] 38,.own vb 5 (v_) (a_)]:=hN
 have Qq:a_=xs.flatten:=D2 fy
 refine eX (bS (XW.seq (XW.bK (RL.ag (aj acW (hN.aJ 2 rfl)) (RL.ag (v:=v_) ai (RL.nil (cg (bS (XW.ret ?_)))))))))
 refine Ge hN (.inl rfl) 1 rfl ?_
 clear hN
 intro w6 (hN:aH w (b6 M) w6 [_,_,_,_])
 refine⟨_,RV.tmp rfl,?_⟩
 rw[←Qq]
 exact hN.sb [3]
end Go.Proofs.YtngkdkbpgoddlaaGreat
