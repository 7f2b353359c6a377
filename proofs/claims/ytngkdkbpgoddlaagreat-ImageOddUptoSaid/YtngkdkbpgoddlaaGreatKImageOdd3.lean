/- The law ImageOdd: texts that its row leans on (3). -/
import Derived.Test.YtngkdkbpgoddlaaGreatKImageOdd2
set_option linter.unusedVariables false
set_option linter.unusedSimpArgs false
set_option linter.unusedSectionVars false
set_option maxHeartbeats 4000000
set_option maxRecDepth 100000
open Array renaming getElem?_eq_some_iff → ado
open BitVec renaming ofNat → afe
open Decidable renaming not_not → acU
open Go.Proofs.Tryz renaming underlying3 → acs, underlying25 → acu, prog → acx, underlying28 → acz, underlying98 → acB, underlying26 → acG, underlying96 → acH, underlying24 → acI, underlying29 → acJ, underlying32 → acK, underlying34 → acL, underlying22 → acM, underlying100 → acP, underlying38 → acQ, underlying135 → acS, underlying118 → acW, underlying30 → ac0, underlying5 → adr, underlying207 → adw, underlying45 → adA, underlying111 → adB, underlying57 → adM, underlying206 → adN, underlying142 → adV, underlying211 → adY, underlying75 → ad3, underlying9 → aed, underlying246 → aei, underlying4 → aek, underlying59 → aep, underlying209 → aex, func18 → aeG, underlying144 → aeK, func70 → aeO, underlying47 → aeS, func40 → afq, func156 → afN, underlying257 → afO, func66 → af3, func76 → af4, func149 → agn, func153 → ago, func84 → agB, underlying123 → agH, underlying132 → agI, func145 → ag2, func146 → ag3, func105 → ag4, func128 → ag5, func65 → ahr, func24 → ahs, func67 → aht, func36 → ahu, func57 → ahv, func45 → ahw, func71 → ahx, func68 → ahy, func29 → ahz, func83 → ahA, func10 → ahB, func152 → aih, func129 → aii, func37 → aiM, func11 → aiN, func92 → aiO, func91 → aiP, func28 → aiQ, func130 → ajB, func207 → ajC, func182 → ajD, func148 → ajE, func192 → ajF, func147 → ajG, func190 → ajH, func191 → ajI, func209 → ajJ, func151 → ajK, func150 → ajL, func195 → ajM, func194 → ajN, func157 → ajO, func210 → ajP, func193 → ajQ, func155 → ajR
open Go.Value renaming bool → acO, int → acZ
open Go.World renaming cell?_of_block → aeP
open Int renaming toNat_natCast → aee, emod_nonneg → agi
open List renaming length_append → acw, mem_of_getElem? → acy, getElem?_eq_some_iff → acA, length_singleton → acC, getElem?_eq_getElem → acE, length_cons → acF, length_nil → acN, not_mem_nil → acV, take_of_length_le → acX, replicate → acY, mem_cons → ac1, length_map → ac4, length_take → ac5, length_replicate → ac7, getElem?_set → adi, append_nil → adj, append_assoc → adk, take_length → adn, length_drop → adq, range → adz, length_set → adG, map_append → adZ, take_succ_eq_append_getElem → ad0, nil_append → aeE, drop_eq_getElem_cons → aeL, drop_eq_nil_of_le → aeW, take_add_one → ae1, take_zero → afb, drop_drop → afs, size_toArray → agP
open Nat renaming le_of_ble_eq_true → acv, le_trans → acR, le_refl → ac3, lt_of_le_of_lt → ac8, lt_or_ge → adh, zero_le → adO, lt_of_lt_of_le → ad7, lt_succ_iff_lt_or_eq → aff, min_eq_left → ahi, mul_one → ahn
open Option.some renaming inj → ac2
open Prod renaming snd → adT
open UInt8 renaming ofNat → aeV
namespace Go.Proofs.YtngkdkbpgoddlaaGreat
open Go.RowKit Go.Rl
open Go.Gr
theorem oH (x n:Int) (w:World) (hn:0<n) (hn2:n≤2147483649):aM acx 65 #[.int .i64 (x),.int .i64 (n)] w fun r w'=>r=.int .i64 (x%n)∧w=w':=by
 refine aM.aZ ahr ?_
 rw[cT]
 have hN:=aI.nil w none_
 refine RW.aN (RL.ag (v:=.int .i64 (0)) ai (RL.b6 (RL.ag (v:=.int .i64 (x)) U (RL.ag (v:=.int .i64 (n)) U (RL.ag (CM rfl rfl (by omega) rfl) ?_)))))
 refine RL.ag (v:=.int .i64 (x.tmod n)) ai (RL.ak ?_)
 iterate 2 refine RW.seq ?_
 refine RW.region (RL.ag (v:=.int .i64 (x.tmod n)) U (RL.ag (aL) (RL.ak ?_)))
 refine RW.aG _ (fun Cr=>?_) (fun Cr=>?_)
 refine RW.seq ?_
 have hb_: -n≤x.tmod n:=by have h1:=tmod_neg hn Cr;have h2:=agi x (b:=n) (by omega);rw[←h1]at h2;omega
 refine RW.region (RL.ag (v:=.int .i64 (x.tmod n)) U (RL.ag (v:=.int .i64 (n)) U (RL.ag (aD rfl rfl rfl (bh (by omega) (by omega))) (RL.ag (v:=.int .i64 (x.tmod n+n)) ai (RL.ak (RW.ret (aT (bb (RV.tmp rfl) ?_))))))))
 exact⟨congrArg (acZ .i64) (tmod_neg hn Cr),rfl⟩
 refine RW.skip (aw (RW.aN (RL.ag (v:=.int .i64 (x.tmod n)) U (RL.ag (v:=.int .i64 (x.tmod n)) ai (RL.ak (RW.ret (bb (RV.tmp rfl) ?_)))))))
 exact⟨congrArg (acZ .i64) (Ki hn Cr),rfl⟩
theorem G7 (n:Int) (v:Value) (l:List I3) (w:World) (hv:Sm bJ w v l):aM acx 27 #[.int .i64 n,v] w fun r w'=>∃v',r=.agg #[.int .i64 (jj n),v']∧fR bJ 3 100 w' w.heap.size v' (cn (jj n) l)∧Ext w w':=by
 refine aM.aZ Tryz.func27 ?_
 rw[cT]
 have hN:=aI.nil w none_
 have ZX:=sA n
 refine RW.aN ?_
 refine RL.aK (bz (cs:=[.int .i64 (0),vN]) oA rfl hN ?_)
 clear hN
 intro g1 w1 (hN:aI w none_ w1 [_])
 refine RL.b6 (RL.ag (v:=.int .i64 (n)) U (RL.ag (yG rfl rfl) (RL.ag (show Ev _ _ _ _ (.int .i64 (jj n))from uO rfl rfl) (RL.ag (v:=.int .i64 (jj n)) ai (RL.ak ?_)))))
 refine RW.aN (RL.ag (v:=.int .i64 (jj n)) U (RL.ag (bT (cs:=[.int .i64 (jj n),vN]) acI oA (places:=#[(0,1),(1,1)]) (by intro w;kernel_rfl) (pl:=[(0,.tmp 11)]) rfl (ps:=[(0,.int .i64 (jj n))]) rfl (zc:=[.int .i64 (0),vN]) rfl (aP (vs:=[.int .i64 (jj n)]) rfl rfl (acv rfl) rfl)) ?_))
 refine RL.aK (bz (cs:=[.int .i64 (0),vN]) oA rfl hN ?_)
 clear hN
 intro g2 w2 (hN:aI w none_ w2 [_,_])
 refine RL.aK (aR (vs:=[.int .i64 (jj n),vN]) dN rfl rfl rfl (aW (aW cZ)) hN 0 rfl rfl ?_)
 clear hN
 intro w3 (hN:aI w none_ w3 [_,_])
 refine RL.ak ?_
 iterate 2 refine RW.seq ?_
 replace hN:=hN.eK bJ 3 100
 replace hN:aI w none_ w3 [.cp bJ 3 100 (vN) ([]),.aJ g2 [.int .i64 (jj n),vN] 24,.aJ g1 [.int .i64 (0),vN] 24]:=hN
 refine RW.region (RL.ag (v:=.int .i64 (0)) ai (RL.ak (RW.block ?_)))
 refine RW.loop (fun k R0 cz=>∃va:Value,∃acc:List I3,∃i:Nat,R0 0=.int .i64 (jj n)∧R0 1=v∧R0 4=vP g1∧R0 5=vP g2∧R0 6=vJ i∧aI w none_ cz [.cp bJ 3 100 (va) (acc),.aJ g2 [.int .i64 (jj n),va] 24,.aJ g1 [.int .i64 (0),vN] 24]∧(i+k=l.length)∧(i≤40)∧(acc=(l.take i).map (Dj (jj n)))∧(acc.length=i)) (l.length) ?_ ?_
 exact⟨vN,[],0,rfl,rfl,rfl,rfl,rfl,hN,by omega,by omega,rfl,rfl⟩
 clear hN
 rintro k R0 cz ⟨va,acc,i,cH,bP,cA,cx,cW,hN,gk,aat,ha,ir⟩
 have cB:=iw cH bP cA cx cW
 obtain⟨gF,rfl⟩:=cB
 clear cH bP cA cx cW
 iterate 2 refine RW.seq ?_
 refine RW.region (RL.ag (v:=vJ i) U (RL.ag (v:=v) U ?_))
 have uJ:=(hv.o.now hN).bw
 refine RL.ag (bO acM (hv.o.now hN)) (RL.ag (aL) (RL.ag (v:=.bool (decide ((i:Int)<(l.length:Int)))) U ?_))
 by_cases vT:(i:Int)<(l.length:Int)
 rw[decide_eq_true vT]
 refine RL.an (v:=vJ i) U (RL.an (aL) (RL.ag (v:=.bool (decide ((i:Int)<40))) (al) (RL.ak ?_)))
 refine RW.aG _ (fun cD=>?_) (fun cD=>?_)
 refine RW.skip (aw (RW.seq (RW.block (RW.aN (RL.ag (v:=v) U (RL.ag (v:=vJ i) U (RL.ag (aU acM dr bf (hv.o.now hN)) ?_)))))))
 have aO:=da (l) i
 obtain⟨ap,bX⟩:=aO
 refine RL.ag (b8 (m:=i) (a:=ap) acP dr bf (hv.o.now hN) bX (cs:=[.int .i64 (ap.1),.int .i64 (ap.2.1),.int .i64 (ap.2.2)])) ?_
 refine RL.aK (bz (cs:=[.int .i64 (0),.int .i64 (0),.int .i64 (0)]) fS rfl hN ?_)
 clear hN
 intro g5 w5 (hN:aI w none_ w5 [_,_,_,_])
 refine RL.aK (aR (vs:=[.int .i64 (ap.1),.int .i64 (ap.2.1),.int .i64 (ap.2.2)]) dr rfl rfl rfl (aW (aW (aW cZ))) hN 0 rfl rfl ?_)
 clear hN
 intro w6 (hN:aI w none_ w6 [_,_,_,_])
 refine RL.ak ?_
 replace hN:=hN.ext (Ext.drew w6)
 refine RW.bD (fun u=>aI w none_ u [.aJ g5 [.int .i64 (ap.1),.int .i64 (ap.2.1),.int .i64 (ap.2.2)] 100,.aJ g2 [.int .i64 (jj n),va] 24,.aJ g1 [.int .i64 (0),vN] 24]) 17 [(0,0),(1,0),(2,0),(3,0),(4,0),(6,0),(7,0),(8,0),(10,0),(11,0),(5,1),(9,1),(12,1),(13,0),(14,1),(15,1),(16,0),(17,2)] (by intro _ _ _ h;exact h) (hN.sb [0,2,3]) (RQ.aA rfl (fun w hS=>(ah acI rfl fz)) (RQ.aA rfl (fun w hS=>(aj acM (hS.aJ 1 rfl))) (RQ.aA rfl (fun w hS=>(ah acP rfl bK)) (RQ.aA rfl (fun w hS=>(aj acs (hS.aJ 0 rfl))) (RQ.aA (v:=.int .i64 (jj n)) rfl (fun w hS=>U) (RQ.aA rfl (fun w hS=>(ah acP rfl bK)) (RQ.aA rfl (fun w hS=>(aj acs (hS.aJ 0 rfl))) (RQ.aA (v:=.int .i64 (jj n)) rfl (fun w hS=>U) (RQ.aA rfl (fun w hS=>(ah acP rfl bK)) ?_)))))))))
 refine RQ.aA rfl (fun w hS=>(aj acs (hS.aJ 0 rfl))) ?_
 refine RQ.b0 rfl (bu ahr rfl rfl rfl rfl ((oH (ap.1) (jj n) _ (by omega) (by omega)).mono ?_))
 rintro _ _ ⟨rfl,rfl⟩
 refine⟨(hN.sb [0,2,3]),?_⟩
 refine RQ.b0 rfl (bu ahr rfl rfl rfl rfl ((oH (ap.2.1) (jj n) _ (by omega) (by omega)).mono ?_))
 rintro _ _ ⟨rfl,rfl⟩
 refine⟨(hN.sb [0,2,3]),?_⟩
 refine RQ.b0 rfl (bu ahr rfl rfl rfl rfl ((oH (ap.2.2) (2147483649) _ (by omega) (by omega)).mono ?_))
 rintro _ _ ⟨rfl,rfl⟩
 refine⟨(hN.sb [0,2,3]),?_⟩
 refine RQ.aA rfl (fun w hS=>(bT (cs:=[.int .i64 (((ap.1)%(jj n))),.int .i64 (((ap.2.1)%(jj n))),.int .i64 (((ap.2.2)%(2147483649)))]) acP fS (places:=#[(0,1),(1,1),(2,1)]) (by intro w;kernel_rfl) (pl:=[(0,.tmp 32),(1,.tmp 36),(2,.tmp 39)]) rfl (ps:=[(0,.int .i64 (((ap.1)%(jj n)))),(1,.int .i64 (((ap.2.1)%(jj n)))),(2,.int .i64 (((ap.2.2)%(2147483649))))]) rfl (zc:=[.int .i64 (0),.int .i64 (0),.int .i64 (0)]) rfl (aP (vs:=[.int .i64 (((ap.1)%(jj n)))]) rfl rfl (acv rfl) (aP (vs:=[.int .i64 (((ap.2.1)%(jj n)))]) rfl rfl (acv rfl) (aP (vs:=[.int .i64 (((ap.2.2)%(2147483649)))]) rfl rfl (acv rfl) rfl))))) ?_
 refine RQ.b0 rfl (dB (cf:=bJ) (s:=3) (pl:=[(0,.tmp 40)]) (ps:=[(0,.agg #[.int .i64 (((ap.1)%(jj n))),.int .i64 (((ap.2.1)%(jj n))),.int .i64 (((ap.2.2)%(2147483649)))])]) (zc:=[.int .i64 (0),.int .i64 (0),.int .i64 (0)]) (l:=[(((ap.1)%(jj n)),((ap.2.1)%(jj n)),((ap.2.2)%(2147483649)))]) acM tX (by kernel_rfl) rfl rfl (aP (vs:=[.int .i64 (((ap.1)%(jj n))),.int .i64 (((ap.2.1)%(jj n))),.int .i64 (((ap.2.2)%(2147483649)))]) rfl rfl (acv rfl) rfl) bf rfl (by decide) (by decide) (by decide) hN ?_)
 clear hN
 intro CH lW (hN:aI w none_ lW [_,_,_,_,_])
 refine⟨(hN.sb [1,3,4]),?_⟩
 refine RQ.b0 rfl (ct acM tX rfl (by decide) fp bf hN 2 rfl rfl (hN.sm 0 rfl) rfl (by rw[ir];simp only[acC,acF,acN];omega) (by decide) ?_)
 clear hN
 intro v11 lR (hN:aI w none_ lR [_,_,_,_,_])
 refine⟨(hN.sb [1,3,4]),?_⟩
 refine RQ.aA rfl (fun w hS=>(ah acI rfl fz)) ?_
 refine RQ.last rfl rfl (ca fz rfl rfl (hN.sm 2 rfl).cN (hN.sm 2 rfl).bW hN 3 rfl (acv rfl) ?_)
 clear hN
 intro ll (hN:aI w none_ ll [_,_,_,_,_])
 refine RZ.eJ (aY (aw (RW.region (RL.ag (v:=vJ i) U (RL.ag (aD rfl rfl rfl (bh (by omega) (by omega))) (RL.ag (v:=.int .i64 ((i:Int)+1)) ai (RL.ak ?_)))))))
 exact⟨k-1,by omega,v11,acc++[(((ap.1)%(jj n)),((ap.2.1)%(jj n)),((ap.2.2)%(2147483649)))],i+1,rfl,rfl,rfl,rfl,rfl,(hN.sb [2,3,4]),by omega,by omega,by rw[ha,ae1,bX,adZ];rfl,by rw[acw,ir];rfl⟩
 refine RW.exit ?_
 iterate 2 refine bS ?_
 refine ba (aw (RW.aN (RL.ag (aE (cs:=[.int .i64 (jj n),va]) acI dN (hN.aJ 1 rfl)) ?_)))
 refine RL.aK (aR (vs:=[.int .i64 (jj n),va]) dN rfl rfl rfl (by intro u hu;simp only[ac1,acV,or_false]at hu;rcases hu with rfl|rfl<;>first|rfl|exact(hN.sm 0 rfl).bW) hN 2 rfl rfl ?_)
 clear hN
 intro nR (hN:aI w none_ nR [_,_,_])
 refine RL.ak (RW.ret (bb (RV.cell rfl rfl (hN.aJ 2 rfl) acI rfl dN) ?_))
 have fO:(l.take i).map (Dj (jj n))=cn (jj n) l:=by
   unfold cn
   rcases adh i 40 with h|h
   · rw[acX (by omega),acX (by omega)]
   · rw[show i=40 by omega]
 rw[fO]at ha
 subst ha
 exact⟨va,rfl,hN.fT 0 rfl,hN.bc⟩
 rw[decide_eq_false vT]
 iterate 2 refine RL.bH ?_
 refine RL.ag (v:=.bool false) (aB) (RL.ak (RW.cg (RW.exit ?_)))
 iterate 2 refine bS ?_
 refine ba (aw (RW.aN (RL.ag (aE (cs:=[.int .i64 (jj n),va]) acI dN (hN.aJ 1 rfl)) ?_)))
 refine RL.aK (aR (vs:=[.int .i64 (jj n),va]) dN rfl rfl rfl (by intro u hu;simp only[ac1,acV,or_false]at hu;rcases hu with rfl|rfl<;>first|rfl|exact(hN.sm 0 rfl).bW) hN 2 rfl rfl ?_)
 clear hN
 intro o7 (hN:aI w none_ o7 [_,_,_])
 refine RL.ak (RW.ret (bb (RV.cell rfl rfl (hN.aJ 2 rfl) acI rfl dN) ?_))
 have fO:(l.take i).map (Dj (jj n))=cn (jj n) l:=by
   unfold cn
   rcases adh i 40 with h|h
   · rw[acX (by omega),acX (by omega)]
   · rw[show i=40 by omega]
 rw[fO]at ha
 subst ha
 exact⟨va,rfl,hN.fT 0 rfl,hN.bc⟩
theorem tN (n:Int) (v:Value) (l:List I3) (w:World) (hv:Sm bJ w v l):aM acx 24 #[.agg #[.int .i64 n,v]] w fun r w'=>r=.int .i64 (ee n l)∧Ext w w':=by
 refine aM.aZ ahs ?_
 rw[cM]
 have hN:=aI.nil w none_
 refine RW.aN ?_
 refine RL.aK (bL (cs:=[.int .i64 (n),v]) rfl rfl hN ?_)
 clear hN
 intro g1 w1 (hN:aI w none_ w1 [_])
 refine RL.ag (v:=.int .i64 (0)) ai (RL.ak ?_)
 iterate 2 refine RW.seq ?_
 refine RW.region (RL.ag (ah acI rfl bK) (RL.ag (aj acs (hN.aJ 0 rfl)) (RL.ag (cr) (RL.ag (v:=.bool (decide (16777216<n))) U ?_))))
 by_cases kP:16777216<n
 rw[decide_eq_true kP]
 iterate 4 refine RL.bH ?_
 refine RL.ag (v:=.bool true) (al) (RL.ak (RW.bF (RW.aN (RL.ag (v:=.int .i64 (3)) ai (RL.ak (RW.ret ?_))))))
 refine aT (bb (RV.tmp rfl) ?_)
 exact⟨congrArg (acZ .i64) (if_pos (by omega)).symm,hN.bc⟩
 rw[decide_eq_false kP]
 refine RL.an (ah acI rfl fz) (RL.an (aj acM (hN.aJ 0 rfl)) ?_)
 have jm:=(hv.o.now hN).bw
 refine RL.an (bO acM (hv.o.now hN)) (RL.an (cr) (RL.ag (v:=.bool (decide (67108864<(l.length:Int)))) (aB) (RL.ak ?_)))
 refine RW.aG _ (fun j8=>?_) (fun j8=>?_)
 refine RW.aN (RL.ag (v:=.int .i64 (3)) ai (RL.ak (RW.ret (aT (bb (RV.tmp rfl) ?_)))))
 exact⟨congrArg (acZ .i64) (if_pos (by omega)).symm,hN.bc⟩
 refine RW.skip (aw ?_)
 iterate 2 refine RW.seq ?_
 refine RW.region (RL.ag (ah acI rfl bK) (RL.ag (aj acs (hN.aJ 0 rfl)) (RL.ag (aL) (RL.ak ?_))))
 refine RW.aG _ (fun oP=>?_) (fun oP=>?_)
 refine RW.aN (RL.ag (v:=.int .i64 (2)) ai (RL.ak (RW.ret (aT (bb (RV.tmp rfl) ?_)))))
 refine⟨congrArg (acZ .i64) ?_,hN.bc⟩
 unfold ee
 rw[if_neg (by omega),if_pos (by omega)]
 refine RW.skip (aw ?_)
 iterate 2 refine RW.seq ?_
 refine RW.region (RL.ag (v:=.int .i64 (0)) ai (RL.ak (RW.block ?_)))
 refine RW.loop (fun k R0 cz=>∃i:Nat,R0 1=vP g1∧R0 3=vJ i∧aI w none_ cz [.aJ g1 [.int .i64 (n),v] 24]∧(i+k=l.length)∧(∀a∈l.take i,FQ n a)) (l.length) ?_ ?_
 exact⟨0,rfl,rfl,hN,by omega,fun a ha=>by cases ha⟩
 clear hN
 rintro k R0 cz ⟨i,bP,cd,hN,gk,fU⟩
 have cB:=Bu bP cd
 obtain⟨gF,rfl⟩:=cB
 clear bP cd
 iterate 2 refine RW.seq ?_
 refine RW.region (RL.ag (v:=vJ i) U (RL.ag (ah acI rfl fz) (RL.ag (aj acM (hN.aJ 0 rfl)) (RL.ag (bO acM (hv.o.now hN)) (RL.ag (aL) (RL.ak ?_))))))
 refine RW.aG _ (fun cD=>?_) (fun cD=>?_)
 refine RW.skip (aw (RW.seq (RW.block (RW.aN (RL.ag (ah acI rfl fz) (RL.ag (aj acM (hN.aJ 0 rfl)) (RL.ag (v:=vJ i) U (RL.ag (aU acM dr bf (hv.o.now hN)) ?_))))))))
 have aO:=da (l) i
 obtain⟨ap,bX⟩:=aO
 refine RL.ag (b8 (m:=i) (a:=ap) acP dr bf (hv.o.now hN) bX (cs:=[.int .i64 (ap.1),.int .i64 (ap.2.1),.int .i64 (ap.2.2)])) ?_
 refine RL.aK (bz (cs:=[.int .i64 (0),.int .i64 (0),.int .i64 (0)]) fS rfl hN ?_)
 clear hN
 intro g3 w3 (hN:aI w none_ w3 [_,_])
 refine RL.aK (aR (vs:=[.int .i64 (ap.1),.int .i64 (ap.2.1),.int .i64 (ap.2.2)]) dr rfl rfl rfl (aW (aW (aW cZ))) hN 0 rfl rfl ?_)
 clear hN
 intro w4 (hN:aI w none_ w4 [_,_])
 refine RL.b6 (RL.ag (ah acP rfl bK) (RL.ag (aj acs (hN.aJ 0 rfl)) (RL.ag (aL) (RL.ag (v:=.bool (decide (ap.1<0))) U ?_))))
 by_cases ME:ap.1<0
 rw[decide_eq_true ME]
 iterate 5 refine RL.bH ?_
 refine RL.ag (v:=.bool true) (al) (RL.ag (v:=.bool true) U ?_)
 iterate 3 refine RL.bH ?_
 refine RL.ag (v:=.bool true) (al) (RL.ag (v:=.bool true) U ?_)
 iterate 5 refine RL.bH ?_
 refine RL.ag (v:=.bool true) (al) (RL.ag (v:=.bool true) U ?_)
 iterate 3 refine RL.bH ?_
 refine RL.ag (v:=.bool true) (al) (RL.ag (v:=.bool true) U ?_)
 iterate 3 refine RL.bH ?_
 refine RL.ag (v:=.bool true) (al) (RL.ak (RW.bF (RW.aN (RL.ag (v:=.int .i64 (2)) ai (RL.ak (RW.ret ?_))))))
 refine aX ?_
 iterate 2 refine aT ?_
 refine aX (aT (bb (RV.tmp rfl) ?_))
 refine⟨congrArg (acZ .i64) ?_,hN.bc⟩
 unfold ee
 rw[if_neg (by omega),if_neg (by omega),if_neg]
 intro fY
 have aO:=fY ap (acy bX)
 obtain⟨h1,h2,h3,h4,h5,h6⟩:=aO
 omega
 rw[decide_eq_false ME]
 refine RL.an (ah acP rfl bK) (RL.an (aj acs (hN.aJ 0 rfl)) (RL.an (ah acI rfl bK) (RL.an (aj acs (hN.aJ 1 rfl)) (RL.an (cm) (RL.ag (v:=.bool (decide (n≤ap.1))) (aB) (RL.ag (v:=.bool (decide (n≤ap.1))) U ?_))))))
 by_cases H8:n≤ap.1
 rw[decide_eq_true H8]
 iterate 3 refine RL.bH ?_
 refine RL.ag (v:=.bool true) (al) (RL.ag (v:=.bool true) U ?_)
 iterate 5 refine RL.bH ?_
 refine RL.ag (v:=.bool true) (al) (RL.ag (v:=.bool true) U ?_)
 iterate 3 refine RL.bH ?_
 refine RL.ag (v:=.bool true) (al) (RL.ag (v:=.bool true) U ?_)
 iterate 3 refine RL.bH ?_
 refine RL.ag (v:=.bool true) (al) (RL.ak (RW.bF (RW.aN (RL.ag (v:=.int .i64 (2)) ai (RL.ak (RW.ret ?_))))))
 refine aX ?_
 iterate 2 refine aT ?_
 refine aX (aT (bb (RV.tmp rfl) ?_))
 refine⟨congrArg (acZ .i64) ?_,hN.bc⟩
 unfold ee
 rw[if_neg (by omega),if_neg (by omega),if_neg]
 intro fY
 have aO:=fY ap (acy bX)
 obtain⟨h1,h2,h3,h4,h5,h6⟩:=aO
 omega
 rw[decide_eq_false H8]
 refine RL.an (ah acP rfl bK) (RL.an (aj acs (hN.aJ 0 rfl)) (RL.an (aL) (RL.ag (v:=.bool (decide (ap.2.1<0))) (aB) (RL.ag (v:=.bool (decide (ap.2.1<0))) U ?_))))
 by_cases H5:ap.2.1<0
 rw[decide_eq_true H5]
 iterate 5 refine RL.bH ?_
 refine RL.ag (v:=.bool true) (al) (RL.ag (v:=.bool true) U ?_)
 iterate 3 refine RL.bH ?_
 refine RL.ag (v:=.bool true) (al) (RL.ag (v:=.bool true) U ?_)
 iterate 3 refine RL.bH ?_
 refine RL.ag (v:=.bool true) (al) (RL.ak (RW.bF (RW.aN (RL.ag (v:=.int .i64 (2)) ai (RL.ak (RW.ret ?_))))))
 refine aX ?_
 iterate 2 refine aT ?_
 refine aX (aT (bb (RV.tmp rfl) ?_))
 refine⟨congrArg (acZ .i64) ?_,hN.bc⟩
 unfold ee
 rw[if_neg (by omega),if_neg (by omega),if_neg]
 intro fY
 have aO:=fY ap (acy bX)
 obtain⟨h1,h2,h3,h4,h5,h6⟩:=aO
 omega
 rw[decide_eq_false H5]
 refine RL.an (ah acP rfl bK) (RL.an (aj acs (hN.aJ 0 rfl)) (RL.an (ah acI rfl bK) (RL.an (aj acs (hN.aJ 1 rfl)) (RL.an (cm) (RL.ag (v:=.bool (decide (n≤ap.2.1))) (aB) (RL.ag (v:=.bool (decide (n≤ap.2.1))) U ?_))))))
 by_cases H4:n≤ap.2.1
 rw[decide_eq_true H4]
 iterate 3 refine RL.bH ?_
 refine RL.ag (v:=.bool true) (al) (RL.ag (v:=.bool true) U ?_)
 iterate 3 refine RL.bH ?_
 refine RL.ag (v:=.bool true) (al) (RL.ak (RW.bF (RW.aN (RL.ag (v:=.int .i64 (2)) ai (RL.ak (RW.ret ?_))))))
 refine aX ?_
 iterate 2 refine aT ?_
 refine aX (aT (bb (RV.tmp rfl) ?_))
 refine⟨congrArg (acZ .i64) ?_,hN.bc⟩
 unfold ee
 rw[if_neg (by omega),if_neg (by omega),if_neg]
 intro fY
 have aO:=fY ap (acy bX)
 obtain⟨h1,h2,h3,h4,h5,h6⟩:=aO
 omega
 rw[decide_eq_false H4]
 refine RL.an (ah acP rfl bK) (RL.an (aj acs (hN.aJ 0 rfl)) (RL.an (aL) (RL.ag (v:=.bool (decide (ap.2.2<0))) (aB) (RL.ag (v:=.bool (decide (ap.2.2<0))) U ?_))))
 by_cases H3:ap.2.2<0
 rw[decide_eq_true H3]
 iterate 3 refine RL.bH ?_
 refine RL.ag (v:=.bool true) (al) (RL.ak (RW.bF (RW.aN (RL.ag (v:=.int .i64 (2)) ai (RL.ak (RW.ret ?_))))))
 refine aX ?_
 iterate 2 refine aT ?_
 refine aX (aT (bb (RV.tmp rfl) ?_))
 refine⟨congrArg (acZ .i64) ?_,hN.bc⟩
 unfold ee
 rw[if_neg (by omega),if_neg (by omega),if_neg]
 intro fY
 have aO:=fY ap (acy bX)
 obtain⟨h1,h2,h3,h4,h5,h6⟩:=aO
 omega
 rw[decide_eq_false H3]
 refine RL.an (ah acP rfl bK) (RL.an (aj acs (hN.aJ 0 rfl)) (RL.an (cr) (RL.ag (v:=.bool (decide (2147483648<ap.2.2))) (aB) (RL.ak ?_))))
 refine RW.aG _ (fun OZ=>?_) (fun OZ=>?_)
 refine RW.aN (RL.ag (v:=.int .i64 (2)) ai (RL.ak (RW.ret (aX ?_))))
 iterate 2 refine aT ?_
 refine aX (aT (bb (RV.tmp rfl) ?_))
 refine⟨congrArg (acZ .i64) ?_,hN.bc⟩
 unfold ee
 rw[if_neg (by omega),if_neg (by omega),if_neg]
 intro fY
 have aO:=fY ap (acy bX)
 obtain⟨h1,h2,h3,h4,h5,h6⟩:=aO
 omega
 refine RW.skip (aY (aw (RW.region (RL.ag (v:=vJ i) U (RL.ag (aD rfl rfl rfl (bh (by omega) (by omega))) (RL.ag (v:=.int .i64 ((i:Int)+1)) ai (RL.ak ?_)))))))
 exact⟨k-1,by omega,i+1,rfl,rfl,(hN.sb [1]),by omega,fun a ha=>(du bX ha).elim (fU a) (fun e=>e▸⟨by omega,by omega,by omega,by omega,by omega,by omega⟩)⟩
 refine RW.exit ?_
 iterate 2 refine bS ?_
 refine ba (aw (RW.aN (RL.ag (v:=.int .i64 (0)) ai (RL.ak (RW.ret (bb (RV.tmp rfl) ?_))))))
 refine⟨congrArg (acZ .i64) ?_,hN.bc⟩
 unfold ee
 rw[if_neg (by omega),if_neg (by omega),if_pos]
 rw[acX (by omega)]at fU
 exact fU
theorem wZ (n:Int) (v:Value) (l:List I3) (w:World) (hv:Sm bJ w v l) (h:ee n l=0):aM acx 24 #[.agg #[.int .i64 n,v]] w fun r w'=>r=.int .i64 0∧Ext w w':=(tN n v l w hv).mono fun r w' hr=>by rw[h]at hr;exact hr
end Go.Proofs.YtngkdkbpgoddlaaGreat
namespace Go.Proofs.YtngkdkbpgoddlaaGreat
open Go.RowKit Go.Rl
open Go.Gr
theorem yK (n:Int) (v:Value) (l:List I3) (k:Nat) (w:World) (hv:Sm bJ w v l) (hk:k<l.length):aM acx 130 #[.agg #[.int .i64 n,v],.int .i64 (k:Int)] w fun r w'=>r=.bool (decide (jZ l k))∧Ext w w':=by
 refine aM.aZ ajB ?_
 rw[cT]
 have hN:=aI.nil w none_
 refine RW.aN ?_
 refine RL.aK (bL (cs:=[.int .i64 (n),v]) rfl rfl hN ?_)
 clear hN
 intro g1 w1 (hN:aI w none_ w1 [_])
 refine RL.ag (v:=.bool false) ai (RL.b6 (RL.ag (ah acI rfl fz) (RL.ag (aj acM (hN.aJ 0 rfl)) (RL.ag (v:=vJ k) U (RL.ag (aU acM dr bf (hv.o.now hN)) ?_)))))
 have aO:=da (l) k
 obtain⟨ap,bX⟩:=aO
 refine RL.ag (b8 (m:=k) (a:=ap) acP dr bf (hv.o.now hN) bX (cs:=[.int .i64 (ap.1),.int .i64 (ap.2.1),.int .i64 (ap.2.2)])) ?_
 refine RL.aK (bz (cs:=[.int .i64 (0),.int .i64 (0),.int .i64 (0)]) fS rfl hN ?_)
 clear hN
 intro g2 w2 (hN:aI w none_ w2 [_,_])
 refine RL.aK (aR (vs:=[.int .i64 (ap.1),.int .i64 (ap.2.1),.int .i64 (ap.2.2)]) dr rfl rfl rfl (aW (aW (aW cZ))) hN 0 rfl rfl ?_)
 clear hN
 intro w3 (hN:aI w none_ w3 [_,_])
 refine RL.ak ?_
 iterate 2 refine RW.seq ?_
 refine RW.region (RL.ag (ah acP rfl bK) (RL.ag (aj acs (hN.aJ 0 rfl)) (RL.ag (ah acP rfl bK) (RL.ag (aj acs (hN.aJ 0 rfl)) (RL.ag (bZ) (RL.ak ?_))))))
 refine RW.aG _ (fun HK=>?_) (fun HK=>?_)
 refine RW.aN (RL.ag (v:=.bool false) ai (RL.ak (RW.ret (aT (bb (RV.tmp rfl) ?_)))))
 refine⟨congrArg acO (decide_eq_false ?_).symm,hN.bc⟩
 rintro⟨a,ha,dY,_⟩
 rw[bX]at ha
 cases ha
 exact dY HK
 refine RW.skip (aw ?_)
 iterate 2 refine RW.seq ?_
 refine RW.region (RL.ag (v:=.int .i64 (0)) ai (RL.ak (RW.block ?_)))
 refine RW.loop (fun q R0 cz=>∃i:Nat,R0 1=vJ k∧R0 2=vP g1∧R0 5=vP g2∧R0 6=vJ i∧aI w none_ cz [.aJ g2 [.int .i64 (ap.1),.int .i64 (ap.2.1),.int .i64 (ap.2.2)] 100,.aJ g1 [.int .i64 (n),v] 24]∧(i+q=l.length)∧(∀(j:Nat) b,j<i→l[j]?=some b→¬(b.1=ap.1∧b.2.1=ap.2.1∧(b.2.2<ap.2.2∨b.2.2=ap.2.2∧j<k)))) (l.length) ?_ ?_
 exact⟨0,rfl,rfl,rfl,rfl,hN,by omega,fun j b hj=>by omega⟩
 clear hN
 rintro q R0 cz ⟨i,bP,bV,cx,cW,hN,gk,fJ⟩
 have cB:=jd bP bV cx cW
 obtain⟨gF,rfl⟩:=cB
 clear bP bV cx cW
 iterate 2 refine RW.seq ?_
 refine RW.region (RL.ag (v:=vJ i) U (RL.ag (ah acI rfl fz) (RL.ag (aj acM (hN.aJ 1 rfl)) ?_)))
 have uJ:=(hv.o.now hN).bw
 refine RL.ag (bO acM (hv.o.now hN)) (RL.ag (aL) (RL.ak ?_))
 refine RW.aG _ (fun cD=>?_) (fun cD=>?_)
 refine RW.skip (aw (RW.seq (RW.block (RW.aN (RL.ag (ah acI rfl fz) (RL.ag (aj acM (hN.aJ 1 rfl)) (RL.ag (v:=vJ i) U (RL.ag (aU acM dr bf (hv.o.now hN)) ?_))))))))
 have aO:=da (l) i
 obtain⟨ab,p9⟩:=aO
 refine RL.ag (b8 (m:=i) (a:=ab) acP dr bf (hv.o.now hN) p9 (cs:=[.int .i64 (ab.1),.int .i64 (ab.2.1),.int .i64 (ab.2.2)])) ?_
 refine RL.aK (bz (cs:=[.int .i64 (0),.int .i64 (0),.int .i64 (0)]) fS rfl hN ?_)
 clear hN
 intro g5 w5 (hN:aI w none_ w5 [_,_,_])
 refine RL.aK (aR (vs:=[.int .i64 (ab.1),.int .i64 (ab.2.1),.int .i64 (ab.2.2)]) dr rfl rfl rfl (aW (aW (aW cZ))) hN 0 rfl rfl ?_)
 clear hN
 intro w6 (hN:aI w none_ w6 [_,_,_])
 refine RL.b6 (RL.ag (ah acP rfl bK) (RL.ag (aj acs (hN.aJ 0 rfl)) (RL.ag (ah acP rfl bK) (RL.ag (aj acs (hN.aJ 1 rfl)) (RL.ag (bZ) (RL.ag (v:=.bool (decide (ab.1=ap.1))) U ?_))))))
 by_cases MG:ab.1=ap.1
 rw[decide_eq_true MG]
 refine RL.an (ah acP rfl bK) (RL.an (aj acs (hN.aJ 0 rfl)) (RL.an (ah acP rfl bK) (RL.an (aj acs (hN.aJ 1 rfl)) (RL.an (bZ) (RL.ag (v:=.bool (decide (ab.2.1=ap.2.1))) (al) (RL.ag (v:=.bool (decide (ab.2.1=ap.2.1))) U ?_))))))
 by_cases Ia:ab.2.1=ap.2.1
 rw[decide_eq_true Ia]
 refine RL.an (ah acP rfl bK) (RL.an (aj acs (hN.aJ 0 rfl)) (RL.an (ah acP rfl bK) (RL.an (aj acs (hN.aJ 1 rfl)) (RL.an (aL) (RL.an (v:=.bool (decide (ab.2.2<ap.2.2))) U ?_)))))
 by_cases uj:ab.2.2<ap.2.2
 rw[decide_eq_true uj]
 iterate 6 refine RL.bH ?_
 iterate 3 refine RL.iA ?_
 refine RL.bH (RL.an (v:=.bool true) (al) (RL.ag (v:=.bool true) (al) (RL.ak (RW.bF (RW.aN (RL.ag (v:=.bool false) ai (RL.nil ?_)))))))
 refine aw (RW.ret (aX ?_))
 iterate 2 refine aT ?_
 refine aX (aT (bb (RV.tmp rfl) ?_))
 refine⟨congrArg acO (decide_eq_false ?_).symm,hN.bc⟩
 rintro⟨a,ha,dY,fY⟩
 rw[bX]at ha
 cases ha
 exact fY i ab p9 ⟨by omega,by omega,by omega⟩
 rw[decide_eq_false uj]
 refine RL.an (ah acP rfl bK) (RL.an (aj acs (hN.aJ 0 rfl)) (RL.an (ah acP rfl bK) (RL.an (aj acs (hN.aJ 1 rfl)) (RL.an (bZ) (RL.an (v:=.bool (decide (ab.2.2=ap.2.2))) U ?_)))))
 by_cases H9:ab.2.2=ap.2.2
 rw[decide_eq_true H9]
 refine RL.an (v:=vJ i) U (RL.an (v:=vJ k) U (RL.an (aL) (RL.an (v:=.bool (decide ((i:Int)<(k:Int)))) (al) (RL.an (v:=.bool (decide ((i:Int)<(k:Int)))) (aB) (RL.ag (v:=.bool (decide ((i:Int)<(k:Int)))) (al) (RL.ak ?_))))))
 refine RW.aG _ (fun OZ=>?_) (fun OZ=>?_)
 refine RW.aN (RL.ag (v:=.bool false) ai (RL.ak (RW.ret (aX ?_))))
 iterate 2 refine aT ?_
 refine aX (aT (bb (RV.tmp rfl) ?_))
 refine⟨congrArg acO (decide_eq_false ?_).symm,hN.bc⟩
 rintro⟨a,ha,dY,fY⟩
 rw[bX]at ha
 cases ha
 exact fY i ab p9 ⟨by omega,by omega,by omega⟩
 refine RW.skip (aY (aw (RW.region (RL.ag (v:=vJ i) U (RL.ag (aD rfl rfl rfl (bh (by omega) (by omega))) (RL.ag (v:=.int .i64 ((i:Int)+1)) ai (RL.ak ?_)))))))
 exact⟨q-1,by omega,i+1,rfl,rfl,rfl,rfl,(hN.sb [1,2]),by omega,fun j b hj hb=>(aff.1 hj).elim (fun h=>fJ j b h hb) (fun h=>by subst h;rw[p9]at hb;cases hb;rintro⟨h1,h2,h3⟩;omega)⟩
 rw[decide_eq_false H9]
 iterate 3 refine RL.bH ?_
 iterate 2 refine RL.an (v:=.bool false) (aB) ?_
 refine RL.ag (v:=.bool false) (al) (RL.ak (RW.cg (RW.skip (aY (aw (RW.region (RL.ag (v:=vJ i) U (RL.ag (aD rfl rfl rfl (bh (by omega) (by omega))) ?_))))))))
 refine RL.ag (v:=.int .i64 ((i:Int)+1)) ai (RL.ak ?_)
 exact⟨q-1,by omega,i+1,rfl,rfl,rfl,rfl,(hN.sb [1,2]),by omega,fun j b hj hb=>(aff.1 hj).elim (fun h=>fJ j b h hb) (fun h=>by subst h;rw[p9]at hb;cases hb;rintro⟨h1,h2,h3⟩;omega)⟩
 rw[decide_eq_false Ia]
 iterate 6 refine RL.bH ?_
 iterate 10 refine RL.iA ?_
 refine RL.bH (RL.ag (v:=.bool false) (aB) (RL.ak (RW.cg (RW.skip (aY (aw (RW.region (RL.ag (v:=vJ i) U ?_))))))))
 refine RL.ag (aD rfl rfl rfl (bh (by omega) (by omega))) (RL.ag (v:=.int .i64 ((i:Int)+1)) ai (RL.ak ?_))
 exact⟨q-1,by omega,i+1,rfl,rfl,rfl,rfl,(hN.sb [1,2]),by omega,fun j b hj hb=>(aff.1 hj).elim (fun h=>fJ j b h hb) (fun h=>by subst h;rw[p9]at hb;cases hb;rintro⟨h1,h2,h3⟩;omega)⟩
 rw[decide_eq_false MG]
 iterate 5 refine RL.bH ?_
 refine RL.ag (v:=.bool false) (aB) (RL.ag (v:=.bool false) U ?_)
 iterate 6 refine RL.bH ?_
 iterate 10 refine RL.iA ?_
 refine RL.bH (RL.ag (v:=.bool false) (aB) (RL.ak (RW.cg (RW.skip (aY (aw (RW.region (RL.ag (v:=vJ i) U ?_))))))))
 refine RL.ag (aD rfl rfl rfl (bh (by omega) (by omega))) (RL.ag (v:=.int .i64 ((i:Int)+1)) ai (RL.ak ?_))
 exact⟨q-1,by omega,i+1,rfl,rfl,rfl,rfl,(hN.sb [1,2]),by omega,fun j b hj hb=>(aff.1 hj).elim (fun h=>fJ j b h hb) (fun h=>by subst h;rw[p9]at hb;cases hb;rintro⟨h1,h2,h3⟩;omega)⟩
 refine RW.exit ?_
 iterate 2 refine bS ?_
 refine ba (aw (RW.aN (RL.ag (v:=.bool true) ai (RL.ak (RW.ret (bb (RV.tmp rfl) ?_))))))
 refine⟨congrArg acO (decide_eq_true ⟨ap,bX,HK,fun j b hb=>fJ j b (by have:=(acA.1 hb).1;omega) hb⟩).symm,hN.bc⟩
theorem CG (n:Int) (v:Value) (l:List I3) (w:World) (hv:Sm bJ w v l) (fU:ee n l=0):aM acx 58 #[.agg #[.int .i64 n,v]] w fun r w'=>∃kv,r=.tuple #[.agg #[.int .i64 n,v,kv],.bool true]∧eG vI 3 w' w.heap.size kv (kept l)∧Ext w w':=by
 refine aM.aZ Tryz.func58 ?_
 rw[cM]
 have hN:=aI.nil w none_
 have hl0:=(nV fU).2.2.1
 refine RW.aN ?_
 refine RL.aK (bL (cs:=[.int .i64 (n),v]) rfl rfl hN ?_)
 clear hN
 intro g1 w1 (hN:aI w none_ w1 [_])
 refine RL.aK (bz (cs:=[.int .i64 (0),vN,vN]) sr rfl hN ?_)
 clear hN
 intro g2 w2 (hN:aI w none_ w2 [_,_])
 refine RL.ag (v:=.bool false) ai (RL.ak ?_)
 iterate 2 refine RW.seq ?_
 refine RW.region (RL.ag (aE (cs:=[.int .i64 (n),v]) acI dN (hN.aJ 1 rfl)) ?_)
 refine RL.aK (bo ahs rfl rfl rfl ((wZ (n) _ l _ (hv.o.now hN) fU).mono ?_))
 rintro _ w3 ⟨rfl,bn⟩
 replace hN:=hN.ext bn
 clear bn
 refine RL.ag (cI (bj) (fun h=>h rfl)) (RL.ak (RW.cg (RW.skip (aw (RW.aN (RL.ag (aE (cs:=[.int .i64 (n),v]) acI dN (hN.aJ 1 rfl)) (RL.ag (bT (cs:=[.int .i64 (n),v,vN]) adB sr (places:=#[(0,2),(2,1)]) (by intro w;kernel_rfl) (pl:=[(0,.tmp 11)]) rfl (ps:=[(0,.agg #[.int .i64 (n),v])]) rfl (zc:=[.int .i64 (0),vN,vN]) rfl (aP (vs:=[.int .i64 (n),v]) rfl rfl (acv rfl) rfl)) ?_)))))))
 refine RL.aK (bz (cs:=[.int .i64 (0),vN,vN]) sr rfl hN ?_)
 clear hN
 intro g4 w4 (hN:aI w none_ w4 [_,_,_])
 refine RL.aK (aR (vs:=[.int .i64 (n),v,vN]) qS rfl rfl rfl (by intro u hu;simp only[ac1,acV,or_false]at hu;rcases hu with rfl|rfl|rfl<;>first|rfl|exact(hv.o.now hN).bW) hN 0 rfl rfl ?_)
 clear hN
 intro w5 (hN:aI w none_ w5 [_,_,_])
 refine RL.ak ?_
 iterate 2 refine RW.seq ?_
 replace hN:=hN.dD vI 3
 replace hN:aI w none_ w5 [.own vI 3 (vN) ([]),.aJ g4 [.int .i64 (n),v,vN] 111,.aJ g2 [.int .i64 (0),vN,vN] 111,.aJ g1 [.int .i64 (n),v] 24]:=hN
 refine RW.region (RL.ag (v:=.int .i64 (0)) ai (RL.ak (RW.block ?_)))
 refine RW.loop (fun k R0 cz=>∃va:Value,∃acc:List Int,∃i:Nat,R0 1=vP g1∧R0 2=vP g2∧R0 4=vP g4∧R0 5=vJ i∧aI w none_ cz [.own vI 3 (va) (acc),.aJ g4 [.int .i64 (n),v,va] 111,.aJ g2 [.int .i64 (0),vN,vN] 111,.aJ g1 [.int .i64 (n),v] 24]∧(i+k=l.length)∧(acc=(adz i).map (fun k=>if jZ l k then(1:Int)else 0))∧(acc.length=i)) (l.length) ?_ ?_
 exact⟨vN,[],0,rfl,rfl,rfl,rfl,hN,by omega,rfl,rfl⟩
 clear hN
 rintro k R0 cz ⟨va,acc,i,bP,bV,cA,cx,hN,gk,ha,ir⟩
 have cB:=jd bP bV cA cx
 obtain⟨gF,rfl⟩:=cB
 clear bP bV cA cx
 iterate 2 refine RW.seq ?_
 refine RW.region (RL.ag (v:=vJ i) U (RL.ag (ah acI rfl fz) (RL.ag (aj acM (hN.aJ 3 rfl)) ?_)))
 have AD:=(hv.o.now hN).bw
 refine RL.ag (bO acM (hv.o.now hN)) (RL.ag (aL) (RL.ak ?_))
 refine RW.aG _ (fun cD=>?_) (fun cD=>?_)
 refine RW.skip (aw (RW.seq (RW.block (RW.aN (RL.ag (v:=.int .i64 (0)) ai (RL.ak ?_))))))
 iterate 2 refine RW.seq ?_
 refine RW.region (RL.ag (aE (cs:=[.int .i64 (n),v]) acI dN (hN.aJ 3 rfl)) (RL.ag (v:=vJ i) U ?_))
 refine RL.aK (bu ajB rfl rfl rfl rfl ((yK (n) _ l i _ (hv.o.now hN) (by omega)).mono ?_))
 rintro _ w7 ⟨rfl,bn⟩
 replace hN:=hN.ext bn
 clear bn
 refine RL.ak ?_
 refine RW.aG _ (fun VK=>?_) (fun VK=>?_)
 refine RW.region (RL.ag (v:=.int .i64 (1)) ai (RL.ak (RW.region (RL.ag (ah adB rfl cj) (RL.ag (aj acu (hN.aJ 1 rfl)) (RL.ag (v:=.int .i64 (1)) U ?_))))))
 refine RL.aK (cw (enc:=vI) (l:=[1]) (xs:=[.tmp 25]) acu bK mU rfl rfl (fun _=>rfl) rfl (by decide) (by decide) hN ?_)
 clear hN
 intro g8 w8 (hN:aI w none_ w8 [_,_,_,_,_])
 refine RL.aK (b9 acu gz rfl (fun _=>rfl) hN 1 rfl rfl (hN.sl 0 rfl) rfl (by rw[ir];simp only[acC,acF,acN];omega) (by decide) ?_)
 clear hN
 intro v9 w9 (hN:aI w none_ w9 [_,_,_,_,_])
 refine RL.ag (ah adB rfl cj) ?_
 refine RL.aK (ca cj rfl rfl (hN.sl 1 rfl).cN (hN.sl 1 rfl).bW hN 2 rfl (acv rfl) ?_)
 clear hN
 intro lW (hN:aI w none_ lW [_,_,_,_,_])
 refine RL.nil (aY (aw (RW.region (RL.ag (v:=vJ i) U (RL.ag (aD rfl rfl rfl (bh (by omega) (by omega))) (RL.ag (v:=.int .i64 ((i:Int)+1)) ai (RL.ak ?_)))))))
 exact⟨k-1,by omega,v9,acc++[1],i+1,rfl,rfl,rfl,rfl,(hN.sb [1,2,3,4]),by omega,by rw[xe,ha,if_pos VK],by rw[acw,ir];rfl⟩
 refine RW.skip (aw (RW.region (RL.ag (ah adB rfl cj) (RL.ag (aj acu (hN.aJ 1 rfl)) (RL.ag (v:=.int .i64 (0)) U ?_)))))
 refine RL.aK (cw (enc:=vI) (l:=[0]) (xs:=[.tmp 25]) acu bK mU rfl rfl (fun _=>rfl) rfl (by decide) (by decide) hN ?_)
 clear hN
 intro Qx lR (hN:aI w none_ lR [_,_,_,_,_])
 refine RL.aK (b9 acu gz rfl (fun _=>rfl) hN 1 rfl rfl (hN.sl 0 rfl) rfl (by rw[ir];simp only[acC,acF,acN];omega) (by decide) ?_)
 clear hN
 intro mV ll (hN:aI w none_ ll [_,_,_,_,_])
 refine RL.ag (ah adB rfl cj) ?_
 refine RL.aK (ca cj rfl rfl (hN.sl 1 rfl).cN (hN.sl 1 rfl).bW hN 2 rfl (acv rfl) ?_)
 clear hN
 intro nR (hN:aI w none_ nR [_,_,_,_,_])
 refine RL.nil (aY (aw (RW.region (RL.ag (v:=vJ i) U (RL.ag (aD rfl rfl rfl (bh (by omega) (by omega))) (RL.ag (v:=.int .i64 ((i:Int)+1)) ai (RL.ak ?_)))))))
 exact⟨k-1,by omega,mV,acc++[0],i+1,rfl,rfl,rfl,rfl,(hN.sb [1,2,3,4]),by omega,by rw[xe,ha,if_neg VK],by rw[acw,ir];rfl⟩
 refine RW.exit ?_
 iterate 2 refine bS ?_
 refine ba (aw (RW.aN (RL.ag (aE (cs:=[.int .i64 (n),v,va]) adB qS (hN.aJ 1 rfl)) ?_)))
 refine RL.aK (aR (vs:=[.int .i64 (n),v,va]) qS rfl rfl rfl (by intro u hu;simp only[ac1,acV,or_false]at hu;rcases hu with rfl|rfl|rfl<;>first|rfl|exact(hN.sl 0 rfl).bW|exact(hv.o.now hN).bW) hN 2 rfl rfl ?_)
 clear hN
 intro o7 (hN:aI w none_ o7 [_,_,_,_])
 refine RL.ag (v:=.bool true) ai (RL.ak (RW.ret (bb (RV.eB rfl rfl (dJ (hN.aJ 2 rfl) adB rfl qS)) ?_)))
 have iy:i=l.length:=by omega
 subst iy
 subst ha
 exact⟨va,rfl,hN.fL 0 rfl,hN.bc⟩
theorem BP (v:Value) (l:List I3) (e:I3) (w:World) (hv:Sm bJ w v l) (hl:l.length≤67108864):aM acx 207 #[v,.agg #[.int .i64 e.1,.int .i64 e.2.1,.int .i64 e.2.2]] w fun r w'=>∃k,k≤l.length∧fR bJ 3 246 w' w.heap.size r (l.take k++[e]++l.drop k)∧Ext w w':=by
 refine aM.aZ ajC ?_
 rw[cT]
 have hN:=aI.nil w none_
 refine RW.aN ?_
 refine RL.aK (bL (cs:=[.int .i64 (e.1),.int .i64 (e.2.1),.int .i64 (e.2.2)]) rfl rfl hN ?_)
 clear hN
 intro g1 w1 (hN:aI w none_ w1 [_])
 refine RL.ag (v:=vN) ai (RL.b6 (RL.ag (v:=.int .i64 (0)) ai (RL.ak (RW.seq (RW.block ?_)))))
 refine RW.loop (fun k R0 cz=>∃i:Nat,R0 0=v∧R0 3=vP g1∧R0 5=vJ i∧aI w none_ cz [.aJ g1 [.int .i64 (e.1),.int .i64 (e.2.1),.int .i64 (e.2.2)] 246]∧(i+k=l.length)) (l.length) ?_ ?_
 exact⟨0,rfl,rfl,rfl,hN,by omega⟩
 clear hN
 rintro k R0 cz ⟨i,cH,cd,cx,hN,gk⟩
 have cB:=ln cH cd cx
 obtain⟨gF,rfl⟩:=cB
 clear cH cd cx
 iterate 2 refine RW.seq ?_
 replace hN:=hN.ext (Ext.drew cz)
 refine RW.bD (fun u=>aI w none_ u [.aJ g1 [.int .i64 (e.1),.int .i64 (e.2.1),.int .i64 (e.2.2)] 246]) 14 [(0,0),(1,0),(2,0),(3,0),(4,0),(5,0),(6,0),(7,0),(8,0),(9,0),(10,0),(11,0),(12,0),(13,0)] (by intro _ _ _ h;exact h) hN (RQ.aA (v:=vJ i) rfl (fun w hS=>U) (RQ.aA (v:=v) rfl (fun w hS=>U) ?_))
 have jm:=(hv.o.now hN).bw
 refine RQ.aA rfl (fun w hS=>(bO adw (hv.o.now hS))) (RQ.aA rfl (fun w hS=>(aL)) (RQ.aA (v:=.bool (decide ((i:Int)<(l.length:Int)))) rfl (fun w hS=>U) ?_))
 by_cases cD:(i:Int)<(l.length:Int)
 rw[decide_eq_true cD]
 refine RQ.aS (v:=v) rfl (fun w hS=>U) (RQ.aS (v:=vJ i) rfl (fun w hS=>U) (RQ.aS rfl (fun w hS=>(aU adw od bf (hv.o.now hS))) ?_))
 have aO:=da (l) i
 obtain⟨ap,bX⟩:=aO
 refine RQ.aS rfl (fun w hS=>(bl (m:=i) (b:=0) aei rfl bK bf (hv.o.now hS) bX)) (RQ.aS rfl (fun w hS=>(bB (m:=i) (j:=0) (a:=ap) acs bf (hv.o.now hS) bX)) (RQ.aS rfl (fun w hS=>(ah aei rfl bK)) (RQ.aS rfl (fun w hS=>(aj acs (hS.aJ 0 rfl))) (RQ.aS rfl (fun w hS=>(aL)) (RQ.aA (v:=.bool (decide (ap.1<e.1))) rfl (fun w hS=>(al)) (RQ.bq (aw ?_)))))))
 refine RW.aG _ (fun EU=>?_) (fun EU=>?_)
 refine RW.skip (aw (RW.block (RW.region (RL.ag (v:=vJ i) U (RL.ag (aD rfl rfl rfl (bh (by omega) (by omega))) (RL.ag (v:=.int .i64 ((i:Int)+1)) ai (RL.nil (aY (aw ?_)))))))))
 exact⟨k-1,by omega,i+1,rfl,rfl,rfl,hN,by omega⟩
 refine RW.exit ?_
 iterate 2 refine bS ?_
 refine ba (aw (RW.aN (RL.ag (v:=vN) ai (RL.b6 (RL.ag (v:=vN) U ?_)))))
 refine RL.ag (v:=v) U (RL.ag (v:=vJ i) U (RL.ag (xu adw od (hv.o.now hN) rfl rfl (by omega) (by omega)) ?_))
 replace hN:=hN.eK bJ 3 246
 refine RL.aK (ct adw k7 rfl (by decide) fp bf hN 0 rfl rfl ((hv.o.now hN).uQ bf (by omega)) rfl (by simp only[ac5,acN];omega) (by decide) ?_)
 clear hN
 intro v3 w3 (hN:aI w none_ w3 [_,_])
 replace hN:=hN.xO 0 rfl (show _=(l.take i)from aeE _)
 replace hN:aI w none_ w3 [_,_]:=hN
 refine RL.ag (v:=v3) ai (RL.b6 (RL.ag (v:=v3) U (RL.ag (aE (cs:=[.int .i64 (e.1),.int .i64 (e.2.1),.int .i64 (e.2.2)]) aei od (hN.aJ 1 rfl)) ?_)))
 refine RL.aK (dB (cf:=bJ) (s:=3) (pl:=[(0,.tmp 29)]) (ps:=[(0,.agg #[.int .i64 (e.1),.int .i64 (e.2.1),.int .i64 (e.2.2)])]) (zc:=[.int .i64 (0),.int .i64 (0),.int .i64 (0)]) (l:=[(e.1,e.2.1,e.2.2)]) adw k7 (by kernel_rfl) rfl rfl (aP (vs:=[.int .i64 (e.1),.int .i64 (e.2.1),.int .i64 (e.2.2)]) rfl rfl (acv rfl) rfl) bf rfl (by decide) (by decide) (by decide) hN ?_)
 clear hN
 intro g4 w4 (hN:aI w none_ w4 [_,_,_])
 refine RL.aK (ct adw k7 rfl (by decide) fp bf hN 1 rfl rfl (hN.sm 0 rfl) rfl (by simp only[ac5,acF,acN];omega) (by decide) ?_)
 clear hN
 intro v5 w5 (hN:aI w none_ w5 [_,_,_])
 refine RL.ag (v:=v5) ai (RL.b6 (RL.ag (v:=v5) U (RL.ag (v:=v) U (RL.ag (v:=vJ i) U (RL.ag (rA adw od (hv.o.now hN) rfl rfl (by omega) (by omega)) ?_)))))
 refine RL.aK (ct adw k7 rfl (by decide) fp bf hN 1 rfl rfl ((hv.o.now hN).mC bf (by omega)) rfl (by simp only[acw,ac5,adq,acF,acN];omega) (by decide) ?_)
 clear hN
 intro v6 w6 (hN:aI w none_ w6 [_,_,_])
 refine RL.ag (v:=v6) ai (RL.ak (RW.ret (bb (RV.tmp rfl) ?_)))
 exact⟨i,by omega,hN.fT 1 rfl,hN.bc⟩
 rw[decide_eq_false cD]
 iterate 8 refine RQ.bU rfl ?_
 refine RQ.aA (v:=.bool false) rfl (fun w hS=>(aB)) (RQ.bq (aw (RW.cg (RW.exit ?_))))
 iterate 2 refine bS ?_
 refine ba (aw (RW.aN (RL.ag (v:=vN) ai (RL.b6 (RL.ag (v:=vN) U ?_)))))
 refine RL.ag (v:=v) U (RL.ag (v:=vJ i) U (RL.ag (xu adw od (hv.o.now hN) rfl rfl (by omega) (by omega)) ?_))
 replace hN:=hN.eK bJ 3 246
 refine RL.aK (ct adw k7 rfl (by decide) fp bf hN 0 rfl rfl ((hv.o.now hN).uQ bf (by omega)) rfl (by simp only[ac5,acN];omega) (by decide) ?_)
 clear hN
 intro v7 w7 (hN:aI w none_ w7 [_,_])
 replace hN:=hN.xO 0 rfl (show _=(l.take i)from aeE _)
 replace hN:aI w none_ w7 [_,_]:=hN
 refine RL.ag (v:=v7) ai (RL.b6 (RL.ag (v:=v7) U (RL.ag (aE (cs:=[.int .i64 (e.1),.int .i64 (e.2.1),.int .i64 (e.2.2)]) aei od (hN.aJ 1 rfl)) ?_)))
 refine RL.aK (dB (cf:=bJ) (s:=3) (pl:=[(0,.tmp 29)]) (ps:=[(0,.agg #[.int .i64 (e.1),.int .i64 (e.2.1),.int .i64 (e.2.2)])]) (zc:=[.int .i64 (0),.int .i64 (0),.int .i64 (0)]) (l:=[(e.1,e.2.1,e.2.2)]) adw k7 (by kernel_rfl) rfl rfl (aP (vs:=[.int .i64 (e.1),.int .i64 (e.2.1),.int .i64 (e.2.2)]) rfl rfl (acv rfl) rfl) bf rfl (by decide) (by decide) (by decide) hN ?_)
 clear hN
 intro g8 w8 (hN:aI w none_ w8 [_,_,_])
 refine RL.aK (ct adw k7 rfl (by decide) fp bf hN 1 rfl rfl (hN.sm 0 rfl) rfl (by simp only[ac5,acF,acN];omega) (by decide) ?_)
 clear hN
 intro v9 w9 (hN:aI w none_ w9 [_,_,_])
 refine RL.ag (v:=v9) ai (RL.b6 (RL.ag (v:=v9) U (RL.ag (v:=v) U (RL.ag (v:=vJ i) U (RL.ag (rA adw od (hv.o.now hN) rfl rfl (by omega) (by omega)) ?_)))))
 refine RL.aK (ct adw k7 rfl (by decide) fp bf hN 1 rfl rfl ((hv.o.now hN).mC bf (by omega)) rfl (by simp only[acw,ac5,adq,acF,acN];omega) (by decide) ?_)
 clear hN
 intro v10 lW (hN:aI w none_ lW [_,_,_])
 refine RL.ag (v:=v10) ai (RL.ak (RW.ret (bb (RV.tmp rfl) ?_)))
 exact⟨i,by omega,hN.fT 1 rfl,hN.bc⟩
theorem Et (n:Int) (v:Value) (l:List I3) (kv:Value) (ks:List Int) (x:Int) (w:World) (hv:Sm bJ w v l) (hk:Sl vI w kv ks) (hlen:ks.length=l.length) (hl:l.length≤67108864):aM acx 182 #[.agg #[.int .i64 n,v,kv],.int .i64 x] w fun r w'=>∃out,fR bJ 3 246 w' w.heap.size r out∧out.Perm (FL l ks x l.length)∧Ext w w':=by
 refine aM.aZ ajD ?_
 rw[cT]
 have hN:=aI.nil w none_
 refine RW.aN ?_
 refine RL.aK (bL (cs:=[.int .i64 (n),v,kv]) rfl rfl hN ?_)
 clear hN
 intro g1 w1 (hN:aI w none_ w1 [_])
 refine RL.ag (v:=vN) ai (RL.b6 (RL.ag (v:=vN) ai (RL.ak ?_)))
 iterate 2 refine RW.seq ?_
 replace hN:=hN.eK bJ 3 246
 replace hN:aI w none_ w1 [.cp bJ 3 246 (vN) ([]),.aJ g1 [.int .i64 (n),v,kv] 111]:=hN
 refine RW.region (RL.ag (v:=.int .i64 (0)) ai (RL.ak (RW.block ?_)))
 refine RW.loop (fun k R0 cz=>∃va:Value,∃acc:List I3,∃i:Nat,R0 1=.int .i64 (x)∧R0 2=vP g1∧R0 5=va∧R0 6=vJ i∧aI w none_ cz [.cp bJ 3 246 (va) (acc),.aJ g1 [.int .i64 (n),v,kv] 111]∧(i+k=ks.length)∧(acc.Perm (FL l ks x i))∧(acc.length≤i)) (ks.length) ?_ ?_
 exact⟨vN,[],0,rfl,rfl,rfl,rfl,hN,by omega,.refl _,ac3 _⟩
 clear hN
 rintro k R0 cz ⟨va,acc,i,bP,bV,cx,cW,hN,gk,ha,ir⟩
 have cB:=jd bP bV cx cW
 obtain⟨gF,rfl⟩:=cB
 clear bP bV cx cW
 iterate 2 refine RW.seq ?_
 refine RW.region (RL.ag (v:=vJ i) U (RL.ag (ah adB rfl cj) (RL.ag (aj acu (hN.aJ 1 rfl)) ?_)))
 have jm:=(hk.o.now hN).bw
 refine RL.ag (aQ acu (hk.o.now hN)) (RL.ag (aL) (RL.ak ?_))
 refine RW.aG _ (fun cD=>?_) (fun cD=>?_)
 refine RW.skip (aw (RW.seq (RW.block (RW.seq ?_))))
 have aO:=da l i
 obtain⟨ap,bX⟩:=aO
 have aO:=da ks i
 obtain⟨s,hs⟩:=aO
 by_cases h1:s=1
 refine RW.region (RL.ag (ah adB rfl cj) (RL.ag (aj acu (hN.aJ 1 rfl)) (RL.ag (v:=vJ i) U (RL.ag (aC acu bK (hk.o.now hN)) (RL.ag (aF (m:=i) (a:=s) acs (hk.o.now hN) hs) (RL.ag (dm (bZ) h1) (RL.ag (v:=.bool true) U (RL.an (ah adB rfl dN) (RL.an (ah acI rfl fz) ?_)))))))))
 refine RL.an (aj acM (hN.aJ 1 rfl)) ?_
 by_cases h2:ap.1=x
 refine RL.an (v:=vJ i) U (RL.an (aU acM dr bf (hv.o.now hN)) (RL.an (bl (m:=i) (b:=0) acP rfl bK bf (hv.o.now hN) bX) (RL.an (bB (m:=i) (j:=0) (a:=ap) acs bf (hv.o.now hN) bX) (RL.an (v:=.int .i64 (x)) U (RL.an (dm (bZ) h2) (RL.ag (v:=.bool true) (al) (RL.ak (RW.bF ?_))))))))
 replace hN:=hN.ext (Ext.drew cz)
 refine RW.bD (fun u=>aI w none_ u [.aJ g1 [.int .i64 (n),v,kv] 111]) 19 [(0,0),(1,0),(2,0),(3,0),(4,0),(5,0),(6,0),(7,0),(8,0),(9,0),(10,0),(11,0),(12,0),(13,0),(14,0),(15,0),(16,0),(17,1),(18,0)] (by intro _ _ _ h;exact h) (hN.sb [1]) (RQ.aA (v:=va) rfl (fun w hS=>U) (RQ.aA rfl (fun w hS=>(ah adB rfl dN)) (RQ.aA rfl (fun w hS=>(ah acI rfl fz)) (RQ.aA rfl (fun w hS=>(aj acM (hS.aJ 0 rfl))) (RQ.aA (v:=vJ i) rfl (fun w hS=>U) (RQ.aA rfl (fun w hS=>(aU acM dr bf (hv.o.now hS))) (RQ.aA rfl (fun w hS=>(bl (m:=i) (b:=0) acP rfl bK bf (hv.o.now hS) bX)) (RQ.aA rfl (fun w hS=>(bB (m:=i) (j:=1) (a:=ap) acs bf (hv.o.now hS) bX)) (RQ.aA rfl (fun w hS=>(ah adB rfl dN)) ?_)))))))))
 refine RQ.aA rfl (fun w hS=>(ah acI rfl fz)) (RQ.aA rfl (fun w hS=>(aj acM (hS.aJ 0 rfl))) (RQ.aA (v:=vJ i) rfl (fun w hS=>U) (RQ.aA rfl (fun w hS=>(aU acM dr bf (hv.o.now hS))) (RQ.aA rfl (fun w hS=>(bl (m:=i) (b:=0) acP rfl bK bf (hv.o.now hS) bX)) (RQ.aA rfl (fun w hS=>(bB (m:=i) (j:=2) (a:=ap) acs bf (hv.o.now hS) bX)) (RQ.aA (v:=vJ i) rfl (fun w hS=>U) (RQ.aA rfl (fun w hS=>(bT (cs:=[.int .i64 (ap.2.1),.int .i64 (ap.2.2),vJ i]) aei CZ (places:=#[(0,1),(1,1),(2,1)]) (by intro w;kernel_rfl) (pl:=[(0,.tmp 38),(1,.tmp 45),(2,.tmp 46)]) rfl (ps:=[(0,.int .i64 (ap.2.1)),(1,.int .i64 (ap.2.2)),(2,vJ i)]) rfl (zc:=[.int .i64 (0),.int .i64 (0),.int .i64 (0)]) rfl (aP (vs:=[.int .i64 (ap.2.1)]) rfl rfl (acv rfl) (aP (vs:=[.int .i64 (ap.2.2)]) rfl rfl (acv rfl) (aP (vs:=[vJ i]) rfl rfl (acv rfl) rfl))))) ?_)))))))
 refine RQ.b0 rfl (bu ajC rfl rfl rfl rfl ((BP _ acc (ap.2.1,ap.2.2,(i:Int)) _ (hN.sm 0 rfl) (by omega)).mono ?_))
 rintro v4 w4 ⟨k4,XG,cL,bn⟩
 replace hN:aI w none_ w4 [_,_,_]:=hN.fF cL bn
 clear cL bn
 refine⟨(hN.sb [2]),?_⟩
 refine RQ.aA (v:=v4) rfl (fun w hS=>ai) (RQ.bq (aY (aw (RW.region (RL.ag (v:=vJ i) U (RL.ag (aD rfl rfl rfl (bh (by omega) (by omega))) (RL.ag (v:=.int .i64 ((i:Int)+1)) ai (RL.ak ?_))))))))
 exact⟨k-1,by omega,v4,(acc.take k4++[(ap.2.1,ap.2.2,(i:Int))]++acc.drop k4),i+1,rfl,rfl,rfl,rfl,(hN.sb [0,2]),by omega,by rw[lx,show jy l ks x i=[(ap.2.1,ap.2.2,(i:Int))]from by unfold jy;rw[bX];exact if_pos ⟨by rw[hs,h1],h2⟩];exact(zK _ _ _).trans (List.Perm.append_right _ ha),by rw[KV];omega⟩
 refine RL.an (v:=vJ i) U (RL.an (aU acM dr bf (hv.o.now hN)) (RL.an (bl (m:=i) (b:=0) acP rfl bK bf (hv.o.now hN) bX) (RL.an (bB (m:=i) (j:=0) (a:=ap) acs bf (hv.o.now hN) bX) (RL.an (v:=.int .i64 (x)) U (RL.an (cI (bZ) h2) (RL.ag (v:=.bool false) (al) (RL.ak (RW.cg ?_))))))))
 refine RW.skip (aY (aw (RW.region (RL.ag (v:=vJ i) U (RL.ag (aD rfl rfl rfl (bh (by omega) (by omega))) (RL.ag (v:=.int .i64 ((i:Int)+1)) ai (RL.ak ?_)))))))
 exact⟨k-1,by omega,va,acc,i+1,rfl,rfl,rfl,rfl,hN,by omega,by rw[lx,show jy l ks x i=[]from by unfold jy;rw[bX];exact if_neg (fun h=>h2 h.2)];rw[adj];exact ha,by omega⟩
 refine RW.region (RL.ag (ah adB rfl cj) (RL.ag (aj acu (hN.aJ 1 rfl)) (RL.ag (v:=vJ i) U (RL.ag (aC acu bK (hk.o.now hN)) (RL.ag (aF (m:=i) (a:=s) acs (hk.o.now hN) hs) (RL.ag (cI (bZ) h1) (RL.ag (v:=.bool false) U ?_)))))))
 iterate 9 refine RL.bH ?_
 refine RL.ag (v:=.bool false) (aB) (RL.ak (RW.cg (RW.skip (aY (aw (RW.region (RL.ag (v:=vJ i) U (RL.ag (aD rfl rfl rfl (bh (by omega) (by omega))) ?_))))))))
 refine RL.ag (v:=.int .i64 ((i:Int)+1)) ai (RL.ak ?_)
 exact⟨k-1,by omega,va,acc,i+1,rfl,rfl,rfl,rfl,hN,by omega,by rw[lx,show jy l ks x i=[]from by unfold jy;rw[bX];exact if_neg (fun h=>h1 (ac2 (hs.symm.trans h.1)))];rw[adj];exact ha,by omega⟩
 refine RW.exit ?_
 iterate 2 refine bS ?_
 refine ba (aw (RW.aN (RL.ag (v:=va) U (RL.ag (v:=va) ai (RL.ak (RW.ret (bb (RV.tmp rfl) ?_)))))))
 have iy:i=l.length:=by omega
 subst iy
 exact⟨acc,hN.fT 0 rfl,ha,hN.bc⟩
end Go.Proofs.YtngkdkbpgoddlaaGreat
namespace Go.Proofs.YtngkdkbpgoddlaaGreat
open Go.RowKit Go.Rl
open Go.Gr
end Go.Proofs.YtngkdkbpgoddlaaGreat
namespace Go.Proofs.YtngkdkbpgoddlaaGreat
open Go.RowKit Go.Rl
open Go.Gr
end Go.Proofs.YtngkdkbpgoddlaaGreat
namespace Go.Proofs.YtngkdkbpgoddlaaGreat
open Go.RowKit Go.Rl
open Go.Gr
theorem CI (k:Int) (gm:Nat) (n:Int) (mv:Value) (ar:List I3) (a:I3) (w:World) (hb:iu w gm [.int .i64 n,mv] 24) (hm:Sm bJ w mv ar) (h0:0≤k) (ha:ar[k.toNat]?=some a):aM acx 145 #[.int .i64 k,vP gm] w fun r w'=>r=.int .i64 a.1∧Ext w w':=by
 refine aM.aZ ag2 ?_
 rw[cT]
 have hN:=aI.nil w none_
 have cD:=(acA.1 ha).1
 refine RW.aN (RL.ag (v:=.int .i64 (0)) ai (RL.b6 (RL.ag (ah acI rfl fz) (RL.ag (aj acM (hb.ext hN.bc)) (RL.ag (v:=.int .i64 (k)) U ?_)))))
 refine RL.ag (aU acM dr bf (hm.o.now hN)) (RL.ag (bl (m:=(k).toNat) (b:=0) acP rfl bK bf (hm.o.now hN) ha) (RL.ag (bB (m:=(k).toNat) (j:=0) (a:=a) acs bf (hm.o.now hN) ha) (RL.ag (v:=.int .i64 (a.1)) ai (RL.ak (RW.ret (bb (RV.tmp rfl) ?_))))))
 exact⟨rfl,hN.bc⟩
theorem Gh (k:Int) (gm:Nat) (n:Int) (mv:Value) (ar:List I3) (a:I3) (w:World) (hb:iu w gm [.int .i64 n,mv] 24) (hm:Sm bJ w mv ar) (h0:0≤k) (ha:ar[k.toNat]?=some a):aM acx 146 #[.int .i64 k,vP gm] w fun r w'=>r=.int .i64 a.2.1∧Ext w w':=by
 refine aM.aZ ag3 ?_
 rw[cT]
 have hN:=aI.nil w none_
 have cD:=(acA.1 ha).1
 refine RW.aN (RL.ag (v:=.int .i64 (0)) ai (RL.b6 (RL.ag (ah acI rfl fz) (RL.ag (aj acM (hb.ext hN.bc)) (RL.ag (v:=.int .i64 (k)) U ?_)))))
 refine RL.ag (aU acM dr bf (hm.o.now hN)) (RL.ag (bl (m:=(k).toNat) (b:=0) acP rfl bK bf (hm.o.now hN) ha) (RL.ag (bB (m:=(k).toNat) (j:=1) (a:=a) acs bf (hm.o.now hN) ha) (RL.ag (v:=.int .i64 (a.2.1)) ai (RL.ak (RW.ret (bb (RV.tmp rfl) ?_))))))
 exact⟨rfl,hN.bc⟩
structure JG (fi:FuncId) (q:I3→Int):Prop where
  f:∃fn,acx.funcs[fi]?=some fn∧(fn.name == "runtime.NumGoroutine")=false∧fn.body.isSome=true
  c:∀(k:Int) (gm:Nat) (n:Int) (mv:Value) (ar:List I3) (a:I3) (w:World),iu w gm [.int .i64 n,mv] 24→Sm bJ w mv ar→0≤k→ar[k.toNat]?=some a→aM acx fi #[.int .i64 k,vP gm] w fun r w'=>r=.int .i64 (q a)∧Ext w w'
  r:∀(n:Int) (a:I3),FQ n a→0≤q a∧q a<n
theorem ko:JG 145 (fun a=>a.1):=⟨⟨_,ag2,rfl,rfl⟩,CI,fun n a h=>by obtain⟨h0,h1,h2,h3,_⟩:=h;constructor<;>omega⟩
theorem oL:JG 146 (fun a=>a.2.1):=⟨⟨_,ag3,rfl,rfl⟩,Gh,fun n a h=>by obtain⟨h0,h1,h2,h3,_⟩:=h;constructor<;>omega⟩
theorem j3 (fi:FuncId) (q:I3→Int) (hK:JG fi q) (n:Nat) (lv:Value) (l:List Int) (gm:Nat) (mv:Value) (ar:List I3) (w:World) (hl:Sl vI w lv l) (hb:iu w gm [.int .i64 (n:Int),mv] 24) (hm:Sm bJ w mv ar) (fU:∀a∈ar,FQ n a) (hv:∀k∈l,0≤k∧k<(ar.length:Int)) (hn:n≤16777216) (Ds:l.length≤67108864):aM acx 149 #[.int .i64 (n:Int),lv,.func (.func fi) #[] #[vP gm]] w fun r w'=>∃os,eG vI 3 w' w.heap.size r os∧Laid l (gx ar q l) os l.length∧Ext w w':=by
 refine aM.aZ agn ?_
 rw[iX]
 have hN:=aI.nil w none_
 have aO:=hK.f
 obtain⟨Wr,Td,Q3,Th⟩:=aO
 have Bl:=jz ar q l
 have OD:∀x∈(gx ar q l),0≤x:=xd hv fun a ha=>(hK.r _ _ (fU a ha)).1
 refine RW.aN (RL.ag (v:=vN) ai (RL.b6 (RL.ag (v:=vJ n) U (RL.ag (aD rfl rfl rfl ((bh (by omega) (by omega)).trans (by omega:(n:Int)+1=((n+1:Nat):Int)))) ?_))))
 refine RL.aK (ki (enc:=vI) (z:=0) acu gz rfl hN rfl (by omega) (by omega) (by omega) ?_)
 clear hN
 intro v1 w1 (hN:aI w none_ w1 [_])
 refine RL.ag (v:=v1) ai (RL.ak ?_)
 iterate 2 refine RW.seq ?_
 refine RW.region (RL.ag (v:=lv) U ?_)
 have jm:=(hl.o.now hN).bw
 refine RL.ag (aQ acu (hl.o.now hN)) (RL.ag (v:=.int .i64 (0)) U (RL.ak (RW.block ?_)))
 refine RW.loop (fun k R0 cz=>∃cs:List Int,∃i:Nat,R0 0=vJ n∧R0 1=lv∧R0 2=.func (.func fi) #[] #[vP gm]∧R0 7=v1∧R0 17=lv∧R0 18=.int .i64 ((l.length:Int))∧R0 19=vJ i∧aI w none_ cz [.own vI 3 (v1) (cs)]∧(i+k=l.length)∧(Cs n cs (f0 (gx ar q l) i))) (l.length) ?_ ?_
 exact⟨acY (n+1) 0,0,rfl,rfl,rfl,rfl,rfl,rfl,rfl,hN,by omega,AS⟩
 clear hN
 rintro k R0 cz ⟨cs,i,cH,bP,bV,cF,fq,fH,gj,hN,gk,sE⟩
 have cB:=DZ cH bP bV cF fq fH gj
 obtain⟨gF,rfl⟩:=cB
 clear cH bP bV cF fq fH gj
 refine RW.aN (RL.ag (aL) (RL.ak (RW.seq ?_)))
 refine RW.aG _ (fun cD=>?_) (fun cD=>?_)
 refine RW.skip (aw (RW.seq (RW.block (RW.aN (RL.ag (aC acu bK (hl.o.now hN)) ?_)))))
 have aO:=da (l) i
 obtain⟨ap,bX⟩:=aO
 refine RL.ag (aF (m:=i) (a:=ap) acs (hl.o.now hN) bX) (RL.ag (v:=.int .i64 (ap)) ai (RL.ak ?_))
 have OW:=sE.len
 refine RW.region (RL.ag (v:=v1) U (RL.ag (v:=.func (.func fi) #[] #[vP gm]) U (RL.ag (v:=.int .i64 (ap)) U ?_)))
 have U9:0≤ap∧ap<(ar.length:Int):=hv ap (acy bX)
 have aO:=da ar ((ap).toNat)
 obtain⟨b4,Lm⟩:=aO
 have aO:=hK.r _ _ (fU b4 (acy Lm))
 obtain⟨ZJ,ZI⟩:=aO
 refine RL.aK (cG (first:=#[]) (captured:=#[vP gm]) (v0:=.int .i64 (ap)) (args:=#[.int .i64 (ap),vP gm]) Td Q3 Th (by simp) rfl rfl ((hK.c (ap) gm ((n:Int)) _ ar b4 _ (hb.ext hN.bc) (hm.o.now hN) U9.1 Lm).mono ?_))
 rintro _ w3 ⟨rfl,bn⟩
 replace hN:=hN.ext bn
 clear bn
 refine RL.ag (aD rfl rfl rfl (bh (by omega) (by omega))) (RL.ag (aC acu bK (hN.sl 0 rfl)) ?_)
 have aO:=da (cs) (((q b4)+1).toNat)
 obtain⟨ac,jG⟩:=aO
 refine RL.ag (aF (m:=((q b4)+1).toNat) (a:=ac) acs (hN.sl 0 rfl) jG) ?_
 have ic:=DF sE (nW bX Lm) (by omega) (by omega) jG
 obtain⟨ub,sC,ic⟩:=ic
 refine RL.ag (aD rfl rfl rfl (bh (by omega) (by omega))) (RL.ag (aC acu bK (hN.sl 0 rfl)) ?_)
 refine RL.aK (cu (m:=((q b4)+1).toNat) (a:=(ac+1)) bK hN 0 rfl rfl (by omega) rfl rfl rfl rfl ?_)
 clear hN
 intro w5 (hN:aI w none_ w5 [_])
 refine RL.nil (aY (aw (RW.region (RL.ag (aD rfl rfl rfl (bh (by omega) (by omega))) (RL.ag (v:=.int .i64 ((i:Int)+1)) U (RL.ak ?_))))))
 exact⟨k-1,by omega,(cs).set ((q b4)+1).toNat ((ac+1)),i+1,rfl,rfl,rfl,rfl,rfl,rfl,rfl,hN,by omega,ic⟩
 refine RW.exit ?_
 iterate 2 refine bS ?_
 refine ba (aw ?_)
 iterate 2 refine RW.seq ?_
 refine RW.region (RL.ag (v:=vJ n) U (RL.ag (v:=.int .i64 (0)) U (RL.ak (RW.block ?_))))
 refine RW.loop (fun k1 R1 eW=>∃zd:List Int,∃v:Nat,R1 1=lv∧R1 2=.func (.func fi) #[] #[vP gm]∧R1 7=v1∧R1 33=vJ n∧R1 34=vJ v∧aI w none_ eW [.own vI 3 (v1) (zd)]∧(v+k1=n)∧(Cs n zd (f1 (gx ar q l) v))) (n) ?_ ?_
 exact⟨cs,0,rfl,rfl,rfl,rfl,rfl,hN,by omega,AR (by rw[Bl,←(show i=l.length by omega)];exact sE) OD⟩
 clear hN
 rintro k1 R1 eW ⟨zd,v,bP,bV,cF,rf,re,hN,Zw,AA⟩
 have cB:=iw bP bV cF rf re
 obtain⟨sk,rfl⟩:=cB
 clear bP bV cF rf re
 refine RW.aN (RL.ag (aL) (RL.ak (RW.seq ?_)))
 refine RW.aG _ (fun vT=>?_) (fun vT=>?_)
 refine RW.skip (aw (RW.seq (RW.block (RW.aN (RL.ag (v:=vJ v) U (RL.ag (v:=vJ v) ai (RL.ak ?_)))))))
 have OW:=AA.len
 have aO:=da zd (v+1)
 obtain⟨ax,S0⟩:=aO
 have aO:=da zd v
 obtain⟨ay,uC⟩:=aO
 have ic:=DE AA (by omega) S0 uC
 obtain⟨ub,sC,Zp,Zo,ic⟩:=ic
 replace hN:=hN.ext (Ext.drew eW)
 refine RW.bD (fun u=>aI w none_ u [.own vI 3 (v1) (zd)]) 11 [(0,0),(1,0),(2,0),(3,0),(4,0),(5,0),(6,0),(7,0),(8,0),(9,0),(10,0),(11,2)] (by intro _ _ _ h;exact h) hN (RQ.aA (v:=v1) rfl (fun w hS=>U) (RQ.aA (v:=vJ v) rfl (fun w hS=>U) (RQ.aA rfl (fun w hS=>(aD rfl rfl rfl ((bh (by omega) (by omega)).trans (by omega:(v:Int)+1=((v+1:Nat):Int))))) (RQ.aA rfl (fun w hS=>(aC acu bK (hS.sl 0 rfl))) (RQ.aA rfl (fun w hS=>(aF (m:=(v+1)) (a:=ax) acs (hS.sl 0 rfl) S0)) (RQ.aA (v:=v1) rfl (fun w hS=>U) (RQ.aA (v:=vJ v) rfl (fun w hS=>U) (RQ.aA rfl (fun w hS=>(aC acu bK (hS.sl 0 rfl))) (RQ.aA rfl (fun w hS=>(aF (m:=v) (a:=ay) acs (hS.sl 0 rfl) uC)) ?_)))))))))
 refine RQ.aA rfl (fun w hS=>(aD rfl rfl rfl (bh (by omega) (by omega)))) (RQ.aA rfl (fun w hS=>(aC acu bK (hS.sl 0 rfl))) ?_)
 refine RQ.last rfl rfl (cu (m:=(v+1)) (a:=(ax+ay)) bK hN 0 rfl rfl (by omega) rfl rfl rfl rfl ?_)
 clear hN
 intro w8 (hN:aI w none_ w8 [_])
 refine RZ.eJ (aY (aw (RW.region (RL.ag (aD rfl rfl rfl (bh (by omega) (by omega))) (RL.ag (v:=.int .i64 ((v:Int)+1)) U (RL.ak ?_))))))
 exact⟨k1-1,by omega,(zd).set (v+1) ((ax+ay)),v+1,rfl,rfl,rfl,rfl,rfl,hN,by omega,ic⟩
 refine RW.exit ?_
 iterate 2 refine bS ?_
 refine ba (aw (RW.aN (RL.ag (v:=lv) U (RL.ag (aQ acu (hl.o.now hN)) ?_))))
 refine RL.aK (ki (enc:=vI) (z:=0) acu gz rfl hN rfl (by omega) (by omega) (by omega) ?_)
 clear hN
 intro v9 w9 (hN:aI w none_ w9 [_,_])
 refine RL.ag (v:=v9) ai (RL.ak ?_)
 iterate 2 refine RW.seq ?_
 refine RW.region (RL.ag (v:=lv) U (RL.ag (aQ acu (hl.o.now hN)) (RL.ag (v:=.int .i64 (0)) U (RL.ak (RW.block ?_)))))
 refine RW.loop (fun k2 R2 ij=>∃Qy:List Int,∃os:List Int,∃j:Nat,R2 2=.func (.func fi) #[] #[vP gm]∧R2 7=v1∧R2 11=v9∧R2 52=lv∧R2 53=.int .i64 ((l.length:Int))∧R2 54=vJ j∧aI w none_ ij [.own vI 3 (v9) (os),.own vI 3 (v1) (Qy)]∧(j+k2=l.length)∧(Cs n Qy (f2 (gx ar q l) j))∧(Laid l (gx ar q l) os j)) (l.length) ?_ ?_
 have SO:Cs n zd (f1 (gx ar q l) n):=by
   have e_:v=n:=by omega
   rw[e_]at AA;exact AA
 exact⟨zd,acY l.length 0,0,rfl,rfl,rfl,rfl,rfl,rfl,hN,by omega,Jl SO,Laid.start⟩
 clear hN
 rintro k2 R2 ij ⟨Qy,os,j,bV,cF,eQ,Ml,Mk,Mj,hN,E1,SP,OA⟩
 have cB:=o9 bV cF eQ Ml Mk Mj
 obtain⟨PR,rfl⟩:=cB
 clear bV cF eQ Ml Mk Mj
 refine RW.aN (RL.ag (aL) (RL.ak (RW.seq ?_)))
 refine RW.aG _ (fun eD=>?_) (fun eD=>?_)
 refine RW.skip (aw (RW.seq (RW.block (RW.aN (RL.ag (aC acu bK (hl.o.now hN)) ?_)))))
 have aO:=da (l) j
 obtain⟨aq,iB⟩:=aO
 refine RL.ag (aF (m:=j) (a:=aq) acs (hl.o.now hN) iB) (RL.ag (v:=.int .i64 (aq)) ai (RL.ak (RW.seq ?_)))
 have OW:=SP.len
 refine RW.region (RL.ag (v:=v9) U (RL.ag (v:=v1) U (RL.ag (v:=.func (.func fi) #[] #[vP gm]) U (RL.ag (v:=.int .i64 (aq)) U ?_))))
 have Sw:0≤aq∧aq<(ar.length:Int):=hv aq (acy iB)
 have aO:=da ar ((aq).toNat)
 obtain⟨FZ,IW⟩:=aO
 have aO:=hK.r _ _ (fU FZ (acy IW))
 obtain⟨Xn,Xm⟩:=aO
 refine RL.aK (cG (first:=#[]) (captured:=#[vP gm]) (v0:=.int .i64 (aq)) (args:=#[.int .i64 (aq),vP gm]) Td Q3 Th (by simp) rfl rfl ((hK.c (aq) gm ((n:Int)) _ ar FZ _ (hb.ext hN.bc) (hm.o.now hN) Sw.1 IW).mono ?_))
 rintro _ lW ⟨rfl,bn⟩
 replace hN:=hN.ext bn
 clear bn
 refine RL.ag (aC acu bK (hN.sl 1 rfl)) ?_
 have aO:=da (Qy) (((q FZ)).toNat)
 obtain⟨ad,DC⟩:=aO
 refine RL.ag (aF (m:=((q FZ)).toNat) (a:=ad) acs (hN.sl 1 rfl) DC) ?_
 have ic:=LA SP (nW iB IW) (by omega) (by omega) DC
 obtain⟨ub,sC,Qd,ic⟩:=ic
 have E0:=OA.step Bl iB (nW iB IW) Qd
 have ZR:=OA.len
 refine RL.ag (v:=.int .i64 (aq)) U (RL.ag (aC acu bK (hN.sl 0 rfl)) ?_)
 refine RL.aK (cu (m:=(ad).toNat) (a:=aq) bK hN 0 rfl rfl (by omega) rfl rfl rfl rfl ?_)
 clear hN
 intro ll (hN:aI w none_ ll [_,_])
 refine RL.ak (RW.region (RL.ag (v:=v1) U (RL.ag (v:=.func (.func fi) #[] #[vP gm]) U (RL.ag (v:=.int .i64 (aq)) U ?_))))
 have Sv:0≤aq∧aq<(ar.length:Int):=hv aq (acy iB)
 have aO:=da ar ((aq).toNat)
 obtain⟨PL,O5⟩:=aO
 have aO:=hK.r _ _ (fU PL (acy O5))
 obtain⟨Xk,Xj⟩:=aO
 refine RL.aK (cG (first:=#[]) (captured:=#[vP gm]) (v0:=.int .i64 (aq)) (args:=#[.int .i64 (aq),vP gm]) Td Q3 Th (by simp) rfl rfl ((hK.c (aq) gm ((n:Int)) _ ar PL _ (hb.ext hN.bc) (hm.o.now hN) Sv.1 O5).mono ?_))
 rintro _ nR ⟨rfl,bn⟩
 replace hN:=hN.ext bn
 clear bn
 have IQ:PL=FZ:=ac2 (O5.symm.trans IW)
 subst IQ
 refine RL.ag (aC acu bK (hN.sl 1 rfl)) ?_
 have aO:=da (Qy) (((q PL)).toNat)
 obtain⟨ae,XU⟩:=aO
 refine RL.ag (aF (m:=((q PL)).toNat) (a:=ae) acs (hN.sl 1 rfl) XU) ?_
 have VG:ae=ad:=ac2 (XU.symm.trans DC)
 rw[←VG]at ic
 refine RL.ag (aD rfl rfl rfl (bh (by omega) (by omega))) (RL.ag (aC acu bK (hN.sl 1 rfl)) ?_)
 refine RL.aK (cu (m:=((q PL)).toNat) (a:=(ae+1)) bK hN 1 rfl rfl (by omega) rfl rfl rfl rfl ?_)
 clear hN
 intro qf (hN:aI w none_ qf [_,_])
 refine RL.nil (aY (aw (RW.region (RL.ag (aD rfl rfl rfl (bh (by omega) (by omega))) (RL.ag (v:=.int .i64 ((j:Int)+1)) U (RL.ak ?_))))))
 exact⟨k2-1,by omega,(Qy).set ((q PL)).toNat ((ae+1)),(os).set (ad).toNat (aq),j+1,rfl,rfl,rfl,rfl,rfl,rfl,hN,by omega,ic,E0⟩
 refine RW.exit ?_
 iterate 2 refine bS ?_
 refine ba (aw (RW.aN (RL.ag (v:=v9) U (RL.ag (v:=v9) ai (RL.ak (RW.ret (bb (RV.tmp rfl) ?_)))))))
 have OG:j=l.length:=by omega
 subst OG
 exact⟨os,hN.fL 0 rfl,OA,hN.bc⟩
end Go.Proofs.YtngkdkbpgoddlaaGreat
namespace Go.Proofs.YtngkdkbpgoddlaaGreat
open Go.RowKit Go.Rl
open Go.Gr
theorem z8 (i:Int) (a:I3) (w:World):aM acx 148 #[.int .i64 i,.agg #[.int .i64 a.1,.int .i64 a.2.1,.int .i64 a.2.2]] w fun r w'=>r=.bool (decide (¬a.1=a.2.1))∧Ext w w':=by
 refine aM.aZ ajE ?_
 rw[cT]
 have hN:=aI.nil w none_
 refine RW.aN ?_
 refine RL.aK (bL (cs:=[.int .i64 (a.1),.int .i64 (a.2.1),.int .i64 (a.2.2)]) rfl rfl hN ?_)
 clear hN
 intro g1 w1 (hN:aI w none_ w1 [_])
 refine RL.ag (v:=.bool false) ai (RL.b6 (RL.ag (ah acP rfl bK) (RL.ag (aj acs (hN.aJ 0 rfl)) (RL.ag (ah acP rfl bK) (RL.ag (aj acs (hN.aJ 0 rfl)) (RL.ag (bj) ?_))))))
 refine RL.ag (v:=.bool (decide (¬a.1=a.2.1))) ai (RL.ak (RW.ret (bb (RV.tmp rfl) ?_)))
 exact⟨rfl,hN.bc⟩
theorem Cf (i:Int) (b:Bool) (w:World):aM acx 192 #[.int .i64 i,.bool (decide (b=true))] w fun r w'=>r=.bool (decide (b=true))∧Ext w w':=by
 refine aM.aZ ajF ?_
 rw[cT]
 have hN:=aI.nil w none_
 refine RW.aN (RL.ag (v:=.bool false) ai (RL.b6 (RL.ag (v:=.bool (decide (b=true))) U (RL.ag (v:=.bool (decide (b=true))) ai (RL.nil ?_)))))
 refine aw (RW.ret (bb (RV.tmp rfl) ?_))
 exact⟨rfl,hN.bc⟩
theorem yc (v:Value) (ar:List I3) (w:World) (hv:Sm bJ w v ar):aM acx 147 #[v,.func (.func 148) #[] #[]] w fun r w'=>∃gp gq,r=.func (.func 190) #[] #[vP gp,vP gq]∧aI w none_ w' [.aJ gp [v] 22,.aJ gq [.func (.func 148) #[] #[]] 215]:=by
 refine aM.aZ ajG ?_
 rw[cT]
 have hN:=aI.nil w none_
 refine RW.aN ?_
 refine RL.aK (bL (cs:=[v]) rfl (hv.o.now hN).cN hN ?_)
 clear hN
 intro g1 w1 (hN:aI w none_ w1 [_])
 refine RL.aK (bL (cs:=[.func (.func 148) #[] #[]]) rfl rfl hN ?_)
 clear hN
 intro g2 w2 (hN:aI w none_ w2 [_,_])
 refine RL.ag ai (RL.b6 (RL.ag (dP (vs:=[vP g1,vP g2]) (xs:=[.tmp 2,.tmp 3]) rfl rfl) (RL.ag (v:=.func (.func 190) #[] #[vP g1,vP g2]) ai (RL.ak (RW.ret ?_)))))
 refine bb (RV.tmp rfl) ?_
 exact⟨_,_,rfl,hN.sb [1,0]⟩
theorem vK (ar:List I3) {σ:Type} (l:Nat) (C:Bool→σ→Atom) (T:σ→Int→Bool→σ→Prop) (s0:σ) {F:Nat→Prop} (w:World) (hT:∀s x b s',T s x b s'→b=true) (hY:ow acx l C T id s0 (fo (nz ar) 0 ar.length) TZ LD) (gp gq:Nat) (v:Value) (hN:aI w F w [C true s0,.aJ gp [v] 22,.aJ gq [.func (.func 148) #[] #[]] 215]) (hv:mG F bJ w v ar) (ir:ar.length≤67108864):aM acx 190 #[.func (.yield l) #[] #[],vP gp,vP gq] w fun _ w'=>∃s',u6 T id s0 (fo (nz ar) 0 ar.length) s'∧aI w F w' [C true s']:=by
 refine aM.kY ajH rfl (acv rfl) ?_
 rw[iX]
 refine XW.seq (XW.bI (RL.ag (aj acM (hN.aJ 1 rfl)) ?_))
 have nG:=(hv.now hN).bw
 refine RL.ag (bO acM (hv.now hN)) (RL.ag (v:=.int .i64 (0)) U (RL.nil (cl (bR (XW.block ?_)))))
 refine XW.loop (fun k R0 cz=>∃si:σ,∃i:Nat,R0 0=.func (.yield l) #[] #[]∧R0 2=vP gq∧R0 6=v∧R0 7=.int .i64 ((ar.length:Int))∧R0 8=vJ i∧aI w F cz [C true si,.aJ gp [v] 22,.aJ gq [.func (.func 148) #[] #[]] 215]∧(i+k=ar.length)∧(fe T id s0 (fo (nz ar) 0 ar.length) si (fo (nz ar) i k))) (ar.length) ?_ ?_
 exact⟨s0,0,rfl,rfl,rfl,rfl,rfl,hN,by omega,fe.start⟩
 clear hN
 rintro k R0 cz ⟨si,i,cH,bV,cW,cF,cR,hN,gk,hg⟩
 have cB:=iw cH bV cW cF cR
 obtain⟨gF,rfl⟩:=cB
 clear cH bV cW cF cR
 refine XW.seq (XW.bI (RL.ag (aL) (RL.nil (cl (bR (XW.seq ?_))))))
 refine XW.lQ _ rfl (fun cD=>?_) (fun cD=>?_)
 refine XW.skip (bR (XW.seq (XW.block (XW.seq (XW.bI (RL.ag (v:=vJ i) U (RL.ag (aU acM dr bf (hv.now hN)) ?_)))))))
 have aO:=da (ar) i
 obtain⟨ap,bX⟩:=aO
 refine RL.ag (b8 (m:=i) (a:=ap) acP dr bf (hv.now hN) bX (cs:=[.int .i64 (ap.1),.int .i64 (ap.2.1),.int .i64 (ap.2.2)])) ?_
 refine RL.aK (bz (cs:=[.int .i64 (0),.int .i64 (0),.int .i64 (0)]) fS rfl hN ?_)
 clear hN
 intro g2 w2 (hN:aI w F w2 [_,_,_,_])
 refine RL.ag (v:=vJ i) ai ?_
 refine RL.aK (aR (vs:=[.int .i64 (ap.1),.int .i64 (ap.2.1),.int .i64 (ap.2.2)]) dr rfl rfl rfl (aW (aW (aW cZ))) hN 0 rfl rfl ?_)
 clear hN
 intro w3 (hN:aI w F w3 [_,_,_,_])
 refine RL.nil (cl (bR (XW.seq (XW.sz (XL.eU (aj Tryz.underlying215 (hN.aJ 3 rfl)) (XL.eU (v:=vJ i) U (XL.eU (aE (cs:=[.int .i64 (ap.1),.int .i64 (ap.2.1),.int .i64 (ap.2.2)]) acP dr (hN.aJ 0 rfl)) ?_)))))))
 refine XL.op rfl rfl (lU.of rfl (wR (first:=#[]) (captured:=#[]) (v0:=vJ i) (v1:=.agg #[.int .i64 (ap.1),.int .i64 (ap.2.1),.int .i64 (ap.2.2)]) (args:=#[vJ i,.agg #[.int .i64 (ap.1),.int .i64 (ap.2.1),.int .i64 (ap.2.2)]]) ajE rfl rfl (by simp) rfl rfl rfl ((z8 ((i:Int)) ap _).mono ?_)))
 rintro _ w4 ⟨rfl,bn⟩
 replace hN:=hN.ext bn
 clear bn
 refine XL.eU (v:=.bool (decide (¬ap.1=ap.2.1))) U ?_
 by_cases hq:¬ap.1=ap.2.1
 rw[decide_eq_true hq]
 refine XL.dF (v:=.func (.yield l) #[] #[]) U (XL.dF (v:=vJ i) U ?_)
 replace hg:=hg.as (wL (by omega) (K1 bX hq))
 refine XL.jw (dk rfl rfl ((fe.yield hT hY (i:Int) hg (hN.di (M:=[_]) [1] (by decide) rfl) trivial).mono ?_))
 rintro _ w5 ⟨s5,rfl,gS,cE⟩
 replace hg:=gS
 clear gS
 replace hN:aI w F w5 [_,_,_,_]:=aI.dh (M:=[_]) (N:=[_,_,_]) (hN.sb [1,0,2,3]) cE
 clear cE
 refine XL.dF (jY rfl) (XL.eU (v:=.bool false) (al) (XL.nil (bR (XW.oq rfl (XW.skip (ff (bR (XW.bI (RL.ag (aD rfl rfl rfl (bh (by omega) (by omega))) ?_)))))))))
 refine RL.ag (v:=.int .i64 ((i:Int)+1)) U (RL.nil (cl (bR ?_)))
 exact⟨rfl,k-1,by omega,s5,i+1,rfl,rfl,rfl,rfl,rfl,(hN.sb [0,2,3]),by omega,hg⟩
 rw[decide_eq_false hq]
 iterate 4 refine XL.off rfl rfl (by decide) rfl rfl ?_
 refine XL.eU (v:=.bool false) (aB) (XL.nil (bR (XW.oq rfl (XW.skip (ff (bR (XW.bI (RL.ag (aD rfl rfl rfl (bh (by omega) (by omega))) (RL.ag (v:=.int .i64 ((i:Int)+1)) U ?_)))))))))
 refine RL.nil (cl (bR ?_))
 replace hg:=hg.as (wM (by omega) (K2 bX hq))
 exact⟨rfl,k-1,by omega,si,i+1,rfl,rfl,rfl,rfl,rfl,(hN.sb [1,2,3]),by omega,hg⟩
 refine XW.exit ?_
 iterate 2 refine ng ?_
 refine iK (wq (RV.zero rfl) ?_)
 have Ve:k=0:=by omega
 subst Ve
 exact⟨_,hg.done,hN.sb [0]⟩
theorem zY (ar:List I3) (gp gq:Nat) (v:Value) (ir:ar.length≤67108864):uZ acx 190 #[vP gp,vP gq] [.aJ gp [v] 22,.aJ gq [.func (.func 148) #[] #[]] 215] (fun F w=>mG F bJ w v ar) id LD TZ (fo (nz ar) 0 ar.length):=by
  intro σ l C T s0 w0 w F hT hY DA hN
  have h1:=hN.di (M:=[_,_,_]) [0,1,2] (by decide) rfl
  refine(vK ar l C T s0 w hT hY gp gq v h1 (mG.step oM DA hN) ir).mono ?_
  rintro _ w' ⟨s',hr,h2⟩
  exact⟨s',hr,aI.dh (M:=[_,_,_]) (N:=[]) hN h2⟩
theorem vH (v:Value) (ar:List Bool) (w:World) (hv:Sl vB w v ar):aM acx 191 #[v,.func (.func 192) #[] #[]] w fun r w'=>∃gp gq,r=.func (.func 209) #[] #[vP gp,vP gq]∧aI w none_ w' [.aJ gp [v] 206,.aJ gq [.func (.func 192) #[] #[]] 256]:=by
 refine aM.aZ ajI ?_
 rw[cT]
 have hN:=aI.nil w none_
 refine RW.aN ?_
 refine RL.aK (bL (cs:=[v]) rfl (hv.o.now hN).cN hN ?_)
 clear hN
 intro g1 w1 (hN:aI w none_ w1 [_])
 refine RL.aK (bL (cs:=[.func (.func 192) #[] #[]]) rfl rfl hN ?_)
 clear hN
 intro g2 w2 (hN:aI w none_ w2 [_,_])
 refine RL.ag ai (RL.b6 (RL.ag (dP (vs:=[vP g1,vP g2]) (xs:=[.tmp 2,.tmp 3]) rfl rfl) (RL.ag (v:=.func (.func 209) #[] #[vP g1,vP g2]) ai (RL.ak (RW.ret ?_)))))
 refine bb (RV.tmp rfl) ?_
 exact⟨_,_,rfl,hN.sb [1,0]⟩
theorem tL (ar:List Bool) {σ:Type} (l:Nat) (C:Bool→σ→Atom) (T:σ→Int→Bool→σ→Prop) (s0:σ) {F:Nat→Prop} (w:World) (hT:∀s x b s',T s x b s'→b=true) (hY:ow acx l C T id s0 (fo (n6 ar) 0 ar.length) TZ LD) (gp gq:Nat) (v:Value) (hN:aI w F w [C true s0,.aJ gp [v] 206,.aJ gq [.func (.func 192) #[] #[]] 256]) (hv:nO F vB w v ar) (ir:ar.length≤67108864):aM acx 209 #[.func (.yield l) #[] #[],vP gp,vP gq] w fun _ w'=>∃s',u6 T id s0 (fo (n6 ar) 0 ar.length) s'∧aI w F w' [C true s']:=by
 refine aM.kY ajJ rfl (acv rfl) ?_
 rw[iX]
 refine XW.seq (XW.bI (RL.ag (aj adN (hN.aJ 1 rfl)) ?_))
 have nG:=(hv.now hN).bw
 refine RL.ag (aQ adN (hv.now hN)) (RL.ag (v:=.int .i64 (0)) U (RL.nil (cl (bR (XW.block ?_)))))
 refine XW.loop (fun k R0 cz=>∃si:σ,∃i:Nat,R0 0=.func (.yield l) #[] #[]∧R0 2=vP gq∧R0 6=v∧R0 7=.int .i64 ((ar.length:Int))∧R0 8=vJ i∧aI w F cz [C true si,.aJ gp [v] 206,.aJ gq [.func (.func 192) #[] #[]] 256]∧(i+k=ar.length)∧(fe T id s0 (fo (n6 ar) 0 ar.length) si (fo (n6 ar) i k))) (ar.length) ?_ ?_
 exact⟨s0,0,rfl,rfl,rfl,rfl,rfl,hN,by omega,fe.start⟩
 clear hN
 rintro k R0 cz ⟨si,i,cH,bV,cW,cF,cR,hN,gk,hg⟩
 have cB:=iw cH bV cW cF cR
 obtain⟨gF,rfl⟩:=cB
 clear cH bV cW cF cR
 refine XW.seq (XW.bI (RL.ag (aL) (RL.nil (cl (bR (XW.seq ?_))))))
 refine XW.lQ _ rfl (fun cD=>?_) (fun cD=>?_)
 refine XW.skip (bR (XW.seq (XW.block (XW.seq (XW.bI (RL.ag (v:=vJ i) U (RL.ag (aC adN oE (hv.now hN)) ?_)))))))
 have aO:=da (ar) i
 obtain⟨ap,bX⟩:=aO
 refine RL.ag (aF (m:=i) (a:=ap) aek (hv.now hN) bX) (RL.ag (v:=vJ i) ai (RL.ag (v:=.bool (decide (ap=true))) ai (RL.nil (cl (bR (XW.seq (XW.sz (XL.eU (aj Tryz.underlying256 (hN.aJ 2 rfl)) (XL.eU (v:=vJ i) U ?_)))))))))
 refine XL.eU (v:=.bool (decide (ap=true))) U ?_
 refine XL.op rfl rfl (lU.of rfl (wR (first:=#[]) (captured:=#[]) (v0:=vJ i) (v1:=.bool (decide (ap=true))) (args:=#[vJ i,.bool (decide (ap=true))]) ajF rfl rfl (by simp) rfl rfl rfl ((Cf ((i:Int)) ap _).mono ?_)))
 rintro _ w2 ⟨rfl,bn⟩
 replace hN:=hN.ext bn
 clear bn
 refine XL.eU (v:=.bool (decide (ap=true))) U ?_
 by_cases hq:ap=true
 rw[decide_eq_true hq]
 refine XL.dF (v:=.func (.yield l) #[] #[]) U (XL.dF (v:=vJ i) U ?_)
 replace hg:=hg.as (wL (by omega) (N5 bX hq))
 refine XL.jw (dk rfl rfl ((fe.yield hT hY (i:Int) hg (hN.di (M:=[_]) [0] (by decide) rfl) trivial).mono ?_))
 rintro _ w3 ⟨s3,rfl,gS,cE⟩
 replace hg:=gS
 clear gS
 replace hN:aI w F w3 [_,_,_]:=aI.dh (M:=[_]) (N:=[_,_]) (hN.sb [0,1,2]) cE
 clear cE
 refine XL.dF (jY rfl) (XL.eU (v:=.bool false) (al) (XL.nil (bR (XW.oq rfl (XW.skip (ff (bR (XW.bI (RL.ag (aD rfl rfl rfl (bh (by omega) (by omega))) ?_)))))))))
 refine RL.ag (v:=.int .i64 ((i:Int)+1)) U (RL.nil (cl (bR ?_)))
 exact⟨rfl,k-1,by omega,s3,i+1,rfl,rfl,rfl,rfl,rfl,hN,by omega,hg⟩
 rw[decide_eq_false hq]
 iterate 4 refine XL.off rfl rfl (by decide) rfl rfl ?_
 refine XL.eU (v:=.bool false) (aB) (XL.nil (bR (XW.oq rfl (XW.skip (ff (bR (XW.bI (RL.ag (aD rfl rfl rfl (bh (by omega) (by omega))) (RL.ag (v:=.int .i64 ((i:Int)+1)) U ?_)))))))))
 refine RL.nil (cl (bR ?_))
 replace hg:=hg.as (wM (by omega) (N6 bX hq))
 exact⟨rfl,k-1,by omega,si,i+1,rfl,rfl,rfl,rfl,rfl,hN,by omega,hg⟩
 refine XW.exit ?_
 iterate 2 refine ng ?_
 refine iK (wq (RV.zero rfl) ?_)
 have Ve:k=0:=by omega
 subst Ve
 exact⟨_,hg.done,hN.sb [0]⟩
theorem yb (ar:List Bool) (gp gq:Nat) (v:Value) (ir:ar.length≤67108864):uZ acx 209 #[vP gp,vP gq] [.aJ gp [v] 206,.aJ gq [.func (.func 192) #[] #[]] 256] (fun F w=>nO F vB w v ar) id LD TZ (fo (n6 ar) 0 ar.length):=by
  intro σ l C T s0 w0 w F hT hY DA hN
  have h1:=hN.di (M:=[_,_,_]) [0,1,2] (by decide) rfl
  refine(tL ar l C T s0 w hT hY gp gq v h1 (DA.step hN) ir).mono ?_
  rintro _ w' ⟨s',hr,h2⟩
  exact⟨s',hr,aI.dh (M:=[_,_,_]) (N:=[]) hN h2⟩
end Go.Proofs.YtngkdkbpgoddlaaGreat
namespace Go.Proofs.YtngkdkbpgoddlaaGreat
open Go.RowKit Go.Rl
open Go.Gr
theorem z6 (g:Nat) (c0 c1 c2 c3 c4 c5 kv:Value) (bs:List Bool) (w:World) (hb:iu w g [c0,c1,c2,c3,c4,c5,kv] 211) (hk:Sl vB w kv bs) (hl:bs.length≤67108864):aM acx 151 #[vP g] w fun r w'=>eG vI 3 w' w.heap.size r (fo (n6 bs) 0 bs.length)∧Ext w w':=by
 refine aM.kY ajK rfl (acv rfl) ?_
 rw[cM]
 have hN:=aI.nil w none_
 refine XW.seq (XW.bI (RL.ag (v:=vN) ai (RL.nil (cl (bR (XW.seq (XW.bI ?_)))))))
 refine RL.aK (bz (cs:=[vN]) F3 rfl hN ?_)
 clear hN
 intro g1 w1 (hN:aI w none_ w1 [_])
 refine RL.nil (cl (bR ?_))
 iterate 2 refine XW.seq ?_
 refine XW.bI (RL.ag (v:=vP g) U (RL.ag (cI (jQ agH rfl rfl) (by simp)) (RL.nil (cl (bR (XW.oq rfl (XW.skip (bR ?_))))))))
 iterate 2 refine XW.seq ?_
 replace hN:=hN.dD vI 3
 replace hN:aI w none_ w1 [.own vI 3 (vN) ([]),.aJ g1 [vN] 25]:=hN
 refine XW.bI (RL.ag (v:=vP g) U (RL.ag (bM) (RL.ag (ah adY rfl wC) (RL.ag (aj adN (hb.ext hN.bc)) ?_))))
 refine RL.aK (bu ajI rfl rfl rfl rfl ((vH _ bs _ (hk.o.now hN)).mono ?_))
 rintro _ w2 ⟨Yt,Ys,rfl,cE⟩
 replace hN:aI w none_ w2 [_,_,_,_]:=hN.fV cE
 clear cE
 refine RL.nil (cl (bR (XW.block ?_)))
 refine XW.BO (gf:=209) (lb:=#[vP Yt,vP Ys]) (M:=[_,_]) (fun s:Value×List Int=>[.aJ g1 [s.1] 25,.own vI 3 s.1 s.2]) (Bi Int) (vN,[]) (hN.sb [3,2,0,1]) rfl ajJ rfl rfl (yb bs Yt Ys _ (by omega)) Bi.on hk.o (fun _=>rfl) (by decide) ?_ ?_
 clear hN
 rintro l_ D_ L5 FF ⟨v_,a_⟩ x_ Q0 L6 wr fG K6 Qk hN
 change XW _ _ _ _ _ _ (dw _ 12 (.int .i64 (x_))) _
 replace hN:aI wr FF wr [.obj l_ (.loop (L5 .ready none)),.obj D_ (.deferred (some [])),.aJ g1 [v_] 25,.own vI 3 (v_) (a_)]:=hN
 have O9:a_.length<((fo (n6 bs) 0 bs.length)).length:=DO fG rfl K6
 have Uv:=nT (n6 bs) bs.length 0
 refine XW.bI (RL.ag (v:=.int .i64 (x_)) ai (RL.nil (cl (uV ?_))))
 clear hN
 intro w3 (hN:aI wr FF w3 [.obj l_ (.loop (L5 .busy none)),.obj D_ (.deferred (some [])),.aJ g1 [v_] 25,.own vI 3 (v_) (a_)])
 refine XW.block (XW.bI (RL.ag (aj acu (hN.aJ 2 rfl)) (RL.ag (v:=.int .i64 (x_)) U ?_)))
 refine RL.aK (cw (enc:=vI) (l:=[x_]) (xs:=[.tmp 14]) acu bK mU rfl rfl (fun _=>rfl) rfl (by decide) (by decide) hN ?_)
 clear hN
 intro g4 w4 (hN:aI wr FF w4 [_,_,_,_,_])
 refine RL.aK (b9 acu gz rfl (fun _=>rfl) hN 4 rfl rfl (hN.sl 0 rfl) rfl (by(try simp only[acw,ac5,adq,acN,acF,acC,ac7,acw,ac4]);omega) (by decide) ?_)
 clear hN
 intro v5 w5 (hN:aI wr FF w5 [_,_,_,_,_])
 refine RL.aK (ca cj rfl rfl (hN.sl 4 rfl).cN (hN.sl 4 rfl).bW hN 3 rfl (acv rfl) ?_)
 clear hN
 intro w6 (hN:aI wr FF w6 [_,_,_,_,_])
 refine RL.nil (cl (ff ?_))
 exact xM ⟨v5,a_++[x_]⟩ ⟨rfl,rfl⟩ (hN.sb [1,2,3,4])
 clear hN
 rintro l_ D_ o_ ⟨v_,a_⟩ w7 fG hN
 replace hN:aI w none_ w7 [.obj l_ o_,.obj D_ (.deferred (some [])),.aJ g1 [v_] 25,.own vI 3 (v_) (a_)]:=hN
 have Qs:a_=(fo (n6 bs) 0 bs.length):=yV fG
 refine ff (bR (XW.seq (XW.bI (RL.ag (aj acu (hN.aJ 2 rfl)) (RL.ag (v:=v_) ai (RL.nil (cl (bR (XW.ret ?_)))))))))
 refine F4 hN (.inl rfl) 1 rfl ?_
 clear hN
 intro w8 (hN:aI w none_ w8 [_,_,_,_])
 refine⟨_,RV.tmp rfl,?_⟩
 exact⟨(hN.fL 3 rfl).l0 Qs,hN.bc⟩
theorem yS (n k q:Int) (mv:Value) (ar:List I3) (a b:I3) (w:World) (hm:Sm bJ w mv ar) (h0:0≤k) (ha:ar[k.toNat]?=some a) (h1:0≤q) (hb:ar[q.toNat]?=some b):aM acx 150 #[.agg #[.int .i64 n,mv],.int .i64 k,.int .i64 q] w fun r w'=>r=.bool (decide (a.2.2<b.2.2))∧Ext w w':=by
 refine aM.aZ ajL ?_
 rw[iX]
 have hN:=aI.nil w none_
 have cD:=(acA.1 ha).1
 have eD:=(acA.1 hb).1
 refine RW.aN ?_
 refine RL.aK (bL (cs:=[.int .i64 (n),mv]) rfl rfl hN ?_)
 clear hN
 intro g1 w1 (hN:aI w none_ w1 [_])
 refine RL.ag (v:=.bool false) ai (RL.ak (RW.seq ?_))
 replace hN:=hN.ext (Ext.drew w1)
 refine RW.bD (fun u=>aI w none_ u [.aJ g1 [.int .i64 (n),mv] 24]) 14 [(0,0),(1,0),(2,0),(3,0),(4,0),(5,0),(6,0),(7,0),(8,0),(9,0),(10,0),(11,0),(12,0),(13,0)] (by intro _ _ _ h;exact h) hN (RQ.aA rfl (fun w hS=>(ah acI rfl fz)) (RQ.aA rfl (fun w hS=>(aj acM (hS.aJ 0 rfl))) (RQ.aA (v:=.int .i64 (k)) rfl (fun w hS=>U) (RQ.aA rfl (fun w hS=>(aU acM dr bf (hm.o.now hS))) (RQ.aA rfl (fun w hS=>(bl (m:=(k).toNat) (b:=0) acP rfl bK bf (hm.o.now hS) ha)) (RQ.aA rfl (fun w hS=>(bB (m:=(k).toNat) (j:=2) (a:=a) acs bf (hm.o.now hS) ha)) (RQ.aA rfl (fun w hS=>(ah acI rfl fz)) (RQ.aA rfl (fun w hS=>(aj acM (hS.aJ 0 rfl))) (RQ.aA (v:=.int .i64 (q)) rfl (fun w hS=>U) ?_)))))))))
 refine RQ.aA rfl (fun w hS=>(aU acM dr bf (hm.o.now hS))) (RQ.aA rfl (fun w hS=>(bl (m:=(q).toNat) (b:=0) acP rfl bK bf (hm.o.now hS) hb)) (RQ.aA rfl (fun w hS=>(bB (m:=(q).toNat) (j:=2) (a:=b) acs bf (hm.o.now hS) hb)) (RQ.aA rfl (fun w hS=>(aL)) (RQ.aA (v:=.bool (decide (a.2.2<b.2.2))) rfl (fun w hS=>ai) (RQ.bq (aw (RW.ret (bb (RV.tmp rfl) ?_))))))))
 exact⟨rfl,hN.bc⟩
theorem xc (fi:FuncId) (q:I3→Int) (hK:JG fi q) (fj:FuncId) (p:I3→Int) (hJ:JG fj p) (n:Nat) (lv:Value) (l:List Int) (gm:Nat) (mv:Value) (ar:List I3) (w:World) (hl:Sl vI w lv l) (hb:iu w gm [.int .i64 (n:Int),mv] 24) (hm:Sm bJ w mv ar) (fU:∀a∈ar,FQ n a) (hv:∀k∈l,0≤k∧k<(ar.length:Int)) (hn:n≤16777216) (Ds:l.length≤67108864):aM acx 152 #[.agg #[.int .i64 (n:Int),mv],lv,.func (.func fi) #[] #[vP gm],.func (.func fj) #[] #[vP gm]] w fun r w'=>∃bv ev bs es os Tz,r=.agg #[bv,ev]∧aI w none_ w' [.own vI 3 bv bs,.cp bJ 3 246 ev es]∧Cs n bs (f1 (gx ar q os) n)∧es=os.map (yJ ar p)∧Laid Tz (gx ar q Tz) os Tz.length∧Laid l (gx ar p l) Tz l.length:=by
 refine aM.aZ aih ?_
 rw[kX]
 have hN:=aI.nil w none_
 have aO:=hK.f
 obtain⟨Wr,Td,Q3,Th⟩:=aO
 have aO:=hJ.f
 obtain⟨aa8,fhJ,Y2,bhJ⟩:=aO
 refine RW.aN ?_
 refine RL.aK (bL (cs:=[vJ n,mv]) rfl rfl hN ?_)
 clear hN
 intro g1 w1 (hN:aI w none_ w1 [_])
 refine RL.aK (bz (cs:=[vN,vN]) xD rfl hN ?_)
 clear hN
 intro g2 w2 (hN:aI w none_ w2 [_,_])
 refine RL.b6 (RL.ag (ah acI rfl bK) (RL.ag (aj acs (hN.aJ 1 rfl)) (RL.ag (aD rfl rfl rfl ((bh (by omega) (by omega)).trans (by omega:(n:Int)+1=((n+1:Nat):Int)))) ?_)))
 refine RL.aK (ki (enc:=vI) (z:=0) acu gz rfl hN rfl (by omega) (by omega) (by omega) ?_)
 clear hN
 intro v3 w3 (hN:aI w none_ w3 [_,_,_])
 refine RL.ag (bT (cs:=[v3,vN]) aex xD (places:=#[(0,1),(1,1)]) (by intro w;kernel_rfl) (pl:=[(0,.tmp 16)]) rfl (ps:=[(0,v3)]) rfl (zc:=[vN,vN]) rfl (aP (vs:=[v3]) (hN.sl 0 rfl).cN rfl (acv rfl) rfl)) ?_
 refine RL.aK (bz (cs:=[vN,vN]) xD rfl hN ?_)
 clear hN
 intro g4 w4 (hN:aI w none_ w4 [_,_,_,_])
 refine RL.aK (aR (vs:=[v3,vN]) qR rfl rfl rfl (by intro u hu;simp only[ac1,acV,or_false]at hu;rcases hu with rfl|rfl<;>first|rfl|exact(hN.sl 1 rfl).bW) hN 0 rfl rfl ?_)
 clear hN
 intro w5 (hN:aI w none_ w5 [_,_,_,_])
 refine RL.ak ?_
 iterate 2 refine RW.seq ?_
 replace hN:=hN.ext (Ext.drew w5)
 refine RW.bD (fun u=>aI w none_ u [.aJ g4 [v3,vN] 209,.own vI 3 (v3) (acY (n+1) 0),.aJ g2 [vN,vN] 209,.aJ g1 [vJ n,mv] 24]) 11 [(0,0),(1,0),(2,0),(3,0),(4,0),(5,0),(7,0),(10,0),(6,1),(8,1),(9,1)] (by intro _ _ _ h;exact h) hN (RQ.aA rfl (fun w hS=>(ah acI rfl bK)) (RQ.aA rfl (fun w hS=>(aj acs (hS.aJ 3 rfl))) (RQ.aA rfl (fun w hS=>(ah acI rfl bK)) (RQ.aA rfl (fun w hS=>(aj acs (hS.aJ 3 rfl))) (RQ.aA (v:=lv) rfl (fun w hS=>U) (RQ.aA (v:=.func (.func fj) #[] #[vP gm]) rfl (fun w hS=>U) (RQ.aA (v:=.func (.func fi) #[] #[vP gm]) rfl (fun w hS=>U) (RQ.aA (v:=.int .i64 (0)) rfl (fun w hS=>U) ?_))))))))
 refine RQ.b0 rfl (cq agn rfl rfl rfl rfl rfl ((j3 fj p hJ n _ l gm _ ar _ (hl.o.now hN) (hb.ext hN.bc) (hm.o.now hN) fU hv (by omega) (by omega)).mono ?_))
 rintro v6 w6 ⟨L8,cL,Si,bn⟩
 replace hN:aI w none_ w6 [_,_,_,_,_]:=hN.cc cL bn
 clear cL bn
 have RK:=Si.perm (jz _ _ _)
 have Z8:=RK.length_eq
 have Ro:∀x∈L8,0≤x∧x<(ar.length:Int):=fun x hx=>hv x (RK.mem_iff.1 hx)
 refine⟨(hN.sb [1,2,3,4]),?_⟩
 refine RQ.b0 rfl (cq agn rfl rfl rfl rfl rfl ((j3 fi q hK n _ L8 gm _ ar _ (hN.sl 0 rfl) (hb.ext hN.bc) (hm.o.now hN) fU Ro (by omega) (by omega)).mono ?_))
 rintro v7 w7 ⟨wQ,cL,Sg,bn⟩
 replace hN:aI w none_ w7 [_,_,_,_,_,_]:=hN.cc cL bn
 clear cL bn
 have RJ:=Sg.perm (jz _ _ _)
 have Z7:=RJ.length_eq
 have Rn:∀x∈wQ,0≤x∧x<(ar.length:Int):=fun x hx=>Ro x (RJ.mem_iff.1 hx)
 refine⟨(hN.sb [2,3,4,5]),?_⟩
 have Pj:=(hN.sl 0 rfl).bw
 refine RQ.b0 rfl (eL.ev (aQ acu (hN.sl 0 rfl)) ⟨(hN.sb [2,3,4,5]),?_⟩)
 replace hN:=hN.eK bJ 3 246
 replace hN:aI w none_ w7 [.cp bJ 3 246 (vN) ([]),.own vI 3 (v7) (wQ),.own vI 3 (v6) (L8),.aJ g4 [v3,vN] 209,.own vI 3 (v3) (acY (n+1) 0),.aJ g2 [vN,vN] 209,.aJ g1 [vJ n,mv] 24]:=hN
 have Bl:=jz ar q wQ
 have OD:∀x∈(gx ar q wQ),0≤x:=xd Rn fun a ha=>(hK.r _ _ (fU a ha)).1
 refine RQ.bq (aw (RW.block ?_))
 refine RW.loop (fun k R0 cz=>∃cs:List Int,∃ve:Value,∃es:List I3,∃i:Nat,R0 2=.func (.func fi) #[] #[vP gm]∧R0 3=.func (.func fj) #[] #[vP gm]∧R0 4=vP g1∧R0 8=vP g2∧R0 9=vP g4∧R0 26=v7∧R0 27=.int .i64 ((wQ.length:Int))∧R0 28=vJ i∧aI w none_ cz [.cp bJ 3 246 (ve) (es),.own vI 3 (v7) (wQ),.own vI 3 (v6) (L8),.aJ g4 [v3,ve] 209,.own vI 3 (v3) (cs),.aJ g2 [vN,vN] 209,.aJ g1 [vJ n,mv] 24]∧(i+k=wQ.length)∧(Cs n cs (f0 (gx ar q wQ) i))∧(es=(wQ.take i).map (yJ ar p))∧(es.length=i)) (wQ.length) ?_ ?_
 exact⟨acY (n+1) 0,vN,[],0,rfl,rfl,rfl,rfl,rfl,rfl,rfl,rfl,hN,by omega,AS,rfl,rfl⟩
 clear hN
 rintro k R0 cz ⟨cs,ve,es,i,bV,cd,cA,cR,eg,iU,Mr,Mq,hN,gk,sE,VD,jt⟩
 have cB:=sR bV cd cA cR eg iU Mr Mq
 obtain⟨gF,rfl⟩:=cB
 clear bV cd cA cR eg iU Mr Mq
 refine RW.aN (RL.ag (aL) (RL.ak (RW.seq ?_)))
 refine RW.aG _ (fun cD=>?_) (fun cD=>?_)
 refine RW.skip (aw (RW.seq (RW.block (RW.aN (RL.ag (aC acu bK (hN.sl 1 rfl)) ?_)))))
 have aO:=da (wQ) i
 obtain⟨ap,bX⟩:=aO
 refine RL.ag (aF (m:=i) (a:=ap) acs (hN.sl 1 rfl) bX) (RL.ag (v:=.int .i64 (ap)) ai ?_)
 have aO:=Rn ap (acy bX)
 obtain⟨Vc,Vb⟩:=aO
 have aO:=da ar ((ap).toNat)
 obtain⟨br,TO⟩:=aO
 refine RL.ak (RW.seq ?_)
 replace hN:=hN.ext (Ext.drew cz)
 refine RW.bD (fun u=>aI w none_ u [.own vI 3 (v7) (wQ),.own vI 3 (v6) (L8),.aJ g4 [v3,ve] 209,.own vI 3 (v3) (cs),.aJ g2 [vN,vN] 209,.aJ g1 [vJ n,mv] 24]) 16 [(0,0),(1,0),(2,0),(3,0),(5,0),(6,0),(7,0),(8,0),(9,0),(10,0),(11,0),(4,1),(12,0),(13,1),(14,1),(15,0),(16,2)] (by intro _ _ _ h;exact h) (hN.sb [1,2,3,4,5,6]) (RQ.aA rfl (fun w hS=>(ah aex rfl Gp)) (RQ.aA rfl (fun w hS=>(aj adw (hS.aJ 2 rfl))) (RQ.aA (v:=.func (.func fj) #[] #[vP gm]) rfl (fun w hS=>U) (RQ.aA (v:=.int .i64 (ap)) rfl (fun w hS=>U) (RQ.aA rfl (fun w hS=>(ah acI rfl fz)) (RQ.aA rfl (fun w hS=>(aj acM (hS.aJ 5 rfl))) (RQ.aA (v:=.int .i64 (ap)) rfl (fun w hS=>U) (RQ.aA rfl (fun w hS=>(aU acM dr bf (hm.o.now hS))) (RQ.aA rfl (fun w hS=>(bl (m:=(ap).toNat) (b:=0) acP rfl bK bf (hm.o.now hS) TO)) ?_)))))))))
 refine RQ.aA rfl (fun w hS=>(bB (m:=(ap).toNat) (j:=2) (a:=br) acs bf (hm.o.now hS) TO)) (RQ.aA (v:=.int .i64 (ap)) rfl (fun w hS=>U) ?_)
 have Sx:0≤ap∧ap<(ar.length:Int):=⟨by omega,by omega⟩
 have aO:=da ar ((ap).toNat)
 obtain⟨WA,O6⟩:=aO
 have aO:=hJ.r _ _ (fU WA (acy O6))
 obtain⟨Xp,Xo⟩:=aO
 refine RQ.b0 rfl (cG (first:=#[]) (captured:=#[vP gm]) (v0:=.int .i64 (ap)) (args:=#[.int .i64 (ap),vP gm]) fhJ Y2 bhJ (by simp) rfl rfl ((hJ.c (ap) gm ((n:Int)) _ ar WA _ (hb.ext hN.bc) (hm.o.now hN) Sx.1 O6).mono ?_))
 rintro _ w9 ⟨rfl,bn⟩
 replace hN:=hN.ext bn
 clear bn
 refine⟨(hN.sb [1,2,3,4,5,6]),?_⟩
 have IQ:br=WA:=ac2 (TO.symm.trans O6)
 subst IQ
 refine RQ.aA rfl (fun w hS=>(bT (cs:=[.int .i64 ((p br)),.int .i64 (br.2.2),.int .i64 (ap)]) aei CZ (places:=#[(0,1),(1,1),(2,1)]) (by intro w;kernel_rfl) (pl:=[(0,.tmp 36),(1,.tmp 42),(2,.tmp 43)]) rfl (ps:=[(0,.int .i64 ((p br))),(1,.int .i64 (br.2.2)),(2,.int .i64 (ap))]) rfl (zc:=[.int .i64 (0),.int .i64 (0),.int .i64 (0)]) rfl (aP (vs:=[.int .i64 ((p br))]) rfl rfl (acv rfl) (aP (vs:=[.int .i64 (br.2.2)]) rfl rfl (acv rfl) (aP (vs:=[.int .i64 (ap)]) rfl rfl (acv rfl) rfl))))) ?_
 refine RQ.b0 rfl (dB (cf:=bJ) (s:=3) (pl:=[(0,.tmp 44)]) (ps:=[(0,.agg #[.int .i64 ((p br)),.int .i64 (br.2.2),.int .i64 (ap)])]) (zc:=[.int .i64 (0),.int .i64 (0),.int .i64 (0)]) (l:=[((p br),br.2.2,ap)]) adw k7 (by kernel_rfl) rfl rfl (aP (vs:=[.int .i64 ((p br)),.int .i64 (br.2.2),.int .i64 (ap)]) rfl rfl (acv rfl) rfl) bf rfl (by decide) (by decide) (by decide) hN ?_)
 clear hN
 intro Qx lR (hN:aI w none_ lR [_,_,_,_,_,_,_,_])
 refine⟨(hN.sb [2,3,4,5,6,7]),?_⟩
 refine RQ.b0 rfl (ct adw k7 rfl (by decide) fp bf hN 1 rfl rfl (hN.sm 0 rfl) rfl (by rw[jt];simp only[acC,acF,acN];omega) (by decide) ?_)
 clear hN
 intro mV ll (hN:aI w none_ ll [_,_,_,_,_,_,_,_])
 refine⟨(hN.sb [2,3,4,5,6,7]),?_⟩
 refine RQ.aA rfl (fun w hS=>(ah aex rfl Gp)) ?_
 refine RQ.last rfl rfl (ca Gp rfl rfl (hN.sm 1 rfl).cN (hN.sm 1 rfl).bW hN 4 rfl (acv rfl) ?_)
 clear hN
 intro nR (hN:aI w none_ nR [_,_,_,_,_,_,_,_])
 refine RZ.eJ (aw ?_)
 have OW:=sE.len
 replace hN:=hN.ext (Ext.drew nR)
 refine RW.bD (fun u=>aI w none_ u [.cp bJ 3 246 (.slice (some ⟨Qx,0,none⟩) 1 1) ([((p br),br.2.2,ap)]),.cp bJ 3 246 (mV) (es++[((p br),br.2.2,ap)]),.own vI 3 (v7) (wQ),.own vI 3 (v6) (L8),.aJ g4 [v3,mV] 209,.own vI 3 (v3) (cs),.aJ g2 [vN,vN] 209,.aJ g1 [vJ n,mv] 24]) 10 [(0,0),(1,0),(2,0),(3,0),(4,1),(5,0),(6,0),(7,0),(8,0),(9,0),(10,2)] (by intro _ _ _ h;exact h) hN (RQ.aA rfl (fun w hS=>(ah aex rfl cj)) (RQ.aA rfl (fun w hS=>(aj acu (hS.aJ 4 rfl))) (RQ.aA (v:=.func (.func fi) #[] #[vP gm]) rfl (fun w hS=>U) (RQ.aA (v:=.int .i64 (ap)) rfl (fun w hS=>U) ?_))))
 have Su:0≤ap∧ap<(ar.length:Int):=⟨by omega,by omega⟩
 have aO:=da ar ((ap).toNat)
 obtain⟨Wz,IV⟩:=aO
 have aO:=hK.r _ _ (fU Wz (acy IV))
 obtain⟨Xi,Xh⟩:=aO
 refine RQ.b0 rfl (cG (first:=#[]) (captured:=#[vP gm]) (v0:=.int .i64 (ap)) (args:=#[.int .i64 (ap),vP gm]) Td Q3 Th (by simp) rfl rfl ((hK.c (ap) gm ((n:Int)) _ ar Wz _ (hb.ext hN.bc) (hm.o.now hN) Su.1 IV).mono ?_))
 rintro _ o7 ⟨rfl,bn⟩
 replace hN:=hN.ext bn
 clear bn
 refine⟨hN,?_⟩
 have IQ:br=Wz:=ac2 (TO.symm.trans IV)
 subst IQ
 refine RQ.aA rfl (fun w hS=>(aD rfl rfl rfl (bh (by omega) (by omega)))) (RQ.aA rfl (fun w hS=>(aC acu bK (hS.sl 5 rfl))) ?_)
 have aO:=da (cs) (((q br)+1).toNat)
 obtain⟨ac,jG⟩:=aO
 refine RQ.aA rfl (fun w hS=>(aF (m:=((q br)+1).toNat) (a:=ac) acs (hS.sl 5 rfl) jG)) ?_
 have ic:=DF sE (nW bX IV) (by omega) (by omega) jG
 obtain⟨ub,sC,ic⟩:=ic
 refine RQ.aA rfl (fun w hS=>(aD rfl rfl rfl (bh (by omega) (by omega)))) (RQ.aA rfl (fun w hS=>(aC acu bK (hS.sl 5 rfl))) ?_)
 refine RQ.last rfl rfl (cu (m:=((q br)+1).toNat) (a:=(ac+1)) bK hN 5 rfl rfl (by omega) rfl rfl rfl rfl ?_)
 clear hN
 intro qe (hN:aI w none_ qe [_,_,_,_,_,_,_,_])
 refine RZ.eJ (aY (aw (RW.region (RL.ag (aD rfl rfl rfl (bh (by omega) (by omega))) (RL.ag (v:=.int .i64 ((i:Int)+1)) U (RL.ak ?_))))))
 exact⟨k-1,by omega,(cs).set ((q br)+1).toNat ((ac+1)),mV,es++[((p br),br.2.2,ap)],i+1,rfl,rfl,rfl,rfl,rfl,rfl,rfl,rfl,(hN.sb [1,2,3,4,5,6,7]),by omega,ic,by rw[eI _ bX,VD,Fp IV],by rw[acw,jt];rfl⟩
 refine RW.exit ?_
 iterate 2 refine bS ?_
 refine ba (aw ?_)
 iterate 2 refine RW.seq ?_
 refine RW.region (RL.ag (ah acI rfl bK) (RL.ag (aj acs (hN.aJ 6 rfl)) (RL.ag (v:=.int .i64 (0)) U (RL.ak (RW.block ?_)))))
 refine RW.loop (fun k1 R1 eW=>∃zd:List Int,∃v:Nat,R1 8=vP g2∧R1 9=vP g4∧R1 60=vJ n∧R1 61=vJ v∧aI w none_ eW [.cp bJ 3 246 (ve) (es),.own vI 3 (v7) (wQ),.own vI 3 (v6) (L8),.aJ g4 [v3,ve] 209,.own vI 3 (v3) (zd),.aJ g2 [vN,vN] 209,.aJ g1 [vJ n,mv] 24]∧(v+k1=n)∧(Cs n zd (f1 (gx ar q wQ) v))) (n) ?_ ?_
 have VJ:Cs n cs (f0 (gx ar q wQ) (gx ar q wQ).length):=by rw[Bl,←(show i=wQ.length by omega)];exact sE
 exact⟨cs,0,rfl,rfl,rfl,rfl,hN,by omega,AR VJ OD⟩
 clear hN
 rintro k1 R1 eW ⟨zd,v,cR,eg,Mi,Mh,hN,Zw,AA⟩
 have cB:=jd cR eg Mi Mh
 obtain⟨sk,rfl⟩:=cB
 clear cR eg Mi Mh
 refine RW.aN (RL.ag (aL) (RL.ak (RW.seq ?_)))
 refine RW.aG _ (fun vT=>?_) (fun vT=>?_)
 refine RW.skip (aw (RW.seq (RW.block (RW.aN (RL.ag (v:=vJ v) U (RL.ag (v:=vJ v) ai (RL.ak ?_)))))))
 have OW:=AA.len
 have aO:=da zd (v+1)
 obtain⟨ax,S0⟩:=aO
 have aO:=da zd v
 obtain⟨ay,uC⟩:=aO
 have ic:=DE AA (by omega) S0 uC
 obtain⟨ub,sC,Zp,Zo,ic⟩:=ic
 replace hN:=hN.ext (Ext.drew eW)
 refine RW.bD (fun u=>aI w none_ u [.cp bJ 3 246 (ve) (es),.own vI 3 (v7) (wQ),.own vI 3 (v6) (L8),.aJ g4 [v3,ve] 209,.own vI 3 (v3) (zd),.aJ g2 [vN,vN] 209,.aJ g1 [vJ n,mv] 24]) 13 [(0,0),(1,0),(2,0),(3,0),(4,0),(5,0),(6,0),(7,0),(8,0),(9,0),(10,0),(11,0),(12,0),(13,2)] (by intro _ _ _ h;exact h) hN (RQ.aA rfl (fun w hS=>(ah aex rfl cj)) (RQ.aA rfl (fun w hS=>(aj acu (hS.aJ 3 rfl))) (RQ.aA (v:=vJ v) rfl (fun w hS=>U) (RQ.aA rfl (fun w hS=>(aD rfl rfl rfl ((bh (by omega) (by omega)).trans (by omega:(v:Int)+1=((v+1:Nat):Int))))) (RQ.aA rfl (fun w hS=>(aC acu bK (hS.sl 4 rfl))) (RQ.aA rfl (fun w hS=>(aF (m:=(v+1)) (a:=ax) acs (hS.sl 4 rfl) S0)) (RQ.aA rfl (fun w hS=>(ah aex rfl cj)) (RQ.aA rfl (fun w hS=>(aj acu (hS.aJ 3 rfl))) (RQ.aA (v:=vJ v) rfl (fun w hS=>U) ?_)))))))))
 refine RQ.aA rfl (fun w hS=>(aC acu bK (hS.sl 4 rfl))) (RQ.aA rfl (fun w hS=>(aF (m:=v) (a:=ay) acs (hS.sl 4 rfl) uC)) (RQ.aA rfl (fun w hS=>(aD rfl rfl rfl (bh (by omega) (by omega)))) (RQ.aA rfl (fun w hS=>(aC acu bK (hS.sl 4 rfl))) ?_)))
 refine RQ.last rfl rfl (cu (m:=(v+1)) (a:=(ax+ay)) bK hN 4 rfl rfl (by omega) rfl rfl rfl rfl ?_)
 clear hN
 intro Bk (hN:aI w none_ Bk [_,_,_,_,_,_,_])
 refine RZ.eJ (aY (aw (RW.region (RL.ag (aD rfl rfl rfl (bh (by omega) (by omega))) (RL.ag (v:=.int .i64 ((v:Int)+1)) U (RL.ak ?_))))))
 exact⟨k1-1,by omega,(zd).set (v+1) ((ax+ay)),v+1,rfl,rfl,rfl,rfl,hN,by omega,ic⟩
 refine RW.exit ?_
 iterate 2 refine bS ?_
 refine ba (aw (RW.aN (RL.ag (aE (cs:=[v3,ve]) aex qR (hN.aJ 3 rfl)) ?_)))
 refine RL.aK (aR (vs:=[v3,ve]) qR rfl rfl rfl (by intro u hu;simp only[ac1,acV,or_false]at hu;rcases hu with rfl|rfl<;>first|rfl|exact(hN.sl 4 rfl).bW|exact(hN.sm 0 rfl).bW) hN 5 rfl rfl ?_)
 clear hN
 intro DY (hN:aI w none_ DY [_,_,_,_,_,_,_])
 refine RL.ak (RW.ret (bb (RV.cell rfl rfl (hN.aJ 5 rfl) aex rfl qR) ?_))
 have Zx:v=n:=by omega
 subst Zx
 have iy:i=wQ.length:=by omega
 rw[iy,adn]at VD
 exact⟨_,_,zd,es,_,_,rfl,hN.sb [4,0],AA,VD,Sg,Si⟩
end Go.Proofs.YtngkdkbpgoddlaaGreat
namespace Go.Proofs.YtngkdkbpgoddlaaGreat
open Go.RowKit Go.Rl
open Go.Gr
theorem mq (n:Int) (v:Value) (l:List I3) (w:World) (hv:Sm bJ w v l):aM acx 105 #[.agg #[.int .i64 n,v]] w fun r w'=>r=.int .i64 (ee n l)∧Ext w w':=by
 refine aM.aZ ag4 ?_
 rw[cM]
 have hN:=aI.nil w none_
 refine RW.aN ?_
 refine RL.aK (bL (cs:=[.int .i64 (n),v]) rfl rfl hN ?_)
 clear hN
 intro g1 w1 (hN:aI w none_ w1 [_])
 refine RL.ag (v:=.int .i64 (0)) ai (RL.ak ?_)
 iterate 2 refine RW.seq ?_
 refine RW.region (RL.ag (ah acI rfl bK) (RL.ag (aj acs (hN.aJ 0 rfl)) (RL.ag (cr) (RL.ag (v:=.bool (decide (16777216<n))) U ?_))))
 by_cases kP:16777216<n
 rw[decide_eq_true kP]
 iterate 4 refine RL.bH ?_
 refine RL.ag (v:=.bool true) (al) (RL.ak (RW.bF (RW.aN (RL.ag (v:=.int .i64 (3)) ai (RL.ak (RW.ret ?_))))))
 refine aT (bb (RV.tmp rfl) ?_)
 exact⟨congrArg (acZ .i64) (if_pos (by omega)).symm,hN.bc⟩
 rw[decide_eq_false kP]
 refine RL.an (ah acI rfl fz) (RL.an (aj acM (hN.aJ 0 rfl)) ?_)
 have jm:=(hv.o.now hN).bw
 refine RL.an (bO acM (hv.o.now hN)) (RL.an (cr) (RL.ag (v:=.bool (decide (67108864<(l.length:Int)))) (aB) (RL.ak ?_)))
 refine RW.aG _ (fun j8=>?_) (fun j8=>?_)
 refine RW.aN (RL.ag (v:=.int .i64 (3)) ai (RL.ak (RW.ret (aT (bb (RV.tmp rfl) ?_)))))
 exact⟨congrArg (acZ .i64) (if_pos (by omega)).symm,hN.bc⟩
 refine RW.skip (aw ?_)
 iterate 2 refine RW.seq ?_
 refine RW.region (RL.ag (ah acI rfl bK) (RL.ag (aj acs (hN.aJ 0 rfl)) (RL.ag (aL) (RL.ak ?_))))
 refine RW.aG _ (fun oP=>?_) (fun oP=>?_)
 refine RW.aN (RL.ag (v:=.int .i64 (2)) ai (RL.ak (RW.ret (aT (bb (RV.tmp rfl) ?_)))))
 refine⟨congrArg (acZ .i64) ?_,hN.bc⟩
 unfold ee
 rw[if_neg (by omega),if_pos (by omega)]
 refine RW.skip (aw ?_)
 iterate 2 refine RW.seq ?_
 refine RW.region (RL.ag (ah acI rfl fz) (RL.ag (aj acM (hN.aJ 0 rfl)) (RL.ag (bO acM (hv.o.now hN)) (RL.ag (v:=.int .i64 (0)) U (RL.ak (RW.block ?_))))))
 refine RW.loop (fun k R0 cz=>∃i:Nat,R0 1=vP g1∧R0 18=v∧R0 19=.int .i64 ((l.length:Int))∧R0 20=vJ i∧aI w none_ cz [.aJ g1 [.int .i64 (n),v] 24]∧(i+k=l.length)∧(∀a∈l.take i,FQ n a)) (l.length) ?_ ?_
 exact⟨0,rfl,rfl,rfl,rfl,hN,by omega,fun a ha=>by cases ha⟩
 clear hN
 rintro k R0 cz ⟨i,bP,fH,gj,An,hN,gk,fU⟩
 have cB:=jd bP fH gj An
 obtain⟨gF,rfl⟩:=cB
 clear bP fH gj An
 refine RW.aN (RL.ag (aL) (RL.ak (RW.seq ?_)))
 refine RW.aG _ (fun cD=>?_) (fun cD=>?_)
 refine RW.skip (aw (RW.seq (RW.block (RW.aN (RL.ag (aU acM dr bf (hv.o.now hN)) ?_)))))
 have aO:=da (l) i
 obtain⟨ap,bX⟩:=aO
 refine RL.ag (b8 (m:=i) (a:=ap) acP dr bf (hv.o.now hN) bX (cs:=[.int .i64 (ap.1),.int .i64 (ap.2.1),.int .i64 (ap.2.2)])) ?_
 refine RL.aK (bz (cs:=[.int .i64 (0),.int .i64 (0),.int .i64 (0)]) fS rfl hN ?_)
 clear hN
 intro g3 w3 (hN:aI w none_ w3 [_,_])
 refine RL.aK (aR (vs:=[.int .i64 (ap.1),.int .i64 (ap.2.1),.int .i64 (ap.2.2)]) dr rfl rfl rfl (aW (aW (aW cZ))) hN 0 rfl rfl ?_)
 clear hN
 intro w4 (hN:aI w none_ w4 [_,_])
 refine RL.b6 (RL.ag (ah acP rfl bK) (RL.ag (aj acs (hN.aJ 0 rfl)) (RL.ag (ah acP rfl bK) (RL.ag (aj acs (hN.aJ 0 rfl)) (RL.ag (ah acP rfl bK) (RL.ag (aj acs (hN.aJ 0 rfl)) ?_))))))
 refine RL.ag (DG rfl rfl rfl) (RL.ag (aL) (RL.ag (v:=.bool (decide ((min (min (ap.1) (ap.2.1)) (ap.2.2))<0))) U ?_))
 by_cases oo:(min (min (ap.1) (ap.2.1)) (ap.2.2))<0
 rw[decide_eq_true oo]
 iterate 8 refine RL.bH ?_
 refine RL.ag (v:=.bool true) (al) (RL.ag (v:=.bool true) U ?_)
 iterate 3 refine RL.bH ?_
 refine RL.ag (v:=.bool true) (al) (RL.ak (RW.bF (RW.aN (RL.ag (v:=.int .i64 (2)) ai (RL.ak (RW.ret ?_))))))
 refine aX ?_
 iterate 2 refine aT ?_
 refine aX (aT (bb (RV.tmp rfl) ?_))
 refine⟨congrArg (acZ .i64) ?_,hN.bc⟩
 unfold ee
 rw[if_neg (by omega),if_neg (by omega),if_neg]
 intro fY
 have aO:=fY ap (acy bX)
 obtain⟨h1,h2,h3,h4,h5,h6⟩:=aO
 omega
 rw[decide_eq_false oo]
 refine RL.an (ah acP rfl bK) (RL.an (aj acs (hN.aJ 0 rfl)) (RL.an (ah acP rfl bK) (RL.an (aj acs (hN.aJ 0 rfl)) (RL.an (uO rfl rfl) (RL.an (ah acI rfl bK) (RL.an (aj acs (hN.aJ 1 rfl)) (RL.an (cm) (RL.ag (v:=.bool (decide (n≤(max (ap.1) (ap.2.1))))) (aB) (RL.ag (v:=.bool (decide (n≤(max (ap.1) (ap.2.1))))) U ?_)))))))))
 by_cases uj:n≤(max (ap.1) (ap.2.1))
 rw[decide_eq_true uj]
 iterate 3 refine RL.bH ?_
 refine RL.ag (v:=.bool true) (al) (RL.ak (RW.bF (RW.aN (RL.ag (v:=.int .i64 (2)) ai (RL.ak (RW.ret ?_))))))
 refine aX ?_
 iterate 2 refine aT ?_
 refine aX (aT (bb (RV.tmp rfl) ?_))
 refine⟨congrArg (acZ .i64) ?_,hN.bc⟩
 unfold ee
 rw[if_neg (by omega),if_neg (by omega),if_neg]
 intro fY
 have aO:=fY ap (acy bX)
 obtain⟨h1,h2,h3,h4,h5,h6⟩:=aO
 omega
 rw[decide_eq_false uj]
 refine RL.an (ah acP rfl bK) (RL.an (aj acs (hN.aJ 0 rfl)) (RL.an (cr) (RL.ag (v:=.bool (decide (2147483648<ap.2.2))) (aB) (RL.ak ?_))))
 refine RW.aG _ (fun VS=>?_) (fun VS=>?_)
 refine RW.aN (RL.ag (v:=.int .i64 (2)) ai (RL.ak (RW.ret (aX ?_))))
 iterate 2 refine aT ?_
 refine aX (aT (bb (RV.tmp rfl) ?_))
 refine⟨congrArg (acZ .i64) ?_,hN.bc⟩
 unfold ee
 rw[if_neg (by omega),if_neg (by omega),if_neg]
 intro fY
 have aO:=fY ap (acy bX)
 obtain⟨h1,h2,h3,h4,h5,h6⟩:=aO
 omega
 refine RW.skip (aY (aw (RW.region (RL.ag (aD rfl rfl rfl (bh (by omega) (by omega))) (RL.ag (v:=.int .i64 ((i:Int)+1)) U (RL.ak ?_))))))
 exact⟨k-1,by omega,i+1,rfl,rfl,rfl,rfl,(hN.sb [1]),by omega,fun a ha=>(du bX ha).elim (fU a) (fun e=>e▸⟨by omega,by omega,by omega,by omega,by omega,by omega⟩)⟩
 refine RW.exit ?_
 iterate 2 refine bS ?_
 refine ba (aw (RW.aN (RL.ag (v:=.int .i64 (0)) ai (RL.ak (RW.ret (bb (RV.tmp rfl) ?_))))))
 refine⟨congrArg (acZ .i64) ?_,hN.bc⟩
 unfold ee
 rw[if_neg (by omega),if_neg (by omega),if_pos]
 rw[acX (by omega)]at fU
 exact fU
end Go.Proofs.YtngkdkbpgoddlaaGreat
namespace Go.Proofs.YtngkdkbpgoddlaaGreat
open Go.RowKit Go.Rl
open Go.Gr
theorem AL (n:Int) (v:Value) (l:List I3) (w:World) (hv:Sm bJ w v l) (h:ee n l=0):aM acx 105 #[.agg #[.int .i64 n,v]] w fun r w'=>r=.int .i64 0∧Ext w w':=(mq n v l w hv).mono fun r w' hr=>by rw[h]at hr;exact hr
theorem uK (n:Nat) (v:Value) (ar:List I3) (w:World) (hv:Sm bJ w v ar) (HN:ee (n:Int) ar=0):aM acx 67 #[.agg #[.int .i64 (n:Int),v]] w fun r w'=>∃g mv c0 c1 c2 c3 c4,r=vP g∧iu w' g [.int .i64 (n:Int),mv,c0,c1,c2,c3,c4] 211∧Sm bJ w' mv ar∧Ext w w':=by
 refine aM.kY aht rfl (acv rfl) ?_
 rw[cM]
 have hN:=aI.nil w none_
 have aO:=nV HN
 obtain⟨hn0,ZX,ir,fU⟩:=aO
 refine XW.seq (XW.bI ?_)
 refine RL.aK (bL (cs:=[vJ n,v]) rfl rfl hN ?_)
 clear hN
 intro g1 w1 (hN:aI w none_ w1 [_])
 refine RL.ag (v:=.pointer none) ai (RL.nil (cl (bR (XW.scope ?_))))
 iterate 2 refine XW.seq ?_
 refine XW.bI (RL.ag (aE (cs:=[vJ n,v]) acI dN (hN.aJ 0 rfl)) ?_)
 refine RL.aK (bo ag4 rfl rfl rfl ((AL ((n:Int)) _ ar _ (hv.o.now hN) HN).mono ?_))
 rintro _ w2 ⟨rfl,bn⟩
 replace hN:=hN.ext bn
 clear bn
 refine RL.ag (cI (bj) (fun h=>h rfl)) (RL.nil (cl (bR (XW.oq rfl (XW.skip (bR (XW.seq (XW.bI (RL.ag (ah acI rfl fz) ?_)))))))))
 refine RL.ag (aj acM (hN.aJ 0 rfl)) ?_
 replace hN:=hN.eK bJ 3 100
 refine RL.aK (ct acM tX rfl (by decide) fp bf hN 0 rfl rfl (hv.o.now hN) rfl (by simp only[acN];omega) (by decide) ?_)
 clear hN
 intro v3 w3 (hN:aI w none_ w3 [_,_])
 replace hN:=hN.xO 0 rfl (show _=ar from aeE _)
 replace hN:aI w none_ w3 [_,_]:=hN
 refine RL.ag (ah acI rfl fz) ?_
 refine RL.aK (ca fz rfl rfl (hN.sm 0 rfl).cN (hN.sm 0 rfl).bW hN 1 rfl (acv rfl) ?_)
 clear hN
 intro w4 (hN:aI w none_ w4 [_,_])
 refine RL.nil (cl (bR (XW.seq ?_)))
 replace hN:=hN.ext (Ext.drew w4)
 refine XW.A5 rfl (by kernel_rfl) (fun u=>aI w none_ u [.cp bJ 3 100 (v3) (ar),.aJ g1 [vJ n,v3] 24]) 8 [(0,0),(1,0),(2,0),(3,0),(4,1),(5,1),(6,1),(7,0)] (by kernel_rfl) hN (RQ.aA rfl (fun w hS=>(aE (cs:=[vJ n,v3]) acI dN (hS.aJ 1 rfl))) (RQ.aA rfl (fun w hS=>(ah acI rfl fz)) (RQ.aA rfl (fun w hS=>(aj acM (hS.aJ 1 rfl))) ?_)))
 have qG:=(hN.sm 0 rfl).bw
 refine RQ.aA rfl (fun w hS=>(bO acM (hS.sm 0 rfl))) ?_
 refine RQ.b0 rfl (ki (enc:=vB) (z:=false) adN Un rfl hN rfl (by omega) (by omega) (by omega) ?_)
 clear hN
 intro v6 w6 (hN:aI w none_ w6 [_,_,_])
 refine⟨(hN.sb [1,2]),?_⟩
 refine RQ.b0 rfl (eL.ev (bT (cs:=[vJ n,v3,vN,vN,vN,vN,v6]) adY J7 (places:=#[(0,2),(2,2),(4,2),(6,1)]) (by intro w;kernel_rfl) (pl:=[(0,.tmp 19),(3,.tmp 23)]) rfl (ps:=[(0,.agg #[vJ n,v3]),(3,v6)]) rfl (zc:=[.int .i64 (0),vN,vN,vN,vN,vN,vN]) rfl (aP (vs:=[vJ n,v3]) rfl rfl (acv rfl) (aP (vs:=[v6]) (hN.sl 0 rfl).cN rfl (acv rfl) rfl))) ⟨(hN.sb [1,2]),?_⟩)
 refine RQ.b0 rfl (bL (cs:=[vJ n,v3,vN,vN,vN,vN,v6]) rfl rfl hN ?_)
 clear hN
 intro g7 w7 (hN:aI w none_ w7 [_,_,_,_])
 refine⟨(hN.sb [2,3]),?_⟩
 refine RQ.aA (v:=vP g7) rfl (fun w hS=>ai) (RQ.bq (cl (bR (XW.seq (XW.bI (RL.ag (dP (vs:=[vP g1]) (xs:=[.tmp 1]) rfl rfl) (RL.ag (v:=.func (.func 145) #[] #[vP g1]) ai (RL.nil (cl ?_)))))))))
 refine bR (XW.seq (XW.bI (RL.ag (dP (vs:=[vP g1]) (xs:=[.tmp 1]) rfl rfl) (RL.ag (v:=.func (.func 146) #[] #[vP g1]) ai (RL.nil (cl (bR (XW.seq (XW.bI ?_)))))))))
 refine RL.aK (bz (cs:=[vN]) F3 rfl hN ?_)
 clear hN
 intro g8 w8 (hN:aI w none_ w8 [_,_,_,_,_])
 refine RL.nil (cl (bR ?_))
 iterate 2 refine XW.seq ?_
 have FW:=hN.NB (M:=[.aJ g8 [vN] 25,.aJ g7 [vJ n,v3,vN,vN,vN,vN,v6] 211,.own vB 4 (v6) (acY (((ar).length:Int)).toNat false)]) 3 rfl [0,1,2] rfl rfl
 have pO:=hN.PH (M:=[.aJ g8 [vN] 25,.aJ g7 [vJ n,v3,vN,vN,vN,vN,v6] 211,.own vB 4 (v6) (acY (((ar).length:Int)).toNat false)]) 4 rfl [0,1,2] rfl rfl
 have S7:aI w none_ w8 [.aJ g8 [vN] 25,.aJ g7 [vJ n,v3,vN,vN,vN,vN,v6] 211,.own vB 4 (v6) (acY (((ar).length:Int)).toNat false)]:=hN.sb [0,1,2]
 clear hN
 have hN:=S7.here
 replace hN:aI w8 _ w8 [.aJ g8 [vN] 25,.aJ g7 [vJ n,v3,vN,vN,vN,vN,v6] 211,.own vB 4 (v6) (acY (((ar).length:Int)).toNat false)]:=hN
 replace hN:=hN.dD vI 3
 replace hN:aI w8 _ w8 [.own vI 3 (vN) ([]),.aJ g8 [vN] 25,.aJ g7 [vJ n,v3,vN,vN,vN,vN,v6] 211,.own vB 4 (v6) (acY (((ar).length:Int)).toNat false)]:=hN
 refine XW.bI (RL.ag (ah acI rfl fz) (RL.ag (aj acM (pO.now hN)) ?_))
 refine RL.aK (bu ajG rfl rfl rfl rfl ((yc _ (ar) _ (FW.now hN)).mono ?_))
 rintro _ ll ⟨Tb,Ta,rfl,cE⟩
 replace hN:aI w8 _ ll [_,_,_,_,_,_]:=hN.fV cE
 clear cE
 refine RL.nil (cl (bR (XW.block ?_)))
 refine XW.BO (gf:=190) (lb:=#[vP Tb,vP Ta]) (M:=[_,_]) (fun s:Value×List Int=>[.aJ g8 [s.1] 25,.own vI 3 s.1 s.2,.aJ g7 [vJ n,v3,vN,vN,vN,vN,v6] 211,.own vB 4 (v6) (acY (((ar).length:Int)).toNat false)]) (Bi Int) (vN,[]) (hN.sb [3,2,4,5,0,1]) rfl ajH rfl rfl (zY (ar) Tb Ta _ (by omega)) Bi.on FW (fun _=>rfl) (by decide) ?_ ?_
 clear hN
 rintro l_ D_ L5 FF ⟨v_,a_⟩ x_ Q0 L6 wr fG K6 Qk hN
 change XW _ _ _ _ _ _ (dw _ 31 (.int .i64 (x_))) _
 replace hN:aI wr FF wr [.obj l_ (.loop (L5 .ready none)),.obj D_ (.deferred (some [])),.aJ g8 [v_] 25,.own vI 3 (v_) (a_),.aJ g7 [vJ n,v3,vN,vN,vN,vN,v6] 211,.own vB 4 (v6) (acY (((ar).length:Int)).toNat false)]:=hN
 have O9:a_.length<((fo (nz ar) 0 ar.length)).length:=DO fG rfl K6
 have Uv:=nT (nz ar) ar.length 0
 refine XW.bI (RL.ag (v:=.int .i64 (x_)) ai (RL.nil (cl (uV ?_))))
 clear hN
 intro nR (hN:aI wr FF nR [.obj l_ (.loop (L5 .busy none)),.obj D_ (.deferred (some [])),.aJ g8 [v_] 25,.own vI 3 (v_) (a_),.aJ g7 [vJ n,v3,vN,vN,vN,vN,v6] 211,.own vB 4 (v6) (acY (((ar).length:Int)).toNat false)])
 refine XW.block (XW.bI (RL.ag (aj acu (hN.aJ 2 rfl)) (RL.ag (v:=.int .i64 (x_)) U ?_)))
 refine RL.aK (cw (enc:=vI) (l:=[x_]) (xs:=[.tmp 33]) acu bK mU rfl rfl (fun _=>rfl) rfl (by decide) (by decide) hN ?_)
 clear hN
 intro M4 o7 (hN:aI wr FF o7 [_,_,_,_,_,_,_])
 refine RL.aK (b9 acu gz rfl (fun _=>rfl) hN 4 rfl rfl (hN.sl 0 rfl) rfl (by(try simp only[acw,ac5,adq,acN,acF,acC,ac7,acw,ac4]);omega) (by decide) ?_)
 clear hN
 intro kH qf (hN:aI wr FF qf [_,_,_,_,_,_,_])
 refine RL.aK (ca cj rfl rfl (hN.sl 4 rfl).cN (hN.sl 4 rfl).bW hN 3 rfl (acv rfl) ?_)
 clear hN
 intro qe (hN:aI wr FF qe [_,_,_,_,_,_,_])
 refine RL.nil (cl (ff ?_))
 exact xM ⟨kH,a_++[x_]⟩ ⟨rfl,rfl⟩ (hN.sb [1,2,3,4,5,6])
 clear hN
 rintro l_ D_ o_ ⟨v_,a_⟩ sQ fG hN
 replace hN:aI w8 _ sQ [.obj l_ o_,.obj D_ (.deferred (some [])),.aJ g8 [v_] 25,.own vI 3 (v_) (a_),.aJ g7 [vJ n,v3,vN,vN,vN,vN,v6] 211,.own vB 4 (v6) (acY (((ar).length:Int)).toNat false)]:=hN
 have Qs:a_=(fo (nz ar) 0 ar.length):=yV fG
 refine ff (bR (XW.seq ?_))
 have Ux:=nT (nz ar) ar.length 0
 have Rm:∀x∈a_,0≤x∧x<(ar.length:Int):=fun x hx=>by
   rw[Qs]at hx
   have aO:=wY.1 hx
   obtain⟨j,_,hj,_,rfl⟩:=aO
   omega
 have O9:a_.length≤ar.length:=by rw[Qs];exact Ux
 refine XW.bI (RL.ag (v:=.int .i64 (-1)) ai (RL.nil (cl (bR (XW.seq (XW.label (bR ?_)))))))
 iterate 2 refine XW.seq ?_
 replace hN:=hN.ext (Ext.drew sQ)
 refine XW.A5 rfl (by kernel_rfl) (fun u=>aI w8 (b7 [.aJ g8 [vN] 25,.aJ g7 [vJ n,v3,vN,vN,vN,vN,v6] 211,.own vB 4 (v6) (acY (((ar).length:Int)).toNat false)]) u [.obj l_ o_,.obj D_ (.deferred (some [])),.aJ g8 [v_] 25,.own vI 3 (v_) (a_),.aJ g7 [vJ n,v3,vN,vN,vN,vN,v6] 211,.own vB 4 (v6) (acY (((ar).length:Int)).toNat false)]) 11 [(0,0),(1,0),(2,0),(3,0),(4,0),(5,0),(7,0),(10,0),(6,1),(8,1),(9,1)] (by kernel_rfl) hN (RQ.aA rfl (fun w hS=>(ah acI rfl bK)) (RQ.aA rfl (fun w hS=>(aj acs (pO.now hS))) (RQ.aA rfl (fun w hS=>(ah acI rfl bK)) (RQ.aA rfl (fun w hS=>(aj acs (pO.now hS))) (RQ.aA rfl (fun w hS=>(aj acu (hS.aJ 2 rfl))) (RQ.aA (v:=.func (.func 146) #[] #[vP g1]) rfl (fun w hS=>U) (RQ.aA (v:=.func (.func 145) #[] #[vP g1]) rfl (fun w hS=>U) (RQ.aA (v:=.int .i64 (0)) rfl (fun w hS=>U) ?_))))))))
 refine RQ.b0 rfl (cq agn rfl rfl rfl rfl rfl ((j3 146 (fun a=>a.2.1) oL n _ a_ g1 _ ar _ (hN.sl 3 rfl) (pO.now hN) (FW.now hN) fU Rm (by omega) (by omega)).mono ?_))
 rintro Ud u0 ⟨KD,cL,Sk,bn⟩
 replace hN:aI w8 _ u0 [_,_,_,_,_,_,_]:=hN.cc cL bn
 clear cL bn
 have MB:=Sk.perm (jz _ _ _)
 have XD:=MB.length_eq
 have Md:∀x∈KD,0≤x∧x<(ar.length:Int):=fun x hx=>Rm x (MB.mem_iff.1 hx)
 refine⟨(hN.sb [1,2,3,4,5,6]),?_⟩
 refine RQ.b0 rfl (cq agn rfl rfl rfl rfl rfl ((j3 145 (fun a=>a.1) ko n _ KD g1 _ ar _ (hN.sl 0 rfl) (pO.now hN) (FW.now hN) fU Md (by omega) (by omega)).mono ?_))
 rintro JM Bk ⟨BW,cL,Sj,bn⟩
 replace hN:aI w8 _ Bk [_,_,_,_,_,_,_,_]:=hN.cc cL bn
 clear cL bn
 have MA:=Sj.perm (jz _ _ _)
 have XC:=MA.length_eq
 have Rp:∀x∈BW,0≤x∧x<(ar.length:Int):=fun x hx=>Md x (MA.mem_iff.1 hx)
 refine⟨(hN.sb [2,3,4,5,6,7]),?_⟩
 have S4:=(hN.sl 0 rfl).bw
 refine RQ.b0 rfl (eL.ev (aQ acu (hN.sl 0 rfl)) ⟨(hN.sb [2,3,4,5,6,7]),?_⟩)
 refine RQ.bq (cl (bR (XW.block ?_)))
 refine XW.loop (fun k R0 cz=>∃la:Int,∃kl:List Bool,∃i:Nat,R0 1=vP g1∧R0 3=vP g7∧R0 4=.func (.func 145) #[] #[vP g1]∧R0 5=.func (.func 146) #[] #[vP g1]∧R0 8=.int .i64 (la)∧R0 44=JM∧R0 45=.int .i64 ((BW.length:Int))∧R0 46=vJ i∧aI w8 (b7 [.aJ g8 [vN] 25,.aJ g7 [vJ n,v3,vN,vN,vN,vN,v6] 211,.own vB 4 (v6) (acY (((ar).length:Int)).toNat false)]) cz [.own vI 3 (JM) (BW),.own vI 3 (Ud) (KD),.obj l_ o_,.obj D_ (.deferred (some [])),.aJ g8 [v_] 25,.own vI 3 (v_) (a_),.aJ g7 [vJ n,v3,vN,vN,vN,vN,v6] 211,.own vB 4 (v6) (kl)]∧(i+k=BW.length)∧(la= -1∨(0≤la∧la<(ar.length:Int)))∧(kl.length=ar.length)) (BW.length) ?_ ?_
 exact⟨-1,acY ar.length false,0,rfl,rfl,rfl,rfl,rfl,rfl,rfl,rfl,hN,by omega,.inl rfl,ac7⟩
 clear hN
 rintro k R0 cz ⟨la,kl,i,bP,cd,cA,cx,cR,Mo,Mn,Mm,hN,gk,E0,Bl⟩
 have cB:=sR bP cd cA cx cR Mo Mn Mm
 obtain⟨gF,rfl⟩:=cB
 clear bP cd cA cx cR Mo Mn Mm
 refine XW.seq (XW.bI (RL.ag (aL) (RL.nil (cl (bR (XW.seq ?_))))))
 refine XW.lQ _ rfl (fun cD=>?_) (fun cD=>?_)
 refine XW.skip (bR (XW.seq (XW.block (XW.seq (XW.bI (RL.ag (aC acu bK (hN.sl 0 rfl)) ?_))))))
 have aO:=da (BW) i
 obtain⟨ap,bX⟩:=aO
 refine RL.ag (aF (m:=i) (a:=ap) acs (hN.sl 0 rfl) bX) (RL.ag (v:=.int .i64 (ap)) ai ?_)
 have aO:=Rp ap (acy bX)
 obtain⟨Vc,Vb⟩:=aO
 refine RL.nil (cl (bR ?_))
 iterate 2 refine XW.seq ?_
 refine XW.bI (RL.ag (v:=.int .i64 (la)) U (RL.ag (cm) (RL.ag (v:=.bool (decide (0≤la))) U ?_)))
 by_cases Ix:0≤la
 rw[decide_eq_true Ix]
 refine RL.an (v:=.func (.func 145) #[] #[vP g1]) U (RL.an (v:=.int .i64 (la)) U ?_)
 have Ss:0≤la∧la<(ar.length:Int):=⟨by omega,by omega⟩
 have aO:=da ar ((la).toNat)
 obtain⟨PK,SZ⟩:=aO
 have aO:=ko.r _ _ (fU PK (acy SZ))
 obtain⟨Mz,My⟩:=aO
 replace Mz:0≤PK.1:=Mz
 replace My:PK.1<_:=My
 refine RL.ed (cG (first:=#[]) (captured:=#[vP g1]) (v0:=.int .i64 (la)) (args:=#[.int .i64 (la),vP g1]) ag2 rfl rfl (by simp) rfl rfl ((ko.c (la) g1 ((n:Int)) _ ar PK _ (pO.now hN) (FW.now hN) Ss.1 SZ).mono ?_))
 rintro _ C4 ⟨rfl,bn⟩
 replace hN:=hN.ext bn
 clear bn
 refine RL.an (v:=.func (.func 145) #[] #[vP g1]) U (RL.an (v:=.int .i64 (ap)) U ?_)
 have Sr:0≤ap∧ap<(ar.length:Int):=⟨by omega,by omega⟩
 have aO:=da ar ((ap).toNat)
 obtain⟨J2,SY⟩:=aO
 have aO:=ko.r _ _ (fU J2 (acy SY))
 obtain⟨Mx,Mw⟩:=aO
 replace Mx:0≤J2.1:=Mx
 replace Mw:J2.1<_:=Mw
 refine RL.ed (cG (first:=#[]) (captured:=#[vP g1]) (v0:=.int .i64 (ap)) (args:=#[.int .i64 (ap),vP g1]) ag2 rfl rfl (by simp) rfl rfl ((ko.c (ap) g1 ((n:Int)) _ ar J2 _ (pO.now hN) (FW.now hN) Sr.1 SY).mono ?_))
 rintro _ zk ⟨rfl,bn⟩
 replace hN:=hN.ext bn
 clear bn
 refine RL.an (bZ) (RL.ag (v:=.bool (decide (PK.1=J2.1))) (al) (RL.ag (v:=.bool (decide (PK.1=J2.1))) U ?_))
 by_cases Dz:PK.1=J2.1
 rw[decide_eq_true Dz]
 refine RL.an (v:=.func (.func 146) #[] #[vP g1]) U (RL.an (v:=.int .i64 (la)) U ?_)
 have Sq:0≤la∧la<(ar.length:Int):=⟨by omega,by omega⟩
 have aO:=da ar ((la).toNat)
 obtain⟨Tm,SX⟩:=aO
 have aO:=oL.r _ _ (fU Tm (acy SX))
 obtain⟨Mv,Mu⟩:=aO
 replace Mv:0≤Tm.2.1:=Mv
 replace Mu:Tm.2.1<_:=Mu
 refine RL.ed (cG (first:=#[]) (captured:=#[vP g1]) (v0:=.int .i64 (la)) (args:=#[.int .i64 (la),vP g1]) ag3 rfl rfl (by simp) rfl rfl ((oL.c (la) g1 ((n:Int)) _ ar Tm _ (pO.now hN) (FW.now hN) Sq.1 SX).mono ?_))
 rintro _ LW ⟨rfl,bn⟩
 replace hN:=hN.ext bn
 clear bn
 refine RL.an (v:=.func (.func 146) #[] #[vP g1]) U (RL.an (v:=.int .i64 (ap)) U ?_)
 have Sp:0≤ap∧ap<(ar.length:Int):=⟨by omega,by omega⟩
 have aO:=da ar ((ap).toNat)
 obtain⟨PJ,SW⟩:=aO
 have aO:=oL.r _ _ (fU PJ (acy SW))
 obtain⟨Mt,Ms⟩:=aO
 replace Mt:0≤PJ.2.1:=Mt
 replace Ms:PJ.2.1<_:=Ms
 refine RL.ed (cG (first:=#[]) (captured:=#[vP g1]) (v0:=.int .i64 (ap)) (args:=#[.int .i64 (ap),vP g1]) ag3 rfl rfl (by simp) rfl rfl ((oL.c (ap) g1 ((n:Int)) _ ar PJ _ (pO.now hN) (FW.now hN) Sp.1 SW).mono ?_))
 rintro _ Gb ⟨rfl,bn⟩
 replace hN:=hN.ext bn
 clear bn
 refine RL.an (bZ) (RL.ag (v:=.bool (decide (Tm.2.1=PJ.2.1))) (al) (RL.nil (cl (bR ?_))))
 refine XW.lQ _ rfl (fun VO=>?_) (fun VO=>?_)
 iterate 2 refine XW.seq ?_
 refine XW.bI (RL.ag (aE (cs:=[vJ n,v3]) acI dN (pO.now hN)) (RL.ag (v:=.int .i64 (ap)) U (RL.ag (v:=.int .i64 (la)) U ?_)))
 have aO:=da ar ((ap).toNat)
 obtain⟨e31,VF⟩:=aO
 have aO:=da ar ((la).toNat)
 obtain⟨e32,VE⟩:=aO
 refine RL.aK (cq ajL rfl rfl rfl rfl rfl ((yS ((n:Int)) (ap) (la) _ ar e31 e32 _ (FW.now hN) (by omega) VF (by omega) VE).mono ?_))
 rintro _ LV ⟨rfl,bn⟩
 replace hN:=hN.ext bn
 clear bn
 refine RL.ag (cV rfl) (RL.nil (cl (bR ?_)))
 refine XW.lQ _ rfl (fun VN=>?_) (fun VN=>?_)
 refine XW.exit ?_
 iterate 2 refine ng ?_
 refine iK (bR (XW.bI (RL.ag (aD rfl rfl rfl (bh (by omega) (by omega))) (RL.ag (v:=.int .i64 ((i:Int)+1)) U (RL.nil (cl (bR ?_)))))))
 exact⟨rfl,k-1,by omega,la,kl,i+1,rfl,rfl,rfl,rfl,rfl,rfl,rfl,rfl,hN,by omega,E0,by(try simp only[adG]);exact Bl⟩
 refine XW.skip (bR (XW.bI (RL.ag (v:=vP g7) U (RL.ag (bM) (RL.ag (ah adY rfl wC) (RL.ag (aj adN (hN.aJ 6 rfl)) (RL.ag (v:=.int .i64 (la)) U (RL.ag (aC adN oE (hN.sl 7 rfl)) ?_))))))))
 refine RL.aK (cu (m:=(la).toNat) (a:=false) oE hN 7 rfl rfl (by omega) rfl rfl rfl rfl ?_)
 clear hN
 intro JK (hN:aI w8 _ JK [_,_,_,_,_,_,_,_])
 refine RL.nil (cl (bR ?_))
 have OE:((kl).set (la).toNat (false)).length=ar.length:=by(try simp only[adG]);exact Bl
 refine XW.bI (RL.ag (v:=vP g7) U (RL.ag (bM) (RL.ag (ah adY rfl wC) (RL.ag (aj adN (hN.aJ 6 rfl)) ?_))))
 iterate 2 refine RL.ag (v:=.int .i64 (ap)) U ?_
 refine RL.ag (aC adN oE (hN.sl 7 rfl)) ?_
 refine RL.aK (cu (m:=(ap).toNat) (a:=true) oE hN 7 rfl rfl (by omega) rfl rfl rfl rfl ?_)
 clear hN
 intro LU (hN:aI w8 _ LU [_,_,_,_,_,_,_,_])
 refine RL.ag (v:=.int .i64 (ap)) ai (RL.nil (cl (ff (bR (XW.bI (RL.ag (aD rfl rfl rfl (bh (by omega) (by omega))) (RL.ag (v:=.int .i64 ((i:Int)+1)) U (RL.nil (cl ?_)))))))))
 refine bR ?_
 exact⟨rfl,k-1,by omega,ap,((kl).set (la).toNat (false)).set (ap).toNat (true),i+1,rfl,rfl,rfl,rfl,rfl,rfl,rfl,rfl,hN,by omega,.inr ⟨by omega,by omega⟩,by(try simp only[adG]);exact Bl⟩
 refine XW.skip (bR ?_)
 have OE:(kl).length=ar.length:=by(try simp only[adG]);exact Bl
 refine XW.bI (RL.ag (v:=vP g7) U (RL.ag (bM) (RL.ag (ah adY rfl wC) (RL.ag (aj adN (hN.aJ 6 rfl)) ?_))))
 iterate 2 refine RL.ag (v:=.int .i64 (ap)) U ?_
 refine RL.ag (aC adN oE (hN.sl 7 rfl)) ?_
 refine RL.aK (cu (m:=(ap).toNat) (a:=true) oE hN 7 rfl rfl (by omega) rfl rfl rfl rfl ?_)
 clear hN
 intro Kc (hN:aI w8 _ Kc [_,_,_,_,_,_,_,_])
 refine RL.ag (v:=.int .i64 (ap)) ai (RL.nil (cl (ff (bR (XW.bI (RL.ag (aD rfl rfl rfl (bh (by omega) (by omega))) (RL.ag (v:=.int .i64 ((i:Int)+1)) U (RL.nil (cl ?_)))))))))
 refine bR ?_
 exact⟨rfl,k-1,by omega,ap,(kl).set (ap).toNat (true),i+1,rfl,rfl,rfl,rfl,rfl,rfl,rfl,rfl,hN,by omega,.inr ⟨by omega,by omega⟩,by(try simp only[adG]);exact Bl⟩
 rw[decide_eq_false Dz]
 iterate 7 refine RL.bH ?_
 refine RL.ag (v:=.bool false) (aB) (RL.nil (cl (bR (XW.oq rfl (XW.skip (bR ?_))))))
 have OE:(kl).length=ar.length:=by(try simp only[adG]);exact Bl
 refine XW.bI (RL.ag (v:=vP g7) U (RL.ag (bM) (RL.ag (ah adY rfl wC) (RL.ag (aj adN (hN.aJ 6 rfl)) ?_))))
 iterate 2 refine RL.ag (v:=.int .i64 (ap)) U ?_
 refine RL.ag (aC adN oE (hN.sl 7 rfl)) ?_
 refine RL.aK (cu (m:=(ap).toNat) (a:=true) oE hN 7 rfl rfl (by omega) rfl rfl rfl rfl ?_)
 clear hN
 intro Nx (hN:aI w8 _ Nx [_,_,_,_,_,_,_,_])
 refine RL.ag (v:=.int .i64 (ap)) ai (RL.nil (cl (ff (bR (XW.bI (RL.ag (aD rfl rfl rfl (bh (by omega) (by omega))) (RL.ag (v:=.int .i64 ((i:Int)+1)) U (RL.nil (cl ?_)))))))))
 refine bR ?_
 exact⟨rfl,k-1,by omega,ap,(kl).set (ap).toNat (true),i+1,rfl,rfl,rfl,rfl,rfl,rfl,rfl,rfl,hN,by omega,.inr ⟨by omega,by omega⟩,by(try simp only[adG]);exact Bl⟩
 rw[decide_eq_false Ix]
 iterate 7 refine RL.bH ?_
 refine RL.ag (v:=.bool false) (aB) (RL.ag (v:=.bool false) U ?_)
 iterate 7 refine RL.bH ?_
 refine RL.ag (v:=.bool false) (aB) (RL.nil (cl (bR (XW.oq rfl (XW.skip (bR ?_))))))
 have OE:(kl).length=ar.length:=by(try simp only[adG]);exact Bl
 refine XW.bI (RL.ag (v:=vP g7) U (RL.ag (bM) (RL.ag (ah adY rfl wC) (RL.ag (aj adN (hN.aJ 6 rfl)) ?_))))
 iterate 2 refine RL.ag (v:=.int .i64 (ap)) U ?_
 refine RL.ag (aC adN oE (hN.sl 7 rfl)) ?_
 refine RL.aK (cu (m:=(ap).toNat) (a:=true) oE hN 7 rfl rfl (by omega) rfl rfl rfl rfl ?_)
 clear hN
 intro LS (hN:aI w8 _ LS [_,_,_,_,_,_,_,_])
 refine RL.ag (v:=.int .i64 (ap)) ai (RL.nil (cl (ff (bR (XW.bI (RL.ag (aD rfl rfl rfl (bh (by omega) (by omega))) (RL.ag (v:=.int .i64 ((i:Int)+1)) U (RL.nil (cl ?_)))))))))
 refine bR ?_
 exact⟨rfl,k-1,by omega,ap,(kl).set (ap).toNat (true),i+1,rfl,rfl,rfl,rfl,rfl,rfl,rfl,rfl,hN,by omega,.inr ⟨by omega,by omega⟩,by(try simp only[adG]);exact Bl⟩
 refine XW.exit ?_
 iterate 2 refine ng ?_
 refine iK (bR (XW.seq (XW.bI (RL.ag (v:=vP g7) U ?_))))
 refine RL.aK (bo ajK rfl rfl rfl ((z6 g7 (vJ n) (v3) (vN) (vN) (vN) (vN) _ kl _ (hN.aJ 6 rfl) (hN.sl 7 rfl) (by omega)).mono ?_))
 rintro Ua LR ⟨cL,bn⟩
 replace hN:aI w8 _ LR [_,_,_,_,_,_,_,_,_]:=hN.cc (l:=(fo (n6 kl) 0 kl.length)) cL bn
 clear cL bn
 have Sn:∀x∈(fo (n6 kl) 0 kl.length),0≤x∧x<(ar.length:Int):=fun x hx=>by
   have aO:=wY.1 hx
   obtain⟨j,_,hj,_,rfl⟩:=aO
   omega
 have aah:=nT (n6 kl) kl.length 0
 refine RL.ag (v:=Ua) ai (RL.nil (cl (bR (XW.seq ?_))))
 replace hN:=hN.ext (Ext.drew LR)
 refine XW.A5 rfl (by kernel_rfl) (fun u=>aI w8 (b7 [.aJ g8 [vN] 25,.aJ g7 [vJ n,v3,vN,vN,vN,vN,v6] 211,.own vB 4 (v6) (acY (((ar).length:Int)).toNat false)]) u [.own vI 3 (JM) (BW),.own vI 3 (Ud) (KD),.obj l_ o_,.obj D_ (.deferred (some [])),.aJ g8 [v_] 25,.own vI 3 (v_) (a_),.own vB 4 (v6) (kl)]) 18 [(0,0),(1,0),(2,0),(3,0),(4,0),(5,0),(7,0),(8,0),(9,0),(10,0),(6,1),(11,1),(12,0),(13,0),(14,1),(15,0),(16,0),(17,1)] (by kernel_rfl) (hN.sb [1,2,3,4,5,6,8]) ?_
 iterate 2 refine RQ.aA (v:=vP g7) rfl (fun w hS=>U) ?_
 refine RQ.aA rfl (fun w hS=>(aE (cs:=[vJ n,v3]) acI dN (pO.now hS))) (RQ.aA (v:=Ua) rfl (fun w hS=>U) (RQ.aA (v:=.func (.func 145) #[] #[vP g1]) rfl (fun w hS=>U) (RQ.aA (v:=.func (.func 146) #[] #[vP g1]) rfl (fun w hS=>U) (RQ.aA rfl (fun w hS=>(aE (cs:=[vJ n,v3]) acI dN (pO.now hS))) (RQ.aA (v:=Ua) rfl (fun w hS=>U) (RQ.aA (v:=.func (.func 146) #[] #[vP g1]) rfl (fun w hS=>U) (RQ.aA (v:=.func (.func 145) #[] #[vP g1]) rfl (fun w hS=>U) ?_)))))))
 refine RQ.b0 rfl (dK aih rfl rfl rfl rfl rfl rfl ((xc 145 (fun a=>a.1) ko 146 (fun a=>a.2.1) oL n _ (fo (n6 kl) 0 kl.length) g1 _ ar _ (hN.sl 0 rfl) (pO.now hN) (FW.now hN) fU Sn (by omega) (by omega)).mono ?_))
 rintro _ JJ ⟨Wy,Wu,abi,abc,Y1,YZ,rfl,cE,_,_,_,_⟩
 replace hN:aI w8 _ JJ [_,_,_,_,_,_,_,_,_,_,_]:=hN.fV cE
 clear cE
 refine⟨(hN.sb [3,4,5,6,7,8,10]),?_⟩
 refine RQ.b0 rfl (dK aih rfl rfl rfl rfl rfl rfl ((xc 146 (fun a=>a.2.1) oL 145 (fun a=>a.1) ko n _ (fo (n6 kl) 0 kl.length) g1 _ ar _ (hN.sl 2 rfl) (pO.now hN) (FW.now hN) fU Sn (by omega) (by omega)).mono ?_))
 rintro _ QI ⟨Wx,Wt,abh,abb,Y0,YY,rfl,cE,_,_,_,_⟩
 replace hN:aI w8 _ QI [_,_,_,_,_,_,_,_,_,_,_,_,_]:=hN.fV cE
 clear cE
 refine⟨(hN.sb [5,6,7,8,9,10,12]),?_⟩
 refine RQ.aA rfl (fun w hS=>(bM)) (RQ.aA rfl (fun w hS=>(ah adY rfl qR)) ?_)
 refine RQ.b0 rfl (px (vs:=[Wy,Wu]) qR rfl rfl rfl (by intro u hu;simp only[ac1,acV,or_false]at hu;rcases hu with rfl|rfl<;>first|rfl|exact(hN.sl 2 rfl).bW|exact(hN.sm 3 rfl).bW) hN 11 rfl (acv rfl) ?_)
 clear hN
 intro P0 (hN:aI w8 _ P0 [_,_,_,_,_,_,_,_,_,_,_,_,_])
 refine⟨(hN.sb [5,6,7,8,9,10,12]),?_⟩
 refine RQ.aA rfl (fun w hS=>(bM)) (RQ.aA rfl (fun w hS=>(ah adY rfl qR)) ?_)
 refine RQ.b0 rfl (px (vs:=[Wx,Wt]) qR rfl rfl rfl (by intro u hu;simp only[ac1,acV,or_false]at hu;rcases hu with rfl|rfl<;>first|rfl|exact(hN.sl 0 rfl).bW|exact(hN.sm 1 rfl).bW) hN 11 rfl (acv rfl) ?_)
 clear hN
 intro Nw (hN:aI w8 _ Nw [_,_,_,_,_,_,_,_,_,_,_,_,_])
 refine⟨(hN.sb [5,6,7,8,9,10,12]),?_⟩
 refine RQ.bq (cl (bR (XW.seq (XW.bI (RL.ag (v:=vP g7) U (RL.ag (v:=vP g7) ai (RL.nil (cl (bR ?_)))))))))
 refine XW.ret (C1 (F4 hN (.inl rfl) 8 rfl ?_))
 clear hN
 intro Nv (hN:aI w8 _ Nv [_,_,_,_,_,_,_,_,_,_,_,_,_])
 refine⟨_,RV.tmp rfl,?_⟩
 exact⟨_,_,_,_,_,_,_,rfl,(hN.aJ 11 rfl),(FW.now hN),(S7.back hN).bc⟩
theorem yD (n:Int) (v:Value) (ar:List I3) (w:World) (hv:Sm bJ w v ar) (Ll:¬ee n ar=0):aM acx 67 #[.agg #[.int .i64 n,v]] w fun r w'=>r=.pointer none∧Ext w w':=by
 refine aM.kY aht rfl (acv rfl) ?_
 rw[cM]
 have hN:=aI.nil w none_
 refine XW.seq (XW.bI ?_)
 refine RL.aK (bL (cs:=[.int .i64 (n),v]) rfl rfl hN ?_)
 clear hN
 intro g1 w1 (hN:aI w none_ w1 [_])
 refine RL.ag (v:=.pointer none) ai (RL.nil (cl (bR (XW.scope ?_))))
 iterate 2 refine XW.seq ?_
 refine XW.bI (RL.ag (aE (cs:=[.int .i64 (n),v]) acI dN (hN.aJ 0 rfl)) ?_)
 refine RL.aK (bo ag4 rfl rfl rfl ((mq (n) _ ar _ (hv.o.now hN)).mono ?_))
 rintro _ w2 ⟨rfl,bn⟩
 replace hN:=hN.ext bn
 clear bn
 refine RL.ag (dm (bj) Ll) (RL.nil (cl (bR (XW.Jx rfl (XW.seq (XW.bI (RL.ag (v:=.pointer none) ai (RL.nil (cl ?_)))))))))
 refine bR (XW.ret (Nl (C1 (QE (RV.tmp rfl) ?_))))
 exact⟨rfl,hN.bc⟩
end Go.Proofs.YtngkdkbpgoddlaaGreat
namespace Go.Proofs.YtngkdkbpgoddlaaGreat
open Go.RowKit Go.Rl
open Go.Gr
theorem n5 (h:Bo) (x:Int) (g:Nat) (w:World) (hN:aI w (b7 [.aJ g [.int .u64 ((h).toNat:Int)] 57]) w [.aJ g [.int .u64 ((h).toNat:Int)] 57]):aM acx 153 #[.int .i64 x,vP g] w fun r w'=>r=.tuple #[]∧aI w (b7 [.aJ g [.int .u64 ((h).toNat:Int)] 57]) w' [.aJ g [.int .u64 ((vg h x).toNat:Int)] 57]:=by
 refine aM.aZ ago ?_
 rw[cT]
 refine RW.aN (RL.ag (aj adM (hN.aJ 0 rfl)) (RL.ag (v:=.int .i64 (x)) U (RL.ag (eA acs adM rfl (NG x)) (RL.ag (aD rfl rfl rfl (L2 _ _)) (RL.ag (aD rfl rfl rfl (QS _)) ?_)))))
 refine RL.aK (ca NA rfl rfl rfl rfl hN 0 rfl (acv rfl) ?_)
 clear hN
 intro w1 (hN:aI w _ w1 [_])
 refine RL.ak (RW.region ?_)
 iterate 2 refine RL.ag (aj adM (hN.aJ 0 rfl)) ?_
 refine RL.ag (nI rfl rfl (by decide) (QR _)) (RL.ag (aD rfl rfl rfl (L2 _ _)) ?_)
 refine RL.aK (ca NA rfl rfl rfl rfl hN 0 rfl (acv rfl) ?_)
 clear hN
 intro w2 (hN:aI w _ w2 [_])
 refine RL.nil (QV (RV.zero rfl) ?_)
 exact⟨rfl,hN⟩
end Go.Proofs.YtngkdkbpgoddlaaGreat
namespace Go.Proofs.YtngkdkbpgoddlaaGreat
open Go.RowKit Go.Rl
open Go.dn
theorem uU (wide:Int) (w:World):aM acx 129 #[vi wide] w fun r w'=>r=vi (clip wide:Nat)∧w=w':=by
 refine aM.aZ aii ?_
 rw[cM]
 refine RW.aN (RL.ag ai (RL.b6 (RL.ag U (RL.ag (yG rfl rfl) (RL.ag (uO rfl rfl) ?_)))))
 refine RL.ag ai (RL.ak (RW.ret (bb (RV.tmp rfl) ?_)))
 refine⟨?_,rfl⟩
 show acZ .i64 (max 0 (min wide 8))=_
 unfold clip vi;congr 1;omega
theorem lD (n:Nat) (wide:Int) (w:World) (hn:n<18446744073709551616):aM acx 66 #[.int .u64 (n:Int),vi wide] w fun r w'=>eG vb 5 w' w.heap.size r (put n (clip wide))∧Ext w w':=by
 refine aM.aZ af3 ?_
 rw[cT]
 refine RW.aN (RL.ag ai (RL.b6 (RL.ag U ?_)))
 refine RL.aK (bo aii rfl rfl rfl ((uU wide _).mono ?_))
 rintro _ _ ⟨rfl,rfl⟩
 have XR:=DJ wide
 generalize hk:clip wide=kk at XR
 refine RL.aK (Df (enc:=vb) (z:=0) acQ rL rfl rfl (by omega) (by omega) (by omega) ?_)
 intro w1 pG qC qB mQ
 simp only[aee]at pG qC ⊢
 rw[←xP n]at pG
 refine RL.ag ai (RL.ak ?_)
 iterate 2 refine RW.seq ?_
 refine RW.region (RL.ag U (RL.ag (aQ acQ pG.sl) ?_))
 rw[kh]
 refine RL.ag U (RL.ak (RW.block ?_))
 refine RW.loop (fun k R w'=>∃i:Nat,R 12=.int .i64 (i:Int)∧R 11=.int .i64 (kk:Int)∧R 0=.int .u64 (n:Int)∧R 5=.slice (some ⟨w.heap.size,0,none⟩) kk kk∧(i+k=kk)∧(eG vb 5 w' w.heap.size (.slice (some ⟨w.heap.size,0,none⟩) kk kk) (jg n kk i))∧(Ext w w')) kk ?_ ?_
 exact⟨0,rfl,rfl,rfl,rfl,by omega,pG,qB⟩
 rintro k R w' ⟨i,eP,eQ,cH,cx,gk,ho,iZ⟩
 have cB:=jd eP eQ cH cx
 obtain⟨R0,rfl⟩:=cB
 clear eP eQ cH cx
 refine RW.aN (RL.ag (aL) (RL.ak (RW.seq ?_)))
 refine RW.aG _ (fun cD=>?_) (fun cD=>?_)
 refine RW.skip (aw (RW.seq (RW.block (RW.aN (RL.ag U (RL.ag ai (RL.ak ?_)))))))
 refine RW.region ?_
 iterate 4 refine RL.ag U ?_
 refine RL.ag (aD rfl rfl rfl (Dk (by omega) (by omega))) (RL.ag (nI rfl rfl (by omega) (GG n i (by omega))) (RL.ag (eA adM adr rfl (F6 _)) (RL.ag (jR acQ vd ho.sl rfl rfl (by omega) (by rw[kh];omega)) ?_)))
 refine RL.aK (qV (a:=aeV (n/256^i)) vd ho rfl (by rw[kh];omega) rfl rfl rfl rfl ?_)
 intro w2 EY As nX
 rw[aee,←xQ]at EY
 have vV:Ext w w2:=iZ.then As (fun x hx e=>by have:=(ho.lt _ e).1;omega)
 refine RL.nil (aY (aw (RW.region (RL.ag (aD rfl rfl rfl (bh (by omega) (by omega))) (RL.ag U (RL.ak ?_))))))
 exact⟨k-1,by omega,i+1,rfl,rfl,rfl,rfl,by omega,EY,vV⟩
 refine RW.exit ?_
 iterate 2 refine bS ?_
 refine ba (aw (RW.aN (RL.ag U (RL.ag ai (RL.ak (RW.ret (bb (RV.tmp rfl) ?_)))))))
 refine⟨?_,iZ⟩
 have hi:i=kk:=by omega
 subst hi
 rw[xR]at ho
 exact ho
theorem fM (v:Value) (l:List Int) (w:World) (hv:Sl vi w v l) (hl:l.length*8≤140737488351232):aM acx 70 #[v] w fun r w'=>eG vb 5 w' w.heap.size r (bE l)∧Ext w w':=by
 refine aM.aZ aeO ?_
 rw[cM]
 refine RW.aN (RL.ag ai (RL.b6 (RL.ag U (RL.ag (aQ acu hv) (RL.ag (eA acs adM rfl (lj _ (by omega))) ?_)))))
 refine RL.aK (bu af3 rfl rfl rfl rfl ((lD l.length 4 _ (by omega)).mono ?_))
 rintro v1 w1 ⟨pG,qB⟩
 rw[yQ]at pG
 refine RL.ag ai (RL.ak ?_)
 iterate 2 refine RW.seq ?_
 refine RW.region (RL.ag U (RL.ag (aQ acu (hv.ext qB)) (RL.ag U (RL.ak (RW.block ?_)))))
 refine RW.loop (fun k R w'=>∃i:Nat,∃vo:Value,R 12=.int .i64 (i:Int)∧R 11=.int .i64 (l.length:Int)∧R 10=v∧R 3=vo∧(i+k=l.length)∧(eG vb 5 w' w.heap.size vo (put l.length 4++(l.take i).flatMap fun x=>put (rC x) 8))∧(Ext w w')) l.length ?_ ?_
 exact⟨0,v1,rfl,rfl,rfl,rfl,by omega,by simpa using pG,qB⟩
 rintro k R w' ⟨i,vo,eP,eQ,df,cd,gk,ho,iZ⟩
 have cB:=jd eP eQ df cd
 obtain⟨R0,rfl⟩:=cB
 clear eP eQ df cd
 refine RW.aN (RL.ag (aL) (RL.ak (RW.seq ?_)))
 refine RW.aG _ (fun cD=>?_) (fun cD=>?_)
 refine RW.skip (aw (RW.seq (RW.block (RW.aN (RL.ag (aC acu bK (hv.ext iZ)) (RL.ag (lO acs rfl (hv.ext iZ) rfl (by omega)) (RL.ag ai (RL.nil ?_))))))))
 refine aw (RW.region ?_)
 iterate 2 refine RL.ag U ?_
 refine RL.ag (eA acs adM rfl (wrap_u64 _)) ?_
 refine RL.aK (bu af3 rfl rfl rfl rfl ((lD (rC (l[(i:Int).toNat]'(by omega))) 8 _ (Gi _)).mono ?_))
 rintro v2 w2 ⟨EY,vV⟩
 rw[Jz]at EY
 refine RL.aK (iS acQ rL rfl oC (ho.ext vV) rfl EY.sl rfl (by simp only[acw,dz];rw[kS];simp only[ac5];omega) (by decide) (by have:=iZ.size;have:=vV.size;omega) ?_)
 intro v3 w3 ZV Qn hk3
 have y8:Ext w w3:=(iZ.trans vV).then Qn (fun x hx e=>by have:=(ho.lt _ e).1;omega)
 refine RL.ag ai (RL.nil (aY (aw (RW.region (RL.ag (aD rfl rfl rfl (bh (by omega) (by omega))) (RL.ag U (RL.ak ?_)))))))
 refine⟨k-1,by omega,i+1,v3,rfl,rfl,rfl,rfl,by omega,?_,y8⟩
 rw[Ff l i (by omega),←adk]
 simpa using ZV
 refine RW.exit ?_
 iterate 2 refine bS ?_
 refine ba (aw (RW.aN (RL.ag U (RL.ag ai (RL.ak (RW.ret (bb (RV.tmp rfl) ?_)))))))
 refine⟨?_,iZ⟩
 rw[acX (by omega)]at ho
 exact ho
theorem Bz (s:List UInt8) (w:World) (hl:s.length≤140737488351232):aM acx 48 #[str s] w fun r w'=>eG vb 5 w' w.heap.size r (jE s)∧Ext w w':=by
 refine aM.aZ Tryz.func48 ?_
 rw[cM]
 refine RW.aN (RL.ag ai (RL.b6 (RL.ag U (RL.ag (Jo aed rfl) (RL.ag (eA acs adM rfl (lj _ (by omega))) ?_)))))
 refine RL.aK (bu af3 rfl rfl rfl rfl ((lD s.length 4 _ (by omega)).mono ?_))
 rintro v1 w1 ⟨pG,qB⟩
 rw[yQ]at pG
 refine RL.ag U ?_
 refine RL.aK (xX acQ aed rL pG rfl rfl (by rw[dz];omega) qB.size ?_)
 intro v2 w2 EY As
 have vV:Ext w w2:=qB.then As (fun x hx e=>by have:=(pG.lt _ e).1;omega)
 refine RL.ag ai (RL.ak (RW.ret (bb (RV.tmp rfl) ?_)))
 refine⟨?_,vV⟩
 exact EY
end Go.Proofs.YtngkdkbpgoddlaaGreat
namespace Go.Proofs.YtngkdkbpgoddlaaGreat
open Go.RowKit Go.Rl
open Go.dn
theorem Ng:(acx.info? 142).map (·.zero)=some (some (.agg #[vN,.int .i64 0])):=by kernel_rfl
theorem qq (v:Value) (l:List UInt8) (w:World) (hv:Sl vb w v l) (hl:l.length≤140737488355328):aM acx 36 #[v] w fun r w'=>∃g,r=vP g∧Rd 142 w' w.heap.size w'.heap.size g (l,0)∧Ext w w':=by
 refine aM.aZ ahu ?_
 rw[cM]
 refine RW.aN (RL.ag ai (RL.b6 (RL.ag U ?_)))
 refine RL.aK (iS (l:=[]) acQ rL rfl oC (eG.nil vb 5 w w.heap.size) rfl hv rfl (by simp;omega) (by decide) (ac3 _) ?_)
 intro v1 w1 pG jv HU
 rw[aeE]at pG
 have qB:Ext w w1:=jv.mono (by intro i _ h;cases h)
 have mQ:=pG.sl
 have qC:=pG.lt
 obtain⟨A1,c1,rfl,hc1,jv,OY⟩:=mQ
 refine RL.ag (A3 (cs:=[.slice A1 l.length c1,.int .i64 0]) adV Ng (places:=#[(0,1),(1,1)]) (by intro w;kernel_rfl) (pl:=[(0,.tmp 4)]) rfl rfl rfl) ?_
 refine RL.aK (G3 (cs:=[.slice A1 l.length c1,.int .i64 0]) rfl rfl ?_)
 intro w2 MT vV nX
 refine RL.ag ai (RL.ak (RW.ret (bb (RV.tmp rfl) ?_)))
 refine⟨w1.heap.size,rfl,⟨qB.size,by omega,_,MT,Sl.ext ⟨A1,c1,rfl,hc1,jv,OY⟩ vV,fun k hk=>?_⟩,qB.trans vV⟩
 have:=qC k hk
 exact⟨this.1,by omega,by omega⟩
theorem ky (lo hi g:Nat) (s:St) (e:Int) (w:World) (hr:Rd 142 w lo hi g s):aM acx 156 #[vP g,vi e] w fun r w'=>Rd 142 w' lo hi g ([],e)∧Rl.Mod (fun k=>k=g) w w'∧w'.heap.size=w.heap.size:=by
 refine aM.aZ afN ?_
 rw[cT]
 obtain⟨mR,nd,v,hb,hs,hv⟩:=hr
 refine RW.region ?_
 iterate 3 refine RL.ag U ?_
 refine RL.ag (bM) (RL.ag (ah adV rfl jK) ?_)
 refine RL.aK (lE (v:=vN) jK rfl rfl rfl rfl hb (by simp) ?_)
 intro w1 qC jv mQ
 refine RL.ag (bM) (RL.ag (ah adV rfl vf) ?_)
 refine RL.aK (lE (v:=vi e) vf rfl rfl rfl rfl qC (by simp) ?_)
 intro w2 MT As nX
 refine RL.nil (QV (RV.zero rfl) ?_)
 exact⟨⟨mR,nd,_,MT,Sl.nil _ _,fun k hk=>by cases hk⟩,Mod.trans jv As (fun _ _=>id) (fun _ _=>id),by omega⟩
theorem oD (lo hi g:Nat) (s:St) (n:Nat) (w:World) (hr:Rd 142 w lo hi g s):aM acx 128 #[vP g,vi (n:Int)] w fun r w'=>∃x b,r=.tuple #[x,.bool b]∧Sl vb w' x (fA s n).2∧(∀k,x.ownBlock=some k→lo≤k∧k<hi∧k≠g)∧Rd 142 w' lo hi g (fA s n).1∧Rl.Mod (fun k=>k=g) w w'∧w'.heap.size=w.heap.size:=by
 refine aM.aZ ag5 ?_
 rw[cT]
 have Xg:=hr
 obtain⟨mR,nd,v,hb,hs,hv⟩:=hr
 refine RW.aN ?_
 iterate 2 refine RL.ag ai ?_
 refine RL.ak (RW.seq (RW.block (RW.aN (RL.ag U (RL.ag (cI (jQ ad3 rfl rfl) (by simp)) (RL.ag U (RL.an U ?_)))))))
 refine RL.an (bM) (RL.an (ah adV rfl vf) (RL.an (aj aeS hb) (RL.an (bj) (RL.ag (aB) (RL.ag ai (RL.ak ?_))))))
 refine RW.aG _ (fun dY=>?_) (fun dY=>?_)
 refine RW.aN ?_
 iterate 2 refine RL.ag ai ?_
 refine RL.ak (RW.ret (aX (aT (bb (RV.ju rfl) ?_))))
 rw[D5 n dY]
 exact⟨_,_,rfl,Sl.nil _ _,(fun k hk=>by cases hk),Xg,Mod.refl _ _,rfl⟩
 refine RW.aN ?_
 have hz:s.2=0:=acU.1 dY
 have hlen:=hs.bw
 iterate 2 refine RL.ag U ?_
 refine RL.ag (bM) (RL.ag (ah adV rfl jK) (RL.ag (aj acQ hb) (RL.ag (aQ acQ hs) (RL.ag (cr) (RL.ag ai (RL.ak ?_))))))
 refine RW.aG _ (fun cD=>?_) (fun cD=>?_)
 refine RW.aN (RL.ag U ?_)
 refine RL.aK (bu afN rfl rfl rfl rfl ((ky lo hi g s 10 _ Xg).mono ?_))
 rintro _ w1 ⟨pF,jv,mQ⟩
 refine RL.ak (RW.aN ?_)
 iterate 2 refine RL.ag ai ?_
 refine RL.ak (RW.ret (aX (aT (bb (RV.ju rfl) ?_))))
 rw[zm hz (by omega)]
 exact⟨_,_,rfl,Sl.nil _ _,(fun k hk=>by cases hk),pF,jv,mQ⟩
 refine RW.skip (aY (aw (RW.aN (RL.ag U (RL.ag (bM) (RL.ag (ah adV rfl jK) (RL.ag (aj acQ hb) ?_)))))))
 iterate 2 refine RL.ag U ?_
 refine RL.ag (PG acQ vd hs rfl rfl rfl (by omega) (by omega)) (RL.ag ai (RL.ak (RW.aN ?_)))
 iterate 2 refine RL.ag U ?_
 refine RL.ag (bM) (RL.ag (ah adV rfl jK) (RL.ag (aj acQ hb) (RL.ag U (RL.ag (mz acQ vd hs rfl rfl (by omega) (by omega)) (RL.ag (bM) (RL.ag (ah adV rfl jK) ?_))))))
 refine RL.aK (lE (v:=wc v (n:Int).toNat s.1.length) jK rfl rfl (by obtain⟨A1,c1,rfl,_⟩:=hs;rfl) (by obtain⟨A1,c1,rfl,_⟩:=hs;rfl) hb (by simp) ?_)
 intro w1 qC jv mQ
 refine RL.b6 (RL.ag U ?_)
 iterate 2 refine RL.ag ai ?_
 refine RL.ak (RW.ret (bb (RV.ju rfl) ?_))
 rw[pf hz (by omega)]
 simp only[aee]at qC ⊢
 have mQ:=hs.mod jv (fun k hk e=>(hv k hk).2.2 e)
 refine⟨Fv v n,true,rfl,mQ.Fv (by omega),fun k hk=>hv k (by rw[CT mQ]at hk;exact hk),⟨mR,nd,_,by rw[hz]at qC;exact qC,mQ.mC (by omega),fun k hk=>hv k (by rw[oR mQ]at hk;exact hk)⟩,jv,by omega⟩
theorem qo (lo hi g:Nat) (s:St) (wide:Int) (w:World) (hr:Rd 142 w lo hi g s):aM acx 57 #[vP g,vi wide] w fun r w'=>r=.int .u64 ((kC s (clip wide)).2:Int)∧Rd 142 w' lo hi g (kC s (clip wide)).1∧Rl.Mod (fun k=>k=g) w w'∧w'.heap.size=w.heap.size:=by
 refine aM.aZ ahv ?_
 rw[cT]
 refine RW.aN (RL.ag ai (RL.ak (RW.aN ?_)))
 iterate 2 refine RL.ag U ?_
 refine RL.aK (bo aii rfl rfl rfl ((uU wide _).mono ?_))
 rintro _ _ ⟨rfl,rfl⟩
 refine RL.aK (bu ag5 rfl rfl rfl rfl ((oD lo hi g s (clip wide) _ hr).mono ?_))
 rintro _ w1 ⟨x,b,rfl,hx,TD,pF,jv,mQ⟩
 have hlen:=wA s (clip wide)
 have XR:=DJ wide
 have hle:∀i,le ((fA s (clip wide)).2.take i)<256^((fA s (clip wide)).2.take i).length:=fun i=>Hp _
 unfold kC
 generalize hl:(fA s (clip wide)).2=l at hx hlen hle
 refine RL.ag U ?_
 iterate 2 refine RL.ag (bA) ?_
 iterate 2 refine RL.ag ai ?_
 refine RL.b6 (RL.ag ai (RL.ak ?_))
 iterate 2 refine RW.seq ?_
 refine RW.region (RL.ag U (RL.ag (aQ acQ hx) (RL.ag U (RL.ak (RW.block ?_)))))
 refine RW.loop (fun k R w'=>∃i:Nat,R 19=.int .i64 (i:Int)∧R 18=.int .i64 (l.length:Int)∧R 17=x∧R 7=.int .u64 (le (l.take i):Int)∧(i+k=l.length)∧(w1=w')) l.length ?_ ?_
 exact⟨0,rfl,rfl,rfl,rfl,by omega,rfl⟩
 rintro k R w' ⟨i,gj,fH,fq,cF,gk,hw⟩
 have cB:=jd gj fH fq cF
 obtain⟨R0,rfl⟩:=cB
 clear gj fH fq cF
 subst hw
 refine RW.aN (RL.ag (aL) (RL.ak (RW.seq ?_)))
 refine RW.aG _ (fun cD=>?_) (fun cD=>?_)
 refine RW.skip (aw (RW.seq (RW.block (RW.aN (RL.ag U (RL.ag (aC acQ vd hx) (RL.ag (lO adr rfl hx rfl (by omega)) ?_)))))))
 iterate 2 refine RL.ag ai ?_
 refine RL.ak (RW.region ?_)
 iterate 2 refine RL.ag U ?_
 refine RL.ag (eA adr adM rfl (lj _ (by have:=(l[(i:Int).toNat]'(by omega)).toNat_lt;omega))) (RL.ag U (RL.ag (aD rfl rfl rfl (Dk (by omega) (by omega))) (RL.ag (Pz rfl rfl (by omega) (GH _ i (by omega))) (RL.ag (aD rfl rfl rfl (KF _ _ i (by have:=hle i;rwa [ac5,ahi (by omega)]at this) (l[(i:Int).toNat]'(by omega)).toNat_lt (by omega))) (RL.ag ai (RL.nil (aY (aw (RW.region ?_)))))))))
 refine RL.ag (aD rfl rfl rfl (bh (by omega) (by omega))) (RL.ag U (RL.ak ?_))
 refine⟨k-1,by omega,i+1,rfl,rfl,rfl,?_,by omega,rfl⟩
 rw[KW l i (by omega)];rfl
 refine RW.exit ?_
 iterate 2 refine bS ?_
 refine ba (aw (RW.aN (RL.ag U (RL.ag ai (RL.ak (RW.ret (bb (RV.tmp rfl) ?_)))))))
 refine⟨?_,pF,jv,mQ⟩
 exact congrArg (fun l=>acZ .u64 ((le l:Nat):Int)) (acX (by omega))
theorem tU (lo hi g:Nat) (s:St) (w:World) (hr:Rd 142 w lo hi g s):aM acx 37 #[vP g] w fun r w'=>r=vi (s.1.length:Int)∧w=w':=by
 refine aM.aZ aiM ?_
 rw[cM]
 obtain⟨mR,nd,v,hb,hs,hv⟩:=hr
 refine RW.aN (RL.ag ai (RL.ak ?_))
 iterate 2 refine RW.seq ?_
 refine RW.region (RL.ag U (RL.ag (cI (jQ ad3 rfl rfl) (by simp)) (RL.ak (RW.cg (RW.skip (aw (RW.aN ?_)))))))
 refine RL.ag U (RL.ag (bM) (RL.ag (ah adV rfl jK) (RL.ag (aj acQ hb) (RL.ag (aQ acQ hs) (RL.ag ai (RL.ak (RW.ret (bb (RV.tmp rfl) ?_))))))))
 exact⟨rfl,rfl⟩
theorem gA (lo hi g:Nat) (s:St) (w:World) (hr:Rd 142 w lo hi g s):aM acx 40 #[vP g] w fun r w'=>r=vi s.2∧w=w':=by
 refine aM.aZ afq ?_
 rw[cM]
 obtain⟨mR,nd,v,hb,hs,hv⟩:=hr
 refine RW.aN (RL.ag ai (RL.ak ?_))
 iterate 2 refine RW.seq ?_
 refine RW.region (RL.ag U (RL.ag (cI (jQ ad3 rfl rfl) (by simp)) (RL.ak (RW.cg (RW.skip (aw (RW.aN ?_)))))))
 refine RL.ag U (RL.ag (bM) (RL.ag (ah adV rfl vf) (RL.ag (aj aeS hb) (RL.ag ai (RL.ak (RW.ret (bb (RV.tmp rfl) ?_)))))))
 exact⟨rfl,rfl⟩
theorem qM (lo hi g:Nat) (s:St) (w:World) (hr:Rd 142 w lo hi g s):aM acx 45 #[vP g] w fun r w'=>r=vi (oa s)∧w=w':=by
 refine aM.aZ ahw ?_
 rw[cM]
 refine RW.aN (RL.ag ai (RL.ak ?_))
 iterate 2 refine RW.seq ?_
 refine RW.region (RL.ag U ?_)
 refine RL.aK (bo afq rfl rfl rfl ((gA lo hi g s _ hr).mono ?_))
 rintro _ _ ⟨rfl,rfl⟩
 refine RL.ag ai (RL.b6 (RL.ag U (RL.ag (bj) (RL.ak ?_))))
 refine RW.aG _ (fun dY=>?_) (fun dY=>?_)
 refine RW.aN (RL.ag U (RL.ag ai (RL.ak (RW.ret (aT (bb (RV.tmp rfl) ?_))))))
 refine⟨?_,rfl⟩
 unfold oa;rw[if_pos dY];rfl
 refine RW.skip (aw ?_)
 iterate 2 refine RW.seq ?_
 refine RW.region (RL.ag U ?_)
 refine RL.aK (bo aiM rfl rfl rfl ((tU lo hi g s _ hr).mono ?_))
 rintro _ _ ⟨rfl,rfl⟩
 refine RL.ag (cr) (RL.ak ?_)
 refine RW.aG _ (fun cD=>?_) (fun cD=>?_)
 refine RW.aN (RL.ag ai (RL.ak (RW.ret (aT (bb (RV.tmp rfl) ?_)))))
 refine⟨?_,rfl⟩
 unfold oa;rw[if_neg dY,if_pos (by omega)];rfl
 refine RW.skip (aw (RW.aN (RL.ag ai (RL.ak (RW.ret (bb (RV.tmp rfl) ?_))))))
 refine⟨?_,rfl⟩
 unfold oa;rw[if_neg dY,if_neg (by omega)];rfl
theorem ym (v:Value) (l:List UInt8) (w:World) (hv:Sl vb w v l) (hl:l.length=8):aM acx 195 #[v] w fun r w'=>r=vi (LY (le l))∧Ext w w':=by
 refine aM.aZ ajM ?_
 rw[cM]
 refine RW.aN (RL.ag ai (RL.b6 (RL.ag U ?_)))
 refine RL.aK (bo ahu rfl rfl rfl ((qq v l _ hv (by omega)).mono ?_))
 rintro _ w1 ⟨g,rfl,pF,qB⟩
 refine RL.aK (bu ahv rfl rfl rfl rfl ((qo _ _ g _ 8 _ pF).mono ?_))
 rintro _ w2 ⟨rfl,Ao,As,nX⟩
 have HP:(kC (l,0) (clip 8)).2=le l:=by
   unfold kC;rw[Jz,pf rfl (show 8≤l.length by omega)]
   exact congrArg le (acX (show l.length≤8 by omega))
 rw[HP]
 have hg:=pF.lt
 refine RL.ag (eA adM acs rfl (DV _ (KX l (by omega)))) (RL.ag ai (RL.ak (RW.ret (bb (RV.tmp rfl) ?_))))
 exact⟨rfl,qB.then As (fun i hi e=>by omega)⟩
theorem wk (v:Value) (b:UInt8) (w:World) (hv:Sl vb w v [b]):aM acx 94 #[v] w fun r w'=>r=vb b∧w=w':=by
 refine aM.aZ Tryz.func94 ?_
 rw[cM]
 refine RW.aN (RL.ag ai (RL.b6 (RL.ag U (RL.ag (jR acQ vd hv rfl rfl (by decide) (by simp)) (RL.ag (kz adr rfl hv rfl (m:=0) rfl) ?_)))))
 refine RL.ag ai (RL.ak (RW.ret (bb (RV.tmp rfl) ?_)))
 exact⟨rfl,rfl⟩
theorem xL (lo hi g:Nat) (s:St) (most:Int) (w:World) (hr:Rd 142 w lo hi g s) (nd:hi≤w.heap.size) (kD: -9223372036854775808≤most) (jv:most≤9223372036854775807) (kN:s.1.length≤140737488351232):aM acx 194 #[vP g,vi most,vi 8,.func (.func 195) #[] #[]] w fun r w'=>eG vi 3 w' w.heap.size r (jN ((lZ s most 8).2.length/8) (lZ s most 8).2)∧Rd 142 w' lo hi g (lZ s most 8).1∧Rl.Mod (fun k=>k=g) w w':=by
 refine aM.aZ ajN ?_
 rw[kX]
 refine RW.aN (RL.ag ai (RL.b6 (RL.ag U ?_)))
 refine RL.aK (bu ahv rfl rfl rfl rfl ((qo lo hi g s 4 _ hr).mono ?_))
 rintro _ w1 ⟨rfl,pF,yr,mQ⟩
 rw[yQ]at pF ⊢
 have Ot:=wW s
 have Oc:(kC s 4).1.1.length≤s.1.length:=(gH s 4).1
 unfold lZ
 generalize (kC s 4).1=s1 at pF Oc ⊢
 generalize (kC s 4).2=m at Ot ⊢
 have Og:=pF
 obtain⟨mR,hhg,v1,qC,UH,vO⟩:=Og
 refine RL.ag ai (RL.ak ?_)
 iterate 2 refine RW.seq ?_
 refine RW.region (RL.ag U (RL.ag (cI (jQ ad3 rfl rfl) (by simp)) (RL.ag U (RL.an U (RL.an (bM) (RL.an (ah adV rfl vf) (RL.an (aj aeS qC) (RL.an (bj) (RL.ag (aB) ?_)))))))))
 refine RL.ak ?_
 refine RW.aG _ (fun dY=>?_) (fun dY=>?_)
 refine RW.aN (RL.ag ai (RL.ak (RW.ret (aT (bb (RV.tmp rfl) ?_)))))
 rw[if_pos dY]
 exact⟨xU _ _ _,pF,yr⟩
 refine RW.skip (aw ?_)
 iterate 2 refine RW.seq ?_
 rcases(show most<0∨(¬most<0∧most<(m:Int))∨(¬most<0∧¬most<(m:Int)) by omega)with hc|hc|hc
 refine RW.region ?_
 have hz:s1.2=0:=acU.1 dY
 rw[if_neg dY]
 refine RL.ag U (RL.ag (dm (aL) hc) (RL.ag U ?_))
 iterate 4 refine RL.bH ?_
 refine RL.ag (al) (RL.ak (RW.bF (RW.aN (RL.ag U ?_))))
 refine RL.aK (bu afN rfl rfl rfl rfl ((ky lo hi g s1 3 _ pF).mono ?_))
 rintro _ w2 ⟨Ao,ue,nX⟩
 refine RL.b6 (RL.ag ai (RL.ak (RW.ret (aT (bb (RV.tmp rfl) ?_)))))
 rw[if_pos (show most<0∨most<(m:Int) by omega)]
 exact⟨xU _ _ _,Ao,Mod.trans yr ue (fun _ _=>id) (fun _ _=>id)⟩
 refine RW.region ?_
 have hz:s1.2=0:=acU.1 dY
 rw[if_neg dY]
 refine RL.ag U (RL.ag (cI (aL) hc.1) (RL.ag U ?_))
 iterate 2 refine RL.an U ?_
 refine RL.an (eA acs adM rfl ((wrap_u64 most).trans (show(rC most:Int)=most by unfold rC;omega))) (RL.an (dm (cr) hc.2) (RL.ag (aB) (RL.ak (RW.bF (RW.aN (RL.ag U ?_))))))
 refine RL.aK (bu afN rfl rfl rfl rfl ((ky lo hi g s1 3 _ pF).mono ?_))
 rintro _ w2 ⟨Ao,ue,nX⟩
 refine RL.b6 (RL.ag ai (RL.ak (RW.ret (aT (bb (RV.tmp rfl) ?_)))))
 rw[if_pos (show most<0∨most<(m:Int) by omega)]
 exact⟨xU _ _ _,Ao,Mod.trans yr ue (fun _ _=>id) (fun _ _=>id)⟩
 refine RW.region ?_
 have hz:s1.2=0:=acU.1 dY
 rw[if_neg dY]
 refine RL.ag U (RL.ag (cI (aL) hc.1) (RL.ag U ?_))
 iterate 2 refine RL.an U ?_
 refine RL.an (eA acs adM rfl ((wrap_u64 most).trans (show(rC most:Int)=most by unfold rC;omega))) (RL.an (cI (cr) hc.2) (RL.ag (aB) (RL.ak (RW.cg (RW.skip (aw (RW.aN ?_)))))))
 iterate 2 refine RL.ag U ?_
 refine RL.ag (eA adM acs rfl (wrap_i64 (by omega) (by omega))) (RL.ag U (RL.ag (aD rfl rfl rfl ((Dk (by omega) (by omega)).trans (show(m:Int)*8=((m*8:Nat):Int) by norm_cast))) ?_))
 refine RL.aK (bu ag5 rfl rfl rfl rfl ((oD lo hi g s1 (m*8) _ pF).mono ?_))
 rintro _ w2 ⟨x,b,rfl,hx,TD,Ao,ue,nX⟩
 have Qt:Rl.Mod (fun k=>k=g) w w2:=Mod.trans yr ue (fun _ _=>id) (fun _ _=>id)
 rw[if_neg (show ¬(most<0∨most<(m:Int)) by omega)]
 have IE:=wB s1 m 8
 have eD:=(gH s1 (m*8)).2
 have HB:=hx.bw
 generalize (fA s1 (m*8)).1=s2 at Ao ⊢
 generalize (fA s1 (m*8)).2=l at hx IE eD HB ⊢
 refine RL.ag U ?_
 iterate 2 refine RL.ag (bA) ?_
 iterate 2 refine RL.ag ai ?_
 refine RL.b6 (RL.ag ai (RL.ak (RW.seq (RW.block ?_))))
 refine RW.loop (fun k R w'=>∃i:Nat,∃vo:Value,∃xr:Value,R 12=vo∧R 10=xr∧R 2=vi 8∧R 3=.func (.func 195) #[] #[]∧(i*8+k=l.length)∧(Sl vb w' xr (l.drop (i*8)))∧(xr.ownBlock=x.ownBlock)∧(eG vi 3 w' w.heap.size vo (jN i l))∧(Ext w2 w')) l.length ?_ ?_
 exact⟨0,vN,x,rfl,rfl,rfl,rfl,by simp,by simpa using hx,rfl,eG.nil _ _ _ _,Mod.refl _ _⟩
 rintro k R w' ⟨i,vo,xr,eP,df,bV,cd,gk,ua,Rh,ho,iZ⟩
 have cB:=jd eP df bV cd
 obtain⟨R0,rfl⟩:=cB
 clear eP df bV cd
 iterate 2 refine RW.seq ?_
 refine RW.region (RL.ag U (RL.ag (aQ acQ ua) (RL.ag (cr) (RL.ak ?_))))
 refine RW.aG _ (fun iI=>?_) (fun iI=>?_)
 refine RW.skip (aw (RW.seq (RW.block (RW.region ?_))))
 have Bm:(l.drop (i*8)).length=l.length-i*8:=by simp
 rw[Bm]at iI
 have h8:8≤l.length-i*8:=by obtain⟨c,hc⟩:=IE;omega
 have SC:i<l.length:=by omega
 have UG:=Qt.size
 have UF:=iZ.size
 iterate 4 refine RL.ag U ?_
 refine RL.ag (pS acQ vd ua rfl rfl (by decide) (by rw[Bm];omega)) ?_
 refine RL.aK (wT ajM rfl rfl rfl rfl ((ym _ _ _ (ua.uQ (hi:=8) (by rw[Bm];omega)) (by rw[ac5,Bm];omega)).mono ?_))
 rintro _ w3 ⟨rfl,y8⟩
 refine RL.aK (xW (enc:=vi) (l:=[LY (le ((l.drop (i*8)).take 8))]) (xs:=[.tmp 54]) acu bK mU rfl rfl (fun _=>rfl) rfl (by decide) (by decide) ?_)
 intro w4 RP Lm Lf q9
 have mX:=y8.size
 have UE:=Lf.size
 refine RL.aK (iS acu gz rfl (fun _=>rfl) (ho.ext (y8.trans Lf)) rfl RP.sl rfl (by simp only[acw,acF,acN,yl];omega) (by decide) (by omega) ?_)
 intro v5 w5 On Ov XE
 have Cl:=(ua.ext (y8.trans Lf)).mod Ov (fun k hk e=>by have h1:=(ho.lt _ e).1;rw[Rh]at hk;have h2:=(TD _ hk).2.1;omega)
 have ZU:=ho.lt
 refine RL.ag ai (RL.nil (aY (aw (RW.region ?_))))
 iterate 2 refine RL.ag U ?_
 refine RL.ag (mz acQ vd Cl rfl rfl (by decide) (by rw[Bm];omega)) (RL.ag ai (RL.ak ?_))
 have jF:=Cl.mC (lo:=8) (by rw[Bm];omega)
 rw[afs,show i*8+8=(i+1)*8 by omega]at jF
 refine⟨k-8,by omega,i+1,v5,_,rfl,rfl,rfl,rfl,by omega,jF,(oR Cl _ _).trans Rh,?_,(iZ.trans (y8.trans Lf)).then Ov (fun x hx e=>by have:=(ho.lt _ e).1;omega)⟩
 rw[Cg]
 exact On
 refine RW.exit ?_
 iterate 2 refine bS ?_
 refine ba (aw (RW.aN (RL.ag U (RL.ag ai (RL.ak (RW.ret (bb (RV.tmp rfl) ?_)))))))
 rw[adq]at iI
 have hi:i*8=l.length:=by omega
 refine⟨?_,Ao.ext iZ,Mod.trans Qt iZ (fun _ _=>id) (fun _ _ h=>h.elim)⟩
 rw[show l.length/8=i by omega]
 exact ho
theorem vx (lo hi g:Nat) (s:St) (most:Int) (w:World) (hr:Rd 142 w lo hi g s) (nd:hi≤w.heap.size) (kD: -9223372036854775808≤most) (jv:most≤9223372036854775807) (kN:s.1.length≤140737488351232):aM acx 93 #[vP g,vi most,vi 1,.func (.func 94) #[] #[]] w fun r w'=>eG vb 5 w' w.heap.size r (lZ s most 1).2∧Rd 142 w' lo hi g (lZ s most 1).1∧Rl.Mod (fun k=>k=g) w w':=by
 refine aM.aZ Tryz.func93 ?_
 rw[kX]
 refine RW.aN (RL.ag ai (RL.b6 (RL.ag U ?_)))
 refine RL.aK (bu ahv rfl rfl rfl rfl ((qo lo hi g s 4 _ hr).mono ?_))
 rintro _ w1 ⟨rfl,pF,yr,mQ⟩
 rw[yQ]at pF ⊢
 have Ot:=wW s
 have Oc:(kC s 4).1.1.length≤s.1.length:=(gH s 4).1
 unfold lZ
 generalize (kC s 4).1=s1 at pF Oc ⊢
 generalize (kC s 4).2=m at Ot ⊢
 have Og:=pF
 obtain⟨mR,hhg,v1,qC,UH,vO⟩:=Og
 refine RL.ag ai (RL.ak ?_)
 iterate 2 refine RW.seq ?_
 refine RW.region (RL.ag U (RL.ag (cI (jQ ad3 rfl rfl) (by simp)) (RL.ag U (RL.an U (RL.an (bM) (RL.an (ah adV rfl vf) (RL.an (aj aeS qC) (RL.an (bj) (RL.ag (aB) ?_)))))))))
 refine RL.ak ?_
 refine RW.aG _ (fun dY=>?_) (fun dY=>?_)
 refine RW.aN (RL.ag ai (RL.ak (RW.ret (aT (bb (RV.tmp rfl) ?_)))))
 rw[if_pos dY]
 exact⟨eG.nil _ _ _ _,pF,yr⟩
 refine RW.skip (aw ?_)
 iterate 2 refine RW.seq ?_
 rcases(show most<0∨(¬most<0∧most<(m:Int))∨(¬most<0∧¬most<(m:Int)) by omega)with hc|hc|hc
 refine RW.region ?_
 have hz:s1.2=0:=acU.1 dY
 rw[if_neg dY]
 refine RL.ag U (RL.ag (dm (aL) hc) (RL.ag U ?_))
 iterate 4 refine RL.bH ?_
 refine RL.ag (al) (RL.ak (RW.bF (RW.aN (RL.ag U ?_))))
 refine RL.aK (bu afN rfl rfl rfl rfl ((ky lo hi g s1 3 _ pF).mono ?_))
 rintro _ w2 ⟨Ao,ue,nX⟩
 refine RL.b6 (RL.ag ai (RL.ak (RW.ret (aT (bb (RV.tmp rfl) ?_)))))
 rw[if_pos (show most<0∨most<(m:Int) by omega)]
 exact⟨eG.nil _ _ _ _,Ao,Mod.trans yr ue (fun _ _=>id) (fun _ _=>id)⟩
 refine RW.region ?_
 have hz:s1.2=0:=acU.1 dY
 rw[if_neg dY]
 refine RL.ag U (RL.ag (cI (aL) hc.1) (RL.ag U ?_))
 iterate 2 refine RL.an U ?_
 refine RL.an (eA acs adM rfl ((wrap_u64 most).trans (show(rC most:Int)=most by unfold rC;omega))) (RL.an (dm (cr) hc.2) (RL.ag (aB) (RL.ak (RW.bF (RW.aN (RL.ag U ?_))))))
 refine RL.aK (bu afN rfl rfl rfl rfl ((ky lo hi g s1 3 _ pF).mono ?_))
 rintro _ w2 ⟨Ao,ue,nX⟩
 refine RL.b6 (RL.ag ai (RL.ak (RW.ret (aT (bb (RV.tmp rfl) ?_)))))
 rw[if_pos (show most<0∨most<(m:Int) by omega)]
 exact⟨eG.nil _ _ _ _,Ao,Mod.trans yr ue (fun _ _=>id) (fun _ _=>id)⟩
 refine RW.region ?_
 have hz:s1.2=0:=acU.1 dY
 rw[if_neg dY]
 refine RL.ag U (RL.ag (cI (aL) hc.1) (RL.ag U ?_))
 iterate 2 refine RL.an U ?_
 refine RL.an (eA acs adM rfl ((wrap_u64 most).trans (show(rC most:Int)=most by unfold rC;omega))) (RL.an (cI (cr) hc.2) (RL.ag (aB) (RL.ak (RW.cg (RW.skip (aw (RW.aN ?_)))))))
 iterate 2 refine RL.ag U ?_
 refine RL.ag (eA adM acs rfl (wrap_i64 (by omega) (by omega))) (RL.ag U (RL.ag (aD rfl rfl rfl ((Dk (by omega) (by omega)).trans (show(m:Int)*1=((m*1:Nat):Int) by norm_cast))) ?_))
 refine RL.aK (bu ag5 rfl rfl rfl rfl ((oD lo hi g s1 (m*1) _ pF).mono ?_))
 rintro _ w2 ⟨x,b,rfl,hx,TD,Ao,ue,nX⟩
 have Qt:Rl.Mod (fun k=>k=g) w w2:=Mod.trans yr ue (fun _ _=>id) (fun _ _=>id)
 rw[if_neg (show ¬(most<0∨most<(m:Int)) by omega)]
 have IE:=wB s1 m 1
 have eD:=(gH s1 (m*1)).2
 have HB:=hx.bw
 generalize (fA s1 (m*1)).1=s2 at Ao ⊢
 generalize (fA s1 (m*1)).2=l at hx IE eD HB ⊢
 refine RL.ag U ?_
 iterate 2 refine RL.ag (bA) ?_
 iterate 2 refine RL.ag ai ?_
 refine RL.b6 (RL.ag ai (RL.ak (RW.seq (RW.block ?_))))
 refine RW.loop (fun k R w'=>∃i:Nat,∃vo:Value,∃xr:Value,R 12=vo∧R 10=xr∧R 2=vi 1∧R 3=.func (.func 94) #[] #[]∧(i*1+k=l.length)∧(Sl vb w' xr (l.drop (i*1)))∧(xr.ownBlock=x.ownBlock)∧(eG vb 5 w' w.heap.size vo (l.take i))∧(Ext w2 w')) l.length ?_ ?_
 exact⟨0,vN,x,rfl,rfl,rfl,rfl,by simp,by simpa using hx,rfl,by simpa using eG.nil _ _ _ _,Mod.refl _ _⟩
 rintro k R w' ⟨i,vo,xr,eP,df,bV,cd,gk,ua,Rh,ho,iZ⟩
 have cB:=jd eP df bV cd
 obtain⟨R0,rfl⟩:=cB
 clear eP df bV cd
 iterate 2 refine RW.seq ?_
 refine RW.region (RL.ag U (RL.ag (aQ acQ ua) (RL.ag (cr) (RL.ak ?_))))
 refine RW.aG _ (fun iI=>?_) (fun iI=>?_)
 refine RW.skip (aw (RW.seq (RW.block (RW.region ?_))))
 have Bm:(l.drop (i*1)).length=l.length-i*1:=by simp
 rw[Bm]at iI
 have h8:1≤l.length-i*1:=by obtain⟨c,hc⟩:=IE;omega
 have SC:i<l.length:=by omega
 have UG:=Qt.size
 have UF:=iZ.size
 iterate 4 refine RL.ag U ?_
 refine RL.ag (pS acQ vd ua rfl rfl (by decide) (by rw[Bm];omega)) ?_
 refine RL.aK (wT Tryz.func94 rfl rfl rfl rfl ((wk _ (l[i]'SC) _ (by have h:=ua.uQ (hi:=1) (by rw[Bm];omega);rwa [ahn,aeL SC,List.take_succ_cons,afb]at h)).mono ?_))
 rintro _ w3 ⟨rfl,rfl⟩
 have y8:Ext w' w':=Mod.refl _ _
 refine RL.aK (xW (enc:=vb) (l:=[l[i]'SC]) (xs:=[.tmp 54]) acQ vd Tt rfl rfl (fun _=>rfl) rfl (by decide) (by decide) ?_)
 intro w4 RP Lm Lf q9
 have mX:=y8.size
 have UE:=Lf.size
 refine RL.aK (iS acQ rL rfl (fun _=>rfl) (ho.ext (y8.trans Lf)) rfl RP.sl rfl (by simp only[acw,acF,acN,ac5];omega) (by decide) (by omega) ?_)
 intro v5 w5 On Ov XE
 have Cl:=(ua.ext (y8.trans Lf)).mod Ov (fun k hk e=>by have h1:=(ho.lt _ e).1;rw[Rh]at hk;have h2:=(TD _ hk).2.1;omega)
 have ZU:=ho.lt
 refine RL.ag ai (RL.nil (aY (aw (RW.region ?_))))
 iterate 2 refine RL.ag U ?_
 refine RL.ag (mz acQ vd Cl rfl rfl (by decide) (by rw[Bm];omega)) (RL.ag ai (RL.ak ?_))
 have jF:=Cl.mC (lo:=1) (by rw[Bm];omega)
 rw[afs,show i*1+1=(i+1)*1 by omega]at jF
 refine⟨k-1,by omega,i+1,v5,_,rfl,rfl,rfl,rfl,by omega,jF,(oR Cl _ _).trans Rh,?_,(iZ.trans (y8.trans Lf)).then Ov (fun x hx e=>by have:=(ho.lt _ e).1;omega)⟩
 rw[ad0 SC]
 exact On
 refine RW.exit ?_
 iterate 2 refine bS ?_
 refine ba (aw (RW.aN (RL.ag U (RL.ag ai (RL.ak (RW.ret (bb (RV.tmp rfl) ?_)))))))
 rw[adq]at iI
 have hi:i*1=l.length:=by omega
 refine⟨?_,Ao.ext iZ,Mod.trans Qt iZ (fun _ _=>id) (fun _ _ h=>h.elim)⟩
 rw[acX (by omega)]at ho
 exact ho
end Go.Proofs.YtngkdkbpgoddlaaGreat
namespace Go.Proofs.YtngkdkbpgoddlaaGreat
open Go.RowKit Go.Rl
open Go.dn
theorem zF (lo hi g:Nat) (s:St) (most:Int) (w:World) (hr:Rd 142 w lo hi g s) (nd:hi≤w.heap.size) (kD: -9223372036854775808≤most) (jv:most≤9223372036854775807) (kN:s.1.length≤140737488351232):aM acx 157 #[vP g,vi most] w fun r w'=>eG vi 3 w' w.heap.size r (de s most).2∧Rd 142 w' lo hi g (de s most).1∧Rl.Mod (fun k=>k=g) w w':=by
 refine aM.aZ ajO ?_
 rw[cT]
 refine RW.aN (RL.ag ai (RL.ak (RW.aN ?_)))
 iterate 2 refine RL.ag U ?_
 refine RL.aK (dK ajN rfl rfl rfl rfl rfl rfl ((xL lo hi g s most _ hr nd kD jv kN).mono ?_))
 rintro v1 w1 ⟨pG,pF,jv⟩
 refine RL.ag ai (RL.ak (RW.ret (bb (RV.tmp rfl) ?_)))
 exact⟨pG,pF,jv⟩
theorem zw (lo hi g:Nat) (s:St) (most:Int) (w:World) (hr:Rd 142 w lo hi g s) (nd:hi≤w.heap.size) (kD: -9223372036854775808≤most) (jv:most≤9223372036854775807) (kN:s.1.length≤140737488351232):aM acx 39 #[vP g,vi most] w fun r w'=>r=str (ep s most).2∧Rd 142 w' lo hi g (ep s most).1∧Rl.Mod (fun k=>k=g) w w':=by
 refine aM.aZ Tryz.func39 ?_
 rw[cT]
 refine RW.aN (RL.ag ai (RL.ak (RW.aN ?_)))
 iterate 2 refine RL.ag U ?_
 refine RL.aK (dK Tryz.func93 rfl rfl rfl rfl rfl rfl ((vx lo hi g s most _ hr nd kD jv kN).mono ?_))
 rintro v1 w1 ⟨pG,pF,jv⟩
 refine RL.ag (jP acQ adr aed pG.sl rfl) (RL.ag ai (RL.ak (RW.ret (bb (RV.tmp rfl) ?_))))
 exact⟨rfl,pF,jv⟩
theorem GP {lo hi g:Nat} {s s':St} {most:Int} {l:List Int} {w:World} (hr:Rd 142 w lo hi g s) (nd:hi≤w.heap.size) (kD: -9223372036854775808≤most) (jv:most≤9223372036854775807) (kN:s.1.length≤140737488351232) (hn:de s most=(s',l)):
    aM acx 157 #[vP g,vi most] w (fun r w'=>eG vi 3 w' w.heap.size r l∧Rd 142 w' lo hi g s'∧Rl.Mod (fun k=>k=g) w w'):=by
  have h:=zF lo hi g s most w hr nd kD jv kN
  rw[hn]at h
  exact h
theorem GN {lo hi g:Nat} {s s':St} {most:Int} {l:List UInt8} {w:World} (hr:Rd 142 w lo hi g s) (nd:hi≤w.heap.size) (kD: -9223372036854775808≤most) (jv:most≤9223372036854775807) (kN:s.1.length≤140737488351232) (hn:ep s most=(s',l)):
    aM acx 39 #[vP g,vi most] w (fun r w'=>r=str l∧Rd 142 w' lo hi g s'∧Rl.Mod (fun k=>k=g) w w'):=by
  have h:=zw lo hi g s most w hr nd kD jv kN
  rw[hn]at h
  exact h
theorem tb (a b:Value) (x y:List UInt8) (w:World) (ha:Sl vb w a x) (hb:Sl vb w b y):aM acx 11 #[a,b] w fun r w'=>r=.bool (decide (x=y))∧w=w':=by
 refine aM.aZ aiN ?_
 rw[cT]
 refine RW.aN (RL.ag ai (RL.b6 (RL.ag U (RL.ag (jP acQ adr aed ha rfl) (RL.ag U ?_)))))
 refine RL.ag (jP acQ adr aed hb rfl) (RL.ag (Jm rfl rfl) (RL.ag ai (RL.ak (RW.ret (bb (RV.tmp rfl) ?_)))))
 exact⟨rfl,rfl⟩
theorem td (a b:Value) (x y:List Int) (w:World) (ha:Sl vi w a x) (hb:Sl vi w b y):aM acx 88 #[a,b] w fun r w'=>r=.bool (decide (x=y))∧Ext w w':=by
 refine aM.aZ Tryz.func88 ?_
 rw[cT]
 refine RW.aN ?_
 have hlen:=ha.bw
 refine RL.ag ai (RL.ak ?_)
 iterate 2 refine RW.seq ?_
 refine RW.region (RL.ag U (RL.ag (aQ acu ha) (RL.ag U (RL.ag (aQ acu hb) (RL.ag (bj) (RL.ak ?_))))))
 refine RW.aG _ (fun dY=>?_) (fun dY=>?_)
 refine RW.aN (RL.ag ai (RL.ak (RW.ret (aT (bb (RV.tmp rfl) ?_)))))
 refine⟨?_,Mod.refl _ _⟩
 rw[decide_eq_false (fun e:x=y=>dY (by rw[e]))];rfl
 refine RW.skip (aw ?_)
 iterate 2 refine RW.seq ?_
 refine RW.region ?_
 have Mb:x.length=y.length:=by omega
 refine RL.ag ai (RL.ak (RW.block ?_))
 refine RW.loop (fun k R w'=>∃i:Nat,R 5=.int .i64 (i:Int)∧R 0=a∧R 1=b∧(i+k=x.length)∧(x.take i=y.take i)∧(Ext w w')) x.length ?_ ?_
 exact⟨0,rfl,rfl,rfl,by omega,by simp,Mod.refl _ _⟩
 rintro k R w' ⟨i,cx,cH,bP,gk,JT,iZ⟩
 have cB:=ln cx cH bP
 obtain⟨R0,rfl⟩:=cB
 clear cx cH bP
 iterate 2 refine RW.seq ?_
 refine RW.region ?_
 iterate 2 refine RL.ag U ?_
 refine RL.ag (aQ acu (ha.ext iZ)) (RL.ag (aL) (RL.ak ?_))
 refine RW.aG _ (fun cD=>?_) (fun cD=>?_)
 refine RW.skip (aw (RW.seq (RW.block (RW.seq (RW.draw rfl (fun u=>Ext w u) ?_)))))
 have hS:Ext w w'.drew:=iZ.trans (Ext.drew w')
 refine RA.take (i:=0) rfl rfl (by kernel_rfl) (by kernel_rfl) (by kernel_rfl) (by intro _ _ _ h;exact h) rfl hS (fun w hS=>U) (RA.take (i:=1) rfl rfl (by kernel_rfl) (by kernel_rfl) (by kernel_rfl) (by intro _ _ _ h;exact h) rfl hS (fun w hS=>U) (RA.take (i:=2) rfl rfl (by kernel_rfl) (by kernel_rfl) (by kernel_rfl) (by intro _ _ _ h;exact h) rfl hS (fun w hS=>(aC acu bK (ha.ext hS))) (RA.take (i:=3) rfl rfl (by kernel_rfl) (by kernel_rfl) (by kernel_rfl) (by intro _ _ _ h;exact h) rfl hS (fun w hS=>(lO (m:=(i:Int).toNat) acs rfl (ha.ext hS) rfl (by omega))) (RA.take (i:=4) rfl rfl (by kernel_rfl) (by kernel_rfl) (by kernel_rfl) (by intro _ _ _ h;exact h) rfl hS (fun w hS=>U) (RA.take (i:=5) rfl rfl (by kernel_rfl) (by kernel_rfl) (by kernel_rfl) (by intro _ _ _ h;exact h) rfl hS (fun w hS=>U) (RA.take (i:=6) rfl rfl (by kernel_rfl) (by kernel_rfl) (by kernel_rfl) (by intro _ _ _ h;exact h) rfl hS (fun w hS=>(aC acu bK (hb.ext hS))) (RA.take (i:=7) rfl rfl (by kernel_rfl) (by kernel_rfl) (by kernel_rfl) (by intro _ _ _ h;exact h) rfl hS (fun w hS=>(lO (m:=(i:Int).toNat) acs rfl (hb.ext hS) rfl (by omega))) (RA.take (i:=8) rfl rfl (by kernel_rfl) (by kernel_rfl) (by kernel_rfl) (by intro _ _ _ h;exact h) rfl hS (fun w hS=>(bj)) (RA.done (by kernel_rfl) ?_)))))))))
 refine aw ?_
 refine RW.aG _ (fun j7=>?_) (fun j7=>?_)
 refine RW.aN (RL.ag ai (RL.ak (RW.ret (aX ?_))))
 iterate 2 refine aT ?_
 refine aX (aT (bb (RV.tmp rfl) ?_))
 refine⟨?_,hS⟩
 rw[decide_eq_false (fun e:x=y=>j7 (by subst e;rfl))];rfl
 refine RW.skip (aY (aw (RW.region (RL.ag U (RL.ag (aD rfl rfl rfl (bh (by omega) (by omega))) (RL.ag ai (RL.ak ?_)))))))
 refine⟨k-1,by omega,i+1,rfl,rfl,rfl,by omega,?_,hS⟩
 rw[ad0 (show i<x.length by omega),ad0 (show i<y.length by omega),JT]
 simp only[aee,acU]at j7
 rw[j7]
 refine RW.exit ?_
 iterate 2 refine bS ?_
 refine ba (aw (RW.aN (RL.ag ai (RL.ak (RW.ret (bb (RV.tmp rfl) ?_))))))
 refine⟨?_,iZ⟩
 rw[acX (by omega),acX (by omega)]at JT
 rw[decide_eq_true JT];rfl
end Go.Proofs.YtngkdkbpgoddlaaGreat
namespace Go.Proofs.YtngkdkbpgoddlaaGreat
open Go.RowKit Go.Rl
open Go.dn
end Go.Proofs.YtngkdkbpgoddlaaGreat
namespace Go.Proofs.YtngkdkbpgoddlaaGreat
open Go.RowKit Go.Rl
open Go.dn
end Go.Proofs.YtngkdkbpgoddlaaGreat
namespace Go.Proofs.YtngkdkbpgoddlaaGreat
open Go.RowKit Go.Rl
open Go.jJ
theorem xC:(acx.info? 257).map (·.zero)=some (some (.agg (acY 256 (.int .u32 0)).toArray)):=by kernel_rfl
theorem BB (x:BitVec 32) (w:World):aM acx 210 #[u32 x] w fun v w'=>v=u32 (jJ.step x)∧w=w':=by
 refine aM.aZ ajP ?_
 rw[cM]
 refine RW.aN (RL.ag ai (RL.b6 (RL.ag U (RL.ag (nI rfl rfl (by decide) (Bc _ 1 (by decide))) (RL.ag U ?_)))))
 refine RL.ag (aD rfl rfl rfl (M8 _ 1#32)) (RL.ag (PB rfl (Tl _)) (RL.ag (aD rfl rfl rfl (M8 _ GX)) (RL.ag (aD rfl rfl rfl (JB _ _)) (RL.ag ai (RL.ak (RW.ret (bb (RV.tmp rfl) ?_)))))))
 exact⟨rfl,rfl⟩
theorem zo (w:World):aM acx 193 #[] w fun v w'=>v=.agg (jT 256).toArray∧Ext w w':=by
 refine aM.aZ ajQ ?_
 rw[Na]
 refine RW.aN ?_
 refine RL.aK (pw xC rfl ?_)
 intro w1 TP qB mQ
 refine RL.ak (RW.aN ?_)
 refine RL.aK (pw xC rfl ?_)
 intro w2 qC vV nX
 refine RL.ak ?_
 iterate 2 refine RW.seq ?_
 refine RW.region (RL.ag U (RL.ak (RW.block ?_)))
 refine RW.loop (fun k R w'=>∃i:Nat,R 4=.int .i64 (i:Int)∧R 0=.pointer (some ⟨w.heap.size,0,none⟩)∧R 1=.pointer (some ⟨w1.heap.size,0,none⟩)∧(i+k=256)∧(iu w' w.heap.size (acY 256 (.int .u32 0)) 257)∧(iu w' w1.heap.size (jT i) 257)∧(Ext w w')) 256 ?_ ?_
 exact⟨0,rfl,rfl,rfl,rfl,TP.ext vV,by rw[zp];exact qC,qB.trans vV⟩
 rintro k R w' ⟨i,cA,cH,bP,gk,XT,IK,iZ⟩
 have cB:=ln cA cH bP
 obtain⟨R0,rfl⟩:=cB
 clear cA cH bP
 refine RW.aN (RL.ag (aL) (RL.ak (RW.seq ?_)))
 refine RW.aG _ (fun cD=>?_) (fun cD=>?_)
 refine RW.skip (aw (RW.seq (RW.block (RW.aN (RL.ag U (RL.ag ai (RL.ak ?_)))))))
 refine RW.aN (RL.ag U (RL.ag (eA acs aeK rfl (Jw i)) (RL.ag ai (RL.ak ?_))))
 iterate 2 refine RW.seq ?_
 refine RW.region (RL.ag U (RL.ak (RW.block ?_)))
 refine RW.loop (fun k2 R2 Bt=>∃j:Nat,R2 9=.int .i64 (j:Int)∧R2 3=u32 (eY j (afe 32 i))∧R2 2=.int .i64 (i:Int)∧R2 4=.int .i64 (i:Int)∧R2 0=.pointer (some ⟨w.heap.size,0,none⟩)∧R2 1=.pointer (some ⟨w1.heap.size,0,none⟩)∧(j+k2=8)∧(Bt=w')) 8 ?_ ?_
 exact⟨0,rfl,rfl,rfl,rfl,rfl,rfl,rfl,rfl⟩
 rintro k2 R2 Bt ⟨j,eg,cd,bV,cA,cH,bP,E1,hw⟩
 have cB:=o9 eg cd bV cA cH bP
 obtain⟨R20,rfl⟩:=cB
 clear eg cd bV cA cH bP
 subst hw
 refine RW.aN (RL.ag (aL) (RL.ak (RW.seq ?_)))
 refine RW.aG _ (fun eD=>?_) (fun eD=>?_)
 refine RW.skip (aw (RW.seq (RW.block (RW.region (RL.ag U ?_)))))
 refine RL.aK (bo ajP rfl rfl rfl ((BB (eY j (afe 32 i)) _).mono ?_))
 rintro _ _ ⟨rfl,rfl⟩
 refine RL.ag ai (RL.nil (aY (aw (RW.region (RL.ag (aD rfl rfl rfl (bh (by omega) (by omega))) (RL.ag U (RL.ak ?_)))))))
 exact⟨k2-1,by omega,j+1,rfl,by rw[BC];rfl,rfl,rfl,rfl,rfl,by omega,rfl⟩
 refine RW.exit ?_
 iterate 2 refine bS ?_
 refine ba (aw (RW.region ?_))
 iterate 2 refine RL.ag U ?_
 refine RL.ag (rz afO Gq rfl rfl (by omega) (by omega)) ?_
 refine RL.aK (lE Gq rfl rfl rfl rfl IK (by rw[fK];omega) ?_)
 intro w3 Qr Qn RG
 refine RL.nil (aY (aw (RW.region (RL.ag (aD rfl rfl rfl (bh (by omega) (by omega))) (RL.ag U (RL.ak ?_))))))
 have hj8:j=8:=by omega
 subst hj8
 exact⟨k-1,by omega,i+1,rfl,rfl,rfl,by omega,XT.mod Qn (by omega),by rw[zq i];exact Qr,iZ.then Qn (by have:=iZ.size;omega)⟩
 refine RW.exit ?_
 iterate 2 refine bS ?_
 refine ba (aw (RW.aN (RL.ag (aE (cs:=jT 256) afO (by rw[fK];exact C7) (by rw[show i=256 from by omega]at IK;exact IK)) ?_)))
 refine RL.aK (ns (vs:=jT 256) (by rw[fK];exact C7) rfl rfl rfl (sU 256) XT (by rw[fK];simp) ?_)
 intro w4 Lm R8 q9
 refine RL.ak (RW.ret (bb (RV.cell rfl rfl Lm afO rfl (by rw[agP,fK];exact C7)) ?_))
 exact⟨rfl,iZ.then R8 (by omega)⟩
theorem B3 (n:BitVec 32) (v:Value) (l:List UInt8) (w:World) (hv:Sl vb w v l):aM acx 155 #[u32 n,v] w fun r w'=>r=u32 (jJ.more n l)∧Ext w w':=by
 refine aM.aZ ajR ?_
 rw[cT]
 refine RW.aN (RL.ag ai (RL.ak (RW.aN ?_)))
 refine RL.aK (ji ajQ rfl rfl ((zo _).mono ?_))
 rintro _ w1 ⟨rfl,qB⟩
 refine RL.aK (pw xC rfl ?_)
 intro w2 MT vV nX
 refine RL.aK (ns (vs:=jT 256) (by rw[fK];exact C7) rfl rfl rfl (sU 256) MT (by rw[fK];simp) ?_)
 intro w3 Qr Qn RG
 have y8:Ext w w3:=(qB.trans vV).then Qn (by have:=qB.size;omega)
 have UA:=hv.ext y8
 have hlen:=hv.bw
 refine RL.b6 (RL.ag U (RL.ag (A2 rfl (M7 _)) (RL.ag ai (RL.ak ?_))))
 iterate 2 refine RW.seq ?_
 refine RW.region (RL.ag U (RL.ag (aQ acQ UA) (RL.ag U (RL.ak (RW.block ?_)))))
 refine RW.loop (fun k R w'=>∃i:Nat,R 13=.int .i64 (i:Int)∧R 0=u32 (og (~~~n) (l.take i))∧R 11=v∧R 12=.int .i64 (l.length:Int)∧R 5=.pointer (some ⟨w1.heap.size,0,none⟩)∧(i+k=l.length)∧(w'=w3)) l.length ?_ ?_
 exact⟨0,rfl,rfl,rfl,rfl,rfl,by omega,rfl⟩
 rintro k R w' ⟨i,ft,cH,eQ,eP,cx,gk,hw⟩
 have cB:=iw ft cH eQ eP cx
 obtain⟨R0,rfl⟩:=cB
 clear ft cH eQ eP cx
 subst hw
 refine RW.aN (RL.ag (aL) (RL.ak (RW.seq ?_)))
 refine RW.aG _ (fun cD=>?_) (fun cD=>?_)
 refine RW.skip (aw (RW.seq (RW.block (RW.aN (RL.ag (aC acQ vd UA) (RL.ag (lO adr rfl UA rfl (by omega)) (RL.ag ai (RL.nil ?_))))))))
 refine aw (RW.region (RL.ag U (RL.ag (nI rfl rfl (by decide) (Bc _ 8 (by decide))) (RL.ag U (RL.ag (eA aeK adr rfl (Tj _)) (RL.ag U (RL.ag (aD rfl rfl rfl (PI _ _)) (RL.ag (rz afO Gq rfl rfl (by omega) (by have:=JE (og (~~~n) (l.take i)^^^wide l[(i:Int).toNat]);omega)) (RL.ag (AZ aeK rfl rfl Qr (Kj _ (JE _))) ?_)))))))))
 refine RL.ag (aD rfl rfl rfl (Tg _ _)) (RL.ag ai (RL.nil (aY (aw (RW.region (RL.ag (aD rfl rfl rfl (bh (by omega) (by omega))) (RL.ag U (RL.ak ?_))))))))
 refine⟨k-1,by omega,i+1,rfl,?_,rfl,rfl,rfl,by omega,rfl⟩
 rw[←B4 (~~~n) l i (by omega)];rfl
 refine RW.exit ?_
 iterate 2 refine bS ?_
 refine ba (aw (RW.aN (RL.ag U (RL.ag (A2 rfl (M7 _)) (RL.ag ai (RL.ak (RW.ret ?_)))))))
 refine bb (RV.tmp rfl) ?_
 refine⟨?_,y8⟩
 show u32 (~~~(og (~~~n) (l.take i)))=_
 rw[acX (by omega)];rfl
theorem wD (v:Value) (l:List UInt8) (w:World) (hv:Sl vb w v l):aM acx 92 #[v] w fun r w'=>r=u32 (jJ.sum l)∧Ext w w':=by
 refine aM.aZ aiO ?_
 rw[cM]
 refine RW.aN (RL.ag ai (RL.b6 (RL.ag U ?_)))
 refine RL.aK (bu ajR rfl rfl rfl rfl ((B3 0#32 v l _ hv).mono ?_))
 rintro _ w1 ⟨rfl,qB⟩
 refine RL.ag ai (RL.ak (RW.ret (bb (RV.tmp rfl) ?_)))
 exact⟨rfl,qB⟩
theorem sT (n:BitVec 32) (w:World):aM acx 91 #[u32 n] w fun r w'=>eG vb 5 w' w.heap.size r (nm n)∧Ext w w':=by
 refine aM.aZ aiP ?_
 rw[cM]
 refine RW.aN (RL.ag ai (RL.b6 (RL.ag U (RL.ag (eA aeK adr rfl (LK _)) (RL.ag U ?_)))))
 refine RL.ag (nI rfl rfl (by decide) (Bc _ 8 (by decide))) (RL.ag (eA aeK adr rfl (CU _ 8)) (RL.ag U (RL.ag (nI rfl rfl (by decide) (Bc _ 16 (by decide))) (RL.ag (eA aeK adr rfl (CU _ 16)) (RL.ag U (RL.ag (nI rfl rfl (by decide) (Bc _ 24 (by decide))) (RL.ag (eA aeK adr rfl (CU _ 24)) ?_)))))))
 refine RL.aK (xW (enc:=vb) (l:=nm n) (xs:=[.tmp 4,.tmp 7,.tmp 10,.tmp 13]) acQ vd Tt rfl rfl Gc rfl (by decide) (by decide) ?_)
 intro w1 pG qC qB mQ
 refine RL.ag ai (RL.ak (RW.ret (bb (RV.tmp rfl) ?_)))
 exact⟨pG,qB⟩
theorem Bq (v:Value) (l:List UInt8) (w:World) (hv:Sl vb w v l) (hl:l.length≤140737488355324):aM acx 49 #[v] w fun r w'=>eG vb 5 w' w.heap.size r (l++nm (jJ.sum l))∧Ext w w':=by
 refine aM.aZ Tryz.func49 ?_
 rw[cM]
 refine RW.aN (RL.ag ai (RL.b6 (RL.ag U ?_)))
 refine RL.aK (iS (l:=[]) acQ rL rfl oC (eG.nil vb 5 w w.heap.size) rfl hv rfl (by simp;omega) (by decide) (ac3 _) ?_)
 intro v1 w1 pG jv HU
 rw[aeE]at pG
 have qB:Ext w w1:=jv.mono (by intro i _ h;cases h)
 refine RL.ag ai (RL.ak (RW.aN ?_))
 iterate 2 refine RL.ag U ?_
 refine RL.aK (bo aiO rfl rfl rfl ((wD v l _ (hv.ext qB)).mono ?_))
 rintro _ w2 ⟨rfl,vV⟩
 refine RL.aK (bo aiP rfl rfl rfl ((sT (jJ.sum l) _).mono ?_))
 rintro vt w3 ⟨UR,y8⟩
 refine RL.aK (iS acQ rL rfl oC (pG.ext (vV.trans y8)) rfl UR.sl rfl (by simp[nm];omega) (by decide) (by have:=qB.size;have:=vV.size;have:=y8.size;omega) ?_)
 intro v4 w4 RP R8 XG
 refine RL.ag ai (RL.ak (RW.ret (bb (RV.tmp rfl) ?_)))
 exact⟨RP,((qB.trans vV).trans y8).then R8 (fun i hi e=>by have:=(pG.lt _ e).1;omega)⟩
theorem BX (v:Value) (l:List UInt8) (w:World) (hv:Sl vb w v l) (hl:l.length≤140737488355328):aM acx 38 #[v] w fun r w'=>(jW l=true∧∃x,r=.tuple #[x,.int .i64 0]∧eG vb 5 w' w.heap.size x (l.take (l.length-4))∧Ext w w')∨(jW l=false∧r=.tuple #[vN,.int .i64 5]∧Ext w w'):=by
 refine aM.aZ Tryz.func38 ?_
 rw[cM]
 refine RW.aN ?_
 iterate 2 refine RL.ag ai ?_
 refine RL.ak (RW.aN ?_)
 have hlen:=hv.bw
 refine RL.ag U (RL.ag (aQ acQ hv) (RL.ag (aD rfl rfl rfl (pg (by omega) (by omega))) (RL.ag ai (RL.ak ?_))))
 iterate 2 refine RW.seq ?_
 by_cases Cr:(l.length:Int)-4<0
 refine RW.draw rfl (fun w'=>Ext w w') ?_
 have hS:Ext w w.drew:=Ext.drew w
 have rO:decide ((l.length:Int)-4<0)=true:=decide_eq_true Cr
 refine RA.take (i:=0) rfl rfl (by kernel_rfl) (by kernel_rfl) (by kernel_rfl) (by intro _ _ _ h;exact h) rfl hS (fun w hS=>U) (RA.take (i:=1) rfl rfl (by kernel_rfl) (by kernel_rfl) (by kernel_rfl) (by intro _ _ _ h;exact h) rfl hS (fun w hS=>(aL)) (RA.take (i:=2) rfl rfl (by kernel_rfl) (by kernel_rfl) (by kernel_rfl) (by intro _ _ _ h;exact h) rfl hS (fun w hS=>U) (RA.je (i:=3) rfl rfl rfl (by decide) (congrArg acO rO) (by kernel_rfl) (by kernel_rfl) (by kernel_rfl) (by intro _ _ _ h;exact h) rfl hS (RA.je (i:=4) rfl rfl rfl (by decide) (congrArg acO rO) (by kernel_rfl) (by kernel_rfl) (by kernel_rfl) (by intro _ _ _ h;exact h) rfl hS (RA.je (i:=5) rfl rfl rfl (by decide) (congrArg acO rO) (by kernel_rfl) (by kernel_rfl) (by kernel_rfl) (by intro _ _ _ h;exact h) rfl hS (RA.je (i:=6) rfl rfl rfl (by decide) (congrArg acO rO) (by kernel_rfl) (by kernel_rfl) (by kernel_rfl) (by intro _ _ _ h;exact h) rfl hS (RA.je (i:=7) rfl rfl rfl (by decide) (congrArg acO rO) (by kernel_rfl) (by kernel_rfl) (by kernel_rfl) (by intro _ _ _ h;exact h) rfl hS (RA.je (i:=8) rfl rfl rfl (by decide) (congrArg acO rO) (by kernel_rfl) (by kernel_rfl) (by kernel_rfl) (by intro _ _ _ h;exact h) rfl hS (RA.je (i:=9) rfl rfl rfl (by decide) (congrArg acO rO) (by kernel_rfl) (by kernel_rfl) (by kernel_rfl) (by intro _ _ _ h;exact h) rfl hS ?_)))))))))
 refine RA.je (i:=10) rfl rfl rfl (by decide) (congrArg acO rO) (by kernel_rfl) (by kernel_rfl) (by kernel_rfl) (by intro _ _ _ h;exact h) rfl hS (RA.je (i:=11) rfl rfl rfl (by decide) (congrArg acO rO) (by kernel_rfl) (by kernel_rfl) (by kernel_rfl) (by intro _ _ _ h;exact h) rfl hS (RA.je (i:=12) rfl rfl rfl (by decide) (congrArg acO rO) (by kernel_rfl) (by kernel_rfl) (by kernel_rfl) (by intro _ _ _ h;exact h) rfl hS (RA.je (i:=13) rfl rfl rfl (by decide) (congrArg acO rO) (by kernel_rfl) (by kernel_rfl) (by kernel_rfl) (by intro _ _ _ h;exact h) rfl hS (RA.take (i:=14) rfl rfl (by kernel_rfl) (by kernel_rfl) (by kernel_rfl) (by intro _ _ _ h;exact h) rfl hS (fun w hS=>(AV (by exact congrArg acO rO))) (RA.done (by kernel_rfl) (aw (RW.bF (RW.aN ?_))))))))
 iterate 2 refine RL.ag ai ?_
 refine RL.ak (RW.ret (aT (bb (RV.ju rfl) ?_)))
 refine .inr ⟨?_,rfl,Ext.drew w⟩
 unfold jW;exact decide_eq_false (by omega)
 refine RW.draw rfl (fun w'=>Ext w w') ?_
 have hS:Ext w w.drew:=Ext.drew w
 have rO:decide ((l.length:Int)-4<0)=false:=decide_eq_false Cr
 have UC:((l.length:Int)-4).toNat=l.length-4:=by omega
 refine RA.take (i:=0) rfl rfl (by kernel_rfl) (by kernel_rfl) (by kernel_rfl) (by intro _ _ _ h;exact h) rfl hS (fun w hS=>U) (RA.take (i:=1) rfl rfl (by kernel_rfl) (by kernel_rfl) (by kernel_rfl) (by intro _ _ _ h;exact h) rfl hS (fun w hS=>(aL)) (RA.take (i:=2) rfl rfl (by kernel_rfl) (by kernel_rfl) (by kernel_rfl) (by intro _ _ _ h;exact h) rfl hS (fun w hS=>U) (RA.nj (i:=3) rfl rfl rfl (by decide) (congrArg acO rO) (by kernel_rfl) (by kernel_rfl) (by kernel_rfl) (by intro _ _ _ h;exact h) rfl hS (fun w hS=>U) (RA.nj (i:=4) rfl rfl rfl (by decide) (congrArg acO rO) (by kernel_rfl) (by kernel_rfl) (by kernel_rfl) (by intro _ _ _ h;exact h) rfl hS (fun w hS=>U) (RA.nj (i:=5) rfl rfl rfl (by decide) (congrArg acO rO) (by kernel_rfl) (by kernel_rfl) (by kernel_rfl) (by intro _ _ _ h;exact h) rfl hS (fun w hS=>(pS acQ vd (hv.ext hS) rfl rfl (by omega) (by omega))) (RA.nj (i:=9) rfl rfl rfl (by decide) (congrArg acO rO) (by kernel_rfl) (by kernel_rfl) (by kernel_rfl) (by intro _ _ _ h;exact h) rfl hS (fun w hS=>U) (RA.nj (i:=10) rfl rfl rfl (by decide) (congrArg acO rO) (by kernel_rfl) (by kernel_rfl) (by kernel_rfl) (by intro _ _ _ h;exact h) rfl hS (fun w hS=>U) (RA.nj (i:=11) rfl rfl rfl (by decide) (congrArg acO rO) (by kernel_rfl) (by kernel_rfl) (by kernel_rfl) (by intro _ _ _ h;exact h) rfl hS (fun w hS=>(mz acQ vd (hv.ext hS) rfl rfl (by omega) (by omega))) ?_))))))))
 refine RA.nj (i:=12) rfl rfl rfl (by decide) (congrArg acO rO) (by kernel_rfl) (by kernel_rfl) (by kernel_rfl) (by intro _ _ _ h;exact h) rfl hS (fun w hS=>(jP acQ adr aed ((hv.ext hS).mC (by omega)) rfl)) ?_
 refine RA.B0 (i:=6) (by kernel_rfl) rfl rfl rfl (by decide) (congrArg acO rO) rfl (bo aiO rfl rfl rfl ((wD _ _ _ ((hv.ext hS).uQ (by omega))).mono ?_))
 rintro _ w1 ⟨rfl,qB⟩
 have X3:Ext w w1:=hS.trans qB
 refine⟨X3,?_⟩
 clear hS
 have hS:=X3
 refine RA.B0 (i:=7) (by kernel_rfl) rfl rfl rfl (by decide) (congrArg acO rO) rfl (bo aiP rfl rfl rfl ((sT _ _).mono ?_))
 rintro vt w2 ⟨UR,vV⟩
 have TQ:Ext w w2:=hS.trans vV
 refine⟨TQ,?_⟩
 clear hS
 have hS:=TQ
 refine RA.B0 (i:=8) (by kernel_rfl) rfl rfl rfl (by decide) (congrArg acO rO) rfl (eL.ev (jP acQ adr aed UR.sl rfl) ⟨hS,?_⟩)
 refine RA.nj (i:=13) rfl rfl rfl (by decide) (congrArg acO rO) (by kernel_rfl) (by kernel_rfl) (by kernel_rfl) (by intro _ _ _ h;exact h) rfl hS (fun w hS=>(AU rfl rfl)) (RA.take (i:=14) rfl rfl (by kernel_rfl) (by kernel_rfl) (by kernel_rfl) (by intro _ _ _ h;exact h) rfl hS (fun w hS=>(AW (by exact congrArg acO rO))) (RA.done (by kernel_rfl) (aw ?_)))
 refine RW.aG _ (fun dY=>?_) (fun dY=>?_)
 simp only[UC]at dY
 refine RW.aN ?_
 iterate 2 refine RL.ag ai ?_
 refine RL.ak (RW.ret (aT (bb (RV.ju rfl) ?_)))
 first
   |exact .inl ⟨by unfold jW;exact decide_eq_true ⟨by omega,acU.1 dY⟩,v5,rfl,On,XQ⟩
   |exact .inr ⟨by unfold jW;exact decide_eq_false (fun h=>dY h.2),rfl,hS⟩
 simp only[UC]at dY
 refine RW.skip (aw (RW.aN ?_))
 iterate 2 refine RL.ag U ?_
 refine RL.ag (pS acQ vd (hv.ext hS) rfl rfl (by omega) (by omega)) ?_
 refine RL.aK (iS (l:=[]) acQ rL rfl oC (eG.nil vb 5 _ w.heap.size) rfl ((hv.ext hS).uQ (by omega)) rfl (by simp;omega) (by decide) hS.size ?_)
 intro v5 w5 On Ov XE
 rw[aeE,UC]at On
 have XQ:Ext w w5:=hS.trans (Ov.mono (by intro i _ h;cases h))
 iterate 2 refine RL.ag ai ?_
 refine RL.ak (RW.ret (bb (RV.ju rfl) ?_))
 first
   |exact .inl ⟨by unfold jW;exact decide_eq_true ⟨by omega,acU.1 dY⟩,v5,rfl,On,XQ⟩
   |exact .inr ⟨by unfold jW;exact decide_eq_false (fun h=>dY h.2),rfl,hS⟩
end Go.Proofs.YtngkdkbpgoddlaaGreat
namespace Go.Proofs.YtngkdkbpgoddlaaGreat
open Go.RowKit Go.Rl
open Go.jJ
end Go.Proofs.YtngkdkbpgoddlaaGreat
namespace Go.Proofs.YtngkdkbpgoddlaaGreat
open Go.RowKit Go.Rl
open Go.jJ
end Go.Proofs.YtngkdkbpgoddlaaGreat
namespace Go.dn
open Go.Rl
section
variable {w0 w w':World} {F:Nat→Prop} {L:List Atom} {a a' b:Atom}
theorem Ke (h:aI w0 F w L) (i:Nat) (hi:L[i]?=some a) (hm:Rl.Mod a.dT w w') (hs:a'.says w') (hf:∀k,a'.dT k→a.dT k) (hb:b.says w') (V2:∀k,b.dT k→w.heap.size≤k∧k<w'.heap.size):aI w0 F w' (b::L.set i a'):=by
  have hU:=h.dw i hi hm hs (fun k hk=>⟨.inl (hf k hk),ad7 (h.low i a hi k (hf k hk)).2 hm.size⟩)
  refine hU.add hb (fun k hk=>⟨acR h.size (V2 k hk).1,(V2 k hk).2⟩) fun j c hc k hk jb=>?_
  have cD:k<w.heap.size:=by
    rw[adi]at hc
    split at hc
    · split at hc
      · cases hc;exact(h.low i a hi k (hf k hk)).2
      · cases hc
    · exact(h.low j c hc k hk).2
  have:=(V2 k jb).1
  omega
def dI (T:TypeId) (lo hi g:Nat) (s:St):Atom where
  dT k:=lo≤k∧k<hi
  says w:=Rd T w lo hi g s
  kp:=by
    intro w w' h hs
    obtain⟨hb,hc,v,h1,⟨A,c,hv,l1,l2,fE⟩,h3⟩:=hs
    refine⟨hb,hc,v,?_,⟨A,c,hv,l1,l2,fun j u hj=>?_⟩,h3⟩
    · unfold iu at *
      exact(h g ⟨hb,hc⟩ (ado.1 h1).1).trans h1
    · obtain ⟨ad, e, hq⟩ := fE j u hj
      refine⟨ad,e,?_⟩
      have Qq:=block_lt_of_cell hq
      have hk:v.ownBlock=some ad.block:=by rw[hv,e];rfl
      rw[block_add]at Qq
      exact(aeP (by rw[block_add];exact h _ ⟨(h3 _ hk).1,(h3 _ hk).2.1⟩ Qq)).trans hq
theorem dI.says {T:TypeId} {lo hi g:Nat} {s:St} (h:aI w0 F w L) (i:Nat) (iy:L[i]?=some (dI T lo hi g s)):Rd T w lo hi g s:=h.says i _ iy
theorem Kw {T:TypeId} {lo hi g:Nat} {s s':St} (h:aI w0 F w L) (i:Nat) (iy:L[i]?=some (dI T lo hi g s)) (hr:Rd T w' lo hi g s') (hm:Rl.Mod (fun k=>k=g) w w'):aI w0 F w' (L.set i (dI T lo hi g s')):=by
  have h0:=dI.says h i iy
  refine h.dw i iy (hm.mono fun k _ e=>?_) hr fun k hk=>⟨.inl hk,ad7 (h.low i _ iy k hk).2 hm.size⟩
  cases e;exact⟨h0.1,h0.2.1⟩
theorem NN {α:Type} {enc:α→Value} {E T:TypeId} {lo hi g:Nat} {s s':St} {v:Value} {l:List α} (h:aI w0 F w L) (i:Nat) (iy:L[i]?=some (dI T lo hi g s)) (ho:eG enc E w' w.heap.size v l) (hr:Rd T w' lo hi g s') (hm:Rl.Mod (fun k=>k=g) w w'):
    aI w0 F w' (.own enc E v l::L.set i (dI T lo hi g s')):=by
  have h0:=dI.says h i iy
  refine Ke h i iy (hm.mono fun k _ e=>?_) hr (fun _ hk=>hk) (ho.lower (adO _)) (fun k hk=>ho.lt k hk)
  cases e;exact⟨h0.1,h0.2.1⟩
theorem L4 {T:TypeId} {lo hi g:Nat} {s:St} (h:aI w0 F w L) (i:Nat) (iy:L[i]?=some (dI T lo hi g s)):hi≤w.heap.size:=by
  have h0:=dI.says h i iy
  have cD:lo<hi:=ac8 h0.1 h0.2.1
  have:=(h.low i _ iy (hi-1) ⟨by omega,by omega⟩).2
  omega
theorem Dc {T:TypeId} {g:Nat} {s:St} (h:aI w0 F w L) (hr:Rd T w' w.heap.size w'.heap.size g s) (he:Ext w w'):aI w0 F w' (dI T w.heap.size w'.heap.size g s::L):=
  h.push he hr fun k hk=>hk
end
end Go.dn
namespace Go.Proofs.YtngkdkbpgoddlaaGreat
open Go.RowKit Go.Rl
open Go.dn Go.jJ
theorem fy (v:Value) (hs:List Hd) (ls:List (List UInt8)) (w:World) (hv:Sl vh w v hs) (jt:fW none_ vb w hs ls) (fb:dX ls≤140737488351232):aM acx 18 #[v] w fun r w'=>eG vb 5 w' w.heap.size r (cP ls)∧Ext w w':=by
 refine aM.aZ aeG ?_
 rw[cM]
 have hN:=aI.nil w none_
 have hl0:=jt.1
 have hm8:=EF ls
 refine RW.aN (RL.ag ai (RL.b6 (RL.ag ai (RL.ak ?_))))
 iterate 2 refine RW.seq ?_
 refine RW.region (RL.ag U ?_)
 have nG:=(hv.ext hN.bc).bw
 refine RL.ag (aQ adA (hv.ext hN.bc)) (RL.ag U (RL.ak (RW.block ?_)))
 replace hN:=hN.dD vb 5
 refine RW.loop (fun k R0 cz=>∃vo:Value,∃acc:List UInt8,∃i:Nat,R0 3=vo∧R0 6=v∧R0 7=.int .i64 ((hs.length:Int))∧R0 8=vJ i∧aI w none_ cz [.own vb 5 (vo) (acc)]∧(i+k=hs.length)∧(acc=cP (ls.take i))) (hs.length) ?_ ?_
 exact⟨vN,[],0,rfl,rfl,rfl,rfl,hN,by omega,rfl⟩
 clear hN
 rintro k R0 cz ⟨vo,acc,i,cd,cW,cF,cR,hN,gk,na⟩
 have cB:=jd cd cW cF cR
 obtain⟨gF,rfl⟩:=cB
 clear cd cW cF cR
 refine RW.aN (RL.ag (aL) (RL.ak (RW.seq ?_)))
 refine RW.aG _ (fun cD=>?_) (fun cD=>?_)
 refine RW.skip (aw (RW.seq (RW.block (RW.aN (RL.ag (aC adA jK (hv.ext hN.bc)) ?_)))))
 have aO:=da (hs) i
 obtain⟨ap,bX⟩:=aO
 have aO:∃l_,(ls)[i]?=some l_:=⟨_,acE (by have:=jt.1;omega)⟩
 obtain⟨lp,ey⟩:=aO
 refine RL.ag (aF (m:=i) (a:=ap) acQ (hv.ext hN.bc) bX) ?_
 have Vh:=Ce ey
 have hmt:=B9 ey
 have hml:=He ls (i+1)
 have Sz:=dZ (ls.take i)
 have ir:acc.length=dX (ls.take i):=by rw[na,Sz]
 refine RL.ag ai (RL.ak (RW.region ?_))
 iterate 2 refine RL.ag U ?_
 refine RL.aK (bo Tryz.func49 rfl rfl rfl ((Bq _ lp _ ((jt.2 _ _ _ bX ey).1.ext hN.bc) (by(try simp only[acw,ac5,adq,ck,eO,dz,eH,acN,acF]);omega)).mono ?_))
 rintro v3 w3 ⟨cL,bn⟩
 replace hN:aI w none_ w3 [_,_]:=hN.cc (l:=mK lp) cL bn
 clear cL bn
 refine RL.ag (jP acQ adr aed (hN.sl 0 rfl) rfl) ?_
 refine RL.aK (bo Tryz.func48 rfl rfl rfl ((Bz (mK lp) _ (by(try simp only[acw,ac5,adq,ck,eO,dz,eH,acN,acF]);omega)).mono ?_))
 rintro v4 w4 ⟨cL,bn⟩
 replace hN:aI w none_ w4 [_,_,_]:=hN.cc (l:=jE (mK lp)) cL bn
 clear cL bn
 refine RL.aK (b9 acQ rL rfl oC hN 2 rfl rfl (hN.sl 0 rfl) rfl (by rw[eO,eH];omega) (by decide) ?_)
 clear hN
 intro v5 w5 (hN:aI w none_ w5 [_,_,_])
 refine RL.ag ai (RL.nil (aY (aw (RW.region (RL.ag (aD rfl rfl rfl (bh (by omega) (by omega))) (RL.ag U (RL.ak ?_)))))))
 exact⟨k-1,by omega,v5,acc++(jE (mK lp)),i+1,rfl,rfl,rfl,rfl,(hN.sb [2]),by omega,by rw[Vh,na]⟩
 refine RW.exit ?_
 iterate 2 refine bS ?_
 refine ba (aw (RW.aN (RL.ag U (RL.ag ai (RL.ak (RW.ret (bb (RV.tmp rfl) ?_)))))))
 exact⟨(hN.fL 0 rfl).l0 (by rw[na,acX (by omega)]),hN.bc⟩
end Go.Proofs.YtngkdkbpgoddlaaGreat
namespace Go.Proofs.YtngkdkbpgoddlaaGreat
open Go.RowKit Go.Rl
open Go.Gr Go.dn Go.jJ
theorem mF (fi:FuncId) (fn:Func) (fd:I3→Int) (SG:acx.funcs[fi]?=some fn) (DB:(fn.name == "runtime.NumGoroutine")=false) (SI:fn.body.isSome=true) (SH:∀(a:I3) (w:World),aM acx fi #[.agg #[.int .i64 a.1,.int .i64 a.2.1,.int .i64 a.2.2]] w fun r w'=>r=.int .i64 (fd a)∧Ext w w') (v:Value) (l:List I3) (w:World) (hv:Sm bJ w v l) (hl:l.length≤67108864):aM acx 71 #[v,.func (.func fi) #[] #[]] w fun r w'=>eG vb 5 w' w.heap.size r (bE (l.map fd))∧Ext w w':=by
 refine aM.aZ ahx ?_
 rw[cT]
 have hN:=aI.nil w none_
 refine RW.aN (RL.ag (v:=vN) ai (RL.b6 (RL.ag (v:=vN) ai (RL.ak ?_))))
 iterate 2 refine RW.seq ?_
 refine RW.region (RL.ag (v:=v) U ?_)
 have nG:=(hv.o.now hN).bw
 refine RL.ag (bO acM (hv.o.now hN)) (RL.ag (v:=.int .i64 (0)) U (RL.ak (RW.block ?_)))
 replace hN:=hN.dD vi 3
 refine RW.loop (fun k R0 cz=>∃va:Value,∃acc:List Int,∃i:Nat,R0 1=.func (.func fi) #[] #[]∧R0 5=va∧R0 8=v∧R0 9=.int .i64 ((l.length:Int))∧R0 10=vJ i∧aI w none_ cz [.own vi 3 (va) (acc)]∧(i+k=l.length)∧(acc=(l.take i).map fd)∧(acc.length=i)) (l.length) ?_ ?_
 exact⟨vN,[],0,rfl,rfl,rfl,rfl,rfl,hN,by omega,rfl,rfl⟩
 clear hN
 rintro k R0 cz ⟨va,acc,i,bP,cx,cR,eg,df,hN,gk,ha,ir⟩
 have cB:=iw bP cx cR eg df
 obtain⟨gF,rfl⟩:=cB
 clear bP cx cR eg df
 refine RW.aN (RL.ag (aL) (RL.ak (RW.seq ?_)))
 refine RW.aG _ (fun cD=>?_) (fun cD=>?_)
 refine RW.skip (aw (RW.seq (RW.block (RW.aN (RL.ag (aU acM dr bf (hv.o.now hN)) ?_)))))
 have aO:=da (l) i
 obtain⟨ap,bX⟩:=aO
 refine RL.ag (b8 (m:=i) (a:=ap) acP dr bf (hv.o.now hN) bX (cs:=[.int .i64 (ap.1),.int .i64 (ap.2.1),.int .i64 (ap.2.2)])) ?_
 refine RL.aK (bz (cs:=[.int .i64 (0),.int .i64 (0),.int .i64 (0)]) fS rfl hN ?_)
 clear hN
 intro g3 w3 (hN:aI w none_ w3 [_,_])
 refine RL.aK (aR (vs:=[.int .i64 (ap.1),.int .i64 (ap.2.1),.int .i64 (ap.2.2)]) dr rfl rfl rfl (aW (aW (aW cZ))) hN 0 rfl rfl ?_)
 clear hN
 intro w4 (hN:aI w none_ w4 [_,_])
 refine RL.ak (RW.region (RL.ag (v:=va) U (RL.ag (v:=.func (.func fi) #[] #[]) U (RL.ag (aE (cs:=[.int .i64 (ap.1),.int .i64 (ap.2.1),.int .i64 (ap.2.2)]) acP dr (hN.aJ 0 rfl)) ?_))))
 refine RL.aK (cG (first:=#[]) (captured:=#[]) (v0:=.agg #[.int .i64 (ap.1),.int .i64 (ap.2.1),.int .i64 (ap.2.2)]) (args:=#[.agg #[.int .i64 (ap.1),.int .i64 (ap.2.1),.int .i64 (ap.2.2)]]) SG DB SI (by simp) rfl rfl ((SH ap _).mono ?_))
 rintro _ w5 ⟨rfl,bn⟩
 replace hN:=hN.ext bn
 clear bn
 refine RL.aK (cw (enc:=vi) (l:=[(fd ap)]) (xs:=[.tmp 17]) acu bK mU rfl rfl (fun _=>rfl) rfl (by decide) (by decide) hN ?_)
 clear hN
 intro g6 w6 (hN:aI w none_ w6 [_,_,_])
 refine RL.aK (b9 acu gz rfl (fun _=>rfl) hN 2 rfl rfl (hN.sl 0 rfl) rfl (by rw[ir];simp only[acC,acF,acN];omega) (by decide) ?_)
 clear hN
 intro v7 w7 (hN:aI w none_ w7 [_,_,_])
 refine RL.ag (v:=v7) ai (RL.nil (aY (aw (RW.region (RL.ag (aD rfl rfl rfl (bh (by omega) (by omega))) (RL.ag (v:=.int .i64 ((i:Int)+1)) U (RL.ak ?_)))))))
 exact⟨k-1,by omega,v7,acc++[(fd ap)],i+1,rfl,rfl,rfl,rfl,rfl,(hN.sb [2]),by omega,by rw[eI _ bX,ha],by rw[acw,ir];rfl⟩
 refine RW.exit ?_
 iterate 2 refine bS ?_
 refine ba (aw (RW.seq ?_))
 have iy:i=l.length:=by omega
 refine RW.region (RL.ag (v:=va) U ?_)
 refine RL.aK (bo aeO rfl rfl rfl ((fM _ acc _ (hN.sl 0 rfl) (by(try simp only[acw,ac5,adq,acN,acF,acC,ac7,acw,ac4]);omega)).mono ?_))
 rintro v8 w8 ⟨cL,bn⟩
 replace hN:aI w none_ w8 [_,_]:=hN.cc (l:=bE acc) cL bn
 clear cL bn
 refine RL.ag (v:=v8) ai (RL.ak (RW.ret (bb (RV.tmp rfl) ?_)))
 rw[iy,adn]at ha
 subst ha
 exact⟨hN.fL 0 rfl,hN.bc⟩
theorem wb (a:I3) (w:World):aM acx 72 #[.agg #[.int .i64 a.1,.int .i64 a.2.1,.int .i64 a.2.2]] w fun r w'=>r=.int .i64 a.1∧Ext w w':=by
 refine aM.aZ Tryz.func72 ?_
 rw[cM]
 have hN:=aI.nil w none_
 refine RW.aN ?_
 refine RL.aK (bL (cs:=[.int .i64 (a.1),.int .i64 (a.2.1),.int .i64 (a.2.2)]) rfl rfl hN ?_)
 clear hN
 intro g1 w1 (hN:aI w none_ w1 [_])
 refine RL.ag (v:=.int .i64 (0)) ai (RL.b6 (RL.ag (ah acP rfl bK) (RL.ag (aj acs (hN.aJ 0 rfl)) (RL.ag (v:=.int .i64 (a.1)) ai (RL.ak ?_)))))
 refine RW.ret (bb (RV.tmp rfl) ?_)
 exact⟨rfl,hN.bc⟩
theorem wi (v:Value) (l:List I3) (w:World) (hv:Sm bJ w v l) (hl:l.length≤67108864):aM acx 71 #[v,.func (.func 72) #[] #[]] w fun r w'=>eG vb 5 w' w.heap.size r (bE (l.map fun a=>a.1))∧Ext w w':=
  mF 72 _ (fun a=>a.1) Tryz.func72 rfl rfl wb v l w hv hl
theorem wa (a:I3) (w:World):aM acx 73 #[.agg #[.int .i64 a.1,.int .i64 a.2.1,.int .i64 a.2.2]] w fun r w'=>r=.int .i64 a.2.1∧Ext w w':=by
 refine aM.aZ Tryz.func73 ?_
 rw[cM]
 have hN:=aI.nil w none_
 refine RW.aN ?_
 refine RL.aK (bL (cs:=[.int .i64 (a.1),.int .i64 (a.2.1),.int .i64 (a.2.2)]) rfl rfl hN ?_)
 clear hN
 intro g1 w1 (hN:aI w none_ w1 [_])
 refine RL.ag (v:=.int .i64 (0)) ai (RL.b6 (RL.ag (ah acP rfl bK) (RL.ag (aj acs (hN.aJ 0 rfl)) (RL.ag (v:=.int .i64 (a.2.1)) ai (RL.ak ?_)))))
 refine RW.ret (bb (RV.tmp rfl) ?_)
 exact⟨rfl,hN.bc⟩
theorem wh (v:Value) (l:List I3) (w:World) (hv:Sm bJ w v l) (hl:l.length≤67108864):aM acx 71 #[v,.func (.func 73) #[] #[]] w fun r w'=>eG vb 5 w' w.heap.size r (bE (l.map fun a=>a.2.1))∧Ext w w':=
  mF 73 _ (fun a=>a.2.1) Tryz.func73 rfl rfl wa v l w hv hl
theorem vZ (a:I3) (w:World):aM acx 74 #[.agg #[.int .i64 a.1,.int .i64 a.2.1,.int .i64 a.2.2]] w fun r w'=>r=.int .i64 a.2.2∧Ext w w':=by
 refine aM.aZ Tryz.func74 ?_
 rw[cM]
 have hN:=aI.nil w none_
 refine RW.aN ?_
 refine RL.aK (bL (cs:=[.int .i64 (a.1),.int .i64 (a.2.1),.int .i64 (a.2.2)]) rfl rfl hN ?_)
 clear hN
 intro g1 w1 (hN:aI w none_ w1 [_])
 refine RL.ag (v:=.int .i64 (0)) ai (RL.b6 (RL.ag (ah acP rfl bK) (RL.ag (aj acs (hN.aJ 0 rfl)) (RL.ag (v:=.int .i64 (a.2.2)) ai (RL.ak ?_)))))
 refine RW.ret (bb (RV.tmp rfl) ?_)
 exact⟨rfl,hN.bc⟩
theorem wg (v:Value) (l:List I3) (w:World) (hv:Sm bJ w v l) (hl:l.length≤67108864):aM acx 71 #[v,.func (.func 74) #[] #[]] w fun r w'=>eG vb 5 w' w.heap.size r (bE (l.map fun a=>a.2.2))∧Ext w w':=
  mF 74 _ (fun a=>a.2.2) Tryz.func74 rfl rfl vZ v l w hv hl
theorem gT (fi:FuncId) (fn:Func) (fd:I5→Int) (SG:acx.funcs[fi]?=some fn) (DB:(fn.name == "runtime.NumGoroutine")=false) (SI:fn.body.isSome=true) (SH:∀(a:I5) (w:World),aM acx fi #[.agg #[.int .i64 a.1,.int .i64 a.2.1,.int .i64 a.2.2.1,.int .i64 a.2.2.2.1,.int .i64 a.2.2.2.2]] w fun r w'=>r=.int .i64 (fd a)∧Ext w w') (v:Value) (l:List I5) (w:World) (hv:Sm aV w v l) (hl:l.length≤67108864):aM acx 76 #[v,.func (.func fi) #[] #[]] w fun r w'=>eG vb 5 w' w.heap.size r (bE (l.map fd))∧Ext w w':=by
 refine aM.aZ af4 ?_
 rw[cT]
 have hN:=aI.nil w none_
 refine RW.aN (RL.ag (v:=vN) ai (RL.b6 (RL.ag (v:=vN) ai (RL.ak ?_))))
 iterate 2 refine RW.seq ?_
 refine RW.region (RL.ag (v:=v) U ?_)
 have nG:=(hv.o.now hN).bw
 refine RL.ag (bO acG (hv.o.now hN)) (RL.ag (v:=.int .i64 (0)) U (RL.ak (RW.block ?_)))
 replace hN:=hN.dD vi 3
 refine RW.loop (fun k R0 cz=>∃va:Value,∃acc:List Int,∃i:Nat,R0 1=.func (.func fi) #[] #[]∧R0 5=va∧R0 8=v∧R0 9=.int .i64 ((l.length:Int))∧R0 10=vJ i∧aI w none_ cz [.own vi 3 (va) (acc)]∧(i+k=l.length)∧(acc=(l.take i).map fd)∧(acc.length=i)) (l.length) ?_ ?_
 exact⟨vN,[],0,rfl,rfl,rfl,rfl,rfl,hN,by omega,rfl,rfl⟩
 clear hN
 rintro k R0 cz ⟨va,acc,i,bP,cx,cR,eg,df,hN,gk,ha,ir⟩
 have cB:=iw bP cx cR eg df
 obtain⟨gF,rfl⟩:=cB
 clear bP cx cR eg df
 refine RW.aN (RL.ag (aL) (RL.ak (RW.seq ?_)))
 refine RW.aG _ (fun cD=>?_) (fun cD=>?_)
 refine RW.skip (aw (RW.seq (RW.block (RW.aN (RL.ag (aU acG er aH (hv.o.now hN)) ?_)))))
 have aO:=da (l) i
 obtain⟨ap,bX⟩:=aO
 refine RL.ag (b8 (m:=i) (a:=ap) acB er aH (hv.o.now hN) bX (cs:=[.int .i64 (ap.1),.int .i64 (ap.2.1),.int .i64 (ap.2.2.1),.int .i64 (ap.2.2.2.1),.int .i64 (ap.2.2.2.2)])) ?_
 refine RL.aK (bz (cs:=[.int .i64 (0),.int .i64 (0),.int .i64 (0),.int .i64 (0),.int .i64 (0)]) gu rfl hN ?_)
 clear hN
 intro g3 w3 (hN:aI w none_ w3 [_,_])
 refine RL.aK (aR (vs:=[.int .i64 (ap.1),.int .i64 (ap.2.1),.int .i64 (ap.2.2.1),.int .i64 (ap.2.2.2.1),.int .i64 (ap.2.2.2.2)]) er rfl rfl rfl (aW (aW (aW (aW (aW cZ))))) hN 0 rfl rfl ?_)
 clear hN
 intro w4 (hN:aI w none_ w4 [_,_])
 refine RL.ak (RW.region (RL.ag (v:=va) U (RL.ag (v:=.func (.func fi) #[] #[]) U (RL.ag (aE (cs:=[.int .i64 (ap.1),.int .i64 (ap.2.1),.int .i64 (ap.2.2.1),.int .i64 (ap.2.2.2.1),.int .i64 (ap.2.2.2.2)]) acB er (hN.aJ 0 rfl)) ?_))))
 refine RL.aK (cG (first:=#[]) (captured:=#[]) (v0:=.agg #[.int .i64 (ap.1),.int .i64 (ap.2.1),.int .i64 (ap.2.2.1),.int .i64 (ap.2.2.2.1),.int .i64 (ap.2.2.2.2)]) (args:=#[.agg #[.int .i64 (ap.1),.int .i64 (ap.2.1),.int .i64 (ap.2.2.1),.int .i64 (ap.2.2.2.1),.int .i64 (ap.2.2.2.2)]]) SG DB SI (by simp) rfl rfl ((SH ap _).mono ?_))
 rintro _ w5 ⟨rfl,bn⟩
 replace hN:=hN.ext bn
 clear bn
 refine RL.aK (cw (enc:=vi) (l:=[(fd ap)]) (xs:=[.tmp 17]) acu bK mU rfl rfl (fun _=>rfl) rfl (by decide) (by decide) hN ?_)
 clear hN
 intro g6 w6 (hN:aI w none_ w6 [_,_,_])
 refine RL.aK (b9 acu gz rfl (fun _=>rfl) hN 2 rfl rfl (hN.sl 0 rfl) rfl (by rw[ir];simp only[acC,acF,acN];omega) (by decide) ?_)
 clear hN
 intro v7 w7 (hN:aI w none_ w7 [_,_,_])
 refine RL.ag (v:=v7) ai (RL.nil (aY (aw (RW.region (RL.ag (aD rfl rfl rfl (bh (by omega) (by omega))) (RL.ag (v:=.int .i64 ((i:Int)+1)) U (RL.ak ?_)))))))
 exact⟨k-1,by omega,v7,acc++[(fd ap)],i+1,rfl,rfl,rfl,rfl,rfl,(hN.sb [2]),by omega,by rw[eI _ bX,ha],by rw[acw,ir];rfl⟩
 refine RW.exit ?_
 iterate 2 refine bS ?_
 refine ba (aw (RW.seq ?_))
 have iy:i=l.length:=by omega
 refine RW.region (RL.ag (v:=va) U ?_)
 refine RL.aK (bo aeO rfl rfl rfl ((fM _ acc _ (hN.sl 0 rfl) (by(try simp only[acw,ac5,adq,acN,acF,acC,ac7,acw,ac4]);omega)).mono ?_))
 rintro v8 w8 ⟨cL,bn⟩
 replace hN:aI w none_ w8 [_,_]:=hN.cc (l:=bE acc) cL bn
 clear cL bn
 refine RL.ag (v:=v8) ai (RL.ak (RW.ret (bb (RV.tmp rfl) ?_)))
 rw[iy,adn]at ha
 subst ha
 exact⟨hN.fL 0 rfl,hN.bc⟩
theorem rX (a:I5) (w:World):aM acx 77 #[.agg #[.int .i64 a.1,.int .i64 a.2.1,.int .i64 a.2.2.1,.int .i64 a.2.2.2.1,.int .i64 a.2.2.2.2]] w fun r w'=>r=.int .i64 a.1∧Ext w w':=by
 refine aM.aZ Tryz.func77 ?_
 rw[cM]
 have hN:=aI.nil w none_
 refine RW.aN ?_
 refine RL.aK (bL (cs:=[.int .i64 (a.1),.int .i64 (a.2.1),.int .i64 (a.2.2.1),.int .i64 (a.2.2.2.1),.int .i64 (a.2.2.2.2)]) rfl rfl hN ?_)
 clear hN
 intro g1 w1 (hN:aI w none_ w1 [_])
 refine RL.ag (v:=.int .i64 (0)) ai (RL.b6 (RL.ag (ah acB rfl bK) (RL.ag (aj acs (hN.aJ 0 rfl)) (RL.ag (v:=.int .i64 (a.1)) ai (RL.ak ?_)))))
 refine RW.ret (bb (RV.tmp rfl) ?_)
 exact⟨rfl,hN.bc⟩
theorem sg (v:Value) (l:List I5) (w:World) (hv:Sm aV w v l) (hl:l.length≤67108864):aM acx 76 #[v,.func (.func 77) #[] #[]] w fun r w'=>eG vb 5 w' w.heap.size r (bE (l.map fun a=>a.1))∧Ext w w':=
  gT 77 _ (fun a=>a.1) Tryz.func77 rfl rfl rX v l w hv hl
theorem rW (a:I5) (w:World):aM acx 78 #[.agg #[.int .i64 a.1,.int .i64 a.2.1,.int .i64 a.2.2.1,.int .i64 a.2.2.2.1,.int .i64 a.2.2.2.2]] w fun r w'=>r=.int .i64 a.2.1∧Ext w w':=by
 refine aM.aZ Tryz.func78 ?_
 rw[cM]
 have hN:=aI.nil w none_
 refine RW.aN ?_
 refine RL.aK (bL (cs:=[.int .i64 (a.1),.int .i64 (a.2.1),.int .i64 (a.2.2.1),.int .i64 (a.2.2.2.1),.int .i64 (a.2.2.2.2)]) rfl rfl hN ?_)
 clear hN
 intro g1 w1 (hN:aI w none_ w1 [_])
 refine RL.ag (v:=.int .i64 (0)) ai (RL.b6 (RL.ag (ah acB rfl bK) (RL.ag (aj acs (hN.aJ 0 rfl)) (RL.ag (v:=.int .i64 (a.2.1)) ai (RL.ak ?_)))))
 refine RW.ret (bb (RV.tmp rfl) ?_)
 exact⟨rfl,hN.bc⟩
theorem sf (v:Value) (l:List I5) (w:World) (hv:Sm aV w v l) (hl:l.length≤67108864):aM acx 76 #[v,.func (.func 78) #[] #[]] w fun r w'=>eG vb 5 w' w.heap.size r (bE (l.map fun a=>a.2.1))∧Ext w w':=
  gT 78 _ (fun a=>a.2.1) Tryz.func78 rfl rfl rW v l w hv hl
theorem rV (a:I5) (w:World):aM acx 79 #[.agg #[.int .i64 a.1,.int .i64 a.2.1,.int .i64 a.2.2.1,.int .i64 a.2.2.2.1,.int .i64 a.2.2.2.2]] w fun r w'=>r=.int .i64 a.2.2.1∧Ext w w':=by
 refine aM.aZ Tryz.func79 ?_
 rw[cM]
 have hN:=aI.nil w none_
 refine RW.aN ?_
 refine RL.aK (bL (cs:=[.int .i64 (a.1),.int .i64 (a.2.1),.int .i64 (a.2.2.1),.int .i64 (a.2.2.2.1),.int .i64 (a.2.2.2.2)]) rfl rfl hN ?_)
 clear hN
 intro g1 w1 (hN:aI w none_ w1 [_])
 refine RL.ag (v:=.int .i64 (0)) ai (RL.b6 (RL.ag (ah acB rfl cU) (RL.ag (ah acH rfl bK) (RL.ag (aj acs (hN.aJ 0 rfl)) (RL.ag (v:=.int .i64 (a.2.2.1)) ai (RL.nil ?_))))))
 refine aw (RW.ret (bb (RV.tmp rfl) ?_))
 exact⟨rfl,hN.bc⟩
theorem se (v:Value) (l:List I5) (w:World) (hv:Sm aV w v l) (hl:l.length≤67108864):aM acx 76 #[v,.func (.func 79) #[] #[]] w fun r w'=>eG vb 5 w' w.heap.size r (bE (l.map fun a=>a.2.2.1))∧Ext w w':=
  gT 79 _ (fun a=>a.2.2.1) Tryz.func79 rfl rfl rV v l w hv hl
theorem rU (a:I5) (w:World):aM acx 80 #[.agg #[.int .i64 a.1,.int .i64 a.2.1,.int .i64 a.2.2.1,.int .i64 a.2.2.2.1,.int .i64 a.2.2.2.2]] w fun r w'=>r=.int .i64 a.2.2.2.1∧Ext w w':=by
 refine aM.aZ Tryz.func80 ?_
 rw[cM]
 have hN:=aI.nil w none_
 refine RW.aN ?_
 refine RL.aK (bL (cs:=[.int .i64 (a.1),.int .i64 (a.2.1),.int .i64 (a.2.2.1),.int .i64 (a.2.2.2.1),.int .i64 (a.2.2.2.2)]) rfl rfl hN ?_)
 clear hN
 intro g1 w1 (hN:aI w none_ w1 [_])
 refine RL.ag (v:=.int .i64 (0)) ai (RL.b6 (RL.ag (ah acB rfl cU) (RL.ag (ah acH rfl bK) (RL.ag (aj acs (hN.aJ 0 rfl)) (RL.ag (v:=.int .i64 (a.2.2.2.1)) ai (RL.nil ?_))))))
 refine aw (RW.ret (bb (RV.tmp rfl) ?_))
 exact⟨rfl,hN.bc⟩
theorem sd (v:Value) (l:List I5) (w:World) (hv:Sm aV w v l) (hl:l.length≤67108864):aM acx 76 #[v,.func (.func 80) #[] #[]] w fun r w'=>eG vb 5 w' w.heap.size r (bE (l.map fun a=>a.2.2.2.1))∧Ext w w':=
  gT 80 _ (fun a=>a.2.2.2.1) Tryz.func80 rfl rfl rU v l w hv hl
theorem rT (a:I5) (w:World):aM acx 81 #[.agg #[.int .i64 a.1,.int .i64 a.2.1,.int .i64 a.2.2.1,.int .i64 a.2.2.2.1,.int .i64 a.2.2.2.2]] w fun r w'=>r=.int .i64 a.2.2.2.2∧Ext w w':=by
 refine aM.aZ Tryz.func81 ?_
 rw[cM]
 have hN:=aI.nil w none_
 refine RW.aN ?_
 refine RL.aK (bL (cs:=[.int .i64 (a.1),.int .i64 (a.2.1),.int .i64 (a.2.2.1),.int .i64 (a.2.2.2.1),.int .i64 (a.2.2.2.2)]) rfl rfl hN ?_)
 clear hN
 intro g1 w1 (hN:aI w none_ w1 [_])
 refine RL.ag (v:=.int .i64 (0)) ai (RL.b6 (RL.ag (ah acB rfl cU) (RL.ag (ah acH rfl bK) (RL.ag (aj acs (hN.aJ 0 rfl)) (RL.ag (v:=.int .i64 (a.2.2.2.2)) ai (RL.nil ?_))))))
 refine aw (RW.ret (bb (RV.tmp rfl) ?_))
 exact⟨rfl,hN.bc⟩
theorem sc (v:Value) (l:List I5) (w:World) (hv:Sm aV w v l) (hl:l.length≤67108864):aM acx 76 #[v,.func (.func 81) #[] #[]] w fun r w'=>eG vb 5 w' w.heap.size r (bE (l.map fun a=>a.2.2.2.2))∧Ext w w':=
  gT 81 _ (fun a=>a.2.2.2.2) Tryz.func81 rfl rfl rT v l w hv hl
theorem nK (fi:FuncId) (fn:Func) (fd:I2→Int) (SG:acx.funcs[fi]?=some fn) (DB:(fn.name == "runtime.NumGoroutine")=false) (SI:fn.body.isSome=true) (SH:∀(a:I2) (w:World),aM acx fi #[.agg #[.int .i64 a.1,.int .i64 a.2]] w fun r w'=>r=.int .i64 (fd a)∧Ext w w') (v:Value) (l:List I2) (w:World) (hv:Sm bG w v l) (hl:l.length≤67108864):aM acx 84 #[v,.func (.func fi) #[] #[]] w fun r w'=>eG vb 5 w' w.heap.size r (bE (l.map fd))∧Ext w w':=by
 refine aM.aZ agB ?_
 rw[cT]
 have hN:=aI.nil w none_
 refine RW.aN (RL.ag (v:=vN) ai (RL.b6 (RL.ag (v:=vN) ai (RL.ak ?_))))
 iterate 2 refine RW.seq ?_
 refine RW.region (RL.ag (v:=v) U ?_)
 have nG:=(hv.o.now hN).bw
 refine RL.ag (bO acW (hv.o.now hN)) (RL.ag (v:=.int .i64 (0)) U (RL.ak (RW.block ?_)))
 replace hN:=hN.dD vi 3
 refine RW.loop (fun k R0 cz=>∃va:Value,∃acc:List Int,∃i:Nat,R0 1=.func (.func fi) #[] #[]∧R0 5=va∧R0 8=v∧R0 9=.int .i64 ((l.length:Int))∧R0 10=vJ i∧aI w none_ cz [.own vi 3 (va) (acc)]∧(i+k=l.length)∧(acc=(l.take i).map fd)∧(acc.length=i)) (l.length) ?_ ?_
 exact⟨vN,[],0,rfl,rfl,rfl,rfl,rfl,hN,by omega,rfl,rfl⟩
 clear hN
 rintro k R0 cz ⟨va,acc,i,bP,cx,cR,eg,df,hN,gk,ha,ir⟩
 have cB:=iw bP cx cR eg df
 obtain⟨gF,rfl⟩:=cB
 clear bP cx cR eg df
 refine RW.aN (RL.ag (aL) (RL.ak (RW.seq ?_)))
 refine RW.aG _ (fun cD=>?_) (fun cD=>?_)
 refine RW.skip (aw (RW.seq (RW.block (RW.aN (RL.ag (aU acW ef bp (hv.o.now hN)) ?_)))))
 have aO:=da (l) i
 obtain⟨ap,bX⟩:=aO
 refine RL.ag (b8 (m:=i) (a:=ap) acS ef bp (hv.o.now hN) bX (cs:=[.int .i64 (ap.1),.int .i64 (ap.2)])) ?_
 refine RL.aK (bz (cs:=[.int .i64 (0),.int .i64 (0)]) o4 rfl hN ?_)
 clear hN
 intro g3 w3 (hN:aI w none_ w3 [_,_])
 refine RL.aK (aR (vs:=[.int .i64 (ap.1),.int .i64 (ap.2)]) ef rfl rfl rfl (aW (aW cZ)) hN 0 rfl rfl ?_)
 clear hN
 intro w4 (hN:aI w none_ w4 [_,_])
 refine RL.ak (RW.region (RL.ag (v:=va) U (RL.ag (v:=.func (.func fi) #[] #[]) U (RL.ag (aE (cs:=[.int .i64 (ap.1),.int .i64 (ap.2)]) acS ef (hN.aJ 0 rfl)) ?_))))
 refine RL.aK (cG (first:=#[]) (captured:=#[]) (v0:=.agg #[.int .i64 (ap.1),.int .i64 (ap.2)]) (args:=#[.agg #[.int .i64 (ap.1),.int .i64 (ap.2)]]) SG DB SI (by simp) rfl rfl ((SH ap _).mono ?_))
 rintro _ w5 ⟨rfl,bn⟩
 replace hN:=hN.ext bn
 clear bn
 refine RL.aK (cw (enc:=vi) (l:=[(fd ap)]) (xs:=[.tmp 17]) acu bK mU rfl rfl (fun _=>rfl) rfl (by decide) (by decide) hN ?_)
 clear hN
 intro g6 w6 (hN:aI w none_ w6 [_,_,_])
 refine RL.aK (b9 acu gz rfl (fun _=>rfl) hN 2 rfl rfl (hN.sl 0 rfl) rfl (by rw[ir];simp only[acC,acF,acN];omega) (by decide) ?_)
 clear hN
 intro v7 w7 (hN:aI w none_ w7 [_,_,_])
 refine RL.ag (v:=v7) ai (RL.nil (aY (aw (RW.region (RL.ag (aD rfl rfl rfl (bh (by omega) (by omega))) (RL.ag (v:=.int .i64 ((i:Int)+1)) U (RL.ak ?_)))))))
 exact⟨k-1,by omega,v7,acc++[(fd ap)],i+1,rfl,rfl,rfl,rfl,rfl,(hN.sb [2]),by omega,by rw[eI _ bX,ha],by rw[acw,ir];rfl⟩
 refine RW.exit ?_
 iterate 2 refine bS ?_
 refine ba (aw (RW.seq ?_))
 have iy:i=l.length:=by omega
 refine RW.region (RL.ag (v:=va) U ?_)
 refine RL.aK (bo aeO rfl rfl rfl ((fM _ acc _ (hN.sl 0 rfl) (by(try simp only[acw,ac5,adq,acN,acF,acC,ac7,acw,ac4]);omega)).mono ?_))
 rintro v8 w8 ⟨cL,bn⟩
 replace hN:aI w none_ w8 [_,_]:=hN.cc (l:=bE acc) cL bn
 clear cL bn
 refine RL.ag (v:=v8) ai (RL.ak (RW.ret (bb (RV.tmp rfl) ?_)))
 rw[iy,adn]at ha
 subst ha
 exact⟨hN.fL 0 rfl,hN.bc⟩
theorem rZ (a:I2) (w:World):aM acx 85 #[.agg #[.int .i64 a.1,.int .i64 a.2]] w fun r w'=>r=.int .i64 a.1∧Ext w w':=by
 refine aM.aZ Tryz.func85 ?_
 rw[cM]
 have hN:=aI.nil w none_
 refine RW.aN ?_
 refine RL.aK (bL (cs:=[.int .i64 (a.1),.int .i64 (a.2)]) rfl rfl hN ?_)
 clear hN
 intro g1 w1 (hN:aI w none_ w1 [_])
 refine RL.ag (v:=.int .i64 (0)) ai (RL.b6 (RL.ag (ah acS rfl bK) (RL.ag (aj acs (hN.aJ 0 rfl)) (RL.ag (v:=.int .i64 (a.1)) ai (RL.ak ?_)))))
 refine RW.ret (bb (RV.tmp rfl) ?_)
 exact⟨rfl,hN.bc⟩
theorem mT (v:Value) (l:List I2) (w:World) (hv:Sm bG w v l) (hl:l.length≤67108864):aM acx 84 #[v,.func (.func 85) #[] #[]] w fun r w'=>eG vb 5 w' w.heap.size r (bE (l.map fun a=>a.1))∧Ext w w':=
  nK 85 _ (fun a=>a.1) Tryz.func85 rfl rfl rZ v l w hv hl
theorem rY (a:I2) (w:World):aM acx 86 #[.agg #[.int .i64 a.1,.int .i64 a.2]] w fun r w'=>r=.int .i64 a.2∧Ext w w':=by
 refine aM.aZ Tryz.func86 ?_
 rw[cM]
 have hN:=aI.nil w none_
 refine RW.aN ?_
 refine RL.aK (bL (cs:=[.int .i64 (a.1),.int .i64 (a.2)]) rfl rfl hN ?_)
 clear hN
 intro g1 w1 (hN:aI w none_ w1 [_])
 refine RL.ag (v:=.int .i64 (0)) ai (RL.b6 (RL.ag (ah acS rfl bK) (RL.ag (aj acs (hN.aJ 0 rfl)) (RL.ag (v:=.int .i64 (a.2)) ai (RL.ak ?_)))))
 refine RW.ret (bb (RV.tmp rfl) ?_)
 exact⟨rfl,hN.bc⟩
theorem mS (v:Value) (l:List I2) (w:World) (hv:Sm bG w v l) (hl:l.length≤67108864):aM acx 84 #[v,.func (.func 86) #[] #[]] w fun r w'=>eG vb 5 w' w.heap.size r (bE (l.map fun a=>a.2))∧Ext w w':=
  nK 86 _ (fun a=>a.2) Tryz.func86 rfl rfl rY v l w hv hl
end Go.Proofs.YtngkdkbpgoddlaaGreat
namespace Go.Proofs.YtngkdkbpgoddlaaGreat
open Go.RowKit Go.Rl
open Go.Gr Go.dn Go.jJ
theorem xS (g:Nat) (n:Nat) (mv c0 c1 c2 c3 c4:Value) (ar:List I3) (w:World) (hb:iu w g [.int .i64 (n:Int),mv,c0,c1,c2,c3,c4] 211) (hm:Sm bJ w mv ar):aM acx 68 #[vP g] w fun r w'=>r=.int .u64 ((oF (n:Int) ar).toNat:Int)∧Ext w w':=by
 refine aM.aZ ahy ?_
 rw[cM]
 have hN:=aI.nil w none_
 refine RW.aN (RL.ag (v:=.int .u64 (0)) ai (RL.ak ?_))
 iterate 2 refine RW.seq ?_
 refine RW.region (RL.ag (v:=vP g) U (RL.ag (cI (jQ agH rfl rfl) (by simp)) (RL.ak (RW.cg (RW.skip (aw (RW.aN ?_)))))))
 refine RL.aK (bz (cs:=[.int .u64 (0)]) Nj rfl hN ?_)
 clear hN
 intro g1 w1 (hN:aI w none_ w1 [_])
 refine RL.aK (ca NA rfl rfl rfl rfl hN 0 rfl (acv rfl) ?_)
 clear hN
 intro w2 (hN:aI w none_ w2 [_])
 refine RL.b6 (RL.ag (dP (vs:=[vP g1]) (xs:=[.tmp 3]) rfl rfl) (RL.ag (v:=.func (.func 153) #[] #[vP g1]) ai (RL.ak (RW.aN ?_))))
 refine RL.ag (v:=.func (.func 153) #[] #[vP g1]) U (RL.ag (v:=vP g) U (RL.ag (bM) (RL.ag (ah adY rfl dN) (RL.ag (ah acI rfl bK) (RL.ag (aj acs (hb.ext hN.bc)) ?_)))))
 refine RL.aK (cG (first:=#[]) (captured:=#[vP g1]) (v0:=vJ n) (args:=#[vJ n,vP g1]) ago rfl rfl (by simp) rfl rfl ((n5 (14695981039346656037#64) (n:Int) g1 _ (hN.di (M:=[_]) [0] (by decide) rfl)).mono ?_))
 rintro _ w3 ⟨rfl,cE⟩
 replace hN:aI w none_ w3 [_]:=aI.dh (M:=[_]) (N:=[]) (hN.sb [0]) cE
 clear cE
 refine RL.ak ?_
 iterate 2 refine RW.seq ?_
 refine RW.region (RL.ag (v:=vP g) U (RL.ag (bM) (RL.ag (ah adY rfl dN) (RL.ag (ah acI rfl fz) (RL.ag (aj acM (hb.ext hN.bc)) ?_)))))
 have uJ:=(hm.o.now hN).bw
 refine RL.ag (bO acM (hm.o.now hN)) (RL.ag (v:=.int .i64 (0)) U (RL.ak (RW.block ?_)))
 refine RW.loop (fun k R0 cz=>∃h:Bo,∃i:Nat,R0 3=vP g1∧R0 4=.func (.func 153) #[] #[vP g1]∧R0 21=mv∧R0 22=.int .i64 ((ar.length:Int))∧R0 23=vJ i∧aI w none_ cz [.aJ g1 [.int .u64 (((h).toNat:Int))] 57]∧(i+k=ar.length)∧(h=(ar.take i).foldl wF (vg (14695981039346656037#64) (n:Int)))) (ar.length) ?_ ?_
 exact⟨vg (14695981039346656037#64) (n:Int),0,rfl,rfl,rfl,rfl,rfl,hN,by omega,rfl⟩
 clear hN
 rintro k R0 cz ⟨h,i,cd,cA,Am,kO,iV,hN,gk,hh⟩
 have cB:=iw cd cA Am kO iV
 obtain⟨gF,rfl⟩:=cB
 clear cd cA Am kO iV
 refine RW.aN (RL.ag (aL) (RL.ak (RW.seq ?_)))
 refine RW.aG _ (fun cD=>?_) (fun cD=>?_)
 refine RW.skip (aw (RW.seq (RW.block (RW.aN (RL.ag (aU acM dr bf (hm.o.now hN)) ?_)))))
 have aO:=da (ar) i
 obtain⟨ap,bX⟩:=aO
 refine RL.ag (b8 (m:=i) (a:=ap) acP dr bf (hm.o.now hN) bX (cs:=[.int .i64 (ap.1),.int .i64 (ap.2.1),.int .i64 (ap.2.2)])) ?_
 refine RL.aK (bz (cs:=[.int .i64 (0),.int .i64 (0),.int .i64 (0)]) fS rfl hN ?_)
 clear hN
 intro g5 w5 (hN:aI w none_ w5 [_,_])
 refine RL.aK (aR (vs:=[.int .i64 (ap.1),.int .i64 (ap.2.1),.int .i64 (ap.2.2)]) dr rfl rfl rfl (aW (aW (aW cZ))) hN 0 rfl rfl ?_)
 clear hN
 intro w6 (hN:aI w none_ w6 [_,_])
 refine RL.b6 (RL.ag (v:=.func (.func 153) #[] #[vP g1]) U (RL.ag (ah acP rfl bK) (RL.ag (aj acs (hN.aJ 0 rfl)) ?_)))
 refine RL.aK (cG (first:=#[]) (captured:=#[vP g1]) (v0:=.int .i64 (ap.1)) (args:=#[.int .i64 (ap.1),vP g1]) ago rfl rfl (by simp) rfl rfl ((n5 (h) ap.1 g1 _ (hN.di (M:=[_]) [1] (by decide) rfl)).mono ?_))
 rintro _ w7 ⟨rfl,cE⟩
 replace hN:aI w none_ w7 [_,_]:=aI.dh (M:=[_]) (N:=[_]) (hN.sb [1,0]) cE
 clear cE
 refine RL.b6 (RL.ag (v:=.func (.func 153) #[] #[vP g1]) U (RL.ag (ah acP rfl bK) (RL.ag (aj acs (hN.aJ 1 rfl)) ?_)))
 refine RL.aK (cG (first:=#[]) (captured:=#[vP g1]) (v0:=.int .i64 (ap.2.1)) (args:=#[.int .i64 (ap.2.1),vP g1]) ago rfl rfl (by simp) rfl rfl ((n5 (vg (h) ap.1) ap.2.1 g1 _ (hN.di (M:=[_]) [0] (by decide) rfl)).mono ?_))
 rintro _ w8 ⟨rfl,cE⟩
 replace hN:aI w none_ w8 [_,_]:=aI.dh (M:=[_]) (N:=[_]) (hN.sb [0,1]) cE
 clear cE
 refine RL.ak (RW.region (RL.ag (v:=.func (.func 153) #[] #[vP g1]) U (RL.ag (ah acP rfl bK) (RL.ag (aj acs (hN.aJ 1 rfl)) ?_))))
 refine RL.aK (cG (first:=#[]) (captured:=#[vP g1]) (v0:=.int .i64 (ap.2.2)) (args:=#[.int .i64 (ap.2.2),vP g1]) ago rfl rfl (by simp) rfl rfl ((n5 (vg (vg (h) ap.1) ap.2.1) ap.2.2 g1 _ (hN.di (M:=[_]) [0] (by decide) rfl)).mono ?_))
 rintro _ w9 ⟨rfl,cE⟩
 replace hN:aI w none_ w9 [_,_]:=aI.dh (M:=[_]) (N:=[_]) (hN.sb [0,1]) cE
 clear cE
 refine RL.nil (aY (aw (RW.region (RL.ag (aD rfl rfl rfl (bh (by omega) (by omega))) (RL.ag (v:=.int .i64 ((i:Int)+1)) U (RL.ak ?_))))))
 exact⟨k-1,by omega,wF h ap,i+1,rfl,rfl,rfl,rfl,rfl,(hN.sb [0]),by omega,by rw[zJ bX,hh]⟩
 refine RW.exit ?_
 iterate 2 refine bS ?_
 refine ba (aw (RW.aN (RL.ag (aj adM (hN.aJ 0 rfl)) (RL.ag (v:=.int .u64 (((h).toNat:Int))) ai (RL.ak (RW.ret (bb (RV.tmp rfl) ?_)))))))
 rw[show i=ar.length by omega,adn]at hh
 subst hh
 exact⟨rfl,hN.bc⟩
theorem BT (w:World):aM acx 68 #[.pointer none] w fun r w'=>r=.int .u64 0∧Ext w w':=by
 refine aM.aZ ahy ?_
 rw[cM]
 have hN:=aI.nil w none_
 refine RW.aN (RL.ag (v:=.int .u64 (0)) ai (RL.ak ?_))
 iterate 2 refine RW.seq ?_
 refine RW.region (RL.ag (v:=.pointer none) U (RL.ag (dm (jQ agH rfl rfl) rfl) (RL.ak (RW.bF (RW.aN (RL.ag (v:=.int .u64 (0)) ai (RL.nil ?_)))))))
 refine aw (RW.ret (aT (bb (RV.tmp rfl) ?_)))
 exact⟨rfl,hN.bc⟩
theorem yw (n:Nat) (v:Value) (ar:List I3) (w:World) (hv:Sm bJ w v ar) (HN:ee (n:Int) ar=0):aM acx 28 #[.agg #[.int .i64 (n:Int),v]] w fun r w'=>eG vb 5 w' w.heap.size r (kR (n:Int) ar)∧Ext w w':=by
 refine aM.aZ aiQ ?_
 rw[cM]
 have hN:=aI.nil w none_
 refine RW.aN ?_
 refine RL.aK (bL (cs:=[vJ n,v]) rfl rfl hN ?_)
 clear hN
 intro g1 w1 (hN:aI w none_ w1 [_])
 refine RL.ag (v:=vN) ai (RL.ak (RW.aN ?_))
 refine RL.aK (cw (enc:=vb) (l:=[80,82,49]) (xs:=[.const (.int .u8 (80)),.const (.int .u8 (82)),.const (.int .u8 (49))]) acQ vd Tt rfl rfl (fun _=>rfl) rfl (by decide) (by decide) hN ?_)
 clear hN
 intro g2 w2 (hN:aI w none_ w2 [_,_])
 refine RL.aK (py acQ adr hN 0 rfl rfl rfl ?_)
 clear hN
 intro w3 (hN:aI w none_ w3 [_,_])
 refine RL.ag (aE (cs:=[vJ n,v]) acI dN (hN.aJ 1 rfl)) ?_
 refine RL.aK (bo aht rfl rfl rfl ((uK n _ ar _ (hv.o.now hN) HN).mono ?_))
 rintro _ w4 ⟨g4,mv4,d0,d1,d2,d3,d4,rfl,Lm,q9,bn⟩
 replace hN:=hN.ext bn
 clear bn
 refine RL.aK (bo ahy rfl rfl rfl ((xS g4 n _ _ _ _ _ _ ar _ Lm q9).mono ?_))
 rintro _ w5 ⟨rfl,bn⟩
 replace hN:=hN.ext bn
 clear bn
 have Ql:=(oF (n:Int) ar).isLt
 refine RL.aK (bu af3 rfl rfl rfl rfl ((lD ((oF (n:Int) ar).toNat) 8 _ (by omega)).mono ?_))
 rintro v6 w6 ⟨cL,bn⟩
 replace hN:aI w none_ w6 [_,_,_]:=hN.cc (l:=put ((oF (n:Int) ar).toNat) 8) cL bn
 clear cL bn
 refine RL.aK (nt acQ rL rfl hN (hN.QQ 1 rfl) rfl rfl (hN.sl 0 rfl) (by rw[dz];omega) rfl (by rw[dz];simp only[acF,acN];omega) (by decide) ?_)
 clear hN
 intro v7 w7 (hN:aI w none_ w7 [_,_,_,_])
 refine RL.ag (v:=v7) ai (RL.ak (RW.ret (bb (RV.tmp rfl) ?_)))
 exact⟨(hN.fL 0 rfl).l0 (ID HN).symm,hN.bc⟩
theorem vU (n:Int) (v:Value) (ar:List I3) (w:World) (hv:Sm bJ w v ar) (Ll:¬ee n ar=0):aM acx 28 #[.agg #[.int .i64 n,v]] w fun r w'=>eG vb 5 w' w.heap.size r (kR n ar)∧Ext w w':=by
 refine aM.aZ aiQ ?_
 rw[cM]
 have hN:=aI.nil w none_
 refine RW.aN ?_
 refine RL.aK (bL (cs:=[.int .i64 (n),v]) rfl rfl hN ?_)
 clear hN
 intro g1 w1 (hN:aI w none_ w1 [_])
 refine RL.ag (v:=vN) ai (RL.ak (RW.aN ?_))
 refine RL.aK (cw (enc:=vb) (l:=[80,82,49]) (xs:=[.const (.int .u8 (80)),.const (.int .u8 (82)),.const (.int .u8 (49))]) acQ vd Tt rfl rfl (fun _=>rfl) rfl (by decide) (by decide) hN ?_)
 clear hN
 intro g2 w2 (hN:aI w none_ w2 [_,_])
 refine RL.aK (py acQ adr hN 0 rfl rfl rfl ?_)
 clear hN
 intro w3 (hN:aI w none_ w3 [_,_])
 refine RL.ag (aE (cs:=[.int .i64 (n),v]) acI dN (hN.aJ 1 rfl)) ?_
 refine RL.aK (bo aht rfl rfl rfl ((yD (n) _ ar _ (hv.o.now hN) Ll).mono ?_))
 rintro _ w4 ⟨rfl,bn⟩
 replace hN:=hN.ext bn
 clear bn
 refine RL.aK (bo ahy rfl rfl rfl ((BT _).mono ?_))
 rintro _ w5 ⟨rfl,bn⟩
 replace hN:=hN.ext bn
 clear bn
 have Ql:=(oF n ar).isLt
 refine RL.aK (bu af3 rfl rfl rfl rfl ((lD 0 8 _ (by omega)).mono ?_))
 rintro v6 w6 ⟨cL,bn⟩
 replace hN:aI w none_ w6 [_,_,_]:=hN.cc (l:=put 0 8) cL bn
 clear cL bn
 refine RL.aK (nt acQ rL rfl hN (hN.QQ 1 rfl) rfl rfl (hN.sl 0 rfl) (by rw[dz];omega) rfl (by rw[dz];simp only[acF,acN];omega) (by decide) ?_)
 clear hN
 intro v7 w7 (hN:aI w none_ w7 [_,_,_,_])
 refine RL.ag (v:=v7) ai (RL.ak (RW.ret (bb (RV.tmp rfl) ?_)))
 exact⟨(hN.fL 0 rfl).l0 (E5 Ll).symm,hN.bc⟩
theorem Az (n:Int) (v:Value) (ar:List I3) (w:World) (hv:Sm bJ w v ar):aM acx 28 #[.agg #[.int .i64 n,v]] w fun r w'=>eG vb 5 w' w.heap.size r (kR n ar)∧Ext w w':=by
  by_cases h:ee n ar=0
  · obtain ⟨h0, _⟩ := nV h
    obtain⟨q,rfl⟩:∃q:Nat,n=(q:Int):=⟨n.toNat,by omega⟩
    exact yw q v ar w hv h
  · exact vU n v ar w hv h
theorem mm (gf:FuncId) (fn:Func) (lb:Array Value) (M:List Atom) (Fx:(Nat→Prop)→World→Prop) (xs:List (List UInt8)) (hf:acx.funcs[gf]?=some fn) (hn:(fn.name == "runtime.NumGoroutine")=false) (hb:fn.body.isSome=true) (SA:uZ acx gf lb M Fx adT A4 (Nd vb) xs) (fb:xs.flatten.length≤140737488351232) (w:World) (DA:Fx (b7 M) w) (hN:aI w (b7 M) w M):aM acx 29 #[.func (.func gf) #[] lb] w fun r w'=>aI w (b7 M) w' [.own vb 5 r xs.flatten]:=by
 refine aM.kY ahz rfl (acv rfl) ?_
 rw[cM]
 replace hN:=hN.Tp
 refine XW.seq (XW.bI (RL.ag (v:=vN) ai (RL.nil (cl (bR (XW.seq (XW.bI ?_)))))))
 refine RL.aK (bz (cs:=[vN]) Nk rfl hN ?_)
 clear hN
 intro g1 w1 (hN:aI w (b7 M) w1 [_,_])
 refine RL.nil (cl (bR ?_))
 iterate 2 refine XW.seq ?_
 replace hN:=hN.dD vb 5
 replace hN:aI w (b7 M) w1 [.own vb 5 (vN) ([]),.aJ g1 [vN] 38,.all M]:=hN
 refine XW.bI (RL.ag (v:=.func (.func gf) #[] lb) U (RL.nil (cl (bR (XW.block ?_)))))
 refine XW.BO (gf:=gf) (lb:=lb) (M:=M) (fun s:Value×List UInt8=>[.aJ g1 [s.1] 38,.own vb 5 s.1 s.2]) (FA UInt8) (vN,[]) (aI.comm (L:=M) (aI.unpack (hN.sb [2,1,0]))) rfl hf hn hb SA FA.on DA (fun _=>rfl) (by decide) ?_ ?_
 clear hN
 rintro l_ D_ L5 FF ⟨v_,a_⟩ ⟨xv,xb⟩ Q0 L6 wr fG K6 Qk hN
 change XW _ _ _ _ _ _ (dw _ 6 (xv)) _
 replace hN:aI wr FF wr [.obj l_ (.loop (L5 .ready none)),.obj D_ (.deferred (some [])),.aJ g1 [v_] 38,.own vb 5 (v_) (a_)]:=hN
 have Rg:Sl vb wr xv xb:=Qk.1
 have Zq:oW FF xv xb:=Qk.2
 have O9:a_.length+xb.length≤xs.flatten.length:=LI fG rfl K6
 refine XW.bI (RL.ag (v:=xv) ai (RL.nil (cl (uV ?_))))
 clear hN
 intro w2 (hN:aI wr FF w2 [.obj l_ (.loop (L5 .busy none)),.obj D_ (.deferred (some [])),.aJ g1 [v_] 38,.own vb 5 (v_) (a_)])
 refine XW.block (XW.bI (RL.ag (aj acQ (hN.aJ 2 rfl)) (RL.ag (v:=xv) U ?_)))
 refine RL.aK (b9 acQ rL rfl oC hN 3 rfl rfl (Rg.off Zq hN.mod) rfl (by(try simp only[acw,ac5,adq,acN,acF,acC,ac7,acw,ac4]);omega) (by decide) ?_)
 clear hN
 intro v3 w3 (hN:aI wr FF w3 [_,_,_,_])
 refine RL.aK (ca jK rfl rfl (hN.sl 3 rfl).cN (hN.sl 3 rfl).bW hN 2 rfl (acv rfl) ?_)
 clear hN
 intro w4 (hN:aI wr FF w4 [_,_,_,_])
 refine RL.nil (cl (ff ?_))
 exact xM ⟨v3,a_++xb⟩ ⟨rfl,rfl⟩ (hN.sb [0,1,2,3])
 clear hN
 rintro l_ D_ o_ ⟨v_,a_⟩ w5 fG hN
 replace hN:aI w (b7 M) w5 [.obj l_ o_,.obj D_ (.deferred (some [])),.aJ g1 [v_] 38,.own vb 5 (v_) (a_)]:=hN
 have Qs:a_=xs.flatten:=DL fG
 refine ff (bR (XW.seq (XW.bI (RL.ag (aj acQ (hN.aJ 2 rfl)) (RL.ag (v:=v_) ai (RL.nil (cl (bR (XW.ret ?_)))))))))
 refine F4 hN (.inl rfl) 1 rfl ?_
 clear hN
 intro w6 (hN:aI w (b7 M) w6 [_,_,_,_])
 refine⟨_,RV.tmp rfl,?_⟩
 rw[←Qs]
 exact hN.sb [3]
end Go.Proofs.YtngkdkbpgoddlaaGreat
namespace Go.Proofs.YtngkdkbpgoddlaaGreat
open Go.RowKit Go.Rl
open Go.Gr Go.dn Go.jJ
theorem x8 {σ:Type} (l:Nat) (C:Bool→σ→Atom) (T:σ→(Value×List UInt8)→Bool→σ→Prop) (s0:σ) {n:Int} {ar:List I3} {F:Nat→Prop} (w:World) (hT:∀s x b s',T s x b s'→b=true) (hY:ow acx l C T adT s0 (j6 n ar) (Nd vb) A4) (gb:Nat) (v:Value) (hN:aI w F w [C true s0,.aJ gb [.int .i64 n,v] 24]) (hv:mG F bJ w v ar) (ir:ar.length≤67108864):aM acx 69 #[.func (.yield l) #[] #[],vP gb] w fun _ w'=>∃s',u6 T adT s0 (j6 n ar) s'∧aI w F w' [C true s']:=by
 refine aM.kY Tryz.func69 rfl (acv rfl) ?_
 rw[cT]
 have hg:fe T adT s0 (j6 n ar) s0 (j6 n ar):=fe.start
 refine XW.sz (XL.eU (v:=.func (.yield l) #[] #[]) U (XL.eU (ah acI rfl bK) (XL.eU (aj acs (hN.aJ 1 rfl)) ?_)))
 refine XL.op rfl rfl (lU.of rfl (cw (enc:=vi) (l:=[n]) (xs:=[.tmp 5]) acu bK mU rfl rfl (fun _=>rfl) rfl (by decide) (by decide) hN ?_))
 clear hN
 intro g1 w1 (hN:aI w F w1 [_,_,_])
 refine XL.op rfl rfl (lU.of rfl (bo aeO rfl rfl rfl ((fM _ ([n]) _ (hN.sl 0 rfl) (by(try simp only[acw,ac5,adq,acN,acF,acC,ac7,acw,ac4]);omega)).mono ?_)))
 rintro v2 w2 ⟨cL,bn⟩
 replace hN:aI w F w2 [_,_,_,_]:=hN.cc (l:=bE ([n])) cL bn
 clear cL bn
 refine XL.op rfl rfl (dk rfl rfl ((fe.yield hT hY (v2,(bE ([n]))) hg (hN.di (M:=[_]) [2] (by decide) rfl) ⟨(hN.sl 0 rfl),hN.lG (M:=[_]) [2] rfl 0 rfl rfl (fun k hk=>hk)⟩).mono ?_))
 rintro _ w3 ⟨s3,rfl,gS,cE⟩
 replace hg:=gS
 clear gS
 replace hN:aI w F w3 [_,_,_,_]:=aI.dh (M:=[_]) (N:=[_,_,_]) (hN.sb [2,0,1,3]) cE
 clear cE
 refine XL.eU (v:=.bool true) U (XL.dF (v:=.func (.yield l) #[] #[]) U (XL.dF (ah acI rfl fz) (XL.dF (aj acM (hN.aJ 3 rfl)) ?_)))
 refine XL.jw (lU.of rfl (bu ahx rfl rfl rfl rfl ((wi _ ar _ (hv.now hN) (by omega)).mono ?_)))
 rintro v4 w4 ⟨cL,bn⟩
 replace hN:aI w F w4 [_,_,_,_,_]:=hN.cc (l:=bE (ar.map fun a=>a.1)) cL bn
 clear cL bn
 refine XL.jw (dk rfl rfl ((fe.yield hT hY (v4,(bE (ar.map fun a=>a.1))) hg (hN.di (M:=[_]) [1] (by decide) rfl) ⟨(hN.sl 0 rfl),hN.lG (M:=[_]) [1] rfl 0 rfl rfl (fun k hk=>hk)⟩).mono ?_))
 rintro _ w5 ⟨s5,rfl,gS,cE⟩
 replace hg:=gS
 clear gS
 replace hN:aI w F w5 [_,_,_,_,_]:=aI.dh (M:=[_]) (N:=[_,_,_,_]) (hN.sb [1,0,2,3,4]) cE
 clear cE
 refine XL.eU (v:=.bool true) (al) (XL.eU (v:=.bool true) U (XL.dF (v:=.func (.yield l) #[] #[]) U (XL.dF (ah acI rfl fz) (XL.dF (aj acM (hN.aJ 4 rfl)) ?_))))
 refine XL.jw (lU.of rfl (bu ahx rfl rfl rfl rfl ((wh _ ar _ (hv.now hN) (by omega)).mono ?_)))
 rintro v6 w6 ⟨cL,bn⟩
 replace hN:aI w F w6 [_,_,_,_,_,_]:=hN.cc (l:=bE (ar.map fun a=>a.2.1)) cL bn
 clear cL bn
 refine XL.jw (dk rfl rfl ((fe.yield hT hY (v6,(bE (ar.map fun a=>a.2.1))) hg (hN.di (M:=[_]) [1] (by decide) rfl) ⟨(hN.sl 0 rfl),hN.lG (M:=[_]) [1] rfl 0 rfl rfl (fun k hk=>hk)⟩).mono ?_))
 rintro _ w7 ⟨s7,rfl,gS,cE⟩
 replace hg:=gS
 clear gS
 replace hN:aI w F w7 [_,_,_,_,_,_]:=aI.dh (M:=[_]) (N:=[_,_,_,_,_]) (hN.sb [1,0,2,3,4,5]) cE
 clear cE
 refine XL.eU (v:=.bool true) (al) (XL.eU (v:=.bool true) U (XL.dF (v:=.func (.yield l) #[] #[]) U (XL.dF (ah acI rfl fz) (XL.dF (aj acM (hN.aJ 5 rfl)) ?_))))
 refine XL.jw (lU.of rfl (bu ahx rfl rfl rfl rfl ((wg _ ar _ (hv.now hN) (by omega)).mono ?_)))
 rintro v8 w8 ⟨cL,bn⟩
 replace hN:aI w F w8 [_,_,_,_,_,_,_]:=hN.cc (l:=bE (ar.map fun a=>a.2.2)) cL bn
 clear cL bn
 refine XL.jw (dk rfl rfl ((fe.yield hT hY (v8,(bE (ar.map fun a=>a.2.2))) hg (hN.di (M:=[_]) [1] (by decide) rfl) ⟨(hN.sl 0 rfl),hN.lG (M:=[_]) [1] rfl 0 rfl rfl (fun k hk=>hk)⟩).mono ?_))
 rintro _ w9 ⟨s9,rfl,gS,cE⟩
 replace hg:=gS
 clear gS
 replace hN:aI w F w9 [_,_,_,_,_,_,_]:=aI.dh (M:=[_]) (N:=[_,_,_,_,_,_]) (hN.sb [1,0,2,3,4,5,6]) cE
 clear cE
 refine XL.eU (v:=.bool true) (al) (XL.nil (wq (RV.zero rfl) ?_))
 exact⟨_,hg.done,hN.sb [0]⟩
theorem B1 (n:Int) (ar:List I3) (gb:Nat) (v:Value) (ir:ar.length≤67108864):uZ acx 69 #[vP gb] [.aJ gb [.int .i64 n,v] 24] (fun F w=>mG F bJ w v ar) adT A4 (Nd vb) (j6 n ar):=by
  intro σ l C T s0 w0 w F hT hY DA hN
  have h1:=hN.di (M:=[_,_]) [0,1] (by decide) rfl
  refine(x8 l C T s0 w hT hY gb v h1 (mG.step oM DA hN) ir).mono ?_
  rintro _ w' ⟨s',hr,h2⟩
  exact⟨s',hr,aI.dh (M:=[_,_]) (N:=[]) hN h2⟩
theorem vG {σ:Type} (l:Nat) (C:Bool→σ→Atom) (T:σ→(Value×List UInt8)→Bool→σ→Prop) (s0:σ) {rk:List Int} {ws:List I5} {F:Nat→Prop} (w:World) (hT:∀s x b s',T s x b s'→b=true) (hY:ow acx l C T adT s0 (ig rk ws) (Nd vb) A4) (gb:Nat) (rv wv:Value) (hN:aI w F w [C true s0,.aJ gb [rv,wv] 28]) (hr:nO F vI w rv rk) (hw:mG F aV w wv ws) (Ai:rk.length≤67108864) (Qe:ws.length≤67108864):aM acx 75 #[.func (.yield l) #[] #[],vP gb] w fun _ w'=>∃s',u6 T adT s0 (ig rk ws) s'∧aI w F w' [C true s']:=by
 refine aM.kY Tryz.func75 rfl (acv rfl) ?_
 rw[cT]
 have hg:fe T adT s0 (ig rk ws) s0 (ig rk ws):=fe.start
 refine XW.sz (XL.eU (v:=.func (.yield l) #[] #[]) U (XL.eU (ah acz rfl cj) (XL.eU (aj acu (hN.aJ 1 rfl)) ?_)))
 refine XL.op rfl rfl (lU.of rfl (bo aeO rfl rfl rfl ((fM _ rk _ (hr.now hN) (by(try simp only[acw,ac5,adq,acN,acF,acC,ac7,acw,ac4]);omega)).mono ?_)))
 rintro v1 w1 ⟨cL,bn⟩
 replace hN:aI w F w1 [_,_,_]:=hN.cc (l:=bE rk) cL bn
 clear cL bn
 refine XL.op rfl rfl (dk rfl rfl ((fe.yield hT hY (v1,(bE rk)) hg (hN.di (M:=[_]) [1] (by decide) rfl) ⟨(hN.sl 0 rfl),hN.lG (M:=[_]) [1] rfl 0 rfl rfl (fun k hk=>hk)⟩).mono ?_))
 rintro _ w2 ⟨s2,rfl,gS,cE⟩
 replace hg:=gS
 clear gS
 replace hN:aI w F w2 [_,_,_]:=aI.dh (M:=[_]) (N:=[_,_]) (hN.sb [1,0,2]) cE
 clear cE
 refine XL.eU (v:=.bool true) U (XL.dF (v:=.func (.yield l) #[] #[]) U (XL.dF (ah acz rfl eM) (XL.dF (aj acG (hN.aJ 2 rfl)) ?_)))
 refine XL.jw (lU.of rfl (bu af4 rfl rfl rfl rfl ((sg _ ws _ (hw.now hN) (by omega)).mono ?_)))
 rintro v3 w3 ⟨cL,bn⟩
 replace hN:aI w F w3 [_,_,_,_]:=hN.cc (l:=bE (ws.map fun a=>a.1)) cL bn
 clear cL bn
 refine XL.jw (dk rfl rfl ((fe.yield hT hY (v3,(bE (ws.map fun a=>a.1))) hg (hN.di (M:=[_]) [1] (by decide) rfl) ⟨(hN.sl 0 rfl),hN.lG (M:=[_]) [1] rfl 0 rfl rfl (fun k hk=>hk)⟩).mono ?_))
 rintro _ w4 ⟨s4,rfl,gS,cE⟩
 replace hg:=gS
 clear gS
 replace hN:aI w F w4 [_,_,_,_]:=aI.dh (M:=[_]) (N:=[_,_,_]) (hN.sb [1,0,2,3]) cE
 clear cE
 refine XL.eU (v:=.bool true) (al) (XL.eU (v:=.bool true) U (XL.dF (v:=.func (.yield l) #[] #[]) U (XL.dF (ah acz rfl eM) (XL.dF (aj acG (hN.aJ 3 rfl)) ?_))))
 refine XL.jw (lU.of rfl (bu af4 rfl rfl rfl rfl ((sf _ ws _ (hw.now hN) (by omega)).mono ?_)))
 rintro v5 w5 ⟨cL,bn⟩
 replace hN:aI w F w5 [_,_,_,_,_]:=hN.cc (l:=bE (ws.map fun a=>a.2.1)) cL bn
 clear cL bn
 refine XL.jw (dk rfl rfl ((fe.yield hT hY (v5,(bE (ws.map fun a=>a.2.1))) hg (hN.di (M:=[_]) [1] (by decide) rfl) ⟨(hN.sl 0 rfl),hN.lG (M:=[_]) [1] rfl 0 rfl rfl (fun k hk=>hk)⟩).mono ?_))
 rintro _ w6 ⟨s6,rfl,gS,cE⟩
 replace hg:=gS
 clear gS
 replace hN:aI w F w6 [_,_,_,_,_]:=aI.dh (M:=[_]) (N:=[_,_,_,_]) (hN.sb [1,0,2,3,4]) cE
 clear cE
 refine XL.eU (v:=.bool true) (al) (XL.eU (v:=.bool true) U (XL.dF (v:=.func (.yield l) #[] #[]) U (XL.dF (ah acz rfl eM) (XL.dF (aj acG (hN.aJ 4 rfl)) ?_))))
 refine XL.jw (lU.of rfl (bu af4 rfl rfl rfl rfl ((se _ ws _ (hw.now hN) (by omega)).mono ?_)))
 rintro v7 w7 ⟨cL,bn⟩
 replace hN:aI w F w7 [_,_,_,_,_,_]:=hN.cc (l:=bE (ws.map fun a=>a.2.2.1)) cL bn
 clear cL bn
 refine XL.jw (dk rfl rfl ((fe.yield hT hY (v7,(bE (ws.map fun a=>a.2.2.1))) hg (hN.di (M:=[_]) [1] (by decide) rfl) ⟨(hN.sl 0 rfl),hN.lG (M:=[_]) [1] rfl 0 rfl rfl (fun k hk=>hk)⟩).mono ?_))
 rintro _ w8 ⟨s8,rfl,gS,cE⟩
 replace hg:=gS
 clear gS
 replace hN:aI w F w8 [_,_,_,_,_,_]:=aI.dh (M:=[_]) (N:=[_,_,_,_,_]) (hN.sb [1,0,2,3,4,5]) cE
 clear cE
 refine XL.eU (v:=.bool true) (al) (XL.eU (v:=.bool true) U (XL.dF (v:=.func (.yield l) #[] #[]) U (XL.dF (ah acz rfl eM) (XL.dF (aj acG (hN.aJ 5 rfl)) ?_))))
 refine XL.jw (lU.of rfl (bu af4 rfl rfl rfl rfl ((sd _ ws _ (hw.now hN) (by omega)).mono ?_)))
 rintro v9 w9 ⟨cL,bn⟩
 replace hN:aI w F w9 [_,_,_,_,_,_,_]:=hN.cc (l:=bE (ws.map fun a=>a.2.2.2.1)) cL bn
 clear cL bn
 refine XL.jw (dk rfl rfl ((fe.yield hT hY (v9,(bE (ws.map fun a=>a.2.2.2.1))) hg (hN.di (M:=[_]) [1] (by decide) rfl) ⟨(hN.sl 0 rfl),hN.lG (M:=[_]) [1] rfl 0 rfl rfl (fun k hk=>hk)⟩).mono ?_))
 rintro _ lW ⟨YX,rfl,gS,cE⟩
 replace hg:=gS
 clear gS
 replace hN:aI w F lW [_,_,_,_,_,_,_]:=aI.dh (M:=[_]) (N:=[_,_,_,_,_,_]) (hN.sb [1,0,2,3,4,5,6]) cE
 clear cE
 refine XL.eU (v:=.bool true) (al) (XL.eU (v:=.bool true) U (XL.dF (v:=.func (.yield l) #[] #[]) U (XL.dF (ah acz rfl eM) (XL.dF (aj acG (hN.aJ 6 rfl)) ?_))))
 refine XL.jw (lU.of rfl (bu af4 rfl rfl rfl rfl ((sc _ ws _ (hw.now hN) (by omega)).mono ?_)))
 rintro v11 lR ⟨cL,bn⟩
 replace hN:aI w F lR [_,_,_,_,_,_,_,_]:=hN.cc (l:=bE (ws.map fun a=>a.2.2.2.2)) cL bn
 clear cL bn
 refine XL.jw (dk rfl rfl ((fe.yield hT hY (v11,(bE (ws.map fun a=>a.2.2.2.2))) hg (hN.di (M:=[_]) [1] (by decide) rfl) ⟨(hN.sl 0 rfl),hN.lG (M:=[_]) [1] rfl 0 rfl rfl (fun k hk=>hk)⟩).mono ?_))
 rintro _ ll ⟨W0,rfl,gS,cE⟩
 replace hg:=gS
 clear gS
 replace hN:aI w F ll [_,_,_,_,_,_,_,_]:=aI.dh (M:=[_]) (N:=[_,_,_,_,_,_,_]) (hN.sb [1,0,2,3,4,5,6,7]) cE
 clear cE
 refine XL.eU (v:=.bool true) (al) (XL.nil (wq (RV.zero rfl) ?_))
 exact⟨_,hg.done,hN.sb [0]⟩
theorem zW (rk:List Int) (ws:List I5) (gb:Nat) (rv wv:Value) (Ai:rk.length≤67108864) (Qe:ws.length≤67108864):uZ acx 75 #[vP gb] [.aJ gb [rv,wv] 28] (fun F w=>nO F vI w rv rk∧mG F aV w wv ws) adT A4 (Nd vb) (ig rk ws):=by
  intro σ l C T s0 w0 w F hT hY DA hN
  have h1:=hN.di (M:=[_,_]) [0,1] (by decide) rfl
  refine(vG l C T s0 w hT hY gb rv wv h1 (DA.1.step hN) (mG.step fN DA.2 hN) Ai Qe).mono ?_
  rintro _ w' ⟨s',hr,h2⟩
  exact⟨s',hr,aI.dh (M:=[_,_]) (N:=[]) hN h2⟩
theorem np {σ:Type} (l:Nat) (C:Bool→σ→Atom) (T:σ→(Value×List UInt8)→Bool→σ→Prop) (s0:σ) {XS:List (List UInt8)} {F:Nat→Prop} (w:World) (hT:∀s x b s',T s x b s'→b=true) (hY:ow acx l C T adT s0 XS (Nd vb) A4) (gy:Nat) (s:σ) (todo:List (List UInt8)) (v:Value) (hs:List Hd) (ls:List (List Int)) (hg:fe T adT s0 XS s (dW ls++todo)) (hN:aI w F w [C true s,.aJ gy [.func (.yield l) #[] #[]] 59]) (h1:nO F vh w v hs) (jt:fW F vI w hs ls) (Ds:ls.length≤67108864) (Ai:∀r∈ls,r.length≤67108864):aM acx 83 #[v,vP gy] w fun _ w'=>∃s',fe T adT s0 XS s' todo∧aI w F w' [C true s',.aJ gy [.func (.yield l) #[] #[]] 59]:=by
 refine aM.kY ahA rfl (acv rfl) ?_
 rw[cT]
 have OO:=jt.1
 refine XW.seq (XW.pU rfl (fun u=>aI w F u [.aJ gy [.func (.yield l) #[] #[]] 59]) ?_)
 replace hN:=hN.ext (Ext.drew w)
 refine XA.take (i:=0) rfl rfl (by kernel_rfl) (by kernel_rfl) (by kernel_rfl) (by repeat (first|exact gZ|refine gX ?_|refine hC ?_|refine gY ?_)) rfl (hN.sb [1]) (fun w hS=>(aj aep (hS.aJ 0 rfl))) ?_
 refine XA.take (v:=v) (i:=1) rfl rfl (by kernel_rfl) (by kernel_rfl) (by kernel_rfl) (by repeat (first|exact gZ|refine gX ?_|refine hC ?_|refine gY ?_)) rfl (hN.sb [1]) (fun w hS=>U) ?_
 have nG:=(h1.now hN).bw
 refine XA.take (i:=2) rfl rfl (by kernel_rfl) (by kernel_rfl) (by kernel_rfl) (by repeat (first|exact gZ|refine gX ?_|refine hC ?_|refine gY ?_)) rfl (hN.sb [1]) (fun w hS=>(aQ acJ (h1.now hS))) ?_
 refine XA.only (i:=3) (by kernel_rfl) rfl rfl rfl (lU.of rfl (cw (enc:=vi) (l:=[(hs.length:Int)]) (xs:=[.tmp 7]) acu bK mU rfl rfl (fun _=>rfl) rfl (by decide) (by decide) hN ?_))
 clear hN
 intro g2 w2 (hN:aI w F w2 [_,_,_])
 refine⟨(hN.sb [2]),?_⟩
 refine XA.only (i:=4) (by kernel_rfl) rfl rfl rfl (lU.of rfl (bo aeO rfl rfl rfl ((fM _ [(ls.length:Int)] _ (by have h_:=(hN.sl 0 rfl);rw[OO]at h_;exact h_) (by simp)).mono ?_)))
 rintro v3 w3 ⟨cL,bn⟩
 replace hN:aI w F w3 [_,_,_,_]:=hN.cc (l:=bE [(ls.length:Int)]) cL bn
 clear cL bn
 refine⟨(hN.sb [3]),?_⟩
 refine XA.only (i:=5) (by kernel_rfl) rfl rfl rfl (dk rfl rfl ((fe.yield hT hY (v3,(bE [(ls.length:Int)])) hg (hN.di (M:=[_]) [2] (by decide) rfl) ⟨(hN.sl 0 rfl),hN.lG (M:=[_]) [2] rfl 0 rfl rfl (fun k hk=>hk)⟩).mono ?_))
 rintro _ w4 ⟨s4,rfl,gS,cE⟩
 replace hg:=gS
 clear gS
 replace hN:aI w F w4 [_,_,_,_]:=aI.dh (M:=[_]) (N:=[_,_,_]) (hN.sb [2,0,1,3]) cE
 clear cE
 refine⟨(hN.sb [3]),?_⟩
 refine XA.done (by kernel_rfl) (bR (XW.seq (XW.bI (RL.ag (v:=v) U (RL.ag (aQ acJ (h1.now hN)) (RL.ag (v:=.int .i64 (0)) U (RL.nil (cl (bR ?_)))))))))
 refine XW.block ?_
 refine XW.loop (fun k R0 cz=>∃si:σ,∃i:Nat,R0 1=vP gy∧R0 11=v∧R0 12=.int .i64 ((hs.length:Int))∧R0 13=vJ i∧aI w F cz [C true si,.aJ gy [.func (.yield l) #[] #[]] 59]∧(i+k=hs.length)∧(fe T adT s0 XS si ((ls.drop i).map bE++todo))) (hs.length) ?_ ?_
 exact⟨s4,0,rfl,rfl,rfl,rfl,(hN.sb [0,3]),by omega,hg⟩
 clear hN
 rintro k R0 cz ⟨si,i,bP,eQ,eP,ft,hN,gk,hg⟩
 have cB:=jd bP eQ eP ft
 obtain⟨gF,rfl⟩:=cB
 clear bP eQ eP ft
 refine XW.seq (XW.bI (RL.ag (aL) (RL.nil (cl (bR (XW.seq ?_))))))
 refine XW.lQ _ rfl (fun cD=>?_) (fun cD=>?_)
 refine XW.skip (bR (XW.seq (XW.block (XW.seq (XW.bI (RL.ag (aC acJ cj (h1.now hN)) ?_))))))
 have aO:=da (hs) i
 obtain⟨ap,bX⟩:=aO
 have aO:∃l_,(ls)[i]?=some l_:=⟨_,acE (by have:=jt.1;omega)⟩
 obtain⟨lp,ey⟩:=aO
 refine RL.ag (aF (m:=i) (a:=ap) acu (h1.now hN) bX) ?_
 have UK:=Ai lp (acy ey)
 refine RL.ag (v:=(vh ap)) ai (RL.nil (cl (bR ?_)))
 replace hg:=hg.as (QZ ey)
 refine XW.pU rfl (fun u=>aI w F u [.aJ gy [.func (.yield l) #[] #[]] 59]) ?_
 replace hN:=hN.ext (Ext.drew cz)
 refine XA.take (i:=0) rfl rfl (by kernel_rfl) (by kernel_rfl) (by kernel_rfl) (by repeat (first|exact gZ|refine gX ?_|refine hC ?_|refine gY ?_)) rfl (hN.sb [1]) (fun w hS=>(aj aep (hS.aJ 0 rfl))) ?_
 refine XA.take (v:=(vh ap)) (i:=1) rfl rfl (by kernel_rfl) (by kernel_rfl) (by kernel_rfl) (by repeat (first|exact gZ|refine gX ?_|refine hC ?_|refine gY ?_)) rfl (hN.sb [1]) (fun w hS=>U) ?_
 refine XA.only (i:=2) (by kernel_rfl) rfl rfl rfl (lU.of rfl (bo aeO rfl rfl rfl ((fM _ lp _ ((jt.iq bX ey).now hN) (by(try simp only[acw,ac5,adq,acN,acF,acC,ac7,acw,ac4]);omega)).mono ?_)))
 rintro v5 w5 ⟨cL,bn⟩
 replace hN:aI w F w5 [_,_,_]:=hN.cc (l:=bE lp) cL bn
 clear cL bn
 refine⟨(hN.sb [2]),?_⟩
 refine XA.only (i:=3) (by kernel_rfl) rfl rfl rfl (dk rfl rfl ((fe.yield hT hY (v5,(bE lp)) hg (hN.di (M:=[_]) [1] (by decide) rfl) ⟨(hN.sl 0 rfl),hN.lG (M:=[_]) [1] rfl 0 rfl rfl (fun k hk=>hk)⟩).mono ?_))
 rintro _ w6 ⟨s6,rfl,gS,cE⟩
 replace hg:=gS
 clear gS
 replace hN:aI w F w6 [_,_,_]:=aI.dh (M:=[_]) (N:=[_,_]) (hN.sb [1,0,2]) cE
 clear cE
 refine⟨(hN.sb [2]),?_⟩
 refine XA.done (by kernel_rfl) (ff (bR (XW.bI (RL.ag (aD rfl rfl rfl (bh (by omega) (by omega))) (RL.ag (v:=.int .i64 ((i:Int)+1)) U (RL.nil (cl (bR ?_))))))))
 exact⟨rfl,k-1,by omega,s6,i+1,rfl,rfl,rfl,rfl,(hN.sb [0,2]),by omega,hg⟩
 refine XW.exit ?_
 iterate 2 refine ng ?_
 refine iK (wq (RV.zero rfl) ?_)
 rw[aeW (by omega)]at hg
 exact⟨_,hg,hN.sb [0,1]⟩
theorem rI {σ:Type} (l:Nat) (C:Bool→σ→Atom) (T:σ→(Value×List UInt8)→Bool→σ→Prop) (s0:σ) {g:List Int} {far:List (List Int)} {outs ins:List (List I2)} {so si:List (List Int)} {F:Nat→Prop} (w:World) (hT:∀s x b s',T s x b s'→b=true) (hY:ow acx l C T adT s0 (fB g far outs ins so si) (Nd vb) A4) (gb:Nat) (gv fv ov iv db dc:Value) (hf ho hi gV gQ:List Hd) (hN:aI w F w [C true s0,.aJ gb [gv,fv,ov,iv,db,dc] 32]) (qD:pZ F w gv g fv hf far ov ho outs iv hi ins db gV so dc gQ si) (sD:g.length≤67108864) (xj:far.length≤67108864∧∀r∈far,r.length≤67108864) (Oj:outs.length≤67108864∧∀r∈outs,r.length≤67108864) (E2:ins.length≤67108864∧∀r∈ins,r.length≤67108864) (ET:so.length≤67108864∧∀r∈so,r.length≤67108864) (EV:si.length≤67108864∧∀r∈si,r.length≤67108864):aM acx 82 #[.func (.yield l) #[] #[],vP gb] w fun _ w'=>∃s',u6 T adT s0 (fB g far outs ins so si) s'∧aI w F w' [C true s']:=by
 refine aM.kY Tryz.func82 rfl (acv rfl) ?_
 rw[cT]
 have hg:fe T adT s0 (fB g far outs ins so si) s0 (fB g far outs ins so si):=fe.start
 refine XW.seq (XW.bI ?_)
 refine RL.aK (bL (cs:=[.func (.yield l) #[] #[]]) rfl rfl hN ?_)
 clear hN
 intro g1 w1 (hN:aI w F w1 [_,_,_])
 refine RL.nil (cl (bR (XW.seq (XW.bI (RL.ag (dP (vs:=[vP g1]) (xs:=[.tmp 2]) rfl rfl) (RL.ag (v:=.func (.func 83) #[] #[vP g1]) ai (RL.nil (cl (bR ?_)))))))))
 refine XW.seq (XW.pU rfl (fun u=>aI w F u [.aJ g1 [.func (.yield l) #[] #[]] 59,.aJ gb [gv,fv,ov,iv,db,dc] 32]) ?_)
 replace hN:=hN.ext (Ext.drew w1)
 refine XA.take (i:=0) rfl rfl (by kernel_rfl) (by kernel_rfl) (by kernel_rfl) (by repeat (first|exact gZ|refine gX ?_|refine hC ?_|refine gY ?_)) rfl (hN.sb [0,2]) (fun w hS=>(aj aep (hS.aJ 0 rfl))) ?_
 refine XA.take (i:=1) rfl rfl (by kernel_rfl) (by kernel_rfl) (by kernel_rfl) (by repeat (first|exact gZ|refine gX ?_|refine hC ?_|refine gY ?_)) rfl (hN.sb [0,2]) (fun w hS=>(ah acK rfl cj)) ?_
 refine XA.take (i:=2) rfl rfl (by kernel_rfl) (by kernel_rfl) (by kernel_rfl) (by repeat (first|exact gZ|refine gX ?_|refine hC ?_|refine gY ?_)) rfl (hN.sb [0,2]) (fun w hS=>(aj acu (hS.aJ 1 rfl))) ?_
 refine XA.only (i:=3) (by kernel_rfl) rfl rfl rfl (lU.of rfl (bo aeO rfl rfl rfl ((fM _ g _ (qD.tg.now hN) (by(try simp only[acw,ac5,adq,acN,acF,acC,ac7,acw,ac4]);omega)).mono ?_)))
 rintro v2 w2 ⟨cL,bn⟩
 replace hN:aI w F w2 [_,_,_,_]:=hN.cc (l:=bE g) cL bn
 clear cL bn
 refine⟨(hN.sb [1,3]),?_⟩
 refine XA.only (i:=4) (by kernel_rfl) rfl rfl rfl (dk rfl rfl ((fe.yield hT hY (v2,(bE g)) hg (hN.di (M:=[_]) [2] (by decide) rfl) ⟨(hN.sl 0 rfl),hN.lG (M:=[_]) [2] rfl 0 rfl rfl (fun k hk=>hk)⟩).mono ?_))
 rintro _ w3 ⟨s3,rfl,gS,cE⟩
 replace hg:=gS
 clear gS
 replace hN:aI w F w3 [_,_,_,_]:=aI.dh (M:=[_]) (N:=[_,_,_]) (hN.sb [2,0,1,3]) cE
 clear cE
 refine⟨(hN.sb [2,3]),?_⟩
 refine XA.done (by kernel_rfl) (bR (XW.seq (XW.bI (RL.ag (v:=.func (.func 83) #[] #[vP g1]) U (RL.ag (ah acK rfl fP) (RL.ag (aj acJ (hN.aJ 3 rfl)) ?_))))))
 refine RL.aK (cG (first:=#[]) (captured:=#[vP g1]) (v0:=fv) (args:=#[fv,vP g1]) ahA rfl rfl (by simp) rfl rfl ((np l C T s0 _ hT hY g1 s3 _ _ hf far (hg.as rfl) (hN.di (M:=[_,_]) [0,2] (by decide) rfl) (qD.tf.step (hN.sb (M:=[C true s3,.aJ g1 [.func (.yield l) #[] #[]] 59]) [0,2])) (qD.JN.step (hN.sb (M:=[C true s3,.aJ g1 [.func (.yield l) #[] #[]] 59]) [0,2])) xj.1 xj.2).mono ?_))
 rintro _ w4 ⟨s4,gS,cE⟩
 replace hg:=gS
 clear gS
 replace hN:aI w F w4 [_,_,_,_]:=aI.dh (M:=[_,_]) (N:=[_,_]) (hN.sb [0,2,1,3]) cE
 clear cE
 refine RL.nil (cl (bR ?_))
 iterate 2 refine XW.seq ?_
 refine XW.bI (RL.ag (ah acK rfl jf) (RL.ag (aj ac0 (hN.aJ 3 rfl)) (RL.ag (ah acK rfl jf) (RL.ag (aj ac0 (hN.aJ 3 rfl)) (RL.ag (qL (cs:=[ov,iv]) agI jf J9 (pl:=[(0,.tmp 19),(1,.tmp 21)]) rfl (ps:=[(0,ov),(1,iv)]) rfl (zc:=[vN,vN]) rfl (aP (vs:=[ov]) (qD.to.now hN).cN rfl (acv rfl) (aP (vs:=[iv]) (qD.ti.now hN).cN rfl (acv rfl) rfl))) (RL.ag (v:=.int .i64 (0)) U (RL.nil (cl (bR ?_)))))))))
 refine XW.block ?_
 refine XW.loop (fun k R0 cz=>∃sj:σ,∃i:Nat,R0 1=vP gb∧R0 2=vP g1∧R0 3=.func (.func 83) #[] #[vP g1]∧R0 22=.agg #[ov,iv]∧R0 23=vJ i∧aI w F cz [C true sj,.aJ g1 [.func (.yield l) #[] #[]] 59,.aJ gb [gv,fv,ov,iv,db,dc] 32]∧(i+k=2)∧(fe T adT s0 (fB g far outs ins so si) sj (match i with|0=>eC outs++(eC ins++(dW so++dW si))|1=>eC ins++(dW so++dW si)|_=>dW so++dW si))) (2) ?_ ?_
 exact⟨s4,0,rfl,rfl,rfl,rfl,rfl,(hN.sb [0,1,3]),by omega,hg⟩
 clear hN
 rintro k R0 cz ⟨sj,i,bP,bV,cd,kO,iV,hN,gk,hg⟩
 have cB:=iw bP bV cd kO iV
 obtain⟨gF,rfl⟩:=cB
 clear bP bV cd kO iV
 refine XW.seq (XW.bI (RL.ag (aL) (RL.nil (cl (bR (XW.seq ?_))))))
 refine XW.lQ _ rfl (fun cD=>?_) (fun cD=>?_)
 refine XW.skip (bR (XW.seq (XW.block (XW.seq ?_))))
 have xi:i=0∨i=1:=by omega
 rcases xi with rfl|rfl
 have OO:=qD.D0.1
 change fe T adT s0 (fB g far outs ins so si) sj (eC outs++(eC ins++(dW so++dW si)))at hg
 refine XW.bI (RL.ag (iW (cs:=[ov,iv]) agI ac0 rfl jf rfl rfl (by omega) (by omega) rfl) (RL.ag (v:=ov) ai (RL.nil (cl (bR (XW.seq (XW.pU rfl (fun u=>aI w F u [.aJ g1 [.func (.yield l) #[] #[]] 59,.aJ gb [gv,fv,ov,iv,db,dc] 32]) ?_)))))))
 replace hN:=hN.ext (Ext.drew cz)
 refine XA.take (i:=0) rfl rfl (by kernel_rfl) (by kernel_rfl) (by kernel_rfl) (by repeat (first|exact gZ|refine gX ?_|refine hC ?_|refine gY ?_)) rfl (hN.sb [1,2]) (fun w hS=>(aj aep (hS.aJ 0 rfl))) ?_
 refine XA.take (v:=ov) (i:=1) rfl rfl (by kernel_rfl) (by kernel_rfl) (by kernel_rfl) (by repeat (first|exact gZ|refine gX ?_|refine hC ?_|refine gY ?_)) rfl (hN.sb [1,2]) (fun w hS=>U) ?_
 have qG:=(qD.to.now hN).bw
 refine XA.take (i:=2) rfl rfl (by kernel_rfl) (by kernel_rfl) (by kernel_rfl) (by repeat (first|exact gZ|refine gX ?_|refine hC ?_|refine gY ?_)) rfl (hN.sb [1,2]) (fun w hS=>(aQ ac0 (qD.to.now hS))) ?_
 refine XA.only (i:=3) (by kernel_rfl) rfl rfl rfl (lU.of rfl (cw (enc:=vi) (l:=[(ho.length:Int)]) (xs:=[.tmp 28]) acu bK mU rfl rfl (fun _=>rfl) rfl (by decide) (by decide) hN ?_))
 clear hN
 intro g6 w6 (hN:aI w F w6 [_,_,_,_])
 refine⟨(hN.sb [2,3]),?_⟩
 refine XA.only (i:=4) (by kernel_rfl) rfl rfl rfl (lU.of rfl (bo aeO rfl rfl rfl ((fM _ [(outs.length:Int)] _ (by have h_:=(hN.sl 0 rfl);rw[OO]at h_;exact h_) (by simp)).mono ?_)))
 rintro v7 w7 ⟨cL,bn⟩
 replace hN:aI w F w7 [_,_,_,_,_]:=hN.cc (l:=bE [(outs.length:Int)]) cL bn
 clear cL bn
 refine⟨(hN.sb [3,4]),?_⟩
 refine XA.only (i:=5) (by kernel_rfl) rfl rfl rfl (dk rfl rfl ((fe.yield hT hY (v7,(bE [(outs.length:Int)])) hg (hN.di (M:=[_]) [2] (by decide) rfl) ⟨(hN.sl 0 rfl),hN.lG (M:=[_]) [2] rfl 0 rfl rfl (fun k hk=>hk)⟩).mono ?_))
 rintro _ w8 ⟨s8,rfl,gS,cE⟩
 replace hg:=gS
 clear gS
 replace hN:aI w F w8 [_,_,_,_,_]:=aI.dh (M:=[_]) (N:=[_,_,_,_]) (hN.sb [2,0,1,3,4]) cE
 clear cE
 refine⟨(hN.sb [3,4]),?_⟩
 refine XA.done (by kernel_rfl) (bR (XW.seq (XW.bI (RL.ag (v:=ov) U (RL.ag (aQ ac0 (qD.to.now hN)) (RL.ag (v:=.int .i64 (0)) U (RL.nil (cl (bR ?_)))))))))
 refine XW.block ?_
 refine XW.loop (fun k2 R1 eW=>∃sq:σ,∃q:Nat,R1 1=vP gb∧R1 2=vP g1∧R1 3=.func (.func 83) #[] #[vP g1]∧R1 22=.agg #[ov,iv]∧R1 23=.int .i64 (((0:Nat):Int))∧R1 32=ov∧R1 33=.int .i64 ((ho.length:Int))∧R1 34=vJ q∧aI w F eW [C true sq,.aJ g1 [.func (.yield l) #[] #[]] 59,.aJ gb [gv,fv,ov,iv,db,dc] 32]∧(q+k2=ho.length)∧(fe T adT s0 (fB g far outs ins so si) sq ((outs.drop q).flatMap eN++(eC ins++(dW so++dW si))))) (ho.length) ?_ ?_
 exact⟨s8,0,rfl,rfl,rfl,rfl,rfl,rfl,rfl,rfl,(hN.sb [0,3,4]),by omega,hg⟩
 clear hN
 rintro k2 R1 eW ⟨sq,q,bP,bV,cd,kO,iV,Al,rf,re,hN,yq,hg⟩
 have cB:=sR bP bV cd kO iV Al rf re
 obtain⟨sk,rfl⟩:=cB
 clear bP bV cd kO iV Al rf re
 refine XW.seq (XW.bI (RL.ag (aL) (RL.nil (cl (bR (XW.seq ?_))))))
 refine XW.lQ _ rfl (fun eD=>?_) (fun eD=>?_)
 refine XW.skip (bR (XW.seq (XW.block (XW.seq (XW.bI (RL.ag (aC ac0 lr (qD.to.now hN)) ?_))))))
 have aO:=da (ho) q
 obtain⟨ap,bX⟩:=aO
 have aO:∃l_,(outs)[q]?=some l_:=⟨_,acE (by have:=qD.D0.1;omega)⟩
 obtain⟨lp,ey⟩:=aO
 refine RL.ag (aF (m:=q) (a:=ap) acW (qD.to.now hN) bX) (RL.ag (v:=(vh ap)) ai ?_)
 have UK:=Oj.2 lp (acy ey)
 replace hg:=hg.as (GU ey)
 refine RL.nil (cl (bR (XW.seq (XW.pU rfl (fun u=>aI w F u [.aJ g1 [.func (.yield l) #[] #[]] 59,.aJ gb [gv,fv,ov,iv,db,dc] 32]) ?_))))
 replace hN:=hN.ext (Ext.drew eW)
 refine XA.take (i:=0) rfl rfl (by kernel_rfl) (by kernel_rfl) (by kernel_rfl) (by repeat (first|exact gZ|refine gX ?_|refine hC ?_|refine gY ?_)) rfl (hN.sb [1,2]) (fun w hS=>(aj aep (hS.aJ 0 rfl))) ?_
 refine XA.take (v:=(vh ap)) (i:=1) rfl rfl (by kernel_rfl) (by kernel_rfl) (by kernel_rfl) (by repeat (first|exact gZ|refine gX ?_|refine hC ?_|refine gY ?_)) rfl (hN.sb [1,2]) (fun w hS=>U) ?_
 refine XA.only (i:=2) (by kernel_rfl) rfl rfl rfl (lU.of rfl (bu agB rfl rfl rfl rfl ((mT _ lp _ ((qD.D0.iq bX ey).now hN) (by omega)).mono ?_)))
 rintro v9 w9 ⟨cL,bn⟩
 replace hN:aI w F w9 [_,_,_,_]:=hN.cc (l:=bE (lp.map fun a=>a.1)) cL bn
 clear cL bn
 refine⟨(hN.sb [2,3]),?_⟩
 refine XA.only (i:=3) (by kernel_rfl) rfl rfl rfl (dk rfl rfl ((fe.yield hT hY (v9,(bE (lp.map fun a=>a.1))) hg (hN.di (M:=[_]) [1] (by decide) rfl) ⟨(hN.sl 0 rfl),hN.lG (M:=[_]) [1] rfl 0 rfl rfl (fun k hk=>hk)⟩).mono ?_))
 rintro _ lW ⟨YX,rfl,gS,cE⟩
 replace hg:=gS
 clear gS
 replace hN:aI w F lW [_,_,_,_]:=aI.dh (M:=[_]) (N:=[_,_,_]) (hN.sb [1,0,2,3]) cE
 clear cE
 refine⟨(hN.sb [2,3]),?_⟩
 refine XA.done (by kernel_rfl) (bR (XW.pU rfl (fun u=>aI w F u [.own vb 5 (v9) (bE (lp.map fun a=>a.1)),.aJ g1 [.func (.yield l) #[] #[]] 59,.aJ gb [gv,fv,ov,iv,db,dc] 32]) ?_))
 replace hN:=hN.ext (Ext.drew lW)
 refine XA.take (i:=0) rfl rfl (by kernel_rfl) (by kernel_rfl) (by kernel_rfl) (by repeat (first|exact gZ|refine gX ?_|refine hC ?_|refine gY ?_)) rfl (hN.sb [1,2,3]) (fun w hS=>(aj aep (hS.aJ 1 rfl))) ?_
 refine XA.take (v:=(vh ap)) (i:=1) rfl rfl (by kernel_rfl) (by kernel_rfl) (by kernel_rfl) (by repeat (first|exact gZ|refine gX ?_|refine hC ?_|refine gY ?_)) rfl (hN.sb [1,2,3]) (fun w hS=>U) ?_
 refine XA.only (i:=2) (by kernel_rfl) rfl rfl rfl (lU.of rfl (bu agB rfl rfl rfl rfl ((mS _ lp _ ((qD.D0.iq bX ey).now hN) (by omega)).mono ?_)))
 rintro v11 lR ⟨cL,bn⟩
 replace hN:aI w F lR [_,_,_,_,_]:=hN.cc (l:=bE (lp.map fun a=>a.2)) cL bn
 clear cL bn
 refine⟨(hN.sb [2,3,4]),?_⟩
 refine XA.only (i:=3) (by kernel_rfl) rfl rfl rfl (dk rfl rfl ((fe.yield hT hY (v11,(bE (lp.map fun a=>a.2))) hg (hN.di (M:=[_]) [1] (by decide) rfl) ⟨(hN.sl 0 rfl),hN.lG (M:=[_]) [1] rfl 0 rfl rfl (fun k hk=>hk)⟩).mono ?_))
 rintro _ ll ⟨W0,rfl,gS,cE⟩
 replace hg:=gS
 clear gS
 replace hN:aI w F ll [_,_,_,_,_]:=aI.dh (M:=[_]) (N:=[_,_,_,_]) (hN.sb [1,0,2,3,4]) cE
 clear cE
 refine⟨(hN.sb [2,3,4]),?_⟩
 refine XA.done (by kernel_rfl) (ff (bR (XW.bI (RL.ag (aD rfl rfl rfl (bh (by omega) (by omega))) (RL.ag (v:=.int .i64 ((q:Int)+1)) U (RL.nil (cl (bR ?_))))))))
 exact⟨rfl,k2-1,by omega,W0,q+1,rfl,rfl,rfl,rfl,rfl,rfl,rfl,rfl,(hN.sb [0,3,4]),by omega,hg⟩
 refine XW.exit ?_
 iterate 2 refine ng ?_
 refine iK (ff (bR (XW.bI (RL.ag (aD rfl rfl rfl (bh (by omega) (by omega))) (RL.ag (v:=.int .i64 (((0:Nat):Int)+1)) U (RL.nil (cl (bR ?_))))))))
 rw[aeW (by omega)]at hg
 exact⟨rfl,k-1,by omega,sq,0+1,rfl,rfl,rfl,rfl,rfl,hN,by omega,hg⟩
 have OO:=qD.tie.1
 change fe T adT s0 (fB g far outs ins so si) sj (eC ins++(dW so++dW si))at hg
 refine XW.bI (RL.ag (iW (cs:=[ov,iv]) agI ac0 rfl jf rfl rfl (by omega) (by omega) rfl) (RL.ag (v:=iv) ai (RL.nil (cl (bR (XW.seq (XW.pU rfl (fun u=>aI w F u [.aJ g1 [.func (.yield l) #[] #[]] 59,.aJ gb [gv,fv,ov,iv,db,dc] 32]) ?_)))))))
 replace hN:=hN.ext (Ext.drew cz)
 refine XA.take (i:=0) rfl rfl (by kernel_rfl) (by kernel_rfl) (by kernel_rfl) (by repeat (first|exact gZ|refine gX ?_|refine hC ?_|refine gY ?_)) rfl (hN.sb [1,2]) (fun w hS=>(aj aep (hS.aJ 0 rfl))) ?_
 refine XA.take (v:=iv) (i:=1) rfl rfl (by kernel_rfl) (by kernel_rfl) (by kernel_rfl) (by repeat (first|exact gZ|refine gX ?_|refine hC ?_|refine gY ?_)) rfl (hN.sb [1,2]) (fun w hS=>U) ?_
 have MY:=(qD.ti.now hN).bw
 refine XA.take (i:=2) rfl rfl (by kernel_rfl) (by kernel_rfl) (by kernel_rfl) (by repeat (first|exact gZ|refine gX ?_|refine hC ?_|refine gY ?_)) rfl (hN.sb [1,2]) (fun w hS=>(aQ ac0 (qD.ti.now hS))) ?_
 refine XA.only (i:=3) (by kernel_rfl) rfl rfl rfl (lU.of rfl (cw (enc:=vi) (l:=[(hi.length:Int)]) (xs:=[.tmp 28]) acu bK mU rfl rfl (fun _=>rfl) rfl (by decide) (by decide) hN ?_))
 clear hN
 intro M4 o7 (hN:aI w F o7 [_,_,_,_])
 refine⟨(hN.sb [2,3]),?_⟩
 refine XA.only (i:=4) (by kernel_rfl) rfl rfl rfl (lU.of rfl (bo aeO rfl rfl rfl ((fM _ [(ins.length:Int)] _ (by have h_:=(hN.sl 0 rfl);rw[OO]at h_;exact h_) (by simp)).mono ?_)))
 rintro kH qf ⟨cL,bn⟩
 replace hN:aI w F qf [_,_,_,_,_]:=hN.cc (l:=bE [(ins.length:Int)]) cL bn
 clear cL bn
 refine⟨(hN.sb [3,4]),?_⟩
 refine XA.only (i:=5) (by kernel_rfl) rfl rfl rfl (dk rfl rfl ((fe.yield hT hY (kH,(bE [(ins.length:Int)])) hg (hN.di (M:=[_]) [2] (by decide) rfl) ⟨(hN.sl 0 rfl),hN.lG (M:=[_]) [2] rfl 0 rfl rfl (fun k hk=>hk)⟩).mono ?_))
 rintro _ qe ⟨P6,rfl,gS,cE⟩
 replace hg:=gS
 clear gS
 replace hN:aI w F qe [_,_,_,_,_]:=aI.dh (M:=[_]) (N:=[_,_,_,_]) (hN.sb [2,0,1,3,4]) cE
 clear cE
 refine⟨(hN.sb [3,4]),?_⟩
 refine XA.done (by kernel_rfl) (bR (XW.seq (XW.bI (RL.ag (v:=iv) U (RL.ag (aQ ac0 (qD.ti.now hN)) (RL.ag (v:=.int .i64 (0)) U (RL.nil (cl (bR ?_)))))))))
 refine XW.block ?_
 refine XW.loop (fun k2 R1 eW=>∃sq:σ,∃q:Nat,R1 1=vP gb∧R1 2=vP g1∧R1 3=.func (.func 83) #[] #[vP g1]∧R1 22=.agg #[ov,iv]∧R1 23=.int .i64 (((1:Nat):Int))∧R1 32=iv∧R1 33=.int .i64 ((hi.length:Int))∧R1 34=vJ q∧aI w F eW [C true sq,.aJ g1 [.func (.yield l) #[] #[]] 59,.aJ gb [gv,fv,ov,iv,db,dc] 32]∧(q+k2=hi.length)∧(fe T adT s0 (fB g far outs ins so si) sq ((ins.drop q).flatMap eN++(dW so++dW si)))) (hi.length) ?_ ?_
 exact⟨P6,0,rfl,rfl,rfl,rfl,rfl,rfl,rfl,rfl,(hN.sb [0,3,4]),by omega,hg⟩
 clear hN
 rintro k2 R1 eW ⟨sq,q,bP,bV,cd,kO,iV,Al,rf,re,hN,yq,hg⟩
 have cB:=sR bP bV cd kO iV Al rf re
 obtain⟨sk,rfl⟩:=cB
 clear bP bV cd kO iV Al rf re
 refine XW.seq (XW.bI (RL.ag (aL) (RL.nil (cl (bR (XW.seq ?_))))))
 refine XW.lQ _ rfl (fun eD=>?_) (fun eD=>?_)
 refine XW.skip (bR (XW.seq (XW.block (XW.seq (XW.bI (RL.ag (aC ac0 lr (qD.ti.now hN)) ?_))))))
 have aO:=da (hi) q
 obtain⟨ap,bX⟩:=aO
 have aO:∃l_,(ins)[q]?=some l_:=⟨_,acE (by have:=qD.tie.1;omega)⟩
 obtain⟨lp,ey⟩:=aO
 refine RL.ag (aF (m:=q) (a:=ap) acW (qD.ti.now hN) bX) (RL.ag (v:=(vh ap)) ai ?_)
 have UK:=E2.2 lp (acy ey)
 replace hg:=hg.as (GU ey)
 refine RL.nil (cl (bR (XW.seq (XW.pU rfl (fun u=>aI w F u [.aJ g1 [.func (.yield l) #[] #[]] 59,.aJ gb [gv,fv,ov,iv,db,dc] 32]) ?_))))
 replace hN:=hN.ext (Ext.drew eW)
 refine XA.take (i:=0) rfl rfl (by kernel_rfl) (by kernel_rfl) (by kernel_rfl) (by repeat (first|exact gZ|refine gX ?_|refine hC ?_|refine gY ?_)) rfl (hN.sb [1,2]) (fun w hS=>(aj aep (hS.aJ 0 rfl))) ?_
 refine XA.take (v:=(vh ap)) (i:=1) rfl rfl (by kernel_rfl) (by kernel_rfl) (by kernel_rfl) (by repeat (first|exact gZ|refine gX ?_|refine hC ?_|refine gY ?_)) rfl (hN.sb [1,2]) (fun w hS=>U) ?_
 refine XA.only (i:=2) (by kernel_rfl) rfl rfl rfl (lU.of rfl (bu agB rfl rfl rfl rfl ((mT _ lp _ ((qD.tie.iq bX ey).now hN) (by omega)).mono ?_)))
 rintro QK sQ ⟨cL,bn⟩
 replace hN:aI w F sQ [_,_,_,_]:=hN.cc (l:=bE (lp.map fun a=>a.1)) cL bn
 clear cL bn
 refine⟨(hN.sb [2,3]),?_⟩
 refine XA.only (i:=3) (by kernel_rfl) rfl rfl rfl (dk rfl rfl ((fe.yield hT hY (QK,(bE (lp.map fun a=>a.1))) hg (hN.di (M:=[_]) [1] (by decide) rfl) ⟨(hN.sl 0 rfl),hN.lG (M:=[_]) [1] rfl 0 rfl rfl (fun k hk=>hk)⟩).mono ?_))
 rintro _ u0 ⟨JO,rfl,gS,cE⟩
 replace hg:=gS
 clear gS
 replace hN:aI w F u0 [_,_,_,_]:=aI.dh (M:=[_]) (N:=[_,_,_]) (hN.sb [1,0,2,3]) cE
 clear cE
 refine⟨(hN.sb [2,3]),?_⟩
 refine XA.done (by kernel_rfl) (bR (XW.pU rfl (fun u=>aI w F u [.own vb 5 (QK) (bE (lp.map fun a=>a.1)),.aJ g1 [.func (.yield l) #[] #[]] 59,.aJ gb [gv,fv,ov,iv,db,dc] 32]) ?_))
 replace hN:=hN.ext (Ext.drew u0)
 refine XA.take (i:=0) rfl rfl (by kernel_rfl) (by kernel_rfl) (by kernel_rfl) (by repeat (first|exact gZ|refine gX ?_|refine hC ?_|refine gY ?_)) rfl (hN.sb [1,2,3]) (fun w hS=>(aj aep (hS.aJ 1 rfl))) ?_
 refine XA.take (v:=(vh ap)) (i:=1) rfl rfl (by kernel_rfl) (by kernel_rfl) (by kernel_rfl) (by repeat (first|exact gZ|refine gX ?_|refine hC ?_|refine gY ?_)) rfl (hN.sb [1,2,3]) (fun w hS=>U) ?_
 refine XA.only (i:=2) (by kernel_rfl) rfl rfl rfl (lU.of rfl (bu agB rfl rfl rfl rfl ((mS _ lp _ ((qD.tie.iq bX ey).now hN) (by omega)).mono ?_)))
 rintro JM Bk ⟨cL,bn⟩
 replace hN:aI w F Bk [_,_,_,_,_]:=hN.cc (l:=bE (lp.map fun a=>a.2)) cL bn
 clear cL bn
 refine⟨(hN.sb [2,3,4]),?_⟩
 refine XA.only (i:=3) (by kernel_rfl) rfl rfl rfl (dk rfl rfl ((fe.yield hT hY (JM,(bE (lp.map fun a=>a.2))) hg (hN.di (M:=[_]) [1] (by decide) rfl) ⟨(hN.sl 0 rfl),hN.lG (M:=[_]) [1] rfl 0 rfl rfl (fun k hk=>hk)⟩).mono ?_))
 rintro _ DY ⟨YV,rfl,gS,cE⟩
 replace hg:=gS
 clear gS
 replace hN:aI w F DY [_,_,_,_,_]:=aI.dh (M:=[_]) (N:=[_,_,_,_]) (hN.sb [1,0,2,3,4]) cE
 clear cE
 refine⟨(hN.sb [2,3,4]),?_⟩
 refine XA.done (by kernel_rfl) (ff (bR (XW.bI (RL.ag (aD rfl rfl rfl (bh (by omega) (by omega))) (RL.ag (v:=.int .i64 ((q:Int)+1)) U (RL.nil (cl (bR ?_))))))))
 exact⟨rfl,k2-1,by omega,YV,q+1,rfl,rfl,rfl,rfl,rfl,rfl,rfl,rfl,(hN.sb [0,3,4]),by omega,hg⟩
 refine XW.exit ?_
 iterate 2 refine ng ?_
 refine iK (ff (bR (XW.bI (RL.ag (aD rfl rfl rfl (bh (by omega) (by omega))) (RL.ag (v:=.int .i64 (((1:Nat):Int)+1)) U (RL.nil (cl (bR ?_))))))))
 rw[aeW (by omega)]at hg
 exact⟨rfl,k-1,by omega,sq,1+1,rfl,rfl,rfl,rfl,rfl,hN,by omega,hg⟩
 refine XW.exit ?_
 iterate 2 refine ng ?_
 refine iK (bR (XW.seq ?_))
 have iy:i=2:=by omega
 subst iy
 change fe T adT s0 (fB g far outs ins so si) sj (dW so++dW si)at hg
 refine XW.bI (RL.ag (v:=.func (.func 83) #[] #[vP g1]) U (RL.ag (ah acK rfl fP) (RL.ag (aj acJ (hN.aJ 2 rfl)) ?_)))
 refine RL.aK (cG (first:=#[]) (captured:=#[vP g1]) (v0:=db) (args:=#[db,vP g1]) ahA rfl rfl (by simp) rfl rfl ((np l C T s0 _ hT hY g1 sj _ _ gV so (hg.as rfl) (hN.di (M:=[_,_]) [0,1] (by decide) rfl) (qD.Gf.step (hN.sb (M:=[C true sj,.aJ g1 [.func (.yield l) #[] #[]] 59]) [0,1])) (qD.u7.step (hN.sb (M:=[C true sj,.aJ g1 [.func (.yield l) #[] #[]] 59]) [0,1])) ET.1 ET.2).mono ?_))
 rintro _ C4 ⟨Uf,gS,cE⟩
 replace hg:=gS
 clear gS
 replace hN:aI w F C4 [_,_,_]:=aI.dh (M:=[_,_]) (N:=[_]) (hN.sb [0,1,2]) cE
 clear cE
 replace hg:=hg.as (adj _).symm
 refine RL.nil (cl (bR (XW.bI (RL.ag (v:=.func (.func 83) #[] #[vP g1]) U (RL.ag (ah acK rfl fP) (RL.ag (aj acJ (hN.aJ 2 rfl)) ?_))))))
 refine RL.aK (cG (first:=#[]) (captured:=#[vP g1]) (v0:=dc) (args:=#[dc,vP g1]) ahA rfl rfl (by simp) rfl rfl ((np l C T s0 _ hT hY g1 Uf _ _ gQ si (hg.as rfl) (hN.di (M:=[_,_]) [0,1] (by decide) rfl) (qD.Gg.step (hN.sb (M:=[C true Uf,.aJ g1 [.func (.yield l) #[] #[]] 59]) [0,1])) (qD.u9.step (hN.sb (M:=[C true Uf,.aJ g1 [.func (.yield l) #[] #[]] 59]) [0,1])) EV.1 EV.2).mono ?_))
 rintro _ y1 ⟨s22,gS,cE⟩
 replace hg:=gS
 clear gS
 replace hN:aI w F y1 [_,_,_]:=aI.dh (M:=[_,_]) (N:=[_]) (hN.sb [0,1,2]) cE
 clear cE
 refine RL.nil (cl (wq (RV.zero rfl) ?_))
 exact⟨_,hg.done,hN.sb [0]⟩
theorem vF (g:List Int) (far:List (List Int)) (outs ins:List (List I2)) (so si:List (List Int)) (gb:Nat) (gv fv ov iv db dc:Value) (hf ho hi gV gQ:List Hd) (sD:g.length≤67108864) (xj:far.length≤67108864∧∀r∈far,r.length≤67108864) (Oj:outs.length≤67108864∧∀r∈outs,r.length≤67108864) (E2:ins.length≤67108864∧∀r∈ins,r.length≤67108864) (ET:so.length≤67108864∧∀r∈so,r.length≤67108864) (EV:si.length≤67108864∧∀r∈si,r.length≤67108864):uZ acx 82 #[vP gb] [.aJ gb [gv,fv,ov,iv,db,dc] 32] (fun F w=>pZ F w gv g fv hf far ov ho outs iv hi ins db gV so dc gQ si) adT A4 (Nd vb) (fB g far outs ins so si):=by
  intro σ l C T s0 w0 w F hT hY DA hN
  have h1:=hN.di (M:=[_,_]) [0,1] (by decide) rfl
  refine(rI l C T s0 w hT hY gb gv fv ov iv db dc hf ho hi gV gQ h1 (DA.step hN) sD xj Oj E2 ET EV).mono ?_
  rintro _ w' ⟨s',hr,h2⟩
  exact⟨s',hr,aI.dh (M:=[_,_]) (N:=[]) hN h2⟩
end Go.Proofs.YtngkdkbpgoddlaaGreat
namespace Go.Proofs.YtngkdkbpgoddlaaGreat
open Go.RowKit Go.Rl
open Go.Gr Go.dn Go.jJ
theorem zV (n:Int) (ar:List I3) (v:Value) (w:World) (hv:Sm bJ w v ar):aM acx 30 #[.agg #[.int .i64 n,v]] w fun r w'=>∃g,r=.func (.func 69) #[] #[vP g]∧aI w none_ w' [.aJ g [.int .i64 n,v] 24]:=by
 refine aM.aZ Tryz.func30 ?_
 rw[cM]
 have hN:=aI.nil w none_
 refine RW.aN ?_
 refine RL.aK (bL (cs:=[.int .i64 (n),v]) rfl rfl hN ?_)
 clear hN
 intro g1 w1 (hN:aI w none_ w1 [_])
 refine RL.ag ai (RL.b6 (RL.ag (dP (vs:=[vP g1]) (xs:=[.tmp 1]) rfl rfl) (RL.ag (v:=.func (.func 69) #[] #[vP g1]) ai (RL.ak (RW.ret ?_)))))
 refine bb (RV.tmp rfl) ?_
 exact⟨_,rfl,hN.sb [0]⟩
theorem x9 (rk:List Int) (ws:List I5) (rv wv:Value) (w:World) (hr:Sl vI w rv rk) (hw:Sm aV w wv ws):aM acx 31 #[.agg #[rv,wv]] w fun r w'=>∃g,r=.func (.func 75) #[] #[vP g]∧aI w none_ w' [.aJ g [rv,wv] 28]:=by
 refine aM.aZ Tryz.func31 ?_
 rw[cM]
 have hN:=aI.nil w none_
 refine RW.aN ?_
 refine RL.aK (bL (cs:=[rv,wv]) rfl rfl hN ?_)
 clear hN
 intro g1 w1 (hN:aI w none_ w1 [_])
 refine RL.ag ai (RL.b6 (RL.ag (dP (vs:=[vP g1]) (xs:=[.tmp 1]) rfl rfl) (RL.ag (v:=.func (.func 75) #[] #[vP g1]) ai (RL.ak (RW.ret ?_)))))
 refine bb (RV.tmp rfl) ?_
 exact⟨_,rfl,hN.sb [0]⟩
theorem tJ (g0:List Int) (far:List (List Int)) (outs ins:List (List I2)) (so si:List (List Int)) (gv fv ov iv db dc:Value) (hf ho hi gV gQ:List Hd) (w:World) (hT:pZ none_ w gv g0 fv hf far ov ho outs iv hi ins db gV so dc gQ si):aM acx 32 #[.agg #[gv,fv,ov,iv,db,dc]] w fun r w'=>∃g,r=.func (.func 82) #[] #[vP g]∧aI w none_ w' [.aJ g [gv,fv,ov,iv,db,dc] 32]:=by
 refine aM.aZ Tryz.func32 ?_
 rw[cM]
 have hN:=aI.nil w none_
 refine RW.aN ?_
 refine RL.aK (bL (cs:=[gv,fv,ov,iv,db,dc]) rfl rfl hN ?_)
 clear hN
 intro g1 w1 (hN:aI w none_ w1 [_])
 refine RL.ag ai (RL.b6 (RL.ag (dP (vs:=[vP g1]) (xs:=[.tmp 1]) rfl rfl) (RL.ag (v:=.func (.func 82) #[] #[vP g1]) ai (RL.ak (RW.ret ?_)))))
 refine bb (RV.tmp rfl) ?_
 exact⟨_,rfl,hN.sb [0]⟩
theorem mA (n:Int) (ar:List I3) (rk:List Int) (ws:List I5) (g:List Int) (far:List (List Int)) (outs ins:List (List I2)) (so si:List (List Int)) (v rv wv gv fv ov iv db dc:Value) (hf ho hi gV gQ:List Hd) (w:World) (hv:Sm bJ w v ar) (hr:Sl vI w rv rk) (hw:Sm aV w wv ws) (hT:pZ none_ w gv g fv hf far ov ho outs iv hi ins db gV so dc gQ si) (ir:ar.length≤67108864) (Ai:rk.length≤67108864) (Qe:ws.length≤67108864) (sD:g.length≤67108864) (xj:far.length≤67108864∧∀r∈far,r.length≤67108864) (Oj:outs.length≤67108864∧∀r∈outs,r.length≤67108864) (E2:ins.length≤67108864∧∀r∈ins,r.length≤67108864) (ET:so.length≤67108864∧∀r∈so,r.length≤67108864) (EV:si.length≤67108864∧∀r∈si,r.length≤67108864) (fb:dX (dA n ar rk ws g far outs ins so si)≤140737488351232):aM acx 10 #[.agg #[.int .i64 n,v,rv,wv,gv,fv,ov,iv,db,dc]] w fun r w'=>eG vb 5 w' w.heap.size r (cP (dA n ar rk ws g far outs ins so si))∧Ext w w':=by
 refine aM.aZ ahB ?_
 rw[cM]
 have hN:=aI.nil w none_
 have aO:=Q5 fb
 obtain⟨mQ,nX,RG,q9⟩:=aO
 refine RW.aN ?_
 refine RL.aK (bL (cs:=[.int .i64 (n),v,rv,wv,gv,fv,ov,iv,db,dc]) rfl rfl hN ?_)
 clear hN
 intro g1 w1 (hN:aI w none_ w1 [_])
 refine RL.ag (v:=vN) ai (RL.ak (RW.seq ?_))
 replace hN:=hN.ext (Ext.drew w1)
 refine RW.bD (fun u=>aI w none_ u [.aJ g1 [.int .i64 (n),v,rv,wv,gv,fv,ov,iv,db,dc] 34]) 18 [(0,0),(1,0),(3,0),(4,0),(7,0),(8,0),(11,0),(12,0),(2,1),(5,1),(6,1),(9,1),(10,1),(13,1),(14,1),(15,1),(16,1),(17,0)] (by intro _ _ _ h;exact h) hN (RQ.aA rfl (fun w hS=>(ah acL rfl dN)) (RQ.aA rfl (fun w hS=>(dG (cs:=[.int .i64 (n),v,rv,wv,gv,fv,ov,iv,db,dc]) (j:=0) (m:=2) acI rfl dN rfl (hS.aJ 0 rfl) (acv rfl))) (RQ.aA rfl (fun w hS=>(ah acL rfl dN)) (RQ.aA rfl (fun w hS=>(dG (cs:=[.int .i64 (n),v,rv,wv,gv,fv,ov,iv,db,dc]) (j:=0) (m:=2) acI rfl dN rfl (hS.aJ 0 rfl) (acv rfl))) (RQ.aA rfl (fun w hS=>(ah acL rfl dy)) (RQ.aA rfl (fun w hS=>(dG (cs:=[.int .i64 (n),v,rv,wv,gv,fv,ov,iv,db,dc]) (j:=2) (m:=2) acz rfl dy rfl (hS.aJ 0 rfl) (acv rfl))) (RQ.aA rfl (fun w hS=>(ah acL rfl iD)) (RQ.aA rfl (fun w hS=>(dG (cs:=[.int .i64 (n),v,rv,wv,gv,fv,ov,iv,db,dc]) (j:=4) (m:=6) acK rfl iD rfl (hS.aJ 0 rfl) (acv rfl))) ?_))))))))
 refine RQ.b0 rfl (bo aiQ rfl rfl rfl ((Az (n) _ ar _ (hv.o.now hN)).mono ?_))
 rintro v2 w2 ⟨cL,bn⟩
 replace hN:aI w none_ w2 [_,_]:=hN.cc (l:=kR (n) ar) cL bn
 clear cL bn
 refine⟨(hN.sb [1]),?_⟩
 refine RQ.b0 rfl (bo Tryz.func30 rfl rfl rfl ((zV n ar v _ (hv.o.now hN)).mono ?_))
 rintro _ w3 ⟨g3,rfl,cE⟩
 replace hN:aI w none_ w3 [_,_,_]:=hN.fV cE
 clear cE
 refine⟨(hN.sb [2]),?_⟩
 refine RQ.b0 rfl (bo ahz rfl rfl rfl ((mm 69 _ #[vP g3] [.aJ g3 [.int .i64 (n),v] 24] _ (j6 n ar) Tryz.func69 rfl rfl (B1 n ar g3 v ir) (by omega) _ (mG.step oM hv.o (hN.sb (M:=[.aJ g3 [.int .i64 (n),v] 24]) [0])) (hN.di (M:=[_]) [0] (by decide) rfl)).mono ?_))
 rintro v4 w4 cE
 replace hN:aI w none_ w4 [_,_,_]:=aI.dh (M:=[_]) (N:=[_,_]) (hN.sb [0,1,2]) cE
 clear cE
 refine⟨(hN.sb [2]),?_⟩
 refine RQ.b0 rfl (bo Tryz.func31 rfl rfl rfl ((x9 rk ws rv wv _ (hr.o.now hN) (hw.o.now hN)).mono ?_))
 rintro _ w5 ⟨g5,rfl,cE⟩
 replace hN:aI w none_ w5 [_,_,_,_]:=hN.fV cE
 clear cE
 refine⟨(hN.sb [3]),?_⟩
 refine RQ.b0 rfl (bo ahz rfl rfl rfl ((mm 75 _ #[vP g5] [.aJ g5 [rv,wv] 28] _ (ig rk ws) Tryz.func75 rfl rfl (zW rk ws g5 rv wv Ai Qe) (by omega) _ ⟨hr.o.step (hN.sb (M:=[.aJ g5 [rv,wv] 28]) [0]),mG.step fN hw.o (hN.sb (M:=[.aJ g5 [rv,wv] 28]) [0])⟩ (hN.di (M:=[_]) [0] (by decide) rfl)).mono ?_))
 rintro v6 w6 cE
 replace hN:aI w none_ w6 [_,_,_,_]:=aI.dh (M:=[_]) (N:=[_,_,_]) (hN.sb [0,1,2,3]) cE
 clear cE
 refine⟨(hN.sb [3]),?_⟩
 refine RQ.b0 rfl (bo Tryz.func32 rfl rfl rfl ((tJ g far outs ins so si gv fv ov iv db dc hf ho hi gV gQ _ (hT.ext hN.bc)).mono ?_))
 rintro _ w7 ⟨g7,rfl,cE⟩
 replace hN:aI w none_ w7 [_,_,_,_,_]:=hN.fV cE
 clear cE
 refine⟨(hN.sb [4]),?_⟩
 refine RQ.b0 rfl (bo ahz rfl rfl rfl ((mm 82 _ #[vP g7] [.aJ g7 [gv,fv,ov,iv,db,dc] 32] _ (fB g far outs ins so si) Tryz.func82 rfl rfl (vF g far outs ins so si g7 gv fv ov iv db dc hf ho hi gV gQ sD xj Oj E2 ET EV) (by omega) _ (hT.step (hN.sb (M:=[.aJ g7 [gv,fv,ov,iv,db,dc] 32]) [0])) (hN.di (M:=[_]) [0] (by decide) rfl)).mono ?_))
 rintro v8 w8 cE
 replace hN:aI w none_ w8 [_,_,_,_,_]:=aI.dh (M:=[_]) (N:=[_,_,_,_]) (hN.sb [0,1,2,3,4]) cE
 clear cE
 refine⟨(hN.sb [4]),?_⟩
 have aO:=(hN.sl 3 rfl).hd
 obtain⟨lT,fO⟩:=aO
 subst fO
 have aO:=(hN.sl 2 rfl).hd
 obtain⟨CF,fO⟩:=aO
 subst fO
 have aO:=(hN.sl 1 rfl).hd
 obtain⟨JW,fO⟩:=aO
 subst fO
 have aO:=(hN.sl 0 rfl).hd
 obtain⟨M0,fO⟩:=aO
 subst fO
 refine RQ.b0 rfl (cw (enc:=vh) (l:=[lT,CF,JW,M0]) (xs:=[.tmp 5,.tmp 9,.tmp 13,.tmp 17]) adA jK Nf rfl rfl (fun _=>rfl) rfl (by decide) (by decide) hN ?_)
 clear hN
 intro g9 w9 (hN:aI w none_ w9 [_,_,_,_,_,_])
 refine⟨(hN.sb [5]),?_⟩
 refine RQ.b0 rfl (bo aeG rfl rfl rfl ((fy _ ([lT,CF,JW,M0]) [(kR (n) ar),((j6 n ar).flatten),((ig rk ws).flatten),((fB g far outs ins so si).flatten)] _ (hN.sl 0 rfl) (fW.cons (hN.sl 4 rfl) (oW.none _ _) (fW.cons (hN.sl 3 rfl) (oW.none _ _) (fW.cons (hN.sl 2 rfl) (oW.none _ _) (fW.cons (hN.sl 1 rfl) (oW.none _ _) (fW.nil _ _ _))))) fb).mono ?_))
 rintro FK o7 ⟨cL,bn⟩
 replace hN:aI w none_ o7 [_,_,_,_,_,_,_]:=hN.cc (l:=cP (dA n ar rk ws g far outs ins so si)) cL bn
 clear cL bn
 refine⟨(hN.sb [6]),?_⟩
 refine RQ.aA (v:=FK) rfl (fun w hS=>ai) (RQ.bq (aw (RW.ret (bb (RV.tmp rfl) ?_))))
 exact⟨hN.fL 0 rfl,hN.bc⟩
end Go.Proofs.YtngkdkbpgoddlaaGreat
