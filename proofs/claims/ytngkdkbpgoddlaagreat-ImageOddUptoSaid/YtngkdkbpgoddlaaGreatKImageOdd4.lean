/- The law ImageOdd: texts that its row leans on (4). -/
import Derived.Test.YtngkdkbpgoddlaaGreatKImageOdd3
set_option linter.unusedVariables false
set_option linter.unusedSimpArgs false
set_option linter.unusedSectionVars false
set_option maxHeartbeats 4000000
set_option maxRecDepth 100000
open Classical renaming propDecidable → adt
open Decidable renaming not_not → acU
open Go.IntKind renaming i64 → adC, u64 → aeb
open Go.Proofs.Tryz renaming underlying3 → acs, underlying25 → acu, prog → acx, underlying28 → acz, underlying98 → acB, underlying26 → acG, underlying96 → acH, underlying24 → acI, underlying29 → acJ, underlying32 → acK, underlying22 → acM, underlying100 → acP, underlying38 → acQ, underlying135 → acS, underlying118 → acW, underlying30 → ac0, underlying5 → adr, underlying89 → adx, underlying45 → adA, underlying75 → ad3, underlying9 → aed, underlying82 → aef, func95 → ae8, func40 → afq, func171 → afy, func160 → agp, func167 → agq, func14 → agC, func103 → ag6, func170 → ag7, func111 → ag8, func36 → ahu, func41 → ahC, func158 → aij, func104 → aik, underlying219 → ail, func164 → aim, func165 → ain, func161 → aio, func162 → aip, underlying228 → aiq, func169 → air, func112 → ais, func114 → ait, func113 → aiu, func37 → aiM, func51 → aiS, func157 → ajO, func102 → ajS, func101 → ajT, func100 → ajU, func213 → ajV, func218 → ajW, func212 → ajX, func199 → ajY, func201 → ajZ, func163 → aj0, func166 → aj1, func214 → aj2, func200 → aj3, func168 → aj4, func107 → aj5, func109 → aj6, func110 → aj7, func172 → aj8
open Go.Value renaming bool → acO, int → acZ, tuple → aiR
open Int renaming fdiv_eq_ediv_of_nonneg → aeZ
open List renaming length_append → acw, mem_of_getElem? → acy, getElem?_eq_some_iff → acA, length_singleton → acC, getElem?_eq_getElem → acE, length_cons → acF, length_nil → acN, not_mem_nil → acV, take_of_length_le → acX, mem_cons → ac1, length_map → ac4, length_take → ac5, length_replicate → ac7, getElem?_of_mem → ac9, mem_singleton → ade, mem_map → adf, length → adg, mem_append → adl, take_length → adn, length_drop → adq, range → adz, getElem?_map → adE, eq_nil_of_length_eq_zero → adF, map_append → adZ, getElem?_take → ad8, range_succ → aeF, mem_take_iff_getElem → ae7, length_pos_iff → agw
open Nat renaming le_of_ble_eq_true → acv, le_trans → acR, le_refl → ac3, lt_or_ge → adh, zero_add → aeQ
open Option renaming map_eq_some_iff → aho
open Option.some renaming inj → ac2
open Prod renaming ext → adL
namespace Go.Proofs.YtngkdkbpgoddlaaGreat
open Go.RowKit Go.Rl
open Go.dn Go.jJ
theorem kK (v:Value) (l:List UInt8) (w:World) (hv:Sl vb w v l) (hl:l.length≤1048576):aM acx 14 #[v] w fun r w'=>∃hs,aI w none_ w' [.own vh 38 r hs,.eE vb hs (dd l)]:=by
 refine aM.aZ agC ?_
 rw[cM]
 have hN:=aI.nil w none_
 refine RW.aN (RL.ag ai (RL.ak (RW.scope (RW.aN (RL.ag ai (RL.nil ?_))))))
 refine aw (RW.aN (RL.ag U ?_))
 refine RL.aK (bo ahu rfl rfl rfl ((qq _ l _ (hv.ext hN.bc) (by omega)).mono ?_))
 rintro _ w1 ⟨g1,rfl,nY,bn⟩
 have Lp:=Dc hN nY bn
 clear nY bn
 generalize Oz:(w).heap.size=W6 at Lp
 generalize OP:(w1).heap.size=Dt at Lp
 clear hN
 have hN:aI w none_ w1 [_]:=Lp
 clear Lp
 refine RL.ag ai ?_
 replace hN:=hN.jX vb
 replace hN:=hN.dD vh 38
 refine RL.ak (RW.seq (RW.label (aw (RW.seq (RW.block ?_)))))
 refine RW.loop (fun k R0 cz=>∃rest:List UInt8,∃ls:List (List UInt8),∃vo:Value,∃hs:List Hd,R0 0=v∧R0 3=vo∧R0 4=vP g1∧aI w none_ cz [.own vh 38 (vo) (hs),.eE vb (hs) (ls),dI 142 W6 Dt g1 (rest,0)]∧(rest.length≤k)∧(rest.length≤l.length)∧(hs.length=ls.length∧hs.length+rest.length≤l.length)∧(parts l=(iF (l.length:Int) k rest).map (ls++·))) (l.length) ?_ ?_
 exact⟨l,[],vN,[],rfl,rfl,rfl,hN,ac3 _,ac3 _,⟨rfl,by simp⟩,by unfold parts;simp⟩
 clear hN
 rintro k R0 cz ⟨rest,ls,vo,hs,cH,cd,cA,hN,Qj,Ai,Ds,hp⟩
 have cB:=ln cH cd cA
 obtain⟨gF,rfl⟩:=cB
 clear cH cd cA
 iterate 2 refine RW.seq ?_
 refine RW.region (RL.ag U ?_)
 refine RL.aK (bo aiM rfl rfl rfl ((tU _ _ _ (rest,0) _ (dI.says hN 2 rfl)).mono ?_))
 rintro _ _ ⟨rfl,rfl⟩
 refine RL.ag (cr) (RL.ak ?_)
 refine RW.aG _ (fun iI=>?_) (fun iI=>?_)
 refine RW.skip (aw (RW.block (RW.seq ?_)))
 have Ar:rest≠[]:=by intro e;rw[e]at iI;simp at iI
 have HU:k=(k-1)+1:=by have:=agw.2 Ar;omega
 have K7:(ep (rest,0) (l.length:Int)).2.length≤rest.length:=zl (rest,0) _
 refine RW.region ?_
 iterate 2 refine RL.ag U ?_
 have uJ:=(hv.ext hN.bc).bw
 refine RL.ag (aQ acQ (hv.ext hN.bc)) ?_
 refine RL.aK (bu Tryz.func39 rfl rfl rfl rfl ((GN (dI.says hN 2 rfl) (L4 hN 2 rfl) (by omega) (by omega) (by show rest.length≤_;omega) (eta (ep (rest,0) ((l.length:Int))))).mono ?_))
 rintro _ w5 ⟨rfl,nY,R7⟩
 replace hN:aI w none_ w5 [_,_,_]:=Kw hN 2 rfl nY R7
 clear nY R7
 refine RL.aK (zR aed acQ adr rfl (by(try simp only[acw,ac5,adq,ck,eO,dz,eH,acN,acF]);omega) hN ?_)
 clear hN
 intro v6 w6 (hN:aI w none_ w6 [_,_,_,_])
 refine RL.aK (bo Tryz.func38 rfl rfl rfl ((BX _ ((ep (rest,0) ((l.length:Int))).2) _ (hN.QQ 0 rfl) (by(try simp only[acw,ac5,adq,ck,eO,dz,eH,acN,acF]);omega)).mono ?_))
 intro r_ w7 Zr
 rcases Zr with⟨UT,v7,rfl,cL,bn⟩|⟨UT,rfl,bn⟩
 replace hN:aI w none_ w7 [_,_,_,_,_]:=hN.cc cL bn
 clear cL bn
 refine RL.ag U ?_
 iterate 2 refine RL.ag (bA) ?_
 iterate 2 refine RL.ag ai ?_
 refine RL.ak ?_
 iterate 2 refine RW.seq ?_
 refine RW.region (RL.ag U (RL.ag (cI (bj) (fun h=>h rfl)) (RL.ag U (RL.an U ?_))))
 refine RL.ed (bo afq rfl rfl rfl ((gA _ _ _ ((ep (rest,0) ((l.length:Int))).1) _ (dI.says hN 4 rfl)).mono ?_))
 rintro _ _ ⟨rfl,rfl⟩
 refine RL.an (bj) (RL.ag (aB) (RL.ak ?_))
 refine RW.aG _ (fun hX=>?_) (fun hX=>?_)
 refine RW.seq ?_
 have RI:parts l=none:=by
   rw[hp,HU,tG Ar (by first|exact .inl (by assumption)|exact .inr (by assumption))];rfl
 refine RW.region (RL.ag ai (RL.ak (RW.exit (bS (eF (by decide) (bS (ba (aw ?_))))))))
 iterate 2 refine RW.seq ?_
 refine RW.region (RL.ag U ?_)
 refine RL.aK (bo afq rfl rfl rfl ((gA _ _ _ ((ep (rest,0) ((l.length:Int))).1) _ (dI.says hN 4 rfl)).mono ?_))
 rintro _ _ ⟨rfl,rfl⟩
 refine RL.ag (bj) (RL.ak ?_)
 refine RW.aG _ (fun O1=>?_) (fun O1=>?_)
 refine RW.aN (RL.ag ai (RL.ak (RW.ret (aT (ta (bb (RV.tmp rfl) ?_))))))
 have hq:dd l=[]:=by unfold dd;rw[RI];rfl
 have Lq:aI w none_ w7 [.own vh 38 (vN) [],.eE vb [] (dd l)]:=by
   rw[hq];exact((hN.sb (M:=[]) []).jX vb).dD vh 38
 exact⟨_,Lq⟩
 refine RW.skip (aw (RW.aN (RL.ag U (RL.ag ai (RL.ak (RW.ret (ta ?_)))))))
 refine bb (RV.tmp rfl) ?_
 have hq:dd l=[]:=by unfold dd;rw[RI];rfl
 have Lq:aI w none_ w7 [.own vh 38 (vN) [],.eE vb [] (dd l)]:=by
   rw[hq];exact((hN.sb (M:=[]) []).jX vb).dD vh 38
 exact⟨_,Lq⟩
 refine RW.skip (aw (RW.region ?_))
 iterate 2 refine RL.ag U ?_
 have aO:=(hN.sl 0 rfl).hd
 obtain⟨CF,fO⟩:=aO
 subst fO
 refine RL.aK (cw (enc:=vh) (l:=[CF]) (xs:=[.tmp 29]) adA jK Nf rfl rfl (fun _=>rfl) rfl (by decide) (by decide) hN ?_)
 clear hN
 intro CH lW (hN:aI w none_ lW [_,_,_,_,_,_])
 refine RL.aK (b9 adA Re rfl kg hN 3 rfl rfl (hN.sl 0 rfl) rfl (by(try simp only[acw,ac5,adq,ck,eO,dz,eH,acN,acF]);omega) (by decide) ?_)
 clear hN
 intro mV ll (hN:aI w none_ ll [_,_,_,_,_,_])
 replace hN:aI w none_ ll [_,_,_,_,_]:=aI.kW (L:=[_,_,_,_,_]) (hN.sb [1,0,2,3,4,5]) 3 rfl
 refine RL.ag ai (RL.nil (aY (aw ?_)))
 have hg:=BA (acU.1 hX)
 have Xu:=wO (k:=k-1) Ar (acU.1 hX) (by assumption)
 have Xt:parts l=(iF (l.length:Int) (k-1) (ep (rest,0) (l.length:Int)).1.1).map ((ls++[((ep (rest,0) ((l.length:Int))).2).take (((ep (rest,0) ((l.length:Int))).2).length-4)])++·):=by
   rw[hp,HU,Xu,Option.map_map]
   congr 1;funext x;simp
 have hRX:(ep (rest,0) (l.length:Int)).1=((ep (rest,0) (l.length:Int)).1.1,0):=adL rfl (acU.1 hX)
 rw[hRX]at hN
 exact⟨k-1,by omega,(ep (rest,0) (l.length:Int)).1.1,ls++[((ep (rest,0) ((l.length:Int))).2).take (((ep (rest,0) ((l.length:Int))).2).length-4)],mV,hs++[CF],rfl,rfl,rfl,(hN.sb [2,3,4]),by omega,by omega,⟨by simp[Ds.1],by rw[acw,acC];omega⟩,Xt⟩
 replace hN:=hN.ext bn
 clear bn
 refine RL.ag U ?_
 iterate 2 refine RL.ag (bA) ?_
 iterate 2 refine RL.ag ai ?_
 refine RL.ak ?_
 iterate 2 refine RW.seq ?_
 refine RW.region (RL.ag U (RL.ag (dm (bj) (by decide)) (RL.ag U ?_)))
 iterate 3 refine RL.bH ?_
 refine RL.ag (al) (RL.ak (RW.bF (RW.seq ?_)))
 have RI:parts l=none:=by
   rw[hp,HU,tG Ar (by first|exact .inl (by assumption)|exact .inr (by assumption))];rfl
 refine RW.region (RL.ag ai (RL.ak (RW.exit (bS (eF (by decide) (bS (ba (aw ?_))))))))
 iterate 2 refine RW.seq ?_
 refine RW.region (RL.ag U ?_)
 refine RL.aK (bo afq rfl rfl rfl ((gA _ _ _ ((ep (rest,0) ((l.length:Int))).1) _ (dI.says hN 3 rfl)).mono ?_))
 rintro _ _ ⟨rfl,rfl⟩
 refine RL.ag (bj) (RL.ak ?_)
 refine RW.aG _ (fun O1=>?_) (fun O1=>?_)
 refine RW.aN (RL.ag ai (RL.ak (RW.ret (aT (ta (bb (RV.tmp rfl) ?_))))))
 have hq:dd l=[]:=by unfold dd;rw[RI];rfl
 have Lq:aI w none_ w7 [.own vh 38 (vN) [],.eE vb [] (dd l)]:=by
   rw[hq];exact((hN.sb (M:=[]) []).jX vb).dD vh 38
 exact⟨_,Lq⟩
 refine RW.skip (aw (RW.aN (RL.ag U (RL.ag ai (RL.ak (RW.ret (ta ?_)))))))
 refine bb (RV.tmp rfl) ?_
 have hq:dd l=[]:=by unfold dd;rw[RI];rfl
 have Lq:aI w none_ w7 [.own vh 38 (vN) [],.eE vb [] (dd l)]:=by
   rw[hq];exact((hN.sb (M:=[]) []).jX vb).dD vh 38
 exact⟨_,Lq⟩
 dsimp only at iI
 refine RW.exit ?_
 iterate 2 refine bS ?_
 refine ba (aw ?_)
 iterate 2 refine RW.seq ?_
 refine RW.region (RL.ag U ?_)
 refine RL.aK (bo afq rfl rfl rfl ((gA _ _ _ (rest,0) _ (dI.says hN 2 rfl)).mono ?_))
 rintro _ _ ⟨rfl,rfl⟩
 refine RL.ag (cI (bj) (fun h=>h rfl)) (RL.ak (RW.cg (RW.skip (aw (RW.aN (RL.ag U (RL.ag ai ?_)))))))
 refine RL.ak (RW.ret (ta (bb (RV.tmp rfl) ?_)))
 have UO:rest=[]:=adF (by omega)
 have vR:parts l=some ls:=by rw[hp,UO,tF];simp
 have hq:dd l=ls:=by unfold dd;rw[vR];rfl
 have Lq:aI w none_ cz [.own vh 38 vo hs,.eE vb hs (dd l)]:=by
   rw[hq];exact hN.sb [0,1]
 exact⟨_,Lq⟩
end Go.Proofs.YtngkdkbpgoddlaaGreat
namespace Go.Proofs.YtngkdkbpgoddlaaGreat
open Go.RowKit Go.Rl
open Go.Gr Go.dn Go.jJ
theorem iQ (lo hi g gr:Nat) (m:Int) (bd:Bool) (s:St) (w:World) (hN:aI w (b7 [.aJ gr [vP g,.int .i64 (m),.bool (bd)] 89,dI 142 lo hi g s]) w [.aJ gr [vP g,.int .i64 (m),.bool (bd)] 89,dI 142 lo hi g s]) (kD:0≤m) (jv:m≤1048576) (kN:s.1.length≤1048576):aM acx 95 #[vP gr] w fun r w'=>aI w (b7 [.aJ gr [vP g,.int .i64 (m),.bool (bd)] 89,dI 142 lo hi g s]) w' [.own vi 3 r (de s m).2,.aJ gr [vP g,.int .i64 (m),.bool (bd)] 89,dI 142 lo hi g ((de s m).1)]:=by
 refine aM.aZ ae8 ?_
 rw[cM]
 refine RW.aN (RL.ag (v:=vN) ai (RL.ak (RW.seq ?_)))
 replace hN:=hN.ext (Ext.drew w)
 refine RW.bD (fun u=>aI w (b7 [.aJ gr [vP g,.int .i64 (m),.bool (bd)] 89,dI 142 lo hi g s]) u [.aJ gr [vP g,.int .i64 (m),.bool (bd)] 89]) 10 [(0,0),(1,0),(2,0),(3,0),(4,0),(5,0),(6,0),(7,0),(8,1),(9,0)] (by intro _ _ _ h;exact h) (hN.sb [0]) (RQ.aA (v:=vP gr) rfl (fun w hS=>U) (RQ.aA rfl (fun w hS=>(bM)) (RQ.aA rfl (fun w hS=>(ah adx rfl D8)) (RQ.aA rfl (fun w hS=>(aj ad3 (hS.aJ 0 rfl))) (RQ.aA (v:=vP gr) rfl (fun w hS=>U) (RQ.aA rfl (fun w hS=>(bM)) (RQ.aA rfl (fun w hS=>(ah adx rfl bK)) (RQ.aA rfl (fun w hS=>(aj acs (hS.aJ 0 rfl))) ?_))))))))
 refine RQ.b0 rfl (bu ajO rfl rfl rfl rfl ((GP (dI.says hN 1 rfl) (L4 hN 1 rfl) (by omega) (by omega) (by omega) (eta (de s (m)))).mono ?_))
 rintro v1 w1 ⟨cL,nY,R7⟩
 replace hN:aI w _ w1 [_,_,_]:=NN hN 1 rfl cL nY R7
 clear cL nY R7
 refine⟨(hN.sb [1]),?_⟩
 refine RQ.aA (v:=v1) rfl (fun w hS=>ai) (RQ.bq (aw (RW.ret (bb (RV.tmp rfl) ?_))))
 exact hN.sb [0,1,2]
theorem tO {m:Int} {s:St} {bd:Bool} (h:rH m (de s m).2=none):fD m (s,bd)=(((de s m).1,true),0):=by
  unfold fD en;simp only[h]
theorem KQ {m:Int} {s:St} {bd:Bool} {n:Nat} (h:rH m (de s m).2=some n):fD m (s,bd)=(((de s m).1,bd),n):=by
  unfold fD en;simp only[h]
theorem xZ {m:Int} {l:List Int} (h:¬l.length=1):rH m l=none:=by
  unfold rH
  split
  · exact absurd rfl h
  · rfl
theorem x5 {m x:Int} {l:List Int} (hl:l.length=1) (hx:l[0]?=some x) (h:x<0∨m<x):rH m l=none:=by
  match l,hl,hx with
  |[y],_,hx=>cases hx;unfold rH;simp only;rw[if_pos h]
theorem NV {m x:Int} {l:List Int} (hl:l.length=1) (hx:l[0]?=some x) (h:¬(x<0∨m<x)):rH m l=some x.toNat:=by
  match l,hl,hx with
  |[y],_,hx=>cases hx;unfold rH;simp only;rw[if_neg h]
theorem zE (lo hi g gr:Nat) (m:Int) (bd:Bool) (s:St) (w:World) (hN:aI w (b7 [.aJ gr [vP g,.int .i64 (m),.bool (bd)] 89,dI 142 lo hi g s]) w [.aJ gr [vP g,.int .i64 (m),.bool (bd)] 89,dI 142 lo hi g s]) (kD:0≤m) (jv:m≤1048576) (kN:s.1.length≤1048576):aM acx 158 #[vP gr] w fun r w'=>r=.int .i64 (((fD m (s,bd)).2:Nat):Int)∧aI w (b7 [.aJ gr [vP g,.int .i64 (m),.bool (bd)] 89,dI 142 lo hi g s]) w' [.aJ gr [vP g,.int .i64 (m),.bool ((fD m (s,bd)).1.2)] 89,dI 142 lo hi g ((fD m (s,bd)).1.1)]:=by
 refine aM.aZ aij ?_
 rw[cM]
 refine RW.aN (RL.ag (v:=.int .i64 (0)) ai (RL.b6 (RL.ag (v:=vP gr) U ?_)))
 refine RL.aK (bo ae8 rfl rfl rfl ((iQ lo hi g gr m (bd) s _ (hN.di (M:=[_,_]) [0,1] (by decide) rfl) (by omega) (by omega) (by omega)).mono ?_))
 rintro v1 w1 cE
 replace hN:aI w _ w1 [_,_,_]:=aI.dh (M:=[_,_]) (N:=[]) (hN.sb [0,1]) cE
 clear cE
 refine RL.ag (v:=v1) ai (RL.ak ?_)
 iterate 2 refine RW.seq ?_
 by_cases K8:((de s m).2.length:Int)=1
 have TC:(de s m).2.length=1:=by omega
 have aO:∃a_,(de s m).2[0]?=some a_:=⟨_,acE (by omega)⟩
 obtain⟨ap,bX⟩:=aO
 replace hN:=hN.ext (Ext.drew w1)
 refine RW.bD (fun u=>aI w (b7 [.aJ gr [vP g,.int .i64 (m),.bool (bd)] 89,dI 142 lo hi g s]) u [.own vi 3 (v1) ((de s m).2),.aJ gr [vP g,.int .i64 (m),.bool (bd)] 89,dI 142 lo hi g ((de s m).1)]) 19 [(0,0),(1,0),(2,0),(3,0),(4,0),(5,0),(6,0),(7,0),(8,0),(9,0),(10,0),(11,0),(12,0),(13,0),(14,0),(15,0),(16,0),(17,0),(18,0)] (by intro _ _ _ h;exact h) hN (RQ.aA (v:=v1) rfl (fun w hS=>U) ?_)
 have jm:=(hN.sl 0 rfl).bw
 refine RQ.aA rfl (fun w hS=>(aQ acu (hS.sl 0 rfl))) (RQ.aA rfl (fun w hS=>(cI (bj) (fun h=>h K8))) (RQ.aA (v:=.bool false) rfl (fun w hS=>U) (RQ.aS (v:=v1) rfl (fun w hS=>U) (RQ.aS rfl (fun w hS=>(aC acu bK (hS.sl 0 rfl))) (RQ.aS rfl (fun w hS=>(aF (m:=0) (a:=ap) acs (hS.sl 0 rfl) bX)) (RQ.aS rfl (fun w hS=>(aL)) (RQ.aA (v:=.bool (decide (ap<0))) rfl (fun w hS=>(aB)) (RQ.aA (v:=.bool (decide (ap<0))) rfl (fun w hS=>U) ?_))))))))
 by_cases MO:ap<0
 rw[decide_eq_true MO]
 iterate 8 refine RQ.bU rfl ?_
 refine RQ.aA (v:=.bool true) rfl (fun w hS=>(al)) (RQ.bq (aw (RW.bF (RW.aN (RL.ag (v:=vP gr) U (RL.ag (bM) (RL.ag (ah adx rfl oE) ?_)))))))
 refine RL.aK (ca oE rfl rfl rfl rfl hN 1 rfl (acv rfl) ?_)
 clear hN
 intro w4 (hN:aI w _ w4 [_,_,_])
 refine RL.b6 (RL.ag (v:=.int .i64 (0)) ai (RL.ak (RW.ret (aT (bb (RV.tmp rfl) ?_)))))
 have fO:(fD m (s,bd))=(((de s m).1,true),0):=tO (by first|exact xZ (by omega)|exact x5 (by omega) bX (by omega))
 rw[fO]
 exact⟨rfl,hN.sb [1,2]⟩
 rw[decide_eq_false MO]
 refine RQ.aS (v:=v1) rfl (fun w hS=>U) (RQ.aS rfl (fun w hS=>(aC acu bK (hS.sl 0 rfl))) (RQ.aS rfl (fun w hS=>(aF (m:=0) (a:=ap) acs (hS.sl 0 rfl) bX)) (RQ.aS (v:=vP gr) rfl (fun w hS=>U) (RQ.aS rfl (fun w hS=>(bM)) (RQ.aS rfl (fun w hS=>(ah adx rfl bK)) (RQ.aS rfl (fun w hS=>(aj acs (hS.aJ 1 rfl))) (RQ.aS rfl (fun w hS=>(cr)) (RQ.aA (v:=.bool (decide (m<ap))) rfl (fun w hS=>(aB)) (RQ.bq ?_)))))))))
 refine aw ?_
 refine RW.aG _ (fun VX=>?_) (fun VX=>?_)
 refine RW.aN (RL.ag (v:=vP gr) U (RL.ag (bM) (RL.ag (ah adx rfl oE) ?_)))
 refine RL.aK (ca oE rfl rfl rfl rfl hN 1 rfl (acv rfl) ?_)
 clear hN
 intro w6 (hN:aI w _ w6 [_,_,_])
 refine RL.b6 (RL.ag (v:=.int .i64 (0)) ai (RL.ak (RW.ret (aT (bb (RV.tmp rfl) ?_)))))
 have fO:(fD m (s,bd))=(((de s m).1,true),0):=tO (by first|exact xZ (by omega)|exact x5 (by omega) bX (by omega))
 rw[fO]
 exact⟨rfl,hN.sb [1,2]⟩
 refine RW.skip (aw (RW.aN (RL.ag (v:=v1) U (RL.ag (aC acu bK (hN.sl 0 rfl)) (RL.ag (aF (m:=0) (a:=ap) acs (hN.sl 0 rfl) bX) (RL.ag (v:=.int .i64 (ap)) ai (RL.ak ?_)))))))
 refine RW.ret (bb (RV.tmp rfl) ?_)
 have fO:(fD m (s,bd))=(((de s m).1,bd),ap.toNat):=KQ (NV (by omega) bX (by omega))
 rw[fO]
 exact⟨congrArg (acZ .i64) (by omega),hN.sb [1,2]⟩
 replace hN:=hN.ext (Ext.drew w1)
 refine RW.bD (fun u=>aI w (b7 [.aJ gr [vP g,.int .i64 (m),.bool (bd)] 89,dI 142 lo hi g s]) u [.own vi 3 (v1) ((de s m).2),.aJ gr [vP g,.int .i64 (m),.bool (bd)] 89,dI 142 lo hi g ((de s m).1)]) 19 [(0,0),(1,0),(2,0),(3,0),(4,0),(5,0),(6,0),(7,0),(8,0),(9,0),(10,0),(11,0),(12,0),(13,0),(14,0),(15,0),(16,0),(17,0),(18,0)] (by intro _ _ _ h;exact h) hN (RQ.aA (v:=v1) rfl (fun w hS=>U) ?_)
 have Pj:=(hN.sl 0 rfl).bw
 refine RQ.aA rfl (fun w hS=>(aQ acu (hS.sl 0 rfl))) (RQ.aA rfl (fun w hS=>(dm (bj) K8)) (RQ.aA (v:=.bool true) rfl (fun w hS=>U) ?_))
 iterate 4 refine RQ.bU rfl ?_
 refine RQ.aA (v:=.bool true) rfl (fun w hS=>(al)) (RQ.aA (v:=.bool true) rfl (fun w hS=>U) ?_)
 iterate 8 refine RQ.bU rfl ?_
 refine RQ.aA (v:=.bool true) rfl (fun w hS=>(al)) (RQ.bq (aw (RW.bF (RW.aN (RL.ag (v:=vP gr) U (RL.ag (bM) (RL.ag (ah adx rfl oE) ?_)))))))
 refine RL.aK (ca oE rfl rfl rfl rfl hN 1 rfl (acv rfl) ?_)
 clear hN
 intro w9 (hN:aI w _ w9 [_,_,_])
 refine RL.b6 (RL.ag (v:=.int .i64 (0)) ai (RL.ak (RW.ret (aT (bb (RV.tmp rfl) ?_)))))
 have fO:(fD m (s,bd))=(((de s m).1,true),0):=tO (by first|exact xZ (by omega)|exact x5 (by omega) bX (by omega))
 rw[fO]
 exact⟨rfl,hN.sb [1,2]⟩
end Go.Proofs.YtngkdkbpgoddlaaGreat
namespace Go.Proofs.YtngkdkbpgoddlaaGreat
open Go.RowKit Go.Rl
open Go.Gr Go.dn Go.jJ
theorem zZ (lv:Value) (l:List Int) (w:World) (hl:Sl vi w lv l) (hlen:l.length=3):aM acx 97 #[lv] w fun r w'=>r=.agg #[.int .i64 (pr l).1,.int .i64 (pr l).2.1,.int .i64 (pr l).2.2]∧Ext w w':=by
 refine aM.aZ Tryz.func97 ?_
 rw[cM]
 have hN:=aI.nil w none_
 obtain⟨x0,ub⟩:∃a_,l[0]?=some a_:=⟨_,acE (by omega)⟩
 obtain⟨x1,sC⟩:∃a_,l[1]?=some a_:=⟨_,acE (by omega)⟩
 obtain⟨x2,HC⟩:∃a_,l[2]?=some a_:=⟨_,acE (by omega)⟩
 refine RW.aN ?_
 refine RL.aK (bz (cs:=[.int .i64 (0),.int .i64 (0),.int .i64 (0)]) fS rfl hN ?_)
 clear hN
 intro g1 w1 (hN:aI w none_ w1 [_])
 refine RL.ak (RW.seq ?_)
 replace hN:=hN.ext (Ext.drew w1)
 refine RW.bD (fun u=>aI w none_ u []) 11 [(0,0),(1,0),(2,0),(3,0),(4,0),(5,0),(6,0),(7,0),(8,0),(9,0),(10,1)] (by intro _ _ _ h;exact h) (hN.sb []) (RQ.aA (v:=lv) rfl (fun w hS=>U) (RQ.aA rfl (fun w hS=>(aC acu bK (hl.o.now hS))) (RQ.aA rfl (fun w hS=>(aF (m:=0) (a:=x0) acs (hl.o.now hS) ub)) (RQ.aA (v:=lv) rfl (fun w hS=>U) (RQ.aA rfl (fun w hS=>(aC acu bK (hl.o.now hS))) (RQ.aA rfl (fun w hS=>(aF (m:=1) (a:=x1) acs (hl.o.now hS) sC)) (RQ.aA (v:=lv) rfl (fun w hS=>U) (RQ.aA rfl (fun w hS=>(aC acu bK (hl.o.now hS))) (RQ.aA rfl (fun w hS=>(aF (m:=2) (a:=x2) acs (hl.o.now hS) HC)) ?_)))))))))
 refine RQ.aA rfl (fun w hS=>(bT (cs:=[.int .i64 (x0),.int .i64 (x1),.int .i64 (x2)]) acP fS (places:=#[(0,1),(1,1),(2,1)]) (by intro w;kernel_rfl) (pl:=[(0,.tmp 5),(1,.tmp 8),(2,.tmp 11)]) rfl (ps:=[(0,.int .i64 (x0)),(1,.int .i64 (x1)),(2,.int .i64 (x2))]) rfl (zc:=[.int .i64 (0),.int .i64 (0),.int .i64 (0)]) rfl (aP (vs:=[.int .i64 (x0)]) rfl rfl (acv rfl) (aP (vs:=[.int .i64 (x1)]) rfl rfl (acv rfl) (aP (vs:=[.int .i64 (x2)]) rfl rfl (acv rfl) rfl))))) ?_
 refine RQ.b0 rfl (aR (vs:=[.int .i64 (x0),.int .i64 (x1),.int .i64 (x2)]) dr rfl rfl rfl (aW (aW (aW cZ))) hN 0 rfl rfl ?_)
 clear hN
 intro w5 (hN:aI w none_ w5 [_])
 refine⟨(hN.sb []),?_⟩
 refine RQ.bq (aw (RW.ret (bb (RV.cell rfl rfl (hN.aJ 0 rfl) acP rfl dr) ?_)))
 exact⟨by unfold pr;rw[ub,sC,HC];rfl,hN.bc⟩
theorem vL (lv:Value) (l:List Int) (w:World) (hl:Sl vi w lv l) (hlen:l.length=5):aM acx 99 #[lv] w fun r w'=>r=.agg #[.int .i64 (mc l).1,.int .i64 (mc l).2.1,.int .i64 (mc l).2.2.1,.int .i64 (mc l).2.2.2.1,.int .i64 (mc l).2.2.2.2]∧Ext w w':=by
 refine aM.aZ Tryz.func99 ?_
 rw[cM]
 have hN:=aI.nil w none_
 obtain⟨x0,ub⟩:∃a_,l[0]?=some a_:=⟨_,acE (by omega)⟩
 obtain⟨x1,sC⟩:∃a_,l[1]?=some a_:=⟨_,acE (by omega)⟩
 obtain⟨x2,HC⟩:∃a_,l[2]?=some a_:=⟨_,acE (by omega)⟩
 obtain⟨x3,TF⟩:∃a_,l[3]?=some a_:=⟨_,acE (by omega)⟩
 obtain⟨x4,TE⟩:∃a_,l[4]?=some a_:=⟨_,acE (by omega)⟩
 refine RW.aN ?_
 refine RL.aK (bz (cs:=[.int .i64 (0),.int .i64 (0),.int .i64 (0),.int .i64 (0),.int .i64 (0)]) gu rfl hN ?_)
 clear hN
 intro g1 w1 (hN:aI w none_ w1 [_])
 refine RL.ak (RW.seq ?_)
 replace hN:=hN.ext (Ext.drew w1)
 refine RW.bD (fun u=>aI w none_ u []) 18 [(0,0),(1,0),(2,0),(3,0),(4,0),(5,0),(6,0),(7,0),(8,0),(9,0),(10,0),(11,0),(12,0),(13,0),(14,0),(15,0),(16,0),(17,1)] (by intro _ _ _ h;exact h) (hN.sb []) (RQ.aA (v:=lv) rfl (fun w hS=>U) (RQ.aA rfl (fun w hS=>(aC acu bK (hl.o.now hS))) (RQ.aA rfl (fun w hS=>(aF (m:=0) (a:=x0) acs (hl.o.now hS) ub)) (RQ.aA (v:=lv) rfl (fun w hS=>U) (RQ.aA rfl (fun w hS=>(aC acu bK (hl.o.now hS))) (RQ.aA rfl (fun w hS=>(aF (m:=1) (a:=x1) acs (hl.o.now hS) sC)) (RQ.aA (v:=lv) rfl (fun w hS=>U) (RQ.aA rfl (fun w hS=>(aC acu bK (hl.o.now hS))) (RQ.aA rfl (fun w hS=>(aF (m:=2) (a:=x2) acs (hl.o.now hS) HC)) ?_)))))))))
 refine RQ.aA (v:=lv) rfl (fun w hS=>U) (RQ.aA rfl (fun w hS=>(aC acu bK (hl.o.now hS))) (RQ.aA rfl (fun w hS=>(aF (m:=3) (a:=x3) acs (hl.o.now hS) TF)) (RQ.aA (v:=lv) rfl (fun w hS=>U) (RQ.aA rfl (fun w hS=>(aC acu bK (hl.o.now hS))) (RQ.aA rfl (fun w hS=>(aF (m:=4) (a:=x4) acs (hl.o.now hS) TE)) (RQ.aA rfl (fun w hS=>(bT (cs:=[.int .i64 (x2),.int .i64 (x3),.int .i64 (x4)]) acH eV (places:=#[(0,1),(1,1),(2,1)]) (by intro w;kernel_rfl) (pl:=[(0,.tmp 11),(1,.tmp 14),(2,.tmp 17)]) rfl (ps:=[(0,.int .i64 (x2)),(1,.int .i64 (x3)),(2,.int .i64 (x4))]) rfl (zc:=[.int .i64 (0),.int .i64 (0),.int .i64 (0)]) rfl (aP (vs:=[.int .i64 (x2)]) rfl rfl (acv rfl) (aP (vs:=[.int .i64 (x3)]) rfl rfl (acv rfl) (aP (vs:=[.int .i64 (x4)]) rfl rfl (acv rfl) rfl))))) (RQ.aA rfl (fun w hS=>(bT (cs:=[.int .i64 (x0),.int .i64 (x1),.int .i64 (x2),.int .i64 (x3),.int .i64 (x4)]) acB gu (places:=#[(0,1),(1,1),(2,3)]) (by intro w;kernel_rfl) (pl:=[(0,.tmp 5),(1,.tmp 8),(2,.tmp 18)]) rfl (ps:=[(0,.int .i64 (x0)),(1,.int .i64 (x1)),(2,.agg #[.int .i64 (x2),.int .i64 (x3),.int .i64 (x4)])]) rfl (zc:=[.int .i64 (0),.int .i64 (0),.int .i64 (0),.int .i64 (0),.int .i64 (0)]) rfl (aP (vs:=[.int .i64 (x0)]) rfl rfl (acv rfl) (aP (vs:=[.int .i64 (x1)]) rfl rfl (acv rfl) (aP (vs:=[.int .i64 (x2),.int .i64 (x3),.int .i64 (x4)]) rfl rfl (acv rfl) rfl))))) ?_)))))))
 refine RQ.b0 rfl (aR (vs:=[.int .i64 (x0),.int .i64 (x1),.int .i64 (x2),.int .i64 (x3),.int .i64 (x4)]) er rfl rfl rfl (aW (aW (aW (aW (aW cZ))))) hN 0 rfl rfl ?_)
 clear hN
 intro w7 (hN:aI w none_ w7 [_])
 refine⟨(hN.sb []),?_⟩
 refine RQ.bq (aw (RW.ret (bb (RV.cell rfl rfl (hN.aJ 0 rfl) acB rfl er) ?_)))
 exact⟨by unfold mc;rw[ub,sC,HC,TF,TE];rfl,hN.bc⟩
theorem vM (lv:Value) (l:List Int) (w:World) (hl:Sl vi w lv l) (hlen:l.length=2):aM acx 102 #[lv] w fun r w'=>r=.agg #[.int .i64 (j0 l).1,.int .i64 (j0 l).2]∧Ext w w':=by
 refine aM.aZ ajS ?_
 rw[cM]
 have hN:=aI.nil w none_
 obtain⟨x0,ub⟩:∃a_,l[0]?=some a_:=⟨_,acE (by omega)⟩
 obtain⟨x1,sC⟩:∃a_,l[1]?=some a_:=⟨_,acE (by omega)⟩
 refine RW.aN ?_
 refine RL.aK (bz (cs:=[.int .i64 (0),.int .i64 (0)]) o4 rfl hN ?_)
 clear hN
 intro g1 w1 (hN:aI w none_ w1 [_])
 refine RL.ak (RW.seq ?_)
 replace hN:=hN.ext (Ext.drew w1)
 refine RW.bD (fun u=>aI w none_ u []) 8 [(0,0),(1,0),(2,0),(3,0),(4,0),(5,0),(6,0),(7,1)] (by intro _ _ _ h;exact h) (hN.sb []) (RQ.aA (v:=lv) rfl (fun w hS=>U) (RQ.aA rfl (fun w hS=>(aC acu bK (hl.o.now hS))) (RQ.aA rfl (fun w hS=>(aF (m:=0) (a:=x0) acs (hl.o.now hS) ub)) (RQ.aA (v:=lv) rfl (fun w hS=>U) (RQ.aA rfl (fun w hS=>(aC acu bK (hl.o.now hS))) (RQ.aA rfl (fun w hS=>(aF (m:=1) (a:=x1) acs (hl.o.now hS) sC)) (RQ.aA rfl (fun w hS=>(bT (cs:=[.int .i64 (x0),.int .i64 (x1)]) acS o4 (places:=#[(0,1),(1,1)]) (by intro w;kernel_rfl) (pl:=[(0,.tmp 5),(1,.tmp 8)]) rfl (ps:=[(0,.int .i64 (x0)),(1,.int .i64 (x1))]) rfl (zc:=[.int .i64 (0),.int .i64 (0)]) rfl (aP (vs:=[.int .i64 (x0)]) rfl rfl (acv rfl) (aP (vs:=[.int .i64 (x1)]) rfl rfl (acv rfl) rfl)))) ?_)))))))
 refine RQ.b0 rfl (aR (vs:=[.int .i64 (x0),.int .i64 (x1)]) ef rfl rfl rfl (aW (aW cZ)) hN 0 rfl rfl ?_)
 clear hN
 intro w4 (hN:aI w none_ w4 [_])
 refine⟨(hN.sb []),?_⟩
 refine RQ.bq (aw (RW.ret (bb (RV.cell rfl rfl (hN.aJ 0 rfl) acS rfl ef) ?_)))
 exact⟨by unfold j0;rw[ub,sC];rfl,hN.bc⟩
theorem nA (v:Value) (l:List UInt8) (w:World) (hv:Sl vb w v l) (hl:l.length≤1048576):aM acx 41 #[v] w fun r w'=>∃gr lo hi g,r=vP gr∧aI w none_ w' [.aJ gr [vP g,.int .i64 (l.length:Int),.bool false] 89,dI 142 lo hi g (l,0)]:=by
 refine aM.aZ ahC ?_
 rw[cM]
 have hN:=aI.nil w none_
 refine RW.aN (RL.ag (v:=.pointer none) ai (RL.b6 (RL.ag (v:=v) U ?_)))
 refine RL.aK (bo ahu rfl rfl rfl ((qq _ l _ (hv.o.now hN) (by omega)).mono ?_))
 rintro _ w1 ⟨g1,rfl,nY,bn⟩
 have Lp:=Dc hN nY bn
 clear nY bn
 generalize Oz:(w).heap.size=W6 at Lp
 generalize OP:(w1).heap.size=Dt at Lp
 clear hN
 have hN:aI w none_ w1 [_]:=Lp
 clear Lp
 refine RL.ag (v:=v) U ?_
 have jm:=(hv.o.now hN).bw
 refine RL.ag (aQ acQ (hv.o.now hN)) (RL.ag (bT (cs:=[vP g1,.int .i64 ((l.length:Int)),.bool false]) adx Nh (places:=#[(0,1),(1,1),(2,1)]) (by intro w;kernel_rfl) (pl:=[(0,.tmp 4),(1,.tmp 6)]) rfl (ps:=[(0,vP g1),(1,.int .i64 ((l.length:Int)))]) rfl (zc:=[.pointer none,.int .i64 (0),.bool false]) rfl (aP (vs:=[vP g1]) rfl rfl (acv rfl) (aP (vs:=[.int .i64 ((l.length:Int))]) rfl rfl (acv rfl) rfl))) ?_)
 refine RL.aK (bL (cs:=[vP g1,.int .i64 ((l.length:Int)),.bool false]) rfl rfl hN ?_)
 clear hN
 intro g3 w3 (hN:aI w none_ w3 [_,_])
 refine RL.ag (v:=vP g3) ai (RL.ak (RW.ret (bb (RV.tmp rfl) ?_)))
 exact⟨_,_,_,_,rfl,hN.sb [0,1]⟩
end Go.Proofs.YtngkdkbpgoddlaaGreat
namespace Go.Proofs.YtngkdkbpgoddlaaGreat
open Go.RowKit Go.Rl
open Go.Gr Go.dn Go.jJ
theorem we (lo hi g gr:Nat) (m:Int) (bd:Bool) (s:St) (w:World) (hN:aI w (b7 [.aJ gr [vP g,.int .i64 (m),.bool (bd)] 89,dI 142 lo hi g s]) w [.aJ gr [vP g,.int .i64 (m),.bool (bd)] 89,dI 142 lo hi g s]) (kD:0≤m) (jv:m≤1048576) (kN:s.1.length≤1048576):aM acx 96 #[vP gr,.int .i64 3,.func (.func 97) #[] #[]] w fun r w'=>aI w (b7 [.aJ gr [vP g,.int .i64 (m),.bool (bd)] 89,dI 142 lo hi g s]) w' [.cp bJ 3 100 r (cS pr m 2 (s,bd)).2,.aJ gr [vP g,.int .i64 (m),.bool ((cS pr m 2 (s,bd)).1.2)] 89,dI 142 lo hi g ((cS pr m 2 (s,bd)).1.1)]:=by
 refine aM.aZ Tryz.func96 ?_
 rw[iX]
 refine RW.aN (RL.ag (v:=vN) ai (RL.b6 (RL.ag (v:=vN) ai ?_)))
 replace hN:=hN.jX vi
 replace hN:=hN.dD vh 25
 replace hN:aI w _ w [.own vh 25 (vN) ([]),.eE vi ([]) ([]),.aJ gr [vP g,.int .i64 (m),.bool (bd)] 89,dI 142 lo hi g s]:=hN
 refine RL.ak ?_
 iterate 2 refine RW.seq ?_
 refine RW.region (RL.ag (v:=.int .i64 (3)) U (RL.ag (v:=.int .i64 (0)) U (RL.ak (RW.block ?_))))
 refine RW.loop (fun k R0 cz=>∃st:St,∃ls:List (List Int),∃vo:Value,∃hs:List Hd,∃i:Nat,R0 0=vP gr∧R0 2=.func (.func 97) #[] #[]∧R0 7=vo∧R0 13=.int .i64 (3)∧R0 14=vJ i∧aI w (b7 [.aJ gr [vP g,.int .i64 (m),.bool (bd)] 89,dI 142 lo hi g s]) cz [.own vh 25 (vo) (hs),.eE vi (hs) (ls),.aJ gr [vP g,.int .i64 (m),.bool (bd)] 89,dI 142 lo hi g st]∧(i+k=3)∧(j4 m i (s,bd)=((st,bd),ls))∧(st.1.length≤1048576)∧(hs.length=ls.length)∧(ls.length=i)∧(∀r∈ls,r.length≤1048576)) (3) ?_ ?_
 exact⟨s,[],vN,[],0,rfl,rfl,rfl,rfl,rfl,hN,by omega,rfl,kN,rfl,rfl,fun r hr=>by cases hr⟩
 clear hN
 rintro k R0 cz ⟨st,ls,vo,hs,i,cH,bV,cF,ft,gR,hN,gk,ic,uc,Ds,Se,FV⟩
 have cB:=iw cH bV cF ft gR
 obtain⟨gF,rfl⟩:=cB
 clear cH bV cF ft gR
 refine RW.aN (RL.ag (aL) (RL.ak (RW.seq ?_)))
 refine RW.aG _ (fun cD=>?_) (fun cD=>?_)
 refine RW.skip (aw (RW.seq (RW.block (RW.region (RL.ag (v:=vo) U (RL.ag (v:=vP gr) U ?_))))))
 refine RL.aK (bo ae8 rfl rfl rfl ((iQ lo hi g gr m (bd) st _ (hN.di (M:=[_,_]) [2,3] (by decide) rfl) (by omega) (by omega) (by(try have:=eT s m);omega)).mono ?_))
 rintro v1 w1 cE
 replace hN:aI w _ w1 [_,_,_,_,_]:=aI.dh (M:=[_,_]) (N:=[_,_]) (hN.sb [2,3,0,1]) cE
 clear cE
 have aO:=(hN.sl 0 rfl).hd
 obtain⟨h3,fO⟩:=aO
 subst fO
 refine RL.aK (cw (enc:=vh) (l:=[h3]) (xs:=[.tmp 18]) acJ cj zf rfl rfl (fun _=>rfl) rfl (by decide) (by decide) hN ?_)
 clear hN
 intro g2 w2 (hN:aI w _ w2 [_,_,_,_,_,_])
 replace hN:aI w _ w2 [_,_,_,_,_]:=aI.kW (L:=[_,_,_,_,_]) (hN.sb [1,0,2,3,4,5]) 4 rfl
 refine RL.aK (b9 acJ tW rfl kg hN 3 rfl rfl (hN.sl 0 rfl) rfl (by(try simp only[acw,ac5,adq,acN,acF,acC,ac7,acw,ac4]);omega) (by decide) ?_)
 clear hN
 intro v4 w4 (hN:aI w _ w4 [_,_,_,_,_])
 refine RL.ag (v:=v4) ai (RL.nil (aY (aw (RW.region (RL.ag (aD rfl rfl rfl (bh (by omega) (by omega))) (RL.ag (v:=.int .i64 ((i:Int)+1)) U (RL.ak ?_)))))))
 exact⟨k-1,by omega,(de st m).1,ls++[(de st m).2],v4,hs++[h3],i+1,rfl,rfl,rfl,rfl,rfl,(hN.sb [3,4,1,2]),by omega,by rw[qj,ic];rfl,acR (eT st m) uc,by simp[Ds],by simp[Se],fun r hr=>(adl.1 hr).elim (FV r) (fun e=>by rw[ade]at e;subst e;exact acR (lL st m) uc)⟩
 refine RW.exit ?_
 iterate 2 refine bS ?_
 refine ba (aw (RW.seq ?_))
 obtain rfl:i=3:=by omega
 have At:=sZ m 3 (s,bd)
 rw[ic]at At
 dsimp only at At
 refine RW.region (RL.ag (v:=vN) ai (RL.ak ?_))
 iterate 2 refine RW.seq ?_
 refine RW.region (RL.ag (v:=vo) U (RL.ag (aC acJ cj (hN.sl 0 rfl)) ?_))
 have aO:=da (hs) 0
 obtain⟨az,lS⟩:=aO
 have aO:∃l_,(ls)[0]?=some l_:=⟨_,acE (by have:=(hN.fm 1 rfl).1;omega)⟩
 obtain⟨lz,uf⟩:=aO
 refine RL.ag (aF (m:=0) (a:=az) acu (hN.sl 0 rfl) lS) ?_
 have qG:=((hN.fm 1 rfl).2 _ _ _ lS uf).1.bw
 refine RL.ag (jH acu ((hN.fm 1 rfl).2 _ _ _ lS uf).1 rfl) (RL.ag (v:=.int .i64 (0)) U (RL.ak (RW.block ?_)))
 replace hN:=hN.eK bJ 3 100
 refine RW.loop (fun k2 R1 eW=>∃vr:Value,∃acc:List I3,∃j:Nat,R1 0=vP gr∧R1 2=.func (.func 97) #[] #[]∧R1 7=vo∧R1 8=vr∧R1 25=.int .i64 ((lz.length:Int))∧R1 26=vJ j∧aI w (b7 [.aJ gr [vP g,.int .i64 (m),.bool (bd)] 89,dI 142 lo hi g s]) eW [.cp bJ 3 100 (vr) (acc),.own vh 25 (vo) (hs),.eE vi (hs) (ls),.aJ gr [vP g,.int .i64 (m),.bool (bd)] 89,dI 142 lo hi g st]∧(j+k2=lz.length)∧(acc=(adz j).map fun q=>pr (ls.map fun r=>(r[q]?).getD 0))∧(acc.length=j)∧(0<j→∀r∈ls,r.length=lz.length)) (lz.length) ?_ ?_
 exact⟨vN,[],0,rfl,rfl,rfl,rfl,rfl,rfl,hN,by omega,rfl,rfl,fun h=>absurd h (by omega)⟩
 clear hN
 rintro k2 R1 eW ⟨vr,acc,j,cH,bV,cF,cR,gg,iU,hN,E1,na,ir,E4⟩
 have cB:=o9 cH bV cF cR gg iU
 obtain⟨sk,rfl⟩:=cB
 clear cH bV cF cR gg iU
 refine RW.aN (RL.ag (aL) (RL.ak (RW.seq ?_)))
 refine RW.aG _ (fun eD=>?_) (fun eD=>?_)
 refine RW.skip (aw (RW.seq (RW.block (RW.seq ?_))))
 have R9:=FV lz (acy uf)
 refine RW.region (RL.ag (v:=vJ j) U (RL.ag (v:=vJ j) ai (RL.b6 (RL.ag (v:=vN) ai (RL.ak ?_)))))
 iterate 2 refine RW.seq ?_
 refine RW.region (RL.ag (v:=vo) U ?_)
 have Fb:=(hN.sl 1 rfl).bw
 refine RL.ag (aQ acJ (hN.sl 1 rfl)) (RL.ag (v:=.int .i64 (0)) U (RL.ak (RW.block ?_)))
 replace hN:=hN.dD vi 3
 refine RW.loop (fun k3 R2 ij=>∃vn:Value,∃eo:List Int,∃p:Nat,R2 0=vP gr∧R2 2=.func (.func 97) #[] #[]∧R2 7=vo∧R2 8=vr∧R2 9=vJ j∧R2 10=vn∧R2 25=.int .i64 ((lz.length:Int))∧R2 26=vJ j∧R2 29=vo∧R2 30=.int .i64 ((hs.length:Int))∧R2 31=vJ p∧aI w (b7 [.aJ gr [vP g,.int .i64 (m),.bool (bd)] 89,dI 142 lo hi g s]) ij [.own vi 3 (vn) (eo),.cp bJ 3 100 (vr) (acc),.own vh 25 (vo) (hs),.eE vi (hs) (ls),.aJ gr [vP g,.int .i64 (m),.bool (bd)] 89,dI 142 lo hi g st]∧(p+k3=3)∧(eo=(ls.take p).map fun r=>(r[j]?).getD 0)∧(eo.length=p)∧(∀r∈ls.take p,r.length=lz.length)) (3) ?_ ?_
 exact⟨vN,[],0,rfl,rfl,rfl,rfl,rfl,rfl,rfl,rfl,rfl,rfl,rfl,hN,by omega,rfl,rfl,fun r hr=>by cases hr⟩
 clear hN
 rintro k3 R2 ij ⟨vn,eo,p,cH,bV,cF,cR,eg,df,gg,iU,rj,ri,rh,hN,Xr,rm,RU,uB⟩
 have cB:=Gd cH bV cF cR eg df gg iU rj ri rh
 obtain⟨PR,rfl⟩:=cB
 clear cH bV cF cR eg df gg iU rj ri rh
 refine RW.aN (RL.ag (aL) (RL.ak (RW.seq ?_)))
 refine RW.aG _ (fun yu=>?_) (fun yu=>?_)
 refine RW.skip (aw (RW.seq (RW.block (RW.aN (RL.ag (aC acJ cj (hN.sl 2 rfl)) ?_)))))
 have aO:=da (hs) p
 obtain⟨ay,uC⟩:=aO
 have aO:∃l_,(ls)[p]?=some l_:=⟨_,acE (by have:=(hN.fm 3 rfl).1;omega)⟩
 obtain⟨ly,ug⟩:=aO
 refine RL.ag (aF (m:=p) (a:=ay) acu (hN.sl 2 rfl) uC) (RL.ag (v:=(vh ay)) ai (RL.ak ?_))
 iterate 2 refine RW.seq ?_
 refine RW.region (RL.ag (v:=(vh ay)) U ?_)
 have I4:=((hN.fm 3 rfl).2 _ _ _ uC ug).1.bw
 refine RL.ag (jH acu ((hN.fm 3 rfl).2 _ _ _ uC ug).1 rfl) (RL.ag (v:=vo) U (RL.ag (aC acJ cj (hN.sl 2 rfl)) ?_))
 have aO:=da (hs) 0
 obtain⟨au,IX⟩:=aO
 have aO:∃l_,(ls)[0]?=some l_:=⟨_,acE (by have:=(hN.fm 3 rfl).1;omega)⟩
 obtain⟨lu,Dr⟩:=aO
 refine RL.ag (aF (m:=0) (a:=au) acu (hN.sl 2 rfl) IX) ?_
 have I6:=((hN.fm 3 rfl).2 _ _ _ IX Dr).1.bw
 refine RL.ag (jH acu ((hN.fm 3 rfl).2 _ _ _ IX Dr).1 rfl) (RL.ag (bj) (RL.ak ?_))
 refine RW.aG _ (fun dY=>?_) (fun dY=>?_)
 refine RW.aN (RL.ag (v:=vP gr) U (RL.ag (bM) (RL.ag (ah adx rfl oE) ?_)))
 refine RL.aK (ca oE rfl rfl rfl rfl hN 4 rfl (acv rfl) ?_)
 clear hN
 intro lR (hN:aI w _ lR [_,_,_,_,_,_])
 refine RL.b6 (RL.ag (v:=vN) ai (RL.ak (RW.ret (aT (aX ?_)))))
 iterate 2 refine aT ?_
 refine aX (aT (aX ?_))
 iterate 2 refine aT ?_
 refine aX (aT (bb (RV.tmp rfl) ?_))
 have Sa:lu.length=lz.length:=by rw[ac2 (Dr.symm.trans uf)]
 have fO:(cS pr m 2 (s,bd))=((st,true),[]):=qO ic uf (by omega) ug (by omega)
 rw[fO]
 replace hN:=hN.eK bJ 3 100
 exact hN.sb [0,5,6]
 refine RW.skip (aw ?_)
 obtain rfl:lu=lz:=ac2 (Dr.symm.trans uf)
 refine RW.region (RL.ag (v:=vn) U (RL.ag (v:=(vh ay)) U (RL.ag (v:=vJ j) U (RL.ag (jR acu bK ((hN.fm 3 rfl).2 _ _ _ uC ug).1 rfl rfl (by omega) (by omega)) ?_))))
 have aO:=da (ly) j
 obtain⟨ac,jG⟩:=aO
 refine RL.ag (kz (m:=j) (a:=ac) acs rfl ((hN.fm 3 rfl).2 _ _ _ uC ug).1 rfl jG) ?_
 refine RL.aK (cw (enc:=vi) (l:=[ac]) (xs:=[.tmp 49]) acu bK mU rfl rfl (fun _=>rfl) rfl (by decide) (by decide) hN ?_)
 clear hN
 intro Wq ll (hN:aI w _ ll [_,_,_,_,_,_,_])
 refine RL.aK (b9 acu gz rfl (fun _=>rfl) hN 1 rfl rfl (hN.sl 0 rfl) rfl (by(try simp only[acw,acC,acF,acN]);omega) (by decide) ?_)
 clear hN
 intro wx nR (hN:aI w _ nR [_,_,_,_,_,_,_])
 refine RL.ag (v:=wx) ai (RL.nil (aY (aw (RW.region (RL.ag (aD rfl rfl rfl (bh (by omega) (by omega))) (RL.ag (v:=.int .i64 ((p:Int)+1)) U (RL.ak ?_)))))))
 exact⟨k3-1,by omega,wx,eo++[ac],p+1,rfl,rfl,rfl,rfl,rfl,rfl,rfl,rfl,rfl,rfl,rfl,(hN.sb [1,2,3,4,5,6]),by omega,by rw[dM ug,adZ,rm];simp[jG],by(try simp only[acw,acC]);omega,fun r hr=>(du ug hr).elim (uB r) (fun e=>e▸by omega)⟩
 refine RW.exit ?_
 iterate 2 refine bS ?_
 refine ba (aw (RW.region (RL.ag (v:=vr) U (RL.ag (v:=.func (.func 97) #[] #[]) U (RL.ag (v:=vn) U ?_)))))
 refine RL.aK (cG (first:=#[]) (captured:=#[]) (v0:=vn) (args:=#[vn]) Tryz.func97 rfl rfl (by simp) rfl rfl ((zZ _ eo _ (hN.sl 0 rfl) (by omega)).mono ?_))
 rintro _ o7 ⟨rfl,bn⟩
 replace hN:=hN.ext bn
 clear bn
 refine RL.aK (dB (cf:=bJ) (s:=3) (pl:=[(0,.tmp 56)]) (ps:=[(0,.agg #[.int .i64 ((pr eo).1),.int .i64 ((pr eo).2.1),.int .i64 ((pr eo).2.2)])]) (zc:=[.int .i64 (0),.int .i64 (0),.int .i64 (0)]) (l:=[((pr eo).1,(pr eo).2.1,(pr eo).2.2)]) acM tX (by kernel_rfl) rfl rfl (aP (vs:=[.int .i64 ((pr eo).1),.int .i64 ((pr eo).2.1),.int .i64 ((pr eo).2.2)]) rfl rfl (acv rfl) rfl) bf rfl (by decide) (by decide) (by decide) hN ?_)
 clear hN
 intro Wp qf (hN:aI w _ qf [_,_,_,_,_,_,_])
 refine RL.aK (ct acM tX rfl (by decide) fp bf hN 2 rfl rfl (hN.sm 0 rfl) rfl (by(try simp only[acw,acC,acF,acN]);omega) (by decide) ?_)
 clear hN
 intro qh qe (hN:aI w _ qe [_,_,_,_,_,_,_])
 refine RL.ag (v:=qh) ai (RL.nil (aY (aw (RW.region (RL.ag (aD rfl rfl rfl (bh (by omega) (by omega))) (RL.ag (v:=.int .i64 ((j:Int)+1)) U (RL.ak ?_)))))))
 exact⟨k2-1,by omega,qh,acc++[((pr eo).1,(pr eo).2.1,(pr eo).2.2)],j+1,rfl,rfl,rfl,rfl,rfl,rfl,(hN.sb [2,3,4,5,6]),by omega,by rw[aeF,adZ,←na];subst rm;rw[acX (by omega)];rfl,by(try simp only[acw,acC]);omega,fun _=>by rw[acX (by omega)]at uB;exact uB⟩
 refine RW.exit ?_
 iterate 2 refine bS ?_
 refine ba (aw (RW.aN (RL.ag (v:=vr) U (RL.ag (v:=vr) ai (RL.ak (RW.ret (bb (RV.tmp rfl) ?_)))))))
 have OG:j=lz.length:=by omega
 subst OG
 have fO:(cS pr m 2 (s,bd))=((st,bd),acc):=by rw[oS ic uf E4,na]
 rw[fO]
 exact hN.sb [0,3,4]
theorem r4 (lo hi g gr:Nat) (m:Int) (bd:Bool) (s:St) (w:World) (hN:aI w (b7 [.aJ gr [vP g,.int .i64 (m),.bool (bd)] 89,dI 142 lo hi g s]) w [.aJ gr [vP g,.int .i64 (m),.bool (bd)] 89,dI 142 lo hi g s]) (kD:0≤m) (jv:m≤1048576) (kN:s.1.length≤1048576):aM acx 98 #[vP gr,.int .i64 5,.func (.func 99) #[] #[]] w fun r w'=>aI w (b7 [.aJ gr [vP g,.int .i64 (m),.bool (bd)] 89,dI 142 lo hi g s]) w' [.cp aV 5 98 r (cS mc m 4 (s,bd)).2,.aJ gr [vP g,.int .i64 (m),.bool ((cS mc m 4 (s,bd)).1.2)] 89,dI 142 lo hi g ((cS mc m 4 (s,bd)).1.1)]:=by
 refine aM.aZ Tryz.func98 ?_
 rw[iX]
 refine RW.aN (RL.ag (v:=vN) ai (RL.b6 (RL.ag (v:=vN) ai ?_)))
 replace hN:=hN.jX vi
 replace hN:=hN.dD vh 25
 replace hN:aI w _ w [.own vh 25 (vN) ([]),.eE vi ([]) ([]),.aJ gr [vP g,.int .i64 (m),.bool (bd)] 89,dI 142 lo hi g s]:=hN
 refine RL.ak ?_
 iterate 2 refine RW.seq ?_
 refine RW.region (RL.ag (v:=.int .i64 (5)) U (RL.ag (v:=.int .i64 (0)) U (RL.ak (RW.block ?_))))
 refine RW.loop (fun k R0 cz=>∃st:St,∃ls:List (List Int),∃vo:Value,∃hs:List Hd,∃i:Nat,R0 0=vP gr∧R0 2=.func (.func 99) #[] #[]∧R0 7=vo∧R0 13=.int .i64 (5)∧R0 14=vJ i∧aI w (b7 [.aJ gr [vP g,.int .i64 (m),.bool (bd)] 89,dI 142 lo hi g s]) cz [.own vh 25 (vo) (hs),.eE vi (hs) (ls),.aJ gr [vP g,.int .i64 (m),.bool (bd)] 89,dI 142 lo hi g st]∧(i+k=5)∧(j4 m i (s,bd)=((st,bd),ls))∧(st.1.length≤1048576)∧(hs.length=ls.length)∧(ls.length=i)∧(∀r∈ls,r.length≤1048576)) (5) ?_ ?_
 exact⟨s,[],vN,[],0,rfl,rfl,rfl,rfl,rfl,hN,by omega,rfl,kN,rfl,rfl,fun r hr=>by cases hr⟩
 clear hN
 rintro k R0 cz ⟨st,ls,vo,hs,i,cH,bV,cF,ft,gR,hN,gk,ic,uc,Ds,Se,FV⟩
 have cB:=iw cH bV cF ft gR
 obtain⟨gF,rfl⟩:=cB
 clear cH bV cF ft gR
 refine RW.aN (RL.ag (aL) (RL.ak (RW.seq ?_)))
 refine RW.aG _ (fun cD=>?_) (fun cD=>?_)
 refine RW.skip (aw (RW.seq (RW.block (RW.region (RL.ag (v:=vo) U (RL.ag (v:=vP gr) U ?_))))))
 refine RL.aK (bo ae8 rfl rfl rfl ((iQ lo hi g gr m (bd) st _ (hN.di (M:=[_,_]) [2,3] (by decide) rfl) (by omega) (by omega) (by(try have:=eT s m);omega)).mono ?_))
 rintro v1 w1 cE
 replace hN:aI w _ w1 [_,_,_,_,_]:=aI.dh (M:=[_,_]) (N:=[_,_]) (hN.sb [2,3,0,1]) cE
 clear cE
 have aO:=(hN.sl 0 rfl).hd
 obtain⟨h3,fO⟩:=aO
 subst fO
 refine RL.aK (cw (enc:=vh) (l:=[h3]) (xs:=[.tmp 18]) acJ cj zf rfl rfl (fun _=>rfl) rfl (by decide) (by decide) hN ?_)
 clear hN
 intro g2 w2 (hN:aI w _ w2 [_,_,_,_,_,_])
 replace hN:aI w _ w2 [_,_,_,_,_]:=aI.kW (L:=[_,_,_,_,_]) (hN.sb [1,0,2,3,4,5]) 4 rfl
 refine RL.aK (b9 acJ tW rfl kg hN 3 rfl rfl (hN.sl 0 rfl) rfl (by(try simp only[acw,ac5,adq,acN,acF,acC,ac7,acw,ac4]);omega) (by decide) ?_)
 clear hN
 intro v4 w4 (hN:aI w _ w4 [_,_,_,_,_])
 refine RL.ag (v:=v4) ai (RL.nil (aY (aw (RW.region (RL.ag (aD rfl rfl rfl (bh (by omega) (by omega))) (RL.ag (v:=.int .i64 ((i:Int)+1)) U (RL.ak ?_)))))))
 exact⟨k-1,by omega,(de st m).1,ls++[(de st m).2],v4,hs++[h3],i+1,rfl,rfl,rfl,rfl,rfl,(hN.sb [3,4,1,2]),by omega,by rw[qj,ic];rfl,acR (eT st m) uc,by simp[Ds],by simp[Se],fun r hr=>(adl.1 hr).elim (FV r) (fun e=>by rw[ade]at e;subst e;exact acR (lL st m) uc)⟩
 refine RW.exit ?_
 iterate 2 refine bS ?_
 refine ba (aw (RW.seq ?_))
 obtain rfl:i=5:=by omega
 have At:=sZ m 5 (s,bd)
 rw[ic]at At
 dsimp only at At
 refine RW.region (RL.ag (v:=vN) ai (RL.ak ?_))
 iterate 2 refine RW.seq ?_
 refine RW.region (RL.ag (v:=vo) U (RL.ag (aC acJ cj (hN.sl 0 rfl)) ?_))
 have aO:=da (hs) 0
 obtain⟨az,lS⟩:=aO
 have aO:∃l_,(ls)[0]?=some l_:=⟨_,acE (by have:=(hN.fm 1 rfl).1;omega)⟩
 obtain⟨lz,uf⟩:=aO
 refine RL.ag (aF (m:=0) (a:=az) acu (hN.sl 0 rfl) lS) ?_
 have qG:=((hN.fm 1 rfl).2 _ _ _ lS uf).1.bw
 refine RL.ag (jH acu ((hN.fm 1 rfl).2 _ _ _ lS uf).1 rfl) (RL.ag (v:=.int .i64 (0)) U (RL.ak (RW.block ?_)))
 replace hN:=hN.eK aV 5 98
 refine RW.loop (fun k2 R1 eW=>∃vr:Value,∃acc:List I5,∃j:Nat,R1 0=vP gr∧R1 2=.func (.func 99) #[] #[]∧R1 7=vo∧R1 8=vr∧R1 25=.int .i64 ((lz.length:Int))∧R1 26=vJ j∧aI w (b7 [.aJ gr [vP g,.int .i64 (m),.bool (bd)] 89,dI 142 lo hi g s]) eW [.cp aV 5 98 (vr) (acc),.own vh 25 (vo) (hs),.eE vi (hs) (ls),.aJ gr [vP g,.int .i64 (m),.bool (bd)] 89,dI 142 lo hi g st]∧(j+k2=lz.length)∧(acc=(adz j).map fun q=>mc (ls.map fun r=>(r[q]?).getD 0))∧(acc.length=j)∧(0<j→∀r∈ls,r.length=lz.length)) (lz.length) ?_ ?_
 exact⟨vN,[],0,rfl,rfl,rfl,rfl,rfl,rfl,hN,by omega,rfl,rfl,fun h=>absurd h (by omega)⟩
 clear hN
 rintro k2 R1 eW ⟨vr,acc,j,cH,bV,cF,cR,gg,iU,hN,E1,na,ir,E4⟩
 have cB:=o9 cH bV cF cR gg iU
 obtain⟨sk,rfl⟩:=cB
 clear cH bV cF cR gg iU
 refine RW.aN (RL.ag (aL) (RL.ak (RW.seq ?_)))
 refine RW.aG _ (fun eD=>?_) (fun eD=>?_)
 refine RW.skip (aw (RW.seq (RW.block (RW.seq ?_))))
 have R9:=FV lz (acy uf)
 refine RW.region (RL.ag (v:=vJ j) U (RL.ag (v:=vJ j) ai (RL.b6 (RL.ag (v:=vN) ai (RL.ak ?_)))))
 iterate 2 refine RW.seq ?_
 refine RW.region (RL.ag (v:=vo) U ?_)
 have Fb:=(hN.sl 1 rfl).bw
 refine RL.ag (aQ acJ (hN.sl 1 rfl)) (RL.ag (v:=.int .i64 (0)) U (RL.ak (RW.block ?_)))
 replace hN:=hN.dD vi 3
 refine RW.loop (fun k3 R2 ij=>∃vn:Value,∃eo:List Int,∃p:Nat,R2 0=vP gr∧R2 2=.func (.func 99) #[] #[]∧R2 7=vo∧R2 8=vr∧R2 9=vJ j∧R2 10=vn∧R2 25=.int .i64 ((lz.length:Int))∧R2 26=vJ j∧R2 29=vo∧R2 30=.int .i64 ((hs.length:Int))∧R2 31=vJ p∧aI w (b7 [.aJ gr [vP g,.int .i64 (m),.bool (bd)] 89,dI 142 lo hi g s]) ij [.own vi 3 (vn) (eo),.cp aV 5 98 (vr) (acc),.own vh 25 (vo) (hs),.eE vi (hs) (ls),.aJ gr [vP g,.int .i64 (m),.bool (bd)] 89,dI 142 lo hi g st]∧(p+k3=5)∧(eo=(ls.take p).map fun r=>(r[j]?).getD 0)∧(eo.length=p)∧(∀r∈ls.take p,r.length=lz.length)) (5) ?_ ?_
 exact⟨vN,[],0,rfl,rfl,rfl,rfl,rfl,rfl,rfl,rfl,rfl,rfl,rfl,hN,by omega,rfl,rfl,fun r hr=>by cases hr⟩
 clear hN
 rintro k3 R2 ij ⟨vn,eo,p,cH,bV,cF,cR,eg,df,gg,iU,rj,ri,rh,hN,Xr,rm,RU,uB⟩
 have cB:=Gd cH bV cF cR eg df gg iU rj ri rh
 obtain⟨PR,rfl⟩:=cB
 clear cH bV cF cR eg df gg iU rj ri rh
 refine RW.aN (RL.ag (aL) (RL.ak (RW.seq ?_)))
 refine RW.aG _ (fun yu=>?_) (fun yu=>?_)
 refine RW.skip (aw (RW.seq (RW.block (RW.aN (RL.ag (aC acJ cj (hN.sl 2 rfl)) ?_)))))
 have aO:=da (hs) p
 obtain⟨ay,uC⟩:=aO
 have aO:∃l_,(ls)[p]?=some l_:=⟨_,acE (by have:=(hN.fm 3 rfl).1;omega)⟩
 obtain⟨ly,ug⟩:=aO
 refine RL.ag (aF (m:=p) (a:=ay) acu (hN.sl 2 rfl) uC) (RL.ag (v:=(vh ay)) ai (RL.ak ?_))
 iterate 2 refine RW.seq ?_
 refine RW.region (RL.ag (v:=(vh ay)) U ?_)
 have I4:=((hN.fm 3 rfl).2 _ _ _ uC ug).1.bw
 refine RL.ag (jH acu ((hN.fm 3 rfl).2 _ _ _ uC ug).1 rfl) (RL.ag (v:=vo) U (RL.ag (aC acJ cj (hN.sl 2 rfl)) ?_))
 have aO:=da (hs) 0
 obtain⟨au,IX⟩:=aO
 have aO:∃l_,(ls)[0]?=some l_:=⟨_,acE (by have:=(hN.fm 3 rfl).1;omega)⟩
 obtain⟨lu,Dr⟩:=aO
 refine RL.ag (aF (m:=0) (a:=au) acu (hN.sl 2 rfl) IX) ?_
 have I6:=((hN.fm 3 rfl).2 _ _ _ IX Dr).1.bw
 refine RL.ag (jH acu ((hN.fm 3 rfl).2 _ _ _ IX Dr).1 rfl) (RL.ag (bj) (RL.ak ?_))
 refine RW.aG _ (fun dY=>?_) (fun dY=>?_)
 refine RW.aN (RL.ag (v:=vP gr) U (RL.ag (bM) (RL.ag (ah adx rfl oE) ?_)))
 refine RL.aK (ca oE rfl rfl rfl rfl hN 4 rfl (acv rfl) ?_)
 clear hN
 intro lR (hN:aI w _ lR [_,_,_,_,_,_])
 refine RL.b6 (RL.ag (v:=vN) ai (RL.ak (RW.ret (aT (aX ?_)))))
 iterate 2 refine aT ?_
 refine aX (aT (aX ?_))
 iterate 2 refine aT ?_
 refine aX (aT (bb (RV.tmp rfl) ?_))
 have Sa:lu.length=lz.length:=by rw[ac2 (Dr.symm.trans uf)]
 have fO:(cS mc m 4 (s,bd))=((st,true),[]):=qO ic uf (by omega) ug (by omega)
 rw[fO]
 replace hN:=hN.eK aV 5 98
 exact hN.sb [0,5,6]
 refine RW.skip (aw ?_)
 obtain rfl:lu=lz:=ac2 (Dr.symm.trans uf)
 refine RW.region (RL.ag (v:=vn) U (RL.ag (v:=(vh ay)) U (RL.ag (v:=vJ j) U (RL.ag (jR acu bK ((hN.fm 3 rfl).2 _ _ _ uC ug).1 rfl rfl (by omega) (by omega)) ?_))))
 have aO:=da (ly) j
 obtain⟨ac,jG⟩:=aO
 refine RL.ag (kz (m:=j) (a:=ac) acs rfl ((hN.fm 3 rfl).2 _ _ _ uC ug).1 rfl jG) ?_
 refine RL.aK (cw (enc:=vi) (l:=[ac]) (xs:=[.tmp 49]) acu bK mU rfl rfl (fun _=>rfl) rfl (by decide) (by decide) hN ?_)
 clear hN
 intro Wq ll (hN:aI w _ ll [_,_,_,_,_,_,_])
 refine RL.aK (b9 acu gz rfl (fun _=>rfl) hN 1 rfl rfl (hN.sl 0 rfl) rfl (by(try simp only[acw,acC,acF,acN]);omega) (by decide) ?_)
 clear hN
 intro wx nR (hN:aI w _ nR [_,_,_,_,_,_,_])
 refine RL.ag (v:=wx) ai (RL.nil (aY (aw (RW.region (RL.ag (aD rfl rfl rfl (bh (by omega) (by omega))) (RL.ag (v:=.int .i64 ((p:Int)+1)) U (RL.ak ?_)))))))
 exact⟨k3-1,by omega,wx,eo++[ac],p+1,rfl,rfl,rfl,rfl,rfl,rfl,rfl,rfl,rfl,rfl,rfl,(hN.sb [1,2,3,4,5,6]),by omega,by rw[dM ug,adZ,rm];simp[jG],by(try simp only[acw,acC]);omega,fun r hr=>(du ug hr).elim (uB r) (fun e=>e▸by omega)⟩
 refine RW.exit ?_
 iterate 2 refine bS ?_
 refine ba (aw (RW.region (RL.ag (v:=vr) U (RL.ag (v:=.func (.func 99) #[] #[]) U (RL.ag (v:=vn) U ?_)))))
 refine RL.aK (cG (first:=#[]) (captured:=#[]) (v0:=vn) (args:=#[vn]) Tryz.func99 rfl rfl (by simp) rfl rfl ((vL _ eo _ (hN.sl 0 rfl) (by omega)).mono ?_))
 rintro _ o7 ⟨rfl,bn⟩
 replace hN:=hN.ext bn
 clear bn
 refine RL.aK (dB (cf:=aV) (s:=5) (pl:=[(0,.tmp 56)]) (ps:=[(0,.agg #[.int .i64 ((mc eo).1),.int .i64 ((mc eo).2.1),.int .i64 ((mc eo).2.2.1),.int .i64 ((mc eo).2.2.2.1),.int .i64 ((mc eo).2.2.2.2)])]) (zc:=[.int .i64 (0),.int .i64 (0),.int .i64 (0),.int .i64 (0),.int .i64 (0)]) (l:=[((mc eo).1,(mc eo).2.1,(mc eo).2.2.1,(mc eo).2.2.2.1,(mc eo).2.2.2.2)]) acG jx (by kernel_rfl) rfl rfl (aP (vs:=[.int .i64 ((mc eo).1),.int .i64 ((mc eo).2.1),.int .i64 ((mc eo).2.2.1),.int .i64 ((mc eo).2.2.2.1),.int .i64 ((mc eo).2.2.2.2)]) rfl rfl (acv rfl) rfl) aH rfl (by decide) (by decide) (by decide) hN ?_)
 clear hN
 intro Wp qf (hN:aI w _ qf [_,_,_,_,_,_,_])
 refine RL.aK (ct acG jx rfl (by decide) dx aH hN 2 rfl rfl (hN.sm 0 rfl) rfl (by(try simp only[acw,acC,acF,acN]);omega) (by decide) ?_)
 clear hN
 intro qh qe (hN:aI w _ qe [_,_,_,_,_,_,_])
 refine RL.ag (v:=qh) ai (RL.nil (aY (aw (RW.region (RL.ag (aD rfl rfl rfl (bh (by omega) (by omega))) (RL.ag (v:=.int .i64 ((j:Int)+1)) U (RL.ak ?_)))))))
 exact⟨k2-1,by omega,qh,acc++[((mc eo).1,(mc eo).2.1,(mc eo).2.2.1,(mc eo).2.2.2.1,(mc eo).2.2.2.2)],j+1,rfl,rfl,rfl,rfl,rfl,rfl,(hN.sb [2,3,4,5,6]),by omega,by rw[aeF,adZ,←na];subst rm;rw[acX (by omega)];rfl,by(try simp only[acw,acC]);omega,fun _=>by rw[acX (by omega)]at uB;exact uB⟩
 refine RW.exit ?_
 iterate 2 refine bS ?_
 refine ba (aw (RW.aN (RL.ag (v:=vr) U (RL.ag (v:=vr) ai (RL.ak (RW.ret (bb (RV.tmp rfl) ?_)))))))
 have OG:j=lz.length:=by omega
 subst OG
 have fO:(cS mc m 4 (s,bd))=((st,bd),acc):=by rw[oS ic uf E4,na]
 rw[fO]
 exact hN.sb [0,3,4]
theorem sa (lo hi g gr:Nat) (m:Int) (bd:Bool) (s:St) (w:World) (hN:aI w (b7 [.aJ gr [vP g,.int .i64 (m),.bool (bd)] 89,dI 142 lo hi g s]) w [.aJ gr [vP g,.int .i64 (m),.bool (bd)] 89,dI 142 lo hi g s]) (kD:0≤m) (jv:m≤1048576) (kN:s.1.length≤1048576):aM acx 101 #[vP gr,.int .i64 2,.func (.func 102) #[] #[]] w fun r w'=>aI w (b7 [.aJ gr [vP g,.int .i64 (m),.bool (bd)] 89,dI 142 lo hi g s]) w' [.cp bG 2 135 r (cS j0 m 1 (s,bd)).2,.aJ gr [vP g,.int .i64 (m),.bool ((cS j0 m 1 (s,bd)).1.2)] 89,dI 142 lo hi g ((cS j0 m 1 (s,bd)).1.1)]:=by
 refine aM.aZ ajT ?_
 rw[iX]
 refine RW.aN (RL.ag (v:=vN) ai (RL.b6 (RL.ag (v:=vN) ai ?_)))
 replace hN:=hN.jX vi
 replace hN:=hN.dD vh 25
 replace hN:aI w _ w [.own vh 25 (vN) ([]),.eE vi ([]) ([]),.aJ gr [vP g,.int .i64 (m),.bool (bd)] 89,dI 142 lo hi g s]:=hN
 refine RL.ak ?_
 iterate 2 refine RW.seq ?_
 refine RW.region (RL.ag (v:=.int .i64 (2)) U (RL.ag (v:=.int .i64 (0)) U (RL.ak (RW.block ?_))))
 refine RW.loop (fun k R0 cz=>∃st:St,∃ls:List (List Int),∃vo:Value,∃hs:List Hd,∃i:Nat,R0 0=vP gr∧R0 2=.func (.func 102) #[] #[]∧R0 7=vo∧R0 13=.int .i64 (2)∧R0 14=vJ i∧aI w (b7 [.aJ gr [vP g,.int .i64 (m),.bool (bd)] 89,dI 142 lo hi g s]) cz [.own vh 25 (vo) (hs),.eE vi (hs) (ls),.aJ gr [vP g,.int .i64 (m),.bool (bd)] 89,dI 142 lo hi g st]∧(i+k=2)∧(j4 m i (s,bd)=((st,bd),ls))∧(st.1.length≤1048576)∧(hs.length=ls.length)∧(ls.length=i)∧(∀r∈ls,r.length≤1048576)) (2) ?_ ?_
 exact⟨s,[],vN,[],0,rfl,rfl,rfl,rfl,rfl,hN,by omega,rfl,kN,rfl,rfl,fun r hr=>by cases hr⟩
 clear hN
 rintro k R0 cz ⟨st,ls,vo,hs,i,cH,bV,cF,ft,gR,hN,gk,ic,uc,Ds,Se,FV⟩
 have cB:=iw cH bV cF ft gR
 obtain⟨gF,rfl⟩:=cB
 clear cH bV cF ft gR
 refine RW.aN (RL.ag (aL) (RL.ak (RW.seq ?_)))
 refine RW.aG _ (fun cD=>?_) (fun cD=>?_)
 refine RW.skip (aw (RW.seq (RW.block (RW.region (RL.ag (v:=vo) U (RL.ag (v:=vP gr) U ?_))))))
 refine RL.aK (bo ae8 rfl rfl rfl ((iQ lo hi g gr m (bd) st _ (hN.di (M:=[_,_]) [2,3] (by decide) rfl) (by omega) (by omega) (by(try have:=eT s m);omega)).mono ?_))
 rintro v1 w1 cE
 replace hN:aI w _ w1 [_,_,_,_,_]:=aI.dh (M:=[_,_]) (N:=[_,_]) (hN.sb [2,3,0,1]) cE
 clear cE
 have aO:=(hN.sl 0 rfl).hd
 obtain⟨h3,fO⟩:=aO
 subst fO
 refine RL.aK (cw (enc:=vh) (l:=[h3]) (xs:=[.tmp 18]) acJ cj zf rfl rfl (fun _=>rfl) rfl (by decide) (by decide) hN ?_)
 clear hN
 intro g2 w2 (hN:aI w _ w2 [_,_,_,_,_,_])
 replace hN:aI w _ w2 [_,_,_,_,_]:=aI.kW (L:=[_,_,_,_,_]) (hN.sb [1,0,2,3,4,5]) 4 rfl
 refine RL.aK (b9 acJ tW rfl kg hN 3 rfl rfl (hN.sl 0 rfl) rfl (by(try simp only[acw,ac5,adq,acN,acF,acC,ac7,acw,ac4]);omega) (by decide) ?_)
 clear hN
 intro v4 w4 (hN:aI w _ w4 [_,_,_,_,_])
 refine RL.ag (v:=v4) ai (RL.nil (aY (aw (RW.region (RL.ag (aD rfl rfl rfl (bh (by omega) (by omega))) (RL.ag (v:=.int .i64 ((i:Int)+1)) U (RL.ak ?_)))))))
 exact⟨k-1,by omega,(de st m).1,ls++[(de st m).2],v4,hs++[h3],i+1,rfl,rfl,rfl,rfl,rfl,(hN.sb [3,4,1,2]),by omega,by rw[qj,ic];rfl,acR (eT st m) uc,by simp[Ds],by simp[Se],fun r hr=>(adl.1 hr).elim (FV r) (fun e=>by rw[ade]at e;subst e;exact acR (lL st m) uc)⟩
 refine RW.exit ?_
 iterate 2 refine bS ?_
 refine ba (aw (RW.seq ?_))
 obtain rfl:i=2:=by omega
 have At:=sZ m 2 (s,bd)
 rw[ic]at At
 dsimp only at At
 refine RW.region (RL.ag (v:=vN) ai (RL.ak ?_))
 iterate 2 refine RW.seq ?_
 refine RW.region (RL.ag (v:=vo) U (RL.ag (aC acJ cj (hN.sl 0 rfl)) ?_))
 have aO:=da (hs) 0
 obtain⟨az,lS⟩:=aO
 have aO:∃l_,(ls)[0]?=some l_:=⟨_,acE (by have:=(hN.fm 1 rfl).1;omega)⟩
 obtain⟨lz,uf⟩:=aO
 refine RL.ag (aF (m:=0) (a:=az) acu (hN.sl 0 rfl) lS) ?_
 have qG:=((hN.fm 1 rfl).2 _ _ _ lS uf).1.bw
 refine RL.ag (jH acu ((hN.fm 1 rfl).2 _ _ _ lS uf).1 rfl) (RL.ag (v:=.int .i64 (0)) U (RL.ak (RW.block ?_)))
 replace hN:=hN.eK bG 2 135
 refine RW.loop (fun k2 R1 eW=>∃vr:Value,∃acc:List I2,∃j:Nat,R1 0=vP gr∧R1 2=.func (.func 102) #[] #[]∧R1 7=vo∧R1 8=vr∧R1 25=.int .i64 ((lz.length:Int))∧R1 26=vJ j∧aI w (b7 [.aJ gr [vP g,.int .i64 (m),.bool (bd)] 89,dI 142 lo hi g s]) eW [.cp bG 2 135 (vr) (acc),.own vh 25 (vo) (hs),.eE vi (hs) (ls),.aJ gr [vP g,.int .i64 (m),.bool (bd)] 89,dI 142 lo hi g st]∧(j+k2=lz.length)∧(acc=(adz j).map fun q=>j0 (ls.map fun r=>(r[q]?).getD 0))∧(acc.length=j)∧(0<j→∀r∈ls,r.length=lz.length)) (lz.length) ?_ ?_
 exact⟨vN,[],0,rfl,rfl,rfl,rfl,rfl,rfl,hN,by omega,rfl,rfl,fun h=>absurd h (by omega)⟩
 clear hN
 rintro k2 R1 eW ⟨vr,acc,j,cH,bV,cF,cR,gg,iU,hN,E1,na,ir,E4⟩
 have cB:=o9 cH bV cF cR gg iU
 obtain⟨sk,rfl⟩:=cB
 clear cH bV cF cR gg iU
 refine RW.aN (RL.ag (aL) (RL.ak (RW.seq ?_)))
 refine RW.aG _ (fun eD=>?_) (fun eD=>?_)
 refine RW.skip (aw (RW.seq (RW.block (RW.seq ?_))))
 have R9:=FV lz (acy uf)
 refine RW.region (RL.ag (v:=vJ j) U (RL.ag (v:=vJ j) ai (RL.b6 (RL.ag (v:=vN) ai (RL.ak ?_)))))
 iterate 2 refine RW.seq ?_
 refine RW.region (RL.ag (v:=vo) U ?_)
 have Fb:=(hN.sl 1 rfl).bw
 refine RL.ag (aQ acJ (hN.sl 1 rfl)) (RL.ag (v:=.int .i64 (0)) U (RL.ak (RW.block ?_)))
 replace hN:=hN.dD vi 3
 refine RW.loop (fun k3 R2 ij=>∃vn:Value,∃eo:List Int,∃p:Nat,R2 0=vP gr∧R2 2=.func (.func 102) #[] #[]∧R2 7=vo∧R2 8=vr∧R2 9=vJ j∧R2 10=vn∧R2 25=.int .i64 ((lz.length:Int))∧R2 26=vJ j∧R2 29=vo∧R2 30=.int .i64 ((hs.length:Int))∧R2 31=vJ p∧aI w (b7 [.aJ gr [vP g,.int .i64 (m),.bool (bd)] 89,dI 142 lo hi g s]) ij [.own vi 3 (vn) (eo),.cp bG 2 135 (vr) (acc),.own vh 25 (vo) (hs),.eE vi (hs) (ls),.aJ gr [vP g,.int .i64 (m),.bool (bd)] 89,dI 142 lo hi g st]∧(p+k3=2)∧(eo=(ls.take p).map fun r=>(r[j]?).getD 0)∧(eo.length=p)∧(∀r∈ls.take p,r.length=lz.length)) (2) ?_ ?_
 exact⟨vN,[],0,rfl,rfl,rfl,rfl,rfl,rfl,rfl,rfl,rfl,rfl,rfl,hN,by omega,rfl,rfl,fun r hr=>by cases hr⟩
 clear hN
 rintro k3 R2 ij ⟨vn,eo,p,cH,bV,cF,cR,eg,df,gg,iU,rj,ri,rh,hN,Xr,rm,RU,uB⟩
 have cB:=Gd cH bV cF cR eg df gg iU rj ri rh
 obtain⟨PR,rfl⟩:=cB
 clear cH bV cF cR eg df gg iU rj ri rh
 refine RW.aN (RL.ag (aL) (RL.ak (RW.seq ?_)))
 refine RW.aG _ (fun yu=>?_) (fun yu=>?_)
 refine RW.skip (aw (RW.seq (RW.block (RW.aN (RL.ag (aC acJ cj (hN.sl 2 rfl)) ?_)))))
 have aO:=da (hs) p
 obtain⟨ay,uC⟩:=aO
 have aO:∃l_,(ls)[p]?=some l_:=⟨_,acE (by have:=(hN.fm 3 rfl).1;omega)⟩
 obtain⟨ly,ug⟩:=aO
 refine RL.ag (aF (m:=p) (a:=ay) acu (hN.sl 2 rfl) uC) (RL.ag (v:=(vh ay)) ai (RL.ak ?_))
 iterate 2 refine RW.seq ?_
 refine RW.region (RL.ag (v:=(vh ay)) U ?_)
 have I4:=((hN.fm 3 rfl).2 _ _ _ uC ug).1.bw
 refine RL.ag (jH acu ((hN.fm 3 rfl).2 _ _ _ uC ug).1 rfl) (RL.ag (v:=vo) U (RL.ag (aC acJ cj (hN.sl 2 rfl)) ?_))
 have aO:=da (hs) 0
 obtain⟨au,IX⟩:=aO
 have aO:∃l_,(ls)[0]?=some l_:=⟨_,acE (by have:=(hN.fm 3 rfl).1;omega)⟩
 obtain⟨lu,Dr⟩:=aO
 refine RL.ag (aF (m:=0) (a:=au) acu (hN.sl 2 rfl) IX) ?_
 have I6:=((hN.fm 3 rfl).2 _ _ _ IX Dr).1.bw
 refine RL.ag (jH acu ((hN.fm 3 rfl).2 _ _ _ IX Dr).1 rfl) (RL.ag (bj) (RL.ak ?_))
 refine RW.aG _ (fun dY=>?_) (fun dY=>?_)
 refine RW.aN (RL.ag (v:=vP gr) U (RL.ag (bM) (RL.ag (ah adx rfl oE) ?_)))
 refine RL.aK (ca oE rfl rfl rfl rfl hN 4 rfl (acv rfl) ?_)
 clear hN
 intro lR (hN:aI w _ lR [_,_,_,_,_,_])
 refine RL.b6 (RL.ag (v:=vN) ai (RL.ak (RW.ret (aT (aX ?_)))))
 iterate 2 refine aT ?_
 refine aX (aT (aX ?_))
 iterate 2 refine aT ?_
 refine aX (aT (bb (RV.tmp rfl) ?_))
 have Sa:lu.length=lz.length:=by rw[ac2 (Dr.symm.trans uf)]
 have fO:(cS j0 m 1 (s,bd))=((st,true),[]):=qO ic uf (by omega) ug (by omega)
 rw[fO]
 replace hN:=hN.eK bG 2 135
 exact hN.sb [0,5,6]
 refine RW.skip (aw ?_)
 obtain rfl:lu=lz:=ac2 (Dr.symm.trans uf)
 refine RW.region (RL.ag (v:=vn) U (RL.ag (v:=(vh ay)) U (RL.ag (v:=vJ j) U (RL.ag (jR acu bK ((hN.fm 3 rfl).2 _ _ _ uC ug).1 rfl rfl (by omega) (by omega)) ?_))))
 have aO:=da (ly) j
 obtain⟨ac,jG⟩:=aO
 refine RL.ag (kz (m:=j) (a:=ac) acs rfl ((hN.fm 3 rfl).2 _ _ _ uC ug).1 rfl jG) ?_
 refine RL.aK (cw (enc:=vi) (l:=[ac]) (xs:=[.tmp 49]) acu bK mU rfl rfl (fun _=>rfl) rfl (by decide) (by decide) hN ?_)
 clear hN
 intro Wq ll (hN:aI w _ ll [_,_,_,_,_,_,_])
 refine RL.aK (b9 acu gz rfl (fun _=>rfl) hN 1 rfl rfl (hN.sl 0 rfl) rfl (by(try simp only[acw,acC,acF,acN]);omega) (by decide) ?_)
 clear hN
 intro wx nR (hN:aI w _ nR [_,_,_,_,_,_,_])
 refine RL.ag (v:=wx) ai (RL.nil (aY (aw (RW.region (RL.ag (aD rfl rfl rfl (bh (by omega) (by omega))) (RL.ag (v:=.int .i64 ((p:Int)+1)) U (RL.ak ?_)))))))
 exact⟨k3-1,by omega,wx,eo++[ac],p+1,rfl,rfl,rfl,rfl,rfl,rfl,rfl,rfl,rfl,rfl,rfl,(hN.sb [1,2,3,4,5,6]),by omega,by rw[dM ug,adZ,rm];simp[jG],by(try simp only[acw,acC]);omega,fun r hr=>(du ug hr).elim (uB r) (fun e=>e▸by omega)⟩
 refine RW.exit ?_
 iterate 2 refine bS ?_
 refine ba (aw (RW.region (RL.ag (v:=vr) U (RL.ag (v:=.func (.func 102) #[] #[]) U (RL.ag (v:=vn) U ?_)))))
 refine RL.aK (cG (first:=#[]) (captured:=#[]) (v0:=vn) (args:=#[vn]) ajS rfl rfl (by simp) rfl rfl ((vM _ eo _ (hN.sl 0 rfl) (by omega)).mono ?_))
 rintro _ o7 ⟨rfl,bn⟩
 replace hN:=hN.ext bn
 clear bn
 refine RL.aK (dB (cf:=bG) (s:=2) (pl:=[(0,.tmp 56)]) (ps:=[(0,.agg #[.int .i64 ((j0 eo).1),.int .i64 ((j0 eo).2)])]) (zc:=[.int .i64 (0),.int .i64 (0)]) (l:=[((j0 eo).1,(j0 eo).2)]) acW qw (by kernel_rfl) rfl rfl (aP (vs:=[.int .i64 ((j0 eo).1),.int .i64 ((j0 eo).2)]) rfl rfl (acv rfl) rfl) bp rfl (by decide) (by decide) (by decide) hN ?_)
 clear hN
 intro Wp qf (hN:aI w _ qf [_,_,_,_,_,_,_])
 refine RL.aK (ct acW qw rfl (by decide) nC bp hN 2 rfl rfl (hN.sm 0 rfl) rfl (by(try simp only[acw,acC,acF,acN]);omega) (by decide) ?_)
 clear hN
 intro qh qe (hN:aI w _ qe [_,_,_,_,_,_,_])
 refine RL.ag (v:=qh) ai (RL.nil (aY (aw (RW.region (RL.ag (aD rfl rfl rfl (bh (by omega) (by omega))) (RL.ag (v:=.int .i64 ((j:Int)+1)) U (RL.ak ?_)))))))
 exact⟨k2-1,by omega,qh,acc++[((j0 eo).1,(j0 eo).2)],j+1,rfl,rfl,rfl,rfl,rfl,rfl,(hN.sb [2,3,4,5,6]),by omega,by rw[aeF,adZ,←na];subst rm;rw[acX (by omega)];rfl,by(try simp only[acw,acC]);omega,fun _=>by rw[acX (by omega)]at uB;exact uB⟩
 refine RW.exit ?_
 iterate 2 refine bS ?_
 refine ba (aw (RW.aN (RL.ag (v:=vr) U (RL.ag (v:=vr) ai (RL.ak (RW.ret (bb (RV.tmp rfl) ?_)))))))
 have OG:j=lz.length:=by omega
 subst OG
 have fO:(cS j0 m 1 (s,bd))=((st,bd),acc):=by rw[oS ic uf E4,na]
 rw[fO]
 exact hN.sb [0,3,4]
end Go.Proofs.YtngkdkbpgoddlaaGreat
namespace Go.Proofs.YtngkdkbpgoddlaaGreat
open Go.RowKit Go.Rl
open Go.Gr Go.dn Go.jJ
theorem Dn (lo hi g gr:Nat) (m:Int) (bd:Bool) (s:St) (w:World) (hN:aI w (b7 [.aJ gr [vP g,.int .i64 (m),.bool (bd)] 89,dI 142 lo hi g s]) w [.aJ gr [vP g,.int .i64 (m),.bool (bd)] 89,dI 142 lo hi g s]) (kD:0≤m) (jv:m≤1048576) (kN:s.1.length≤1048576) {s1:St} {b1:Bool} {n1:Nat} (e:fD m (s,bd)=((s1,b1),n1)):aM acx 158 #[vP gr] w fun r w'=>r=.int .i64 (n1:Int)∧aI w (b7 [.aJ gr [vP g,.int .i64 (m),.bool (bd)] 89,dI 142 lo hi g s]) w' [.aJ gr [vP g,.int .i64 (m),.bool (b1)] 89,dI 142 lo hi g s1]:=
  (zE lo hi g gr m bd s w hN kD jv kN).mono fun _ _ h=>by rw[e]at h;exact h
theorem CS (lo hi g gr:Nat) (m:Int) (bd:Bool) (s:St) (w:World) (hN:aI w (b7 [.aJ gr [vP g,.int .i64 (m),.bool (bd)] 89,dI 142 lo hi g s]) w [.aJ gr [vP g,.int .i64 (m),.bool (bd)] 89,dI 142 lo hi g s]) (kD:0≤m) (jv:m≤1048576) (kN:s.1.length≤1048576) {s1:St} {b1:Bool} {l1:List I3} (e:cS pr m 2 (s,bd)=((s1,b1),l1)):aM acx 96 #[vP gr,.int .i64 3,.func (.func 97) #[] #[]] w fun r w'=>aI w (b7 [.aJ gr [vP g,.int .i64 (m),.bool (bd)] 89,dI 142 lo hi g s]) w' [.cp bJ 3 100 r l1,.aJ gr [vP g,.int .i64 (m),.bool (b1)] 89,dI 142 lo hi g s1]:=
  (we lo hi g gr m bd s w hN kD jv kN).mono fun _ _ h=>by rw[e]at h;exact h
theorem yM (lo hi g gr:Nat) (m:Int) (bd:Bool) (s:St) (w:World) (hN:aI w (b7 [.aJ gr [vP g,.int .i64 (m),.bool (bd)] 89,dI 142 lo hi g s]) w [.aJ gr [vP g,.int .i64 (m),.bool (bd)] 89,dI 142 lo hi g s]) (kD:0≤m) (jv:m≤1048576) (kN:s.1.length≤1048576) {s1:St} {b1:Bool} {l1:List I5} (e:cS mc m 4 (s,bd)=((s1,b1),l1)):aM acx 98 #[vP gr,.int .i64 5,.func (.func 99) #[] #[]] w fun r w'=>aI w (b7 [.aJ gr [vP g,.int .i64 (m),.bool (bd)] 89,dI 142 lo hi g s]) w' [.cp aV 5 98 r l1,.aJ gr [vP g,.int .i64 (m),.bool (b1)] 89,dI 142 lo hi g s1]:=
  (r4 lo hi g gr m bd s w hN kD jv kN).mono fun _ _ h=>by rw[e]at h;exact h
theorem yN (lo hi g gr:Nat) (m:Int) (bd:Bool) (s:St) (w:World) (hN:aI w (b7 [.aJ gr [vP g,.int .i64 (m),.bool (bd)] 89,dI 142 lo hi g s]) w [.aJ gr [vP g,.int .i64 (m),.bool (bd)] 89,dI 142 lo hi g s]) (kD:0≤m) (jv:m≤1048576) (kN:s.1.length≤1048576) {s1:St} {b1:Bool} {l1:List I2} (e:cS j0 m 1 (s,bd)=((s1,b1),l1)):aM acx 101 #[vP gr,.int .i64 2,.func (.func 102) #[] #[]] w fun r w'=>aI w (b7 [.aJ gr [vP g,.int .i64 (m),.bool (bd)] 89,dI 142 lo hi g s]) w' [.cp bG 2 135 r l1,.aJ gr [vP g,.int .i64 (m),.bool (b1)] 89,dI 142 lo hi g s1]:=
  (sa lo hi g gr m bd s w hN kD jv kN).mono fun _ _ h=>by rw[e]at h;exact h
theorem En (lo hi g gr gb:Nat) (m:Int) (bd:Bool) (s:St) (w:World) (hN:aI w (b7 [.aJ gb [vP gr] 82,.aJ gr [vP g,.int .i64 (m),.bool (bd)] 89,dI 142 lo hi g s]) w [.aJ gb [vP gr] 82,.aJ gr [vP g,.int .i64 (m),.bool (bd)] 89,dI 142 lo hi g s]) (kD:0≤m) (jv:m≤1048576) (kN:s.1.length≤1048576) {s1:St} {b1:Bool} {l1:List I2} (e:cS j0 m 1 (s,bd)=((s1,b1),l1)):aM acx 100 #[vP gb] w fun r w'=>aI w (b7 [.aJ gb [vP gr] 82,.aJ gr [vP g,.int .i64 (m),.bool (bd)] 89,dI 142 lo hi g s]) w' [.cp bG 2 135 r l1,.aJ gb [vP gr] 82,.aJ gr [vP g,.int .i64 (m),.bool (b1)] 89,dI 142 lo hi g s1]:=by
 refine aM.aZ ajU ?_
 rw[cM]
 refine RW.aN (RL.ag (v:=vN) ai (RL.b6 (RL.ag (aj aef (hN.aJ 0 rfl)) ?_)))
 have qE:∃s1 b1 l1,cS j0 m 1 (s,(bd))=((s1,b1),l1):=⟨_,_,_,rfl⟩
 obtain⟨P7,FZ,l11,Bn⟩:=qE
 have I1:=(gJ Bn).1
 have Wd:=(gJ Bn).2
 dsimp only at I1 Wd
 refine RL.aK (cq ajT rfl rfl rfl rfl rfl ((yN lo hi g gr m (bd) s _ (hN.di (M:=[_,_]) [1,2] (by decide) rfl) (by omega) (by omega) (by omega) Bn).mono ?_))
 rintro v1 w1 cE
 replace hN:aI w _ w1 [_,_,_,_]:=aI.dh (M:=[_,_]) (N:=[_]) (hN.sb [1,2,0]) cE
 clear cE
 refine RL.ag (v:=v1) ai (RL.ak (RW.ret (bb (RV.tmp rfl) ?_)))
 have fO:=Bn.symm.trans e
 injection fO with Qw TU
 injection Qw with Qw Qv
 subst Qw TU Qv
 exact hN.sb [0,3,1,2]
theorem zA (lo hi g gr gb:Nat) (m:Int) (bd:Bool) (s:St) (w:World) (hN:aI w (b7 [.aJ gr [vP g,.int .i64 (m),.bool (bd)] 89,dI 142 lo hi g s]) w [.aJ gr [vP g,.int .i64 (m),.bool (bd)] 89,dI 142 lo hi g s]) (kD:0≤m) (jv:m≤1048576) (kN:s.1.length≤1048576):aM acx 103 #[vP gr,.func (.func 95) #[vP gr] #[]] w fun r w'=>∃hs,aI w (b7 [.aJ gr [vP g,.int .i64 (m),.bool (bd)] 89,dI 142 lo hi g s]) w' [.own vh 25 r hs,.eE vi hs (dV m (en m) (s,bd)).2,.aJ gr [vP g,.int .i64 (m),.bool ((dV m (en m) (s,bd)).1.2)] 89,dI 142 lo hi g ((dV m (en m) (s,bd)).1.1)]:=by
 refine aM.aZ ag6 ?_
 rw[cT]
 refine RW.aN (RL.ag (v:=vN) ai (RL.b6 (RL.ag (v:=vN) ai ?_)))
 replace hN:=hN.jX vi
 replace hN:=hN.dD vh 25
 replace hN:aI w _ w [.own vh 25 (vN) ([]),.eE vi ([]) ([]),.aJ gr [vP g,.int .i64 (m),.bool (bd)] 89,dI 142 lo hi g s]:=hN
 refine RL.b6 (RL.ag (v:=vP gr) U ?_)
 have qE:∃s1 b1 n1,fD m (s,(bd))=((s1,b1),n1):=⟨_,_,_,rfl⟩
 obtain⟨P7,FZ,Ha,Bn⟩:=qE
 have Wb:=tP (by omega) Bn
 have I1:=qs Bn
 dsimp only at I1
 refine RL.aK (bo aij rfl rfl rfl ((Dn lo hi g gr m (bd) s _ (hN.di (M:=[_,_]) [2,3] (by decide) rfl) (by omega) (by omega) (by omega) Bn).mono ?_))
 rintro _ w1 ⟨rfl,cE⟩
 replace hN:aI w _ w1 [_,_,_,_]:=aI.dh (M:=[_,_]) (N:=[_,_]) (hN.sb [2,3,0,1]) cE
 clear cE
 refine RL.ag (v:=vJ Ha) ai (RL.ak (RW.seq (RW.block ?_)))
 refine RW.loop (fun k R0 cz=>∃j:Nat,∃st:St,∃b:Bool,∃ls:List (List Int),∃vo:Value,∃hs:List Hd,R0 0=vP gr∧R0 1=.func (.func 95) #[vP gr] #[]∧R0 5=vo∧R0 6=vJ j∧aI w (b7 [.aJ gr [vP g,.int .i64 (m),.bool (bd)] 89,dI 142 lo hi g s]) cz [.aJ gr [vP g,.int .i64 (m),.bool (b)] 89,dI 142 lo hi g st,.own vh 25 (vo) (hs),.eE vi (hs) (ls)]∧(j=k)∧(oQ (en m) Ha (P7,FZ)=((oQ (en m) j (st,b)).1,ls++(oQ (en m) j (st,b)).2))∧(st.1.length≤1048576)∧(hs.length+j=Ha)) (Ha) ?_ ?_
 exact⟨Ha,P7,FZ,[],vN,[],rfl,rfl,rfl,rfl,hN,rfl,rfl,by omega,aeQ _⟩
 clear hN
 rintro k R0 cz ⟨j,st,b,ls,vo,hs,cH,bP,cx,cW,hN,E1,Ld,uc,hhj⟩
 have cB:=jd cH bP cx cW
 obtain⟨gF,rfl⟩:=cB
 clear cH bP cx cW
 iterate 2 refine RW.seq ?_
 refine RW.region (RL.ag (v:=vJ j) U (RL.ag (cr) (RL.ag (v:=.bool (decide (0<(j:Int)))) U ?_)))
 by_cases OH:0<(j:Int)
 rw[decide_eq_true OH]
 refine RL.an (v:=vP gr) U (RL.an (bM) (RL.an (ah adx rfl D8) (RL.an (aj ad3 (hN.aJ 0 rfl)) ?_)))
 refine RL.ed (bo afq rfl rfl rfl ((gA _ _ _ st _ (dI.says hN 1 rfl)).mono ?_))
 rintro _ _ ⟨rfl,rfl⟩
 refine RL.an (bZ) (RL.ag (v:=.bool (decide (st.2=0))) (al) (RL.ak ?_))
 refine RW.aG _ (fun xj=>?_) (fun xj=>?_)
 refine RW.skip (aw (RW.seq (RW.block (RW.region (RL.ag (v:=vo) U (RL.ag (v:=.func (.func 95) #[vP gr] #[]) U ?_))))))
 refine RL.aK (wS (_u:=.tmp 0) (_w:=undef) (first:=#[vP gr]) (captured:=#[]) (args:=#[vP gr]) ae8 rfl rfl (by simp) rfl ((iQ lo hi g gr m (b) st _ (hN.di (M:=[_,_]) [0,1] (by decide) rfl) (by omega) (by omega) (by omega)).mono ?_))
 rintro v3 w3 cE
 replace hN:aI w _ w3 [_,_,_,_,_]:=aI.dh (M:=[_,_]) (N:=[_,_]) (hN.sb [0,1,2,3]) cE
 clear cE
 have aO:=(hN.sl 0 rfl).hd
 obtain⟨h5,fO⟩:=aO
 subst fO
 refine RL.aK (cw (enc:=vh) (l:=[h5]) (xs:=[.tmp 23]) acJ cj zf rfl rfl (fun _=>rfl) rfl (by decide) (by decide) hN ?_)
 clear hN
 intro g4 w4 (hN:aI w _ w4 [_,_,_,_,_,_])
 replace hN:aI w _ w4 [_,_,_,_,_]:=aI.kW (L:=[_,_,_,_,_]) (hN.sb [1,0,2,3,4,5]) 4 rfl
 refine RL.aK (b9 acJ tW rfl kg hN 3 rfl rfl (hN.sl 0 rfl) rfl (by(try simp only[acw,ac5,adq,acN,acF,acC,ac7,acw,ac4]);omega) (by decide) ?_)
 clear hN
 intro v6 w6 (hN:aI w _ w6 [_,_,_,_,_])
 refine RL.ag (v:=v6) ai (RL.nil (aY (aw (RW.region (RL.ag (v:=vJ j) U (RL.ag (aD rfl rfl rfl (show arith .sub .i64 (j:Int) 1=((j-1:Nat):Int)from(pg (by omega) (by omega)).trans (by omega))) (RL.ag (v:=.int .i64 (((j-1:Nat):Int))) ai (RL.ak ?_))))))))
 exact⟨k-1,by omega,j-1,(de st m).1,(b),ls++[(de st m).2],v6,hs++[h5],rfl,rfl,rfl,rfl,(hN.sb [1,2,3,4]),by omega,Jd Ld (by omega) xj rfl,acR (eT st m) uc,by simp only[acw,acC];omega⟩
 refine RW.exit ?_
 iterate 2 refine bS ?_
 refine ba (aw (RW.aN (RL.ag (v:=vo) U (RL.ag (v:=vo) ai (RL.ak (RW.ret (bb (RV.tmp rfl) ?_)))))))
 have fO:=pn Bn (sF Ld (.inr xj))
 rw[fO]
 exact⟨_,hN.sb [2,3,0,1]⟩
 rw[decide_eq_false OH]
 iterate 6 refine RL.bH ?_
 refine RL.ag (v:=.bool false) (aB) (RL.ak (RW.cg (RW.exit ?_)))
 iterate 2 refine bS ?_
 refine ba (aw (RW.aN (RL.ag (v:=vo) U (RL.ag (v:=vo) ai (RL.ak (RW.ret (bb (RV.tmp rfl) ?_)))))))
 have fO:=pn Bn (sF Ld (.inl (by omega)))
 rw[fO]
 exact⟨_,hN.sb [2,3,0,1]⟩
theorem zx (lo hi g gr gb:Nat) (m:Int) (bd:Bool) (s:St) (w:World) (hN:aI w (b7 [.aJ gb [vP gr] 82,.aJ gr [vP g,.int .i64 (m),.bool (bd)] 89,dI 142 lo hi g s]) w [.aJ gb [vP gr] 82,.aJ gr [vP g,.int .i64 (m),.bool (bd)] 89,dI 142 lo hi g s]) (kD:0≤m) (jv:m≤1048576) (kN:s.1.length≤1048576):aM acx 104 #[vP gr,.func (.func 100) #[] #[vP gb]] w fun r w'=>∃hs,aI w (b7 [.aJ gb [vP gr] 82,.aJ gr [vP g,.int .i64 (m),.bool (bd)] 89,dI 142 lo hi g s]) w' [.own vh 118 r hs,.ez bG hs (dV m (cS j0 m 1) (s,bd)).2,.aJ gb [vP gr] 82,.aJ gr [vP g,.int .i64 (m),.bool ((dV m (cS j0 m 1) (s,bd)).1.2)] 89,dI 142 lo hi g ((dV m (cS j0 m 1) (s,bd)).1.1)]:=by
 refine aM.aZ aik ?_
 rw[cT]
 refine RW.aN (RL.ag (v:=vN) ai (RL.b6 (RL.ag (v:=vN) ai ?_)))
 replace hN:=hN.yF bG
 replace hN:=hN.dD vh 118
 replace hN:aI w _ w [.own vh 118 (vN) ([]),.ez bG ([]) ([]),.aJ gb [vP gr] 82,.aJ gr [vP g,.int .i64 (m),.bool (bd)] 89,dI 142 lo hi g s]:=hN
 refine RL.b6 (RL.ag (v:=vP gr) U ?_)
 have qE:∃s1 b1 n1,fD m (s,(bd))=((s1,b1),n1):=⟨_,_,_,rfl⟩
 obtain⟨P7,FZ,Ha,Bn⟩:=qE
 have Wb:=tP (by omega) Bn
 have I1:=qs Bn
 dsimp only at I1
 refine RL.aK (bo aij rfl rfl rfl ((Dn lo hi g gr m (bd) s _ (hN.di (M:=[_,_]) [3,4] (by decide) rfl) (by omega) (by omega) (by omega) Bn).mono ?_))
 rintro _ w1 ⟨rfl,cE⟩
 replace hN:aI w _ w1 [_,_,_,_,_]:=aI.dh (M:=[_,_]) (N:=[_,_,_]) (hN.sb [3,4,0,1,2]) cE
 clear cE
 refine RL.ag (v:=vJ Ha) ai (RL.ak (RW.seq (RW.block ?_)))
 refine RW.loop (fun k R0 cz=>∃j:Nat,∃st:St,∃b:Bool,∃ls:List (List I2),∃vo:Value,∃hs:List Hd,R0 0=vP gr∧R0 1=.func (.func 100) #[] #[vP gb]∧R0 5=vo∧R0 6=vJ j∧aI w (b7 [.aJ gb [vP gr] 82,.aJ gr [vP g,.int .i64 (m),.bool (bd)] 89,dI 142 lo hi g s]) cz [.aJ gr [vP g,.int .i64 (m),.bool (b)] 89,dI 142 lo hi g st,.own vh 118 (vo) (hs),.ez bG (hs) (ls),.aJ gb [vP gr] 82]∧(j=k)∧(oQ (cS j0 m 1) Ha (P7,FZ)=((oQ (cS j0 m 1) j (st,b)).1,ls++(oQ (cS j0 m 1) j (st,b)).2))∧(st.1.length≤1048576)∧(hs.length+j=Ha)) (Ha) ?_ ?_
 exact⟨Ha,P7,FZ,[],vN,[],rfl,rfl,rfl,rfl,hN,rfl,rfl,by omega,aeQ _⟩
 clear hN
 rintro k R0 cz ⟨j,st,b,ls,vo,hs,cH,bP,cx,cW,hN,E1,Ld,uc,hhj⟩
 have cB:=jd cH bP cx cW
 obtain⟨gF,rfl⟩:=cB
 clear cH bP cx cW
 iterate 2 refine RW.seq ?_
 refine RW.region (RL.ag (v:=vJ j) U (RL.ag (cr) (RL.ag (v:=.bool (decide (0<(j:Int)))) U ?_)))
 by_cases OH:0<(j:Int)
 rw[decide_eq_true OH]
 refine RL.an (v:=vP gr) U (RL.an (bM) (RL.an (ah adx rfl D8) (RL.an (aj ad3 (hN.aJ 0 rfl)) ?_)))
 refine RL.ed (bo afq rfl rfl rfl ((gA _ _ _ st _ (dI.says hN 1 rfl)).mono ?_))
 rintro _ _ ⟨rfl,rfl⟩
 refine RL.an (bZ) (RL.ag (v:=.bool (decide (st.2=0))) (al) (RL.ak ?_))
 refine RW.aG _ (fun xj=>?_) (fun xj=>?_)
 refine RW.skip (aw (RW.seq (RW.block (RW.region (RL.ag (v:=vo) U (RL.ag (v:=.func (.func 100) #[] #[vP gb]) U ?_))))))
 have qE:∃s1 b1 l1,cS j0 m 1 (st,(b))=((s1,b1),l1):=⟨_,_,_,rfl⟩
 obtain⟨WZ,YC,W7,Lt⟩:=qE
 have Pe:=(gJ Lt).1
 have Pf:=(gJ Lt).2
 dsimp only at Pe Pf
 refine RL.aK (wS (_u:=.tmp 0) (_w:=undef) (first:=#[]) (captured:=#[vP gb]) (args:=#[vP gb]) ajU rfl rfl (by simp) rfl ((En lo hi g gr gb m (b) st _ (hN.di (M:=[_,_,_]) [4,0,1] (by decide) rfl) (by omega) (by omega) (by omega) Lt).mono ?_))
 rintro v3 w3 cE
 replace hN:aI w _ w3 [_,_,_,_,_,_]:=aI.dh (M:=[_,_,_]) (N:=[_,_]) (hN.sb [4,0,1,2,3]) cE
 clear cE
 have aO:=(hN.sm 0 rfl).hd
 obtain⟨h5,fO⟩:=aO
 subst fO
 refine RL.aK (cw (enc:=vh) (l:=[h5]) (xs:=[.tmp 23]) ac0 lr F0 rfl rfl (fun _=>rfl) rfl (by decide) (by decide) hN ?_)
 clear hN
 intro g4 w4 (hN:aI w _ w4 [_,_,_,_,_,_,_])
 replace hN:aI w _ w4 [_,_,_,_,_,_]:=aI.uN (L:=[_,_,_,_,_,_]) (hN.sb [1,0,2,3,4,5,6]) 5 rfl
 refine RL.aK (b9 ac0 Ci rfl kg hN 4 rfl rfl (hN.sl 0 rfl) rfl (by(try simp only[acw,ac5,adq,acN,acF,acC,ac7,acw,ac4]);omega) (by decide) ?_)
 clear hN
 intro v6 w6 (hN:aI w _ w6 [_,_,_,_,_,_])
 refine RL.ag (v:=v6) ai (RL.nil (aY (aw (RW.region (RL.ag (v:=vJ j) U (RL.ag (aD rfl rfl rfl (show arith .sub .i64 (j:Int) 1=((j-1:Nat):Int)from(pg (by omega) (by omega)).trans (by omega))) (RL.ag (v:=.int .i64 (((j-1:Nat):Int))) ai (RL.ak ?_))))))))
 exact⟨k-1,by omega,j-1,WZ,(YC),ls++[W7],v6,hs++[h5],rfl,rfl,rfl,rfl,(hN.sb [2,3,4,5,1]),by omega,Jd Ld (by omega) xj Lt,by omega,by simp only[acw,acC];omega⟩
 refine RW.exit ?_
 iterate 2 refine bS ?_
 refine ba (aw (RW.aN (RL.ag (v:=vo) U (RL.ag (v:=vo) ai (RL.ak (RW.ret (bb (RV.tmp rfl) ?_)))))))
 have fO:=pn Bn (sF Ld (.inr xj))
 rw[fO]
 exact⟨_,hN.sb [2,3,4,0,1]⟩
 rw[decide_eq_false OH]
 iterate 6 refine RL.bH ?_
 refine RL.ag (v:=.bool false) (aB) (RL.ak (RW.cg (RW.exit ?_)))
 iterate 2 refine bS ?_
 refine ba (aw (RW.aN (RL.ag (v:=vo) U (RL.ag (v:=vo) ai (RL.ak (RW.ret (bb (RV.tmp rfl) ?_)))))))
 have fO:=pn Bn (sF Ld (.inl (by omega)))
 rw[fO]
 exact⟨_,hN.sb [2,3,4,0,1]⟩
end Go.Proofs.YtngkdkbpgoddlaaGreat
namespace Go.Proofs.YtngkdkbpgoddlaaGreat
open Go.RowKit Go.Rl
open Go.Gr Go.dn Go.jJ
theorem tn (lo hi g gr gb:Nat) (m:Int) (bd:Bool) (s:St) (w:World) (hN:aI w (b7 [.aJ gr [vP g,.int .i64 (m),.bool (bd)] 89,dI 142 lo hi g s]) w [.aJ gr [vP g,.int .i64 (m),.bool (bd)] 89,dI 142 lo hi g s]) (kD:0≤m) (jv:m≤1048576) (kN:s.1.length≤1048576) {s1:St} {b1:Bool} {l1:List (List Int)} (e:dV m (en m) (s,bd)=((s1,b1),l1)):aM acx 103 #[vP gr,.func (.func 95) #[vP gr] #[]] w fun r w'=>∃hs,aI w (b7 [.aJ gr [vP g,.int .i64 (m),.bool (bd)] 89,dI 142 lo hi g s]) w' [.own vh 25 r hs,.eE vi hs l1,.aJ gr [vP g,.int .i64 (m),.bool (b1)] 89,dI 142 lo hi g s1]:=
  (zA lo hi g gr gb m bd s w hN kD jv kN).mono fun _ _ h=>by rw[e]at h;exact h
theorem zy (lo hi g gr gb:Nat) (m:Int) (bd:Bool) (s:St) (w:World) (hN:aI w (b7 [.aJ gb [vP gr] 82,.aJ gr [vP g,.int .i64 (m),.bool (bd)] 89,dI 142 lo hi g s]) w [.aJ gb [vP gr] 82,.aJ gr [vP g,.int .i64 (m),.bool (bd)] 89,dI 142 lo hi g s]) (kD:0≤m) (jv:m≤1048576) (kN:s.1.length≤1048576) {s1:St} {b1:Bool} {l1:List (List I2)} (e:dV m (cS j0 m 1) (s,bd)=((s1,b1),l1)):aM acx 104 #[vP gr,.func (.func 100) #[] #[vP gb]] w fun r w'=>∃hs,aI w (b7 [.aJ gb [vP gr] 82,.aJ gr [vP g,.int .i64 (m),.bool (bd)] 89,dI 142 lo hi g s]) w' [.own vh 118 r hs,.ez bG hs l1,.aJ gb [vP gr] 82,.aJ gr [vP g,.int .i64 (m),.bool (b1)] 89,dI 142 lo hi g s1]:=
  (zx lo hi g gr gb m bd s w hN kD jv kN).mono fun _ _ h=>by rw[e]at h;exact h
theorem vC (lo hi g gr:Nat) (m:Int) (bd:Bool) (s:St) (w:World) (hN:aI w (b7 [.aJ gr [vP g,.int .i64 (m),.bool (bd)] 89,dI 142 lo hi g s]) w [.aJ gr [vP g,.int .i64 (m),.bool (bd)] 89,dI 142 lo hi g s]) (kD:0≤m) (jv:m≤1048576) (kN:s.1.length≤1048576):aM acx 42 #[vP gr] w fun r w'=>∃v,r=.agg #[.int .i64 (mW m (s,bd)).2.1,v]∧aI w (b7 [.aJ gr [vP g,.int .i64 (m),.bool (bd)] 89,dI 142 lo hi g s]) w' [.cp bJ 3 100 v (mW m (s,bd)).2.2,.aJ gr [vP g,.int .i64 (m),.bool ((mW m (s,bd)).1.2)] 89,dI 142 lo hi g ((mW m (s,bd)).1.1)]:=by
 refine aM.aZ Tryz.func42 ?_
 rw[cM]
 refine RW.aN ?_
 refine RL.aK (bz (cs:=[.int .i64 (0),vN]) oA rfl hN ?_)
 clear hN
 intro g1 w1 (hN:aI w _ w1 [_,_,_])
 refine RL.b6 (RL.ag (v:=vP gr) U ?_)
 refine RL.aK (bo ae8 rfl rfl rfl ((iQ lo hi g gr m (bd) s _ (hN.di (M:=[_,_]) [1,2] (by decide) rfl) (by omega) (by omega) (by omega)).mono ?_))
 rintro v2 w2 cE
 replace hN:aI w _ w2 [_,_,_,_]:=aI.dh (M:=[_,_]) (N:=[_]) (hN.sb [1,2,0]) cE
 clear cE
 refine RL.ag (v:=v2) ai (RL.ak ?_)
 iterate 2 refine RW.seq ?_
 refine RW.region (RL.ag (v:=v2) U ?_)
 have k9:=(hN.sl 0 rfl).bw
 refine RL.ag (aQ acu (hN.sl 0 rfl)) (RL.ag (bj) (RL.ak ?_))
 refine RW.aG _ (fun K8=>?_) (fun K8=>?_)
 refine RW.aN (RL.ag (v:=vP gr) U (RL.ag (bM) (RL.ag (ah adx rfl oE) ?_)))
 refine RL.aK (ca oE rfl rfl rfl rfl hN 1 rfl (acv rfl) ?_)
 clear hN
 intro w4 (hN:aI w _ w4 [_,_,_,_])
 refine RL.b6 (RL.ag (bT (cs:=[.int .i64 (0),vN]) acI oA (places:=#[(0,1),(1,1)]) (by intro w;kernel_rfl) (pl:=[]) rfl (ps:=[]) rfl (zc:=[.int .i64 (0),vN]) rfl rfl) ?_)
 refine RL.aK (aR (vs:=[.int .i64 (0),vN]) dN rfl rfl rfl (aW (aW cZ)) hN 3 rfl rfl ?_)
 clear hN
 intro w5 (hN:aI w _ w5 [_,_,_,_])
 refine RL.ak (RW.ret (aT (bb (RV.cell rfl rfl (hN.aJ 3 rfl) acI rfl dN) ?_)))
 rw[Hh (by omega)]
 replace hN:=hN.eK bJ 3 100
 exact⟨_,rfl,hN.sb [0,2,3]⟩
 refine RW.skip (aw (RW.seq ?_))
 replace hN:=hN.ext (Ext.drew w2)
 refine RW.bD (fun u=>aI w (b7 [.aJ gr [vP g,.int .i64 (m),.bool (bd)] 89,dI 142 lo hi g s]) u [.own vi 3 (v2) ((de s m).2)]) 7 [(0,0),(1,0),(2,0),(3,0),(4,1),(5,1),(6,1)] (by intro _ _ _ h;exact h) (hN.sb [0]) (RQ.aA (v:=v2) rfl (fun w hS=>U) (RQ.aA rfl (fun w hS=>(aC acu bK (hS.sl 0 rfl))) ?_))
 have aO:=da ((de s m).2) 0
 obtain⟨ap,bX⟩:=aO
 refine RQ.aA rfl (fun w hS=>(aF (m:=0) (a:=ap) acs (hS.sl 0 rfl) bX)) (RQ.aA (v:=vP gr) rfl (fun w hS=>U) ?_)
 have qE:∃s1 b1 l1,cS pr m 2 ((de s m).1,(bd))=((s1,b1),l1):=⟨_,_,_,rfl⟩
 obtain⟨P6,Qz,Za,MX⟩:=qE
 have Lr:=(gJ MX).1
 have Wc:=(gJ MX).2
 dsimp only at Lr Wc
 refine RQ.b0 rfl (cq Tryz.func96 rfl rfl rfl rfl rfl ((CS lo hi g gr m (bd) ((de s m).1) _ (hN.di (M:=[_,_]) [1,2] (by decide) rfl) (by omega) (by omega) (by have:=eT s m;omega) MX).mono ?_))
 rintro v6 w6 cE
 replace hN:aI w _ w6 [_,_,_,_,_]:=aI.dh (M:=[_,_]) (N:=[_,_]) (hN.sb [1,2,0,3]) cE
 clear cE
 refine⟨(hN.sb [3]),?_⟩
 refine RQ.b0 rfl (eL.ev (bT (cs:=[.int .i64 (ap),v6]) acI oA (places:=#[(0,1),(1,1)]) (by intro w;kernel_rfl) (pl:=[(0,.tmp 15),(1,.tmp 17)]) rfl (ps:=[(0,.int .i64 (ap)),(1,v6)]) rfl (zc:=[.int .i64 (0),vN]) rfl (aP (vs:=[.int .i64 (ap)]) rfl rfl (acv rfl) (aP (vs:=[v6]) (hN.sm 0 rfl).cN rfl (acv rfl) rfl))) ⟨(hN.sb [3]),?_⟩)
 refine RQ.b0 rfl (aR (vs:=[.int .i64 (ap),v6]) dN rfl rfl rfl (by intro u hu;simp only[ac1,acV,or_false]at hu;rcases hu with rfl|rfl<;>first|rfl|exact(hN.sm 0 rfl).bW) hN 4 rfl rfl ?_)
 clear hN
 intro w7 (hN:aI w _ w7 [_,_,_,_,_])
 refine⟨(hN.sb [3]),?_⟩
 refine RQ.bq (aw (RW.ret (bb (RV.cell rfl rfl (hN.aJ 4 rfl) acI rfl dN) ?_)))
 rw[KP (by omega) bX MX]
 exact⟨_,rfl,hN.sb [0,1,2]⟩
theorem tB (lo hi g gr:Nat) (m:Int) (bd:Bool) (s:St) (w:World) (hN:aI w (b7 [.aJ gr [vP g,.int .i64 (m),.bool (bd)] 89,dI 142 lo hi g s]) w [.aJ gr [vP g,.int .i64 (m),.bool (bd)] 89,dI 142 lo hi g s]) (kD:0≤m) (jv:m≤1048576) (kN:s.1.length≤1048576):aM acx 43 #[vP gr] w fun r w'=>∃rv wv,r=.agg #[rv,wv]∧aI w (b7 [.aJ gr [vP g,.int .i64 (m),.bool (bd)] 89,dI 142 lo hi g s]) w' [.own vI 3 rv (j1 m (s,bd)).2.1,.cp aV 5 98 wv (j1 m (s,bd)).2.2,.aJ gr [vP g,.int .i64 (m),.bool ((j1 m (s,bd)).1.2)] 89,dI 142 lo hi g ((j1 m (s,bd)).1.1)]:=by
 refine aM.aZ Tryz.func43 ?_
 rw[cM]
 refine RW.aN ?_
 refine RL.aK (bz (cs:=[vN,vN]) oz rfl hN ?_)
 clear hN
 intro g1 w1 (hN:aI w _ w1 [_,_,_])
 refine RL.b6 (RL.ag (v:=vP gr) U ?_)
 refine RL.aK (bo ae8 rfl rfl rfl ((iQ lo hi g gr m (bd) s _ (hN.di (M:=[_,_]) [1,2] (by decide) rfl) (by omega) (by omega) (by omega)).mono ?_))
 rintro v2 w2 cE
 replace hN:aI w _ w2 [_,_,_,_]:=aI.dh (M:=[_,_]) (N:=[_]) (hN.sb [1,2,0]) cE
 clear cE
 refine RL.ag (v:=vP gr) U ?_
 have qE:∃s1 b1 l1,cS mc m 4 ((de s m).1,(bd))=((s1,b1),l1):=⟨_,_,_,rfl⟩
 obtain⟨WZ,YC,W7,Lt⟩:=qE
 have Pe:=(gJ Lt).1
 have Pf:=(gJ Lt).2
 dsimp only at Pe Pf
 refine RL.aK (cq Tryz.func98 rfl rfl rfl rfl rfl ((yM lo hi g gr m (bd) ((de s m).1) _ (hN.di (M:=[_,_]) [1,2] (by decide) rfl) (by omega) (by omega) (by have:=eT s m;omega) Lt).mono ?_))
 rintro v3 w3 cE
 replace hN:aI w _ w3 [_,_,_,_,_]:=aI.dh (M:=[_,_]) (N:=[_,_]) (hN.sb [1,2,0,3]) cE
 clear cE
 refine RL.ag (bT (cs:=[v2,v3]) acz oz (places:=#[(0,1),(1,1)]) (by intro w;kernel_rfl) (pl:=[(0,.tmp 4),(1,.tmp 6)]) rfl (ps:=[(0,v2),(1,v3)]) rfl (zc:=[vN,vN]) rfl (aP (vs:=[v2]) (hN.sl 3 rfl).cN rfl (acv rfl) (aP (vs:=[v3]) (hN.sm 0 rfl).cN rfl (acv rfl) rfl))) ?_
 refine RL.aK (aR (vs:=[v2,v3]) dy rfl rfl rfl (by intro u hu;simp only[ac1,acV,or_false]at hu;rcases hu with rfl|rfl<;>first|rfl|exact(hN.sl 3 rfl).bW|exact(hN.sm 0 rfl).bW) hN 4 rfl rfl ?_)
 clear hN
 intro w4 (hN:aI w _ w4 [_,_,_,_,_])
 refine RL.ak (RW.ret (bb (RV.cell rfl rfl (hN.aJ 4 rfl) acz rfl dy) ?_))
 rw[HY Lt]
 exact⟨_,_,rfl,hN.sb [3,0,1,2]⟩
theorem qn (lo hi g gr:Nat) (m:Int) (bd:Bool) (s:St) (w:World) (hN:aI w (b7 [.aJ gr [vP g,.int .i64 (m),.bool (bd)] 89,dI 142 lo hi g s]) w [.aJ gr [vP g,.int .i64 (m),.bool (bd)] 89,dI 142 lo hi g s]) (kD:0≤m) (jv:m≤1048576) (kN:s.1.length≤1048576):aM acx 44 #[vP gr] w fun r w'=>∃gv fv ov iv db dc hf ho iy gV gQ,r=.agg #[gv,fv,ov,iv,db,dc]∧aI w (b7 [.aJ gr [vP g,.int .i64 (m),.bool (bd)] 89,dI 142 lo hi g s]) w' [.own vI 3 gv (iL m (s,bd)).2.1,.own vh 25 fv hf,.eE vI hf (iL m (s,bd)).2.2.1,.own vh 118 ov ho,.ez bG ho (iL m (s,bd)).2.2.2.1,.own vh 118 iv iy,.ez bG iy (iL m (s,bd)).2.2.2.2.1,.own vh 25 db gV,.eE vI gV (iL m (s,bd)).2.2.2.2.2.1,.own vh 25 dc gQ,.eE vI gQ (iL m (s,bd)).2.2.2.2.2.2,.aJ gr [vP g,.int .i64 (m),.bool ((iL m (s,bd)).1.2)] 89,dI 142 lo hi g ((iL m (s,bd)).1.1)]:=by
 refine aM.aZ Tryz.func44 ?_
 rw[cM]
 refine RW.aN ?_
 refine RL.aK (bL (cs:=[vP gr]) rfl rfl hN ?_)
 clear hN
 intro g1 w1 (hN:aI w _ w1 [_,_,_])
 refine RL.aK (bz (cs:=[vN,vN,vN,vN,vN,vN]) qb rfl hN ?_)
 clear hN
 intro g2 w2 (hN:aI w _ w2 [_,_,_,_])
 refine RL.b6 (RL.ag (dP (vs:=[vP g1]) (xs:=[.tmp 1]) rfl rfl) (RL.ag (v:=.func (.func 100) #[] #[vP g1]) ai (RL.ak (RW.aN ?_))))
 refine RL.ag (aj aef (hN.aJ 1 rfl)) ?_
 refine RL.aK (bo ae8 rfl rfl rfl ((iQ lo hi g gr m (bd) s _ (hN.di (M:=[_,_]) [2,3] (by decide) rfl) (by omega) (by omega) (by omega)).mono ?_))
 rintro v3 w3 cE
 replace hN:aI w _ w3 [_,_,_,_,_]:=aI.dh (M:=[_,_]) (N:=[_,_]) (hN.sb [2,3,0,1]) cE
 clear cE
 have ZE:=eT s m
 refine RL.ag (bT (cs:=[v3,vN,vN,vN,vN,vN]) acK qb (places:=#[(0,1),(1,1),(2,1),(3,1),(4,1),(5,1)]) (by intro w;kernel_rfl) (pl:=[(0,.tmp 7)]) rfl (ps:=[(0,v3)]) rfl (zc:=[vN,vN,vN,vN,vN,vN]) rfl (aP (vs:=[v3]) (hN.sl 0 rfl).cN rfl (acv rfl) rfl)) ?_
 refine RL.aK (bz (cs:=[vN,vN,vN,vN,vN,vN]) qb rfl hN ?_)
 clear hN
 intro g4 w4 (hN:aI w _ w4 [_,_,_,_,_,_])
 refine RL.aK (aR (vs:=[v3,vN,vN,vN,vN,vN]) iD rfl rfl rfl (by intro u hu;simp only[ac1,acV,or_false]at hu;rcases hu with rfl|rfl|rfl|rfl|rfl|rfl<;>first|rfl|exact(hN.sl 1 rfl).bW) hN 0 rfl rfl ?_)
 clear hN
 intro w5 (hN:aI w _ w5 [_,_,_,_,_,_])
 refine RL.ak (RW.aN ?_)
 iterate 2 refine RL.ag (aj aef (hN.aJ 5 rfl)) ?_
 refine RL.ag (mu (vs:=[vP gr]) (xs:=[.tmp 10]) rfl rfl) ?_
 have qE:∃s1 b1 l1,dV m (en m) ((de s m).1,(bd))=((s1,b1),l1):=⟨_,_,_,rfl⟩
 obtain⟨P6,Qz,Za,MX⟩:=qE
 have Lr:=(gI (p:=adg) (by omega) (gU m) (iR m) ((de s m).1,(bd))).1
 rw[MX]at Lr
 dsimp only at Lr
 refine RL.aK (bu ag6 rfl rfl rfl rfl ((tn lo hi g gr 0 m (bd) ((de s m).1) _ (hN.di (M:=[_,_]) [2,3] (by decide) rfl) (by omega) (by omega) (by have:=eT s m;omega) MX).mono ?_))
 rintro v6 w6 ⟨hs6,cE⟩
 replace hN:aI w _ w6 [_,_,_,_,_,_,_,_]:=aI.dh (M:=[_,_]) (N:=[_,_,_,_]) (hN.sb [2,3,0,1,4,5]) cE
 clear cE
 refine RL.ag (ah acK rfl fP) ?_
 refine RL.aK (ca fP rfl rfl (hN.sl 0 rfl).cN (hN.sl 0 rfl).bW hN 4 rfl (acv rfl) ?_)
 clear hN
 intro w7 (hN:aI w _ w7 [_,_,_,_,_,_,_,_])
 refine RL.b6 (RL.ag (aj aef (hN.aJ 7 rfl)) (RL.ag (v:=.func (.func 100) #[] #[vP g1]) U ?_))
 have qE:∃s1 b1 l1,dV m (cS j0 m 1) (P6,(Qz))=((s1,b1),l1):=⟨_,_,_,rfl⟩
 obtain⟨JO,JC,l18,Fa⟩:=qE
 have S3:=(gI (p:=adg) (by omega) (mE j0 m 1) (jC j0 m 1) (P6,(Qz))).1
 rw[Fa]at S3
 dsimp only at S3
 refine RL.aK (bu aik rfl rfl rfl rfl ((zy lo hi g gr g1 m (Qz) P6 _ (hN.di (M:=[_,_,_]) [7,2,3] (by decide) rfl) (by omega) (by omega) (by omega) Fa).mono ?_))
 rintro v8 w8 ⟨hs8,cE⟩
 replace hN:aI w _ w8 [_,_,_,_,_,_,_,_,_,_]:=aI.dh (M:=[_,_,_]) (N:=[_,_,_,_,_]) (hN.sb [7,2,3,0,1,4,5,6]) cE
 clear cE
 refine RL.ag (ah acK rfl jf) ?_
 refine RL.aK (ca jf rfl rfl (hN.sl 0 rfl).cN (hN.sl 0 rfl).bW hN 7 rfl (acv rfl) ?_)
 clear hN
 intro w9 (hN:aI w _ w9 [_,_,_,_,_,_,_,_,_,_])
 refine RL.b6 (RL.ag (aj aef (hN.aJ 2 rfl)) (RL.ag (v:=.func (.func 100) #[] #[vP g1]) U ?_))
 have qE:∃s1 b1 l1,dV m (cS j0 m 1) (JO,(JC))=((s1,b1),l1):=⟨_,_,_,rfl⟩
 obtain⟨xJ,Bd,Zd,qF⟩:=qE
 have MW:=(gI (p:=adg) (by omega) (mE j0 m 1) (jC j0 m 1) (JO,(JC))).1
 rw[qF]at MW
 dsimp only at MW
 refine RL.aK (bu aik rfl rfl rfl rfl ((zy lo hi g gr g1 m (JC) JO _ (hN.di (M:=[_,_,_]) [2,3,4] (by decide) rfl) (by omega) (by omega) (by omega) qF).mono ?_))
 rintro v10 lW ⟨vQ,cE⟩
 replace hN:aI w _ lW [_,_,_,_,_,_,_,_,_,_,_,_]:=aI.dh (M:=[_,_,_]) (N:=[_,_,_,_,_,_,_]) (hN.sb [2,3,4,0,1,5,6,7,8,9]) cE
 clear cE
 refine RL.ag (ah acK rfl jf) ?_
 refine RL.aK (ca jf rfl rfl (hN.sl 0 rfl).cN (hN.sl 0 rfl).bW hN 9 rfl (acv rfl) ?_)
 clear hN
 intro lR (hN:aI w _ lR [_,_,_,_,_,_,_,_,_,_,_,_])
 refine RL.ak (RW.aN ?_)
 iterate 2 refine RL.ag (aj aef (hN.aJ 2 rfl)) ?_
 refine RL.ag (mu (vs:=[vP gr]) (xs:=[.tmp 23]) rfl rfl) ?_
 have qE:∃s1 b1 l1,dV m (en m) (xJ,(Bd))=((s1,b1),l1):=⟨_,_,_,rfl⟩
 obtain⟨NH,PM,Zc,Ph⟩:=qE
 have MV:=(gI (p:=adg) (by omega) (gU m) (iR m) (xJ,(Bd))).1
 rw[Ph]at MV
 dsimp only at MV
 refine RL.aK (bu ag6 rfl rfl rfl rfl ((tn lo hi g gr 0 m (Bd) xJ _ (hN.di (M:=[_,_]) [3,4] (by decide) rfl) (by omega) (by omega) (by omega) Ph).mono ?_))
 rintro mV ll ⟨qx,cE⟩
 replace hN:aI w _ ll [_,_,_,_,_,_,_,_,_,_,_,_,_,_]:=aI.dh (M:=[_,_]) (N:=[_,_,_,_,_,_,_,_,_,_]) (hN.sb [3,4,0,1,2,5,6,7,8,9,10,11]) cE
 clear cE
 refine RL.ag (ah acK rfl fP) ?_
 refine RL.aK (ca fP rfl rfl (hN.sl 0 rfl).cN (hN.sl 0 rfl).bW hN 11 rfl (acv rfl) ?_)
 clear hN
 intro nR (hN:aI w _ nR [_,_,_,_,_,_,_,_,_,_,_,_,_,_])
 refine RL.ak (RW.aN ?_)
 iterate 2 refine RL.ag (aj aef (hN.aJ 6 rfl)) ?_
 refine RL.ag (mu (vs:=[vP gr]) (xs:=[.tmp 28]) rfl rfl) ?_
 have qE:∃s1 b1 l1,dV m (en m) (NH,(PM))=((s1,b1),l1):=⟨_,_,_,rfl⟩
 obtain⟨YW,abm,Zb,Pg⟩:=qE
 have MU:=(gI (p:=adg) (by omega) (gU m) (iR m) (NH,(PM))).1
 rw[Pg]at MU
 dsimp only at MU
 refine RL.aK (bu ag6 rfl rfl rfl rfl ((tn lo hi g gr 0 m (PM) NH _ (hN.di (M:=[_,_]) [2,3] (by decide) rfl) (by omega) (by omega) (by omega) Pg).mono ?_))
 rintro FK o7 ⟨ZD,cE⟩
 replace hN:aI w _ o7 [_,_,_,_,_,_,_,_,_,_,_,_,_,_,_,_]:=aI.dh (M:=[_,_]) (N:=[_,_,_,_,_,_,_,_,_,_,_,_]) (hN.sb [2,3,0,1,4,5,6,7,8,9,10,11,12,13]) cE
 clear cE
 refine RL.ag (ah acK rfl fP) ?_
 refine RL.aK (ca fP rfl rfl (hN.sl 0 rfl).cN (hN.sl 0 rfl).bW hN 13 rfl (acv rfl) ?_)
 clear hN
 intro qf (hN:aI w _ qf [_,_,_,_,_,_,_,_,_,_,_,_,_,_,_,_])
 refine RL.b6 (RL.ag (aE (cs:=[v3,v6,v8,v10,mV,FK]) acK iD (hN.aJ 13 rfl)) ?_)
 refine RL.aK (aR (vs:=[v3,v6,v8,v10,mV,FK]) iD rfl rfl rfl (by intro u hu;simp only[ac1,acV,or_false]at hu;rcases hu with rfl|rfl|rfl|rfl|rfl|rfl<;>first|rfl|exact(hN.sl 0 rfl).bW|exact(hN.sl 11 rfl).bW|exact(hN.sl 14 rfl).bW|exact(hN.sl 4 rfl).bW|exact(hN.sl 6 rfl).bW|exact(hN.sl 9 rfl).bW) hN 15 rfl rfl ?_)
 clear hN
 intro qe (hN:aI w _ qe [_,_,_,_,_,_,_,_,_,_,_,_,_,_,_,_])
 refine RL.ak (RW.ret (bb (RV.cell rfl rfl (hN.aJ 15 rfl) acK rfl iD) ?_))
 rw[Gn MX Fa qF Ph Pg]
 exact⟨_,_,_,_,_,_,_,_,_,_,_,rfl,hN.sb [14,11,12,9,10,6,7,4,5,0,1,2,3]⟩
end Go.Proofs.YtngkdkbpgoddlaaGreat
namespace Go.Gr
open Go.Rl
def uX (l:List Int):Prop:=∀(i:Nat) (x y:Int),l[i]?=some x→l[i+1]?=some y→x<y
theorem Kt {l:List Int} (h:uX l):∀(d i:Nat) (x y:Int),l[i]?=some x→l[i+1+d]?=some y→x<y:=by
  intro d
  induction d with
  |zero=>intro i x y hx hy;exact h i x y hx hy
  |succ d ih=>
    intro i x y hx hy
    have hl:=(acA.1 hy).1
    obtain⟨z,hz⟩:∃z,l[i+1+d]?=some z:=⟨_,acE (by omega)⟩
    have h1:=ih i x z hx hz
    have h2:=h (i+1+d) z y hz (by rw[show i+1+d+1=i+1+(d+1) by omega];exact hy)
    omega
theorem po {l:List Int} (h:uX l) {i j:Nat} {x y:Int} (hx:l[i]?=some x) (hy:l[j]?=some y) (oN:i<j):x<y:=
  Kt h (j-i-1) i x y hx (by rw[show i+1+(j-i-1)=j by omega];exact hy)
theorem JA {g:List Int} {v:Int} {p:Nat} (hR:uX g) (h:g[p]?=some v):kV (fun y=>y=v) g=(p:Int):=
  nH (fun y hy e=>by
    obtain⟨m,hm,he⟩:=ae7.1 hy
    have h1:=po hR (i:=m) (x:=y) (by rw[acE (by omega),he]) h (by omega)
    omega) h rfl
theorem LJ {g:List Int} {v:Int} {p:Nat} (hR:uX g) (mR:∀m x,m<p→g[m]?=some x→x<v) (nd:∀m x,p≤m→g[m]?=some x→v≤x) (h:¬g[p]?=some v):kV (fun y=>y=v) g= -1:=
  qI fun y hy e=>by
    subst e
    obtain⟨m,hm⟩:=ac9 hy
    rcases Nat.lt_trichotomy m p with q|q|q
    · have:=mR m y q hm;omega
    · subst q;exact h hm
    · have hl := (acA.1 hm).1
      obtain⟨z,hz⟩:∃z,g[p]?=some z:=⟨_,acE (by omega)⟩
      have h1:=nd p z (ac3 _) hz
      have h2:=po hR hz hm q
      omega
theorem Jj {g:List Int} {x:Int}:kV (fun y=>y=x) g<0↔x∉g:=by
  have:=@dq g x
  constructor
  · intro h hm;have:=this.2 hm;omega
  · intro h
    by_cases e:0≤kV (fun y=>y=x) g
    · exact absurd (this.1 e) h
    · omega
def uW {α:Type} (key:α→Int) (P:α→Prop) (l:List α):Prop:=(∀x∈l,P x)∧∀(i:Nat) (x y:α),l[i]?=some x→l[i+1]?=some y→key x<key y
def gL {α:Type} (key:α→Int) (P:α→Prop) (n:Int) (ls:List (List α)):Prop:=(ls.length:Int)=n∧∀r∈ls,uW key P r
noncomputable instance {α:Type} (key:α→Int) (P:α→Prop) (n:Int) (ls:List (List α)):Decidable (gL key P n ls):=adt _
theorem tx {α:Type} (key:α→Int) (P:α→Prop):uW key P []:=⟨fun x h=>absurd h (acV),fun i x y h=>by cases h⟩
theorem kd {α:Type} {key:α→Int} {P:α→Prop} {l:List α} {i:Nat} {x:α} (h:uW key P (l.take i)) (hx:l[i]?=some x) (h2:P x) (h3:∀y,0<i→l[i-1]?=some y→key y<key x):uW key P (l.take (i+1)):=by
  refine⟨fun y hy=>?_,fun j a b ha hb=>?_⟩
  · rw [dM hx, adl, ade] at hy
    rcases hy with hy|rfl
    · exact h.1 y hy
    · exact h2
  · rw [ad8] at ha hb
    split at ha
    · split at hb
      · by_cases hj : j + 1 < i
        · exact h.2 j a b (by rw[ad8,if_pos (by omega)];exact ha) (by rw[ad8,if_pos hj];exact hb)
        · have e : j + 1 = i := by omega
          subst e
          rw[hx]at hb;cases hb
          exact h3 a (by omega) (by simpa using ha)
      · cases hb
    · cases ha
theorem j5 {α:Type} {key:α→Int} {P:α→Prop} {l:List α} {i:Nat} {x y:α} (hx:l[i]?=some x) (hi:0<i) (hy:l[i-1]?=some y) (h:key x≤key y):¬uW key P l:=fun hn=>by
  have:=hn.2 (i-1) y x hy (by rw[show i-1+1=i by omega];exact hx)
  omega
theorem gO {n:Int} {g:List Int}:gL (fun x=>x) (fun x=>0≤x∧x<n) 1 [g]↔js n (p8 g 2) g:=
  ⟨fun h=>⟨fun x hx=>⟨(h.2 g (ade.2 rfl)).1 x hx,fun e=>absurd e (by decide)⟩,(h.2 g (ade.2 rfl)).2⟩,fun h=>⟨rfl,fun r hr=>by rw[ade]at hr;subst hr;exact⟨fun x hx=>(h.1 x hx).1,h.2⟩⟩⟩
theorem Dq {g:List Int} {x:Int}:p8 g 1 x↔x∈g:=by
  unfold p8
  constructor
  · intro h
    have:=h (by decide)
    by_cases e:x∈g
    · exact e
    · rw[if_neg e]at this;omega
  · intro h _
    rw[if_pos h]
theorem Aa {g:List Int} {x:Int}:p8 g 0 x↔x∉g:=by
  unfold p8
  constructor
  · intro h e
    have:=h (by decide)
    rw[if_pos e]at this;omega
  · intro h _
    rw[if_neg h]
theorem eZ {n:Int} {g:List Int} {ls:List (List Int)}:gL (fun x=>x) (fun x=>(0≤x∧x<n)∧x∉g) n ls↔p4 n g ls:=
  ⟨fun h=>⟨fun r hr=>⟨fun x hx=>⟨((h.2 r hr).1 x hx).1,Aa.2 ((h.2 r hr).1 x hx).2⟩,(h.2 r hr).2⟩,h.1⟩,fun h=>⟨h.2,fun r hr=>⟨fun x hx=>⟨((h.1 r hr).1 x hx).1,Aa.1 ((h.1 r hr).1 x hx).2⟩,(h.1 r hr).2⟩⟩⟩
theorem dQ {n:Int} {g:List Int} {ls:List (List I2)} (hg:∀x∈g,0≤x∧x<n):gL (fun x:I2=>x.1) (fun x=>x.1∈g∧dp 0 x.2) n ls↔jI n g ls:=by
  constructor
  · intro h
    refine⟨fun r hr=>⟨fun x hx=>((h.2 r hr).1 x hx).2,fun v hv=>?_,fun i v u hv hu=>?_⟩,h.1⟩
    · obtain ⟨x, hx, rfl⟩ := adf.1 hv
      have:=((h.2 r hr).1 x hx).1
      exact⟨hg _ this,Dq.2 this⟩
    · rw [adE, aho] at hv hu
      obtain⟨x,hx,rfl⟩:=hv
      obtain⟨y,hy,rfl⟩:=hu
      exact(h.2 r hr).2 i x y hx hy
  · intro h
    refine⟨h.2,fun r hr=>⟨fun x hx=>⟨Dq.1 (((h.1 r hr).2.1 x.1 (adf.2 ⟨x,hx,rfl⟩)).2),(h.1 r hr).1 x hx⟩,fun i x y hx hy=>(h.1 r hr).2.2 i x.1 y.1 (by rw[adE,hx];rfl) (by rw[adE,hy];rfl)⟩⟩
end Go.Gr
namespace Go.Proofs.YtngkdkbpgoddlaaGreat
open Go.RowKit Go.Rl
open Go.Gr
theorem Ln {i j q:Nat} (hq:q=(i+j)/2):((i:Int)+(j:Int)).fdiv (2^(min (1:Int).toNat aeb.bits))=(q:Int):=by
  subst hq
  show((i:Int)+(j:Int)).fdiv 2=_
  rw[aeZ _ (by omega)]
  omega
theorem z7 (x:Int) (w:World):aM acx 213 #[.int .i64 x] w fun r w'=>r=.bool false∧Ext w w':=by
 refine aM.aZ ajV ?_
 rw[cM]
 have hN:=aI.nil w none_
 refine RW.aN (RL.ag (v:=.bool false) ai (RL.ak (RW.aN ?_)))
 iterate 2 refine RL.ag (v:=.int .i64 (x)) U ?_
 refine RL.ag (cI (bj) (fun h=>h rfl)) (RL.ag (v:=.bool false) ai (RL.ak (RW.ret (bb (RV.tmp rfl) ?_))))
 exact⟨rfl,hN.bc⟩
theorem yR (x:Int) (w:World):aM acx 218 #[.int .i64 x] w fun r w'=>r=.bool false∧Ext w w':=by
 refine aM.aZ ajW ?_
 rw[cM]
 have hN:=aI.nil w none_
 refine RW.aN (RL.ag (v:=.bool false) ai (RL.ak (RW.aN ?_)))
 iterate 2 refine RL.ag (v:=.int .i64 (x)) U ?_
 refine RL.ag (cI (bj) (fun h=>h rfl)) (RL.ag (v:=.bool false) ai (RL.ak (RW.ret (bb (RV.tmp rfl) ?_))))
 exact⟨rfl,hN.bc⟩
theorem Cd (x y:Int) (w:World):aM acx 212 #[.int .i64 x,.int .i64 y] w fun r w'=>r=.bool (decide (x<y))∧Ext w w':=by
 refine aM.aZ ajX ?_
 rw[cT]
 have hN:=aI.nil w none_
 refine RW.aN (RL.ag (v:=.bool false) ai (RL.b6 (RL.ag (v:=.int .i64 (x)) U ?_)))
 refine RL.aK (bo ajW rfl rfl rfl ((yR (x) _).mono ?_))
 rintro _ w1 ⟨rfl,bn⟩
 replace hN:=hN.ext bn
 clear bn
 refine RL.ag (v:=.bool false) U ?_
 iterate 3 refine RL.bH ?_
 refine RL.ag (v:=.bool false) (aB) (RL.ag (v:=.bool false) U (RL.an (v:=.int .i64 (x)) U (RL.an (v:=.int .i64 (y)) U (RL.an (aL) (RL.ag (v:=.bool (decide (x<y))) (aB) (RL.ag (v:=.bool (decide (x<y))) ai (RL.ak (RW.ret ?_))))))))
 refine bb (RV.tmp rfl) ?_
 exact⟨rfl,hN.bc⟩
theorem wm (gv:Value) (g:List Int) (v:Int) (w:World) (hg:Sl vI w gv g) (hR:uX g) (sD:g.length≤16777216):aM acx 199 #[gv,.int .i64 v] w fun r w'=>∃p:Nat,r=.tuple #[.int .i64 (p:Int),.bool (decide (g[p]?=some v))]∧(∀m x,m<p→g[m]?=some x→x<v)∧(∀m x,p≤m→g[m]?=some x→v≤x)∧Ext w w':=by
 refine aM.aZ ajY ?_
 rw[cT]
 have hN:=aI.nil w none_
 refine RW.aN (RL.ag (v:=.int .i64 (0)) ai (RL.ag (v:=.bool false) ai (RL.b6 (RL.ag (v:=gv) U ?_))))
 have nG:=(hg.o.now hN).bw
 refine RL.ag (aQ acu (hg.o.now hN)) (RL.ag (v:=.int .i64 ((g.length:Int))) ai (RL.b6 (RL.ag (v:=.int .i64 ((g.length:Int))) U (RL.ag (v:=.int .i64 (0)) ai (RL.ag (v:=.int .i64 ((g.length:Int))) ai (RL.nil ?_))))))
 refine aw (RW.seq (RW.block ?_))
 refine RW.loop (fun k R0 cz=>∃i:Nat,∃j:Nat,R0 0=gv∧R0 1=.int .i64 (v)∧R0 6=.int .i64 ((g.length:Int))∧R0 7=vJ i∧R0 8=vJ j∧aI w none_ cz []∧(i+k=j)∧(j≤g.length)∧(∀m x,m<i→g[m]?=some x→x<v)∧(∀m x,j≤m→g[m]?=some x→v≤x)) (g.length) ?_ ?_
 exact⟨0,g.length,rfl,rfl,rfl,rfl,rfl,hN,by omega,ac3 _,fun m x hm=>absurd hm (by omega),fun m x hm hx=>absurd (acA.1 hx).1 (by omega)⟩
 clear hN
 rintro k R0 cz ⟨i,j,cH,bP,cW,cF,cR,hN,oN,hjn,mR,nd⟩
 have cB:=iw cH bP cW cF cR
 obtain⟨gF,rfl⟩:=cB
 clear cH bP cW cF cR
 iterate 2 refine RW.seq ?_
 refine RW.region (RL.ag (v:=vJ i) U (RL.ag (v:=vJ j) U (RL.ag (aL) (RL.ak ?_))))
 refine RW.aG _ (fun cD=>?_) (fun cD=>?_)
 refine RW.skip (aw (RW.block (RW.seq ?_)))
 obtain⟨q,hq⟩:∃q:Nat,q=(i+j)/2:=⟨_,rfl⟩
 have aO:=da g q
 obtain⟨ap,bX⟩:=aO
 refine RW.region (RL.ag (v:=vJ i) U (RL.ag (v:=vJ j) U (RL.ag (aD rfl rfl rfl (bh (by omega) (by omega))) (RL.ag (eA acs ail rfl (Nr (by omega) (by omega))) (RL.ag (nI rfl rfl (by decide) (show((i:Int)+(j:Int)).fdiv (2^(min (1:Int).toNat aeb.bits))=(q:Int)from Ln hq)) (RL.ag (eA ail acs rfl (sJ (by omega) (by omega))) (RL.ag (v:=vJ q) ai (RL.ak ?_))))))))
 refine RW.aN (RL.ag (v:=gv) U (RL.ag (v:=vJ q) U (RL.ag (aC acu bK (hg.o.now hN)) (RL.ag (aF (m:=q) (a:=ap) acs (hg.o.now hN) bX) (RL.ag (v:=.int .i64 (v)) U ?_)))))
 refine RL.aK (bu ajX rfl rfl rfl rfl ((Cd (ap) (v) _).mono ?_))
 rintro _ w3 ⟨rfl,bn⟩
 replace hN:=hN.ext bn
 clear bn
 refine RL.ak ?_
 refine RW.aG _ (fun Sf=>?_) (fun Sf=>?_)
 refine RW.region (RL.ag (v:=vJ q) U (RL.ag (aD rfl rfl rfl (bh (by omega) (by omega))) (RL.ag (v:=.int .i64 ((q:Int)+1)) ai (RL.nil (aY (aw ?_))))))
 have k8:=hq
 exact⟨j-(q+1),by omega,(q+1),j,rfl,rfl,rfl,rfl,rfl,hN,by omega,by omega,fun m x hm hx=>by
   rcases adh m q with e|e
   · have:=po hR hx bX e;omega
   · obtain rfl : m = q := by omega
     rw[bX]at hx;cases hx;assumption,by omega⟩
 refine RW.region (RL.ag (v:=vJ q) U (RL.ag (v:=vJ q) ai (RL.nil (aY (aw ?_)))))
 have k8:=hq
 exact⟨q-i,by omega,i,q,rfl,rfl,rfl,rfl,rfl,hN,by omega,by omega,by omega,fun m x hm hx=>by
   rcases adh q m with e|e
   · have:=po hR bX hx e;omega
   · obtain rfl : m = q := by omega
     rw[bX]at hx;cases hx;omega⟩
 refine RW.exit ?_
 iterate 2 refine bS ?_
 refine ba (aw (RW.seq ?_))
 by_cases hv:g[i]?=some v
 have E2:=(acA.1 hv).1
 have OJ:i=j:=by omega
 subst OJ
 refine RW.region ?_
 iterate 2 refine RL.ag (v:=vJ i) U ?_
 refine RL.ag (v:=.int .i64 ((g.length:Int))) U (RL.ag (dm (aL) (by omega)) (RL.ag (v:=.bool true) U (RL.an (v:=gv) U (RL.an (v:=vJ i) U (RL.an (aC acu bK (hg.o.now hN)) (RL.an (aF (m:=i) (a:=v) acs (hg.o.now hN) hv) (RL.an (v:=.int .i64 (v)) U (RL.an (dm (bZ) rfl) (RL.an (v:=.bool true) U ?_)))))))))
 iterate 6 refine RL.bH ?_
 iterate 2 refine RL.iA ?_
 refine RL.bH (RL.an (v:=.bool true) (al) (RL.ag (v:=.bool true) (al) (RL.ag (v:=vJ i) ai (RL.ag (v:=.bool true) ai (RL.ak (RW.ret (bb (RV.ju rfl) ?_)))))))
 exact⟨i,(show aiR #[.int .i64 (i:Int),.bool true]=_ by rw[decide_eq_true hv]),mR,nd,hN.bc⟩
 have OJ:i=j:=by omega
 subst OJ
 refine RW.region ?_
 by_cases E2:i<g.length
 iterate 2 refine RL.ag (v:=vJ i) U ?_
 refine RL.ag (v:=.int .i64 ((g.length:Int))) U (RL.ag (dm (aL) (by omega)) (RL.ag (v:=.bool true) U (RL.an (v:=gv) U (RL.an (v:=vJ i) U (RL.an (aC acu bK (hg.o.now hN)) ?_)))))
 have aO:=da (g) i
 obtain⟨az,lS⟩:=aO
 refine RL.an (aF (m:=i) (a:=az) acs (hg.o.now hN) lS) (RL.an (v:=.int .i64 (v)) U (RL.an (cI (bZ) (fun e=>hv (by rw[lS,e]))) (RL.an (v:=.bool false) U (RL.an (v:=gv) U (RL.an (v:=vJ i) U (RL.an (aC acu bK (hg.o.now hN)) ?_))))))
 have aO:=da (g) i
 obtain⟨a5,V4⟩:=aO
 refine RL.an (aF (m:=i) (a:=a5) acs (hg.o.now hN) V4) ?_
 refine RL.ed (bo ajV rfl rfl rfl ((z7 (a5) _).mono ?_))
 rintro _ w6 ⟨rfl,bn⟩
 replace hN:=hN.ext bn
 clear bn
 refine RL.an (v:=.bool false) U ?_
 iterate 2 refine RL.bH ?_
 iterate 2 refine RL.an (v:=.bool false) (aB) ?_
 refine RL.ag (v:=.bool false) (al) (RL.ag (v:=vJ i) ai (RL.ag (v:=.bool false) ai (RL.ak (RW.ret (bb (RV.ju rfl) ?_)))))
 exact⟨i,(show aiR #[.int .i64 (i:Int),.bool false]=_ by rw[decide_eq_false hv]),mR,nd,hN.bc⟩
 iterate 2 refine RL.ag (v:=vJ i) U ?_
 refine RL.ag (v:=.int .i64 ((g.length:Int))) U (RL.ag (cI (aL) (by omega)) (RL.ag (v:=.bool false) U ?_))
 iterate 7 refine RL.bH ?_
 iterate 9 refine RL.iA ?_
 refine RL.bH (RL.ag (v:=.bool false) (aB) (RL.ag (v:=vJ i) ai (RL.ag (v:=.bool false) ai (RL.ak (RW.ret (bb (RV.ju rfl) ?_))))))
 exact⟨i,(show aiR #[.int .i64 (i:Int),.bool false]=_ by rw[decide_eq_false hv]),mR,nd,hN.bc⟩
end Go.Proofs.YtngkdkbpgoddlaaGreat
namespace Go.Proofs.YtngkdkbpgoddlaaGreat
open Go.RowKit Go.Rl
open Go.Gr
theorem qU (gv:Value) (g:List Int) (v:Int) (w:World) (hg:Sl vI w gv g) (hR:uX g) (sD:g.length≤16777216):aM acx 164 #[gv,.int .i64 v] w fun r w'=>r=.int .i64 (kV (fun y=>y=v) g)∧Ext w w':=by
 refine aM.aZ aim ?_
 rw[cT]
 have hN:=aI.nil w none_
 refine RW.aN (RL.ag (v:=.int .i64 (0)) ai (RL.b6 (RL.ag (v:=gv) U (RL.ag (v:=.int .i64 (v)) U ?_))))
 refine RL.aK (bu ajY rfl rfl rfl rfl ((wm _ g (v) _ (hg.o.now hN) hR sD).mono ?_))
 rintro _ w1 ⟨p1,rfl,Oz,OP,bn⟩
 replace hN:aI w none_ w1 []:=hN.ext bn
 clear bn
 refine RL.ag U ?_
 iterate 2 refine RL.ag (bA) ?_
 refine RL.ag (v:=vJ p1) ai (RL.ag ai (RL.ak ?_))
 iterate 2 refine RW.seq ?_
 refine RW.region (RL.ag U (RL.ag (cV rfl) (RL.ak ?_)))
 refine RW.aG _ (fun fJ=>?_) (fun fJ=>?_)
 refine RW.aN (RL.ag (v:=.int .i64 (-1)) ai (RL.ak (RW.ret (aT (bb (RV.tmp rfl) ?_)))))
 exact⟨congrArg (acZ .i64) (LJ hR Oz OP fJ).symm,hN.bc⟩
 refine RW.skip (aw (RW.aN (RL.ag (v:=vJ p1) U (RL.ag (v:=vJ p1) ai (RL.ak (RW.ret (bb (RV.tmp rfl) ?_)))))))
 exact⟨congrArg (acZ .i64) (JA hR (acU.1 fJ)).symm,hN.bc⟩
theorem tS (d least:Int) (w:World):aM acx 165 #[.int .i64 d,.int .i64 least] w fun r w'=>r=.bool (decide (dp least d))∧Ext w w':=by
 refine aM.aZ ain ?_
 rw[cT]
 have hN:=aI.nil w none_
 refine RW.aN (RL.ag (v:=.bool false) ai (RL.b6 (RL.ag (v:=.int .i64 (d)) U (RL.ag (v:=.int .i64 (least)) U (RL.ag (cm) ?_)))))
 refine RL.ag (v:=.bool (decide (least≤d))) U ?_
 by_cases kP:least≤d
 rw[decide_eq_true kP]
 refine RL.an (v:=.int .i64 (d)) U (RL.an (mw rfl rfl) (RL.ag (v:=.bool (decide (d≤1152921504606846976))) (al) (RL.ag (v:=.bool (decide (d≤1152921504606846976))) ai (RL.ak (RW.ret (bb (RV.tmp rfl) ?_))))))
 exact⟨congrArg acO (decide_eq_decide.2 ⟨fun h=>⟨by omega,h⟩,fun h=>h.2⟩),hN.bc⟩
 rw[decide_eq_false kP]
 iterate 2 refine RL.bH ?_
 refine RL.ag (v:=.bool false) (aB) (RL.ag (v:=.bool false) ai (RL.ak (RW.ret (bb (RV.tmp rfl) ?_))))
 exact⟨congrArg acO (decide_eq_false (fun h=>by have:=h.1;omega)).symm,hN.bc⟩
theorem yE (d:Int) (w:World):aM acx 201 #[.int .i64 d] w fun r w'=>r=.bool (decide (¬dp (-1) d))∧Ext w w':=by
 refine aM.aZ ajZ ?_
 rw[cM]
 have hN:=aI.nil w none_
 refine RW.aN (RL.ag (v:=.bool false) ai (RL.b6 (RL.ag (v:=.int .i64 (d)) U ?_)))
 refine RL.aK (bu ain rfl rfl rfl rfl ((tS (d) (-1) _).mono ?_))
 rintro _ w1 ⟨rfl,bn⟩
 replace hN:=hN.ext bn
 clear bn
 refine RL.ag (cV rfl) (RL.ag (v:=.bool (decide (¬(dp (-1) (d))))) ai (RL.ak (RW.ret (bb (RV.tmp rfl) ?_))))
 exact⟨rfl,hN.bc⟩
theorem lY (x:Int) (w:World):aM acx 160 #[.int .i64 x] w fun r w'=>r=.int .i64 x∧Ext w w':=by
 refine aM.aZ agp ?_
 rw[cM]
 have hN:=aI.nil w none_
 refine RW.aN (RL.ag (v:=.int .i64 (0)) ai (RL.b6 (RL.ag (v:=.int .i64 (x)) U (RL.ag (v:=.int .i64 (x)) ai (RL.nil ?_)))))
 refine aw (RW.ret (bb (RV.tmp rfl) ?_))
 exact⟨rfl,hN.bc⟩
theorem wU (a:I2) (w:World):aM acx 161 #[.agg #[.int .i64 a.1,.int .i64 a.2]] w fun r w'=>r=.int .i64 a.1∧Ext w w':=by
 refine aM.aZ aio ?_
 rw[cM]
 have hN:=aI.nil w none_
 refine RW.aN ?_
 refine RL.aK (bL (cs:=[.int .i64 (a.1),.int .i64 (a.2)]) rfl rfl hN ?_)
 clear hN
 intro g1 w1 (hN:aI w none_ w1 [_])
 refine RL.ag (v:=.int .i64 (0)) ai (RL.b6 (RL.ag (ah acS rfl bK) (RL.ag (aj acs (hN.aJ 0 rfl)) (RL.ag (v:=.int .i64 (a.1)) ai (RL.ak ?_)))))
 refine RW.ret (bb (RV.tmp rfl) ?_)
 exact⟨rfl,hN.bc⟩
theorem Ab (n:Int) (gn:Nat) (x:Int) (w:World) (hb:iu w gn [.int .i64 n] 3):aM acx 162 #[.int .i64 x,vP gn] w fun r w'=>r=.bool (decide (0≤x∧x<n))∧Ext w w':=by
 refine aM.aZ aip ?_
 rw[cT]
 have hN:=aI.nil w none_
 refine RW.aN (RL.ag (v:=.bool false) ai (RL.b6 (RL.ag (v:=.int .i64 (x)) U (RL.ag (cm) (RL.ag (v:=.bool (decide (0≤x))) U ?_)))))
 by_cases pL:0≤x
 rw[decide_eq_true pL]
 refine RL.an (v:=.int .i64 (x)) U (RL.an (aj acs (hb.ext hN.bc)) (RL.an (aL) (RL.ag (v:=.bool (decide (x<n))) (al) (RL.ag (v:=.bool (decide (x<n))) ai (RL.ak (RW.ret (bb (RV.tmp rfl) ?_)))))))
 exact⟨congrArg acO (decide_eq_decide.2 ⟨fun h=>⟨by omega,h⟩,fun h=>h.2⟩),hN.bc⟩
 rw[decide_eq_false pL]
 iterate 3 refine RL.bH ?_
 refine RL.ag (v:=.bool false) (aB) (RL.ag (v:=.bool false) ai (RL.ak (RW.ret (bb (RV.tmp rfl) ?_))))
 exact⟨congrArg acO (decide_eq_false (fun h=>by omega)).symm,hN.bc⟩
theorem xG (gt:Nat) (gv fv ov iv db dc:Value) (g:List Int) (a:I2) (w:World) (IK:iu w gt [gv,fv,ov,iv,db,dc] 32) (hg:Sl vI w gv g) (hR:uX g) (sD:g.length≤16777216):aM acx 163 #[.agg #[.int .i64 a.1,.int .i64 a.2],vP gt] w fun r w'=>r=.bool (decide (a.1∈g∧dp 0 a.2))∧Ext w w':=by
 refine aM.aZ aj0 ?_
 rw[cT]
 have hN:=aI.nil w none_
 refine RW.aN ?_
 refine RL.aK (bL (cs:=[.int .i64 (a.1),.int .i64 (a.2)]) rfl rfl hN ?_)
 clear hN
 intro g1 w1 (hN:aI w none_ w1 [_])
 refine RL.ag (v:=.bool false) ai (RL.b6 (RL.ag (ah acK rfl cj) (RL.ag (aj acu (IK.ext hN.bc)) (RL.ag (ah acS rfl bK) (RL.ag (aj acs (hN.aJ 0 rfl)) ?_)))))
 refine RL.aK (bu aim rfl rfl rfl rfl ((qU _ g (a.1) _ (hg.o.now hN) hR sD).mono ?_))
 rintro _ w2 ⟨rfl,bn⟩
 replace hN:=hN.ext bn
 clear bn
 refine RL.ag (cm) (RL.ag (v:=.bool (decide (0≤(kV (fun y=>y=a.1) g)))) U ?_)
 by_cases MQ:0≤(kV (fun y=>y=a.1) g)
 rw[decide_eq_true MQ]
 refine RL.an (ah acS rfl bK) (RL.an (aj acs (hN.aJ 0 rfl)) ?_)
 refine RL.ed (bu ain rfl rfl rfl rfl ((tS (a.2) (0) _).mono ?_))
 rintro _ w3 ⟨rfl,bn⟩
 replace hN:=hN.ext bn
 clear bn
 refine RL.ag (v:=.bool (decide (dp (0) (a.2)))) (al) (RL.ag (v:=.bool (decide (dp (0) (a.2)))) ai (RL.ak (RW.ret (bb (RV.tmp rfl) ?_))))
 exact⟨congrArg acO (decide_eq_decide.2 ⟨fun h=>⟨dq.1 (by omega),h⟩,fun h=>h.2⟩),hN.bc⟩
 rw[decide_eq_false MQ]
 iterate 3 refine RL.bH ?_
 refine RL.ag (v:=.bool false) (aB) (RL.ag (v:=.bool false) ai (RL.ak (RW.ret (bb (RV.tmp rfl) ?_))))
 exact⟨congrArg acO (decide_eq_false (fun h=>absurd (dq.2 h.1) (by omega))).symm,hN.bc⟩
theorem Bw (n:Int) (gn gi:Nat) (gt:Nat) (gv fv ov iv db dc:Value) (g:List Int) (x:Int) (w:World) (SU:iu w gn [.int .i64 n] 3) (O4:iu w gi [.func (.func 162) #[] #[vP gn]] 228) (IK:iu w gt [gv,fv,ov,iv,db,dc] 32) (hg:Sl vI w gv g) (hR:uX g) (sD:g.length≤16777216):aM acx 166 #[.int .i64 x,vP gi,vP gt] w fun r w'=>r=.bool (decide ((0≤x∧x<n)∧x∉g))∧Ext w w':=by
 refine aM.aZ aj1 ?_
 rw[iX]
 have hN:=aI.nil w none_
 refine RW.aN (RL.ag (v:=.bool false) ai (RL.b6 (RL.ag (aj aiq (O4.ext hN.bc)) (RL.ag (v:=.int .i64 (x)) U ?_))))
 refine RL.aK (cG (first:=#[]) (captured:=#[vP gn]) (v0:=.int .i64 (x)) (args:=#[.int .i64 (x),vP gn]) aip rfl rfl (by simp) rfl rfl ((Ab n gn (x) _ (SU.ext hN.bc)).mono ?_))
 rintro _ w1 ⟨rfl,bn⟩
 replace hN:=hN.ext bn
 clear bn
 refine RL.ag (v:=.bool (decide (0≤x∧x<n))) U ?_
 by_cases kP:0≤x∧x<n
 rw[decide_eq_true kP]
 refine RL.an (ah acK rfl cj) (RL.an (aj acu (IK.ext hN.bc)) (RL.an (v:=.int .i64 (x)) U ?_))
 refine RL.ed (bu aim rfl rfl rfl rfl ((qU _ g (x) _ (hg.o.now hN) hR sD).mono ?_))
 rintro _ w2 ⟨rfl,bn⟩
 replace hN:=hN.ext bn
 clear bn
 refine RL.an (aL) (RL.ag (v:=.bool (decide ((kV (fun y=>y=x) g)<0))) (al) (RL.ag (v:=.bool (decide ((kV (fun y=>y=x) g)<0))) ai (RL.ak (RW.ret (bb (RV.tmp rfl) ?_)))))
 exact⟨congrArg acO (decide_eq_decide.2 ⟨fun h=>⟨by assumption,Jj.1 h⟩,fun h=>Jj.2 h.2⟩),hN.bc⟩
 rw[decide_eq_false kP]
 iterate 5 refine RL.bH ?_
 refine RL.ag (v:=.bool false) (aB) (RL.ag (v:=.bool false) ai (RL.ak (RW.ret (bb (RV.tmp rfl) ?_))))
 exact⟨congrArg acO (decide_eq_false (fun h=>by first|exact absurd h.1 (by assumption)|exact absurd h.2 (by assumption))).symm,hN.bc⟩
theorem yn (gv:Value) (g:List Int) (w:World) (hg:Sl vI w gv g):aM acx 214 #[gv,.func (.func 201) #[] #[]] w fun r w'=>r=.int .i64 (kV (fun d=>¬dp (-1) d) g)∧Ext w w':=by
 refine aM.aZ aj2 ?_
 rw[cT]
 have hN:=aI.nil w none_
 refine RW.aN (RL.ag (v:=.int .i64 (0)) ai (RL.ak ?_))
 iterate 2 refine RW.seq ?_
 refine RW.region (RL.ag (v:=gv) U ?_)
 have nG:=(hg.o.now hN).bw
 refine RL.ag (aQ acu (hg.o.now hN)) (RL.ag (v:=.int .i64 (0)) U (RL.ak (RW.block ?_)))
 refine RW.loop (fun k R0 cz=>∃i:Nat,R0 0=gv∧R0 1=.func (.func 201) #[] #[]∧R0 7=.int .i64 ((g.length:Int))∧R0 8=vJ i∧aI w none_ cz []∧(i+k=g.length)∧(∀y∈g.take i,¬¬dp (-1) y)) (g.length) ?_ ?_
 exact⟨0,rfl,rfl,rfl,rfl,hN,by omega,fun x hx=>by cases hx⟩
 clear hN
 rintro k R0 cz ⟨i,cH,bP,cF,cR,hN,gk,fJ⟩
 have cB:=jd cH bP cF cR
 obtain⟨gF,rfl⟩:=cB
 clear cH bP cF cR
 refine RW.aN (RL.ag (aL) (RL.ak (RW.seq ?_)))
 refine RW.aG _ (fun cD=>?_) (fun cD=>?_)
 refine RW.skip (aw (RW.seq (RW.block (RW.aN (RL.ag (v:=vJ i) U (RL.ag (v:=vJ i) ai (RL.ak ?_)))))))
 refine RW.aN (RL.ag (v:=.func (.func 201) #[] #[]) U (RL.ag (v:=gv) U (RL.ag (v:=vJ i) U (RL.ag (aC acu bK (hg.o.now hN)) ?_))))
 have aO:=da (g) i
 obtain⟨ap,bX⟩:=aO
 refine RL.ag (aF (m:=i) (a:=ap) acs (hg.o.now hN) bX) ?_
 refine RL.aK (cG (first:=#[]) (captured:=#[]) (v0:=.int .i64 (ap)) (args:=#[.int .i64 (ap)]) ajZ rfl rfl (by simp) rfl rfl ((yE (ap) _).mono ?_))
 rintro _ w2 ⟨rfl,bn⟩
 replace hN:=hN.ext bn
 clear bn
 refine RL.ak ?_
 refine RW.aG _ (fun oP=>?_) (fun oP=>?_)
 refine RW.aN (RL.ag (v:=vJ i) U (RL.ag (v:=vJ i) ai (RL.ak (RW.ret (aX ?_)))))
 iterate 2 refine aT ?_
 refine aX (aT (bb (RV.tmp rfl) ?_))
 exact⟨congrArg (acZ .i64) (nH fJ bX oP).symm,hN.bc⟩
 refine RW.skip (aY (aw (RW.region (RL.ag (aD rfl rfl rfl (bh (by omega) (by omega))) (RL.ag (v:=.int .i64 ((i:Int)+1)) U (RL.ak ?_))))))
 exact⟨k-1,by omega,i+1,rfl,rfl,rfl,rfl,hN,by omega,fun x hx=>(du bX hx).elim (fJ x) (fun e=>e▸oP)⟩
 refine RW.exit ?_
 iterate 2 refine bS ?_
 refine ba (aw (RW.aN (RL.ag (v:=.int .i64 (-1)) ai (RL.ak (RW.ret (bb (RV.tmp rfl) ?_))))))
 rw[acX (by omega)]at fJ
 exact⟨congrArg (acZ .i64) (qI fJ).symm,hN.bc⟩
theorem A9 (gv:Value) (g:List Int) (w:World) (hg:Sl vI w gv g):aM acx 200 #[gv,.func (.func 201) #[] #[]] w fun r w'=>r=.bool (decide (0≤kV (fun d=>¬dp (-1) d) g))∧Ext w w':=by
 refine aM.aZ aj3 ?_
 rw[cT]
 have hN:=aI.nil w none_
 refine RW.aN (RL.ag (v:=.bool false) ai (RL.b6 (RL.ag (v:=gv) U (RL.ag (v:=.func (.func 201) #[] #[]) U ?_))))
 refine RL.aK (bu aj2 rfl rfl rfl rfl ((yn _ g _ (hg.o.now hN)).mono ?_))
 rintro _ w1 ⟨rfl,bn⟩
 replace hN:=hN.ext bn
 clear bn
 refine RL.ag (cm) (RL.ag (v:=.bool (decide (0≤(kV (fun d=>¬dp (-1) d) g)))) ai (RL.ak (RW.ret (bb (RV.tmp rfl) ?_))))
 exact⟨rfl,hN.bc⟩
theorem Hn {l:List Int} (h:¬0≤kV (fun d=>¬dp (-1) d) l):∀x∈l,dp (-1) x:=by
  rcases fw (fun d=>¬dp (-1) d) l with⟨_,hb⟩|⟨i,x,e,_,_,_⟩
  · exact fun x hx=>acU.1 (hb x hx)
  · omega
theorem pD {l:List Int} (h:0≤kV (fun d=>¬dp (-1) d) l):¬∀x∈l,dp (-1) x:=by
  rcases fw (fun d=>¬dp (-1) d) l with⟨e,_⟩|⟨i,x,e,hx,hp,_⟩
  · omega
  · exact fun fY=>hp (fY x (acy hx))
theorem Bx (w:World) (ov iv db dc gv fv:Value) (gl:List Int) (fh:List Hd) (fl:List (List Int)) (hg:Sl vI w gv gl) (hf:Sl vh w fv fh) (o0:fW none_ vI w fh fl):aM acx 168 #[.agg #[gv,fv,ov,iv,db,dc]] w fun r w'=>r=.bool (decide (p6 gl fl))∧Ext w w':=by
 refine aM.aZ aj4 ?_
 rw[cM]
 have hN:=aI.nil w none_
 have EZ:=o0.1
 refine RW.aN ?_
 refine RL.aK (bL (cs:=[gv,fv,ov,iv,db,dc]) rfl rfl hN ?_)
 clear hN
 intro g1 w1 (hN:aI w none_ w1 [_])
 refine RL.ag (v:=.bool false) ai (RL.ak ?_)
 iterate 2 refine RW.seq ?_
 refine RW.region (RL.ag (ah acK rfl fP) (RL.ag (aj acJ (hN.aJ 0 rfl)) ?_))
 have jm:=(hf.o.now hN).bw
 refine RL.ag (aQ acJ (hf.o.now hN)) (RL.ag (ah acK rfl cj) (RL.ag (aj acu (hN.aJ 0 rfl)) ?_))
 have k9:=(hg.o.now hN).bw
 refine RL.ag (aQ acu (hg.o.now hN)) (RL.ag (bj) (RL.ak ?_))
 refine RW.aG _ (fun hlen=>?_) (fun hlen=>?_)
 refine RW.aN (RL.ag (v:=.bool false) ai (RL.ak (RW.ret (aT (bb (RV.tmp rfl) ?_)))))
 exact⟨congrArg acO (decide_eq_false (fun h:p6 gl fl=>by
  have Ep:=h.1
  first
  |omega
  | (obtain ⟨b1, b2, b3⟩ := h.2 i lp ey
     first
     |omega
     |(rw[lS]at b2;cases b2;contradiction)
     |exact absurd b3 (pD (by assumption))))).symm,hN.bc⟩
 refine RW.skip (aw ?_)
 iterate 2 refine RW.seq ?_
 refine RW.region (RL.ag (ah acK rfl fP) (RL.ag (aj acJ (hN.aJ 0 rfl)) (RL.ag (aQ acJ (hf.o.now hN)) (RL.ag (v:=.int .i64 (0)) U (RL.ak (RW.block ?_))))))
 refine RW.loop (fun k R0 cz=>∃i:Nat,R0 1=vP g1∧R0 13=fv∧R0 14=.int .i64 ((fh.length:Int))∧R0 15=vJ i∧aI w none_ cz [.aJ g1 [gv,fv,ov,iv,db,dc] 32]∧(i+k=fh.length)∧(∀m r,m<i→fl[m]?=some r→r.length=gl.length∧r[m]?=some 0∧∀x∈r,dp (-1) x)) (fh.length) ?_ ?_
 exact⟨0,rfl,rfl,rfl,rfl,hN,by omega,fun m r hm=>absurd hm (by omega)⟩
 clear hN
 rintro k R0 cz ⟨i,bP,ft,gR,nD,hN,gk,I7⟩
 have cB:=jd bP ft gR nD
 obtain⟨gF,rfl⟩:=cB
 clear bP ft gR nD
 refine RW.aN (RL.ag (aL) (RL.ak (RW.seq ?_)))
 refine RW.aG _ (fun cD=>?_) (fun cD=>?_)
 refine RW.skip (aw (RW.seq (RW.block (RW.seq ?_))))
 have Lc:=o0.1
 have aO:=da fh i
 obtain⟨ap,bX⟩:=aO
 have aO:=da fl i
 obtain⟨lp,ey⟩:=aO
 have kE:=acy ey
 refine RW.region (RL.ag (v:=vJ i) U (RL.ag (aC acJ cj (hf.o.now hN)) (RL.ag (aF (m:=i) (a:=ap) acu (hf.o.now hN) bX) (RL.ag (v:=vJ i) ai (RL.ag (v:=(vh ap)) ai (RL.ak (RW.aN ?_)))))))
 refine RL.ag (v:=(vh ap)) U ?_
 have qG:=((o0.iq bX ey).now hN).bw
 refine RL.ag (aQ acu ((o0.iq bX ey).now hN)) (RL.ag (ah acK rfl cj) (RL.ag (aj acu (hN.aJ 0 rfl)) (RL.ag (aQ acu (hg.o.now hN)) (RL.ag (bj) (RL.ag (v:=.bool (decide (¬(lp.length:Int)=(gl.length:Int)))) U ?_)))))
 by_cases MI:¬(lp.length:Int)=(gl.length:Int)
 rw[decide_eq_true MI]
 iterate 5 refine RL.bH ?_
 refine RL.ag (v:=.bool true) (al) (RL.ag (v:=.bool true) U ?_)
 iterate 2 refine RL.bH ?_
 refine RL.ag (v:=.bool true) (al) (RL.ak (RW.bF (RW.aN (RL.ag (v:=.bool false) ai (RL.ak (RW.ret ?_))))))
 refine aX ?_
 iterate 2 refine aT ?_
 refine aX (aT (bb (RV.tmp rfl) ?_))
 exact⟨congrArg acO (decide_eq_false (fun h:p6 gl fl=>by
  have Ep:=h.1
  first
  |omega
  | (obtain ⟨b1, b2, b3⟩ := h.2 i lp ey
     first
     |omega
     |(rw[lS]at b2;cases b2;contradiction)
     |exact absurd b3 (pD (by assumption))))).symm,hN.bc⟩
 rw[decide_eq_false MI]
 refine RL.an (v:=(vh ap)) U (RL.an (v:=vJ i) U (RL.an (aC acu bK ((o0.iq bX ey).now hN)) ?_))
 have aO:=da (lp) i
 obtain⟨az,lS⟩:=aO
 refine RL.an (aF (m:=i) (a:=az) acs ((o0.iq bX ey).now hN) lS) (RL.an (bj) (RL.ag (v:=.bool (decide (¬az=0))) (aB) (RL.ag (v:=.bool (decide (¬az=0))) U ?_)))
 by_cases Ie:¬az=0
 rw[decide_eq_true Ie]
 iterate 2 refine RL.bH ?_
 refine RL.ag (v:=.bool true) (al) (RL.ak (RW.bF (RW.aN (RL.ag (v:=.bool false) ai (RL.ak (RW.ret ?_))))))
 refine aX ?_
 iterate 2 refine aT ?_
 refine aX (aT (bb (RV.tmp rfl) ?_))
 exact⟨congrArg acO (decide_eq_false (fun h:p6 gl fl=>by
  have Ep:=h.1
  first
  |omega
  | (obtain ⟨b1, b2, b3⟩ := h.2 i lp ey
     first
     |omega
     |(rw[lS]at b2;cases b2;contradiction)
     |exact absurd b3 (pD (by assumption))))).symm,hN.bc⟩
 rw[decide_eq_false Ie]
 refine RL.an (v:=(vh ap)) U ?_
 refine RL.ed (bu aj3 rfl rfl rfl rfl ((A9 _ lp _ ((o0.iq bX ey).now hN)).mono ?_))
 rintro _ w6 ⟨rfl,bn⟩
 replace hN:=hN.ext bn
 clear bn
 refine RL.ag (v:=.bool (decide (0≤kV (fun d=>¬dp (-1) d) lp))) (aB) (RL.ak ?_)
 refine RW.aG _ (fun fJ=>?_) (fun fJ=>?_)
 refine RW.aN (RL.ag (v:=.bool false) ai (RL.ak (RW.ret (aX ?_))))
 iterate 2 refine aT ?_
 refine aX (aT (bb (RV.tmp rfl) ?_))
 exact⟨congrArg acO (decide_eq_false (fun h:p6 gl fl=>by
  have Ep:=h.1
  first
  |omega
  | (obtain ⟨b1, b2, b3⟩ := h.2 i lp ey
     first
     |omega
     |(rw[lS]at b2;cases b2;contradiction)
     |exact absurd b3 (pD (by assumption))))).symm,hN.bc⟩
 refine RW.skip (aY (aw (RW.region (RL.ag (aD rfl rfl rfl (bh (by omega) (by omega))) (RL.ag (v:=.int .i64 ((i:Int)+1)) U (RL.ak ?_))))))
 exact⟨k-1,by omega,i+1,rfl,rfl,rfl,rfl,hN,by omega,fun m r hm hr=>(adh m i).elim (fun e=>I7 m r e hr) (fun e=>have e2:m=i:=(by omega);have e3:r=lp:=ac2 (hr.symm.trans (e2▸ey));e2▸e3▸⟨by omega,by rw[lS];exact congrArg some (by omega),Hn fJ⟩)⟩
 refine RW.exit ?_
 iterate 2 refine bS ?_
 refine ba (aw (RW.aN (RL.ag (v:=.bool true) ai (RL.ak (RW.ret (bb (RV.tmp rfl) ?_))))))
 exact⟨congrArg acO (decide_eq_true (show p6 gl fl from⟨by omega,fun m r hm=>I7 m r (by have:=(acA.1 hm).1;omega) hm⟩)).symm,hN.bc⟩
end Go.Proofs.YtngkdkbpgoddlaaGreat
namespace Go.Proofs.YtngkdkbpgoddlaaGreat
open Go.RowKit Go.Rl
open Go.Gr
theorem xN (nn:Int) (n:Int) (gn:Nat) (lv:Value) (hs:List Hd) (ls:List (List Int)) (w:World) (SU:iu w gn [.int .i64 n] 3) (hl:Sl vh w lv hs) (jt:fW none_ vI w hs ls):aM acx 167 #[lv,.int .i64 nn,.func (.func 160) #[] #[],.func (.func 162) #[] #[vP gn]] w fun r w'=>r=.bool (decide (gL (fun x=>x) (fun x=>0≤x∧x<n) nn ls))∧Ext w w':=by
 refine aM.aZ agq ?_
 rw[kX]
 have hN:=aI.nil w none_
 have EZ:=jt.1
 refine RW.aN (RL.ag (v:=.bool false) ai (RL.ak ?_))
 iterate 2 refine RW.seq ?_
 refine RW.region (RL.ag (v:=lv) U ?_)
 have nG:=(hl.o.now hN).bw
 refine RL.ag (aQ acJ (hl.o.now hN)) (RL.ag (v:=.int .i64 (nn)) U (RL.ag (bj) (RL.ak ?_)))
 refine RW.aG _ (fun hlen=>?_) (fun hlen=>?_)
 refine RW.aN (RL.ag (v:=.bool false) ai (RL.ak (RW.ret (aT (bb (RV.tmp rfl) ?_)))))
 exact⟨congrArg acO (decide_eq_false (fun h:gL (fun x=>x) (fun x=>0≤x∧x<n) nn ls=>by
  have h1:=h.1
  first
  |omega
  |exact absurd ((h.2 lp kE).1 x (acy hx)) (by assumption)
  |exact absurd (h.2 lp kE) (j5 hx (by omega) hy (by assumption)))).symm,hN.bc⟩
 refine RW.skip (aw ?_)
 iterate 2 refine RW.seq ?_
 refine RW.region (RL.ag (v:=lv) U (RL.ag (aQ acJ (hl.o.now hN)) (RL.ag (v:=.int .i64 (0)) U (RL.ak (RW.block ?_)))))
 refine RW.loop (fun k R0 cz=>∃i:Nat,R0 2=.func (.func 160) #[] #[]∧R0 3=.func (.func 162) #[] #[vP gn]∧R0 17=lv∧R0 18=.int .i64 ((hs.length:Int))∧R0 19=vJ i∧aI w none_ cz []∧(i+k=hs.length)∧(∀m r,m<i→ls[m]?=some r→uW (fun x=>x) (fun x=>0≤x∧x<n) r)) (hs.length) ?_ ?_
 exact⟨0,rfl,rfl,rfl,rfl,rfl,hN,by omega,fun m r hm=>absurd hm (by omega)⟩
 clear hN
 rintro k R0 cz ⟨i,bV,cd,fq,fH,gj,hN,gk,rQ⟩
 have cB:=iw bV cd fq fH gj
 obtain⟨gF,rfl⟩:=cB
 clear bV cd fq fH gj
 refine RW.aN (RL.ag (aL) (RL.ak (RW.seq ?_)))
 refine RW.aG _ (fun cD=>?_) (fun cD=>?_)
 refine RW.skip (aw (RW.seq (RW.block (RW.seq ?_))))
 have Lc:=jt.1
 have aO:=da hs i
 obtain⟨ap,bX⟩:=aO
 have aO:=da ls i
 obtain⟨lp,ey⟩:=aO
 have kE:=acy ey
 refine RW.region (RL.ag (aC acJ cj (hl.o.now hN)) (RL.ag (aF (m:=i) (a:=ap) acu (hl.o.now hN) bX) (RL.ag (v:=(vh ap)) ai (RL.b6 (RL.ag (v:=(vh ap)) U ?_)))))
 have k9:=((jt.iq bX ey).now hN).bw
 refine RL.ag (aQ acu ((jt.iq bX ey).now hN)) (RL.ag (v:=.int .i64 (0)) U (RL.ak (RW.block ?_)))
 refine RW.loop (fun k2 R1 eW=>∃q:Nat,R1 2=.func (.func 160) #[] #[]∧R1 3=.func (.func 162) #[] #[vP gn]∧R1 10=(vh ap)∧R1 17=lv∧R1 18=.int .i64 ((hs.length:Int))∧R1 19=vJ i∧R1 23=(vh ap)∧R1 24=.int .i64 ((lp.length:Int))∧R1 25=vJ q∧aI w none_ eW []∧(q+k2=lp.length)∧(uW (fun x=>x) (fun x=>0≤x∧x<n) (lp.take q))) (lp.length) ?_ ?_
 exact⟨0,rfl,rfl,rfl,rfl,rfl,rfl,rfl,rfl,rfl,hN,by omega,tx _ _⟩
 clear hN
 rintro k2 R1 eW ⟨q,bV,cd,df,fq,fH,gj,iV,rl,gg,hN,yq,lM⟩
 have cB:=Nz bV cd df fq fH gj iV rl gg
 obtain⟨sk,rfl⟩:=cB
 clear bV cd df fq fH gj iV rl gg
 refine RW.aN (RL.ag (aL) (RL.ak (RW.seq ?_)))
 refine RW.aG _ (fun eD=>?_) (fun eD=>?_)
 refine RW.skip (aw (RW.seq (RW.block (RW.seq ?_))))
 have aO:=da lp q
 obtain⟨x,hx⟩:=aO
 obtain⟨y,hy⟩:∃y,lp[q-1]?=some y:=⟨_,acE (by omega)⟩
 refine RW.region (RL.ag (v:=vJ q) U (RL.ag (aC acu bK ((jt.iq bX ey).now hN)) (RL.ag (aF (m:=q) (a:=x) acs ((jt.iq bX ey).now hN) hx) (RL.ag (v:=vJ q) ai (RL.ag (v:=.int .i64 (x)) ai (RL.ak (RW.seq ?_)))))))
 replace hN:=hN.ext (Ext.drew eW)
 refine RW.bD (fun u=>aI w none_ u []) 21 [(0,0),(1,0),(2,1),(3,0),(4,0),(5,0),(6,0),(7,0),(8,0),(9,0),(11,0),(12,0),(13,0),(14,0),(15,0),(16,0),(10,1),(17,1),(18,0),(19,0),(20,0)] (by intro _ _ _ h;exact h) hN (RQ.aA (v:=.func (.func 162) #[] #[vP gn]) rfl (fun w hS=>U) (RQ.aA (v:=.int .i64 (x)) rfl (fun w hS=>U) ?_))
 refine RQ.b0 rfl (cG (first:=#[]) (captured:=#[vP gn]) (v0:=.int .i64 (x)) (args:=#[.int .i64 (x),vP gn]) aip rfl rfl (by simp) rfl rfl ((Ab n gn (x) _ (SU.ext hN.bc)).mono ?_))
 rintro _ w5 ⟨rfl,bn⟩
 replace hN:=hN.ext bn
 clear bn
 refine⟨hN,?_⟩
 refine RQ.aA rfl (fun w hS=>(cV rfl)) (RQ.aA (v:=.bool (decide (¬(0≤x∧x<n)))) rfl (fun w hS=>U) ?_)
 by_cases rp:¬(0≤x∧x<n)
 rw[decide_eq_true rp]
 iterate 3 refine RQ.bU rfl ?_
 iterate 11 refine RQ.dS rfl ?_
 refine RQ.bU rfl (RQ.aA (v:=.bool true) rfl (fun w hS=>(al)) (RQ.bq (aw (RW.bF (RW.aN (RL.ag (v:=.bool false) ai (RL.ak ?_)))))))
 refine RW.ret (aX ?_)
 iterate 2 refine aT ?_
 iterate 2 refine aX ?_
 iterate 2 refine aT ?_
 refine aX (aT (bb (RV.tmp rfl) ?_))
 exact⟨congrArg acO (decide_eq_false (fun h:gL (fun x=>x) (fun x=>0≤x∧x<n) nn ls=>by
  have h1:=h.1
  first
  |omega
  |exact absurd ((h.2 lp kE).1 x (acy hx)) (by assumption)
  |exact absurd (h.2 lp kE) (j5 hx (by omega) hy (by assumption)))).symm,hN.bc⟩
 rw[decide_eq_false rp]
 refine RQ.aS (v:=vJ q) rfl (fun w hS=>U) (RQ.aS rfl (fun w hS=>(cr)) (RQ.aS (v:=.bool (decide (0<(q:Int)))) rfl (fun w hS=>U) ?_))
 by_cases rn:0<(q:Int)
 rw[decide_eq_true rn]
 refine RQ.aS (v:=.func (.func 160) #[] #[]) rfl (fun w hS=>U) (RQ.aS (v:=.int .i64 (x)) rfl (fun w hS=>U) (RQ.aS (v:=.func (.func 160) #[] #[]) rfl (fun w hS=>U) (RQ.aS (v:=(vh ap)) rfl (fun w hS=>U) (RQ.aS (v:=vJ q) rfl (fun w hS=>U) (RQ.aS rfl (fun w hS=>(aD rfl rfl rfl (pg (by omega) (by omega)))) (RQ.aS rfl (fun w hS=>(aC acu bK ((jt.iq bX ey).now hS))) (RQ.aS rfl (fun w hS=>(aF (m:=((q:Int)-1).toNat) (a:=y) acs ((jt.iq bX ey).now hS) (by rw[show((q:Int)-1).toNat=q-1 by omega];exact hy))) ?_)))))))
 refine RQ.ob rfl rfl rfl rfl (cG (first:=#[]) (captured:=#[]) (v0:=.int .i64 (x)) (args:=#[.int .i64 (x)]) agp rfl rfl (by simp) rfl rfl ((lY (x) _).mono ?_))
 rintro _ w7 ⟨rfl,bn⟩
 replace hN:=hN.ext bn
 clear bn
 refine⟨hN,?_⟩
 refine RQ.ob rfl rfl rfl rfl (cG (first:=#[]) (captured:=#[]) (v0:=.int .i64 (y)) (args:=#[.int .i64 (y)]) agp rfl rfl (by simp) rfl rfl ((lY (y) _).mono ?_))
 rintro _ w8 ⟨rfl,bn⟩
 replace hN:=hN.ext bn
 clear bn
 refine⟨hN,?_⟩
 refine RQ.aS rfl (fun w hS=>(mw rfl rfl)) (RQ.aS (v:=.bool (decide (x≤y))) rfl (fun w hS=>(al)) (RQ.aA (v:=.bool (decide (x≤y))) rfl (fun w hS=>(aB)) (RQ.bq (aw ?_))))
 refine RW.aG _ (fun fJ=>?_) (fun fJ=>?_)
 refine RW.aN (RL.ag (v:=.bool false) ai (RL.ak (RW.ret (aX ?_))))
 iterate 2 refine aT ?_
 iterate 2 refine aX ?_
 iterate 2 refine aT ?_
 refine aX (aT (bb (RV.tmp rfl) ?_))
 exact⟨congrArg acO (decide_eq_false (fun h:gL (fun x=>x) (fun x=>0≤x∧x<n) nn ls=>by
  have h1:=h.1
  first
  |omega
  |exact absurd ((h.2 lp kE).1 x (acy hx)) (by assumption)
  |exact absurd (h.2 lp kE) (j5 hx (by omega) hy (by assumption)))).symm,hN.bc⟩
 refine RW.skip (aY (aw (RW.region (RL.ag (aD rfl rfl rfl (bh (by omega) (by omega))) (RL.ag (v:=.int .i64 ((q:Int)+1)) U (RL.ak ?_))))))
 exact⟨k2-1,by omega,q+1,rfl,rfl,rfl,rfl,rfl,rfl,rfl,rfl,rfl,hN,by omega,kd lM hx (acU.1 (by assumption)) (fun z h0 hz=>by
   rw[hy]at hz;cases hz;omega)⟩
 rw[decide_eq_false rn]
 iterate 11 refine RQ.bU rfl ?_
 refine RQ.aS (v:=.bool false) rfl (fun w hS=>(aB)) (RQ.aA (v:=.bool false) rfl (fun w hS=>(aB)) (RQ.bq (aw (RW.cg (RW.skip (aY (aw (RW.region (RL.ag (aD rfl rfl rfl (bh (by omega) (by omega))) ?_)))))))))
 refine RL.ag (v:=.int .i64 ((q:Int)+1)) U (RL.ak ?_)
 exact⟨k2-1,by omega,q+1,rfl,rfl,rfl,rfl,rfl,rfl,rfl,rfl,rfl,hN,by omega,kd lM hx (acU.1 (by assumption)) (fun z h0 hz=>by
   rw[hy]at hz;cases hz;omega)⟩
 refine RW.exit ?_
 iterate 2 refine bS ?_
 refine ba (aY (aw ?_))
 rw[show q=lp.length by omega,adn]at lM
 refine RW.region (RL.ag (aD rfl rfl rfl (bh (by omega) (by omega))) (RL.ag (v:=.int .i64 ((i:Int)+1)) U (RL.ak ?_)))
 exact⟨k-1,by omega,i+1,rfl,rfl,rfl,rfl,rfl,hN,by omega,fun m r hm hr=>(adh m i).elim (fun e=>rQ m r e hr) (fun e=>have e2:m=i:=(by omega);have e3:r=lp:=ac2 (hr.symm.trans (e2▸ey));e3▸lM)⟩
 refine RW.exit ?_
 iterate 2 refine bS ?_
 refine ba (aw (RW.aN (RL.ag (v:=.bool true) ai (RL.ak (RW.ret (bb (RV.tmp rfl) ?_))))))
 exact⟨congrArg acO (decide_eq_true (show gL (fun x=>x) (fun x=>0≤x∧x<n) nn ls from⟨by omega,fun r hr=>by
  have aO:=ac9 hr
  obtain⟨m,hm⟩:=aO
  exact rQ m r (by have:=(acA.1 hm).1;omega) hm⟩)).symm,hN.bc⟩
theorem oe (nn:Int) (n:Int) (gn gi:Nat) (gt:Nat) (gv fv ov iv db dc:Value) (g:List Int) (lv:Value) (hs:List Hd) (ls:List (List Int)) (w:World) (SU:iu w gn [.int .i64 n] 3) (O4:iu w gi [.func (.func 162) #[] #[vP gn]] 228) (IK:iu w gt [gv,fv,ov,iv,db,dc] 32) (hg:Sl vI w gv g) (hR:uX g) (sD:g.length≤16777216) (hl:Sl vh w lv hs) (jt:fW none_ vI w hs ls):aM acx 167 #[lv,.int .i64 nn,.func (.func 160) #[] #[],.func (.func 166) #[] #[vP gi,vP gt]] w fun r w'=>r=.bool (decide (gL (fun x=>x) (fun x=>(0≤x∧x<n)∧x∉g) nn ls))∧Ext w w':=by
 refine aM.aZ agq ?_
 rw[kX]
 have hN:=aI.nil w none_
 have EZ:=jt.1
 refine RW.aN (RL.ag (v:=.bool false) ai (RL.ak ?_))
 iterate 2 refine RW.seq ?_
 refine RW.region (RL.ag (v:=lv) U ?_)
 have nG:=(hl.o.now hN).bw
 refine RL.ag (aQ acJ (hl.o.now hN)) (RL.ag (v:=.int .i64 (nn)) U (RL.ag (bj) (RL.ak ?_)))
 refine RW.aG _ (fun hlen=>?_) (fun hlen=>?_)
 refine RW.aN (RL.ag (v:=.bool false) ai (RL.ak (RW.ret (aT (bb (RV.tmp rfl) ?_)))))
 exact⟨congrArg acO (decide_eq_false (fun h:gL (fun x=>x) (fun x=>(0≤x∧x<n)∧x∉g) nn ls=>by
  have h1:=h.1
  first
  |omega
  |exact absurd ((h.2 lp kE).1 x (acy hx)) (by assumption)
  |exact absurd (h.2 lp kE) (j5 hx (by omega) hy (by assumption)))).symm,hN.bc⟩
 refine RW.skip (aw ?_)
 iterate 2 refine RW.seq ?_
 refine RW.region (RL.ag (v:=lv) U (RL.ag (aQ acJ (hl.o.now hN)) (RL.ag (v:=.int .i64 (0)) U (RL.ak (RW.block ?_)))))
 refine RW.loop (fun k R0 cz=>∃i:Nat,R0 2=.func (.func 160) #[] #[]∧R0 3=.func (.func 166) #[] #[vP gi,vP gt]∧R0 17=lv∧R0 18=.int .i64 ((hs.length:Int))∧R0 19=vJ i∧aI w none_ cz []∧(i+k=hs.length)∧(∀m r,m<i→ls[m]?=some r→uW (fun x=>x) (fun x=>(0≤x∧x<n)∧x∉g) r)) (hs.length) ?_ ?_
 exact⟨0,rfl,rfl,rfl,rfl,rfl,hN,by omega,fun m r hm=>absurd hm (by omega)⟩
 clear hN
 rintro k R0 cz ⟨i,bV,cd,fq,fH,gj,hN,gk,rQ⟩
 have cB:=iw bV cd fq fH gj
 obtain⟨gF,rfl⟩:=cB
 clear bV cd fq fH gj
 refine RW.aN (RL.ag (aL) (RL.ak (RW.seq ?_)))
 refine RW.aG _ (fun cD=>?_) (fun cD=>?_)
 refine RW.skip (aw (RW.seq (RW.block (RW.seq ?_))))
 have Lc:=jt.1
 have aO:=da hs i
 obtain⟨ap,bX⟩:=aO
 have aO:=da ls i
 obtain⟨lp,ey⟩:=aO
 have kE:=acy ey
 refine RW.region (RL.ag (aC acJ cj (hl.o.now hN)) (RL.ag (aF (m:=i) (a:=ap) acu (hl.o.now hN) bX) (RL.ag (v:=(vh ap)) ai (RL.b6 (RL.ag (v:=(vh ap)) U ?_)))))
 have k9:=((jt.iq bX ey).now hN).bw
 refine RL.ag (aQ acu ((jt.iq bX ey).now hN)) (RL.ag (v:=.int .i64 (0)) U (RL.ak (RW.block ?_)))
 refine RW.loop (fun k2 R1 eW=>∃q:Nat,R1 2=.func (.func 160) #[] #[]∧R1 3=.func (.func 166) #[] #[vP gi,vP gt]∧R1 10=(vh ap)∧R1 17=lv∧R1 18=.int .i64 ((hs.length:Int))∧R1 19=vJ i∧R1 23=(vh ap)∧R1 24=.int .i64 ((lp.length:Int))∧R1 25=vJ q∧aI w none_ eW []∧(q+k2=lp.length)∧(uW (fun x=>x) (fun x=>(0≤x∧x<n)∧x∉g) (lp.take q))) (lp.length) ?_ ?_
 exact⟨0,rfl,rfl,rfl,rfl,rfl,rfl,rfl,rfl,rfl,hN,by omega,tx _ _⟩
 clear hN
 rintro k2 R1 eW ⟨q,bV,cd,df,fq,fH,gj,iV,rl,gg,hN,yq,lM⟩
 have cB:=Nz bV cd df fq fH gj iV rl gg
 obtain⟨sk,rfl⟩:=cB
 clear bV cd df fq fH gj iV rl gg
 refine RW.aN (RL.ag (aL) (RL.ak (RW.seq ?_)))
 refine RW.aG _ (fun eD=>?_) (fun eD=>?_)
 refine RW.skip (aw (RW.seq (RW.block (RW.seq ?_))))
 have aO:=da lp q
 obtain⟨x,hx⟩:=aO
 obtain⟨y,hy⟩:∃y,lp[q-1]?=some y:=⟨_,acE (by omega)⟩
 refine RW.region (RL.ag (v:=vJ q) U (RL.ag (aC acu bK ((jt.iq bX ey).now hN)) (RL.ag (aF (m:=q) (a:=x) acs ((jt.iq bX ey).now hN) hx) (RL.ag (v:=vJ q) ai (RL.ag (v:=.int .i64 (x)) ai (RL.ak (RW.seq ?_)))))))
 replace hN:=hN.ext (Ext.drew eW)
 refine RW.bD (fun u=>aI w none_ u []) 21 [(0,0),(1,0),(2,1),(3,0),(4,0),(5,0),(6,0),(7,0),(8,0),(9,0),(11,0),(12,0),(13,0),(14,0),(15,0),(16,0),(10,1),(17,1),(18,0),(19,0),(20,0)] (by intro _ _ _ h;exact h) hN (RQ.aA (v:=.func (.func 166) #[] #[vP gi,vP gt]) rfl (fun w hS=>U) (RQ.aA (v:=.int .i64 (x)) rfl (fun w hS=>U) ?_))
 refine RQ.b0 rfl (cG (first:=#[]) (captured:=#[vP gi,vP gt]) (v0:=.int .i64 (x)) (args:=#[.int .i64 (x),vP gi,vP gt]) aj1 rfl rfl (by simp) rfl rfl ((Bw n gn gi gt _ _ _ _ _ _ g (x) _ (SU.ext hN.bc) (O4.ext hN.bc) (IK.ext hN.bc) (hg.o.now hN) hR sD).mono ?_))
 rintro _ w5 ⟨rfl,bn⟩
 replace hN:=hN.ext bn
 clear bn
 refine⟨hN,?_⟩
 refine RQ.aA rfl (fun w hS=>(cV rfl)) (RQ.aA (v:=.bool (decide (¬((0≤x∧x<n)∧x∉g)))) rfl (fun w hS=>U) ?_)
 by_cases rp:¬((0≤x∧x<n)∧x∉g)
 rw[decide_eq_true rp]
 iterate 3 refine RQ.bU rfl ?_
 iterate 11 refine RQ.dS rfl ?_
 refine RQ.bU rfl (RQ.aA (v:=.bool true) rfl (fun w hS=>(al)) (RQ.bq (aw (RW.bF (RW.aN (RL.ag (v:=.bool false) ai (RL.ak ?_)))))))
 refine RW.ret (aX ?_)
 iterate 2 refine aT ?_
 iterate 2 refine aX ?_
 iterate 2 refine aT ?_
 refine aX (aT (bb (RV.tmp rfl) ?_))
 exact⟨congrArg acO (decide_eq_false (fun h:gL (fun x=>x) (fun x=>(0≤x∧x<n)∧x∉g) nn ls=>by
  have h1:=h.1
  first
  |omega
  |exact absurd ((h.2 lp kE).1 x (acy hx)) (by assumption)
  |exact absurd (h.2 lp kE) (j5 hx (by omega) hy (by assumption)))).symm,hN.bc⟩
 rw[decide_eq_false rp]
 refine RQ.aS (v:=vJ q) rfl (fun w hS=>U) (RQ.aS rfl (fun w hS=>(cr)) (RQ.aS (v:=.bool (decide (0<(q:Int)))) rfl (fun w hS=>U) ?_))
 by_cases rn:0<(q:Int)
 rw[decide_eq_true rn]
 refine RQ.aS (v:=.func (.func 160) #[] #[]) rfl (fun w hS=>U) (RQ.aS (v:=.int .i64 (x)) rfl (fun w hS=>U) (RQ.aS (v:=.func (.func 160) #[] #[]) rfl (fun w hS=>U) (RQ.aS (v:=(vh ap)) rfl (fun w hS=>U) (RQ.aS (v:=vJ q) rfl (fun w hS=>U) (RQ.aS rfl (fun w hS=>(aD rfl rfl rfl (pg (by omega) (by omega)))) (RQ.aS rfl (fun w hS=>(aC acu bK ((jt.iq bX ey).now hS))) (RQ.aS rfl (fun w hS=>(aF (m:=((q:Int)-1).toNat) (a:=y) acs ((jt.iq bX ey).now hS) (by rw[show((q:Int)-1).toNat=q-1 by omega];exact hy))) ?_)))))))
 refine RQ.ob rfl rfl rfl rfl (cG (first:=#[]) (captured:=#[]) (v0:=.int .i64 (x)) (args:=#[.int .i64 (x)]) agp rfl rfl (by simp) rfl rfl ((lY (x) _).mono ?_))
 rintro _ w7 ⟨rfl,bn⟩
 replace hN:=hN.ext bn
 clear bn
 refine⟨hN,?_⟩
 refine RQ.ob rfl rfl rfl rfl (cG (first:=#[]) (captured:=#[]) (v0:=.int .i64 (y)) (args:=#[.int .i64 (y)]) agp rfl rfl (by simp) rfl rfl ((lY (y) _).mono ?_))
 rintro _ w8 ⟨rfl,bn⟩
 replace hN:=hN.ext bn
 clear bn
 refine⟨hN,?_⟩
 refine RQ.aS rfl (fun w hS=>(mw rfl rfl)) (RQ.aS (v:=.bool (decide (x≤y))) rfl (fun w hS=>(al)) (RQ.aA (v:=.bool (decide (x≤y))) rfl (fun w hS=>(aB)) (RQ.bq (aw ?_))))
 refine RW.aG _ (fun fJ=>?_) (fun fJ=>?_)
 refine RW.aN (RL.ag (v:=.bool false) ai (RL.ak (RW.ret (aX ?_))))
 iterate 2 refine aT ?_
 iterate 2 refine aX ?_
 iterate 2 refine aT ?_
 refine aX (aT (bb (RV.tmp rfl) ?_))
 exact⟨congrArg acO (decide_eq_false (fun h:gL (fun x=>x) (fun x=>(0≤x∧x<n)∧x∉g) nn ls=>by
  have h1:=h.1
  first
  |omega
  |exact absurd ((h.2 lp kE).1 x (acy hx)) (by assumption)
  |exact absurd (h.2 lp kE) (j5 hx (by omega) hy (by assumption)))).symm,hN.bc⟩
 refine RW.skip (aY (aw (RW.region (RL.ag (aD rfl rfl rfl (bh (by omega) (by omega))) (RL.ag (v:=.int .i64 ((q:Int)+1)) U (RL.ak ?_))))))
 exact⟨k2-1,by omega,q+1,rfl,rfl,rfl,rfl,rfl,rfl,rfl,rfl,rfl,hN,by omega,kd lM hx (acU.1 (by assumption)) (fun z h0 hz=>by
   rw[hy]at hz;cases hz;omega)⟩
 rw[decide_eq_false rn]
 iterate 11 refine RQ.bU rfl ?_
 refine RQ.aS (v:=.bool false) rfl (fun w hS=>(aB)) (RQ.aA (v:=.bool false) rfl (fun w hS=>(aB)) (RQ.bq (aw (RW.cg (RW.skip (aY (aw (RW.region (RL.ag (aD rfl rfl rfl (bh (by omega) (by omega))) ?_)))))))))
 refine RL.ag (v:=.int .i64 ((q:Int)+1)) U (RL.ak ?_)
 exact⟨k2-1,by omega,q+1,rfl,rfl,rfl,rfl,rfl,rfl,rfl,rfl,rfl,hN,by omega,kd lM hx (acU.1 (by assumption)) (fun z h0 hz=>by
   rw[hy]at hz;cases hz;omega)⟩
 refine RW.exit ?_
 iterate 2 refine bS ?_
 refine ba (aY (aw ?_))
 rw[show q=lp.length by omega,adn]at lM
 refine RW.region (RL.ag (aD rfl rfl rfl (bh (by omega) (by omega))) (RL.ag (v:=.int .i64 ((i:Int)+1)) U (RL.ak ?_)))
 exact⟨k-1,by omega,i+1,rfl,rfl,rfl,rfl,rfl,hN,by omega,fun m r hm hr=>(adh m i).elim (fun e=>rQ m r e hr) (fun e=>have e2:m=i:=(by omega);have e3:r=lp:=ac2 (hr.symm.trans (e2▸ey));e3▸lM)⟩
 refine RW.exit ?_
 iterate 2 refine bS ?_
 refine ba (aw (RW.aN (RL.ag (v:=.bool true) ai (RL.ak (RW.ret (bb (RV.tmp rfl) ?_))))))
 exact⟨congrArg acO (decide_eq_true (show gL (fun x=>x) (fun x=>(0≤x∧x<n)∧x∉g) nn ls from⟨by omega,fun r hr=>by
  have aO:=ac9 hr
  obtain⟨m,hm⟩:=aO
  exact rQ m r (by have:=(acA.1 hm).1;omega) hm⟩)).symm,hN.bc⟩
theorem lB (nn:Int) (gt:Nat) (gv fv ov iv db dc:Value) (g:List Int) (lv:Value) (hs:List Hd) (ls:List (List I2)) (w:World) (IK:iu w gt [gv,fv,ov,iv,db,dc] 32) (hg:Sl vI w gv g) (hR:uX g) (sD:g.length≤16777216) (hl:Sl vh w lv hs) (jt:gN none_ bG w hs ls):aM acx 169 #[lv,.int .i64 nn,.func (.func 161) #[] #[],.func (.func 163) #[] #[vP gt]] w fun r w'=>r=.bool (decide (gL (fun x:I2=>x.1) (fun x:I2=>x.1∈g∧dp 0 x.2) nn ls))∧Ext w w':=by
 refine aM.aZ air ?_
 rw[kX]
 have hN:=aI.nil w none_
 have EZ:=jt.1
 refine RW.aN (RL.ag (v:=.bool false) ai (RL.ak ?_))
 iterate 2 refine RW.seq ?_
 refine RW.region (RL.ag (v:=lv) U ?_)
 have nG:=(hl.o.now hN).bw
 refine RL.ag (aQ ac0 (hl.o.now hN)) (RL.ag (v:=.int .i64 (nn)) U (RL.ag (bj) (RL.ak ?_)))
 refine RW.aG _ (fun hlen=>?_) (fun hlen=>?_)
 refine RW.aN (RL.ag (v:=.bool false) ai (RL.ak (RW.ret (aT (bb (RV.tmp rfl) ?_)))))
 exact⟨congrArg acO (decide_eq_false (fun h:gL (fun x:I2=>x.1) (fun x:I2=>x.1∈g∧dp 0 x.2) nn ls=>by
  have h1:=h.1
  first
  |omega
  |exact absurd ((h.2 lp kE).1 x (acy hx)) (by assumption)
  |exact absurd (h.2 lp kE) (j5 hx (by omega) hy (by assumption)))).symm,hN.bc⟩
 refine RW.skip (aw ?_)
 iterate 2 refine RW.seq ?_
 refine RW.region (RL.ag (v:=lv) U (RL.ag (aQ ac0 (hl.o.now hN)) (RL.ag (v:=.int .i64 (0)) U (RL.ak (RW.block ?_)))))
 refine RW.loop (fun k R0 cz=>∃i:Nat,R0 2=.func (.func 161) #[] #[]∧R0 3=.func (.func 163) #[] #[vP gt]∧R0 17=lv∧R0 18=.int .i64 ((hs.length:Int))∧R0 19=vJ i∧aI w none_ cz []∧(i+k=hs.length)∧(∀m r,m<i→ls[m]?=some r→uW (fun x:I2=>x.1) (fun x:I2=>x.1∈g∧dp 0 x.2) r)) (hs.length) ?_ ?_
 exact⟨0,rfl,rfl,rfl,rfl,rfl,hN,by omega,fun m r hm=>absurd hm (by omega)⟩
 clear hN
 rintro k R0 cz ⟨i,bV,cd,fq,fH,gj,hN,gk,rQ⟩
 have cB:=iw bV cd fq fH gj
 obtain⟨gF,rfl⟩:=cB
 clear bV cd fq fH gj
 refine RW.aN (RL.ag (aL) (RL.ak (RW.seq ?_)))
 refine RW.aG _ (fun cD=>?_) (fun cD=>?_)
 refine RW.skip (aw (RW.seq (RW.block (RW.seq ?_))))
 have Lc:=jt.1
 have aO:=da hs i
 obtain⟨ap,bX⟩:=aO
 have aO:=da ls i
 obtain⟨lp,ey⟩:=aO
 have kE:=acy ey
 refine RW.region (RL.ag (aC ac0 lr (hl.o.now hN)) (RL.ag (aF (m:=i) (a:=ap) acW (hl.o.now hN) bX) (RL.ag (v:=(vh ap)) ai (RL.b6 (RL.ag (v:=(vh ap)) U ?_)))))
 have k9:=((jt.iq bX ey).now hN).bw
 refine RL.ag (bO acW ((jt.iq bX ey).now hN)) (RL.ag (v:=.int .i64 (0)) U (RL.ak (RW.block ?_)))
 refine RW.loop (fun k2 R1 eW=>∃q:Nat,R1 2=.func (.func 161) #[] #[]∧R1 3=.func (.func 163) #[] #[vP gt]∧R1 10=(vh ap)∧R1 17=lv∧R1 18=.int .i64 ((hs.length:Int))∧R1 19=vJ i∧R1 23=(vh ap)∧R1 24=.int .i64 ((lp.length:Int))∧R1 25=vJ q∧aI w none_ eW []∧(q+k2=lp.length)∧(uW (fun x:I2=>x.1) (fun x:I2=>x.1∈g∧dp 0 x.2) (lp.take q))) (lp.length) ?_ ?_
 exact⟨0,rfl,rfl,rfl,rfl,rfl,rfl,rfl,rfl,rfl,hN,by omega,tx _ _⟩
 clear hN
 rintro k2 R1 eW ⟨q,bV,cd,df,fq,fH,gj,iV,rl,gg,hN,yq,lM⟩
 have cB:=Nz bV cd df fq fH gj iV rl gg
 obtain⟨sk,rfl⟩:=cB
 clear bV cd df fq fH gj iV rl gg
 refine RW.aN (RL.ag (aL) (RL.ak (RW.seq ?_)))
 refine RW.aG _ (fun eD=>?_) (fun eD=>?_)
 refine RW.skip (aw (RW.seq (RW.block (RW.seq ?_))))
 have aO:=da lp q
 obtain⟨x,hx⟩:=aO
 obtain⟨y,hy⟩:∃y,lp[q-1]?=some y:=⟨_,acE (by omega)⟩
 refine RW.region (RL.ag (v:=vJ q) U (RL.ag (aU acW ef bp ((jt.iq bX ey).now hN)) (RL.ag (b8 (m:=q) (a:=x) acS ef bp ((jt.iq bX ey).now hN) hx (cs:=[.int .i64 (x.1),.int .i64 (x.2)])) ?_)))
 refine RL.aK (bz (cs:=[.int .i64 (0),.int .i64 (0)]) o4 rfl hN ?_)
 clear hN
 intro g4 w4 (hN:aI w none_ w4 [_])
 refine RL.ag (v:=vJ q) ai ?_
 refine RL.aK (aR (vs:=[.int .i64 (x.1),.int .i64 (x.2)]) ef rfl rfl rfl (aW (aW cZ)) hN 0 rfl rfl ?_)
 clear hN
 intro w5 (hN:aI w none_ w5 [_])
 refine RL.ak (RW.seq ?_)
 replace hN:=hN.ext (Ext.drew w5)
 refine RW.bD (fun u=>aI w none_ u [.aJ g4 [.int .i64 (x.1),.int .i64 (x.2)] 135]) 21 [(0,0),(1,0),(2,1),(3,0),(4,0),(5,0),(6,0),(7,0),(8,0),(9,0),(11,0),(12,0),(13,0),(14,0),(15,0),(16,0),(10,1),(17,1),(18,0),(19,0),(20,0)] (by intro _ _ _ h;exact h) hN (RQ.aA (v:=.func (.func 163) #[] #[vP gt]) rfl (fun w hS=>U) (RQ.aA rfl (fun w hS=>(aE (cs:=[.int .i64 (x.1),.int .i64 (x.2)]) acS ef (hS.aJ 0 rfl))) ?_))
 refine RQ.b0 rfl (cG (first:=#[]) (captured:=#[vP gt]) (v0:=.agg #[.int .i64 (x.1),.int .i64 (x.2)]) (args:=#[.agg #[.int .i64 (x.1),.int .i64 (x.2)],vP gt]) aj0 rfl rfl (by simp) rfl rfl ((xG gt _ _ _ _ _ _ g (x.1,x.2) _ (IK.ext hN.bc) (hg.o.now hN) hR sD).mono ?_))
 rintro _ w6 ⟨rfl,bn⟩
 replace hN:=hN.ext bn
 clear bn
 refine⟨hN,?_⟩
 refine RQ.aA rfl (fun w hS=>(cV rfl)) (RQ.aA (v:=.bool (decide (¬(x.1∈g∧dp 0 x.2)))) rfl (fun w hS=>U) ?_)
 by_cases rp:¬(x.1∈g∧dp 0 x.2)
 rw[decide_eq_true rp]
 iterate 3 refine RQ.bU rfl ?_
 iterate 11 refine RQ.dS rfl ?_
 refine RQ.bU rfl (RQ.aA (v:=.bool true) rfl (fun w hS=>(al)) (RQ.bq (aw (RW.bF (RW.aN (RL.ag (v:=.bool false) ai (RL.ak ?_)))))))
 refine RW.ret (aX ?_)
 iterate 2 refine aT ?_
 iterate 2 refine aX ?_
 iterate 2 refine aT ?_
 refine aX (aT (bb (RV.tmp rfl) ?_))
 exact⟨congrArg acO (decide_eq_false (fun h:gL (fun x:I2=>x.1) (fun x:I2=>x.1∈g∧dp 0 x.2) nn ls=>by
  have h1:=h.1
  first
  |omega
  |exact absurd ((h.2 lp kE).1 x (acy hx)) (by assumption)
  |exact absurd (h.2 lp kE) (j5 hx (by omega) hy (by assumption)))).symm,hN.bc⟩
 rw[decide_eq_false rp]
 refine RQ.aS (v:=vJ q) rfl (fun w hS=>U) (RQ.aS rfl (fun w hS=>(cr)) (RQ.aS (v:=.bool (decide (0<(q:Int)))) rfl (fun w hS=>U) ?_))
 by_cases rn:0<(q:Int)
 rw[decide_eq_true rn]
 refine RQ.aS (v:=.func (.func 161) #[] #[]) rfl (fun w hS=>U) (RQ.aS rfl (fun w hS=>(aE (cs:=[.int .i64 (x.1),.int .i64 (x.2)]) acS ef (hS.aJ 0 rfl))) (RQ.aS (v:=.func (.func 161) #[] #[]) rfl (fun w hS=>U) (RQ.aS (v:=(vh ap)) rfl (fun w hS=>U) (RQ.aS (v:=vJ q) rfl (fun w hS=>U) (RQ.aS rfl (fun w hS=>(aD rfl rfl rfl (pg (by omega) (by omega)))) (RQ.aS rfl (fun w hS=>(aU acW ef bp ((jt.iq bX ey).now hS))) (RQ.aS rfl (fun w hS=>(b8 (m:=((q:Int)-1).toNat) (a:=y) acS ef bp ((jt.iq bX ey).now hS) (by rw[show((q:Int)-1).toNat=q-1 by omega];exact hy) (cs:=[.int .i64 (y.1),.int .i64 (y.2)]))) ?_)))))))
 refine RQ.ob rfl rfl rfl rfl (cG (first:=#[]) (captured:=#[]) (v0:=.agg #[.int .i64 (x.1),.int .i64 (x.2)]) (args:=#[.agg #[.int .i64 (x.1),.int .i64 (x.2)]]) aio rfl rfl (by simp) rfl rfl ((wU (x.1,x.2) _).mono ?_))
 rintro _ w7 ⟨rfl,bn⟩
 replace hN:=hN.ext bn
 clear bn
 refine⟨hN,?_⟩
 refine RQ.ob rfl rfl rfl rfl (cG (first:=#[]) (captured:=#[]) (v0:=.agg #[.int .i64 (y.1),.int .i64 (y.2)]) (args:=#[.agg #[.int .i64 (y.1),.int .i64 (y.2)]]) aio rfl rfl (by simp) rfl rfl ((wU (y.1,y.2) _).mono ?_))
 rintro _ w8 ⟨rfl,bn⟩
 replace hN:=hN.ext bn
 clear bn
 refine⟨hN,?_⟩
 refine RQ.aS rfl (fun w hS=>(mw rfl rfl)) (RQ.aS (v:=.bool (decide (x.1≤y.1))) rfl (fun w hS=>(al)) (RQ.aA (v:=.bool (decide (x.1≤y.1))) rfl (fun w hS=>(aB)) (RQ.bq (aw ?_))))
 refine RW.aG _ (fun fJ=>?_) (fun fJ=>?_)
 refine RW.aN (RL.ag (v:=.bool false) ai (RL.ak (RW.ret (aX ?_))))
 iterate 2 refine aT ?_
 iterate 2 refine aX ?_
 iterate 2 refine aT ?_
 refine aX (aT (bb (RV.tmp rfl) ?_))
 exact⟨congrArg acO (decide_eq_false (fun h:gL (fun x:I2=>x.1) (fun x:I2=>x.1∈g∧dp 0 x.2) nn ls=>by
  have h1:=h.1
  first
  |omega
  |exact absurd ((h.2 lp kE).1 x (acy hx)) (by assumption)
  |exact absurd (h.2 lp kE) (j5 hx (by omega) hy (by assumption)))).symm,hN.bc⟩
 refine RW.skip (aY (aw (RW.region (RL.ag (aD rfl rfl rfl (bh (by omega) (by omega))) (RL.ag (v:=.int .i64 ((q:Int)+1)) U (RL.ak ?_))))))
 exact⟨k2-1,by omega,q+1,rfl,rfl,rfl,rfl,rfl,rfl,rfl,rfl,rfl,(hN.sb []),by omega,kd lM hx (acU.1 (by assumption)) (fun z h0 hz=>by
   rw[hy]at hz;cases hz;omega)⟩
 rw[decide_eq_false rn]
 iterate 11 refine RQ.bU rfl ?_
 refine RQ.aS (v:=.bool false) rfl (fun w hS=>(aB)) (RQ.aA (v:=.bool false) rfl (fun w hS=>(aB)) (RQ.bq (aw (RW.cg (RW.skip (aY (aw (RW.region (RL.ag (aD rfl rfl rfl (bh (by omega) (by omega))) ?_)))))))))
 refine RL.ag (v:=.int .i64 ((q:Int)+1)) U (RL.ak ?_)
 exact⟨k2-1,by omega,q+1,rfl,rfl,rfl,rfl,rfl,rfl,rfl,rfl,rfl,(hN.sb []),by omega,kd lM hx (acU.1 (by assumption)) (fun z h0 hz=>by
   rw[hy]at hz;cases hz;omega)⟩
 refine RW.exit ?_
 iterate 2 refine bS ?_
 refine ba (aY (aw ?_))
 rw[show q=lp.length by omega,adn]at lM
 refine RW.region (RL.ag (aD rfl rfl rfl (bh (by omega) (by omega))) (RL.ag (v:=.int .i64 ((i:Int)+1)) U (RL.ak ?_)))
 exact⟨k-1,by omega,i+1,rfl,rfl,rfl,rfl,rfl,hN,by omega,fun m r hm hr=>(adh m i).elim (fun e=>rQ m r e hr) (fun e=>have e2:m=i:=(by omega);have e3:r=lp:=ac2 (hr.symm.trans (e2▸ey));e3▸lM)⟩
 refine RW.exit ?_
 iterate 2 refine bS ?_
 refine ba (aw (RW.aN (RL.ag (v:=.bool true) ai (RL.ak (RW.ret (bb (RV.tmp rfl) ?_))))))
 exact⟨congrArg acO (decide_eq_true (show gL (fun x:I2=>x.1) (fun x:I2=>x.1∈g∧dp 0 x.2) nn ls from⟨by omega,fun r hr=>by
  have aO:=ac9 hr
  obtain⟨m,hm⟩:=aO
  exact rQ m r (by have:=(acA.1 hm).1;omega) hm⟩)).symm,hN.bc⟩
end Go.Proofs.YtngkdkbpgoddlaaGreat
namespace Go.Proofs.YtngkdkbpgoddlaaGreat
open Go.RowKit Go.Rl
open Go.Gr
theorem LF {w:World} {h:Hd} {l:List Int} (hs:Sl vI w (vh h) l):fW none_ vI w [h] [l]:=by
  refine⟨rfl,fun i a b ha hb=>?_⟩
  match i,ha,hb with
  |0,ha,hb=>cases ha;cases hb;exact hs.o
  |_+1,ha,_=>cases ha
theorem D2 (n:Int) (w:World) (gh:Hd) (gl:List Int) (hg:Sl vI w (vh gh) gl) (fv:Value) (fh:List Hd) (fl:List (List Int)) (hf:Sl vh w fv fh) (o0:fW none_ vI w fh fl) (ov:Value) (oh:List Hd) (ol:List (List I2)) (ho:Sl vh w ov oh) (FU:gN none_ bG w oh ol) (iv:Value) (ih:List Hd) (il:List (List I2)) (hi:Sl vh w iv ih) (ui:gN none_ bG w ih il) (db:Value) (su:List Hd) (eS:List (List Int)) (gV:Sl vh w db su) (rM:fW none_ vI w su eS) (dc:Value) (sx:List Hd) (eX:List (List Int)) (gQ:Sl vh w dc sx) (rN:fW none_ vI w sx eX) (sD:gl.length≤16777216):aM acx 107 #[.int .i64 n,.agg #[(vh gh),fv,ov,iv,db,dc]] w fun r w'=>r=.int .i64 (dH n gl fl ol il eS eX)∧Ext w w':=by
 refine aM.aZ aj5 ?_
 rw[cT]
 have hN:=aI.nil w none_
 refine RW.aN ?_
 refine RL.aK (bL (cs:=[.int .i64 (n)]) rfl rfl hN ?_)
 clear hN
 intro g1 w1 (hN:aI w none_ w1 [_])
 refine RL.aK (bL (cs:=[(vh gh),fv,ov,iv,db,dc]) rfl rfl hN ?_)
 clear hN
 intro g2 w2 (hN:aI w none_ w2 [_,_])
 refine RL.ag (v:=.int .i64 (0)) ai (RL.b6 (RL.ag (v:=.func (.func 160) #[] #[]) ai (RL.ak (RW.aN ?_))))
 refine RL.ag (v:=.func (.func 161) #[] #[]) ai (RL.b6 (RL.ag (dP (vs:=[vP g1]) (xs:=[.tmp 2]) rfl rfl) ?_))
 refine RL.aK (bz (cs:=[.nilFunc]) J6 rfl hN ?_)
 clear hN
 intro g3 w3 (hN:aI w none_ w3 [_,_,_])
 refine RL.aK (ca QP rfl rfl rfl rfl hN 0 rfl (acv rfl) ?_)
 clear hN
 intro w4 (hN:aI w none_ w4 [_,_,_])
 refine RL.b6 (RL.ag (dP (vs:=[vP g2]) (xs:=[.tmp 3]) rfl rfl) (RL.ag (v:=.func (.func 163) #[] #[vP g2]) ai (RL.ak (RW.aN ?_))))
 refine RL.ag (dP (vs:=[vP g3,vP g2]) (xs:=[.tmp 7,.tmp 3]) rfl rfl) (RL.ag (v:=.func (.func 166) #[] #[vP g3,vP g2]) ai (RL.ak (RW.seq (RW.block (RW.seq ?_)))))
 iterate 3 refine RW.block ?_
 refine RW.seq (RW.block ?_)
 iterate 3 refine RW.seq ?_
 refine RW.region (RL.ag (aj acs (hN.aJ 2 rfl)) (RL.ag (cr) (RL.ag (v:=.bool (decide (16777216<n))) ai (RL.ak ?_))))
 refine RW.aG _ (fun j8=>?_) (fun j8=>?_)
 refine RW.exit ?_
 iterate 2 refine bS ?_
 refine ba (aw ?_)
 iterate 2 refine RW.seq ?_
 refine RW.region (RL.ag (v:=.int .i64 (3)) ai (RL.ak (RW.ret (aT ?_))))
 iterate 3 refine aX ?_
 refine aT (aX (aT (bb (RV.tmp rfl) ?_)))
 exact⟨congrArg (acZ .i64) (show dH n gl fl ol il eS eX=3 by
  unfold dH
  rw[if_pos (by omega)]).symm,hN.bc⟩
 refine RW.skip (aw ?_)
 iterate 3 refine RW.seq ?_
 refine RW.region (RL.ag (aj acs (hN.aJ 2 rfl)) (RL.ag (aL) (RL.ag (v:=.bool (decide (n<0))) ai (RL.ak ?_))))
 refine RW.aG _ (fun oP=>?_) (fun oP=>?_)
 refine RW.skip (aw (RW.mD _ rfl oP (RW.exit ?_)))
 iterate 2 refine bS ?_
 refine eF (by decide) (bS (ba ?_))
 iterate 2 refine aY ?_
 refine aw ?_
 iterate 2 refine RW.seq ?_
 refine RW.region (RL.ag (v:=.int .i64 (2)) ai (RL.ak (RW.ret (aT (aX (aT (bb (RV.tmp rfl) ?_)))))))
 exact⟨congrArg (acZ .i64) (show dH n gl fl ol il eS eX=2 by
  unfold dH
  rw[if_neg (by omega),if_neg (fun h=>by
  obtain⟨q1,q2,q3,q4,q5,q6,q7⟩:=h
  have q8:=fun x hx=>(q2.1 x hx).1
  first
  |omega
  |exact absurd (gO.2 q2) (by assumption)
  |exact absurd q3 (by assumption)
  |exact absurd ((dQ q8).2 q4) (by assumption)
  |exact absurd ((dQ q8).2 q5) (by assumption)
  |exact absurd (eZ.2 q6) (by assumption)
  |exact absurd (eZ.2 q7) (by assumption))]).symm,hN.bc⟩
 refine RW.aN (RL.ag (ah acK rfl cj) (RL.ag (aj acu (hN.aJ 1 rfl)) ?_))
 refine RL.aK (cw (enc:=vh) (l:=[gh]) (xs:=[.tmp 20]) acJ cj zf rfl rfl (fun _=>rfl) rfl (by decide) (by decide) hN ?_)
 clear hN
 intro g5 w5 (hN:aI w none_ w5 [_,_,_,_])
 refine RL.ag (v:=.func (.func 160) #[] #[]) U (RL.ag (aj aiq (hN.aJ 1 rfl)) ?_)
 refine RL.aK (dK agq rfl rfl rfl rfl rfl rfl ((xN (1) n g1 _ [gh] [gl] _ (hN.aJ 3 rfl) (hN.sl 0 rfl) (LF (hg.o.now hN))).mono ?_))
 rintro _ w6 ⟨rfl,bn⟩
 replace hN:=hN.ext bn
 clear bn
 refine RL.ag (cV rfl) (RL.ag (v:=.bool (decide (¬(gL (fun x=>x) (fun x=>0≤x∧x<n) (1) [gl])))) ai (RL.ak ?_))
 refine RW.aG _ (fun oP=>?_) (fun oP=>?_)
 refine RW.skip (aw (RW.mD _ rfl oP (RW.exit ?_)))
 iterate 2 refine bS ?_
 refine eF (by decide) (bS (ba ?_))
 iterate 2 refine aY ?_
 refine aw ?_
 iterate 2 refine RW.seq ?_
 refine RW.region (RL.ag (v:=.int .i64 (2)) ai (RL.ak (RW.ret (aT (aX (aT (bb (RV.tmp rfl) ?_)))))))
 exact⟨congrArg (acZ .i64) (show dH n gl fl ol il eS eX=2 by
  unfold dH
  rw[if_neg (by omega),if_neg (fun h=>by
  obtain⟨q1,q2,q3,q4,q5,q6,q7⟩:=h
  have q8:=fun x hx=>(q2.1 x hx).1
  first
  |omega
  |exact absurd (gO.2 q2) (by assumption)
  |exact absurd q3 (by assumption)
  |exact absurd ((dQ q8).2 q4) (by assumption)
  |exact absurd ((dQ q8).2 q5) (by assumption)
  |exact absurd (eZ.2 q6) (by assumption)
  |exact absurd (eZ.2 q7) (by assumption))]).symm,hN.bc⟩
 refine RW.region (RL.ag (aE (cs:=[(vh gh),fv,ov,iv,db,dc]) acK iD (hN.aJ 2 rfl)) ?_)
 refine RL.aK (bo aj4 rfl rfl rfl ((Bx _ _ _ _ _ _ _ gl fh fl (hg.o.now hN) (hf.o.now hN) (o0.gD hN)).mono ?_))
 rintro _ w7 ⟨rfl,bn⟩
 replace hN:=hN.ext bn
 clear bn
 refine RL.ag (cV rfl) (RL.ag (v:=.bool (decide (¬(p6 gl fl)))) ai (RL.ak ?_))
 refine RW.aG _ (fun oP=>?_) (fun oP=>?_)
 refine RW.exit ?_
 iterate 2 refine bS ?_
 refine eF (by decide) (bS (ba ?_))
 iterate 2 refine aY ?_
 refine aw ?_
 iterate 2 refine RW.seq ?_
 refine RW.region (RL.ag (v:=.int .i64 (2)) ai (RL.ak (RW.ret (aT (aX (aT (bb (RV.tmp rfl) ?_)))))))
 exact⟨congrArg (acZ .i64) (show dH n gl fl ol il eS eX=2 by
  unfold dH
  rw[if_neg (by omega),if_neg (fun h=>by
  obtain⟨q1,q2,q3,q4,q5,q6,q7⟩:=h
  have q8:=fun x hx=>(q2.1 x hx).1
  first
  |omega
  |exact absurd (gO.2 q2) (by assumption)
  |exact absurd q3 (by assumption)
  |exact absurd ((dQ q8).2 q4) (by assumption)
  |exact absurd ((dQ q8).2 q5) (by assumption)
  |exact absurd (eZ.2 q6) (by assumption)
  |exact absurd (eZ.2 q7) (by assumption))]).symm,hN.bc⟩
 refine RW.skip (aw ?_)
 iterate 3 refine RW.seq ?_
 have HP:js n (p8 gl 2) gl:=gO.1 (acU.1 (by assumption))
 have hR:uX gl:=HP.2
 have XJ:=fun x hx=>(HP.1 x hx).1
 refine RW.region (RL.ag (ah acK rfl jf) (RL.ag (aj ac0 (hN.aJ 2 rfl)) (RL.ag (aj acs (hN.aJ 3 rfl)) (RL.ag (v:=.func (.func 161) #[] #[]) U (RL.ag (v:=.func (.func 163) #[] #[vP g2]) U ?_)))))
 refine RL.aK (dK air rfl rfl rfl rfl rfl rfl ((lB (n) g2 _ _ _ _ _ _ gl _ oh ol _ (hN.aJ 2 rfl) (hg.o.now hN) hR sD (ho.o.now hN) (FU.ext hN.bc)).mono ?_))
 rintro _ w8 ⟨rfl,bn⟩
 replace hN:=hN.ext bn
 clear bn
 refine RL.ag (cV rfl) (RL.ag (v:=.bool (decide (¬(gL (fun x:I2=>x.1) (fun x=>x.1∈gl∧dp 0 x.2) (n) ol)))) ai (RL.ak ?_))
 refine RW.aG _ (fun Lk=>?_) (fun Lk=>?_)
 refine RW.skip (aw (RW.mD _ rfl Lk (RW.exit ?_)))
 iterate 2 refine bS ?_
 refine eF (by decide) (bS (eF (by decide) (ba (aY (aw ?_)))))
 iterate 2 refine RW.seq ?_
 refine RW.region (RL.ag (v:=.int .i64 (2)) ai (RL.ak (RW.ret (aT (aX (aT (bb (RV.tmp rfl) ?_)))))))
 exact⟨congrArg (acZ .i64) (show dH n gl fl ol il eS eX=2 by
  unfold dH
  rw[if_neg (by omega),if_neg (fun h=>by
  obtain⟨q1,q2,q3,q4,q5,q6,q7⟩:=h
  have q8:=fun x hx=>(q2.1 x hx).1
  first
  |omega
  |exact absurd (gO.2 q2) (by assumption)
  |exact absurd q3 (by assumption)
  |exact absurd ((dQ q8).2 q4) (by assumption)
  |exact absurd ((dQ q8).2 q5) (by assumption)
  |exact absurd (eZ.2 q6) (by assumption)
  |exact absurd (eZ.2 q7) (by assumption))]).symm,hN.bc⟩
 refine RW.region (RL.ag (ah acK rfl jf) (RL.ag (aj ac0 (hN.aJ 2 rfl)) (RL.ag (aj acs (hN.aJ 3 rfl)) (RL.ag (v:=.func (.func 161) #[] #[]) U (RL.ag (v:=.func (.func 163) #[] #[vP g2]) U ?_)))))
 refine RL.aK (dK air rfl rfl rfl rfl rfl rfl ((lB (n) g2 _ _ _ _ _ _ gl _ ih il _ (hN.aJ 2 rfl) (hg.o.now hN) hR sD (hi.o.now hN) (ui.ext hN.bc)).mono ?_))
 rintro _ w9 ⟨rfl,bn⟩
 replace hN:=hN.ext bn
 clear bn
 refine RL.ag (cV rfl) (RL.ag (v:=.bool (decide (¬(gL (fun x:I2=>x.1) (fun x=>x.1∈gl∧dp 0 x.2) (n) il)))) ai (RL.ak ?_))
 refine RW.aG _ (fun Lk=>?_) (fun Lk=>?_)
 refine RW.exit ?_
 iterate 2 refine bS ?_
 refine eF (by decide) (bS (eF (by decide) (ba (aY (aw ?_)))))
 iterate 2 refine RW.seq ?_
 refine RW.region (RL.ag (v:=.int .i64 (2)) ai (RL.ak (RW.ret (aT (aX (aT (bb (RV.tmp rfl) ?_)))))))
 exact⟨congrArg (acZ .i64) (show dH n gl fl ol il eS eX=2 by
  unfold dH
  rw[if_neg (by omega),if_neg (fun h=>by
  obtain⟨q1,q2,q3,q4,q5,q6,q7⟩:=h
  have q8:=fun x hx=>(q2.1 x hx).1
  first
  |omega
  |exact absurd (gO.2 q2) (by assumption)
  |exact absurd q3 (by assumption)
  |exact absurd ((dQ q8).2 q4) (by assumption)
  |exact absurd ((dQ q8).2 q5) (by assumption)
  |exact absurd (eZ.2 q6) (by assumption)
  |exact absurd (eZ.2 q7) (by assumption))]).symm,hN.bc⟩
 refine RW.skip (aw ?_)
 iterate 2 refine RW.seq ?_
 refine RW.region (RL.ag (ah acK rfl fP) (RL.ag (aj acJ (hN.aJ 2 rfl)) (RL.ag (aj acs (hN.aJ 3 rfl)) (RL.ag (v:=.func (.func 160) #[] #[]) U (RL.ag (v:=.func (.func 166) #[] #[vP g3,vP g2]) U ?_)))))
 refine RL.aK (dK agq rfl rfl rfl rfl rfl rfl ((oe (n) n g1 g3 g2 _ _ _ _ _ _ gl _ su eS _ (hN.aJ 3 rfl) (hN.aJ 1 rfl) (hN.aJ 2 rfl) (hg.o.now hN) hR sD (gV.o.now hN) (rM.gD hN)).mono ?_))
 rintro _ lW ⟨rfl,bn⟩
 replace hN:=hN.ext bn
 clear bn
 refine RL.ag (cV rfl) (RL.ag (v:=.bool (decide (¬(gL (fun x=>x) (fun x=>(0≤x∧x<n)∧x∉gl) (n) eS)))) ai (RL.ak ?_))
 refine RW.aG _ (fun Lh=>?_) (fun Lh=>?_)
 refine RW.skip (aw (RW.mD _ rfl Lh (RW.exit (bS (eF (by decide) (bS ?_))))))
 iterate 2 refine eF (by decide) ?_
 refine ba (aw ?_)
 iterate 2 refine RW.seq ?_
 refine RW.region (RL.ag (v:=.int .i64 (2)) ai (RL.ak (RW.ret (aT (aX (aT (bb (RV.tmp rfl) ?_)))))))
 exact⟨congrArg (acZ .i64) (show dH n gl fl ol il eS eX=2 by
  unfold dH
  rw[if_neg (by omega),if_neg (fun h=>by
  obtain⟨q1,q2,q3,q4,q5,q6,q7⟩:=h
  have q8:=fun x hx=>(q2.1 x hx).1
  first
  |omega
  |exact absurd (gO.2 q2) (by assumption)
  |exact absurd q3 (by assumption)
  |exact absurd ((dQ q8).2 q4) (by assumption)
  |exact absurd ((dQ q8).2 q5) (by assumption)
  |exact absurd (eZ.2 q6) (by assumption)
  |exact absurd (eZ.2 q7) (by assumption))]).symm,hN.bc⟩
 refine RW.region (RL.ag (ah acK rfl fP) (RL.ag (aj acJ (hN.aJ 2 rfl)) (RL.ag (aj acs (hN.aJ 3 rfl)) (RL.ag (v:=.func (.func 160) #[] #[]) U (RL.ag (v:=.func (.func 166) #[] #[vP g3,vP g2]) U ?_)))))
 refine RL.aK (dK agq rfl rfl rfl rfl rfl rfl ((oe (n) n g1 g3 g2 _ _ _ _ _ _ gl _ sx eX _ (hN.aJ 3 rfl) (hN.aJ 1 rfl) (hN.aJ 2 rfl) (hg.o.now hN) hR sD (gQ.o.now hN) (rN.gD hN)).mono ?_))
 rintro _ lR ⟨rfl,bn⟩
 replace hN:=hN.ext bn
 clear bn
 refine RL.ag (cV rfl) (RL.ag (v:=.bool (decide (¬(gL (fun x=>x) (fun x=>(0≤x∧x<n)∧x∉gl) (n) eX)))) ai (RL.ak ?_))
 refine RW.aG _ (fun Lh=>?_) (fun Lh=>?_)
 refine RW.exit (bS (eF (by decide) (bS ?_)))
 iterate 2 refine eF (by decide) ?_
 refine ba (aw ?_)
 iterate 2 refine RW.seq ?_
 refine RW.region (RL.ag (v:=.int .i64 (2)) ai (RL.ak (RW.ret (aT (aX (aT (bb (RV.tmp rfl) ?_)))))))
 exact⟨congrArg (acZ .i64) (show dH n gl fl ol il eS eX=2 by
  unfold dH
  rw[if_neg (by omega),if_neg (fun h=>by
  obtain⟨q1,q2,q3,q4,q5,q6,q7⟩:=h
  have q8:=fun x hx=>(q2.1 x hx).1
  first
  |omega
  |exact absurd (gO.2 q2) (by assumption)
  |exact absurd q3 (by assumption)
  |exact absurd ((dQ q8).2 q4) (by assumption)
  |exact absurd ((dQ q8).2 q5) (by assumption)
  |exact absurd (eZ.2 q6) (by assumption)
  |exact absurd (eZ.2 q7) (by assumption))]).symm,hN.bc⟩
 refine RW.skip (aw (RW.exit (eF (by decide) (bS ?_))))
 iterate 3 refine eF (by decide) ?_
 refine bS (ba (aw (RW.aN (RL.ag (v:=.int .i64 (0)) ai (RL.ak (RW.ret (bb (RV.tmp rfl) ?_)))))))
 exact⟨congrArg (acZ .i64) (show dH n gl fl ol il eS eX=0 by
  unfold dH
  rw[if_neg (by omega),if_pos ⟨by omega,HP,acU.1 (by assumption),(dQ XJ).1 (acU.1 (by assumption)),(dQ XJ).1 (acU.1 (by assumption)),eZ.1 (acU.1 (by assumption)),eZ.1 (acU.1 (by assumption))⟩]).symm,hN.bc⟩
theorem xH (n:Int) (w:World) (gv:Value) (gl:List Int) (hg:Sl vI w gv gl) (fv:Value) (fh:List Hd) (fl:List (List Int)) (hf:Sl vh w fv fh) (o0:fW none_ vI w fh fl) (ov:Value) (oh:List Hd) (ol:List (List I2)) (ho:Sl vh w ov oh) (FU:gN none_ bG w oh ol) (iv:Value) (ih:List Hd) (il:List (List I2)) (hi:Sl vh w iv ih) (ui:gN none_ bG w ih il) (db:Value) (su:List Hd) (eS:List (List Int)) (gV:Sl vh w db su) (rM:fW none_ vI w su eS) (dc:Value) (sx:List Hd) (eX:List (List Int)) (gQ:Sl vh w dc sx) (rN:fW none_ vI w sx eX) (sD:gl.length≤16777216):aM acx 107 #[.int .i64 n,.agg #[gv,fv,ov,iv,db,dc]] w fun r w'=>r=.int .i64 (dH n gl fl ol il eS eX)∧Ext w w':=by
  obtain⟨gh,rfl⟩:=hg.hd
  exact D2 n w gh gl hg fv fh fl hf o0 ov oh ol ho FU iv ih il hi ui db su eS gV rM dc sx eX gQ rN sD
end Go.Proofs.YtngkdkbpgoddlaaGreat
namespace Go.Proofs.YtngkdkbpgoddlaaGreat
open Go.RowKit Go.Rl
open Go.Gr
theorem mr (rv wv:Value) (rk:List Int) (ws:List I5) (w:World) (hr:Sl vI w rv rk) (hw:Sm aV w wv ws) (u v:Int):aM acx 171 #[.agg #[rv,wv],.int .i64 u,.int .i64 v] w fun r w'=>r=.int .i64 (kV (gM u v) ws)∧Ext w w':=by
 refine aM.aZ afy ?_
 rw[iX]
 have hN:=aI.nil w none_
 refine RW.aN ?_
 refine RL.aK (bL (cs:=[rv,wv]) rfl rfl hN ?_)
 clear hN
 intro g1 w1 (hN:aI w none_ w1 [_])
 refine RL.ag (v:=.int .i64 (0)) ai (RL.ak ?_)
 iterate 2 refine RW.seq ?_
 refine RW.region (RL.ag (v:=.int .i64 (0)) ai (RL.ak (RW.block ?_)))
 refine RW.loop (fun k R0 cz=>∃i:Nat,R0 1=.int .i64 (u)∧R0 2=.int .i64 (v)∧R0 3=vP g1∧R0 7=vJ i∧aI w none_ cz [.aJ g1 [rv,wv] 28]∧(i+k=ws.length)∧(∀y∈ws.take i,¬(gM u v) y)) (ws.length) ?_ ?_
 exact⟨0,rfl,rfl,rfl,rfl,hN,by omega,fun x hx=>by cases hx⟩
 clear hN
 rintro k R0 cz ⟨i,bP,bV,cd,cF,hN,gk,fJ⟩
 have cB:=jd bP bV cd cF
 obtain⟨gF,rfl⟩:=cB
 clear bP bV cd cF
 iterate 2 refine RW.seq ?_
 refine RW.region (RL.ag (v:=vJ i) U (RL.ag (ah acz rfl eM) (RL.ag (aj acG (hN.aJ 0 rfl)) ?_)))
 have jm:=(hw.o.now hN).bw
 refine RL.ag (bO acG (hw.o.now hN)) (RL.ag (aL) (RL.ak ?_))
 refine RW.aG _ (fun cD=>?_) (fun cD=>?_)
 refine RW.skip (aw (RW.seq (RW.block (RW.aN (RL.ag (ah acz rfl eM) (RL.ag (aj acG (hN.aJ 0 rfl)) (RL.ag (v:=vJ i) U (RL.ag (aU acG er aH (hw.o.now hN)) ?_))))))))
 have aO:=da (ws) i
 obtain⟨ap,bX⟩:=aO
 refine RL.ag (bl (m:=i) (b:=0) acB rfl bK aH (hw.o.now hN) bX) (RL.ag (bB (m:=i) (j:=0) (a:=ap) acs aH (hw.o.now hN) bX) (RL.ag (v:=.int .i64 (u)) U (RL.ag (bZ) (RL.ag (v:=.bool (decide (ap.1=u))) U ?_))))
 by_cases nF:ap.1=u
 rw[decide_eq_true nF]
 refine RL.an (ah acz rfl eM) (RL.an (aj acG (hN.aJ 0 rfl)) (RL.an (v:=vJ i) U (RL.an (aU acG er aH (hw.o.now hN)) (RL.an (bl (m:=i) (b:=0) acB rfl bK aH (hw.o.now hN) bX) (RL.an (bB (m:=i) (j:=1) (a:=ap) acs aH (hw.o.now hN) bX) (RL.an (v:=.int .i64 (v)) U (RL.an (bZ) (RL.ag (v:=.bool (decide (ap.2.1=v))) (al) (RL.nil ?_)))))))))
 refine aw ?_
 refine RW.aG _ (fun oO=>?_) (fun oO=>?_)
 refine RW.aN (RL.ag (v:=vJ i) U (RL.ag (v:=vJ i) ai (RL.ak (RW.ret (aX ?_)))))
 iterate 2 refine aT ?_
 refine aX (aT (bb (RV.tmp rfl) ?_))
 exact⟨congrArg (acZ .i64) (nH fJ bX ⟨nF,oO⟩).symm,hN.bc⟩
 refine RW.skip (aY (aw (RW.region (RL.ag (v:=vJ i) U (RL.ag (aD rfl rfl rfl (bh (by omega) (by omega))) (RL.ag (v:=.int .i64 ((i:Int)+1)) ai (RL.ak ?_)))))))
 exact⟨k-1,by omega,i+1,rfl,rfl,rfl,rfl,hN,by omega,fun x hx=>(du bX hx).elim (fJ x) (fun e=>e▸fun h=>by first|exact nF h.1|exact oO h.2)⟩
 rw[decide_eq_false nF]
 iterate 8 refine RL.bH ?_
 refine RL.ag (v:=.bool false) (aB) (RL.ak (RW.cg (RW.skip (aY (aw (RW.region (RL.ag (v:=vJ i) U (RL.ag (aD rfl rfl rfl (bh (by omega) (by omega))) ?_))))))))
 refine RL.ag (v:=.int .i64 ((i:Int)+1)) ai (RL.ak ?_)
 exact⟨k-1,by omega,i+1,rfl,rfl,rfl,rfl,hN,by omega,fun x hx=>(du bX hx).elim (fJ x) (fun e=>e▸fun h=>by first|exact nF h.1|exact oO h.2)⟩
 refine RW.exit ?_
 iterate 2 refine bS ?_
 refine ba (aw (RW.aN (RL.ag (v:=.int .i64 (-1)) ai (RL.ak (RW.ret (bb (RV.tmp rfl) ?_))))))
 rw[acX (by omega)]at fJ
 exact⟨congrArg (acZ .i64) (qI fJ).symm,hN.bc⟩
theorem CV (rv wv:Value) (rk:List Int) (ws:List I5) (w:World) (hr:Sl vI w rv rk) (hw:Sm aV w wv ws) (x:Int):aM acx 109 #[.agg #[rv,wv],.int .i64 x] w fun r w'=>r=.int .i64 (kV (fun y=>y=x) rk)∧Ext w w':=by
 refine aM.aZ aj6 ?_
 rw[cT]
 have hN:=aI.nil w none_
 refine RW.aN ?_
 refine RL.aK (bL (cs:=[rv,wv]) rfl rfl hN ?_)
 clear hN
 intro g1 w1 (hN:aI w none_ w1 [_])
 refine RL.ag (v:=.int .i64 (0)) ai (RL.ak ?_)
 iterate 2 refine RW.seq ?_
 refine RW.region (RL.ag (v:=.int .i64 (0)) ai (RL.ak (RW.block ?_)))
 refine RW.loop (fun k R0 cz=>∃i:Nat,R0 1=.int .i64 (x)∧R0 2=vP g1∧R0 5=vJ i∧aI w none_ cz [.aJ g1 [rv,wv] 28]∧(i+k=rk.length)∧(∀y∈rk.take i,¬(fun y=>y=x) y)) (rk.length) ?_ ?_
 exact⟨0,rfl,rfl,rfl,hN,by omega,fun x hx=>by cases hx⟩
 clear hN
 rintro k R0 cz ⟨i,bP,bV,cx,hN,gk,fJ⟩
 have cB:=ln bP bV cx
 obtain⟨gF,rfl⟩:=cB
 clear bP bV cx
 iterate 2 refine RW.seq ?_
 refine RW.region (RL.ag (v:=vJ i) U (RL.ag (ah acz rfl cj) (RL.ag (aj acu (hN.aJ 0 rfl)) ?_)))
 have jm:=(hr.o.now hN).bw
 refine RL.ag (aQ acu (hr.o.now hN)) (RL.ag (aL) (RL.ak ?_))
 refine RW.aG _ (fun cD=>?_) (fun cD=>?_)
 refine RW.skip (aw (RW.seq (RW.block (RW.aN (RL.ag (ah acz rfl cj) (RL.ag (aj acu (hN.aJ 0 rfl)) (RL.ag (v:=vJ i) U (RL.ag (aC acu bK (hr.o.now hN)) ?_))))))))
 have aO:=da (rk) i
 obtain⟨ap,bX⟩:=aO
 refine RL.ag (aF (m:=i) (a:=ap) acs (hr.o.now hN) bX) (RL.ag (v:=.int .i64 (x)) U (RL.ag (bZ) (RL.ak ?_)))
 refine RW.aG _ (fun CA=>?_) (fun CA=>?_)
 refine RW.aN (RL.ag (v:=vJ i) U (RL.ag (v:=vJ i) ai (RL.ak (RW.ret (aX ?_)))))
 iterate 2 refine aT ?_
 refine aX (aT (bb (RV.tmp rfl) ?_))
 exact⟨congrArg (acZ .i64) (nH fJ bX CA).symm,hN.bc⟩
 refine RW.skip (aY (aw (RW.region (RL.ag (v:=vJ i) U (RL.ag (aD rfl rfl rfl (bh (by omega) (by omega))) (RL.ag (v:=.int .i64 ((i:Int)+1)) ai (RL.ak ?_)))))))
 exact⟨k-1,by omega,i+1,rfl,rfl,rfl,hN,by omega,fun x hx=>(du bX hx).elim (fJ x) (fun e=>e▸CA)⟩
 refine RW.exit ?_
 iterate 2 refine bS ?_
 refine ba (aw (RW.aN (RL.ag (v:=.int .i64 (-1)) ai (RL.ak (RW.ret (bb (RV.tmp rfl) ?_))))))
 rw[acX (by omega)]at fJ
 exact⟨congrArg (acZ .i64) (qI fJ).symm,hN.bc⟩
theorem kZ (rv wv:Value) (rk:List Int) (ws:List I5) (w:World) (hr:Sl vI w rv rk) (hw:Sm aV w wv ws) (x:Int):aM acx 170 #[.agg #[rv,wv],.int .i64 x] w fun r w'=>r=.bool (decide (0≤x∧x<rk.length))∧Ext w w':=by
 refine aM.aZ ag7 ?_
 rw[cT]
 have hN:=aI.nil w none_
 refine RW.aN ?_
 refine RL.aK (bL (cs:=[rv,wv]) rfl rfl hN ?_)
 clear hN
 intro g1 w1 (hN:aI w none_ w1 [_])
 refine RL.ag (v:=.bool false) ai (RL.b6 (RL.ag (v:=.int .i64 (x)) U (RL.ag (cm) (RL.ag (v:=.bool (decide (0≤x))) U ?_))))
 by_cases pL:0≤x
 rw[decide_eq_true pL]
 refine RL.an (v:=.int .i64 (x)) U (RL.an (ah acz rfl cj) (RL.an (aj acu (hN.aJ 0 rfl)) ?_))
 have jm:=(hr.o.now hN).bw
 refine RL.an (aQ acu (hr.o.now hN)) (RL.an (aL) (RL.ag (v:=.bool (decide (x<(rk.length:Int)))) (al) (RL.ag (v:=.bool (decide (x<(rk.length:Int)))) ai (RL.ak (RW.ret (bb (RV.tmp rfl) ?_))))))
 exact⟨congrArg acO (decide_eq_decide.2 ⟨fun h=>⟨by omega,h⟩,fun h=>h.2⟩),hN.bc⟩
 rw[decide_eq_false pL]
 iterate 5 refine RL.bH ?_
 refine RL.ag (v:=.bool false) (aB) (RL.ag (v:=.bool false) ai (RL.ak (RW.ret (bb (RV.tmp rfl) ?_))))
 exact⟨congrArg acO (decide_eq_false (fun h=>by omega)).symm,hN.bc⟩
end Go.Proofs.YtngkdkbpgoddlaaGreat
namespace Go.Proofs.YtngkdkbpgoddlaaGreat
open Go.RowKit Go.Rl
open Go.Gr
theorem n3 (rv wv:Value) (rk:List Int) (ws:List I5) (w:World) (hr:Sl vI w rv rk) (hw:Sm aV w wv ws) (u v z:Int) (e:kV (gM u v) ws=z):aM acx 171 #[.agg #[rv,wv],.int .i64 u,.int .i64 v] w fun r w'=>r=.int .i64 z∧Ext w w':=(mr rv wv rk ws w hr hw u v).mono fun r w' hr=>by rw[e]at hr;exact hr
theorem vz (rv wv:Value) (rk:List Int) (ws:List I5) (w:World) (hr:Sl vI w rv rk) (hw:Sm aV w wv ws) (i:Nat) (x:I5) (hx:ws[i]?=some x):aM acx 110 #[.agg #[rv,wv],.int .i64 (i:Int)] w fun r w'=>r=.bool (decide (TY rk ws i x))∧Ext w w':=by
 refine aM.aZ aj7 ?_
 rw[cT]
 have hN:=aI.nil w none_
 have E2:=(acA.1 hx).1
 refine RW.aN ?_
 refine RL.aK (bL (cs:=[rv,wv]) rfl rfl hN ?_)
 clear hN
 intro g1 w1 (hN:aI w none_ w1 [_])
 refine RL.ag (v:=.bool false) ai (RL.b6 (RL.ag (ah acz rfl eM) (RL.ag (aj acG (hN.aJ 0 rfl)) (RL.ag (v:=vJ i) U (RL.ag (aU acG er aH (hw.o.now hN)) (RL.ag (b8 (m:=i) (a:=x) acB er aH (hw.o.now hN) hx (cs:=[.int .i64 (x.1),.int .i64 (x.2.1),.int .i64 (x.2.2.1),.int .i64 (x.2.2.2.1),.int .i64 (x.2.2.2.2)])) ?_))))))
 refine RL.aK (bz (cs:=[.int .i64 (0),.int .i64 (0),.int .i64 (0),.int .i64 (0),.int .i64 (0)]) gu rfl hN ?_)
 clear hN
 intro g2 w2 (hN:aI w none_ w2 [_,_])
 refine RL.aK (aR (vs:=[.int .i64 (x.1),.int .i64 (x.2.1),.int .i64 (x.2.2.1),.int .i64 (x.2.2.2.1),.int .i64 (x.2.2.2.2)]) er rfl rfl rfl (aW (aW (aW (aW (aW cZ))))) hN 0 rfl rfl ?_)
 clear hN
 intro w3 (hN:aI w none_ w3 [_,_])
 refine RL.ak ?_
 iterate 2 refine RW.seq ?_
 refine RW.region (RL.ag (aE (cs:=[rv,wv]) acz dy (hN.aJ 1 rfl)) (RL.ag (ah acB rfl bK) (RL.ag (aj acs (hN.aJ 0 rfl)) ?_)))
 refine RL.aK (bu ag7 rfl rfl rfl rfl ((kZ _ _ rk ws _ (hr.o.now hN) (hw.o.now hN) (x.1)).mono ?_))
 rintro _ w4 ⟨rfl,bn⟩
 replace hN:=hN.ext bn
 clear bn
 refine RL.ag (cV rfl) (RL.ag (v:=.bool (decide (¬(0≤x.1∧x.1<rk.length)))) U ?_)
 by_cases MP:¬(0≤x.1∧x.1<rk.length)
 rw[decide_eq_true MP]
 iterate 5 refine RL.bH ?_
 refine RL.ag (v:=.bool true) (al) (RL.ag (v:=.bool true) U ?_)
 iterate 5 refine RL.bH ?_
 refine RL.ag (v:=.bool true) (al) (RL.ag (v:=.bool true) U ?_)
 iterate 4 refine RL.bH ?_
 refine RL.ag (v:=.bool true) (al) (RL.ag (v:=.bool true) U ?_)
 iterate 4 refine RL.bH ?_
 refine RL.ag (v:=.bool true) (al) (RL.ag (v:=.bool true) U ?_)
 iterate 8 refine RL.bH ?_
 refine RL.ag (v:=.bool true) (al) (RL.ak (RW.bF (RW.aN (RL.ag (v:=.bool false) ai (RL.ak (RW.ret ?_))))))
 refine aT (bb (RV.tmp rfl) ?_)
 exact⟨congrArg acO (decide_eq_false (fun h=>by
  obtain⟨⟨⟨e1,e2⟩,⟨e3,e4⟩,e5,e6,e7,e8⟩,e9⟩:=h
  first
  |omega
  |(rw[if_pos jl]at e9;omega)
  |(rw[if_neg jl]at e9;obtain⟨m1,⟨m2,m3⟩,m4,m5,_⟩:=e9;first|omega|(have:=m4 _ _ (by assumption) (by assumption);omega)|(have:=m5 _ _ (by assumption) (by assumption);omega))
  )).symm,hN.bc⟩
 rw[decide_eq_false MP]
 refine RL.an (aE (cs:=[rv,wv]) acz dy (hN.aJ 1 rfl)) (RL.an (ah acB rfl bK) (RL.an (aj acs (hN.aJ 0 rfl)) ?_))
 refine RL.ed (bu ag7 rfl rfl rfl rfl ((kZ _ _ rk ws _ (hr.o.now hN) (hw.o.now hN) (x.2.1)).mono ?_))
 rintro _ w5 ⟨rfl,bn⟩
 replace hN:=hN.ext bn
 clear bn
 refine RL.an (cV rfl) (RL.ag (v:=.bool (decide (¬(0≤x.2.1∧x.2.1<rk.length)))) (aB) (RL.ag (v:=.bool (decide (¬(0≤x.2.1∧x.2.1<rk.length)))) U ?_))
 by_cases Im:¬(0≤x.2.1∧x.2.1<rk.length)
 rw[decide_eq_true Im]
 iterate 5 refine RL.bH ?_
 refine RL.ag (v:=.bool true) (al) (RL.ag (v:=.bool true) U ?_)
 iterate 4 refine RL.bH ?_
 refine RL.ag (v:=.bool true) (al) (RL.ag (v:=.bool true) U ?_)
 iterate 4 refine RL.bH ?_
 refine RL.ag (v:=.bool true) (al) (RL.ag (v:=.bool true) U ?_)
 iterate 8 refine RL.bH ?_
 refine RL.ag (v:=.bool true) (al) (RL.ak (RW.bF (RW.aN (RL.ag (v:=.bool false) ai (RL.ak (RW.ret ?_))))))
 refine aT (bb (RV.tmp rfl) ?_)
 exact⟨congrArg acO (decide_eq_false (fun h=>by
  obtain⟨⟨⟨e1,e2⟩,⟨e3,e4⟩,e5,e6,e7,e8⟩,e9⟩:=h
  first
  |omega
  |(rw[if_pos jl]at e9;omega)
  |(rw[if_neg jl]at e9;obtain⟨m1,⟨m2,m3⟩,m4,m5,_⟩:=e9;first|omega|(have:=m4 _ _ (by assumption) (by assumption);omega)|(have:=m5 _ _ (by assumption) (by assumption);omega))
  )).symm,hN.bc⟩
 rw[decide_eq_false Im]
 refine RL.an (ah acB rfl bK) (RL.an (aj acs (hN.aJ 0 rfl)) (RL.an (ah acB rfl bK) (RL.an (aj acs (hN.aJ 0 rfl)) (RL.an (bZ) (RL.ag (v:=.bool (decide (x.1=x.2.1))) (aB) (RL.ag (v:=.bool (decide (x.1=x.2.1))) U ?_))))))
 by_cases uv:x.1=x.2.1
 rw[decide_eq_true uv]
 iterate 4 refine RL.bH ?_
 refine RL.ag (v:=.bool true) (al) (RL.ag (v:=.bool true) U ?_)
 iterate 4 refine RL.bH ?_
 refine RL.ag (v:=.bool true) (al) (RL.ag (v:=.bool true) U ?_)
 iterate 8 refine RL.bH ?_
 refine RL.ag (v:=.bool true) (al) (RL.ak (RW.bF (RW.aN (RL.ag (v:=.bool false) ai (RL.ak (RW.ret ?_))))))
 refine aT (bb (RV.tmp rfl) ?_)
 exact⟨congrArg acO (decide_eq_false (fun h=>by
  obtain⟨⟨⟨e1,e2⟩,⟨e3,e4⟩,e5,e6,e7,e8⟩,e9⟩:=h
  first
  |omega
  |(rw[if_pos jl]at e9;omega)
  |(rw[if_neg jl]at e9;obtain⟨m1,⟨m2,m3⟩,m4,m5,_⟩:=e9;first|omega|(have:=m4 _ _ (by assumption) (by assumption);omega)|(have:=m5 _ _ (by assumption) (by assumption);omega))
  )).symm,hN.bc⟩
 rw[decide_eq_false uv]
 refine RL.an (ah acB rfl cU) (RL.an (ah acH rfl bK) (RL.an (aj acs (hN.aJ 0 rfl)) (RL.an (aL) (RL.ag (v:=.bool (decide (x.2.2.1<0))) (aB) (RL.ag (v:=.bool (decide (x.2.2.1<0))) U ?_)))))
 by_cases uu:x.2.2.1<0
 rw[decide_eq_true uu]
 iterate 4 refine RL.bH ?_
 refine RL.ag (v:=.bool true) (al) (RL.ag (v:=.bool true) U ?_)
 iterate 8 refine RL.bH ?_
 refine RL.ag (v:=.bool true) (al) (RL.ak (RW.bF (RW.aN (RL.ag (v:=.bool false) ai (RL.ak (RW.ret ?_))))))
 refine aT (bb (RV.tmp rfl) ?_)
 exact⟨congrArg acO (decide_eq_false (fun h=>by
  obtain⟨⟨⟨e1,e2⟩,⟨e3,e4⟩,e5,e6,e7,e8⟩,e9⟩:=h
  first
  |omega
  |(rw[if_pos jl]at e9;omega)
  |(rw[if_neg jl]at e9;obtain⟨m1,⟨m2,m3⟩,m4,m5,_⟩:=e9;first|omega|(have:=m4 _ _ (by assumption) (by assumption);omega)|(have:=m5 _ _ (by assumption) (by assumption);omega))
  )).symm,hN.bc⟩
 rw[decide_eq_false uu]
 refine RL.an (ah acB rfl cU) (RL.an (ah acH rfl bK) (RL.an (aj acs (hN.aJ 0 rfl)) (RL.an (cr) (RL.ag (v:=.bool (decide (1152921504606846976<x.2.2.1))) (aB) (RL.ag (v:=.bool (decide (1152921504606846976<x.2.2.1))) U ?_)))))
 by_cases Ij:1152921504606846976<x.2.2.1
 rw[decide_eq_true Ij]
 iterate 8 refine RL.bH ?_
 refine RL.ag (v:=.bool true) (al) (RL.ak (RW.bF (RW.aN (RL.ag (v:=.bool false) ai (RL.ak (RW.ret ?_))))))
 refine aT (bb (RV.tmp rfl) ?_)
 exact⟨congrArg acO (decide_eq_false (fun h=>by
  obtain⟨⟨⟨e1,e2⟩,⟨e3,e4⟩,e5,e6,e7,e8⟩,e9⟩:=h
  first
  |omega
  |(rw[if_pos jl]at e9;omega)
  |(rw[if_neg jl]at e9;obtain⟨m1,⟨m2,m3⟩,m4,m5,_⟩:=e9;first|omega|(have:=m4 _ _ (by assumption) (by assumption);omega)|(have:=m5 _ _ (by assumption) (by assumption);omega))
  )).symm,hN.bc⟩
 rw[decide_eq_false Ij]
 refine RL.an (aE (cs:=[rv,wv]) acz dy (hN.aJ 1 rfl)) (RL.an (ah acB rfl bK) (RL.an (aj acs (hN.aJ 0 rfl)) (RL.an (ah acB rfl bK) (RL.an (aj acs (hN.aJ 0 rfl)) ?_))))
 refine RL.ed (cq afy rfl rfl rfl rfl rfl ((mr _ _ rk ws _ (hr.o.now hN) (hw.o.now hN) (x.1) (x.2.1)).mono ?_))
 rintro _ w6 ⟨rfl,bn⟩
 replace hN:=hN.ext bn
 clear bn
 refine RL.an (v:=vJ i) U (RL.an (bj) (RL.ag (v:=.bool (decide (¬(kV (gM (x.1) (x.2.1)) ws)=(i:Int)))) (aB) (RL.ak ?_)))
 refine RW.aG _ (fun VR=>?_) (fun VR=>?_)
 refine RW.aN (RL.ag (v:=.bool false) ai (RL.ak (RW.ret (aT (bb (RV.tmp rfl) ?_)))))
 exact⟨congrArg acO (decide_eq_false (fun h=>by
  obtain⟨⟨⟨e1,e2⟩,⟨e3,e4⟩,e5,e6,e7,e8⟩,e9⟩:=h
  first
  |omega
  |(rw[if_pos jl]at e9;omega)
  |(rw[if_neg jl]at e9;obtain⟨m1,⟨m2,m3⟩,m4,m5,_⟩:=e9;first|omega|(have:=m4 _ _ (by assumption) (by assumption);omega)|(have:=m5 _ _ (by assumption) (by assumption);omega))
  )).symm,hN.bc⟩
 refine RW.skip (aw ?_)
 iterate 2 refine RW.seq ?_
 refine RW.region (RL.ag (ah acB rfl cU) (RL.ag (ah acH rfl bK) (RL.ag (aj acs (hN.aJ 0 rfl)) (RL.ag (bZ) (RL.ak ?_)))))
 refine RW.aG _ (fun jl=>?_) (fun jl=>?_)
 refine RW.aN (RL.ag (ah acB rfl cU) (RL.ag (ah acH rfl bK) (RL.ag (aj acs (hN.aJ 0 rfl)) (RL.ag (cm) (RL.ag (v:=.bool (decide (0≤x.2.2.2.2))) U ?_)))))
 by_cases ML:0≤x.2.2.2.2
 rw[decide_eq_true ML]
 refine RL.an (ah acB rfl cU) (RL.an (ah acH rfl bK) (RL.an (aj acs (hN.aJ 0 rfl)) (RL.an (aL) (RL.ag (v:=.bool (decide (x.2.2.2.2<67108864))) (al) (RL.ag (v:=.bool (decide (x.2.2.2.2<67108864))) ai (RL.ak (RW.ret (aT ?_))))))))
 refine bb (RV.tmp rfl) ?_
 exact⟨congrArg acO (decide_eq_decide.2 ⟨fun h=>⟨⟨⟨by omega,by omega⟩,⟨by omega,by omega⟩,by omega,by omega,by omega,by omega⟩,by rw[if_pos jl];omega⟩,fun h=>by
  obtain⟨⟨⟨e1,e2⟩,⟨e3,e4⟩,e5,e6,e7,e8⟩,e9⟩:=h
  rw[if_pos jl]at e9
  omega⟩),hN.bc⟩
 rw[decide_eq_false ML]
 iterate 4 refine RL.bH ?_
 refine RL.ag (v:=.bool false) (aB) (RL.ag (v:=.bool false) ai (RL.ak (RW.ret (aT (bb (RV.tmp rfl) ?_)))))
 exact⟨congrArg acO (decide_eq_false (fun h=>by
  obtain⟨⟨⟨e1,e2⟩,⟨e3,e4⟩,e5,e6,e7,e8⟩,e9⟩:=h
  first
  |omega
  |(rw[if_pos jl]at e9;omega)
  |(rw[if_neg jl]at e9;obtain⟨m1,⟨m2,m3⟩,m4,m5,_⟩:=e9;first|omega|(have:=m4 _ _ (by assumption) (by assumption);omega)|(have:=m5 _ _ (by assumption) (by assumption);omega))
  )).symm,hN.bc⟩
 refine RW.skip (aw ?_)
 iterate 2 refine RW.seq ?_
 replace hN:=hN.ext (Ext.drew w6)
 refine RW.bD (fun u=>aI w none_ u [.aJ g2 [.int .i64 (x.1),.int .i64 (x.2.1),.int .i64 (x.2.2.1),.int .i64 (x.2.2.2.1),.int .i64 (x.2.2.2.2)] 98,.aJ g1 [rv,wv] 28]) 44 [(0,0),(1,0),(2,0),(3,0),(4,0),(5,0),(6,0),(7,0),(8,0),(9,1),(10,0),(11,0),(12,0),(13,0),(14,0),(15,0),(16,0),(17,0),(18,0),(19,0),(20,0),(21,0),(22,0),(23,0),(24,0),(25,0),(26,0),(27,0),(28,0),(29,0),(30,0),(31,0),(32,0),(33,0),(34,0),(35,0),(36,0),(37,0),(38,0),(39,0),(40,0),(41,0),(42,0),(43,0)] (by intro _ _ _ h;exact h) hN (RQ.aA rfl (fun w hS=>(ah acB rfl cU)) (RQ.aA rfl (fun w hS=>(ah acH rfl bK)) (RQ.aA rfl (fun w hS=>(aj acs (hS.aJ 0 rfl))) (RQ.aA rfl (fun w hS=>(bj)) (RQ.aA (v:=.bool (decide (¬x.2.2.2.2= -1))) rfl (fun w hS=>U) ?_)))))
 by_cases MJ:¬x.2.2.2.2= -1
 rw[decide_eq_true MJ]
 iterate 6 refine RQ.bU rfl ?_
 refine RQ.aA (v:=.bool true) rfl (fun w hS=>(al)) (RQ.aA (v:=.bool true) rfl (fun w hS=>U) ?_)
 iterate 14 refine RQ.bU rfl ?_
 refine RQ.aA (v:=.bool true) rfl (fun w hS=>(al)) (RQ.aA (v:=.bool true) rfl (fun w hS=>U) ?_)
 iterate 14 refine RQ.bU rfl ?_
 refine RQ.aA (v:=.bool true) rfl (fun w hS=>(al)) (RQ.bq (aw (RW.bF (RW.aN (RL.ag (v:=.bool false) ai (RL.ak (RW.ret ?_)))))))
 refine aT (bb (RV.tmp rfl) ?_)
 exact⟨congrArg acO (decide_eq_false (fun h=>by
  obtain⟨⟨⟨e1,e2⟩,⟨e3,e4⟩,e5,e6,e7,e8⟩,e9⟩:=h
  first
  |omega
  |(rw[if_pos jl]at e9;omega)
  |(rw[if_neg jl]at e9;obtain⟨m1,⟨m2,m3⟩,m4,m5,_⟩:=e9;first|omega|(have:=m4 _ _ (by assumption) (by assumption);omega)|(have:=m5 _ _ (by assumption) (by assumption);omega))
  )).symm,hN.bc⟩
 rw[decide_eq_false MJ]
 refine RQ.aS rfl (fun w hS=>(aE (cs:=[rv,wv]) acz dy (hS.aJ 1 rfl))) (RQ.aS rfl (fun w hS=>(ah acB rfl cU)) (RQ.aS rfl (fun w hS=>(ah acH rfl bK)) (RQ.aS rfl (fun w hS=>(aj acs (hS.aJ 0 rfl))) ?_)))
 refine RQ.ob rfl rfl rfl rfl (bu ag7 rfl rfl rfl rfl ((kZ _ _ rk ws _ (hr.o.now hN) (hw.o.now hN) (x.2.2.2.1)).mono ?_))
 rintro _ w7 ⟨rfl,bn⟩
 replace hN:=hN.ext bn
 clear bn
 refine⟨hN,?_⟩
 refine RQ.aS rfl (fun w hS=>(cV rfl)) (RQ.aA (v:=.bool (decide (¬(0≤x.2.2.2.1∧x.2.2.2.1<rk.length)))) rfl (fun w hS=>(aB)) (RQ.aA (v:=.bool (decide (¬(0≤x.2.2.2.1∧x.2.2.2.1<rk.length)))) rfl (fun w hS=>U) ?_))
 by_cases Ig:¬(0≤x.2.2.2.1∧x.2.2.2.1<rk.length)
 rw[decide_eq_true Ig]
 iterate 14 refine RQ.bU rfl ?_
 refine RQ.aA (v:=.bool true) rfl (fun w hS=>(al)) (RQ.aA (v:=.bool true) rfl (fun w hS=>U) ?_)
 iterate 14 refine RQ.bU rfl ?_
 refine RQ.aA (v:=.bool true) rfl (fun w hS=>(al)) (RQ.bq (aw (RW.bF (RW.aN (RL.ag (v:=.bool false) ai (RL.ak (RW.ret ?_)))))))
 refine aT (bb (RV.tmp rfl) ?_)
 exact⟨congrArg acO (decide_eq_false (fun h=>by
  obtain⟨⟨⟨e1,e2⟩,⟨e3,e4⟩,e5,e6,e7,e8⟩,e9⟩:=h
  first
  |omega
  |(rw[if_pos jl]at e9;omega)
  |(rw[if_neg jl]at e9;obtain⟨m1,⟨m2,m3⟩,m4,m5,_⟩:=e9;first|omega|(have:=m4 _ _ (by assumption) (by assumption);omega)|(have:=m5 _ _ (by assumption) (by assumption);omega))
  )).symm,hN.bc⟩
 rw[decide_eq_false Ig]
 refine RQ.aS rfl (fun w hS=>(ah acz rfl cj)) (RQ.aS rfl (fun w hS=>(aj acu (hS.aJ 1 rfl))) (RQ.aS rfl (fun w hS=>(ah acB rfl cU)) (RQ.aS rfl (fun w hS=>(ah acH rfl bK)) (RQ.aS rfl (fun w hS=>(aj acs (hS.aJ 0 rfl))) (RQ.aS rfl (fun w hS=>(aC acu bK (hr.o.now hS))) ?_)))))
 have aO:=da (rk) ((x.2.2.2.1).toNat)
 obtain⟨a8,V3⟩:=aO
 refine RQ.aS rfl (fun w hS=>(aF (m:=(x.2.2.2.1).toNat) (a:=a8) acs (hr.o.now hS) V3)) (RQ.aS rfl (fun w hS=>(ah acz rfl cj)) (RQ.aS rfl (fun w hS=>(aj acu (hS.aJ 1 rfl))) (RQ.aS rfl (fun w hS=>(ah acB rfl bK)) (RQ.aS rfl (fun w hS=>(aj acs (hS.aJ 0 rfl))) (RQ.aS rfl (fun w hS=>(aC acu bK (hr.o.now hS))) ?_)))))
 have aO:=da (rk) ((x.1).toNat)
 obtain⟨a9,ha9⟩:=aO
 refine RQ.aS rfl (fun w hS=>(aF (m:=(x.1).toNat) (a:=a9) acs (hr.o.now hS) ha9)) (RQ.aS rfl (fun w hS=>(cm)) (RQ.aA (v:=.bool (decide (a9≤a8))) rfl (fun w hS=>(aB)) (RQ.aA (v:=.bool (decide (a9≤a8))) rfl (fun w hS=>U) ?_)))
 by_cases Ic:a9≤a8
 rw[decide_eq_true Ic]
 iterate 14 refine RQ.bU rfl ?_
 refine RQ.aA (v:=.bool true) rfl (fun w hS=>(al)) (RQ.bq (aw (RW.bF (RW.aN (RL.ag (v:=.bool false) ai (RL.ak (RW.ret ?_)))))))
 refine aT (bb (RV.tmp rfl) ?_)
 exact⟨congrArg acO (decide_eq_false (fun h=>by
  obtain⟨⟨⟨e1,e2⟩,⟨e3,e4⟩,e5,e6,e7,e8⟩,e9⟩:=h
  first
  |omega
  |(rw[if_pos jl]at e9;omega)
  |(rw[if_neg jl]at e9;obtain⟨m1,⟨m2,m3⟩,m4,m5,_⟩:=e9;first|omega|(have:=m4 _ _ (by assumption) (by assumption);omega)|(have:=m5 _ _ (by assumption) (by assumption);omega))
  )).symm,hN.bc⟩
 rw[decide_eq_false Ic]
 refine RQ.aS rfl (fun w hS=>(ah acz rfl cj)) (RQ.aS rfl (fun w hS=>(aj acu (hS.aJ 1 rfl))) (RQ.aS rfl (fun w hS=>(ah acB rfl cU)) (RQ.aS rfl (fun w hS=>(ah acH rfl bK)) (RQ.aS rfl (fun w hS=>(aj acs (hS.aJ 0 rfl))) (RQ.aS rfl (fun w hS=>(aC acu bK (hr.o.now hS))) ?_)))))
 have aO:=da (rk) ((x.2.2.2.1).toNat)
 obtain⟨xB,V8⟩:=aO
 refine RQ.aS rfl (fun w hS=>(aF (m:=(x.2.2.2.1).toNat) (a:=xB) acs (hr.o.now hS) V8)) (RQ.aS rfl (fun w hS=>(ah acz rfl cj)) (RQ.aS rfl (fun w hS=>(aj acu (hS.aJ 1 rfl))) (RQ.aS rfl (fun w hS=>(ah acB rfl bK)) (RQ.aS rfl (fun w hS=>(aj acs (hS.aJ 0 rfl))) (RQ.aS rfl (fun w hS=>(aC acu bK (hr.o.now hS))) ?_)))))
 have aO:=da (rk) ((x.2.1).toNat)
 obtain⟨Be,V7⟩:=aO
 refine RQ.aS rfl (fun w hS=>(aF (m:=(x.2.1).toNat) (a:=Be) acs (hr.o.now hS) V7)) (RQ.aS rfl (fun w hS=>(cm)) (RQ.aA (v:=.bool (decide (Be≤xB))) rfl (fun w hS=>(aB)) (RQ.bq (aw ?_))))
 refine RW.aG _ (fun SQ=>?_) (fun SQ=>?_)
 refine RW.aN (RL.ag (v:=.bool false) ai (RL.ak (RW.ret (aT (bb (RV.tmp rfl) ?_)))))
 exact⟨congrArg acO (decide_eq_false (fun h=>by
  obtain⟨⟨⟨e1,e2⟩,⟨e3,e4⟩,e5,e6,e7,e8⟩,e9⟩:=h
  first
  |omega
  |(rw[if_pos jl]at e9;omega)
  |(rw[if_neg jl]at e9;obtain⟨m1,⟨m2,m3⟩,m4,m5,_⟩:=e9;first|omega|(have:=m4 _ _ (by assumption) (by assumption);omega)|(have:=m5 _ _ (by assumption) (by assumption);omega))
  )).symm,hN.bc⟩
 refine RW.skip (aw (RW.seq ?_))
 rcases fw (gM x.1 x.2.2.2.1) ws with⟨ea,_⟩|⟨a,y,ea,Ck,_⟩
 refine RW.region (RL.ag (aE (cs:=[rv,wv]) acz dy (hN.aJ 1 rfl)) (RL.ag (ah acB rfl bK) (RL.ag (aj acs (hN.aJ 0 rfl)) (RL.ag (ah acB rfl cU) (RL.ag (ah acH rfl bK) (RL.ag (aj acs (hN.aJ 0 rfl)) ?_))))))
 refine RL.aK (cq afy rfl rfl rfl rfl rfl ((n3 _ _ rk ws _ (hr.o.now hN) (hw.o.now hN) (x.1) (x.2.2.2.1) (-1) ea).mono ?_))
 rintro _ ll ⟨rfl,bn⟩
 replace hN:=hN.ext bn
 clear bn
 refine RL.ag (v:=.int .i64 (-1)) ai (RL.b6 (RL.ag (aE (cs:=[rv,wv]) acz dy (hN.aJ 1 rfl)) (RL.ag (ah acB rfl cU) (RL.ag (ah acH rfl bK) (RL.ag (aj acs (hN.aJ 0 rfl)) (RL.ag (ah acB rfl bK) ?_))))))
 refine RL.ag (aj acs (hN.aJ 0 rfl)) ?_
 refine RL.aK (cq afy rfl rfl rfl rfl rfl ((mr _ _ rk ws _ (hr.o.now hN) (hw.o.now hN) (x.2.2.2.1) (x.2.1)).mono ?_))
 rintro _ nR ⟨rfl,bn⟩
 replace hN:=hN.ext bn
 clear bn
 refine RL.ag (v:=.int .i64 ((kV (gM (x.2.2.2.1) (x.2.1)) ws))) ai (RL.ak (RW.seq ?_))
 replace hN:=hN.ext (Ext.drew nR)
 refine RW.bD (fun u=>aI w none_ u [.aJ g2 [.int .i64 (x.1),.int .i64 (x.2.1),.int .i64 (x.2.2.1),.int .i64 (x.2.2.2.1),.int .i64 (x.2.2.2.2)] 98,.aJ g1 [rv,wv] 28]) 28 [(0,0),(1,0),(2,0),(3,0),(4,0),(5,0),(6,0),(7,0),(8,0),(9,0),(10,0),(11,0),(12,0),(13,0),(14,0),(15,0),(16,0),(17,0),(18,0),(19,0),(20,0),(21,0),(22,0),(23,0),(24,0),(25,0),(26,0),(27,0)] (by intro _ _ _ h;exact h) hN (RQ.aA (v:=.int .i64 (-1)) rfl (fun w hS=>U) (RQ.aA rfl (fun w hS=>(cI (cm) (by decide))) (RQ.aA (v:=.bool false) rfl (fun w hS=>U) ?_)))
 iterate 2 refine RQ.bU rfl ?_
 refine RQ.aA (v:=.bool false) rfl (fun w hS=>(aB)) (RQ.aA (v:=.bool false) rfl (fun w hS=>U) ?_)
 iterate 19 refine RQ.bU rfl ?_
 refine RQ.aA (v:=.bool false) rfl (fun w hS=>(aB)) (RQ.aA (v:=.bool false) rfl (fun w hS=>ai) (RQ.bq (aw (RW.ret (bb (RV.tmp rfl) ?_)))))
 exact⟨congrArg acO (decide_eq_false (fun h=>by
  obtain⟨⟨⟨e1,e2⟩,⟨e3,e4⟩,e5,e6,e7,e8⟩,e9⟩:=h
  rw[if_neg jl]at e9
  obtain⟨m1,⟨m2,m3⟩,m4,m5,a_,b_,y_,z_,m6,m7,m8,m9,EL⟩:=e9
  omega)).symm,hN.bc⟩
 have ir:=(acA.1 Ck).1
 refine RW.region (RL.ag (aE (cs:=[rv,wv]) acz dy (hN.aJ 1 rfl)) (RL.ag (ah acB rfl bK) (RL.ag (aj acs (hN.aJ 0 rfl)) (RL.ag (ah acB rfl cU) (RL.ag (ah acH rfl bK) (RL.ag (aj acs (hN.aJ 0 rfl)) ?_))))))
 refine RL.aK (cq afy rfl rfl rfl rfl rfl ((n3 _ _ rk ws _ (hr.o.now hN) (hw.o.now hN) (x.1) (x.2.2.2.1) ((a:Int)) ea).mono ?_))
 rintro _ o7 ⟨rfl,bn⟩
 replace hN:=hN.ext bn
 clear bn
 refine RL.ag (v:=vJ a) ai (RL.ak (RW.seq ?_))
 rcases fw (gM x.2.2.2.1 x.2.1) ws with⟨eb,_⟩|⟨b,z,eb,y6,_⟩
 refine RW.region (RL.ag (aE (cs:=[rv,wv]) acz dy (hN.aJ 1 rfl)) (RL.ag (ah acB rfl cU) (RL.ag (ah acH rfl bK) (RL.ag (aj acs (hN.aJ 0 rfl)) (RL.ag (ah acB rfl bK) (RL.ag (aj acs (hN.aJ 0 rfl)) ?_))))))
 refine RL.aK (cq afy rfl rfl rfl rfl rfl ((n3 _ _ rk ws _ (hr.o.now hN) (hw.o.now hN) (x.2.2.2.1) (x.2.1) (-1) eb).mono ?_))
 rintro _ qf ⟨rfl,bn⟩
 replace hN:=hN.ext bn
 clear bn
 refine RL.ag (v:=.int .i64 (-1)) ai (RL.ak (RW.seq ?_))
 replace hN:=hN.ext (Ext.drew qf)
 refine RW.bD (fun u=>aI w none_ u [.aJ g2 [.int .i64 (x.1),.int .i64 (x.2.1),.int .i64 (x.2.2.1),.int .i64 (x.2.2.2.1),.int .i64 (x.2.2.2.2)] 98,.aJ g1 [rv,wv] 28]) 28 [(0,0),(1,0),(2,0),(3,0),(4,0),(5,0),(6,0),(7,0),(8,0),(9,0),(10,0),(11,0),(12,0),(13,0),(14,0),(15,0),(16,0),(17,0),(18,0),(19,0),(20,0),(21,0),(22,0),(23,0),(24,0),(25,0),(26,0),(27,0)] (by intro _ _ _ h;exact h) hN (RQ.aA (v:=vJ a) rfl (fun w hS=>U) (RQ.aA rfl (fun w hS=>(dm (cm) (by omega))) (RQ.aA (v:=.bool true) rfl (fun w hS=>U) (RQ.aS (v:=.int .i64 (-1)) rfl (fun w hS=>U) (RQ.aS rfl (fun w hS=>(cI (cm) (by decide))) (RQ.aA (v:=.bool false) rfl (fun w hS=>(al)) (RQ.aA (v:=.bool false) rfl (fun w hS=>U) ?_)))))))
 iterate 19 refine RQ.bU rfl ?_
 refine RQ.aA (v:=.bool false) rfl (fun w hS=>(aB)) (RQ.aA (v:=.bool false) rfl (fun w hS=>ai) (RQ.bq (aw (RW.ret (bb (RV.tmp rfl) ?_)))))
 exact⟨congrArg acO (decide_eq_false (fun h=>by
  obtain⟨⟨⟨e1,e2⟩,⟨e3,e4⟩,e5,e6,e7,e8⟩,e9⟩:=h
  rw[if_neg jl]at e9
  obtain⟨m1,⟨m2,m3⟩,m4,m5,a_,b_,y_,z_,m6,m7,m8,m9,EL⟩:=e9
  omega)).symm,hN.bc⟩
 have Qq:=(acA.1 y6).1
 refine RW.region (RL.ag (aE (cs:=[rv,wv]) acz dy (hN.aJ 1 rfl)) (RL.ag (ah acB rfl cU) (RL.ag (ah acH rfl bK) (RL.ag (aj acs (hN.aJ 0 rfl)) (RL.ag (ah acB rfl bK) (RL.ag (aj acs (hN.aJ 0 rfl)) ?_))))))
 refine RL.aK (cq afy rfl rfl rfl rfl rfl ((n3 _ _ rk ws _ (hr.o.now hN) (hw.o.now hN) (x.2.2.2.1) (x.2.1) ((b:Int)) eb).mono ?_))
 rintro _ qe ⟨rfl,bn⟩
 replace hN:=hN.ext bn
 clear bn
 refine RL.ag (v:=vJ b) ai (RL.ak (RW.seq ?_))
 replace hN:=hN.ext (Ext.drew qe)
 refine RW.bD (fun u=>aI w none_ u [.aJ g2 [.int .i64 (x.1),.int .i64 (x.2.1),.int .i64 (x.2.2.1),.int .i64 (x.2.2.2.1),.int .i64 (x.2.2.2.2)] 98,.aJ g1 [rv,wv] 28]) 28 [(0,0),(1,0),(2,0),(3,0),(4,0),(5,0),(6,0),(7,0),(8,0),(9,0),(10,0),(11,0),(12,0),(13,0),(14,0),(15,0),(16,0),(17,0),(18,0),(19,0),(20,0),(21,0),(22,0),(23,0),(24,0),(25,0),(26,0),(27,0)] (by intro _ _ _ h;exact h) hN (RQ.aA (v:=vJ a) rfl (fun w hS=>U) (RQ.aA rfl (fun w hS=>(dm (cm) (by omega))) (RQ.aA (v:=.bool true) rfl (fun w hS=>U) (RQ.aS (v:=vJ b) rfl (fun w hS=>U) (RQ.aS rfl (fun w hS=>(dm (cm) (by omega))) (RQ.aA (v:=.bool true) rfl (fun w hS=>(al)) (RQ.aA (v:=.bool true) rfl (fun w hS=>U) (RQ.aS rfl (fun w hS=>(ah acz rfl eM)) (RQ.aS rfl (fun w hS=>(aj acG (hS.aJ 1 rfl))) ?_)))))))))
 refine RQ.aS (v:=vJ a) rfl (fun w hS=>U) (RQ.aS rfl (fun w hS=>(aU acG er aH (hw.o.now hS))) (RQ.aS rfl (fun w hS=>(bl (m:=a) (b:=0) acB rfl cU aH (hw.o.now hS) Ck)) (RQ.aS rfl (fun w hS=>(bl (m:=a) (b:=2) acH rfl bK aH (hw.o.now hS) Ck)) (RQ.aS rfl (fun w hS=>(bB (m:=a) (j:=2) (a:=y) acs aH (hw.o.now hS) Ck)) (RQ.aS rfl (fun w hS=>(ah acz rfl eM)) (RQ.aS rfl (fun w hS=>(aj acG (hS.aJ 1 rfl))) (RQ.aS (v:=vJ b) rfl (fun w hS=>U) (RQ.aS rfl (fun w hS=>(aU acG er aH (hw.o.now hS))) (RQ.aS rfl (fun w hS=>(bl (m:=b) (b:=0) acB rfl cU aH (hw.o.now hS) y6)) ?_)))))))))
 refine RQ.aS rfl (fun w hS=>(bl (m:=b) (b:=2) acH rfl bK aH (hw.o.now hS) y6)) (RQ.aS rfl (fun w hS=>(bB (m:=b) (j:=2) (a:=z) acs aH (hw.o.now hS) y6)) (RQ.aS rfl (fun w hS=>(aD rfl rfl rfl rfl)) (RQ.aS rfl (fun w hS=>(ah acB rfl cU)) (RQ.aS rfl (fun w hS=>(ah acH rfl bK)) (RQ.aS rfl (fun w hS=>(aj acs (hS.aJ 0 rfl))) (RQ.aS rfl (fun w hS=>(bZ)) (RQ.aA (v:=.bool (decide ((adC.wrap (y.2.2.1+z.2.2.1))=x.2.2.1))) rfl (fun w hS=>(al)) (RQ.aA (v:=.bool (decide ((adC.wrap (y.2.2.1+z.2.2.1))=x.2.2.1))) rfl (fun w hS=>ai) (RQ.bq ?_)))))))))
 refine aw (RW.ret (bb (RV.tmp rfl) ?_))
 exact⟨congrArg acO (decide_eq_decide.2 ⟨fun h=>⟨⟨⟨by omega,by omega⟩,⟨by omega,by omega⟩,by omega,by omega,by omega,by omega⟩,by rw[if_neg jl];exact⟨by omega,⟨by omega,by omega⟩,fun p q hp hq=>by simp_all<;>omega,fun p q hp hq=>by simp_all<;>omega,a,b,y,z,ea,Ck,eb,y6,h⟩⟩,fun h=>by
  obtain⟨⟨⟨e1,e2⟩,⟨e3,e4⟩,e5,e6,e7,e8⟩,e9⟩:=h
  rw[if_neg jl]at e9
  obtain⟨m1,⟨m2,m3⟩,m4,m5,a_,b_,y_,z_,m6,m7,m8,m9,EL⟩:=e9
  have ia:a=a_:=by omega
  have ib:b=b_:=by omega
  subst ia ib
  rw[Ck]at m7
  rw[y6]at m9
  cases m7
  cases m9
  exact EL⟩),hN.bc⟩
theorem wj (rv wv:Value) (rk:List Int) (ws:List I5) (w:World) (hr:Sl vI w rv rk) (hw:Sm aV w wv ws):aM acx 50 #[.agg #[rv,wv]] w fun r w'=>r=.int .i64 (ec rk ws)∧Ext w w':=by
 refine aM.aZ Tryz.func50 ?_
 rw[cM]
 have hN:=aI.nil w none_
 refine RW.aN ?_
 refine RL.aK (bL (cs:=[rv,wv]) rfl rfl hN ?_)
 clear hN
 intro g1 w1 (hN:aI w none_ w1 [_])
 refine RL.ag (v:=.int .i64 (0)) ai (RL.ak ?_)
 iterate 2 refine RW.seq ?_
 refine RW.region (RL.ag (ah acz rfl cj) (RL.ag (aj acu (hN.aJ 0 rfl)) ?_))
 have jm:=(hr.o.now hN).bw
 refine RL.ag (aQ acu (hr.o.now hN)) (RL.ag (cr) (RL.ag (v:=.bool (decide (16777216<(rk.length:Int)))) U ?_))
 by_cases pK:16777216<(rk.length:Int)
 rw[decide_eq_true pK]
 iterate 4 refine RL.bH ?_
 refine RL.ag (v:=.bool true) (al) (RL.ak (RW.bF (RW.aN (RL.ag (v:=.int .i64 (3)) ai (RL.ak (RW.ret ?_))))))
 refine aT (bb (RV.tmp rfl) ?_)
 exact⟨congrArg (acZ .i64) (show ec rk ws=3 by unfold ec;rw[if_pos (by omega)]).symm,hN.bc⟩
 rw[decide_eq_false pK]
 refine RL.an (ah acz rfl eM) (RL.an (aj acG (hN.aJ 0 rfl)) ?_)
 have k9:=(hw.o.now hN).bw
 refine RL.an (bO acG (hw.o.now hN)) (RL.an (cr) (RL.ag (v:=.bool (decide (67108864<(ws.length:Int)))) (aB) (RL.ak ?_)))
 refine RW.aG _ (fun VZ=>?_) (fun VZ=>?_)
 refine RW.aN (RL.ag (v:=.int .i64 (3)) ai (RL.ak (RW.ret (aT (bb (RV.tmp rfl) ?_)))))
 exact⟨congrArg (acZ .i64) (show ec rk ws=3 by unfold ec;rw[if_pos (by omega)]).symm,hN.bc⟩
 refine RW.skip (aw ?_)
 iterate 2 refine RW.seq ?_
 refine RW.region (RL.ag (v:=.int .i64 (0)) ai (RL.ak (RW.block ?_)))
 refine RW.loop (fun k R0 cz=>∃q:Nat,R0 1=vP g1∧R0 3=vJ q∧aI w none_ cz [.aJ g1 [rv,wv] 28]∧(q+k=rk.length)∧(∀m:Nat,m<q→(m:Int)∈rk)) (rk.length) ?_ ?_
 exact⟨0,rfl,rfl,hN,by omega,fun m hm=>absurd hm (by omega)⟩
 clear hN
 rintro k R0 cz ⟨q,bP,cd,hN,gk,TS⟩
 have cB:=Bu bP cd
 obtain⟨gF,rfl⟩:=cB
 clear bP cd
 iterate 2 refine RW.seq ?_
 refine RW.region (RL.ag (v:=vJ q) U (RL.ag (ah acz rfl cj) (RL.ag (aj acu (hN.aJ 0 rfl)) (RL.ag (aQ acu (hr.o.now hN)) (RL.ag (aL) (RL.ak ?_))))))
 refine RW.aG _ (fun cD=>?_) (fun cD=>?_)
 refine RW.skip (aw (RW.seq (RW.block (RW.aN (RL.ag (aE (cs:=[rv,wv]) acz dy (hN.aJ 0 rfl)) (RL.ag (v:=vJ q) U ?_))))))
 refine RL.aK (bu aj6 rfl rfl rfl rfl ((CV _ _ rk ws _ (hr.o.now hN) (hw.o.now hN) ((q:Int))).mono ?_))
 rintro _ w4 ⟨rfl,bn⟩
 replace hN:=hN.ext bn
 clear bn
 refine RL.ag (aL) (RL.ak ?_)
 refine RW.aG _ (fun fJ=>?_) (fun fJ=>?_)
 refine RW.aN (RL.ag (v:=.int .i64 (2)) ai (RL.ak (RW.ret (aX ?_))))
 iterate 2 refine aT ?_
 refine aX (aT (bb (RV.tmp rfl) ?_))
 exact⟨congrArg (acZ .i64) (show ec rk ws=2 by unfold ec;rw[if_neg (by omega),if_neg (fun h=>by first|exact absurd (dq.2 (h.1 q (by omega))) (by omega)|exact absurd (h.2 i x hx) (by assumption))]).symm,hN.bc⟩
 refine RW.skip (aY (aw (RW.region (RL.ag (v:=vJ q) U (RL.ag (aD rfl rfl rfl (bh (by omega) (by omega))) (RL.ag (v:=.int .i64 ((q:Int)+1)) ai (RL.ak ?_)))))))
 exact⟨k-1,by omega,q+1,rfl,rfl,hN,by omega,fun m hm=>(adh m q).elim (TS m) (fun e=>(show m=q from by omega)▸dq.1 (by omega))⟩
 refine RW.exit ?_
 iterate 2 refine bS ?_
 refine ba (aw ?_)
 iterate 2 refine RW.seq ?_
 refine RW.region (RL.ag (v:=.int .i64 (0)) ai (RL.ak (RW.block ?_)))
 refine RW.loop (fun k2 R1 eW=>∃i:Nat,R1 1=vP g1∧R1 4=vJ i∧aI w none_ eW [.aJ g1 [rv,wv] 28]∧(i+k2=ws.length)∧(∀m:Nat,m<rk.length→(m:Int)∈rk)∧(∀(m:Nat) (y:I5),m<i→ws[m]?=some y→TY rk ws m y)) (ws.length) ?_ ?_
 exact⟨0,rfl,rfl,hN,by omega,fun m hm=>TS m (by omega),fun m y hm=>absurd hm (by omega)⟩
 clear hN
 rintro k2 R1 eW ⟨i,bP,cA,hN,Vj,TS,XY⟩
 have cB:=Bu bP cA
 obtain⟨sk,rfl⟩:=cB
 clear bP cA
 iterate 2 refine RW.seq ?_
 refine RW.region (RL.ag (v:=vJ i) U (RL.ag (ah acz rfl eM) (RL.ag (aj acG (hN.aJ 0 rfl)) (RL.ag (bO acG (hw.o.now hN)) (RL.ag (aL) (RL.ak ?_))))))
 refine RW.aG _ (fun eD=>?_) (fun eD=>?_)
 refine RW.skip (aw (RW.seq (RW.block (RW.seq ?_))))
 obtain⟨x,hx⟩:∃x,ws[i]?=some x:=⟨_,acE (by omega)⟩
 refine RW.region (RL.ag (aE (cs:=[rv,wv]) acz dy (hN.aJ 0 rfl)) (RL.ag (v:=vJ i) U ?_))
 refine RL.aK (bu aj7 rfl rfl rfl rfl ((vz _ _ rk ws _ (hr.o.now hN) (hw.o.now hN) i x hx).mono ?_))
 rintro _ w5 ⟨rfl,bn⟩
 replace hN:=hN.ext bn
 clear bn
 refine RL.ag (cV rfl) (RL.ak ?_)
 refine RW.aG _ (fun vS=>?_) (fun vS=>?_)
 refine RW.aN (RL.ag (v:=.int .i64 (2)) ai (RL.ak (RW.ret (aX ?_))))
 iterate 2 refine aT ?_
 refine aX (aT (bb (RV.tmp rfl) ?_))
 exact⟨congrArg (acZ .i64) (show ec rk ws=2 by unfold ec;rw[if_neg (by omega),if_neg (fun h=>by first|exact absurd (dq.2 (h.1 q (by omega))) (by omega)|exact absurd (h.2 i x hx) (by assumption))]).symm,hN.bc⟩
 refine RW.skip (aY (aw (RW.region (RL.ag (v:=vJ i) U (RL.ag (aD rfl rfl rfl (bh (by omega) (by omega))) (RL.ag (v:=.int .i64 ((i:Int)+1)) ai (RL.ak ?_)))))))
 exact⟨k2-1,by omega,i+1,rfl,rfl,hN,by omega,by omega,fun m y hm hy=>(adh m i).elim (fun e=>XY m y e hy) (fun e=>have e2:m=i:=(by omega);have e3:y=x:=ac2 (hy.symm.trans (e2▸hx));e2▸e3▸acU.1 vS)⟩
 refine RW.exit ?_
 iterate 2 refine bS ?_
 refine ba (aw (RW.aN (RL.ag (v:=.int .i64 (0)) ai (RL.ak (RW.ret (bb (RV.tmp rfl) ?_))))))
 have iy:i=ws.length:=by omega
 subst iy
 exact⟨congrArg (acZ .i64) (show ec rk ws=0 by unfold ec;rw[if_neg (by omega),if_pos ⟨fun m hm=>TS m (by omega),fun m y hy=>XY m y ((acA.1 hy).1) hy⟩]).symm,hN.bc⟩
end Go.Proofs.YtngkdkbpgoddlaaGreat
namespace Go.Proofs.YtngkdkbpgoddlaaGreat
open Go.RowKit Go.Rl
open Go.Gr
theorem vD (gv fv ov iv db dc:Value) (g:List Int) (w:World) (hg:Sl vI w gv g) (x:Int):aM acx 172 #[.agg #[gv,fv,ov,iv,db,dc],.int .i64 x] w fun r w'=>r=.int .i64 (kV (fun y=>y=x) g)∧Ext w w':=by
 refine aM.aZ aj8 ?_
 rw[cT]
 have hN:=aI.nil w none_
 refine RW.aN ?_
 refine RL.aK (bL (cs:=[gv,fv,ov,iv,db,dc]) rfl rfl hN ?_)
 clear hN
 intro g1 w1 (hN:aI w none_ w1 [_])
 refine RL.ag (v:=.int .i64 (0)) ai (RL.ak ?_)
 iterate 2 refine RW.seq ?_
 refine RW.region (RL.ag (v:=.int .i64 (0)) ai (RL.ak (RW.block ?_)))
 refine RW.loop (fun k R0 cz=>∃i:Nat,R0 1=.int .i64 (x)∧R0 2=vP g1∧R0 5=vJ i∧aI w none_ cz [.aJ g1 [gv,fv,ov,iv,db,dc] 32]∧(i+k=g.length)∧(∀y∈g.take i,¬(y=x))) (g.length) ?_ ?_
 exact⟨0,rfl,rfl,rfl,hN,by omega,fun x hx=>by cases hx⟩
 clear hN
 rintro k R0 cz ⟨i,bP,bV,cx,hN,gk,fJ⟩
 have cB:=ln bP bV cx
 obtain⟨gF,rfl⟩:=cB
 clear bP bV cx
 iterate 2 refine RW.seq ?_
 refine RW.region (RL.ag (v:=vJ i) U (RL.ag (ah acK rfl cj) (RL.ag (aj acu (hN.aJ 0 rfl)) ?_)))
 have jm:=(hg.o.now hN).bw
 refine RL.ag (aQ acu (hg.o.now hN)) (RL.ag (aL) (RL.ak ?_))
 refine RW.aG _ (fun cD=>?_) (fun cD=>?_)
 refine RW.skip (aw (RW.seq (RW.block (RW.aN (RL.ag (ah acK rfl cj) (RL.ag (aj acu (hN.aJ 0 rfl)) (RL.ag (v:=vJ i) U (RL.ag (aC acu bK (hg.o.now hN)) ?_))))))))
 have aO:=da (g) i
 obtain⟨ap,bX⟩:=aO
 refine RL.ag (aF (m:=i) (a:=ap) acs (hg.o.now hN) bX) (RL.ag (v:=.int .i64 (x)) U (RL.ag (bZ) (RL.ak ?_)))
 refine RW.aG _ (fun CA=>?_) (fun CA=>?_)
 refine RW.aN (RL.ag (v:=vJ i) U (RL.ag (v:=vJ i) ai (RL.ak (RW.ret (aX ?_)))))
 iterate 2 refine aT ?_
 refine aX (aT (bb (RV.tmp rfl) ?_))
 exact⟨congrArg (acZ .i64) (nH fJ bX CA).symm,hN.bc⟩
 refine RW.skip (aY (aw (RW.region (RL.ag (v:=vJ i) U (RL.ag (aD rfl rfl rfl (bh (by omega) (by omega))) (RL.ag (v:=.int .i64 ((i:Int)+1)) ai (RL.ak ?_)))))))
 exact⟨k-1,by omega,i+1,rfl,rfl,rfl,hN,by omega,fun x hx=>(du bX hx).elim (fJ x) (fun e=>e▸CA)⟩
 refine RW.exit ?_
 iterate 2 refine bS ?_
 refine ba (aw (RW.aN (RL.ag (v:=.int .i64 (-1)) ai (RL.ak (RW.ret (bb (RV.tmp rfl) ?_))))))
 rw[acX (by omega)]at fJ
 exact⟨congrArg (acZ .i64) (qI fJ).symm,hN.bc⟩
theorem ny (d least:Int) (w:World):aM acx 112 #[.int .i64 d,.int .i64 least] w fun r w'=>r=.bool (decide (dp least d))∧Ext w w':=by
 refine aM.aZ ais ?_
 rw[cT]
 have hN:=aI.nil w none_
 refine RW.aN (RL.ag (v:=.bool false) ai (RL.b6 (RL.ag (v:=.int .i64 (d)) U (RL.ag (v:=.int .i64 (least)) U (RL.ag (cm) ?_)))))
 refine RL.ag (v:=.bool (decide (least≤d))) U ?_
 by_cases kP:least≤d
 rw[decide_eq_true kP]
 refine RL.an (v:=.int .i64 (d)) U (RL.an (mw rfl rfl) (RL.ag (v:=.bool (decide (d≤1152921504606846976))) (al) (RL.ag (v:=.bool (decide (d≤1152921504606846976))) ai (RL.ak (RW.ret (bb (RV.tmp rfl) ?_))))))
 exact⟨congrArg acO (decide_eq_decide.2 ⟨fun h=>⟨by omega,h⟩,fun h=>h.2⟩),hN.bc⟩
 rw[decide_eq_false kP]
 iterate 2 refine RL.bH ?_
 refine RL.ag (v:=.bool false) (aB) (RL.ag (v:=.bool false) ai (RL.ak (RW.ret (bb (RV.tmp rfl) ?_))))
 exact⟨congrArg acO (decide_eq_false (fun h=>by have:=h.1;omega)).symm,hN.bc⟩
theorem k5 (n:Int) (gv fv ov iv db dc:Value) (g:List Int) (w:World) (hg:Sl vI w gv g) (lv:Value) (l:List Int) (hl:Sl vI w lv l) (gr:Int):aM acx 111 #[.int .i64 n,.agg #[gv,fv,ov,iv,db,dc],lv,.int .i64 gr] w fun r w'=>r=.bool (decide (js n (p8 g gr) l))∧Ext w w':=by
 refine aM.aZ ag8 ?_
 rw[kX]
 have hN:=aI.nil w none_
 refine RW.aN ?_
 refine RL.aK (bL (cs:=[gv,fv,ov,iv,db,dc]) rfl rfl hN ?_)
 clear hN
 intro g1 w1 (hN:aI w none_ w1 [_])
 refine RL.ag (v:=.bool false) ai (RL.ak ?_)
 iterate 2 refine RW.seq ?_
 refine RW.region (RL.ag (v:=.int .i64 (0)) ai (RL.ak (RW.block ?_)))
 refine RW.loop (fun k R0 cz=>∃i:Nat,R0 0=.int .i64 (n)∧R0 2=lv∧R0 3=.int .i64 (gr)∧R0 5=vP g1∧R0 9=vJ i∧aI w none_ cz [.aJ g1 [gv,fv,ov,iv,db,dc] 32]∧(i+k=l.length)∧(js n (p8 g gr) (l.take i))) (l.length) ?_ ?_
 exact⟨0,rfl,rfl,rfl,rfl,rfl,hN,by omega,KK _ _⟩
 clear hN
 rintro k R0 cz ⟨i,cH,bV,cd,cx,eg,hN,gk,rQ⟩
 have cB:=iw cH bV cd cx eg
 obtain⟨gF,rfl⟩:=cB
 clear cH bV cd cx eg
 iterate 2 refine RW.seq ?_
 refine RW.region (RL.ag (v:=vJ i) U (RL.ag (v:=lv) U ?_))
 have jm:=(hl.o.now hN).bw
 refine RL.ag (aQ acu (hl.o.now hN)) (RL.ag (aL) (RL.ak ?_))
 refine RW.aG _ (fun cD=>?_) (fun cD=>?_)
 refine RW.skip (aw (RW.seq (RW.block (RW.aN (RL.ag (v:=.int .i64 (0)) ai (RL.ak ?_))))))
 iterate 2 refine RW.seq ?_
 have aO:=da l i
 obtain⟨ap,bX⟩:=aO
 obtain⟨sH,jB⟩:∃y,l[i-1]?=some y:=⟨_,acE (by omega)⟩
 replace hN:=hN.ext (Ext.drew cz)
 refine RW.bD (fun u=>aI w none_ u [.aJ g1 [gv,fv,ov,iv,db,dc] 32]) 7 [(0,0),(1,0),(2,0),(3,0),(4,0),(5,1),(6,0)] (by intro _ _ _ h;exact h) hN (RQ.aA rfl (fun w hS=>(aE (cs:=[gv,fv,ov,iv,db,dc]) acK iD (hS.aJ 0 rfl))) (RQ.aA (v:=lv) rfl (fun w hS=>U) (RQ.aA (v:=vJ i) rfl (fun w hS=>U) (RQ.aA rfl (fun w hS=>(aC acu bK (hl.o.now hS))) (RQ.aA rfl (fun w hS=>(aF (m:=i) (a:=ap) acs (hl.o.now hS) bX)) ?_)))))
 refine RQ.b0 rfl (bu aj8 rfl rfl rfl rfl ((vD _ _ _ _ _ _ g _ (hg.o.now hN) (ap)).mono ?_))
 rintro _ w4 ⟨rfl,bn⟩
 replace hN:=hN.ext bn
 clear bn
 refine⟨hN,?_⟩
 refine RQ.aA rfl (fun w hS=>(cm)) (RQ.bq (aw ?_))
 refine RW.aG _ (fun VY=>?_) (fun VY=>?_)
 refine RW.region (RL.ag (v:=.int .i64 (1)) ai (RL.ak (RW.seq ?_)))
 replace hN:=hN.ext (Ext.drew w4)
 refine RW.bD (fun u=>aI w none_ u [.aJ g1 [gv,fv,ov,iv,db,dc] 32]) 38 [(0,0),(1,0),(2,0),(3,0),(4,0),(5,0),(6,0),(7,0),(8,0),(9,0),(10,0),(11,0),(12,0),(13,0),(14,0),(15,0),(16,0),(17,0),(18,0),(19,0),(20,0),(21,0),(22,0),(23,0),(24,0),(25,0),(26,0),(27,0),(28,0),(29,0),(30,0),(31,0),(32,0),(33,0),(34,0),(35,0),(36,0),(37,0)] (by intro _ _ _ h;exact h) hN (RQ.aA (v:=lv) rfl (fun w hS=>U) (RQ.aA (v:=vJ i) rfl (fun w hS=>U) (RQ.aA rfl (fun w hS=>(aC acu bK (hl.o.now hS))) (RQ.aA rfl (fun w hS=>(aF (m:=i) (a:=ap) acs (hl.o.now hS) bX)) (RQ.aA rfl (fun w hS=>(aL)) (RQ.aA (v:=.bool (decide (ap<0))) rfl (fun w hS=>U) ?_))))))
 by_cases nE:ap<0
 rw[decide_eq_true nE]
 iterate 6 refine RQ.bU rfl ?_
 refine RQ.aA (v:=.bool true) rfl (fun w hS=>(al)) (RQ.aA (v:=.bool true) rfl (fun w hS=>U) ?_)
 iterate 3 refine RQ.bU rfl ?_
 iterate 10 refine RQ.dS rfl ?_
 refine RQ.bU rfl (RQ.aA (v:=.bool true) rfl (fun w hS=>(al)) (RQ.aA (v:=.bool true) rfl (fun w hS=>U) ?_))
 iterate 3 refine RQ.bU rfl ?_
 iterate 3 refine RQ.dS rfl ?_
 refine RQ.bU rfl (RQ.aA (v:=.bool true) rfl (fun w hS=>(al)) (RQ.bq (aw (RW.bF (RW.aN (RL.ag (v:=.bool false) ai (RL.ak ?_)))))))
 refine RW.ret (aX ?_)
 iterate 2 refine aT ?_
 refine aX (aT (bb (RV.tmp rfl) ?_))
 exact⟨congrArg acO (decide_eq_false (fun h=>by
  have h1:=h.1 _ (acy bX)
  have h2:=h1.2
  unfold p8 at h2
  first
  |omega
  |(rw[if_pos (dq.1 (by omega))]at h2;omega)
  |(rw[if_neg (fun h=>absurd (dq.2 h) (by omega))]at h2;omega)
  |(have h3:=h.2 (i-1) sH ap jB (by rw[show i-1+1=i by omega];exact bX);omega))).symm,hN.bc⟩
 rw[decide_eq_false nE]
 refine RQ.aS (v:=lv) rfl (fun w hS=>U) (RQ.aS (v:=vJ i) rfl (fun w hS=>U) (RQ.aS rfl (fun w hS=>(aC acu bK (hl.o.now hS))) (RQ.aS rfl (fun w hS=>(aF (m:=i) (a:=ap) acs (hl.o.now hS) bX)) (RQ.aS (v:=.int .i64 (n)) rfl (fun w hS=>U) (RQ.aS rfl (fun w hS=>(cm)) (RQ.aA (v:=.bool (decide (n≤ap))) rfl (fun w hS=>(aB)) (RQ.aA (v:=.bool (decide (n≤ap))) rfl (fun w hS=>U) ?_)))))))
 by_cases uo:n≤ap
 rw[decide_eq_true uo]
 iterate 3 refine RQ.bU rfl ?_
 iterate 10 refine RQ.dS rfl ?_
 refine RQ.bU rfl (RQ.aA (v:=.bool true) rfl (fun w hS=>(al)) (RQ.aA (v:=.bool true) rfl (fun w hS=>U) ?_))
 iterate 3 refine RQ.bU rfl ?_
 iterate 3 refine RQ.dS rfl ?_
 refine RQ.bU rfl (RQ.aA (v:=.bool true) rfl (fun w hS=>(al)) (RQ.bq (aw (RW.bF (RW.aN (RL.ag (v:=.bool false) ai (RL.ak ?_)))))))
 refine RW.ret (aX ?_)
 iterate 2 refine aT ?_
 refine aX (aT (bb (RV.tmp rfl) ?_))
 exact⟨congrArg acO (decide_eq_false (fun h=>by
  have h1:=h.1 _ (acy bX)
  have h2:=h1.2
  unfold p8 at h2
  first
  |omega
  |(rw[if_pos (dq.1 (by omega))]at h2;omega)
  |(rw[if_neg (fun h=>absurd (dq.2 h) (by omega))]at h2;omega)
  |(have h3:=h.2 (i-1) sH ap jB (by rw[show i-1+1=i by omega];exact bX);omega))).symm,hN.bc⟩
 rw[decide_eq_false uo]
 refine RQ.aS (v:=vJ i) rfl (fun w hS=>U) (RQ.aS rfl (fun w hS=>(cr)) (RQ.aS (v:=.bool (decide (0<(i:Int)))) rfl (fun w hS=>U) ?_))
 by_cases um:0<(i:Int)
 rw[decide_eq_true um]
 refine RQ.aS (v:=lv) rfl (fun w hS=>U) (RQ.aS (v:=vJ i) rfl (fun w hS=>U) (RQ.aS rfl (fun w hS=>(aC acu bK (hl.o.now hS))) (RQ.aS rfl (fun w hS=>(aF (m:=i) (a:=ap) acs (hl.o.now hS) bX)) (RQ.aS (v:=lv) rfl (fun w hS=>U) (RQ.aS (v:=vJ i) rfl (fun w hS=>U) (RQ.aS rfl (fun w hS=>(aD rfl rfl rfl (pg (by omega) (by omega)))) (RQ.aS rfl (fun w hS=>(aC acu bK (hl.o.now hS))) (RQ.aS rfl (fun w hS=>(aF (m:=((i:Int)-1).toNat) (a:=sH) acs (hl.o.now hS) (by rw[show((i:Int)-1).toNat=i-1 by omega];exact jB))) (RQ.aS rfl (fun w hS=>(mw rfl rfl)) ?_)))))))))
 refine RQ.aS (v:=.bool (decide (ap≤sH))) rfl (fun w hS=>(al)) (RQ.aA (v:=.bool (decide (ap≤sH))) rfl (fun w hS=>(aB)) (RQ.aA (v:=.bool (decide (ap≤sH))) rfl (fun w hS=>U) ?_))
 by_cases uk:ap≤sH
 rw[decide_eq_true uk]
 iterate 3 refine RQ.bU rfl ?_
 iterate 3 refine RQ.dS rfl ?_
 refine RQ.bU rfl (RQ.aA (v:=.bool true) rfl (fun w hS=>(al)) (RQ.bq (aw (RW.bF (RW.aN (RL.ag (v:=.bool false) ai (RL.ak ?_)))))))
 refine RW.ret (aX ?_)
 iterate 2 refine aT ?_
 refine aX (aT (bb (RV.tmp rfl) ?_))
 exact⟨congrArg acO (decide_eq_false (fun h=>by
  have h1:=h.1 _ (acy bX)
  have h2:=h1.2
  unfold p8 at h2
  first
  |omega
  |(rw[if_pos (dq.1 (by omega))]at h2;omega)
  |(rw[if_neg (fun h=>absurd (dq.2 h) (by omega))]at h2;omega)
  |(have h3:=h.2 (i-1) sH ap jB (by rw[show i-1+1=i by omega];exact bX);omega))).symm,hN.bc⟩
 rw[decide_eq_false uk]
 refine RQ.aS (v:=.int .i64 (gr)) rfl (fun w hS=>U) (RQ.aS rfl (fun w hS=>(aL)) (RQ.aS (v:=.bool (decide (gr<2))) rfl (fun w hS=>U) ?_))
 by_cases kr:gr<2
 rw[decide_eq_true kr]
 refine RQ.aS (v:=.int .i64 (1)) rfl (fun w hS=>U) (RQ.aS (v:=.int .i64 (gr)) rfl (fun w hS=>U) (RQ.aS rfl (fun w hS=>(bj)) (RQ.aS (v:=.bool (decide (¬1=gr))) rfl (fun w hS=>(al)) (RQ.aA (v:=.bool (decide (¬1=gr))) rfl (fun w hS=>(aB)) (RQ.bq (aw ?_))))))
 refine RW.aG _ (fun Cz=>?_) (fun Cz=>?_)
 refine RW.aN (RL.ag (v:=.bool false) ai (RL.ak (RW.ret (aX ?_))))
 iterate 2 refine aT ?_
 refine aX (aT (bb (RV.tmp rfl) ?_))
 exact⟨congrArg acO (decide_eq_false (fun h=>by
  have h1:=h.1 _ (acy bX)
  have h2:=h1.2
  unfold p8 at h2
  first
  |omega
  |(rw[if_pos (dq.1 (by omega))]at h2;omega)
  |(rw[if_neg (fun h=>absurd (dq.2 h) (by omega))]at h2;omega)
  |(have h3:=h.2 (i-1) sH ap jB (by rw[show i-1+1=i by omega];exact bX);omega))).symm,hN.bc⟩
 refine RW.skip (aY (aw (RW.region (RL.ag (v:=vJ i) U (RL.ag (aD rfl rfl rfl (bh (by omega) (by omega))) (RL.ag (v:=.int .i64 ((i:Int)+1)) ai (RL.ak ?_)))))))
 exact⟨k-1,by omega,i+1,rfl,rfl,rfl,rfl,rfl,hN,by omega,jM rQ bX (by omega) (fun OQ=>by first|omega|(rw[if_pos (dq.1 (by omega))];omega)|(rw[if_neg (fun h=>absurd (dq.2 h) (by omega))];omega)) (fun y hi hy=>by first|omega|(rw[jB]at hy;cases hy;omega))⟩
 rw[decide_eq_false kr]
 iterate 3 refine RQ.bU rfl ?_
 refine RQ.aS (v:=.bool false) rfl (fun w hS=>(aB)) (RQ.aA (v:=.bool false) rfl (fun w hS=>(aB)) (RQ.bq (aw (RW.cg (RW.skip (aY (aw (RW.region (RL.ag (v:=vJ i) U ?_)))))))))
 refine RL.ag (aD rfl rfl rfl (bh (by omega) (by omega))) (RL.ag (v:=.int .i64 ((i:Int)+1)) ai (RL.ak ?_))
 exact⟨k-1,by omega,i+1,rfl,rfl,rfl,rfl,rfl,hN,by omega,jM rQ bX (by omega) (fun OQ=>by first|omega|(rw[if_pos (dq.1 (by omega))];omega)|(rw[if_neg (fun h=>absurd (dq.2 h) (by omega))];omega)) (fun y hi hy=>by first|omega|(rw[jB]at hy;cases hy;omega))⟩
 rw[decide_eq_false um]
 iterate 10 refine RQ.bU rfl ?_
 refine RQ.aS (v:=.bool false) rfl (fun w hS=>(aB)) (RQ.aA (v:=.bool false) rfl (fun w hS=>(aB)) (RQ.aA (v:=.bool false) rfl (fun w hS=>U) (RQ.aS (v:=.int .i64 (gr)) rfl (fun w hS=>U) (RQ.aS rfl (fun w hS=>(aL)) (RQ.aS (v:=.bool (decide (gr<2))) rfl (fun w hS=>U) ?_)))))
 by_cases kr:gr<2
 rw[decide_eq_true kr]
 refine RQ.aS (v:=.int .i64 (1)) rfl (fun w hS=>U) (RQ.aS (v:=.int .i64 (gr)) rfl (fun w hS=>U) (RQ.aS rfl (fun w hS=>(bj)) (RQ.aS (v:=.bool (decide (¬1=gr))) rfl (fun w hS=>(al)) (RQ.aA (v:=.bool (decide (¬1=gr))) rfl (fun w hS=>(aB)) (RQ.bq (aw ?_))))))
 refine RW.aG _ (fun Cz=>?_) (fun Cz=>?_)
 refine RW.aN (RL.ag (v:=.bool false) ai (RL.ak (RW.ret (aX ?_))))
 iterate 2 refine aT ?_
 refine aX (aT (bb (RV.tmp rfl) ?_))
 exact⟨congrArg acO (decide_eq_false (fun h=>by
  have h1:=h.1 _ (acy bX)
  have h2:=h1.2
  unfold p8 at h2
  first
  |omega
  |(rw[if_pos (dq.1 (by omega))]at h2;omega)
  |(rw[if_neg (fun h=>absurd (dq.2 h) (by omega))]at h2;omega)
  |(have h3:=h.2 (i-1) sH ap jB (by rw[show i-1+1=i by omega];exact bX);omega))).symm,hN.bc⟩
 refine RW.skip (aY (aw (RW.region (RL.ag (v:=vJ i) U (RL.ag (aD rfl rfl rfl (bh (by omega) (by omega))) (RL.ag (v:=.int .i64 ((i:Int)+1)) ai (RL.ak ?_)))))))
 exact⟨k-1,by omega,i+1,rfl,rfl,rfl,rfl,rfl,hN,by omega,jM rQ bX (by omega) (fun OQ=>by first|omega|(rw[if_pos (dq.1 (by omega))];omega)|(rw[if_neg (fun h=>absurd (dq.2 h) (by omega))];omega)) (fun y hi hy=>by first|omega|(rw[jB]at hy;cases hy;omega))⟩
 rw[decide_eq_false kr]
 iterate 3 refine RQ.bU rfl ?_
 refine RQ.aS (v:=.bool false) rfl (fun w hS=>(aB)) (RQ.aA (v:=.bool false) rfl (fun w hS=>(aB)) (RQ.bq (aw (RW.cg (RW.skip (aY (aw (RW.region (RL.ag (v:=vJ i) U ?_)))))))))
 refine RL.ag (aD rfl rfl rfl (bh (by omega) (by omega))) (RL.ag (v:=.int .i64 ((i:Int)+1)) ai (RL.ak ?_))
 exact⟨k-1,by omega,i+1,rfl,rfl,rfl,rfl,rfl,hN,by omega,jM rQ bX (by omega) (fun OQ=>by first|omega|(rw[if_pos (dq.1 (by omega))];omega)|(rw[if_neg (fun h=>absurd (dq.2 h) (by omega))];omega)) (fun y hi hy=>by first|omega|(rw[jB]at hy;cases hy;omega))⟩
 refine RW.skip (aw (RW.seq ?_))
 replace hN:=hN.ext (Ext.drew w4)
 refine RW.bD (fun u=>aI w none_ u [.aJ g1 [gv,fv,ov,iv,db,dc] 32]) 38 [(0,0),(1,0),(2,0),(3,0),(4,0),(5,0),(6,0),(7,0),(8,0),(9,0),(10,0),(11,0),(12,0),(13,0),(14,0),(15,0),(16,0),(17,0),(18,0),(19,0),(20,0),(21,0),(22,0),(23,0),(24,0),(25,0),(26,0),(27,0),(28,0),(29,0),(30,0),(31,0),(32,0),(33,0),(34,0),(35,0),(36,0),(37,0)] (by intro _ _ _ h;exact h) hN (RQ.aA (v:=lv) rfl (fun w hS=>U) (RQ.aA (v:=vJ i) rfl (fun w hS=>U) (RQ.aA rfl (fun w hS=>(aC acu bK (hl.o.now hS))) (RQ.aA rfl (fun w hS=>(aF (m:=i) (a:=ap) acs (hl.o.now hS) bX)) (RQ.aA rfl (fun w hS=>(aL)) (RQ.aA (v:=.bool (decide (ap<0))) rfl (fun w hS=>U) ?_))))))
 by_cases nE:ap<0
 rw[decide_eq_true nE]
 iterate 6 refine RQ.bU rfl ?_
 refine RQ.aA (v:=.bool true) rfl (fun w hS=>(al)) (RQ.aA (v:=.bool true) rfl (fun w hS=>U) ?_)
 iterate 3 refine RQ.bU rfl ?_
 iterate 10 refine RQ.dS rfl ?_
 refine RQ.bU rfl (RQ.aA (v:=.bool true) rfl (fun w hS=>(al)) (RQ.aA (v:=.bool true) rfl (fun w hS=>U) ?_))
 iterate 3 refine RQ.bU rfl ?_
 iterate 3 refine RQ.dS rfl ?_
 refine RQ.bU rfl (RQ.aA (v:=.bool true) rfl (fun w hS=>(al)) (RQ.bq (aw (RW.bF (RW.aN (RL.ag (v:=.bool false) ai (RL.ak ?_)))))))
 refine RW.ret (aX ?_)
 iterate 2 refine aT ?_
 refine aX (aT (bb (RV.tmp rfl) ?_))
 exact⟨congrArg acO (decide_eq_false (fun h=>by
  have h1:=h.1 _ (acy bX)
  have h2:=h1.2
  unfold p8 at h2
  first
  |omega
  |(rw[if_pos (dq.1 (by omega))]at h2;omega)
  |(rw[if_neg (fun h=>absurd (dq.2 h) (by omega))]at h2;omega)
  |(have h3:=h.2 (i-1) sH ap jB (by rw[show i-1+1=i by omega];exact bX);omega))).symm,hN.bc⟩
 rw[decide_eq_false nE]
 refine RQ.aS (v:=lv) rfl (fun w hS=>U) (RQ.aS (v:=vJ i) rfl (fun w hS=>U) (RQ.aS rfl (fun w hS=>(aC acu bK (hl.o.now hS))) (RQ.aS rfl (fun w hS=>(aF (m:=i) (a:=ap) acs (hl.o.now hS) bX)) (RQ.aS (v:=.int .i64 (n)) rfl (fun w hS=>U) (RQ.aS rfl (fun w hS=>(cm)) (RQ.aA (v:=.bool (decide (n≤ap))) rfl (fun w hS=>(aB)) (RQ.aA (v:=.bool (decide (n≤ap))) rfl (fun w hS=>U) ?_)))))))
 by_cases uo:n≤ap
 rw[decide_eq_true uo]
 iterate 3 refine RQ.bU rfl ?_
 iterate 10 refine RQ.dS rfl ?_
 refine RQ.bU rfl (RQ.aA (v:=.bool true) rfl (fun w hS=>(al)) (RQ.aA (v:=.bool true) rfl (fun w hS=>U) ?_))
 iterate 3 refine RQ.bU rfl ?_
 iterate 3 refine RQ.dS rfl ?_
 refine RQ.bU rfl (RQ.aA (v:=.bool true) rfl (fun w hS=>(al)) (RQ.bq (aw (RW.bF (RW.aN (RL.ag (v:=.bool false) ai (RL.ak ?_)))))))
 refine RW.ret (aX ?_)
 iterate 2 refine aT ?_
 refine aX (aT (bb (RV.tmp rfl) ?_))
 exact⟨congrArg acO (decide_eq_false (fun h=>by
  have h1:=h.1 _ (acy bX)
  have h2:=h1.2
  unfold p8 at h2
  first
  |omega
  |(rw[if_pos (dq.1 (by omega))]at h2;omega)
  |(rw[if_neg (fun h=>absurd (dq.2 h) (by omega))]at h2;omega)
  |(have h3:=h.2 (i-1) sH ap jB (by rw[show i-1+1=i by omega];exact bX);omega))).symm,hN.bc⟩
 rw[decide_eq_false uo]
 refine RQ.aS (v:=vJ i) rfl (fun w hS=>U) (RQ.aS rfl (fun w hS=>(cr)) (RQ.aS (v:=.bool (decide (0<(i:Int)))) rfl (fun w hS=>U) ?_))
 by_cases um:0<(i:Int)
 rw[decide_eq_true um]
 refine RQ.aS (v:=lv) rfl (fun w hS=>U) (RQ.aS (v:=vJ i) rfl (fun w hS=>U) (RQ.aS rfl (fun w hS=>(aC acu bK (hl.o.now hS))) (RQ.aS rfl (fun w hS=>(aF (m:=i) (a:=ap) acs (hl.o.now hS) bX)) (RQ.aS (v:=lv) rfl (fun w hS=>U) (RQ.aS (v:=vJ i) rfl (fun w hS=>U) (RQ.aS rfl (fun w hS=>(aD rfl rfl rfl (pg (by omega) (by omega)))) (RQ.aS rfl (fun w hS=>(aC acu bK (hl.o.now hS))) (RQ.aS rfl (fun w hS=>(aF (m:=((i:Int)-1).toNat) (a:=sH) acs (hl.o.now hS) (by rw[show((i:Int)-1).toNat=i-1 by omega];exact jB))) (RQ.aS rfl (fun w hS=>(mw rfl rfl)) ?_)))))))))
 refine RQ.aS (v:=.bool (decide (ap≤sH))) rfl (fun w hS=>(al)) (RQ.aA (v:=.bool (decide (ap≤sH))) rfl (fun w hS=>(aB)) (RQ.aA (v:=.bool (decide (ap≤sH))) rfl (fun w hS=>U) ?_))
 by_cases uk:ap≤sH
 rw[decide_eq_true uk]
 iterate 3 refine RQ.bU rfl ?_
 iterate 3 refine RQ.dS rfl ?_
 refine RQ.bU rfl (RQ.aA (v:=.bool true) rfl (fun w hS=>(al)) (RQ.bq (aw (RW.bF (RW.aN (RL.ag (v:=.bool false) ai (RL.ak ?_)))))))
 refine RW.ret (aX ?_)
 iterate 2 refine aT ?_
 refine aX (aT (bb (RV.tmp rfl) ?_))
 exact⟨congrArg acO (decide_eq_false (fun h=>by
  have h1:=h.1 _ (acy bX)
  have h2:=h1.2
  unfold p8 at h2
  first
  |omega
  |(rw[if_pos (dq.1 (by omega))]at h2;omega)
  |(rw[if_neg (fun h=>absurd (dq.2 h) (by omega))]at h2;omega)
  |(have h3:=h.2 (i-1) sH ap jB (by rw[show i-1+1=i by omega];exact bX);omega))).symm,hN.bc⟩
 rw[decide_eq_false uk]
 refine RQ.aS (v:=.int .i64 (gr)) rfl (fun w hS=>U) (RQ.aS rfl (fun w hS=>(aL)) (RQ.aS (v:=.bool (decide (gr<2))) rfl (fun w hS=>U) ?_))
 by_cases kr:gr<2
 rw[decide_eq_true kr]
 refine RQ.aS (v:=.int .i64 (0)) rfl (fun w hS=>U) (RQ.aS (v:=.int .i64 (gr)) rfl (fun w hS=>U) (RQ.aS rfl (fun w hS=>(bj)) (RQ.aS (v:=.bool (decide (¬0=gr))) rfl (fun w hS=>(al)) (RQ.aA (v:=.bool (decide (¬0=gr))) rfl (fun w hS=>(aB)) (RQ.bq (aw ?_))))))
 refine RW.aG _ (fun Cz=>?_) (fun Cz=>?_)
 refine RW.aN (RL.ag (v:=.bool false) ai (RL.ak (RW.ret (aX ?_))))
 iterate 2 refine aT ?_
 refine aX (aT (bb (RV.tmp rfl) ?_))
 exact⟨congrArg acO (decide_eq_false (fun h=>by
  have h1:=h.1 _ (acy bX)
  have h2:=h1.2
  unfold p8 at h2
  first
  |omega
  |(rw[if_pos (dq.1 (by omega))]at h2;omega)
  |(rw[if_neg (fun h=>absurd (dq.2 h) (by omega))]at h2;omega)
  |(have h3:=h.2 (i-1) sH ap jB (by rw[show i-1+1=i by omega];exact bX);omega))).symm,hN.bc⟩
 refine RW.skip (aY (aw (RW.region (RL.ag (v:=vJ i) U (RL.ag (aD rfl rfl rfl (bh (by omega) (by omega))) (RL.ag (v:=.int .i64 ((i:Int)+1)) ai (RL.ak ?_)))))))
 exact⟨k-1,by omega,i+1,rfl,rfl,rfl,rfl,rfl,hN,by omega,jM rQ bX (by omega) (fun OQ=>by first|omega|(rw[if_pos (dq.1 (by omega))];omega)|(rw[if_neg (fun h=>absurd (dq.2 h) (by omega))];omega)) (fun y hi hy=>by first|omega|(rw[jB]at hy;cases hy;omega))⟩
 rw[decide_eq_false kr]
 iterate 3 refine RQ.bU rfl ?_
 refine RQ.aS (v:=.bool false) rfl (fun w hS=>(aB)) (RQ.aA (v:=.bool false) rfl (fun w hS=>(aB)) (RQ.bq (aw (RW.cg (RW.skip (aY (aw (RW.region (RL.ag (v:=vJ i) U ?_)))))))))
 refine RL.ag (aD rfl rfl rfl (bh (by omega) (by omega))) (RL.ag (v:=.int .i64 ((i:Int)+1)) ai (RL.ak ?_))
 exact⟨k-1,by omega,i+1,rfl,rfl,rfl,rfl,rfl,hN,by omega,jM rQ bX (by omega) (fun OQ=>by first|omega|(rw[if_pos (dq.1 (by omega))];omega)|(rw[if_neg (fun h=>absurd (dq.2 h) (by omega))];omega)) (fun y hi hy=>by first|omega|(rw[jB]at hy;cases hy;omega))⟩
 rw[decide_eq_false um]
 iterate 10 refine RQ.bU rfl ?_
 refine RQ.aS (v:=.bool false) rfl (fun w hS=>(aB)) (RQ.aA (v:=.bool false) rfl (fun w hS=>(aB)) (RQ.aA (v:=.bool false) rfl (fun w hS=>U) (RQ.aS (v:=.int .i64 (gr)) rfl (fun w hS=>U) (RQ.aS rfl (fun w hS=>(aL)) (RQ.aS (v:=.bool (decide (gr<2))) rfl (fun w hS=>U) ?_)))))
 by_cases kr:gr<2
 rw[decide_eq_true kr]
 refine RQ.aS (v:=.int .i64 (0)) rfl (fun w hS=>U) (RQ.aS (v:=.int .i64 (gr)) rfl (fun w hS=>U) (RQ.aS rfl (fun w hS=>(bj)) (RQ.aS (v:=.bool (decide (¬0=gr))) rfl (fun w hS=>(al)) (RQ.aA (v:=.bool (decide (¬0=gr))) rfl (fun w hS=>(aB)) (RQ.bq (aw ?_))))))
 refine RW.aG _ (fun Cz=>?_) (fun Cz=>?_)
 refine RW.aN (RL.ag (v:=.bool false) ai (RL.ak (RW.ret (aX ?_))))
 iterate 2 refine aT ?_
 refine aX (aT (bb (RV.tmp rfl) ?_))
 exact⟨congrArg acO (decide_eq_false (fun h=>by
  have h1:=h.1 _ (acy bX)
  have h2:=h1.2
  unfold p8 at h2
  first
  |omega
  |(rw[if_pos (dq.1 (by omega))]at h2;omega)
  |(rw[if_neg (fun h=>absurd (dq.2 h) (by omega))]at h2;omega)
  |(have h3:=h.2 (i-1) sH ap jB (by rw[show i-1+1=i by omega];exact bX);omega))).symm,hN.bc⟩
 refine RW.skip (aY (aw (RW.region (RL.ag (v:=vJ i) U (RL.ag (aD rfl rfl rfl (bh (by omega) (by omega))) (RL.ag (v:=.int .i64 ((i:Int)+1)) ai (RL.ak ?_)))))))
 exact⟨k-1,by omega,i+1,rfl,rfl,rfl,rfl,rfl,hN,by omega,jM rQ bX (by omega) (fun OQ=>by first|omega|(rw[if_pos (dq.1 (by omega))];omega)|(rw[if_neg (fun h=>absurd (dq.2 h) (by omega))];omega)) (fun y hi hy=>by first|omega|(rw[jB]at hy;cases hy;omega))⟩
 rw[decide_eq_false kr]
 iterate 3 refine RQ.bU rfl ?_
 refine RQ.aS (v:=.bool false) rfl (fun w hS=>(aB)) (RQ.aA (v:=.bool false) rfl (fun w hS=>(aB)) (RQ.bq (aw (RW.cg (RW.skip (aY (aw (RW.region (RL.ag (v:=vJ i) U ?_)))))))))
 refine RL.ag (aD rfl rfl rfl (bh (by omega) (by omega))) (RL.ag (v:=.int .i64 ((i:Int)+1)) ai (RL.ak ?_))
 exact⟨k-1,by omega,i+1,rfl,rfl,rfl,rfl,rfl,hN,by omega,jM rQ bX (by omega) (fun OQ=>by first|omega|(rw[if_pos (dq.1 (by omega))];omega)|(rw[if_neg (fun h=>absurd (dq.2 h) (by omega))];omega)) (fun y hi hy=>by first|omega|(rw[jB]at hy;cases hy;omega))⟩
 refine RW.exit ?_
 iterate 2 refine bS ?_
 refine ba (aw (RW.aN (RL.ag (v:=.bool true) ai (RL.ak (RW.ret (bb (RV.tmp rfl) ?_))))))
 rw[acX (by omega)]at rQ
 exact⟨congrArg acO (decide_eq_true rQ).symm,hN.bc⟩
end Go.Proofs.YtngkdkbpgoddlaaGreat
namespace Go.Proofs.YtngkdkbpgoddlaaGreat
open Go.RowKit Go.Rl
open Go.Gr
theorem pC (n:Int) (gv fv ov iv db dc:Value) (g:List Int) (w:World) (hg:Sl vI w gv g) (lv:Value) (hs:List Hd) (ls:List (List Int)) (hl:Sl vh w lv hs) (jt:fW none_ vI w hs ls):aM acx 114 #[.int .i64 n,.agg #[gv,fv,ov,iv,db,dc],lv] w fun r w'=>r=.bool (decide (p4 n g ls))∧Ext w w':=by
 refine aM.aZ ait ?_
 rw[iX]
 have hN:=aI.nil w none_
 have EZ:=jt.1
 refine RW.aN ?_
 refine RL.aK (bL (cs:=[gv,fv,ov,iv,db,dc]) rfl rfl hN ?_)
 clear hN
 intro g1 w1 (hN:aI w none_ w1 [_])
 refine RL.ag (v:=.bool false) ai (RL.ak ?_)
 iterate 2 refine RW.seq ?_
 refine RW.region (RL.ag (v:=.int .i64 (0)) ai (RL.ak (RW.block ?_)))
 refine RW.loop (fun k R0 cz=>∃i:Nat,R0 0=.int .i64 (n)∧R0 2=lv∧R0 4=vP g1∧R0 7=vJ i∧aI w none_ cz [.aJ g1 [gv,fv,ov,iv,db,dc] 32]∧(i+k=hs.length)∧(∀m r,m<i→ls[m]?=some r→js n (p8 g 0) r)) (hs.length) ?_ ?_
 exact⟨0,rfl,rfl,rfl,rfl,hN,by omega,fun m r hm=>absurd hm (by omega)⟩
 clear hN
 rintro k R0 cz ⟨i,cH,bV,cA,cF,hN,gk,rQ⟩
 have cB:=jd cH bV cA cF
 obtain⟨gF,rfl⟩:=cB
 clear cH bV cA cF
 iterate 2 refine RW.seq ?_
 refine RW.region (RL.ag (v:=vJ i) U (RL.ag (v:=lv) U ?_))
 have jm:=(hl.o.now hN).bw
 refine RL.ag (aQ acJ (hl.o.now hN)) (RL.ag (aL) (RL.ak ?_))
 refine RW.aG _ (fun cD=>?_) (fun cD=>?_)
 refine RW.skip (aw (RW.seq (RW.block (RW.seq ?_))))
 have E0:=jt.1
 have aO:=da hs i
 obtain⟨ap,bX⟩:=aO
 have aO:=da ls i
 obtain⟨lp,ey⟩:=aO
 have HR:=acy ey
 replace hN:=hN.ext (Ext.drew cz)
 refine RW.bD (fun u=>aI w none_ u [.aJ g1 [gv,fv,ov,iv,db,dc] 32]) 8 [(0,0),(1,0),(2,0),(3,0),(4,0),(5,0),(6,1),(7,0)] (by intro _ _ _ h;exact h) hN (RQ.aA (v:=.int .i64 (n)) rfl (fun w hS=>U) (RQ.aA rfl (fun w hS=>(aE (cs:=[gv,fv,ov,iv,db,dc]) acK iD (hS.aJ 0 rfl))) (RQ.aA (v:=lv) rfl (fun w hS=>U) (RQ.aA (v:=vJ i) rfl (fun w hS=>U) (RQ.aA rfl (fun w hS=>(aC acJ cj (hl.o.now hS))) (RQ.aA rfl (fun w hS=>(aF (m:=i) (a:=ap) acu (hl.o.now hS) bX)) ?_))))))
 refine RQ.b0 rfl (dK ag8 rfl rfl rfl rfl rfl rfl ((k5 (n) _ _ _ _ _ _ g _ (hg.o.now hN) _ lp ((jt.iq bX ey).now hN) (0)).mono ?_))
 rintro _ w4 ⟨rfl,bn⟩
 replace hN:=hN.ext bn
 clear bn
 refine⟨hN,?_⟩
 refine RQ.aA rfl (fun w hS=>(cV rfl)) (RQ.bq (aw ?_))
 refine RW.aG _ (fun fJ=>?_) (fun fJ=>?_)
 refine RW.aN (RL.ag (v:=.bool false) ai (RL.ak (RW.ret (aX ?_))))
 iterate 2 refine aT ?_
 refine aX (aT (bb (RV.tmp rfl) ?_))
 exact⟨congrArg acO (decide_eq_false (fun h=>fJ (h.1 lp HR))).symm,hN.bc⟩
 refine RW.skip (aY (aw (RW.region (RL.ag (v:=vJ i) U (RL.ag (aD rfl rfl rfl (bh (by omega) (by omega))) (RL.ag (v:=.int .i64 ((i:Int)+1)) ai (RL.ak ?_)))))))
 exact⟨k-1,by omega,i+1,rfl,rfl,rfl,rfl,hN,by omega,fun m r hm hr=>(adh m i).elim (fun e=>rQ m r e hr) (fun e=>have e2:m=i:=(by omega);have e3:r=lp:=ac2 (hr.symm.trans (e2▸ey));e3▸acU.1 fJ)⟩
 refine RW.exit ?_
 iterate 2 refine bS ?_
 refine ba (aw (RW.aN (RL.ag (v:=lv) U (RL.ag (aQ acJ (hl.o.now hN)) (RL.ag (v:=.int .i64 (n)) U (RL.ag (bZ) (RL.ag (v:=.bool (decide ((hs.length:Int)=n))) ai (RL.nil ?_))))))))
 refine aw (RW.ret (bb (RV.tmp rfl) ?_))
 exact⟨congrArg acO (decide_eq_decide.2 ⟨fun h=>⟨fun r hr=>by
  have aO:=ac9 hr
  obtain⟨m,hm⟩:=aO
  exact rQ m r (by have:=(acA.1 hm).1;have:=jt.1;omega) hm,by have:=jt.1;omega⟩,fun h=>by have:=h.2;have:=jt.1;omega⟩),hN.bc⟩
theorem mN (n:Int) (gv fv ov iv db dc:Value) (g:List Int) (w:World) (hg:Sl vI w gv g) (lv:Value) (hs:List Hd) (ls:List (List I2)) (hl:Sl vh w lv hs) (jt:gN none_ bG w hs ls) (IM:∀r∈ls,r.length≤8796093021952):aM acx 113 #[.int .i64 n,.agg #[gv,fv,ov,iv,db,dc],lv] w fun r w'=>r=.bool (decide (jI n g ls))∧Ext w w':=by
 refine aM.aZ aiu ?_
 rw[iX]
 have hN:=aI.nil w none_
 have EZ:=jt.1
 refine RW.aN ?_
 refine RL.aK (bL (cs:=[gv,fv,ov,iv,db,dc]) rfl rfl hN ?_)
 clear hN
 intro g1 w1 (hN:aI w none_ w1 [_])
 refine RL.ag (v:=.bool false) ai (RL.ak ?_)
 iterate 2 refine RW.seq ?_
 refine RW.region (RL.ag (v:=.int .i64 (0)) ai (RL.ak (RW.block ?_)))
 refine RW.loop (fun k R0 cz=>∃i:Nat,R0 0=.int .i64 (n)∧R0 2=lv∧R0 4=vP g1∧R0 7=vJ i∧aI w none_ cz [.aJ g1 [gv,fv,ov,iv,db,dc] 32]∧(i+k=hs.length)∧(∀m r,m<i→ls[m]?=some r→(∀x∈r,dp 0 x.2)∧js n (p8 g 1) (r.map fun x=>x.1))) (hs.length) ?_ ?_
 exact⟨0,rfl,rfl,rfl,rfl,hN,by omega,fun m r hm=>absurd hm (by omega)⟩
 clear hN
 rintro k R0 cz ⟨i,cH,bV,cA,cF,hN,gk,rQ⟩
 have cB:=jd cH bV cA cF
 obtain⟨gF,rfl⟩:=cB
 clear cH bV cA cF
 iterate 2 refine RW.seq ?_
 refine RW.region (RL.ag (v:=vJ i) U (RL.ag (v:=lv) U ?_))
 have jm:=(hl.o.now hN).bw
 refine RL.ag (aQ ac0 (hl.o.now hN)) (RL.ag (aL) (RL.ak ?_))
 refine RW.aG _ (fun cD=>?_) (fun cD=>?_)
 refine RW.skip (aw (RW.seq (RW.block (RW.seq ?_))))
 have E0:=jt.1
 have aO:=da hs i
 obtain⟨ap,bX⟩:=aO
 have aO:=da ls i
 obtain⟨lp,ey⟩:=aO
 have HR:=acy ey
 have Qq:=IM lp HR
 refine RW.region (RL.ag (v:=vN) ai (RL.ak ?_))
 iterate 2 refine RW.seq ?_
 refine RW.region (RL.ag (v:=.int .i64 (0)) ai (RL.ak (RW.block ?_)))
 replace hN:=hN.dD vI 3
 refine RW.loop (fun k2 R1 eW=>∃va:Value,∃acc:List Int,∃q:Nat,R1 0=.int .i64 (n)∧R1 2=lv∧R1 4=vP g1∧R1 7=vJ i∧R1 8=va∧R1 9=vJ q∧aI w none_ eW [.own vI 3 (va) (acc),.aJ g1 [gv,fv,ov,iv,db,dc] 32]∧(q+k2=lp.length)∧(acc=(lp.take q).map fun x=>x.1)∧(acc.length=q)∧(∀x∈lp.take q,dp 0 x.2)) (lp.length) ?_ ?_
 exact⟨vN,[],0,rfl,rfl,rfl,rfl,rfl,rfl,hN,by omega,rfl,rfl,fun x hx=>by cases hx⟩
 clear hN
 rintro k2 R1 eW ⟨va,acc,q,cH,bV,cA,cF,cR,eg,hN,yq,na,ir,mR⟩
 have cB:=o9 cH bV cA cF cR eg
 obtain⟨sk,rfl⟩:=cB
 clear cH bV cA cF cR eg
 iterate 2 refine RW.seq ?_
 refine RW.region (RL.ag (v:=vJ q) U (RL.ag (v:=lv) U (RL.ag (v:=vJ i) U (RL.ag (aC ac0 lr (hl.o.now hN)) (RL.ag (aF (m:=i) (a:=ap) acW (hl.o.now hN) bX) ?_)))))
 have qG:=((jt.iq bX ey).now hN).bw
 refine RL.ag (bO acW ((jt.iq bX ey).now hN)) (RL.ag (aL) (RL.ak ?_))
 refine RW.aG _ (fun eD=>?_) (fun eD=>?_)
 refine RW.skip (aw (RW.seq (RW.block (RW.aN (RL.ag (v:=va) U (RL.ag (v:=lv) U (RL.ag (v:=vJ i) U (RL.ag (aC ac0 lr (hl.o.now hN)) ?_))))))))
 refine RL.ag (aF (m:=i) (a:=ap) acW (hl.o.now hN) bX) (RL.ag (v:=vJ q) U (RL.ag (aU acW ef bp ((jt.iq bX ey).now hN)) ?_))
 have aO:=da (lp) q
 obtain⟨ac,jG⟩:=aO
 refine RL.ag (bl (m:=q) (b:=0) acS rfl bK bp ((jt.iq bX ey).now hN) jG) (RL.ag (bB (m:=q) (j:=0) (a:=ac) acs bp ((jt.iq bX ey).now hN) jG) ?_)
 refine RL.aK (cw (enc:=vI) (l:=[ac.1]) (xs:=[.tmp 33]) acu bK mU rfl rfl (fun _=>rfl) rfl (by decide) (by decide) hN ?_)
 clear hN
 intro g7 w7 (hN:aI w none_ w7 [_,_,_])
 refine RL.aK (b9 acu gz rfl (fun _=>rfl) hN 1 rfl rfl (hN.sl 0 rfl) rfl (by(try simp only[acw,acC,acF,acN]);omega) (by decide) ?_)
 clear hN
 intro v8 w8 (hN:aI w none_ w8 [_,_,_])
 refine RL.ag (v:=v8) ai (RL.b6 (RL.ag (v:=lv) U (RL.ag (v:=vJ i) U (RL.ag (aC ac0 lr (hl.o.now hN)) (RL.ag (aF (m:=i) (a:=ap) acW (hl.o.now hN) bX) (RL.ag (v:=vJ q) U ?_))))))
 refine RL.ag (aU acW ef bp ((jt.iq bX ey).now hN)) (RL.ag (bl (m:=q) (b:=0) acS rfl bK bp ((jt.iq bX ey).now hN) jG) (RL.ag (bB (m:=q) (j:=1) (a:=ac) acs bp ((jt.iq bX ey).now hN) jG) ?_))
 refine RL.aK (bu ais rfl rfl rfl rfl ((ny (ac.2) (0) _).mono ?_))
 rintro _ lW ⟨rfl,bn⟩
 replace hN:=hN.ext bn
 clear bn
 refine RL.ag (cV rfl) (RL.ak ?_)
 refine RW.aG _ (fun fJ=>?_) (fun fJ=>?_)
 refine RW.aN (RL.ag (v:=.bool false) ai (RL.ak (RW.ret (aX ?_))))
 iterate 2 refine aT ?_
 refine aX (aT (aX ?_))
 iterate 2 refine aT ?_
 refine aX (aT (bb (RV.tmp rfl) ?_))
 exact⟨congrArg acO (decide_eq_false (fun h=>by first|exact fJ ((h.1 lp HR).1 _ (acy jG))|exact vS (by rw[na];exact(h.1 lp HR).2))).symm,hN.bc⟩
 refine RW.skip (aY (aw (RW.region (RL.ag (v:=vJ q) U (RL.ag (aD rfl rfl rfl (bh (by omega) (by omega))) (RL.ag (v:=.int .i64 ((q:Int)+1)) ai (RL.ak ?_)))))))
 exact⟨k2-1,by omega,v8,acc++[ac.1],q+1,rfl,rfl,rfl,rfl,rfl,rfl,(hN.sb [1,2]),by omega,by rw[dM jG,adZ,na];rfl,by(try simp only[acw,acC]);omega,fun x hx=>(du jG hx).elim (mR x) (fun e=>e▸acU.1 fJ)⟩
 refine RW.exit ?_
 iterate 2 refine bS ?_
 refine ba (aw (RW.seq ?_))
 rw[show q=lp.length by omega,adn]at mR na
 refine RW.region (RL.ag (v:=.int .i64 (n)) U (RL.ag (aE (cs:=[gv,fv,ov,iv,db,dc]) acK iD (hN.aJ 1 rfl)) (RL.ag (v:=va) U ?_)))
 refine RL.aK (dK ag8 rfl rfl rfl rfl rfl rfl ((k5 (n) _ _ _ _ _ _ g _ (hg.o.now hN) _ acc (hN.sl 0 rfl) (1)).mono ?_))
 rintro _ lR ⟨rfl,bn⟩
 replace hN:=hN.ext bn
 clear bn
 refine RL.ag (cV rfl) (RL.ak ?_)
 refine RW.aG _ (fun vS=>?_) (fun vS=>?_)
 refine RW.aN (RL.ag (v:=.bool false) ai (RL.ak (RW.ret (aX ?_))))
 iterate 2 refine aT ?_
 refine aX (aT (bb (RV.tmp rfl) ?_))
 exact⟨congrArg acO (decide_eq_false (fun h=>by first|exact fJ ((h.1 lp HR).1 _ (acy jG))|exact vS (by rw[na];exact(h.1 lp HR).2))).symm,hN.bc⟩
 refine RW.skip (aY (aw (RW.region (RL.ag (v:=vJ i) U (RL.ag (aD rfl rfl rfl (bh (by omega) (by omega))) (RL.ag (v:=.int .i64 ((i:Int)+1)) ai (RL.ak ?_)))))))
 exact⟨k-1,by omega,i+1,rfl,rfl,rfl,rfl,(hN.sb [1]),by omega,fun m r hm hr=>(adh m i).elim (fun e=>rQ m r e hr) (fun e=>have e2:m=i:=(by omega);have e3:r=lp:=ac2 (hr.symm.trans (e2▸ey));e3▸⟨mR,by rw[←na];exact acU.1 vS⟩)⟩
 refine RW.exit ?_
 iterate 2 refine bS ?_
 refine ba (aw (RW.aN (RL.ag (v:=lv) U (RL.ag (aQ ac0 (hl.o.now hN)) (RL.ag (v:=.int .i64 (n)) U (RL.ag (bZ) (RL.ag (v:=.bool (decide ((hs.length:Int)=n))) ai (RL.nil ?_))))))))
 refine aw (RW.ret (bb (RV.tmp rfl) ?_))
 exact⟨congrArg acO (decide_eq_decide.2 ⟨fun h=>⟨fun r hr=>by
  have aO:=ac9 hr
  obtain⟨m,hm⟩:=aO
  exact rQ m r (by have:=(acA.1 hm).1;have:=jt.1;omega) hm,by have:=jt.1;omega⟩,fun h=>by have:=h.2;have:=jt.1;omega⟩),hN.bc⟩
end Go.Proofs.YtngkdkbpgoddlaaGreat
namespace Go.Proofs.YtngkdkbpgoddlaaGreat
open Go.RowKit Go.Rl
open Go.Gr
theorem ou (n:Int) (w:World) (gv:Value) (gl:List Int) (hg:Sl vI w gv gl) (fv:Value) (fh:List Hd) (fl:List (List Int)) (hf:Sl vh w fv fh) (o0:fW none_ vI w fh fl) (ov:Value) (oh:List Hd) (ol:List (List I2)) (ho:Sl vh w ov oh) (FU:gN none_ bG w oh ol) (iv:Value) (ih:List Hd) (il:List (List I2)) (hi:Sl vh w iv ih) (ui:gN none_ bG w ih il) (db:Value) (su:List Hd) (eS:List (List Int)) (gV:Sl vh w db su) (rM:fW none_ vI w su eS) (dc:Value) (sx:List Hd) (eX:List (List Int)) (gQ:Sl vh w dc sx) (rN:fW none_ vI w sx eX) (V0:∀r∈ol,r.length≤8796093021952) (O4:∀r∈il,r.length≤8796093021952):aM acx 51 #[.int .i64 n,.agg #[gv,fv,ov,iv,db,dc]] w fun r w'=>r=.int .i64 (dH n gl fl ol il eS eX)∧Ext w w':=by
 refine aM.aZ aiS ?_
 rw[cT]
 have hN:=aI.nil w none_
 have EZ:=o0.1
 refine RW.aN ?_
 refine RL.aK (bL (cs:=[gv,fv,ov,iv,db,dc]) rfl rfl hN ?_)
 clear hN
 intro g1 w1 (hN:aI w none_ w1 [_])
 refine RL.ag (v:=.int .i64 (0)) ai (RL.ak ?_)
 iterate 2 refine RW.seq ?_
 refine RW.region (RL.ag (v:=.int .i64 (n)) U (RL.ag (cr) (RL.ak ?_)))
 refine RW.aG _ (fun ZW=>?_) (fun ZW=>?_)
 refine RW.aN (RL.ag (v:=.int .i64 (3)) ai (RL.ak (RW.ret (aT (bb (RV.tmp rfl) ?_)))))
 exact⟨congrArg (acZ .i64) (show dH n gl fl ol il eS eX=3 by
  unfold dH
  rw[if_pos (by omega)]).symm,hN.bc⟩
 refine RW.skip (aw ?_)
 iterate 2 refine RW.seq ?_
 refine RW.region (RL.ag (v:=.int .i64 (n)) U (RL.ag (aL) (RL.ag (v:=.bool (decide (n<0))) U ?_)))
 by_cases MN:n<0
 rw[decide_eq_true MN]
 iterate 6 refine RL.bH ?_
 refine RL.ag (v:=.bool true) (al) (RL.ag (v:=.bool true) U ?_)
 iterate 7 refine RL.bH ?_
 refine RL.ag (v:=.bool true) (al) (RL.ak (RW.bF (RW.aN (RL.ag (v:=.int .i64 (2)) ai (RL.ak (RW.ret ?_))))))
 refine aT (bb (RV.tmp rfl) ?_)
 exact⟨congrArg (acZ .i64) (show dH n gl fl ol il eS eX=2 by
  unfold dH
  rw[if_neg (by omega),if_neg (fun h=>by
  obtain⟨q1,q2,q3,q4,q5,q6,q7⟩:=h
  have Ep:=q3.1
  first
  |omega
  |contradiction
  |(obtain⟨b1,b2,b3⟩:=q3.2 i lp ey;first|omega|(rw[lS]at b2;cases b2;contradiction)|exact absurd (b3 _ (acy jG)) (by assumption)))]).symm,hN.bc⟩
 rw[decide_eq_false MN]
 refine RL.an (v:=.int .i64 (n)) U (RL.an (aE (cs:=[gv,fv,ov,iv,db,dc]) acK iD (hN.aJ 0 rfl)) (RL.an (ah acK rfl cj) (RL.an (aj acu (hN.aJ 0 rfl)) ?_)))
 refine RL.ed (dK ag8 rfl rfl rfl rfl rfl rfl ((k5 (n) _ _ _ _ _ _ gl _ (hg.o.now hN) _ gl (hg.o.now hN) (2)).mono ?_))
 rintro _ w2 ⟨rfl,bn⟩
 replace hN:=hN.ext bn
 clear bn
 refine RL.an (cV rfl) (RL.ag (v:=.bool (decide (¬(js (n) (p8 gl (2)) gl)))) (aB) (RL.ag (v:=.bool (decide (¬(js (n) (p8 gl (2)) gl)))) U ?_))
 by_cases ur:¬(js (n) (p8 gl (2)) gl)
 rw[decide_eq_true ur]
 iterate 7 refine RL.bH ?_
 refine RL.ag (v:=.bool true) (al) (RL.ak (RW.bF (RW.aN (RL.ag (v:=.int .i64 (2)) ai (RL.ak (RW.ret ?_))))))
 refine aT (bb (RV.tmp rfl) ?_)
 exact⟨congrArg (acZ .i64) (show dH n gl fl ol il eS eX=2 by
  unfold dH
  rw[if_neg (by omega),if_neg (fun h=>by
  obtain⟨q1,q2,q3,q4,q5,q6,q7⟩:=h
  have Ep:=q3.1
  first
  |omega
  |contradiction
  |(obtain⟨b1,b2,b3⟩:=q3.2 i lp ey;first|omega|(rw[lS]at b2;cases b2;contradiction)|exact absurd (b3 _ (acy jG)) (by assumption)))]).symm,hN.bc⟩
 rw[decide_eq_false ur]
 refine RL.an (ah acK rfl fP) (RL.an (aj acJ (hN.aJ 0 rfl)) ?_)
 have k9:=(hf.o.now hN).bw
 refine RL.an (aQ acJ (hf.o.now hN)) (RL.an (ah acK rfl cj) (RL.an (aj acu (hN.aJ 0 rfl)) ?_))
 have uJ:=(hg.o.now hN).bw
 refine RL.an (aQ acu (hg.o.now hN)) (RL.an (bj) (RL.ag (v:=.bool (decide (¬(fh.length:Int)=(gl.length:Int)))) (aB) (RL.ak ?_)))
 refine RW.aG _ (fun hlen=>?_) (fun hlen=>?_)
 refine RW.aN (RL.ag (v:=.int .i64 (2)) ai (RL.ak (RW.ret (aT (bb (RV.tmp rfl) ?_)))))
 exact⟨congrArg (acZ .i64) (show dH n gl fl ol il eS eX=2 by
  unfold dH
  rw[if_neg (by omega),if_neg (fun h=>by
  obtain⟨q1,q2,q3,q4,q5,q6,q7⟩:=h
  have Ep:=q3.1
  first
  |omega
  |contradiction
  |(obtain⟨b1,b2,b3⟩:=q3.2 i lp ey;first|omega|(rw[lS]at b2;cases b2;contradiction)|exact absurd (b3 _ (acy jG)) (by assumption)))]).symm,hN.bc⟩
 refine RW.skip (aw ?_)
 iterate 2 refine RW.seq ?_
 refine RW.region (RL.ag (v:=.int .i64 (0)) ai (RL.ak (RW.block ?_)))
 refine RW.loop (fun k R0 cz=>∃i:Nat,R0 0=.int .i64 (n)∧R0 3=vP g1∧R0 5=vJ i∧aI w none_ cz [.aJ g1 [gv,fv,ov,iv,db,dc] 32]∧(i+k=fh.length)∧(∀m r,m<i→fl[m]?=some r→r.length=gl.length∧r[m]?=some 0∧∀x∈r,dp (-1) x)) (fh.length) ?_ ?_
 exact⟨0,rfl,rfl,rfl,hN,by omega,fun m r hm=>absurd hm (by omega)⟩
 clear hN
 rintro k R0 cz ⟨i,cH,cd,cx,hN,gk,I7⟩
 have cB:=ln cH cd cx
 obtain⟨gF,rfl⟩:=cB
 clear cH cd cx
 iterate 2 refine RW.seq ?_
 refine RW.region (RL.ag (v:=vJ i) U (RL.ag (ah acK rfl fP) (RL.ag (aj acJ (hN.aJ 0 rfl)) (RL.ag (aQ acJ (hf.o.now hN)) (RL.ag (aL) (RL.ak ?_))))))
 refine RW.aG _ (fun cD=>?_) (fun cD=>?_)
 refine RW.skip (aw (RW.seq (RW.block ?_)))
 iterate 2 refine RW.seq ?_
 have Lc:=o0.1
 have aO:=da fh i
 obtain⟨ap,bX⟩:=aO
 have aO:=da fl i
 obtain⟨lp,ey⟩:=aO
 have kE:=acy ey
 replace hN:=hN.ext (Ext.drew cz)
 refine RW.bD (fun u=>aI w none_ u [.aJ g1 [gv,fv,ov,iv,db,dc] 32]) 21 [(0,0),(1,0),(2,0),(3,0),(4,0),(5,0),(6,0),(7,0),(8,0),(9,0),(10,0),(11,0),(12,0),(13,0),(14,0),(15,0),(16,0),(17,0),(18,0),(19,0),(20,0)] (by intro _ _ _ h;exact h) hN (RQ.aA rfl (fun w hS=>(ah acK rfl fP)) (RQ.aA rfl (fun w hS=>(aj acJ (hS.aJ 0 rfl))) (RQ.aA (v:=vJ i) rfl (fun w hS=>U) (RQ.aA rfl (fun w hS=>(aC acJ cj (hf.o.now hS))) (RQ.aA rfl (fun w hS=>(aF (m:=i) (a:=ap) acu (hf.o.now hS) bX)) ?_)))))
 have AD:=((o0.iq bX ey).now hN).bw
 refine RQ.aA rfl (fun w hS=>(aQ acu ((o0.iq bX ey).now hS))) (RQ.aA rfl (fun w hS=>(ah acK rfl cj)) (RQ.aA rfl (fun w hS=>(aj acu (hS.aJ 0 rfl))) (RQ.aA rfl (fun w hS=>(aQ acu (hg.o.now hS))) (RQ.aA rfl (fun w hS=>(bj)) (RQ.aA (v:=.bool (decide (¬(lp.length:Int)=(gl.length:Int)))) rfl (fun w hS=>U) ?_)))))
 by_cases Ib:¬(lp.length:Int)=(gl.length:Int)
 rw[decide_eq_true Ib]
 iterate 9 refine RQ.bU rfl ?_
 refine RQ.aA (v:=.bool true) rfl (fun w hS=>(al)) (RQ.bq (aw (RW.bF (RW.aN (RL.ag (v:=.int .i64 (2)) ai (RL.ak (RW.ret ?_)))))))
 refine aT (aX ?_)
 iterate 2 refine aT ?_
 refine aX (aT (bb (RV.tmp rfl) ?_))
 exact⟨congrArg (acZ .i64) (show dH n gl fl ol il eS eX=2 by
  unfold dH
  rw[if_neg (by omega),if_neg (fun h=>by
  obtain⟨q1,q2,q3,q4,q5,q6,q7⟩:=h
  have Ep:=q3.1
  first
  |omega
  |contradiction
  |(obtain⟨b1,b2,b3⟩:=q3.2 i lp ey;first|omega|(rw[lS]at b2;cases b2;contradiction)|exact absurd (b3 _ (acy jG)) (by assumption)))]).symm,hN.bc⟩
 rw[decide_eq_false Ib]
 refine RQ.aS rfl (fun w hS=>(ah acK rfl fP)) (RQ.aS rfl (fun w hS=>(aj acJ (hS.aJ 0 rfl))) (RQ.aS (v:=vJ i) rfl (fun w hS=>U) (RQ.aS rfl (fun w hS=>(aC acJ cj (hf.o.now hS))) (RQ.aS rfl (fun w hS=>(aF (m:=i) (a:=ap) acu (hf.o.now hS) bX)) (RQ.aS (v:=vJ i) rfl (fun w hS=>U) (RQ.aS rfl (fun w hS=>(aC acu bK ((o0.iq bX ey).now hS))) ?_))))))
 have aO:=da (lp) i
 obtain⟨az,lS⟩:=aO
 refine RQ.aS rfl (fun w hS=>(aF (m:=i) (a:=az) acs ((o0.iq bX ey).now hS) lS)) (RQ.aS rfl (fun w hS=>(bj)) (RQ.aA (v:=.bool (decide (¬az=0))) rfl (fun w hS=>(aB)) (RQ.bq (aw ?_))))
 refine RW.aG _ (fun fJ=>?_) (fun fJ=>?_)
 refine RW.aN (RL.ag (v:=.int .i64 (2)) ai (RL.ak (RW.ret (aT (aX ?_)))))
 iterate 2 refine aT ?_
 refine aX (aT (bb (RV.tmp rfl) ?_))
 exact⟨congrArg (acZ .i64) (show dH n gl fl ol il eS eX=2 by
  unfold dH
  rw[if_neg (by omega),if_neg (fun h=>by
  obtain⟨q1,q2,q3,q4,q5,q6,q7⟩:=h
  have Ep:=q3.1
  first
  |omega
  |contradiction
  |(obtain⟨b1,b2,b3⟩:=q3.2 i lp ey;first|omega|(rw[lS]at b2;cases b2;contradiction)|exact absurd (b3 _ (acy jG)) (by assumption)))]).symm,hN.bc⟩
 refine RW.skip (aw (RW.aN (RL.ag (v:=.int .i64 (0)) ai (RL.ak (RW.block ?_)))))
 refine RW.loop (fun k2 R1 eW=>∃q:Nat,R1 0=.int .i64 (n)∧R1 3=vP g1∧R1 5=vJ i∧R1 6=vJ q∧aI w none_ eW [.aJ g1 [gv,fv,ov,iv,db,dc] 32]∧(q+k2=lp.length)∧(∀x∈lp.take q,dp (-1) x)) (lp.length) ?_ ?_
 exact⟨0,rfl,rfl,rfl,rfl,hN,by omega,fun x hx=>by cases hx⟩
 clear hN
 rintro k2 R1 eW ⟨q,cH,cd,cx,cW,hN,yq,mR⟩
 have cB:=jd cH cd cx cW
 obtain⟨sk,rfl⟩:=cB
 clear cH cd cx cW
 iterate 2 refine RW.seq ?_
 refine RW.region (RL.ag (v:=vJ q) U (RL.ag (ah acK rfl fP) (RL.ag (aj acJ (hN.aJ 0 rfl)) (RL.ag (v:=vJ i) U (RL.ag (aC acJ cj (hf.o.now hN)) (RL.ag (aF (m:=i) (a:=ap) acu (hf.o.now hN) bX) (RL.ag (aQ acu ((o0.iq bX ey).now hN)) (RL.ag (aL) (RL.nil ?_)))))))))
 refine aw ?_
 refine RW.aG _ (fun eD=>?_) (fun eD=>?_)
 refine RW.skip (aw (RW.seq (RW.block (RW.aN (RL.ag (ah acK rfl fP) (RL.ag (aj acJ (hN.aJ 0 rfl)) (RL.ag (v:=vJ i) U (RL.ag (aC acJ cj (hf.o.now hN)) ?_))))))))
 refine RL.ag (aF (m:=i) (a:=ap) acu (hf.o.now hN) bX) (RL.ag (v:=vJ q) U (RL.ag (aC acu bK ((o0.iq bX ey).now hN)) ?_))
 have aO:=da (lp) q
 obtain⟨ac,jG⟩:=aO
 refine RL.ag (aF (m:=q) (a:=ac) acs ((o0.iq bX ey).now hN) jG) ?_
 refine RL.aK (bu ais rfl rfl rfl rfl ((ny (ac) (-1) _).mono ?_))
 rintro _ lW ⟨rfl,bn⟩
 replace hN:=hN.ext bn
 clear bn
 refine RL.ag (cV rfl) (RL.ak ?_)
 refine RW.aG _ (fun vS=>?_) (fun vS=>?_)
 refine RW.aN (RL.ag (v:=.int .i64 (2)) ai (RL.ak (RW.ret (aX ?_))))
 iterate 2 refine aT ?_
 iterate 2 refine aX ?_
 iterate 2 refine aT ?_
 refine aX (aT (bb (RV.tmp rfl) ?_))
 exact⟨congrArg (acZ .i64) (show dH n gl fl ol il eS eX=2 by
  unfold dH
  rw[if_neg (by omega),if_neg (fun h=>by
  obtain⟨q1,q2,q3,q4,q5,q6,q7⟩:=h
  have Ep:=q3.1
  first
  |omega
  |contradiction
  |(obtain⟨b1,b2,b3⟩:=q3.2 i lp ey;first|omega|(rw[lS]at b2;cases b2;contradiction)|exact absurd (b3 _ (acy jG)) (by assumption)))]).symm,hN.bc⟩
 refine RW.skip (aY (aw (RW.region (RL.ag (v:=vJ q) U (RL.ag (aD rfl rfl rfl (bh (by omega) (by omega))) (RL.ag (v:=.int .i64 ((q:Int)+1)) ai (RL.ak ?_)))))))
 exact⟨k2-1,by omega,q+1,rfl,rfl,rfl,rfl,hN,by omega,fun x hx=>(du jG hx).elim (mR x) (fun e=>e▸acU.1 vS)⟩
 refine RW.exit ?_
 iterate 2 refine bS ?_
 refine ba (aY (aw ?_))
 rw[show q=lp.length by omega,adn]at mR
 refine RW.region (RL.ag (v:=vJ i) U (RL.ag (aD rfl rfl rfl (bh (by omega) (by omega))) (RL.ag (v:=.int .i64 ((i:Int)+1)) ai (RL.ak ?_))))
 exact⟨k-1,by omega,i+1,rfl,rfl,rfl,hN,by omega,fun m r hm hr=>(adh m i).elim (fun e=>I7 m r e hr) (fun e=>have e2:m=i:=(by omega);have e3:r=lp:=ac2 (hr.symm.trans (e2▸ey));e2▸e3▸⟨by omega,by rw[lS];exact congrArg some (acU.1 fJ),mR⟩)⟩
 refine RW.exit ?_
 iterate 2 refine bS ?_
 refine ba (aw ?_)
 iterate 2 refine RW.seq ?_
 refine RW.region (RL.ag (v:=.int .i64 (n)) U (RL.ag (aE (cs:=[gv,fv,ov,iv,db,dc]) acK iD (hN.aJ 0 rfl)) (RL.ag (ah acK rfl jf) (RL.ag (aj ac0 (hN.aJ 0 rfl)) ?_))))
 refine RL.aK (cq aiu rfl rfl rfl rfl rfl ((mN (n) _ _ _ _ _ _ gl _ (hg.o.now hN) _ oh ol (ho.o.now hN) (FU.ext hN.bc) (by assumption)).mono ?_))
 rintro _ lR ⟨rfl,bn⟩
 replace hN:=hN.ext bn
 clear bn
 refine RL.ag (cV rfl) (RL.ag (v:=.bool (decide (¬(jI (n) gl ol)))) U ?_)
 by_cases Iw:¬(jI (n) gl ol)
 rw[decide_eq_true Iw]
 iterate 6 refine RL.bH ?_
 refine RL.ag (v:=.bool true) (al) (RL.ag (v:=.bool true) U ?_)
 iterate 6 refine RL.bH ?_
 refine RL.ag (v:=.bool true) (al) (RL.ag (v:=.bool true) U ?_)
 iterate 6 refine RL.bH ?_
 refine RL.ag (v:=.bool true) (al) (RL.ak (RW.bF (RW.aN (RL.ag (v:=.int .i64 (2)) ai (RL.ak (RW.ret ?_))))))
 refine aT (bb (RV.tmp rfl) ?_)
 exact⟨congrArg (acZ .i64) (show dH n gl fl ol il eS eX=2 by
  unfold dH
  rw[if_neg (by omega),if_neg (fun h=>by
  obtain⟨q1,q2,q3,q4,q5,q6,q7⟩:=h
  have Ep:=q3.1
  first
  |omega
  |contradiction
  |(obtain⟨b1,b2,b3⟩:=q3.2 i lp ey;first|omega|(rw[lS]at b2;cases b2;contradiction)|exact absurd (b3 _ (acy jG)) (by assumption)))]).symm,hN.bc⟩
 rw[decide_eq_false Iw]
 refine RL.an (v:=.int .i64 (n)) U (RL.an (aE (cs:=[gv,fv,ov,iv,db,dc]) acK iD (hN.aJ 0 rfl)) (RL.an (ah acK rfl jf) (RL.an (aj ac0 (hN.aJ 0 rfl)) ?_)))
 refine RL.ed (cq aiu rfl rfl rfl rfl rfl ((mN (n) _ _ _ _ _ _ gl _ (hg.o.now hN) _ ih il (hi.o.now hN) (ui.ext hN.bc) (by assumption)).mono ?_))
 rintro _ ll ⟨rfl,bn⟩
 replace hN:=hN.ext bn
 clear bn
 refine RL.an (cV rfl) (RL.ag (v:=.bool (decide (¬(jI (n) gl il)))) (aB) (RL.ag (v:=.bool (decide (¬(jI (n) gl il)))) U ?_))
 by_cases Dy:¬(jI (n) gl il)
 rw[decide_eq_true Dy]
 iterate 6 refine RL.bH ?_
 refine RL.ag (v:=.bool true) (al) (RL.ag (v:=.bool true) U ?_)
 iterate 6 refine RL.bH ?_
 refine RL.ag (v:=.bool true) (al) (RL.ak (RW.bF (RW.aN (RL.ag (v:=.int .i64 (2)) ai (RL.ak (RW.ret ?_))))))
 refine aT (bb (RV.tmp rfl) ?_)
 exact⟨congrArg (acZ .i64) (show dH n gl fl ol il eS eX=2 by
  unfold dH
  rw[if_neg (by omega),if_neg (fun h=>by
  obtain⟨q1,q2,q3,q4,q5,q6,q7⟩:=h
  have Ep:=q3.1
  first
  |omega
  |contradiction
  |(obtain⟨b1,b2,b3⟩:=q3.2 i lp ey;first|omega|(rw[lS]at b2;cases b2;contradiction)|exact absurd (b3 _ (acy jG)) (by assumption)))]).symm,hN.bc⟩
 rw[decide_eq_false Dy]
 refine RL.an (v:=.int .i64 (n)) U (RL.an (aE (cs:=[gv,fv,ov,iv,db,dc]) acK iD (hN.aJ 0 rfl)) (RL.an (ah acK rfl fP) (RL.an (aj acJ (hN.aJ 0 rfl)) ?_)))
 refine RL.ed (cq ait rfl rfl rfl rfl rfl ((pC (n) _ _ _ _ _ _ gl _ (hg.o.now hN) _ su eS (gV.o.now hN) (rM.gD hN)).mono ?_))
 rintro _ nR ⟨rfl,bn⟩
 replace hN:=hN.ext bn
 clear bn
 refine RL.an (cV rfl) (RL.ag (v:=.bool (decide (¬(p4 (n) gl eS)))) (aB) (RL.ag (v:=.bool (decide (¬(p4 (n) gl eS)))) U ?_))
 by_cases Dx:¬(p4 (n) gl eS)
 rw[decide_eq_true Dx]
 iterate 6 refine RL.bH ?_
 refine RL.ag (v:=.bool true) (al) (RL.ak (RW.bF (RW.aN (RL.ag (v:=.int .i64 (2)) ai (RL.ak (RW.ret ?_))))))
 refine aT (bb (RV.tmp rfl) ?_)
 exact⟨congrArg (acZ .i64) (show dH n gl fl ol il eS eX=2 by
  unfold dH
  rw[if_neg (by omega),if_neg (fun h=>by
  obtain⟨q1,q2,q3,q4,q5,q6,q7⟩:=h
  have Ep:=q3.1
  first
  |omega
  |contradiction
  |(obtain⟨b1,b2,b3⟩:=q3.2 i lp ey;first|omega|(rw[lS]at b2;cases b2;contradiction)|exact absurd (b3 _ (acy jG)) (by assumption)))]).symm,hN.bc⟩
 rw[decide_eq_false Dx]
 refine RL.an (v:=.int .i64 (n)) U (RL.an (aE (cs:=[gv,fv,ov,iv,db,dc]) acK iD (hN.aJ 0 rfl)) (RL.an (ah acK rfl fP) (RL.an (aj acJ (hN.aJ 0 rfl)) ?_)))
 refine RL.ed (cq ait rfl rfl rfl rfl rfl ((pC (n) _ _ _ _ _ _ gl _ (hg.o.now hN) _ sx eX (gQ.o.now hN) (rN.gD hN)).mono ?_))
 rintro _ o7 ⟨rfl,bn⟩
 replace hN:=hN.ext bn
 clear bn
 refine RL.an (cV rfl) (RL.ag (v:=.bool (decide (¬(p4 (n) gl eX)))) (aB) (RL.ak ?_))
 refine RW.aG _ (fun SS=>?_) (fun SS=>?_)
 refine RW.aN (RL.ag (v:=.int .i64 (2)) ai (RL.ak (RW.ret (aT (bb (RV.tmp rfl) ?_)))))
 exact⟨congrArg (acZ .i64) (show dH n gl fl ol il eS eX=2 by
  unfold dH
  rw[if_neg (by omega),if_neg (fun h=>by
  obtain⟨q1,q2,q3,q4,q5,q6,q7⟩:=h
  have Ep:=q3.1
  first
  |omega
  |contradiction
  |(obtain⟨b1,b2,b3⟩:=q3.2 i lp ey;first|omega|(rw[lS]at b2;cases b2;contradiction)|exact absurd (b3 _ (acy jG)) (by assumption)))]).symm,hN.bc⟩
 refine RW.skip (aw (RW.aN (RL.ag (v:=.int .i64 (0)) ai (RL.ak (RW.ret (bb (RV.tmp rfl) ?_))))))
 exact⟨congrArg (acZ .i64) (show dH n gl fl ol il eS eX=0 by
  unfold dH
  rw[if_neg (by omega),if_pos ⟨by omega,acU.1 (by assumption),⟨by omega,fun m r hm=>I7 m r (by have:=(acA.1 hm).1;omega) hm⟩,acU.1 (by assumption),acU.1 (by assumption),acU.1 (by assumption),acU.1 (by assumption)⟩]).symm,hN.bc⟩
end Go.Proofs.YtngkdkbpgoddlaaGreat
