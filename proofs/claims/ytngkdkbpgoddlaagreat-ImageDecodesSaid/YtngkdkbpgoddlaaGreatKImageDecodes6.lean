/- The law ImageDecodes: texts that its row leans on (6). -/
import Derived.Test.YtngkdkbpgoddlaaGreatKImageDecodes5
set_option linter.unusedVariables false
set_option linter.unusedSimpArgs false
set_option linter.unusedSectionVars false
set_option maxHeartbeats 4000000
set_option maxRecDepth 100000
open Decidable renaming not_not → Vi
open Go.Proofs.Tryz renaming underlying3 → UU, underlying25 → UW, prog → UY, underlying98 → U0, underlying38 → U1, underlying24 → U4, underlying29 → U7, underlying34 → U8, underlying22 → Va, underlying28 → Vb, underlying100 → Ve, underlying26 → Vg, underlying32 → Vh, underlying96 → Vj, underlying169 → Vk, underlying175 → Vp, underlying30 → Vr, underlying5 → Vu, underlying118 → Vy, underlying45 → VB, underlying135 → VE, underlying89 → VI, underlying9 → VO, underlying111 → Wk, underlying75 → Wq, underlying82 → Wv, func179 → WA, underlying4 → WS, func178 → XM, func121 → XP, underlying87 → X2, func131 → Yo, func24 → YC, func120 → Y7, func117 → Y8, func118 → Y9, func119 → Za, func180 → Zb, func45 → Zq, func14 → Zw, func41 → Zx, func122 → aax, func181 → aay, func15 → aaN, func206 → abH, func175 → abJ, func176 → abK, func123 → abT, func125 → acg, func126 → ach, func127 → aci, func130 → acj, func124 → ack
open Go.Value renaming bool → Vd
open List renaming getElem?_eq_getElem → UT, length_append → UX, mem_of_getElem? → UZ, not_mem_nil → U2, length_singleton → U3, getElem?_eq_some_iff → U5, length_cons → U6, mem_cons → U9, length_nil → Vc, length_map → Vl, take_of_length_le → Vo, length_take → Vs, length_drop → Vt, length_replicate → Vw, flatten_cons → Vx, take_length → Vz, map_cons → VC, append_assoc → VF, getElem?_of_mem → VK, mem_cons_of_mem → VX, range → V0, mem_cons_self → V2, append_nil → V4, map_append → V5, mem_map → V9, length → Wc, map_nil → We, nil_append → Wm, map_map → Wz, flatten_append → WC, range_succ → WD, length_eq_zero_iff → WM, flatMap_cons → WO, map_congr_left → WZ, flatten_flatten → Xa, length_erase_of_mem → Xd, ext_getElem → Xv, flatMap_def → Xw, flatten_nil → Xx, headD_cons → XG, getElem_range → XJ, tail_cons → XV, length_range → X1, cons_append → Yc, getElem_map → Ye, take_append_drop → Yi, mem_erase_of_ne → Yt, sum_cons → YL, drop_one → YM, getElem?_cons_zero → Ze, getElem?_cons_succ → Zf, mem_of_mem_tail → ZS, mem_flatMap → aaX, drop_take → abb, drop_zero → abc, sum_nil → abv
open Nat renaming le_of_ble_eq_true → US, le_trans → Vf, le_refl → Vv, lt_of_le_of_lt → VJ, zero_le → VP, mul_le_mul_right → WL, lt_succ_iff_lt_or_eq → Xi, le_of_eq → Xn, mul_le_mul → Yz, add_mul → aaG, le_zero → aaO
open Option renaming getD_some → Yb
namespace Go.Proofs.YtngkdkbpgoddlaaGreat
open Go.RowKit Go.Rl
open Go.Gr Go.cP Go.hO
theorem zR (lo hi g gr:Nat) (m:Int) (bd:Bool) (s:St) (w:World) (hN:ak w (aT [.aA gr [.pointer (some ⟨g,0,none⟩),.int .i64 (m),.bool (bd)] 89,b8 142 lo hi g s]) w [.aA gr [.pointer (some ⟨g,0,none⟩),.int .i64 (m),.bool (bd)] 89,b8 142 lo hi g s]) (iM:0≤m) (fZ:m≤1048576) (j5:s.1.length≤1048576) {s1:St} {b1:Bool} {n1:Int} {a1:List I3} (e:lB m (s,bd)=((s1,b1),(n1,a1))):al UY 42 #[.pointer (some ⟨gr,0,none⟩)] w fun r w'=>∃v,r=.agg #[.int .i64 n1,v]∧ak w (aT [.aA gr [.pointer (some ⟨g,0,none⟩),.int .i64 (m),.bool (bd)] 89,b8 142 lo hi g s]) w' [.cV bf 3 100 v a1,.aA gr [.pointer (some ⟨g,0,none⟩),.int .i64 (m),.bool (b1)] 89,b8 142 lo hi g s1]:=
  (tJ lo hi g gr m bd s w hN iM fZ j5).mono fun _ _ h=>by rw[e]at h;exact h
theorem xQ (lo hi g gr:Nat) (m:Int) (bd:Bool) (s:St) (w:World) (hN:ak w (aT [.aA gr [.pointer (some ⟨g,0,none⟩),.int .i64 (m),.bool (bd)] 89,b8 142 lo hi g s]) w [.aA gr [.pointer (some ⟨g,0,none⟩),.int .i64 (m),.bool (bd)] 89,b8 142 lo hi g s]) (iM:0≤m) (fZ:m≤1048576) (j5:s.1.length≤1048576) {s1:St} {b1:Bool} {k1:List Int} {a1:List I5} (e:iS m (s,bd)=((s1,b1),(k1,a1))):al UY 43 #[.pointer (some ⟨gr,0,none⟩)] w fun r w'=>∃rv wv,r=.agg #[rv,wv]∧ak w (aT [.aA gr [.pointer (some ⟨g,0,none⟩),.int .i64 (m),.bool (bd)] 89,b8 142 lo hi g s]) w' [.own vI 3 rv k1,.cV bC 5 98 wv a1,.aA gr [.pointer (some ⟨g,0,none⟩),.int .i64 (m),.bool (b1)] 89,b8 142 lo hi g s1]:=
  (rL lo hi g gr m bd s w hN iM fZ j5).mono fun _ _ h=>by rw[e]at h;exact h
theorem tI (lo hi g gr:Nat) (m:Int) (bd:Bool) (s:St) (w:World) (hN:ak w (aT [.aA gr [.pointer (some ⟨g,0,none⟩),.int .i64 (m),.bool (bd)] 89,b8 142 lo hi g s]) w [.aA gr [.pointer (some ⟨g,0,none⟩),.int .i64 (m),.bool (bd)] 89,b8 142 lo hi g s]) (iM:0≤m) (fZ:m≤1048576) (j5:s.1.length≤1048576) {s1:St} {b1:Bool} {q:Ic} (e:gw m (s,bd)=((s1,b1),q)):al UY 44 #[.pointer (some ⟨gr,0,none⟩)] w fun r w'=>∃gv fv ov iv cD cE hf ho fk gL gF,r=.agg #[gv,fv,ov,iv,cD,cE]∧ak w (aT [.aA gr [.pointer (some ⟨g,0,none⟩),.int .i64 (m),.bool (bd)] 89,b8 142 lo hi g s]) w' [.own vI 3 gv q.1,.own vh 25 fv hf,.dT vI hf q.2.1,.own vh 118 ov ho,.ek bk ho q.2.2.1,.own vh 118 iv fk,.ek bk fk q.2.2.2.1,.own vh 25 cD gL,.dT vI gL q.2.2.2.2.1,.own vh 25 cE gF,.dT vI gF q.2.2.2.2.2,.aA gr [.pointer (some ⟨g,0,none⟩),.int .i64 (m),.bool (b1)] 89,b8 142 lo hi g s1]:=
  (oX lo hi g gr m bd s w hN iM fZ j5).mono fun _ _ h=>by rw[e]at h;exact h
def QQ (w w' : World) (r : Value) : Option oO → Prop
  |none=>r=.tuple #[.agg #[.int .i64 (0),.slice none 0 0,.slice none 0 0,.slice none 0 0,.slice none 0 0,.slice none 0 0,.slice none 0 0,.slice none 0 0,.slice none 0 0,.slice none 0 0],.int .i64 5]∧Ext w w'
  |some x=>∃v rv wv gv fv ov iv cD cE hf ho fk gL gF,r=.tuple #[.agg #[.int .i64 x.n,v,rv,wv,gv,fv,ov,iv,cD,cE],.int .i64 0]∧ak w none_ w' [.cV bf 3 100 v x.ar,.own vI 3 rv x.rk,.cV bC 5 98 wv x.ws,.own vI 3 gv x.g,.own vh 25 fv hf,.dT vI hf x.far,.own vh 118 ov ho,.ek bk ho x.outs,.own vh 118 iv fk,.ek bk fk x.ins,.own vh 25 cD gL,.dT vI gL x.so,.own vh 25 cE gF,.dT vI gF x.si]
theorem oG (v:Value) (l:List UInt8) (w:World) (hv:Sl vb w v l) (hl:l.length≤1048576):al UY 15 #[v] w fun r w'=>QQ w w' r (kX l):=by
 refine al.start aaN rfl (US rfl) ?_
 rw[bL]
 have hN:=ak.nil w none_
 refine RW.seq (RW.region ?_)
 refine RL.op rfl rfl (aX (cs:=[.int .i64 (0),.slice none 0 0,.slice none 0 0,.slice none 0 0,.slice none 0 0,.slice none 0 0,.slice none 0 0,.slice none 0 0,.slice none 0 0,.slice none 0 0]) dG rfl hN ?_)
 clear hN
 intro g1 w1 (hN:ak w none_ w1 [_])
 refine RL.ev (v:=.int .i64 (0)) rfl rfl aa (RL.nil (ag (RW.seq (RW.region (RL.ev (v:=v) rfl rfl U ?_)))))
 refine RL.op rfl rfl (aM Zw rfl rfl rfl ((lU _ l _ (hv.ext hN.aE) hl).mono ?_))
 rintro v2 w2 ⟨ff,bE⟩
 replace hN:ak w none_ w2 [_,_,_]:=hN.dU bE
 clear bE
 refine RL.ev (v:=v2) rfl rfl aa (RL.nil (ag ?_))
 iterate 2 refine RW.seq ?_
 refine RW.region (RL.ev (v:=v2) rfl rfl U ?_)
 have mQ:=(hN.sl 0 rfl).aY
 refine RL.ev rfl rfl (aQ VB (hN.sl 0 rfl) rfl) (RL.ev rfl rfl (bp rfl rfl) (RL.nil (ag ?_)))
 refine RW.aN _ rfl (fun hlen=>?_) (fun hlen=>?_)
 refine RW.seq (RW.region (RL.ev rfl rfl (bh (cs:=[.int .i64 (0),.slice none 0 0,.slice none 0 0,.slice none 0 0,.slice none 0 0,.slice none 0 0,.slice none 0 0,.slice none 0 0,.slice none 0 0,.slice none 0 0]) U8 dG (places:=#[(0,2),(2,2),(4,6)]) (by intro w;kernel_rfl) (pl:=[]) rfl (ps:=[]) rfl (zc:=[.int .i64 (0),.slice none 0 0,.slice none 0 0,.slice none 0 0,.slice none 0 0,.slice none 0 0,.slice none 0 0,.slice none 0 0,.slice none 0 0,.slice none 0 0]) rfl rfl) ?_))
 refine RL.op rfl rfl (aC (vs:=[.int .i64 (0),.slice none 0 0,.slice none 0 0,.slice none 0 0,.slice none 0 0,.slice none 0 0,.slice none 0 0,.slice none 0 0,.slice none 0 0,.slice none 0 0]) dJ rfl rfl rfl (by intro u hu;simp only[U9,U2,or_false]at hu;rcases hu with rfl|rfl|rfl|rfl|rfl|rfl|rfl|rfl|rfl|rfl<;>first|rfl) hN 2 rfl rfl ?_)
 clear hN
 intro w4 (hN:ak w none_ w4 [_,_,_])
 refine RL.ev (v:=.int .i64 (5)) rfl rfl aa (RL.nil (ag (RW.ret (aD (aL (RV.bV rfl rfl (bI (hN.aA 2 rfl) U8 rfl dJ)) ?_)))))
 rw[CN (fun h_=>hlen (by have:=(hN.dx 1 rfl).1;omega))]
 exact⟨rfl,hN.aE⟩
 refine RW.skip (ag (RW.seq ?_))
 have HU:(bz l).length=4:=by have:=(hN.dx 1 rfl).1;omega
 replace hN:=hN.ext (Ext.drew w2)
 refine RW.cb rfl (fun u=>ak w none_ u [.own vh 38 (v2) (ff),.dT vb (ff) (bz l),.aA g1 [.int .i64 (0),.slice none 0 0,.slice none 0 0,.slice none 0 0,.slice none 0 0,.slice none 0 0,.slice none 0 0,.slice none 0 0,.slice none 0 0,.slice none 0 0] 34]) 15 [(0,0),(1,0),(2,0),(4,0),(5,0),(6,0),(8,0),(9,0),(10,0),(3,1),(7,1),(11,1),(12,0),(13,0),(14,0)] (by intro _ _ _ h;exact h) (by kernel_rfl) hN (RQ.ev (v:=v2) rfl rfl (fun w hS=>U) (RQ.ev rfl rfl (fun w hS=>(aB VB fq (hS.sl 0 rfl) rfl rfl (by omega) (by omega))) ?_))
 have aw:∃a_,(ff)[1]?=some a_:=⟨_,UT (by omega)⟩
 obtain⟨QI,FL⟩:=aw
 have aw:∃l_,(bz l)[1]?=some l_:=⟨_,UT (by have:=(hN.dx 1 rfl).1;omega)⟩
 obtain⟨GA,o5⟩:=aw
 refine RQ.ev rfl rfl (fun w hS=>(aF (m:=1) (a:=QI) U1 rfl (hS.sl 0 rfl) rfl FL)) ?_
 have Po:=fy (UZ o5)
 refine RQ.ev (v:=v2) rfl rfl (fun w hS=>U) (RQ.ev rfl rfl (fun w hS=>(aB VB fq (hS.sl 0 rfl) rfl rfl (by omega) (by omega))) ?_)
 have aw:∃a_,(ff)[2]?=some a_:=⟨_,UT (by omega)⟩
 obtain⟨qY,iE⟩:=aw
 have aw:∃l_,(bz l)[2]?=some l_:=⟨_,UT (by have:=(hN.dx 1 rfl).1;omega)⟩
 obtain⟨Gz,o4⟩:=aw
 refine RQ.ev rfl rfl (fun w hS=>(aF (m:=2) (a:=qY) U1 rfl (hS.sl 0 rfl) rfl iE)) ?_
 have Pm:=fy (UZ o4)
 refine RQ.ev (v:=v2) rfl rfl (fun w hS=>U) (RQ.ev rfl rfl (fun w hS=>(aB VB fq (hS.sl 0 rfl) rfl rfl (by omega) (by omega))) ?_)
 have aw:∃a_,(ff)[3]?=some a_:=⟨_,UT (by omega)⟩
 obtain⟨QH,FK⟩:=aw
 have aw:∃l_,(bz l)[3]?=some l_:=⟨_,UT (by have:=(hN.dx 1 rfl).1;omega)⟩
 obtain⟨Gy,o3⟩:=aw
 refine RQ.ev rfl rfl (fun w hS=>(aF (m:=3) (a:=QH) U1 rfl (hS.sl 0 rfl) rfl FK)) ?_
 have Pl:=fy (UZ o3)
 refine RQ.do rfl rfl (aM Zx rfl rfl rfl ((l8 _ GA _ ((hN.dx 1 rfl).2 _ _ _ FL o5).1 (by omega)).mono ?_))
 rintro _ w5 ⟨yU,OB,PN,g5,rfl,bE⟩
 replace hN:ak w none_ w5 [_,_,_,_,_]:=hN.dU bE
 clear bE
 refine⟨(hN.sub [2,3,4] (by decide) rfl),?_⟩
 refine RQ.do rfl rfl (aM Zx rfl rfl rfl ((l8 _ Gz _ ((hN.dx 3 rfl).2 _ _ _ iE o4).1 (by omega)).mono ?_))
 rintro _ w6 ⟨yT,OA,PM,g6,rfl,bE⟩
 replace hN:ak w none_ w6 [_,_,_,_,_,_,_]:=hN.dU bE
 clear bE
 refine⟨(hN.sub [4,5,6] (by decide) rfl),?_⟩
 refine RQ.do rfl rfl (aM Zx rfl rfl rfl ((l8 _ Gy _ ((hN.dx 5 rfl).2 _ _ _ FK o3).1 (by omega)).mono ?_))
 rintro _ w7 ⟨yS,NV,N7,g7,rfl,bE⟩
 replace hN:ak w none_ w7 [_,_,_,_,_,_,_,_,_]:=hN.dU bE
 clear bE
 refine⟨(hN.sub [6,7,8] (by decide) rfl),?_⟩
 refine RQ.ev (v:=.pointer (some ⟨yU,0,none⟩)) rfl rfl (fun w hS=>aa) (RQ.ev (v:=.pointer (some ⟨yT,0,none⟩)) rfl rfl (fun w hS=>aa) (RQ.ev (v:=.pointer (some ⟨yS,0,none⟩)) rfl rfl (fun w hS=>aa) (RQ.done (by kernel_rfl) (ag (RW.seq (RW.region (RL.ev (v:=.pointer (some ⟨yU,0,none⟩)) rfl rfl U ?_)))))))
 have gV:∃s1 b1 n ar,lB (GA.length:Int) ((GA,0),(false))=((s1,b1),(n,ar)):=⟨_,_,_,_,rfl⟩
 obtain⟨tv,BF,n8,Jc,yQ⟩:=gV
 refine RL.op rfl rfl (aM Tryz.func42 rfl rfl rfl ((zR OB PN g5 yU (GA.length:Int) (false) (GA,0) _ (hN.bZ (M:=[_,_]) [4,5] (by decide) rfl) (by omega) (by omega) (by dsimp only;omega) yQ).mono ?_))
 rintro _ w8 ⟨v8,rfl,bE⟩
 replace hN:ak w none_ w8 [_,_,_,_,_,_,_,_,_,_]:=ak.bX (M:=[_,_]) (N:=[_,_,_,_,_,_,_]) (hN.sub [4,5,0,1,2,3,6,7,8] (by decide) rfl) bE
 clear bE
 refine RL.ev (v:=.pointer (some ⟨yT,0,none⟩)) rfl rfl U ?_
 have gV:∃s1 b1 rk ws,iS (Gz.length:Int) ((Gz,0),(false))=((s1,b1),(rk,ws)):=⟨_,_,_,_,rfl⟩
 obtain⟨LQ,Of,zo,vv,CE⟩:=gV
 refine RL.op rfl rfl (aM Tryz.func43 rfl rfl rfl ((xQ OA PM g6 yT (Gz.length:Int) (false) (Gz,0) _ (hN.bZ (M:=[_,_]) [5,6] (by decide) rfl) (by omega) (by omega) (by dsimp only;omega) CE).mono ?_))
 rintro _ w9 ⟨C6,mM,rfl,bE⟩
 replace hN:ak w none_ w9 [_,_,_,_,_,_,_,_,_,_,_,_]:=ak.bX (M:=[_,_]) (N:=[_,_,_,_,_,_,_,_]) (hN.sub [5,6,0,1,2,3,4,7,8,9] (by decide) rfl) bE
 clear bE
 refine RL.ev (v:=.pointer (some ⟨yS,0,none⟩)) rfl rfl U ?_
 have gV:∃s1 b1 g far outs ins so si,gw (Gy.length:Int) ((Gy,0),(false))=((s1,b1),(g,far,outs,ins,so,si)):=⟨_,_,_,_,_,_,_,_,rfl⟩
 obtain⟨vF,zh,tY,p4,lV,pI,xC,xD,pc⟩:=gV
 refine RL.op rfl rfl (aM Tryz.func44 rfl rfl rfl ((tI NV N7 g7 yS (Gy.length:Int) (false) (Gy,0) _ (hN.bZ (M:=[_,_]) [7,8] (by decide) rfl) (by omega) (by omega) (by dsimp only;omega) pc).mono ?_))
 rintro _ jH ⟨qo,qp,qd,qi,lf,lg,Fs,An,EZ,yj,yk,rfl,bE⟩
 replace hN:ak w none_ jH [_,_,_,_,_,_,_,_,_,_,_,_,_,_,_,_,_,_,_,_,_,_,_]:=ak.bX (M:=[_,_]) (N:=[_,_,_,_,_,_,_,_,_,_]) (hN.sub [7,8,0,1,2,3,4,5,6,9,10,11] (by decide) rfl) bE
 clear bE
 refine RL.ev rfl rfl (bh (cs:=[.int .i64 (n8),v8,C6,mM,qo,qp,qd,qi,lf,lg]) U8 dG (places:=#[(0,2),(2,2),(4,6)]) (by intro w;kernel_rfl) (pl:=[(0,.tmp 30),(1,.tmp 32),(2,.tmp 34)]) rfl (ps:=[(0,.agg #[.int .i64 (n8),v8]),(1,.agg #[C6,mM]),(2,.agg #[qo,qp,qd,qi,lf,lg])]) rfl (zc:=[.int .i64 (0),.slice none 0 0,.slice none 0 0,.slice none 0 0,.slice none 0 0,.slice none 0 0,.slice none 0 0,.slice none 0 0,.slice none 0 0,.slice none 0 0]) rfl (aP (vs:=[.int .i64 (n8),v8]) rfl rfl (US rfl) (aP (vs:=[C6,mM]) rfl rfl (US rfl) (aP (vs:=[qo,qp,qd,qi,lf,lg]) rfl rfl (US rfl) rfl)))) ?_
 refine RL.op rfl rfl (aX (cs:=[.int .i64 (0),.slice none 0 0,.slice none 0 0,.slice none 0 0,.slice none 0 0,.slice none 0 0,.slice none 0 0,.slice none 0 0,.slice none 0 0,.slice none 0 0]) dG rfl hN ?_)
 clear hN
 intro I4 jj (hN:ak w none_ jj [_,_,_,_,_,_,_,_,_,_,_,_,_,_,_,_,_,_,_,_,_,_,_,_])
 refine RL.op rfl rfl (aC (vs:=[.int .i64 (n8),v8,C6,mM,qo,qp,qd,qi,lf,lg]) dJ rfl rfl rfl (by intro u hu;simp only[U9,U2,or_false]at hu;rcases hu with rfl|rfl|rfl|rfl|rfl|rfl|rfl|rfl|rfl|rfl<;>first|rfl|exact(hN.sl 1 rfl).bJ|exact(hN.sl 10 rfl).bJ|exact(hN.sl 14 rfl).bJ|exact(hN.sl 2 rfl).bJ|exact(hN.sl 4 rfl).bJ|exact(hN.sl 6 rfl).bJ|exact(hN.sl 8 rfl).bJ|exact(hN.sm 15 rfl).bJ|exact(hN.sm 18 rfl).bJ) hN 0 rfl rfl ?_)
 clear hN
 intro iP (hN:ak w none_ iP [_,_,_,_,_,_,_,_,_,_,_,_,_,_,_,_,_,_,_,_,_,_,_,_])
 refine RL.nil (ag ?_)
 iterate 2 refine RW.seq ?_
 refine RW.region (RL.ev (v:=.pointer (some ⟨yU,0,none⟩)) rfl rfl U (RL.ev (v:=.pointer (some ⟨yT,0,none⟩)) rfl rfl U (RL.ev (v:=.pointer (some ⟨yS,0,none⟩)) rfl rfl U (RL.ev rfl rfl (pk (cs:=[.pointer (some ⟨yU,0,none⟩),.pointer (some ⟨yT,0,none⟩),.pointer (some ⟨yS,0,none⟩)]) X2 G7 Jh (pl:=[(0,.tmp 36),(1,.tmp 37),(2,.tmp 38)]) rfl (ps:=[(0,.pointer (some ⟨yU,0,none⟩)),(1,.pointer (some ⟨yT,0,none⟩)),(2,.pointer (some ⟨yS,0,none⟩))]) rfl (zc:=[.pointer none,.pointer none,.pointer none]) rfl (aP (vs:=[.pointer (some ⟨yU,0,none⟩)]) rfl rfl (US rfl) (aP (vs:=[.pointer (some ⟨yT,0,none⟩)]) rfl rfl (US rfl) (aP (vs:=[.pointer (some ⟨yS,0,none⟩)]) rfl rfl (US rfl) rfl)))) (RL.ev (v:=.int .i64 (0)) rfl rfl U (RL.nil (ag (RW.block ?_))))))))
 refine RW.loop (fun k R0 bT=>∃i:Nat,R0 0=v∧R0 2=.pointer (some ⟨g1,0,none⟩)∧R0 8=.pointer (some ⟨I4,0,none⟩)∧R0 39=.agg #[.pointer (some ⟨yU,0,none⟩),.pointer (some ⟨yT,0,none⟩),.pointer (some ⟨yS,0,none⟩)]∧R0 40=.int .i64 ((i:Int))∧ak w none_ bT [.aA I4 [.int .i64 (n8),v8,C6,mM,qo,qp,qd,qi,lf,lg] 34,.own vI 3 (qo) (tY),.own vh 25 (qp) (Fs),.dT vI (Fs) (p4),.own vh 118 (qd) (An),.ek bk (An) (lV),.own vh 118 (qi) (EZ),.ek bk (EZ) (pI),.own vh 25 (lf) (yj),.dT vI (yj) (xC),.own vh 25 (lg) (yk),.dT vI (yk) (xD),.aA yS [.pointer (some ⟨g7,0,none⟩),.int .i64 ((Gy.length:Int)),.bool (zh)] 89,b8 142 NV N7 g7 vF,.own vI 3 (C6) (zo),.cV bC 5 98 (mM) (vv),.aA yT [.pointer (some ⟨g6,0,none⟩),.int .i64 ((Gz.length:Int)),.bool (Of)] 89,b8 142 OA PM g6 LQ,.cV bf 3 100 (v8) (Jc),.aA yU [.pointer (some ⟨g5,0,none⟩),.int .i64 ((GA.length:Int)),.bool (BF)] 89,b8 142 OB PN g5 tv,.own vh 38 (v2) (ff),.dT vb (ff) (bz l),.aA g1 [.int .i64 (0),.slice none 0 0,.slice none 0 0,.slice none 0 0,.slice none 0 0,.slice none 0 0,.slice none 0 0,.slice none 0 0,.slice none 0 0,.slice none 0 0] 34]∧(i+k=3)∧((0<i→BF=false∧jx tv=0)∧(1<i→Of=false∧jx LQ=0)∧(2<i→zh=false∧jx vF=0))) (3) ?_ ?_
 exact⟨0,rfl,rfl,rfl,rfl,rfl,hN,by omega,⟨fun h=>absurd h (by omega),fun h=>absurd h (by omega),fun h=>absurd h (by omega)⟩⟩
 clear hN
 rintro k R0 bT ⟨i,bN,bF,cl,yr,yq,hN,eR,Df⟩
 have bY:∃b6,R0=(aZ (aZ (aZ (aZ (aZ b6 0 _) 2 _) 8 _) 39 _) 40 _):=⟨R0,by rw[ai bN,ai bF,ai cl,ai yr,ai yq]⟩
 obtain⟨b6,rfl⟩:=bY
 clear bN bF cl yr yq
 refine RW.seq (RW.region (RL.ev rfl rfl (aV rfl rfl) (RL.nil (ag (RW.seq ?_)))))
 refine RW.aN _ rfl (fun HO=>?_) (fun HO=>?_)
 refine RW.skip (ag (RW.seq (RW.block (RW.seq ?_))))
 have xk:i=0∨i=1∨i=2:=by omega
 rcases xk with rfl|rfl|rfl
 refine RW.region (RL.ev rfl rfl (gJ (cs:=[.pointer (some ⟨yU,0,none⟩),.pointer (some ⟨yT,0,none⟩),.pointer (some ⟨yS,0,none⟩)]) X2 Wv rfl G7 rfl rfl (by omega) (by omega) rfl) (RL.ev (v:=.pointer (some ⟨yU,0,none⟩)) rfl rfl aa (RL.nil (ag (RW.seq ?_)))))
 cases BF
 refine RW.region (RL.ev (v:=.pointer (some ⟨yU,0,none⟩)) rfl rfl U (RL.ev rfl rfl (bt rfl) (RL.ev rfl rfl (ah VI rfl np (by decide) rfl) (RL.ev rfl rfl (aj WS rfl rfl (hN.aA 19 rfl) rfl) (RL.ev (v:=.bool false) rfl rfl U (RL.aI (v:=.pointer (some ⟨yU,0,none⟩)) rfl rfl (by decide) rfl rfl U (RL.aI rfl rfl (by decide) rfl rfl (bt rfl) (RL.aI rfl rfl (by decide) rfl rfl (ah VI rfl BV (by decide) rfl) (RL.aI rfl rfl (by decide) rfl rfl (aj Wq rfl rfl (hN.aA 19 rfl) rfl) ?_)))))))))
 refine RL.on rfl rfl (by decide) rfl rfl (aM Zq rfl rfl rfl ((pn _ _ _ tv _ (b8.says hN 20 rfl)).mono ?_))
 rintro _ _ ⟨rfl,rfl⟩
 refine RL.aI rfl rfl (by decide) rfl rfl (bp rfl rfl) (RL.ev (v:=.bool (decide (¬(jx tv)=0))) rfl rfl (aH rfl) (RL.nil (ag ?_)))
 refine RW.aN _ rfl (fun di=>?_) (fun di=>?_)
 refine RW.seq (RW.region (RL.ev rfl rfl (bh (cs:=[.int .i64 (0),.slice none 0 0,.slice none 0 0,.slice none 0 0,.slice none 0 0,.slice none 0 0,.slice none 0 0,.slice none 0 0,.slice none 0 0,.slice none 0 0]) U8 dG (places:=#[(0,2),(2,2),(4,6)]) (by intro w;kernel_rfl) (pl:=[]) rfl (ps:=[]) rfl (zc:=[.int .i64 (0),.slice none 0 0,.slice none 0 0,.slice none 0 0,.slice none 0 0,.slice none 0 0,.slice none 0 0,.slice none 0 0,.slice none 0 0,.slice none 0 0]) rfl rfl) ?_))
 refine RL.op rfl rfl (aC (vs:=[.int .i64 (0),.slice none 0 0,.slice none 0 0,.slice none 0 0,.slice none 0 0,.slice none 0 0,.slice none 0 0,.slice none 0 0,.slice none 0 0,.slice none 0 0]) dJ rfl rfl rfl (by intro u hu;simp only[U9,U2,or_false]at hu;rcases hu with rfl|rfl|rfl|rfl|rfl|rfl|rfl|rfl|rfl|rfl<;>first|rfl) hN 23 rfl rfl ?_)
 clear hN
 intro lF (hN:ak w none_ lF [_,_,_,_,_,_,_,_,_,_,_,_,_,_,_,_,_,_,_,_,_,_,_,_])
 refine RL.ev (v:=.int .i64 (5)) rfl rfl aa (RL.nil (ag (RW.ret (aJ ?_))))
 iterate 2 refine aD ?_
 refine aJ (aD (aL (RV.bV rfl rfl (bI (hN.aA 23 rfl) U8 rfl dJ)) ?_))
 have lr:=kJ yQ CE pc
 rw[if_neg (fun h_=>di h_.1.2)]at lr
 rw[kA HU o5 o4 o3 lr]
 exact⟨rfl,hN.aE⟩
 refine RW.skip (a7 (ag (RW.region (RL.ev rfl rfl (an rfl rfl rfl (bc (by omega) (by omega))) (RL.ev (v:=.int .i64 (((0:Nat):Int)+1)) rfl rfl U (RL.nil (ag ?_)))))))
 exact⟨k-1,by omega,0+1,rfl,rfl,rfl,rfl,rfl,hN,by omega,⟨fun _=>⟨rfl,Vi.1 di⟩,fun h=>absurd h (by omega),fun h=>absurd h (by omega)⟩⟩
 refine RW.region (RL.ev (v:=.pointer (some ⟨yU,0,none⟩)) rfl rfl U (RL.ev rfl rfl (bt rfl) (RL.ev rfl rfl (ah VI rfl np (by decide) rfl) (RL.ev rfl rfl (aj WS rfl rfl (hN.aA 19 rfl) rfl) (RL.ev (v:=.bool true) rfl rfl U ?_)))))
 iterate 6 refine RL.off rfl rfl (by decide) rfl rfl ?_
 refine RL.ev (v:=.bool true) rfl rfl (ao rfl) (RL.nil (ag (RW.bK rfl (RW.seq (RW.region (RL.ev rfl rfl (bh (cs:=[.int .i64 (0),.slice none 0 0,.slice none 0 0,.slice none 0 0,.slice none 0 0,.slice none 0 0,.slice none 0 0,.slice none 0 0,.slice none 0 0,.slice none 0 0]) U8 dG (places:=#[(0,2),(2,2),(4,6)]) (by intro w;kernel_rfl) (pl:=[]) rfl (ps:=[]) rfl (zc:=[.int .i64 (0),.slice none 0 0,.slice none 0 0,.slice none 0 0,.slice none 0 0,.slice none 0 0,.slice none 0 0,.slice none 0 0,.slice none 0 0,.slice none 0 0]) rfl rfl) ?_))))))
 refine RL.op rfl rfl (aC (vs:=[.int .i64 (0),.slice none 0 0,.slice none 0 0,.slice none 0 0,.slice none 0 0,.slice none 0 0,.slice none 0 0,.slice none 0 0,.slice none 0 0,.slice none 0 0]) dJ rfl rfl rfl (by intro u hu;simp only[U9,U2,or_false]at hu;rcases hu with rfl|rfl|rfl|rfl|rfl|rfl|rfl|rfl|rfl|rfl<;>first|rfl) hN 23 rfl rfl ?_)
 clear hN
 intro k9 (hN:ak w none_ k9 [_,_,_,_,_,_,_,_,_,_,_,_,_,_,_,_,_,_,_,_,_,_,_,_])
 refine RL.ev (v:=.int .i64 (5)) rfl rfl aa (RL.nil (ag (RW.ret (aJ ?_))))
 iterate 2 refine aD ?_
 refine aJ (aD (aL (RV.bV rfl rfl (bI (hN.aA 23 rfl) U8 rfl dJ)) ?_))
 have lr:=kJ yQ CE pc
 rw[if_neg (fun h_=>absurd h_.1.1 (by decide))]at lr
 rw[kA HU o5 o4 o3 lr]
 exact⟨rfl,hN.aE⟩
 refine RW.region (RL.ev rfl rfl (gJ (cs:=[.pointer (some ⟨yU,0,none⟩),.pointer (some ⟨yT,0,none⟩),.pointer (some ⟨yS,0,none⟩)]) X2 Wv rfl G7 rfl rfl (by omega) (by omega) rfl) (RL.ev (v:=.pointer (some ⟨yT,0,none⟩)) rfl rfl aa (RL.nil (ag (RW.seq ?_)))))
 cases Of
 refine RW.region (RL.ev (v:=.pointer (some ⟨yT,0,none⟩)) rfl rfl U (RL.ev rfl rfl (bt rfl) (RL.ev rfl rfl (ah VI rfl np (by decide) rfl) (RL.ev rfl rfl (aj WS rfl rfl (hN.aA 16 rfl) rfl) (RL.ev (v:=.bool false) rfl rfl U (RL.aI (v:=.pointer (some ⟨yT,0,none⟩)) rfl rfl (by decide) rfl rfl U (RL.aI rfl rfl (by decide) rfl rfl (bt rfl) (RL.aI rfl rfl (by decide) rfl rfl (ah VI rfl BV (by decide) rfl) (RL.aI rfl rfl (by decide) rfl rfl (aj Wq rfl rfl (hN.aA 16 rfl) rfl) ?_)))))))))
 refine RL.on rfl rfl (by decide) rfl rfl (aM Zq rfl rfl rfl ((pn _ _ _ LQ _ (b8.says hN 17 rfl)).mono ?_))
 rintro _ _ ⟨rfl,rfl⟩
 refine RL.aI rfl rfl (by decide) rfl rfl (bp rfl rfl) (RL.ev (v:=.bool (decide (¬(jx LQ)=0))) rfl rfl (aH rfl) (RL.nil (ag ?_)))
 refine RW.aN _ rfl (fun di=>?_) (fun di=>?_)
 refine RW.seq (RW.region (RL.ev rfl rfl (bh (cs:=[.int .i64 (0),.slice none 0 0,.slice none 0 0,.slice none 0 0,.slice none 0 0,.slice none 0 0,.slice none 0 0,.slice none 0 0,.slice none 0 0,.slice none 0 0]) U8 dG (places:=#[(0,2),(2,2),(4,6)]) (by intro w;kernel_rfl) (pl:=[]) rfl (ps:=[]) rfl (zc:=[.int .i64 (0),.slice none 0 0,.slice none 0 0,.slice none 0 0,.slice none 0 0,.slice none 0 0,.slice none 0 0,.slice none 0 0,.slice none 0 0,.slice none 0 0]) rfl rfl) ?_))
 refine RL.op rfl rfl (aC (vs:=[.int .i64 (0),.slice none 0 0,.slice none 0 0,.slice none 0 0,.slice none 0 0,.slice none 0 0,.slice none 0 0,.slice none 0 0,.slice none 0 0,.slice none 0 0]) dJ rfl rfl rfl (by intro u hu;simp only[U9,U2,or_false]at hu;rcases hu with rfl|rfl|rfl|rfl|rfl|rfl|rfl|rfl|rfl|rfl<;>first|rfl) hN 23 rfl rfl ?_)
 clear hN
 intro uu (hN:ak w none_ uu [_,_,_,_,_,_,_,_,_,_,_,_,_,_,_,_,_,_,_,_,_,_,_,_])
 refine RL.ev (v:=.int .i64 (5)) rfl rfl aa (RL.nil (ag (RW.ret (aJ ?_))))
 iterate 2 refine aD ?_
 refine aJ (aD (aL (RV.bV rfl rfl (bI (hN.aA 23 rfl) U8 rfl dJ)) ?_))
 have lr:=kJ yQ CE pc
 rw[if_neg (fun h_=>di h_.2.1.2)]at lr
 rw[kA HU o5 o4 o3 lr]
 exact⟨rfl,hN.aE⟩
 refine RW.skip (a7 (ag (RW.region (RL.ev rfl rfl (an rfl rfl rfl (bc (by omega) (by omega))) (RL.ev (v:=.int .i64 (((1:Nat):Int)+1)) rfl rfl U (RL.nil (ag ?_)))))))
 exact⟨k-1,by omega,1+1,rfl,rfl,rfl,rfl,rfl,hN,by omega,⟨fun _=>Df.1 (by omega),fun _=>⟨rfl,Vi.1 di⟩,fun h=>absurd h (by omega)⟩⟩
 refine RW.region (RL.ev (v:=.pointer (some ⟨yT,0,none⟩)) rfl rfl U (RL.ev rfl rfl (bt rfl) (RL.ev rfl rfl (ah VI rfl np (by decide) rfl) (RL.ev rfl rfl (aj WS rfl rfl (hN.aA 16 rfl) rfl) (RL.ev (v:=.bool true) rfl rfl U ?_)))))
 iterate 6 refine RL.off rfl rfl (by decide) rfl rfl ?_
 refine RL.ev (v:=.bool true) rfl rfl (ao rfl) (RL.nil (ag (RW.bK rfl (RW.seq (RW.region (RL.ev rfl rfl (bh (cs:=[.int .i64 (0),.slice none 0 0,.slice none 0 0,.slice none 0 0,.slice none 0 0,.slice none 0 0,.slice none 0 0,.slice none 0 0,.slice none 0 0,.slice none 0 0]) U8 dG (places:=#[(0,2),(2,2),(4,6)]) (by intro w;kernel_rfl) (pl:=[]) rfl (ps:=[]) rfl (zc:=[.int .i64 (0),.slice none 0 0,.slice none 0 0,.slice none 0 0,.slice none 0 0,.slice none 0 0,.slice none 0 0,.slice none 0 0,.slice none 0 0,.slice none 0 0]) rfl rfl) ?_))))))
 refine RL.op rfl rfl (aC (vs:=[.int .i64 (0),.slice none 0 0,.slice none 0 0,.slice none 0 0,.slice none 0 0,.slice none 0 0,.slice none 0 0,.slice none 0 0,.slice none 0 0,.slice none 0 0]) dJ rfl rfl rfl (by intro u hu;simp only[U9,U2,or_false]at hu;rcases hu with rfl|rfl|rfl|rfl|rfl|rfl|rfl|rfl|rfl|rfl<;>first|rfl) hN 23 rfl rfl ?_)
 clear hN
 intro vA (hN:ak w none_ vA [_,_,_,_,_,_,_,_,_,_,_,_,_,_,_,_,_,_,_,_,_,_,_,_])
 refine RL.ev (v:=.int .i64 (5)) rfl rfl aa (RL.nil (ag (RW.ret (aJ ?_))))
 iterate 2 refine aD ?_
 refine aJ (aD (aL (RV.bV rfl rfl (bI (hN.aA 23 rfl) U8 rfl dJ)) ?_))
 have lr:=kJ yQ CE pc
 rw[if_neg (fun h_=>absurd h_.2.1.1 (by decide))]at lr
 rw[kA HU o5 o4 o3 lr]
 exact⟨rfl,hN.aE⟩
 refine RW.region (RL.ev rfl rfl (gJ (cs:=[.pointer (some ⟨yU,0,none⟩),.pointer (some ⟨yT,0,none⟩),.pointer (some ⟨yS,0,none⟩)]) X2 Wv rfl G7 rfl rfl (by omega) (by omega) rfl) (RL.ev (v:=.pointer (some ⟨yS,0,none⟩)) rfl rfl aa (RL.nil (ag (RW.seq ?_)))))
 cases zh
 refine RW.region (RL.ev (v:=.pointer (some ⟨yS,0,none⟩)) rfl rfl U (RL.ev rfl rfl (bt rfl) (RL.ev rfl rfl (ah VI rfl np (by decide) rfl) (RL.ev rfl rfl (aj WS rfl rfl (hN.aA 12 rfl) rfl) (RL.ev (v:=.bool false) rfl rfl U (RL.aI (v:=.pointer (some ⟨yS,0,none⟩)) rfl rfl (by decide) rfl rfl U (RL.aI rfl rfl (by decide) rfl rfl (bt rfl) (RL.aI rfl rfl (by decide) rfl rfl (ah VI rfl BV (by decide) rfl) (RL.aI rfl rfl (by decide) rfl rfl (aj Wq rfl rfl (hN.aA 12 rfl) rfl) ?_)))))))))
 refine RL.on rfl rfl (by decide) rfl rfl (aM Zq rfl rfl rfl ((pn _ _ _ vF _ (b8.says hN 13 rfl)).mono ?_))
 rintro _ _ ⟨rfl,rfl⟩
 refine RL.aI rfl rfl (by decide) rfl rfl (bp rfl rfl) (RL.ev (v:=.bool (decide (¬(jx vF)=0))) rfl rfl (aH rfl) (RL.nil (ag ?_)))
 refine RW.aN _ rfl (fun di=>?_) (fun di=>?_)
 refine RW.seq (RW.region (RL.ev rfl rfl (bh (cs:=[.int .i64 (0),.slice none 0 0,.slice none 0 0,.slice none 0 0,.slice none 0 0,.slice none 0 0,.slice none 0 0,.slice none 0 0,.slice none 0 0,.slice none 0 0]) U8 dG (places:=#[(0,2),(2,2),(4,6)]) (by intro w;kernel_rfl) (pl:=[]) rfl (ps:=[]) rfl (zc:=[.int .i64 (0),.slice none 0 0,.slice none 0 0,.slice none 0 0,.slice none 0 0,.slice none 0 0,.slice none 0 0,.slice none 0 0,.slice none 0 0,.slice none 0 0]) rfl rfl) ?_))
 refine RL.op rfl rfl (aC (vs:=[.int .i64 (0),.slice none 0 0,.slice none 0 0,.slice none 0 0,.slice none 0 0,.slice none 0 0,.slice none 0 0,.slice none 0 0,.slice none 0 0,.slice none 0 0]) dJ rfl rfl rfl (by intro u hu;simp only[U9,U2,or_false]at hu;rcases hu with rfl|rfl|rfl|rfl|rfl|rfl|rfl|rfl|rfl|rfl<;>first|rfl) hN 23 rfl rfl ?_)
 clear hN
 intro vz (hN:ak w none_ vz [_,_,_,_,_,_,_,_,_,_,_,_,_,_,_,_,_,_,_,_,_,_,_,_])
 refine RL.ev (v:=.int .i64 (5)) rfl rfl aa (RL.nil (ag (RW.ret (aJ ?_))))
 iterate 2 refine aD ?_
 refine aJ (aD (aL (RV.bV rfl rfl (bI (hN.aA 23 rfl) U8 rfl dJ)) ?_))
 have lr:=kJ yQ CE pc
 rw[if_neg (fun h_=>di h_.2.2.2)]at lr
 rw[kA HU o5 o4 o3 lr]
 exact⟨rfl,hN.aE⟩
 refine RW.skip (a7 (ag (RW.region (RL.ev rfl rfl (an rfl rfl rfl (bc (by omega) (by omega))) (RL.ev (v:=.int .i64 (((2:Nat):Int)+1)) rfl rfl U (RL.nil (ag ?_)))))))
 exact⟨k-1,by omega,2+1,rfl,rfl,rfl,rfl,rfl,hN,by omega,⟨fun _=>Df.1 (by omega),fun _=>Df.2.1 (by omega),fun _=>⟨rfl,Vi.1 di⟩⟩⟩
 refine RW.region (RL.ev (v:=.pointer (some ⟨yS,0,none⟩)) rfl rfl U (RL.ev rfl rfl (bt rfl) (RL.ev rfl rfl (ah VI rfl np (by decide) rfl) (RL.ev rfl rfl (aj WS rfl rfl (hN.aA 12 rfl) rfl) (RL.ev (v:=.bool true) rfl rfl U ?_)))))
 iterate 6 refine RL.off rfl rfl (by decide) rfl rfl ?_
 refine RL.ev (v:=.bool true) rfl rfl (ao rfl) (RL.nil (ag (RW.bK rfl (RW.seq (RW.region (RL.ev rfl rfl (bh (cs:=[.int .i64 (0),.slice none 0 0,.slice none 0 0,.slice none 0 0,.slice none 0 0,.slice none 0 0,.slice none 0 0,.slice none 0 0,.slice none 0 0,.slice none 0 0]) U8 dG (places:=#[(0,2),(2,2),(4,6)]) (by intro w;kernel_rfl) (pl:=[]) rfl (ps:=[]) rfl (zc:=[.int .i64 (0),.slice none 0 0,.slice none 0 0,.slice none 0 0,.slice none 0 0,.slice none 0 0,.slice none 0 0,.slice none 0 0,.slice none 0 0,.slice none 0 0]) rfl rfl) ?_))))))
 refine RL.op rfl rfl (aC (vs:=[.int .i64 (0),.slice none 0 0,.slice none 0 0,.slice none 0 0,.slice none 0 0,.slice none 0 0,.slice none 0 0,.slice none 0 0,.slice none 0 0,.slice none 0 0]) dJ rfl rfl rfl (by intro u hu;simp only[U9,U2,or_false]at hu;rcases hu with rfl|rfl|rfl|rfl|rfl|rfl|rfl|rfl|rfl|rfl<;>first|rfl) hN 23 rfl rfl ?_)
 clear hN
 intro zx (hN:ak w none_ zx [_,_,_,_,_,_,_,_,_,_,_,_,_,_,_,_,_,_,_,_,_,_,_,_])
 refine RL.ev (v:=.int .i64 (5)) rfl rfl aa (RL.nil (ag (RW.ret (aJ ?_))))
 iterate 2 refine aD ?_
 refine aJ (aD (aL (RV.bV rfl rfl (bI (hN.aA 23 rfl) U8 rfl dJ)) ?_))
 have lr:=kJ yQ CE pc
 rw[if_neg (fun h_=>absurd h_.2.2.1 (by decide))]at lr
 rw[kA HU o5 o4 o3 lr]
 exact⟨rfl,hN.aE⟩
 refine RW.exit ?_
 iterate 2 refine bm ?_
 refine aO (ag ?_)
 iterate 2 refine RW.seq ?_
 have lr:=kJ yQ CE pc
 rw[if_pos ⟨Df.1 (by omega),Df.2.1 (by omega),Df.2.2 (by omega)⟩]at lr
 have GL:=F6 HU o5 o4 o3 lr
 have fY:=B5 (B:=1048576) yQ CE pc (by omega) (by omega) (by omega)
 have PT:=fY.g
 have Py:=fY.LZ (n:=n8)
 replace hN:=hN.ext (Ext.drew bT)
 refine RW.cb rfl (fun u=>ak w none_ u [.aA I4 [.int .i64 (n8),v8,C6,mM,qo,qp,qd,qi,lf,lg] 34,.own vI 3 (qo) (tY),.own vh 25 (qp) (Fs),.dT vI (Fs) (p4),.own vh 118 (qd) (An),.ek bk (An) (lV),.own vh 118 (qi) (EZ),.ek bk (EZ) (pI),.own vh 25 (lf) (yj),.dT vI (yj) (xC),.own vh 25 (lg) (yk),.dT vI (yk) (xD),.aA yS [.pointer (some ⟨g7,0,none⟩),.int .i64 ((Gy.length:Int)),.bool (zh)] 89,b8 142 NV N7 g7 vF,.own vI 3 (C6) (zo),.cV bC 5 98 (mM) (vv),.aA yT [.pointer (some ⟨g6,0,none⟩),.int .i64 ((Gz.length:Int)),.bool (Of)] 89,b8 142 OA PM g6 LQ,.cV bf 3 100 (v8) (Jc),.aA yU [.pointer (some ⟨g5,0,none⟩),.int .i64 ((GA.length:Int)),.bool (BF)] 89,b8 142 OB PN g5 tv,.own vh 38 (v2) (ff),.dT vb (ff) (bz l),.aA g1 [.int .i64 (0),.slice none 0 0,.slice none 0 0,.slice none 0 0,.slice none 0 0,.slice none 0 0,.slice none 0 0,.slice none 0 0,.slice none 0 0,.slice none 0 0] 34]) 11 [(0,0),(1,1),(2,0),(3,0),(4,0),(7,0),(8,0),(5,1),(6,1),(9,0),(10,0)] (by intro _ _ _ h;exact h) (by kernel_rfl) hN (RQ.ev rfl rfl (fun w hS=>(aG (cs:=[.int .i64 (n8),v8,C6,mM,qo,qp,qd,qi,lf,lg]) U8 rfl dJ rfl (hS.aA 0 rfl))) ?_)
 refine RQ.do rfl rfl (aM Tryz.func46 rfl rfl rfl ((wo (n8) _ _ _ Jc zo vv _ (hN.sm 18 rfl) (hN.sl 14 rfl) (hN.sm 15 rfl) _ tY (hN.sl 1 rfl) _ Fs p4 (hN.sl 2 rfl) (hN.dx 3 rfl) _ An lV (hN.sl 4 rfl) (hN.qy 5 rfl) _ EZ pI (hN.sl 6 rfl) (hN.qy 7 rfl) _ yj xC (hN.sl 8 rfl) (hN.dx 9 rfl) _ yk xD (hN.sl 10 rfl) (hN.dx 11 rfl) (Vf PT (by decide))).mono ?_))
 rintro _ BM ⟨rfl,aW⟩
 replace hN:=hN.ext aW
 clear aW
 refine⟨hN,?_⟩
 refine RQ.ev rfl rfl (fun w hS=>(bp rfl rfl)) (RQ.ev (v:=.bool (decide (¬(cL n8 Jc zo vv tY p4 lV pI xC xD)=0))) rfl rfl (fun w hS=>U) ?_)
 by_cases HM:¬(cL n8 Jc zo vv tY p4 lV pI xC xD)=0
 rw[decide_eq_true HM]
 iterate 6 refine RQ.off rfl rfl rfl rfl ?_
 refine RQ.ev (v:=.bool true) rfl rfl (fun w hS=>(ao rfl)) (RQ.done (by kernel_rfl) (ag (RW.bK rfl (RW.seq (RW.region (RL.ev rfl rfl (bh (cs:=[.int .i64 (0),.slice none 0 0,.slice none 0 0,.slice none 0 0,.slice none 0 0,.slice none 0 0,.slice none 0 0,.slice none 0 0,.slice none 0 0,.slice none 0 0]) U8 dG (places:=#[(0,2),(2,2),(4,6)]) (by intro w;kernel_rfl) (pl:=[]) rfl (ps:=[]) rfl (zc:=[.int .i64 (0),.slice none 0 0,.slice none 0 0,.slice none 0 0,.slice none 0 0,.slice none 0 0,.slice none 0 0,.slice none 0 0,.slice none 0 0,.slice none 0 0]) rfl rfl) ?_))))))
 refine RL.op rfl rfl (aC (vs:=[.int .i64 (0),.slice none 0 0,.slice none 0 0,.slice none 0 0,.slice none 0 0,.slice none 0 0,.slice none 0 0,.slice none 0 0,.slice none 0 0,.slice none 0 0]) dJ rfl rfl rfl (by intro u hu;simp only[U9,U2,or_false]at hu;rcases hu with rfl|rfl|rfl|rfl|rfl|rfl|rfl|rfl|rfl|rfl<;>first|rfl) hN 23 rfl rfl ?_)
 clear hN
 intro Gs (hN:ak w none_ Gs [_,_,_,_,_,_,_,_,_,_,_,_,_,_,_,_,_,_,_,_,_,_,_,_])
 refine RL.ev (v:=.int .i64 (5)) rfl rfl aa (RL.nil (ag (RW.ret (aD (aL (RV.bV rfl rfl (bI (hN.aA 23 rfl) U8 rfl dJ)) ?_)))))
 rw[GL,if_neg (fun h_=>HM h_.1)]
 exact⟨rfl,hN.aE⟩
 rw[decide_eq_false HM]
 refine RQ.on rfl rfl rfl rfl (fun w hS=>(aG (cs:=[.int .i64 (n8),v8,C6,mM,qo,qp,qd,qi,lf,lg]) U8 rfl dJ rfl (hS.aA 0 rfl))) (RQ.on (v:=v) rfl rfl rfl rfl (fun w hS=>U) (RQ.on rfl rfl rfl rfl (fun w hS=>(eD U1 Vu VO (hv.ext hS.aE) rfl)) ?_))
 refine RQ.qz rfl rfl rfl rfl (aM Tryz.func10 rfl rfl rfl ((wP n8 Jc zo vv tY p4 lV pI xC xD _ _ _ _ _ _ _ _ _ _ _ _ _ _ _ (hN.sm 18 rfl) (hN.sl 14 rfl) (hN.sm 15 rfl) ⟨(hN.sl 1 rfl).o,(hN.sl 2 rfl).o,(hN.dx 3 rfl),(hN.sl 4 rfl).o,(hN.qy 5 rfl),(hN.sl 6 rfl).o,(hN.qy 7 rfl),(hN.sl 8 rfl).o,(hN.dx 9 rfl),(hN.sl 10 rfl).o,(hN.dx 11 rfl)⟩ (Vf fY.ar (by omega)) (Vf fY.rk (by omega)) (Vf fY.ws (by omega)) (Vf fY.g (by omega)) ⟨Vf fY.far.1 (by omega),fun r hr=>Vf (fY.far.2 r hr) (by omega)⟩ ⟨Vf fY.outs.1 (by omega),fun r hr=>Vf (fY.outs.2 r hr) (by omega)⟩ ⟨Vf fY.ins.1 (by omega),fun r hr=>Vf (fY.ins.2 r hr) (by omega)⟩ ⟨Vf fY.so.1 (by omega),fun r hr=>Vf (fY.so.2 r hr) (by omega)⟩ ⟨Vf fY.si.1 (by omega),fun r hr=>Vf (fY.si.2 r hr) (by omega)⟩ (by omega)).mono ?_))
 rintro Un NR ⟨cx,aW⟩
 replace hN:ak w none_ NR [_,_,_,_,_,_,_,_,_,_,_,_,_,_,_,_,_,_,_,_,_,_,_,_,_]:=hN.bx (l:=cX (mq n8 Jc zo vv tY p4 lV pI xC xD)) cx aW
 clear cx aW
 refine⟨(hN.sub [1,2,3,4,5,6,7,8,9,10,11,12,13,14,15,16,17,18,19,20,21,22,23,24] (by decide) rfl),?_⟩
 refine RQ.qz rfl rfl rfl rfl (dQ.ev (eD U1 Vu VO (hN.sl 0 rfl) rfl) ⟨(hN.sub [1,2,3,4,5,6,7,8,9,10,11,12,13,14,15,16,17,18,19,20,21,22,23,24] (by decide) rfl),?_⟩)
 refine RQ.on rfl rfl rfl rfl (fun w hS=>(kz rfl rfl)) (RQ.ev (v:=.bool (decide (¬(cX (mq n8 Jc zo vv tY p4 lV pI xC xD))=l))) rfl rfl (fun w hS=>(aH rfl)) (RQ.done (by kernel_rfl) (ag ?_)))
 refine RW.aN _ rfl (fun fF=>?_) (fun fF=>?_)
 refine RW.seq (RW.region (RL.ev rfl rfl (bh (cs:=[.int .i64 (0),.slice none 0 0,.slice none 0 0,.slice none 0 0,.slice none 0 0,.slice none 0 0,.slice none 0 0,.slice none 0 0,.slice none 0 0,.slice none 0 0]) U8 dG (places:=#[(0,2),(2,2),(4,6)]) (by intro w;kernel_rfl) (pl:=[]) rfl (ps:=[]) rfl (zc:=[.int .i64 (0),.slice none 0 0,.slice none 0 0,.slice none 0 0,.slice none 0 0,.slice none 0 0,.slice none 0 0,.slice none 0 0,.slice none 0 0,.slice none 0 0]) rfl rfl) ?_))
 refine RL.op rfl rfl (aC (vs:=[.int .i64 (0),.slice none 0 0,.slice none 0 0,.slice none 0 0,.slice none 0 0,.slice none 0 0,.slice none 0 0,.slice none 0 0,.slice none 0 0,.slice none 0 0]) dJ rfl rfl rfl (by intro u hu;simp only[U9,U2,or_false]at hu;rcases hu with rfl|rfl|rfl|rfl|rfl|rfl|rfl|rfl|rfl|rfl<;>first|rfl) hN 24 rfl rfl ?_)
 clear hN
 intro Lm (hN:ak w none_ Lm [_,_,_,_,_,_,_,_,_,_,_,_,_,_,_,_,_,_,_,_,_,_,_,_,_])
 refine RL.ev (v:=.int .i64 (5)) rfl rfl aa (RL.nil (ag (RW.ret (aD (aL (RV.bV rfl rfl (bI (hN.aA 24 rfl) U8 rfl dJ)) ?_)))))
 rw[GL,if_neg (fun h_=>fF h_.2)]
 exact⟨rfl,hN.aE⟩
 refine RW.skip (ag (RW.seq (RW.region (RL.ev rfl rfl (aG (cs:=[.int .i64 (n8),v8,C6,mM,qo,qp,qd,qi,lf,lg]) U8 rfl dJ rfl (hN.aA 1 rfl)) ?_))))
 refine RL.op rfl rfl (aC (vs:=[.int .i64 (n8),v8,C6,mM,qo,qp,qd,qi,lf,lg]) dJ rfl rfl rfl (by intro u hu;simp only[U9,U2,or_false]at hu;rcases hu with rfl|rfl|rfl|rfl|rfl|rfl|rfl|rfl|rfl|rfl<;>first|rfl|exact(hN.sl 11 rfl).bJ|exact(hN.sl 15 rfl).bJ|exact(hN.sl 2 rfl).bJ|exact(hN.sl 3 rfl).bJ|exact(hN.sl 5 rfl).bJ|exact(hN.sl 7 rfl).bJ|exact(hN.sl 9 rfl).bJ|exact(hN.sm 16 rfl).bJ|exact(hN.sm 19 rfl).bJ) hN 24 rfl rfl ?_)
 clear hN
 intro On (hN:ak w none_ On [_,_,_,_,_,_,_,_,_,_,_,_,_,_,_,_,_,_,_,_,_,_,_,_,_])
 refine RL.ev (v:=.int .i64 (0)) rfl rfl aa (RL.nil (ag (RW.ret (aL (RV.bV rfl rfl (bI (hN.aA 24 rfl) U8 rfl dJ)) ?_))))
 rw[GL,if_pos ⟨Vi.1 HM,Vi.1 fF⟩]
 exact⟨_,_,_,_,_,_,_,_,_,_,_,_,_,_,rfl,hN.sub [19,15,16,2,3,4,5,6,7,8,9,10,11,12] (by decide) rfl⟩
end Go.Proofs.YtngkdkbpgoddlaaGreat
namespace Go.Gr
open Go.Rl Go.cP Go.hO
abbrev RT:=St×Int
def dz (t:RT):RT×List Int:=if(bO t.1 1000000).1.2≠0 then(((bO t.1 1000000).1,1),[])else(((bO t.1 1000000).1,t.2),(bO t.1 1000000).2)
def dK : Nat → RT → RT × List (List Int)
  |0,t=>(t,[])
  |n+1,t=>((dK n (dz t).1).1,(dz t).2::(dK n (dz t).1).2)
def u9 (ls:List (List Int)):Prop:=∀r∈ls,r.length=(ls.headD []).length
instance (ls:List (List Int)):Decidable (u9 ls):=inferInstanceAs (Decidable (∀r∈ls,r.length=(ls.headD []).length))
def cU (t:RT) (ls:List (List Int)):RT:=if u9 ls then t else(t.1,1)
def qe (l:List Int):Option Nat:=match l with
  |[x]=>if x<0∨1000<x then none else some x.toNat
  |_=>none
def bH (t:RT) (each:Nat):RT×List (List Int):=match qe (dz t).2 with
  |some n=>dK (each*n) (dz t).1
  |none=>(((dz t).1.1,1),[])
def fE (t:RT):Prop:=t.2=0∧jx t.1=0
instance (t:RT):Decidable (fE t):=inferInstanceAs (Decidable (_∧_))
def vq {α:Type} (f:List Int→α) (ls:List (List Int)):List α:=(V0 (ls.headD []).length).map fun i=>f (ls.map fun r=>(r[i]?).getD 0)
def tq (b:List UInt8):RT:=((b,0),0)
def r6 (b:List UInt8):Option (Int×List I3):=
  let q:=dK 4 (tq b)
  if fE (cU q.1 q.2.tail)∧(q.2.headD []).length=1 then some (((q.2.headD [])[0]?).getD 0,vq lT q.2.tail)else none
def mh (b:List UInt8):Option (List Int×List I5):=
  let q:=dK 6 (tq b)
  if fE (cU q.1 q.2.tail)then some (q.2.headD [],vq jF q.2.tail)else none
def pD (a b:List Int):List I2:=(V0 (min a.length b.length)).map fun k=>((a[k]?).getD 0,(b[k]?).getD 0)
def df : List (List Int) → RT → RT × List (List I2)
  |a::b::r,t=>((df r (cU t [a,b])).1,pD a b::(df r (cU t [a,b])).2)
  |_,t=>(t,[])
def jI (b:List UInt8):RT×Ic:=
  let g:=dz (tq b)
  let far:=bH g.1 1
  let o:=bH far.1 2
  let outs:=df o.2 o.1
  let i:=bH outs.1 2
  let ins:=df i.2 i.1
  let so:=bH ins.1 1
  let si:=bH so.1 1
  (si.1,(g.2,far.2,outs.2,ins.2,so.2,si.2))
noncomputable def qA (b:List UInt8):Option oO:=match bz b with
  |[_,p1,p2,p3]=>match r6 p1,mh p2 with
    |some m,some h=>if fE (jI p3).1 then
        let t:=(jI p3).2
        let x:oO:=⟨m.1,m.2,h.1,h.2,t.1,t.2.1,t.2.2.1,t.2.2.2.1,t.2.2.2.2.1,t.2.2.2.2.2⟩
        if jq x=0∧cX (eG x)=b then some x else none
      else none
    |_,_=>none
  |_=>none
theorem CO {b:List UInt8} {x:oO} (h:qA b=some x):jq x=0∧cX (eG x)=b:=by
  unfold qA at h
  split at h
  · split at h
    · split at h
      · dsimp only at h
        split at h
        · rename_i hc;cases h;exact hc
        · cases h
      · cases h
    · cases h
  · cases h
theorem zE:∀(i:Nat) (t:RT),dK (i+1) t=((dz (dK i t).1).1,(dK i t).2++[(dz (dK i t).1).2]):=by
  intro i
  induction i with
  |zero=>intro t;rfl
  |succ i ih=>
    intro t
    show((dK (i+1) (dz t).1).1,(dz t).2::(dK (i+1) (dz t).1).2)=_
    rw[ih (dz t).1]
    rfl
theorem mA:∀(i:Nat) (t:RT),(dK i t).2.length=i:=by
  intro i
  induction i with
  |zero=>intro t;rfl
  |succ i ih=>intro t;simp only[dK,U6,ih]
theorem fw (t:RT):(dz t).1.1.1.length≤t.1.1.length:=by
  unfold dz
  split<;>exact dB _ _
theorem lO (t:RT):(dz t).2.length≤t.1.1.length:=by
  unfold dz
  split
  · exact VP _
  · exact jg _ _
theorem gA:∀(i:Nat) (t:RT),(dK i t).1.1.1.length≤t.1.1.length∧∀r∈(dK i t).2,r.length≤t.1.1.length:=by
  intro i
  induction i with
  |zero=>intro t;exact⟨Vv _,fun r hr=>by cases hr⟩
  |succ i ih=>
    intro t
    have h1:=fw t
    have h3:=ih (dz t).1
    refine⟨Vf h3.1 h1,fun r hr=>?_⟩
    rcases U9.1 hr with rfl|hr
    · exact lO t
    · exact Vf (h3.2 r hr) h1
theorem rJ {l:List Int} (y:List UInt8) (bd:Int) (hl:mR l) (hm:l.length≤1000000):dz ((aK l++y,0),bd)=(((y,0),bd),l):=by
  unfold dz
  simp only[uV l y 1000000 hl.2 (by omega) hl.1]
  rfl
theorem mz:∀(ls:List (List Int)) (y:List UInt8) (bd:Int),(∀r∈ls,mR r∧r.length≤1000000)→dK ls.length (((ls.map aK).flatten++y,0),bd)=(((y,0),bd),ls):=by
  intro ls
  induction ls with
  |nil=>intro y bd _;rfl
  |cons l r ih=>
    intro y bd h
    obtain⟨h1,h2⟩:=h l (V2 ..)
    simp only[VC,Vx,U6,dK,VF]
    rw[rJ _ bd h1 h2]
    simp only[ih y bd fun x hx=>h x (VX _ hx)]
theorem sR {n each:Nat} (y:List UInt8) (bd:Int) (hn:n≤1000):bH ((aK [(n:Int)]++y,0),bd) each=dK (each*n) ((y,0),bd):=by
  unfold bH
  rw[rJ y bd (Bv (by omega)) (show 1≤1000000 by omega)]
  unfold qe
  simp only
  rw[if_neg (by omega)]
  simp
theorem oU {ls:List (List Int)} (y:List UInt8) (bd:Int) (hl:zl ls) (hn:ls.length≤1000) (hr:∀r∈ls,r.length≤1000000):bH (((ct ls).flatten++y,0),bd) 1=(((y,0),bd),ls):=by
  unfold ct
  rw[Vx,VF,sR _ bd hn,Nat.one_mul]
  exact mz ls y bd fun r h=>⟨hl.2 r h,hr r h⟩
theorem Cb (r:List I2):pD (r.map fun a=>a.1) (r.map fun a=>a.2)=r:=by
  unfold pD
  refine Xv (by simp) fun i hi hj=>?_
  simp only[Ye,XJ]
  simp[UT hj]
theorem xR (t:RT):∀(ls:List (List I2)),df (ls.flatMap fun r=>[r.map fun a=>a.1,r.map fun a=>a.2]) t=(t,ls):=by
  intro ls
  induction ls with
  |nil=>rfl
  |cons r s ih=>
    have e:cU t [r.map fun a=>a.1,r.map fun a=>a.2]=t:=by
      unfold cU
      rw[if_pos]
      intro x hx
      simp only[U9,U2,or_false]at hx
      rcases hx with rfl|rfl<;>simp
    simp only[WO,Yc,Wm,df,e,ih,Cb]
theorem zN (ls:List (List I2)):(ls.flatMap eH)=(ls.flatMap fun r=>[r.map fun a=>a.1,r.map fun a=>a.2]).map aK:=by
  induction ls with
  |nil=>rfl
  |cons r s ih=>simp only[WO,V5,ih];rfl
theorem n5 {ls:List (List I2)} (y:List UInt8) (bd:Int) (hl:vk ls) (hn:ls.length≤1000) (hr:∀r∈ls,r.length≤1000000):
    bH (((cu ls).flatten++y,0),bd) 2=(((y,0),bd),ls.flatMap fun r=>[r.map fun a=>a.1,r.map fun a=>a.2]):=by
  unfold cu
  rw[Vx,VF,sR _ bd hn,zN]
  have e:(ls.flatMap fun r=>[r.map fun a=>a.1,r.map fun a=>a.2]).length=2*ls.length:=by
    clear hl hn hr
    induction ls with
    |nil=>rfl
    |cons r s ih=>simp only[WO,UX,ih,U6,Vc];omega
  rw[←e]
  refine mz _ y bd fun r h=>?_
  obtain⟨x,hx,hm⟩:=aaX.1 h
  simp only[U9,U2,or_false]at hm
  rcases hm with rfl|rfl
  · exact⟨(hl.2 x hx).one,by rw[Vl];exact hr x hx⟩
  · exact⟨(hl.2 x hx).two,by rw[Vl];exact hr x hx⟩
theorem um {α:Type} {f:List Int→α} {l:List α} {c:α→Int} {cs:List (α→Int)} (h:∀x∈l,f ((c::cs).map fun g=>g x)=x):vq f ((c::cs).map fun g=>l.map g)=l:=
  uo (f:=f) (l:=l) (c:=c) (cs:=cs) h
theorem u7 {α:Type} (t:RT) (l:List α) (cs:List (α→Int)):cU t (cs.map fun g=>l.map g)=t:=by
  unfold cU
  rw[if_pos]
  intro r hr
  obtain⟨g,hg,rfl⟩:=V9.1 hr
  cases cs with
  |nil=>cases hg
  |cons c cs=>simp
theorem wL (bd:Int) (h:bd=0):fE ((([]:List UInt8),0),bd):=⟨h,show jx ([],0)=0 by decide⟩
theorem Eb {n:Int} {ar:List I3} (hn:Fit n) (ha:Gq ar) (hm:ar.length≤1000000):r6 (ij n ar).flatten=some (n,ar):=by
  have h1:=mz [[n],ar.map fun a=>a.1,ar.map fun a=>a.2.1,ar.map fun a=>a.2.2] [] 0 fun r hr=>by
    simp only[U9,U2,or_false]at hr
    rcases hr with rfl|rfl|rfl|rfl
    · exact⟨Bu hn,show 1≤1000000 by omega⟩
    · exact⟨eJ ha.1 fun x hx=>(ha.2 x hx).1,by rw[Vl];exact hm⟩
    · exact⟨eJ ha.1 fun x hx=>(ha.2 x hx).2.1,by rw[Vl];exact hm⟩
    · exact⟨eJ ha.1 fun x hx=>(ha.2 x hx).2.2,by rw[Vl];exact hm⟩
  rw[V4]at h1
  have e:dK 4 (tq (ij n ar).flatten)=((([],0),0),[[n],ar.map fun a=>a.1,ar.map fun a=>a.2.1,ar.map fun a=>a.2.2]):=h1
  unfold r6
  simp only[e,XV,XG]
  have e2:cU (([],0),0) [ar.map fun a=>a.1,ar.map fun a=>a.2.1,ar.map fun a=>a.2.2]=(([],0),0):=u7 (([],0),0) ar [fun a=>a.1,fun a=>a.2.1,fun a=>a.2.2]
  have e3:vq lT [ar.map fun a=>a.1,ar.map fun a=>a.2.1,ar.map fun a=>a.2.2]=ar:=um (f:=lT) (c:=fun a:I3=>a.1) (cs:=[fun a=>a.2.1,fun a=>a.2.2]) fun x _=>rfl
  rw[e2,e3,if_pos ⟨wL 0 rfl,rfl⟩]
  rfl
theorem Cw {rk:List Int} {ws:List I5} (hk:mR rk) (hw:Gp ws) (h1:rk.length≤1000000) (hm:ws.length≤1000000):mh (eL rk ws).flatten=some (rk,ws):=by
  have h1:=mz [rk,ws.map fun a=>a.1,ws.map fun a=>a.2.1,ws.map fun a=>a.2.2.1,ws.map fun a=>a.2.2.2.1,ws.map fun a=>a.2.2.2.2] [] 0 fun r hr=>by
    simp only[U9,U2,or_false]at hr
    rcases hr with rfl|rfl|rfl|rfl|rfl|rfl
    · exact⟨hk,h1⟩
    · exact⟨eJ hw.1 fun x hx=>(hw.2 x hx).1,by rw[Vl];exact hm⟩
    · exact⟨eJ hw.1 fun x hx=>(hw.2 x hx).2.1,by rw[Vl];exact hm⟩
    · exact⟨eJ hw.1 fun x hx=>(hw.2 x hx).2.2.1,by rw[Vl];exact hm⟩
    · exact⟨eJ hw.1 fun x hx=>(hw.2 x hx).2.2.2.1,by rw[Vl];exact hm⟩
    · exact⟨eJ hw.1 fun x hx=>(hw.2 x hx).2.2.2.2,by rw[Vl];exact hm⟩
  rw[V4]at h1
  have e:dK 6 (tq (eL rk ws).flatten)=((([],0),0),[rk,ws.map fun a=>a.1,ws.map fun a=>a.2.1,ws.map fun a=>a.2.2.1,ws.map fun a=>a.2.2.2.1,ws.map fun a=>a.2.2.2.2]):=h1
  unfold mh
  simp only[e,XV,XG]
  have e2:cU (([],0),0) [ws.map fun a=>a.1,ws.map fun a=>a.2.1,ws.map fun a=>a.2.2.1,ws.map fun a=>a.2.2.2.1,ws.map fun a=>a.2.2.2.2]=(([],0),0):=u7 (([],0),0) ws [fun a=>a.1,fun a=>a.2.1,fun a=>a.2.2.1,fun a=>a.2.2.2.1,fun a=>a.2.2.2.2]
  have e3:vq jF [ws.map fun a=>a.1,ws.map fun a=>a.2.1,ws.map fun a=>a.2.2.1,ws.map fun a=>a.2.2.2.1,ws.map fun a=>a.2.2.2.2]=ws:=um (f:=jF) (c:=fun a:I5=>a.1) (cs:=[fun a=>a.2.1,fun a=>a.2.2.1,fun a=>a.2.2.2.1,fun a=>a.2.2.2.2]) fun x _=>rfl
  rw[e2,e3,if_pos (wL 0 rfl)]
structure Gm (x:oO):Prop where
  ar:x.ar.length≤1000000
  rk:x.rk.length≤1000000
  ws:x.ws.length≤1000000
  g:x.g.length≤1000000
  far:x.far.length≤1000∧∀r∈x.far,r.length≤1000000
  outs:x.outs.length≤1000∧∀r∈x.outs,r.length≤1000000
  ins:x.ins.length≤1000∧∀r∈x.ins,r.length≤1000000
  so:x.so.length≤1000∧∀r∈x.so,r.length≤1000000
  si:x.si.length≤1000∧∀r∈x.si,r.length≤1000000
theorem BS {x:oO} (hx:FX x) (hs:Gm x):jI (dI x.g x.far x.outs x.ins x.so x.si).flatten=((([],0),0),(x.g,x.far,x.outs,x.ins,x.so,x.si)):=by
  unfold dI
  simp only[Vx,WC]
  have h5:=oU (ls:=x.si) [] 0 hx.si hs.si.1 hs.si.2
  rw[V4]at h5
  unfold jI tq
  simp only[rJ _ 0 hx.g hs.g,oU _ 0 hx.far hs.far.1 hs.far.2,n5 _ 0 hx.outs hs.outs.1 hs.outs.2,xR,n5 _ 0 hx.ins hs.ins.1 hs.ins.2,oU _ 0 hx.so hs.so.1 hs.so.2,h5]
theorem F7 {x:oO} (hx:FX x) (hs:Gm x) (hm:eA (eG x)<4294967296) (hc:jq x=0):qA (cX (eG x))=some x:=by
  have e1:=ns (eG x) (by rw[gS];exact hm)
  unfold qA
  rw[e1]
  show(match r6 (ij x.n x.ar).flatten,mh (eL x.rk x.ws).flatten with
    |some m,some h=>_
    |_,_=>_)=_
  rw[Eb hx.n hx.ar hs.ar,Cw hx.rk hx.ws hs.rk hs.ws]
  simp only[BS hx hs]
  rw[if_pos (wL 0 rfl),if_pos ⟨hc,trivial⟩]
end Go.Gr
namespace Go.Gr
open Go.Rl Go.cP Go.hO
theorem je (ls:List (List Int)):12+4*ls.length≤(ct ls).flatten.length∧∀r∈ls,12+8*r.length≤(ct ls).flatten.length:=by
  have hc:∀l:List (List Int),4*l.length≤((l.map aK).flatten).length:=by
    intro l
    induction l with
    |nil=>exact Vv _
    |cons a r ih=>simp only[VC,Vx,UX,U6,aS];omega
  unfold ct
  simp only[Vx,UX,aS,U6,Vc]
  have h1:=hc ls
  refine⟨by omega,fun r hr=>?_⟩
  have h2:=qU aK ls r hr
  rw[aS]at h2;omega
theorem kH (ls:List (List I2)):12+8*ls.length≤(cu ls).flatten.length∧∀r∈ls,12+16*r.length≤(cu ls).flatten.length:=by
  have e:(ls.flatMap eH).flatten=(ls.map fun r=>(eH r).flatten).flatten:=by
    rw[Xw,Xa,Wz];rfl
  have hl:∀r:List I2,(eH r).flatten.length=8+16*r.length:=fun r=>by simp only[eH,Vx,Xx,UX,Vc,aS,Vl];omega
  have hc:∀l:List (List I2),8*l.length≤((l.map fun r=>(eH r).flatten).flatten).length:=by
    intro l
    induction l with
    |nil=>exact Vv _
    |cons a r ih=>simp only[VC,Vx,UX,U6,hl];omega
  unfold cu
  simp only[Vx,UX,aS,U6,Vc,e]
  have h1:=hc ls
  refine⟨by omega,fun r hr=>?_⟩
  have h2:=qU (fun r=>(eH r).flatten) ls r hr
  simp only[hl]at h2;omega
theorem FW {β:Type} (f:β→List UInt8) (M:Nat):∀(l:List β),(∀x∈l,M≤(f x).length)→l.length*M≤((l.map f).flatten).length:=by
  intro l
  induction l with
  |nil=>intro _;simp
  |cons a r ih=>
    intro h
    have h1:=h a (V2 ..)
    have h2:=ih fun x hx=>h x (VX _ hx)
    simp only[VC,Vx,UX,U6,aaG];omega
theorem Bc (x:oO):eA (eG x)=95+24*x.ar.length+8*x.rk.length+40*x.ws.length+8*x.g.length+((ct x.far).flatten.length+((cu x.outs).flatten.length+((cu x.ins).flatten.length+((ct x.so).flatten.length+(ct x.si).flatten.length)))):=by
  have e:eA (eG x)=32+(iD x.n x.ar).length+(ij x.n x.ar).flatten.length+(eL x.rk x.ws).flatten.length+(dI x.g x.far x.outs x.ins x.so x.si).flatten.length:=by
    simp only[eG,mq,eA,VC,We,YL,abv];omega
  rw[e,uY,od,mH]
  unfold dI
  simp only[Vx,WC,UX,aS]
  omega
theorem uD {x:oO} {B:Nat} (h:eA (eG x)≤B):C1 B B B x.ar x.rk x.ws x.g x.far x.outs x.ins x.so x.si:=by
  have e:=Bc x
  have a1:=je x.far
  have a2:=kH x.outs
  have a3:=kH x.ins
  have a4:=je x.so
  have a5:=je x.si
  refine⟨by omega,by omega,by omega,by omega,⟨by omega,fun r hr=>?_⟩,⟨by omega,fun r hr=>?_⟩,⟨by omega,fun r hr=>?_⟩,⟨by omega,fun r hr=>?_⟩,⟨by omega,fun r hr=>?_⟩⟩
  · have:=a1.2 r hr;omega
  · have:=a2.2 r hr;omega
  · have:=a3.2 r hr;omega
  · have:=a4.2 r hr;omega
  · have:=a5.2 r hr;omega
theorem Le:∀(n:Nat) (l:List Int),l.length=n→(∀k:Nat,k<n→(k:Int)∈l)→∀x∈l,0≤x∧x<n:=by
  intro n
  induction n with
  |zero=>intro l hl _ x hx;rw[WM.1 hl]at hx;cases hx
  |succ n ih=>
    intro l hl h x hx
    have hm:=h n (by omega)
    have hlen:(l.erase (n:Int)).length=n:=by rw[Xd hm];omega
    by_cases e:x=(n:Int)
    · omega
    · have := ih (l.erase (n : Int)) hlen (fun k hk => (Yt (by omega)).2 (h k (by omega))) x ((Yt e).2 hx)
      omega
theorem wa {n:Int} {P:Int→Prop} {l:List Int} (hn:n≤16777216) (h:iJ n P l):∀x∈l,Fit x:=fun x hx=>by
  have:=(h.1 x hx).1
  exact⟨by omega,by omega⟩
theorem wm {x:oO} (h:jq x=0):dw x.n x.ar=0∧x.rk.length≤16777216∧k8 x.rk x.ws∧x.n≤16777216∧sW x.n x.g x.far x.outs x.ins x.so x.si∧(x.rk.length:Int)=x.n∧j8 x.ar x.ws:=by
  unfold jq cL at h
  by_cases h1:dw x.n x.ar≠0
  · rw[if_pos h1]at h;exact absurd h h1
  rw[if_neg h1]at h
  by_cases h2:dm x.rk x.ws≠0
  · rw[if_pos h2]at h;exact absurd h h2
  rw[if_neg h2]at h
  by_cases h3:cW x.n x.g x.far x.outs x.ins x.so x.si≠0
  · rw[if_pos h3]at h;exact absurd h h3
  rw[if_neg h3]at h
  have h1:=Vi.1 h1
  have h2:=Vi.1 h2
  have h3:=Vi.1 h3
  have h4:(x.rk.length:Int)=x.n∧j8 x.ar x.ws:=by
    by_cases h4:(x.rk.length:Int)=x.n∧j8 x.ar x.ws
    · exact h4
    · rw[if_neg h4]at h;cases h
  unfold dm at h2
  unfold cW at h3
  have h5:x.rk.length≤16777216∧k8 x.rk x.ws:=by
    by_cases q:16777216<x.rk.length∨67108864<x.ws.length
    · rw[if_pos q]at h2;cases h2
    · rw [if_neg q] at h2
      by_cases q2:k8 x.rk x.ws
      · exact⟨by omega,q2⟩
      · rw[if_neg q2]at h2;cases h2
  have h6:x.n≤16777216∧sW x.n x.g x.far x.outs x.ins x.so x.si:=by
    by_cases q:16777216<x.n
    · rw[if_pos q]at h3;cases h3
    · rw [if_neg q] at h3
      by_cases q2:sW x.n x.g x.far x.outs x.ins x.so x.si
      · exact⟨by omega,q2⟩
      · rw[if_neg q2]at h3;cases h3
  exact⟨h1,h5.1,h5.2,h6.1,h6.2,h4⟩
theorem H5 {x:oO} {B:Nat} (h:jq x=0) (hs:C1 B B B x.ar x.rk x.ws x.g x.far x.outs x.ins x.so x.si) (hB:B<4294967296):FX x:=by
  obtain⟨hm,hr,hH,hn,hT,Tm,hA⟩:=wm h
  obtain⟨m0,m1,_,ma⟩:=qO hm
  obtain⟨t0,tg,tf,to,ti,ts,tu⟩:=hT
  refine⟨⟨by omega,by omega⟩,⟨VJ hs.ar hB,fun a ha=>?_⟩,⟨VJ hs.rk hB,fun a ha=>?_⟩,⟨VJ hs.ws hB,fun a ha=>?_⟩,⟨VJ hs.g hB,wa hn tg⟩,⟨VJ hs.far.1 hB,fun r hr=>⟨VJ (hs.far.2 r hr) hB,fun a ha=>?_⟩⟩,⟨VJ hs.outs.1 hB,fun r hr=>⟨VJ (hs.outs.2 r hr) hB,fun a ha=>?_⟩⟩,⟨VJ hs.ins.1 hB,fun r hr=>⟨VJ (hs.ins.2 r hr) hB,fun a ha=>?_⟩⟩,⟨VJ hs.so.1 hB,fun r hr=>⟨VJ (hs.so.2 r hr) hB,wa hn (ts.1 r hr)⟩⟩,⟨VJ hs.si.1 hB,fun r hr=>⟨VJ (hs.si.2 r hr) hB,wa hn (tu.1 r hr)⟩⟩⟩
  · have := ma a ha
    unfold Gx at this
    exact⟨⟨by omega,by omega⟩,⟨by omega,by omega⟩,⟨by omega,by omega⟩⟩
  · have := Le _ x.rk rfl hH.1 a ha
    exact⟨by omega,by omega⟩
  · obtain ⟨i, hi⟩ := VK ha
    obtain⟨hE,hW⟩:=hH.2 i a hi
    unfold xd at hE
    have hw:Fit a.2.2.2.1∧Fit a.2.2.2.2:=by
      by_cases q:a.2.2.2.1= -1
      · rw [if_pos q] at hW
        exact⟨⟨by omega,by omega⟩,⟨by omega,by omega⟩⟩
      · rw [if_neg q] at hW
        unfold zk at hW
        exact⟨⟨by omega,by omega⟩,⟨by omega,by omega⟩⟩
    exact⟨⟨by omega,by omega⟩,⟨by omega,by omega⟩,⟨by omega,by omega⟩,hw.1,hw.2⟩
  · obtain ⟨i, hi⟩ := VK hr
    have:=(tf.2 i r hi).2.2 a ha
    unfold cG at this
    exact⟨by omega,by omega⟩
  · have h1 := (to.1 r hr).1 a ha
    have h2:=((to.1 r hr).2.1 a.1 (V9.2 ⟨a,ha,rfl⟩)).1
    unfold cG at h1
    exact⟨⟨by omega,by omega⟩,⟨by omega,by omega⟩⟩
  · have h1 := (ti.1 r hr).1 a ha
    have h2:=((ti.1 r hr).2.1 a.1 (V9.2 ⟨a,ha,rfl⟩)).1
    unfold cG at h1
    exact⟨⟨by omega,by omega⟩,⟨by omega,by omega⟩⟩
theorem DJ {x:oO} (h:jq x=0) (hm:eA (eG x)≤30000):Gm x:=by
  have hs:=uD hm
  have e:=Bc x
  have a1:=je x.far
  have a2:=kH x.outs
  have a3:=kH x.ins
  have a4:=je x.so
  have a5:=je x.si
  obtain⟨_,_,_,_,hT,_⟩:=wm h
  obtain⟨_,_,tf,_,_,_,_⟩:=hT
  have hf:x.far.length≤1000:=by
    have hl:=tf.1
    by_cases q:x.far.length≤1000
    · exact q
    · have h1:x.far.length*8012≤((x.far.map aK).flatten).length:=FW aK 8012 x.far fun r hr=>by
        obtain⟨i,hi⟩:=VK hr
        have:=(tf.2 i r hi).1
        rw[aS];omega
      have h2:((x.far.map aK).flatten).length≤(ct x.far).flatten.length:=by
        unfold ct
        simp only[Vx,UX];omega
      omega
  refine⟨Vf hs.ar (by decide),Vf hs.rk (by decide),Vf hs.ws (by decide),Vf hs.g (by decide),⟨hf,fun r hr=>Vf (hs.far.2 r hr) (by decide)⟩,⟨?_,fun r hr=>Vf (hs.outs.2 r hr) (by decide)⟩,⟨?_,fun r hr=>Vf (hs.ins.2 r hr) (by decide)⟩,⟨?_,fun r hr=>Vf (hs.so.2 r hr) (by decide)⟩,⟨?_,fun r hr=>Vf (hs.si.2 r hr) (by decide)⟩⟩
  all_goals
    obtain⟨_,_,_,_,hT,Tm,_⟩:=wm h
    obtain⟨_,_,_,to,ti,ts,tu⟩:=hT
    have:=to.2
    have:=ti.2
    have:=ts.2
    have:=tu.2
    omega
theorem BA {b:List UInt8} (hb:b.length≤30000):qA b=kX b:=by
  have go:∀x,jq x=0∧cX (eG x)=b→qA b=some x∧kX b=some x:=by
    rintro x ⟨hc,hj⟩
    have hm:eA (eG x)≤30000:=by rw[←gS,hj];exact hb
    have hf:=H5 hc (uD hm) (by decide)
    rw[←hj]
    exact⟨F7 hf (DJ hc hm) (by omega) hc,F8 hf (by omega) hc⟩
  cases h1:qA b with
  |some x=>exact(go x (CO h1)).2.symm▸rfl
  |none=>
    cases h2:kX b with
    |none=>rfl
    |some x=>rw[(go x (CP h2)).1]at h1;cases h1
theorem Aa (s:St) (m:Int):8*(bO s m).2.length≤s.1.length:=by
  have h:=xM s m 8
  show 8*(fj _ _).length≤_
  rw[uW]
  omega
theorem B3 (t:RT):8*(dz t).2.length≤t.1.1.length:=by
  unfold dz
  split
  · exact VP _
  · exact Aa _ _
theorem zF:∀(i:Nat) (t:RT),∀r∈(dK i t).2,8*r.length≤t.1.1.length:=by
  intro i
  induction i with
  |zero=>intro t r hr;cases hr
  |succ i ih=>
    intro t r hr
    rcases U9.1 hr with rfl|hr
    · exact B3 t
    · exact Vf (ih _ r hr) (fw t)
theorem eT (t:RT) (each:Nat):(bH t each).1.1.1.length≤t.1.1.length∧∀r∈(bH t each).2,8*r.length≤t.1.1.length:=by
  unfold bH
  split
  · exact⟨Vf (gA _ _).1 (fw t),fun r hr=>Vf (zF _ _ r hr) (fw t)⟩
  · exact⟨fw t,fun r hr=>by cases hr⟩
theorem jM:∀(k:Nat) (ls:List (List Int)) (t:RT),ls.length≤k→(df ls t).1.1=t.1∧∀x∈(df ls t).2,∃a∈ls,x.length≤a.length:=by
  intro k
  induction k with
  |zero=>intro ls t h;rw[WM.1 (aaO.1 h)];exact⟨rfl,fun x hx=>by cases hx⟩
  |succ k ih=>
    intro ls t h
    match ls,h with
    |[],_=>exact⟨rfl,fun x hx=>by cases hx⟩
    |[a],_=>exact⟨rfl,fun x hx=>by cases hx⟩
    |a::b::r,h=>
      have h1:=ih r (cU t [a,b]) (by simp only[U6]at h;omega)
      have h2:(cU t [a,b]).1=t.1:=by unfold cU;split<;>rfl
      refine⟨h1.1.trans h2,fun x hx=>?_⟩
      rcases U9.1 hx with rfl|hx
      · exact⟨a,V2 ..,by unfold pD;simp only[Vl,X1];omega⟩
      · obtain ⟨c, hc, hl⟩ := h1.2 x hx
        exact⟨c,VX _ (VX _ hc),hl⟩
theorem rl {b:List UInt8} {t:RT} {g:List Int} {far so si:List (List Int)} {outs ins:List (List I2)} (h:jI b=(t,(g,far,outs,ins,so,si))):(∀r∈outs,8*r.length≤b.length)∧∀r∈ins,8*r.length≤b.length:=by
  unfold jI at h
  cases h
  have h0:=fw (tq b)
  have h1:=eT (dz (tq b)).1 1
  have h2:=eT (bH (dz (tq b)).1 1).1 2
  have k2:=jM _ (bH (bH (dz (tq b)).1 1).1 2).2 (bH (bH (dz (tq b)).1 1).1 2).1 (Vv _)
  have h3:=eT (df (bH (bH (dz (tq b)).1 1).1 2).2 (bH (bH (dz (tq b)).1 1).1 2).1).1 2
  have k3:=jM _ (bH (df (bH (bH (dz (tq b)).1 1).1 2).2 (bH (bH (dz (tq b)).1 1).1 2).1).1 2).2 (bH (df (bH (bH (dz (tq b)).1 1).1 2).2 (bH (bH (dz (tq b)).1 1).1 2).1).1 2).1 (Vv _)
  rw[k2.1]at h3
  have e:(tq b).1.1.length=b.length:=rfl
  refine⟨fun r hr=>?_,fun r hr=>?_⟩
  · obtain ⟨a, ha, hl⟩ := k2.2 r hr
    have:=h2.2 a ha
    omega
  · obtain ⟨a, ha, hl⟩ := k3.2 r hr
    have:=h3.2 a ha
    omega
end Go.Gr
namespace Go.Gr
open Go.Rl Go.cP Go.hO
theorem o7 {ls:List (List Int)} {B:Nat} (h:∀r∈ls,r.length≤B):(ls.headD []).length≤B:=by
  cases ls with
  |nil=>exact VP _
  |cons a r=>exact h a (V2 ..)
theorem xn {α:Type} (f:List Int→α) (ls:List (List Int)):(vq f ls).length=(ls.headD []).length:=by unfold vq;rw[Vl,X1]
theorem Ec {b:List UInt8} {n:Int} {ar:List I3} (h:r6 b=some (n,ar)):ar.length≤b.length:=by
  unfold r6 at h
  dsimp only at h
  split at h
  · cases h
    rw[xn]
    exact o7 fun r hr=>(gA 4 (tq b)).2 r (ZS hr)
  · cases h
theorem uX {b:List UInt8} {rk:List Int} {ws:List I5} (h:mh b=some (rk,ws)):rk.length≤b.length∧ws.length≤b.length:=by
  unfold mh at h
  dsimp only at h
  split at h
  · cases h
    rw[xn]
    exact⟨o7 (gA 6 (tq b)).2,o7 fun r hr=>(gA 6 (tq b)).2 r (ZS hr)⟩
  · cases h
theorem jA (t:RT) {each:Nat} (he:each≤2):(bH t each).2.length≤2000:=by
  unfold bH
  split
  · rename_i n hn
    have Px:n≤1000:=by
      unfold qe at hn
      split at hn
      · split at hn
        · cases hn
        · cases hn;omega
      · cases hn
    rw[mA]
    exact Vf (Yz he Px) (by decide)
  · exact VP _
theorem rN:∀(k:Nat) (ls:List (List Int)) (t:RT),ls.length≤k→(df ls t).2.length≤ls.length:=by
  intro k
  induction k with
  |zero=>intro ls t h;rw[WM.1 (aaO.1 h)];exact Vv _
  |succ k ih=>
    intro ls t h
    match ls,h with
    |[],_=>exact Vv _
    |[a],_=>exact VP _
    |a::b::r,h=>
      have:=ih r (cU t [a,b]) (by simp only[U6]at h;omega)
      simp only[df,U6]
      omega
theorem BT {b:List UInt8} {t:RT} {g:List Int} {far so si:List (List Int)} {outs ins:List (List I2)} (h:jI b=(t,(g,far,outs,ins,so,si))):
    g.length≤b.length∧(far.length≤2000∧∀r∈far,r.length≤b.length)∧outs.length≤2000∧ins.length≤2000∧(so.length≤2000∧∀r∈so,r.length≤b.length)∧(si.length≤2000∧∀r∈si,r.length≤b.length):=by
  unfold jI at h
  cases h
  have h0:=fw (tq b)
  have h1:=eT (dz (tq b)).1 1
  have h2:=eT (bH (dz (tq b)).1 1).1 2
  have k2:=jM _ (bH (bH (dz (tq b)).1 1).1 2).2 (bH (bH (dz (tq b)).1 1).1 2).1 (Vv _)
  have l2:=rN _ (bH (bH (dz (tq b)).1 1).1 2).2 (bH (bH (dz (tq b)).1 1).1 2).1 (Vv _)
  have c2:=jA (bH (dz (tq b)).1 1).1 (each:=2) (by decide)
  generalize Uz:df (bH (bH (dz (tq b)).1 1).1 2).2 (bH (bH (dz (tq b)).1 1).1 2).1=q2 at*
  have h3:=eT q2.1 2
  have c3:=jA q2.1 (each:=2) (by decide)
  have k3:=jM _ (bH q2.1 2).2 (bH q2.1 2).1 (Vv _)
  have l3:=rN _ (bH q2.1 2).2 (bH q2.1 2).1 (Vv _)
  generalize Uy:df (bH q2.1 2).2 (bH q2.1 2).1=q3 at*
  have h4:=eT q3.1 1
  have h5:=eT (bH q3.1 1).1 1
  have k2:=congrArg (fun s:St=>s.1.length) k2.1
  have k3:=congrArg (fun s:St=>s.1.length) k3.1
  have e:(tq b).1.1.length=b.length:=rfl
  refine⟨lO (tq b),⟨Vf (jA _ (by decide)) (by omega),fun r hr=>?_⟩,by omega,by omega,⟨Vf (jA _ (by decide)) (by omega),fun r hr=>?_⟩,⟨Vf (jA _ (by decide)) (by omega),fun r hr=>?_⟩⟩
  · have:=h1.2 r hr;omega
  · have:=h4.2 r hr;omega
  · have:=h5.2 r hr;omega
end Go.Gr
namespace Go.Proofs.YtngkdkbpgoddlaaGreat
open Go.RowKit Go.Rl
open Go.Gr Go.cP Go.hO
theorem DV {s:St} {bd:Int} (h:¬(bO s 1000000).1.2=0):dz (s,bd)=(((bO s 1000000).1,1),[]):=by
  unfold dz;rw[if_pos h]
theorem Ha {s:St} {bd:Int} (h:(bO s 1000000).1.2=0):dz (s,bd)=(((bO s 1000000).1,bd),(bO s 1000000).2):=by
  unfold dz;rw[if_neg (by simp only[h];decide)]
theorem kR {ls:List (List Int)} {a:List Int} (h:ls[0]?=some a):ls.headD []=a:=by
  cases ls with
  |nil=>cases h
  |cons b r=>cases h;rfl
theorem kI (b:Nat) (v:Value) (s:St) (bd:Int) (w:World) (hB:jD vb b w v s.1) (kS:b≤w.heap.size) {s1:St} {b1:Int} {l1:List Int} (e:dz (s,bd)=((s1,b1),l1)):al UY 120 #[.agg #[v,.int .i64 s.2,.int .i64 bd]] w fun r w'=>∃x y,r=.tuple #[.agg #[x,.int .i64 s1.2,.int .i64 b1],y]∧jD vb b w' x s1.1∧dy vi 3 w' w.heap.size y l1∧Ext w w':=by
 refine al.start Y7 rfl (US rfl) ?_
 rw[bL]
 have hN:=ak.nil w none_
 refine RW.seq (RW.region ?_)
 refine RL.op rfl rfl (bq (cs:=[v,.int .i64 (s.2),.int .i64 (bd)]) rfl rfl hN ?_)
 clear hN
 intro g1 w1 (hN:ak w none_ w1 [_])
 refine RL.op rfl rfl (aX (cs:=[.slice none 0 0,.int .i64 (0),.int .i64 (0)]) dN rfl hN ?_)
 clear hN
 intro g2 w2 (hN:ak w none_ w2 [_,_])
 refine RL.ev (v:=.slice none 0 0) rfl rfl aa (RL.nil (ag (RW.seq (RW.region (RL.ev rfl rfl (ah Vp rfl cJ (by decide) rfl) (RL.ev rfl rfl (cr (cs:=[v,.int .i64 (s.2),.int .i64 (bd)]) (j:=0) (m:=2) Vk rfl cJ rfl (hN.aA 1 rfl) (US rfl)) ?_))))))
 refine RL.op rfl rfl (aR abK rfl rfl rfl rfl ((nZ _ _ s (1000000) _ (hB.ext hN.aE) (Vf kS hN.size) (by omega) (by omega)).mono ?_))
 rintro _ w3 ⟨x3,y3,rfl,lH,D4,aW⟩
 have fo:=hN.bx D4 aW
 replace lH:=lH.back fo.aE kS
 clear D4 aW
 clear hN
 have hN:ak w none_ w3 [_,_,_]:=fo
 clear fo
 refine RL.ev (v:=.tuple #[.agg #[x3,.int .i64 ((bO s (1000000)).1.2)],y3]) rfl rfl U ?_
 iterate 2 refine RL.ev rfl rfl (bg rfl rfl) ?_
 refine RL.op rfl rfl (aX (cs:=[.slice none 0 0,.int .i64 (0)]) iq rfl hN ?_)
 clear hN
 intro g4 w4 (hN:ak w none_ w4 [_,_,_,_])
 refine RL.op rfl rfl (aC (vs:=[x3,.int .i64 ((bO s (1000000)).1.2)]) cJ rfl rfl rfl (by intro u hu;simp only[U9,U2,or_false]at hu;rcases hu with rfl|rfl<;>first|rfl|exact(lH.1.ext hN.aE).bJ) hN 0 rfl rfl ?_)
 clear hN
 intro w5 (hN:ak w none_ w5 [_,_,_,_])
 refine RL.ev (v:=y3) rfl rfl aa (RL.nil (ag ?_))
 iterate 2 refine RW.seq ?_
 refine RW.region (RL.ev rfl rfl (ah Vk rfl bu (by decide) rfl) (RL.ev rfl rfl (aj UU rfl rfl (hN.aA 0 rfl) rfl) (RL.ev rfl rfl (bp rfl rfl) (RL.nil (ag ?_)))))
 refine RW.aN _ rfl (fun hE=>?_) (fun hE=>?_)
 refine RW.seq (RW.region (RL.ev rfl rfl (aG (cs:=[x3,.int .i64 ((bO s (1000000)).1.2)]) Vk rfl cJ rfl (hN.aA 0 rfl)) (RL.ev rfl rfl (bh (cs:=[x3,.int .i64 ((bO s (1000000)).1.2),.int .i64 (1)]) Vp dN (places:=#[(0,2),(2,1)]) (by intro w;kernel_rfl) (pl:=[(0,.tmp 15),(1,.const (.int .i64 (1)))]) rfl (ps:=[(0,.agg #[x3,.int .i64 ((bO s (1000000)).1.2)]),(1,.int .i64 (1))]) rfl (zc:=[.slice none 0 0,.int .i64 (0),.int .i64 (0)]) rfl (aP (vs:=[x3,.int .i64 ((bO s (1000000)).1.2)]) rfl rfl (US rfl) (aP (vs:=[.int .i64 (1)]) rfl rfl (US rfl) rfl))) ?_)))
 refine RL.op rfl rfl (aC (vs:=[x3,.int .i64 ((bO s (1000000)).1.2),.int .i64 (1)]) cz rfl rfl rfl (by intro u hu;simp only[U9,U2,or_false]at hu;rcases hu with rfl|rfl|rfl<;>first|rfl|exact(lH.1.ext hN.aE).bJ) hN 2 rfl rfl ?_)
 clear hN
 intro w6 (hN:ak w none_ w6 [_,_,_,_])
 refine RL.ev (v:=.slice none 0 0) rfl rfl aa (RL.nil (ag (RW.ret (aD (aL (RV.bV rfl rfl (bI (hN.aA 2 rfl) Vp rfl cz)) ?_)))))
 rw[DV hE]at e
 cases e
 exact⟨_,_,rfl,lH.ext hN.aE,(hN.cj vi 3).dA 0 rfl,hN.aE⟩
 refine RW.skip (ag (RW.seq (RW.region (RL.ev rfl rfl (aG (cs:=[x3,.int .i64 ((bO s (1000000)).1.2)]) Vk rfl cJ rfl (hN.aA 0 rfl)) (RL.ev rfl rfl (ah Vp rfl bu (by decide) rfl) (RL.ev rfl rfl (aj UU rfl rfl (hN.aA 3 rfl) rfl) (RL.ev rfl rfl (bh (cs:=[x3,.int .i64 ((bO s (1000000)).1.2),.int .i64 (bd)]) Vp dN (places:=#[(0,2),(2,1)]) (by intro w;kernel_rfl) (pl:=[(0,.tmp 17),(1,.tmp 19)]) rfl (ps:=[(0,.agg #[x3,.int .i64 ((bO s (1000000)).1.2)]),(1,.int .i64 (bd))]) rfl (zc:=[.slice none 0 0,.int .i64 (0),.int .i64 (0)]) rfl (aP (vs:=[x3,.int .i64 ((bO s (1000000)).1.2)]) rfl rfl (US rfl) (aP (vs:=[.int .i64 (bd)]) rfl rfl (US rfl) rfl))) (RL.ev (v:=y3) rfl rfl U ?_))))))))
 refine RL.op rfl rfl (aC (vs:=[x3,.int .i64 ((bO s (1000000)).1.2),.int .i64 (bd)]) cz rfl rfl rfl (by intro u hu;simp only[U9,U2,or_false]at hu;rcases hu with rfl|rfl|rfl<;>first|rfl|exact(lH.1.ext hN.aE).bJ) hN 2 rfl rfl ?_)
 clear hN
 intro w7 (hN:ak w none_ w7 [_,_,_,_])
 refine RL.ev (v:=y3) rfl rfl aa (RL.nil (ag (RW.ret (aL (RV.bV rfl rfl (bI (hN.aA 2 rfl) Vp rfl cz)) ?_))))
 rw[Ha (Vi.1 hE)]at e
 cases e
 exact⟨_,_,rfl,lH.ext hN.aE,hN.dA 1 rfl,hN.aE⟩
theorem jW (b:Nat) (v:Value) (s:St) (bd:Int) (n:Nat) (w:World) (hB:jD vb b w v s.1) (kS:b≤w.heap.size) {s1:St} {b1:Int} {l1:List (List Int)} (e:dK n (s,bd)=((s1,b1),l1)) (hn:n≤1048576):al UY 117 #[.agg #[v,.int .i64 s.2,.int .i64 bd],.int .i64 (n:Int)] w fun r w'=>∃x y hs,r=.tuple #[.agg #[x,.int .i64 s1.2,.int .i64 b1],y]∧jD vb b w' x s1.1∧ak w none_ w' [.own vh 25 y hs,.dT vi hs l1]:=by
 refine al.start Y8 rfl (US rfl) ?_
 rw[cc]
 have hN:=ak.nil w none_
 refine RW.seq (RW.region ?_)
 refine RL.op rfl rfl (bq (cs:=[v,.int .i64 (s.2),.int .i64 (bd)]) rfl rfl hN ?_)
 clear hN
 intro g1 w1 (hN:ak w none_ w1 [_])
 refine RL.op rfl rfl (aX (cs:=[.slice none 0 0,.int .i64 (0),.int .i64 (0)]) dN rfl hN ?_)
 clear hN
 intro g2 w2 (hN:ak w none_ w2 [_,_])
 refine RL.ev (v:=.slice none 0 0) rfl rfl aa (RL.nil (ag (RW.seq (RW.region (RL.ev (v:=.slice none 0 0) rfl rfl aa ?_)))))
 replace hN:=hN.fg vi
 replace hN:=hN.cj vh 25
 replace hN:ak w none_ w2 [.own vh 25 (.slice none 0 0) ([]),.dT vi ([]) ([]),.aA g2 [.slice none 0 0,.int .i64 (0),.int .i64 (0)] 175,.aA g1 [v,.int .i64 (s.2),.int .i64 (bd)] 175]:=hN
 refine RL.nil (ag ?_)
 iterate 2 refine RW.seq ?_
 refine RW.region (RL.ev (v:=.int .i64 (0)) rfl rfl aa (RL.nil (ag (RW.block ?_))))
 refine RW.loop (fun k R0 bT=>∃x:Value,∃st:St,∃bl:Int,∃ls:List (List Int),∃vo:Value,∃hs:List Hd,∃i:Nat,R0 1=.int .i64 ((n:Int))∧R0 2=.pointer (some ⟨g1,0,none⟩)∧R0 4=.pointer (some ⟨g2,0,none⟩)∧R0 6=vo∧R0 7=.int .i64 ((i:Int))∧ak w none_ bT [.own vh 25 (vo) (hs),.dT vi (hs) (ls),.aA g2 [.slice none 0 0,.int .i64 (0),.int .i64 (0)] 175,.aA g1 [x,.int .i64 (st.2),.int .i64 (bl)] 175]∧(i+k=n)∧(dK i (s,bd)=((st,bl),ls))∧(jD vb b w x st.1)∧(hs.length=i)) (n) ?_ ?_
 exact⟨v,s,bd,[],.slice none 0 0,[],0,rfl,rfl,rfl,rfl,rfl,hN,by omega,rfl,hB,rfl⟩
 clear hN
 rintro k R0 bT ⟨x,st,bl,ls,vo,hs,i,bw,bF,cg,dd,cd,hN,eR,yD,Kb,mj⟩
 have bY:∃b6,R0=(aZ (aZ (aZ (aZ (aZ b6 1 _) 2 _) 4 _) 6 _) 7 _):=⟨R0,by rw[ai bw,ai bF,ai cg,ai dd,ai cd]⟩
 obtain⟨b6,rfl⟩:=bY
 clear bw bF cg dd cd
 iterate 2 refine RW.seq ?_
 refine RW.region (RL.ev (v:=.int .i64 ((i:Int))) rfl rfl U (RL.ev (v:=.int .i64 ((n:Int))) rfl rfl U (RL.ev rfl rfl (aV rfl rfl) (RL.nil (ag ?_)))))
 refine RW.aN _ rfl (fun bW=>?_) (fun bW=>?_)
 refine RW.skip (ag (RW.seq (RW.block (RW.seq (RW.region (RL.ev rfl rfl (aG (cs:=[x,.int .i64 (st.2),.int .i64 (bl)]) Vp rfl cz rfl (hN.aA 3 rfl)) ?_))))))
 have gV:∃s1 b1 l1,dz (st,bl)=((s1,b1),l1):=⟨_,_,_,rfl⟩
 obtain⟨ta,zt,Hy,tb⟩:=gV
 have wF:=fw (st,bl)
 rw[tb]at wF
 have wG:=lO (st,bl)
 rw[tb]at wG
 dsimp only at wF wG
 refine RL.op rfl rfl (aM Y7 rfl rfl rfl ((kI b _ st bl _ (Kb.ext hN.aE) (Vf kS hN.size) tb).mono ?_))
 rintro _ w3 ⟨x3,y3,rfl,lH,D4,aW⟩
 have fo:=hN.bx D4 aW
 replace lH:=lH.back fo.aE kS
 clear D4 aW
 clear hN
 have hN:ak w none_ w3 [_,_,_,_,_]:=fo
 clear fo
 refine RL.ev (v:=.tuple #[.agg #[x3,.int .i64 (ta.2),.int .i64 (zt)],y3]) rfl rfl U ?_
 iterate 2 refine RL.ev rfl rfl (bg rfl rfl) ?_
 refine RL.op rfl rfl (aX (cs:=[.slice none 0 0,.int .i64 (0),.int .i64 (0)]) dN rfl hN ?_)
 clear hN
 intro g4 w4 (hN:ak w none_ w4 [_,_,_,_,_,_])
 refine RL.op rfl rfl (aC (vs:=[x3,.int .i64 (ta.2),.int .i64 (zt)]) cz rfl rfl rfl (by intro u hu;simp only[U9,U2,or_false]at hu;rcases hu with rfl|rfl|rfl<;>first|rfl|exact(lH.1.ext hN.aE).bJ) hN 0 rfl rfl ?_)
 clear hN
 intro w5 (hN:ak w none_ w5 [_,_,_,_,_,_])
 refine RL.ev (v:=y3) rfl rfl aa (RL.nil (ag (RW.seq (RW.region (RL.ev rfl rfl (aG (cs:=[x3,.int .i64 (ta.2),.int .i64 (zt)]) Vp rfl cz rfl (hN.aA 0 rfl)) ?_)))))
 refine RL.op rfl rfl (aC (vs:=[x3,.int .i64 (ta.2),.int .i64 (zt)]) cz rfl rfl rfl (by intro u hu;simp only[U9,U2,or_false]at hu;rcases hu with rfl|rfl|rfl<;>first|rfl|exact(lH.1.ext hN.aE).bJ) hN 5 rfl rfl ?_)
 clear hN
 intro w6 (hN:ak w none_ w6 [_,_,_,_,_,_])
 refine RL.nil (ag (RW.region (RL.ev (v:=vo) rfl rfl U (RL.ev (v:=y3) rfl rfl U ?_))))
 have aw:=(hN.sl 1 rfl).hd
 obtain⟨h8,eM⟩:=aw
 subst eM
 refine RL.op rfl rfl (bS (enc:=vh) (l:=[h8]) (xs:=[.tmp 22]) U7 b7 BJ rfl rfl (fun _=>rfl) rfl (by decide) (by decide) hN ?_)
 clear hN
 intro g7 w7 (hN:ak w none_ w7 [_,_,_,_,_,_,_])
 replace hN:ak w none_ w7 [_,_,_,_,_,_]:=ak.kV (L:=[_,_,_,_,_,_]) (hN.sub [2,0,1,3,4,5,6] (by decide) rfl) 3 rfl
 refine RL.op rfl rfl (bD U7 yh rfl jT hN 2 rfl rfl (hN.sl 0 rfl) rfl (by(try simp only[UX,Vs,Vt,Vc,U6,U3,Vw,UX,Vl]);omega) (by decide) ?_)
 clear hN
 intro v9 w9 (hN:ak w none_ w9 [_,_,_,_,_,_])
 refine RL.ev (v:=v9) rfl rfl aa (RL.nil (a7 (ag (RW.region (RL.ev (v:=.int .i64 ((i:Int))) rfl rfl U (RL.ev rfl rfl (an rfl rfl rfl (bc (by omega) (by omega))) (RL.ev (v:=.int .i64 ((i:Int)+1)) rfl rfl aa (RL.nil (ag ?_)))))))))
 exact⟨k-1,by omega,x3,ta,zt,ls++[Hy],v9,hs++[h8],i+1,rfl,rfl,rfl,rfl,rfl,(hN.sub [2,3,4,5] (by decide) rfl),by omega,by rw[zE,yD];simp only[tb],lH,by rw[UX,mj];rfl⟩
 refine RW.exit ?_
 iterate 2 refine bm ?_
 refine aO (ag (RW.seq (RW.region (RL.ev rfl rfl (aG (cs:=[x,.int .i64 (st.2),.int .i64 (bl)]) Vp rfl cz rfl (hN.aA 3 rfl)) (RL.ev (v:=vo) rfl rfl U ?_)))))
 refine RL.op rfl rfl (aC (vs:=[x,.int .i64 (st.2),.int .i64 (bl)]) cz rfl rfl rfl (by intro u hu;simp only[U9,U2,or_false]at hu;rcases hu with rfl|rfl|rfl<;>first|rfl|exact(Kb.1.ext hN.aE).bJ) hN 2 rfl rfl ?_)
 clear hN
 intro jH (hN:ak w none_ jH [_,_,_,_])
 refine RL.ev (v:=vo) rfl rfl aa (RL.nil (ag (RW.ret (aL (RV.bV rfl rfl (bI (hN.aA 2 rfl) Vp rfl cz)) ?_))))
 obtain rfl:i=n:=by omega
 rw[yD]at e
 cases e
 exact⟨_,_,_,rfl,Kb.ext hN.aE,hN.sub [0,1] (by decide) rfl⟩
theorem F0 {s:St} {bd bl:Int} {ls:List (List Int)} {i:Nat} (hi:ls.length≤i) (h:(bl=bd∧∀r∈ls.take i,r.length=(ls.headD []).length)∨(bl=1∧¬u9 ls)):bl=(cU (s,bd) ls).2:=by
  unfold cU
  rcases h with⟨rfl,h⟩|⟨rfl,h⟩
  · rw [Vo hi] at h
    rw[if_pos (show u9 ls from h)]
  · rw[if_neg h]
theorem jX (v:Value) (s:St) (bd:Int) (lv:Value) (hs:List Hd) (ls:List (List Int)) (w:World) (hv:Sl vb w v s.1) (h1:Sl vh w lv hs) (ef:ep none_ vi w hs ls):al UY 118 #[.agg #[v,.int .i64 s.2,.int .i64 bd],lv] w fun r w'=>r=.agg #[v,.int .i64 s.2,.int .i64 (cU (s,bd) ls).2]∧Ext w w':=by
 refine al.start Y9 rfl (US rfl) ?_
 rw[cc]
 have hN:=ak.nil w none_
 have Cy:=ef.1
 refine RW.seq (RW.region ?_)
 refine RL.op rfl rfl (bq (cs:=[v,.int .i64 (s.2),.int .i64 (bd)]) rfl rfl hN ?_)
 clear hN
 intro g1 w1 (hN:ak w none_ w1 [_])
 refine RL.op rfl rfl (aX (cs:=[.slice none 0 0,.int .i64 (0),.int .i64 (0)]) dN rfl hN ?_)
 clear hN
 intro g2 w2 (hN:ak w none_ w2 [_,_])
 refine RL.nil (ag ?_)
 iterate 2 refine RW.seq ?_
 refine RW.region (RL.ev (v:=.int .i64 (0)) rfl rfl aa (RL.nil (ag (RW.block ?_))))
 refine RW.loop (fun k R0 bT=>∃bl:Int,∃i:Nat,R0 1=lv∧R0 2=.pointer (some ⟨g1,0,none⟩)∧R0 4=.pointer (some ⟨g2,0,none⟩)∧R0 5=.int .i64 ((i:Int))∧ak w none_ bT [.aA g2 [.slice none 0 0,.int .i64 (0),.int .i64 (0)] 175,.aA g1 [v,.int .i64 (s.2),.int .i64 (bl)] 175]∧(i+k=ls.length)∧((bl=bd∧∀r∈ls.take i,r.length=(ls.headD []).length)∨(bl=1∧¬u9 ls))) (ls.length) ?_ ?_
 exact⟨bd,0,rfl,rfl,rfl,rfl,hN,by omega,.inl ⟨rfl,fun r hr=>by cases hr⟩⟩
 clear hN
 rintro k R0 bT ⟨bl,i,bw,bF,cg,bM,hN,eR,HQ⟩
 have bY:∃b6,R0=(aZ (aZ (aZ (aZ b6 1 _) 2 _) 4 _) 5 _):=⟨R0,by rw[ai bw,ai bF,ai cg,ai bM]⟩
 obtain⟨b6,rfl⟩:=bY
 clear bw bF cg bM
 iterate 2 refine RW.seq ?_
 refine RW.region (RL.ev (v:=.int .i64 ((i:Int))) rfl rfl U (RL.ev (v:=lv) rfl rfl U ?_))
 have mQ:=(h1.ext hN.aE).aY
 refine RL.ev rfl rfl (aQ U7 (h1.ext hN.aE) rfl) (RL.ev rfl rfl (aV rfl rfl) (RL.nil (ag ?_)))
 refine RW.aN _ rfl (fun bW=>?_) (fun bW=>?_)
 refine RW.skip (ag (RW.seq (RW.block (RW.seq ?_))))
 replace hN:=hN.ext (Ext.drew bT)
 refine RW.cb rfl (fun u=>ak w none_ u [.aA g2 [.slice none 0 0,.int .i64 (0),.int .i64 (0)] 175,.aA g1 [v,.int .i64 (s.2),.int .i64 (bl)] 175]) 10 [(0,0),(1,0),(2,0),(3,0),(4,0),(5,0),(6,0),(7,0),(8,0),(9,0)] (by intro _ _ _ h;exact h) (by kernel_rfl) hN (RQ.ev (v:=lv) rfl rfl (fun w hS=>U) (RQ.ev (v:=.int .i64 ((i:Int))) rfl rfl (fun w hS=>U) (RQ.ev rfl rfl (fun w hS=>(aB U7 b7 (h1.ext hS.aE) rfl rfl (by omega) (by omega))) ?_)))
 have aw:∃a_,(hs)[i]?=some a_:=⟨_,UT (by omega)⟩
 obtain⟨ay,lI⟩:=aw
 have aw:∃l_,(ls)[i]?=some l_:=⟨_,UT (by have:=ef.1;omega)⟩
 obtain⟨ly,oN⟩:=aw
 refine RQ.ev rfl rfl (fun w hS=>(aF (m:=i) (a:=ay) UW rfl (h1.ext hS.aE) rfl lI)) ?_
 have qn:=((ef.2 _ _ _ lI oN).1.ext hN.aE).aY
 refine RQ.ev rfl rfl (fun w hS=>(aQ UW ((ef.2 _ _ _ lI oN).1.ext hS.aE) rfl)) (RQ.ev (v:=lv) rfl rfl (fun w hS=>U) (RQ.ev rfl rfl (fun w hS=>(aB U7 b7 (h1.ext hS.aE) rfl rfl (by omega) (by omega))) ?_))
 have aw:∃a_,(hs)[0]?=some a_:=⟨_,UT (by omega)⟩
 obtain⟨az,jS⟩:=aw
 have aw:∃l_,(ls)[0]?=some l_:=⟨_,UT (by have:=ef.1;omega)⟩
 obtain⟨lz,oM⟩:=aw
 refine RQ.ev rfl rfl (fun w hS=>(aF (m:=0) (a:=az) UW rfl (h1.ext hS.aE) rfl jS)) ?_
 have pd:=((ef.2 _ _ _ jS oM).1.ext hN.aE).aY
 refine RQ.ev rfl rfl (fun w hS=>(aQ UW ((ef.2 _ _ _ jS oM).1.ext hS.aE) rfl)) (RQ.ev rfl rfl (fun w hS=>(bp rfl rfl)) (RQ.done (by kernel_rfl) (ag ?_)))
 refine RW.aN _ rfl (fun di=>?_) (fun di=>?_)
 refine RW.region (RL.ev rfl rfl (ah Vp rfl bu (by decide) rfl) ?_)
 refine RL.op rfl rfl (b9 bu rfl rfl rfl rfl hN 1 rfl (US rfl) ?_)
 clear hN
 intro w6 (hN:ak w none_ w6 [_,_])
 refine RL.nil (a7 (ag (RW.region (RL.ev (v:=.int .i64 ((i:Int))) rfl rfl U (RL.ev rfl rfl (an rfl rfl rfl (bc (by omega) (by omega))) (RL.ev (v:=.int .i64 ((i:Int)+1)) rfl rfl aa (RL.nil (ag ?_))))))))
 exact⟨k-1,by omega,1,i+1,rfl,rfl,rfl,rfl,hN,by omega,.inr ⟨rfl,fun h_=>di (by have:=h_ _ (UZ oN);rw[kR oM]at this;omega)⟩⟩
 refine RW.skip (a7 (ag (RW.region (RL.ev (v:=.int .i64 ((i:Int))) rfl rfl U (RL.ev rfl rfl (an rfl rfl rfl (bc (by omega) (by omega))) (RL.ev (v:=.int .i64 ((i:Int)+1)) rfl rfl aa (RL.nil (ag ?_))))))))
 exact⟨k-1,by omega,bl,i+1,rfl,rfl,rfl,rfl,hN,by omega,HQ.elim (fun h_=>.inl ⟨h_.1,fun r hr=>(cT oN hr).elim (h_.2 r) (fun e=>e▸by rw[kR oM];omega)⟩) .inr⟩
 refine RW.exit ?_
 iterate 2 refine bm ?_
 refine aO (ag (RW.seq (RW.region (RL.ev rfl rfl (aG (cs:=[v,.int .i64 (s.2),.int .i64 (bl)]) Vp rfl cz rfl (hN.aA 1 rfl)) ?_))))
 refine RL.op rfl rfl (aC (vs:=[v,.int .i64 (s.2),.int .i64 (bl)]) cz rfl rfl rfl (by intro u hu;simp only[U9,U2,or_false]at hu;rcases hu with rfl|rfl|rfl<;>first|rfl|exact(hv.ext hN.aE).bJ) hN 0 rfl rfl ?_)
 clear hN
 intro w7 (hN:ak w none_ w7 [_,_])
 refine RL.nil (ag (RW.ret (aL (RV.cell rfl rfl (hN.aA 0 rfl) Vp rfl cz) ?_)))
 rw[←F0 (s:=s) (i:=i) (by omega) HQ]
 exact⟨rfl,hN.aE⟩
theorem jY (v:Value) (s:St) (bd:Int) (w:World) (hv:Sl vb w v s.1):al UY 119 #[.agg #[v,.int .i64 s.2,.int .i64 bd]] w fun r w'=>r=.bool (decide (fE (s,bd)))∧Ext w w':=by
 refine al.start Za rfl (US rfl) ?_
 rw[bL]
 have hN:=ak.nil w none_
 refine RW.seq (RW.region ?_)
 refine RL.op rfl rfl (bq (cs:=[v,.int .i64 (s.2),.int .i64 (bd)]) rfl rfl hN ?_)
 clear hN
 intro g1 w1 (hN:ak w none_ w1 [_])
 refine RL.ev (v:=.bool false) rfl rfl aa (RL.nil (ag (RW.seq (RW.region (RL.ev rfl rfl (ah Vp rfl bu (by decide) rfl) (RL.ev rfl rfl (aj UU rfl rfl (hN.aA 0 rfl) rfl) (RL.ev rfl rfl (cI rfl rfl) (RL.ev (v:=.bool (decide (bd=0))) rfl rfl U ?_))))))))
 by_cases hb:bd=0
 rw[decide_eq_true hb]
 refine RL.aI rfl rfl (by decide) rfl rfl (ah Vp rfl cJ (by decide) rfl) (RL.aI rfl rfl (by decide) rfl rfl (cr (cs:=[v,.int .i64 (s.2),.int .i64 (bd)]) (j:=0) (m:=2) Vk rfl cJ rfl (hN.aA 0 rfl) (US rfl)) ?_)
 refine RL.on rfl rfl (by decide) rfl rfl (aM abJ rfl rfl rfl ((vM _ s _ (hv.ext hN.aE)).mono ?_))
 rintro _ w2 ⟨rfl,aW⟩
 replace hN:=hN.ext aW
 clear aW
 refine RL.aI rfl rfl (by decide) rfl rfl (cI rfl rfl) (RL.ev (v:=.bool (decide ((jx s)=0))) rfl rfl (ao rfl) (RL.ev (v:=.bool (decide ((jx s)=0))) rfl rfl aa (RL.nil (ag (RW.ret (aL (RV.tmp rfl) ?_))))))
 exact⟨congrArg Vd (decide_eq_decide.2 ⟨fun h=>⟨hb,h⟩,fun h=>h.2⟩),hN.aE⟩
 rw[decide_eq_false hb]
 iterate 4 refine RL.off rfl rfl (by decide) rfl rfl ?_
 refine RL.ev (v:=.bool false) rfl rfl (aH rfl) (RL.ev (v:=.bool false) rfl rfl aa (RL.nil (ag (RW.ret (aL (RV.tmp rfl) ?_)))))
 exact⟨congrArg Vd (by rw[decide_eq_false (fun h=>hb h.1)]),hN.aE⟩
end Go.Proofs.YtngkdkbpgoddlaaGreat
namespace Go.Proofs.YtngkdkbpgoddlaaGreat
open Go.RowKit Go.Rl
open Go.Gr Go.cP Go.hO
theorem rS {l:List Int} (h:¬l.length=1):qe l=none:=by
  unfold qe
  split
  · exact absurd rfl h
  · rfl
theorem rT {x:Int} {l:List Int} (hl:l.length=1) (hx:l[0]?=some x) (h:x<0∨1000<x):qe l=none:=by
  match l,hl,hx with
  |[y],_,hx=>cases hx;unfold qe;simp only;rw[if_pos h]
theorem Hk {x:Int} {l:List Int} (hl:l.length=1) (hx:l[0]?=some x) (h:¬(x<0∨1000<x)):qe l=some x.toNat:=by
  match l,hl,hx with
  |[y],_,hx=>cases hx;unfold qe;simp only;rw[if_neg h]
theorem nH {t:RT} {each:Nat} {s1:St} {b1:Int} {l1:List Int} (hM:dz t=((s1,b1),l1)) (h:qe l1=none):bH t each=((s1,1),[]):=by
  unfold bH;rw[hM];simp only[h]
theorem CR {t:RT} {each n:Nat} {s1:St} {b1:Int} {l1:List Int} (hM:dz t=((s1,b1),l1)) (h:qe l1=some n):bH t each=dK (each*n) (s1,b1):=by
  unfold bH;rw[hM];simp only[h]
theorem F4 {each:Nat} {x:Int} (he:each≤2) (h0:0≤x) (h1:x≤1000):arith .mul .i64 (each:Int) x=((each*x.toNat:Nat):Int):=by
  obtain⟨n,rfl⟩:∃n:Nat,x=(n:Int):=⟨x.toNat,by omega⟩
  have h:each=0∨each=1∨each=2:=by omega
  rcases h with rfl|rfl|rfl
  · rw[rX (by omega) (by omega)];simp
  · rw[rX (by omega) (by omega)];simp
  · rw[rX (by omega) (by omega)];simp
theorem H4 {each:Nat} {x:Int} (he:each≤2) (h0:0≤x) (h1:x≤1000):each*x.toNat≤1048576:=by
  have h:each=0∨each=1∨each=2:=by omega
  rcases h with rfl|rfl|rfl<;>omega
theorem fx (b:Nat) (v:Value) (s:St) (bd:Int) (each:Nat) (w:World) (hB:jD vb b w v s.1) (kS:b≤w.heap.size) {s1:St} {b1:Int} {l1:List (List Int)} (e:bH (s,bd) each=((s1,b1),l1)) (he:each≤2):al UY 121 #[.agg #[v,.int .i64 s.2,.int .i64 bd],.int .i64 (each:Int)] w fun r w'=>∃x y hs,r=.tuple #[.agg #[x,.int .i64 s1.2,.int .i64 b1],y]∧jD vb b w' x s1.1∧ak w none_ w' [.own vh 25 y hs,.dT vi hs l1]:=by
 refine al.start XP rfl (US rfl) ?_
 rw[cc]
 have hN:=ak.nil w none_
 refine RW.seq (RW.region ?_)
 refine RL.op rfl rfl (bq (cs:=[v,.int .i64 (s.2),.int .i64 (bd)]) rfl rfl hN ?_)
 clear hN
 intro g1 w1 (hN:ak w none_ w1 [_])
 refine RL.op rfl rfl (aX (cs:=[.slice none 0 0,.int .i64 (0),.int .i64 (0)]) dN rfl hN ?_)
 clear hN
 intro g2 w2 (hN:ak w none_ w2 [_,_])
 refine RL.ev (v:=.slice none 0 0) rfl rfl aa (RL.nil (ag (RW.seq (RW.region (RL.ev rfl rfl (aG (cs:=[v,.int .i64 (s.2),.int .i64 (bd)]) Vp rfl cz rfl (hN.aA 1 rfl)) ?_)))))
 have gV:∃s1 b1 l1,dz (s,bd)=((s1,b1),l1):=⟨_,_,_,rfl⟩
 obtain⟨ta,zt,Hy,tb⟩:=gV
 have wF:=fw (s,bd)
 rw[tb]at wF
 have wG:=lO (s,bd)
 rw[tb]at wG
 dsimp only at wF wG
 refine RL.op rfl rfl (aM Y7 rfl rfl rfl ((kI b _ s bd _ (hB.ext hN.aE) (Vf kS hN.size) tb).mono ?_))
 rintro _ w3 ⟨x3,y3,rfl,lH,D4,aW⟩
 have fo:=hN.bx D4 aW
 replace lH:=lH.back fo.aE kS
 clear D4 aW
 clear hN
 have hN:ak w none_ w3 [_,_,_]:=fo
 clear fo
 refine RL.ev (v:=.tuple #[.agg #[x3,.int .i64 (ta.2),.int .i64 (zt)],y3]) rfl rfl U ?_
 iterate 2 refine RL.ev rfl rfl (bg rfl rfl) ?_
 refine RL.op rfl rfl (aX (cs:=[.slice none 0 0,.int .i64 (0),.int .i64 (0)]) dN rfl hN ?_)
 clear hN
 intro g4 w4 (hN:ak w none_ w4 [_,_,_,_])
 refine RL.op rfl rfl (aC (vs:=[x3,.int .i64 (ta.2),.int .i64 (zt)]) cz rfl rfl rfl (by intro u hu;simp only[U9,U2,or_false]at hu;rcases hu with rfl|rfl|rfl<;>first|rfl|exact(lH.1.ext hN.aE).bJ) hN 0 rfl rfl ?_)
 clear hN
 intro w5 (hN:ak w none_ w5 [_,_,_,_])
 refine RL.ev (v:=y3) rfl rfl aa (RL.nil (ag ?_))
 iterate 2 refine RW.seq ?_
 by_cases Al:(Hy.length:Int)=1
 have QY:Hy.length=1:=by omega
 have aw:∃a_,Hy[0]?=some a_:=⟨_,UT (by omega)⟩
 obtain⟨ap,bG⟩:=aw
 refine RW.region (RL.ev (v:=y3) rfl rfl U ?_)
 have CF:=(hN.sl 1 rfl).aY
 refine RL.ev rfl rfl (aQ UW (hN.sl 1 rfl) rfl) (RL.ev rfl rfl (cm (bp rfl rfl) (fun h=>h Al)) (RL.ev (v:=.bool false) rfl rfl U (RL.aI (v:=y3) rfl rfl (by decide) rfl rfl U (RL.aI rfl rfl (by decide) rfl rfl (aB UW bu (hN.sl 1 rfl) rfl rfl (by omega) (by omega)) (RL.aI rfl rfl (by decide) rfl rfl (aF (m:=0) (a:=ap) UU rfl (hN.sl 1 rfl) rfl bG) (RL.aI rfl rfl (by decide) rfl rfl (aV rfl rfl) (RL.ev (v:=.bool (decide (ap<0))) rfl rfl (aH rfl) (RL.ev (v:=.bool (decide (ap<0))) rfl rfl U ?_))))))))
 by_cases yG:ap<0
 rw[decide_eq_true yG]
 iterate 4 refine RL.off rfl rfl (by decide) rfl rfl ?_
 refine RL.ev (v:=.bool true) rfl rfl (ao rfl) (RL.nil (ag (RW.bK rfl (RW.seq (RW.region (RL.ev rfl rfl (ah Vp rfl bu (by decide) rfl) ?_))))))
 refine RL.op rfl rfl (b9 bu rfl rfl rfl rfl hN 0 rfl (US rfl) ?_)
 clear hN
 intro w8 (hN:ak w none_ w8 [_,_,_,_])
 refine RL.nil (ag (RW.seq (RW.region (RL.ev rfl rfl (aG (cs:=[x3,.int .i64 (ta.2),.int .i64 (1)]) Vp rfl cz rfl (hN.aA 0 rfl)) ?_))))
 refine RL.op rfl rfl (aC (vs:=[x3,.int .i64 (ta.2),.int .i64 (1)]) cz rfl rfl rfl (by intro u hu;simp only[U9,U2,or_false]at hu;rcases hu with rfl|rfl|rfl<;>first|rfl|exact(lH.1.ext hN.aE).bJ) hN 2 rfl rfl ?_)
 clear hN
 intro w9 (hN:ak w none_ w9 [_,_,_,_])
 refine RL.ev (v:=.slice none 0 0) rfl rfl aa (RL.nil (ag (RW.ret (aD (aL (RV.bV rfl rfl (bI (hN.aA 2 rfl) Vp rfl cz)) ?_)))))
 rw[nH tb (by first|exact rS (by omega)|exact rT (by omega) bG (by omega))]at e
 cases e
 have fo:=(hN.fg vi).cj vh 25
 exact⟨_,_,_,rfl,lH.ext hN.aE,fo.sub [0,1] (by decide) rfl⟩
 rw[decide_eq_false yG]
 refine RL.aI (v:=y3) rfl rfl (by decide) rfl rfl U (RL.aI rfl rfl (by decide) rfl rfl (aB UW bu (hN.sl 1 rfl) rfl rfl (by omega) (by omega)) (RL.aI rfl rfl (by decide) rfl rfl (aF (m:=0) (a:=ap) UU rfl (hN.sl 1 rfl) rfl bG) (RL.aI rfl rfl (by decide) rfl rfl (cN rfl rfl) (RL.ev (v:=.bool (decide (1000<ap))) rfl rfl (aH rfl) (RL.nil (ag ?_))))))
 refine RW.aN _ rfl (fun Qd=>?_) (fun Qd=>?_)
 refine RW.seq (RW.region (RL.ev rfl rfl (ah Vp rfl bu (by decide) rfl) ?_))
 refine RL.op rfl rfl (b9 bu rfl rfl rfl rfl hN 0 rfl (US rfl) ?_)
 clear hN
 intro jj (hN:ak w none_ jj [_,_,_,_])
 refine RL.nil (ag (RW.seq (RW.region (RL.ev rfl rfl (aG (cs:=[x3,.int .i64 (ta.2),.int .i64 (1)]) Vp rfl cz rfl (hN.aA 0 rfl)) ?_))))
 refine RL.op rfl rfl (aC (vs:=[x3,.int .i64 (ta.2),.int .i64 (1)]) cz rfl rfl rfl (by intro u hu;simp only[U9,U2,or_false]at hu;rcases hu with rfl|rfl|rfl<;>first|rfl|exact(lH.1.ext hN.aE).bJ) hN 2 rfl rfl ?_)
 clear hN
 intro iP (hN:ak w none_ iP [_,_,_,_])
 refine RL.ev (v:=.slice none 0 0) rfl rfl aa (RL.nil (ag (RW.ret (aD (aL (RV.bV rfl rfl (bI (hN.aA 2 rfl) Vp rfl cz)) ?_)))))
 rw[nH tb (by first|exact rS (by omega)|exact rT (by omega) bG (by omega))]at e
 cases e
 have fo:=(hN.fg vi).cj vh 25
 exact⟨_,_,_,rfl,lH.ext hN.aE,fo.sub [0,1] (by decide) rfl⟩
 refine RW.skip (ag (RW.seq ?_))
 replace hN:=hN.ext (Ext.drew w5)
 refine RW.cb rfl (fun u=>ak w none_ u [.aA g4 [x3,.int .i64 (ta.2),.int .i64 (zt)] 175,.own vi 3 (y3) (Hy),.aA g1 [v,.int .i64 (s.2),.int .i64 (bd)] 175]) 11 [(0,0),(1,0),(2,0),(3,0),(4,0),(5,0),(6,1),(7,0),(8,0),(9,1),(10,0)] (by intro _ _ _ h;exact h) (by kernel_rfl) (hN.sub [0,1,3] (by decide) rfl) (RQ.ev rfl rfl (fun w hS=>(aG (cs:=[x3,.int .i64 (ta.2),.int .i64 (zt)]) Vp rfl cz rfl (hS.aA 0 rfl))) (RQ.ev (v:=.int .i64 ((each:Int))) rfl rfl (fun w hS=>U) (RQ.ev (v:=y3) rfl rfl (fun w hS=>U) (RQ.ev rfl rfl (fun w hS=>(aB UW bu (hS.sl 1 rfl) rfl rfl (by omega) (by omega))) (RQ.ev rfl rfl (fun w hS=>(aF (m:=0) (a:=ap) UU rfl (hS.sl 1 rfl) rfl bG)) (RQ.ev rfl rfl (fun w hS=>(show Ev _ _ _ _ (.int .i64 ((each*ap.toNat:Nat):Int))from an rfl rfl rfl (F4 he (by omega) (by omega)))) ?_))))))
 have gV:∃s1 b1 l1,dK (each*ap.toNat:Nat) (ta,zt)=((s1,b1),l1):=⟨_,_,_,rfl⟩
 obtain⟨LS,NL,OD,AE⟩:=gV
 have yP:=gA (each*ap.toNat:Nat) (ta,zt)
 rw[AE]at yP
 dsimp only at yP
 refine RQ.do rfl rfl (aR Y8 rfl rfl rfl rfl ((jW b _ ta zt (each*ap.toNat:Nat) _ (lH.ext hN.aE) (Vf kS hN.size) AE (H4 he (by omega) (by omega))).mono ?_))
 rintro _ lF ⟨Sy,Sx,O6,rfl,Hg,bE⟩
 have fo:=hN.dU bE
 replace Hg:=Hg.back fo.aE kS
 clear bE
 clear hN
 have hN:ak w none_ lF [_,_,_,_,_,_]:=fo
 clear fo
 refine⟨(hN.sub [2,3,5] (by decide) rfl),?_⟩
 iterate 2 refine RQ.ev rfl rfl (fun w hS=>(bg rfl rfl)) ?_
 refine RQ.do rfl rfl (aC (vs:=[Sy,.int .i64 (LS.2),.int .i64 (NL)]) cz rfl rfl rfl (by intro u hu;simp only[U9,U2,or_false]at hu;rcases hu with rfl|rfl|rfl<;>first|rfl|exact(Hg.1.ext hN.aE).bJ) hN 4 rfl rfl ?_)
 clear hN
 intro k9 (hN:ak w none_ k9 [_,_,_,_,_,_])
 refine⟨(hN.sub [2,3,5] (by decide) rfl),?_⟩
 refine RQ.ev (v:=Sx) rfl rfl (fun w hS=>aa) (RQ.done (by kernel_rfl) (ag (RW.ret (aL (RV.bV rfl rfl (bI (hN.aA 4 rfl) Vp rfl cz)) ?_))))
 rw[CR tb (Hk (by omega) bG (by omega)),AE]at e
 cases e
 exact⟨_,_,_,rfl,Hg.ext hN.aE,hN.sub [0,1] (by decide) rfl⟩
 refine RW.region (RL.ev (v:=y3) rfl rfl U ?_)
 have IZ:=(hN.sl 1 rfl).aY
 refine RL.ev rfl rfl (aQ UW (hN.sl 1 rfl) rfl) (RL.ev rfl rfl (cS (bp rfl rfl) Al) (RL.ev (v:=.bool true) rfl rfl U ?_))
 iterate 4 refine RL.off rfl rfl (by decide) rfl rfl ?_
 refine RL.ev (v:=.bool true) rfl rfl (ao rfl) (RL.ev (v:=.bool true) rfl rfl U ?_)
 iterate 4 refine RL.off rfl rfl (by decide) rfl rfl ?_
 refine RL.ev (v:=.bool true) rfl rfl (ao rfl) (RL.nil (ag (RW.bK rfl (RW.seq (RW.region (RL.ev rfl rfl (ah Vp rfl bu (by decide) rfl) ?_))))))
 refine RL.op rfl rfl (b9 bu rfl rfl rfl rfl hN 0 rfl (US rfl) ?_)
 clear hN
 intro uu (hN:ak w none_ uu [_,_,_,_])
 refine RL.nil (ag (RW.seq (RW.region (RL.ev rfl rfl (aG (cs:=[x3,.int .i64 (ta.2),.int .i64 (1)]) Vp rfl cz rfl (hN.aA 0 rfl)) ?_))))
 refine RL.op rfl rfl (aC (vs:=[x3,.int .i64 (ta.2),.int .i64 (1)]) cz rfl rfl rfl (by intro u hu;simp only[U9,U2,or_false]at hu;rcases hu with rfl|rfl|rfl<;>first|rfl|exact(lH.1.ext hN.aE).bJ) hN 2 rfl rfl ?_)
 clear hN
 intro vA (hN:ak w none_ vA [_,_,_,_])
 refine RL.ev (v:=.slice none 0 0) rfl rfl aa (RL.nil (ag (RW.ret (aD (aL (RV.bV rfl rfl (bI (hN.aA 2 rfl) Vp rfl cz)) ?_)))))
 rw[nH tb (by first|exact rS (by omega)|exact rT (by omega) bG (by omega))]at e
 cases e
 have fo:=(hN.fg vi).cj vh 25
 exact⟨_,_,_,rfl,lH.ext hN.aE,fo.sub [0,1] (by decide) rfl⟩
end Go.Proofs.YtngkdkbpgoddlaaGreat
namespace Go.Proofs.YtngkdkbpgoddlaaGreat
open Go.RowKit Go.Rl
open Go.Gr Go.cP Go.hO
theorem ky (s:St) (bd:Int) (ls:List (List Int)):cU (s,bd) ls=(s,(cU (s,bd) ls).2):=by
  unfold cU;split<;>rfl
theorem uK:∀(k:Nat) (ls:List (List Int)) (s:St) (bd:Int),ls.length≤k→∃b1 l1,df ls (s,bd)=((s,b1),l1):=by
  intro k
  induction k with
  |zero=>intro ls s bd h;rw[WM.1 (aaO.1 h)];exact⟨_,_,rfl⟩
  |succ k ih=>
    intro ls s bd h
    match ls,h with
    |[],_=>exact⟨_,_,rfl⟩
    |[a],_=>exact⟨_,_,rfl⟩
    |a::b::r,h=>
      obtain⟨b1,l1,e⟩:=ih r s (cU (s,bd) [a,b]).2 (by simp only[U6]at h;omega)
      unfold df
      rw[ky,e]
      exact⟨_,_,rfl⟩
theorem zS {ls:List (List Int)} {i:Nat} {a b:List Int} (t:RT) (ha:ls[i]?=some a) (hb:ls[i+1]?=some b):df (ls.drop i) t=((df (ls.drop (i+2)) (cU t [a,b])).1,pD a b::(df (ls.drop (i+2)) (cU t [a,b])).2):=by
  rw[nG ha,nG hb];rfl
theorem zT {ls:List (List Int)} {i:Nat} (t:RT) (h:¬i+1<ls.length):df (ls.drop i) t=(t,[]):=by
  have hl:(ls.drop i).length≤1:=by rw[Vt];omega
  match hq:ls.drop i,hl with
  |[],_=>rfl
  |[a],_=>rfl
theorem QB {ls:List (List Int)} {i n:Nat} {a b:List Int} (ha:ls[i]?=some a) (hb:ls[i+1]?=some b) (hn:n=i+2):(ls.take n).drop i=[a,b]:=by
  subst hn
  rw[abb,show i+2-i=2 by omega,nG ha,nG hb];rfl
theorem rM {ls:List (List Int)} {i n:Nat} {a b:List Int} {s:St} {bd bl:Int} {acc:List (List I2)} {pr:List I2} (h:df ls (s,bd)=((df (ls.drop i) (s,bl)).1,acc++(df (ls.drop i) (s,bl)).2)) (ha:ls[i]?=some a) (hb:ls[i+1]?=some b) (hn:n=i+2) (hp:pr=pD a b):
    df ls (s,bd)=((df (ls.drop (i+2)) (s,(cU (s,bl) ((ls.take n).drop i)).2)).1,(acc++[pr])++(df (ls.drop (i+2)) (s,(cU (s,bl) ((ls.take n).drop i)).2)).2):=by
  rw[h,zS _ ha hb,QB ha hb hn,←ky,hp]
  simp
theorem kh (v:Value) (s:St) (bd:Int) (lv:Value) (hs:List Hd) (ls:List (List Int)) (w:World) (hv:Sl vb w v s.1) (h1:Sl vh w lv hs) (ef:ep none_ vi w hs ls) {b1:Int} {l1:List (List I2)} (e:df ls (s,bd)=((s,b1),l1)) (wu:ls.length≤1048576) (hr:∀r∈ls,r.length≤1048576):al UY 122 #[.agg #[v,.int .i64 s.2,.int .i64 bd],lv] w fun r w'=>∃y gs,r=.tuple #[.agg #[v,.int .i64 s.2,.int .i64 b1],y]∧ak w none_ w' [.own vh 118 y gs,.ek bk gs l1]:=by
 refine al.start aax rfl (US rfl) ?_
 rw[cc]
 have hN:=ak.nil w none_
 have Cy:=ef.1
 refine RW.seq (RW.region ?_)
 refine RL.op rfl rfl (bq (cs:=[v,.int .i64 (s.2),.int .i64 (bd)]) rfl rfl hN ?_)
 clear hN
 intro g1 w1 (hN:ak w none_ w1 [_])
 refine RL.op rfl rfl (aX (cs:=[.slice none 0 0,.int .i64 (0),.int .i64 (0)]) dN rfl hN ?_)
 clear hN
 intro g2 w2 (hN:ak w none_ w2 [_,_])
 refine RL.ev (v:=.slice none 0 0) rfl rfl aa (RL.nil (ag (RW.seq (RW.region (RL.ev (v:=.slice none 0 0) rfl rfl aa ?_)))))
 replace hN:=hN.Bw bk
 replace hN:=hN.cj vh 118
 replace hN:ak w none_ w2 [.own vh 118 (.slice none 0 0) ([]),.ek bk ([]) ([]),.aA g2 [.slice none 0 0,.int .i64 (0),.int .i64 (0)] 175,.aA g1 [v,.int .i64 (s.2),.int .i64 (bd)] 175]:=hN
 refine RL.nil (ag ?_)
 iterate 2 refine RW.seq ?_
 refine RW.region (RL.ev (v:=.int .i64 (0)) rfl rfl aa (RL.nil (ag (RW.block ?_))))
 refine RW.loop (fun k R0 bT=>∃bl:Int,∃acc:List (List I2),∃vo:Value,∃gs:List Hd,∃i:Nat,R0 1=lv∧R0 2=.pointer (some ⟨g1,0,none⟩)∧R0 4=.pointer (some ⟨g2,0,none⟩)∧R0 6=vo∧R0 7=.int .i64 ((i:Int))∧ak w none_ bT [.own vh 118 (vo) (gs),.ek bk (gs) (acc),.aA g2 [.slice none 0 0,.int .i64 (0),.int .i64 (0)] 175,.aA g1 [v,.int .i64 (s.2),.int .i64 (bl)] 175]∧(i+k=ls.length)∧(df ls (s,bd)=((df (ls.drop i) (s,bl)).1,acc++(df (ls.drop i) (s,bl)).2))∧(gs.length≤i)) (ls.length) ?_ ?_
 exact⟨bd,[],.slice none 0 0,[],0,rfl,rfl,rfl,rfl,rfl,hN,by omega,by rw[abc,Wm],Vv _⟩
 clear hN
 rintro k R0 bT ⟨bl,acc,vo,gs,i,bw,bF,cg,dd,cd,hN,eR,yD,pS⟩
 have bY:∃b6,R0=(aZ (aZ (aZ (aZ (aZ b6 1 _) 2 _) 4 _) 6 _) 7 _):=⟨R0,by rw[ai bw,ai bF,ai cg,ai dd,ai cd]⟩
 obtain⟨b6,rfl⟩:=bY
 clear bw bF cg dd cd
 iterate 2 refine RW.seq ?_
 refine RW.region (RL.ev (v:=.int .i64 ((i:Int))) rfl rfl U (RL.ev rfl rfl (an rfl rfl rfl (bc (by omega) (by omega))) (RL.ev (v:=lv) rfl rfl U ?_)))
 have mQ:=(h1.ext hN.aE).aY
 refine RL.ev rfl rfl (aQ U7 (h1.ext hN.aE) rfl) (RL.ev rfl rfl (aV rfl rfl) (RL.nil (ag ?_)))
 refine RW.aN _ rfl (fun bW=>?_) (fun bW=>?_)
 refine RW.skip (ag (RW.seq (RW.block (RW.seq ?_))))
 have aw:∃a_,hs[i]?=some a_:=⟨_,UT (by omega)⟩
 obtain⟨ha,Lz⟩:=aw
 have aw:∃a_,hs[i+1]?=some a_:=⟨_,UT (by omega)⟩
 obtain⟨hb,Ly⟩:=aw
 have aw:∃a_,ls[i]?=some a_:=⟨_,UT (by omega)⟩
 obtain⟨la,wx⟩:=aw
 have aw:∃a_,ls[i+1]?=some a_:=⟨_,UT (by omega)⟩
 obtain⟨lb,tU⟩:=aw
 have Uw:=hr la (UZ wx)
 have Uv:=hr lb (UZ tU)
 replace hN:=hN.ext (Ext.drew bT)
 refine RW.cb rfl (fun u=>ak w none_ u [.own vh 118 (vo) (gs),.ek bk (gs) (acc),.aA g2 [.slice none 0 0,.int .i64 (0),.int .i64 (0)] 175,.aA g1 [v,.int .i64 (s.2),.int .i64 (bl)] 175]) 7 [(0,0),(1,0),(2,0),(3,0),(4,0),(5,0),(6,1),(7,2)] (by intro _ _ _ h;exact h) (by kernel_rfl) hN (RQ.ev rfl rfl (fun w hS=>(aG (cs:=[v,.int .i64 (s.2),.int .i64 (bl)]) Vp rfl cz rfl (hS.aA 3 rfl))) (RQ.ev (v:=lv) rfl rfl (fun w hS=>U) ?_))
 iterate 2 refine RQ.ev (v:=.int .i64 ((i:Int))) rfl rfl (fun w hS=>U) ?_
 refine RQ.ev rfl rfl (fun w hS=>(an rfl rfl rfl (bc (by omega) (by omega)))) (RQ.ev rfl rfl (fun w hS=>(K6 U7 b7 (h1.ext hS.aE) rfl rfl rfl (by omega) (by omega) (by omega))) ?_)
 refine RQ.do rfl rfl (aR Y9 rfl rfl rfl rfl ((jX _ s bl _ ((hs.take ((i:Int)+2).toNat).drop i) ((ls.take ((i:Int)+2).toNat).drop i) _ (hv.ext hN.aE) ((h1.ext hN.aE).cut (by omega) (by omega)) (((ef.ext hN.aE).take ((i:Int)+2).toNat).drop i)).mono ?_))
 rintro _ w4 ⟨rfl,aW⟩
 replace hN:=hN.ext aW
 clear aW
 refine⟨hN,?_⟩
 refine RQ.last rfl rfl (aC (vs:=[v,.int .i64 (s.2),.int .i64 ((cU (s,bl) ((ls.take ((i:Int)+2).toNat).drop i)).2)]) cz rfl rfl rfl (by intro u hu;simp only[U9,U2,or_false]at hu;rcases hu with rfl|rfl|rfl<;>first|rfl|exact(hv.ext hN.aE).bJ) hN 3 rfl rfl ?_)
 clear hN
 intro w5 (hN:ak w none_ w5 [_,_,_,_])
 refine RZ.done (by kernel_rfl) (ag (RW.seq (RW.region (RL.ev (v:=.slice none 0 0) rfl rfl aa (RL.nil (ag ?_))))))
 iterate 2 refine RW.seq ?_
 refine RW.region (RL.ev (v:=.int .i64 (0)) rfl rfl aa (RL.nil (ag (RW.block ?_))))
 replace hN:=hN.eK bk 2 135
 refine RW.loop (fun k2 R1 fI=>∃vr:Value,∃pr:List I2,∃p:Nat,R1 1=lv∧R1 2=.pointer (some ⟨g1,0,none⟩)∧R1 4=.pointer (some ⟨g2,0,none⟩)∧R1 6=vo∧R1 7=.int .i64 ((i:Int))∧R1 8=vr∧R1 9=.int .i64 ((p:Int))∧ak w none_ fI [.cV bk 2 135 (vr) (pr),.own vh 118 (vo) (gs),.ek bk (gs) (acc),.aA g2 [.slice none 0 0,.int .i64 (0),.int .i64 (0)] 175,.aA g1 [v,.int .i64 (s.2),.int .i64 ((cU (s,bl) ((ls.take ((i:Int)+2).toNat).drop i)).2)] 175]∧(p+k2=min la.length lb.length)∧(pr=(V0 p).map fun k=>((la[k]?).getD 0,(lb[k]?).getD 0))∧(pr.length=p)) (min la.length lb.length) ?_ ?_
 exact⟨.slice none 0 0,[],0,rfl,rfl,rfl,rfl,rfl,rfl,rfl,hN,by omega,rfl,rfl⟩
 clear hN
 rintro k2 R1 fI ⟨vr,pr,p,bw,bF,cg,dd,cd,cl,dc,hN,Pj,EC,GH⟩
 have bY:∃gY,R1=(aZ (aZ (aZ (aZ (aZ (aZ (aZ gY 1 _) 2 _) 4 _) 6 _) 7 _) 8 _) 9 _):=⟨R1,by rw[ai bw,ai bF,ai cg,ai dd,ai cd,ai cl,ai dc]⟩
 obtain⟨gY,rfl⟩:=bY
 clear bw bF cg dd cd cl dc
 iterate 2 refine RW.seq ?_
 refine RW.region (RL.ev (v:=.int .i64 ((p:Int))) rfl rfl U (RL.ev (v:=lv) rfl rfl U (RL.ev (v:=.int .i64 ((i:Int))) rfl rfl U (RL.ev rfl rfl (aB U7 b7 (h1.ext hN.aE) rfl rfl (by omega) (by omega)) (RL.ev rfl rfl (aF (m:=i) (a:=ha) UW rfl (h1.ext hN.aE) rfl Lz) ?_)))))
 have KU:=((ef.2 _ _ _ Lz wx).1.ext hN.aE).aY
 refine RL.ev rfl rfl (aQ UW ((ef.2 _ _ _ Lz wx).1.ext hN.aE) rfl) (RL.ev rfl rfl (aV rfl rfl) (RL.ev (v:=.bool (decide ((p:Int)<(la.length:Int)))) rfl rfl U ?_))
 by_cases Rt:(p:Int)<(la.length:Int)
 rw[decide_eq_true Rt]
 refine RL.aI (v:=.int .i64 ((p:Int))) rfl rfl (by decide) rfl rfl U (RL.aI (v:=lv) rfl rfl (by decide) rfl rfl U (RL.aI (v:=.int .i64 ((i:Int))) rfl rfl (by decide) rfl rfl U (RL.aI rfl rfl (by decide) rfl rfl (an rfl rfl rfl (bc (by omega) (by omega))) (RL.aI rfl rfl (by decide) rfl rfl (aB U7 b7 (h1.ext hN.aE) rfl rfl (by omega) (by omega)) (RL.aI rfl rfl (by decide) rfl rfl (aF (m:=((i:Int)+1).toNat) (a:=hb) UW rfl (h1.ext hN.aE) rfl (by rw[show((i:Int)+1).toNat=i+1 by omega];exact Ly)) ?_)))))
 have Bs:=((ef.2 _ _ _ Ly tU).1.ext hN.aE).aY
 refine RL.aI rfl rfl (by decide) rfl rfl (aQ UW ((ef.2 _ _ _ Ly tU).1.ext hN.aE) rfl) (RL.aI rfl rfl (by decide) rfl rfl (aV rfl rfl) (RL.ev (v:=.bool (decide ((p:Int)<(lb.length:Int)))) rfl rfl (ao rfl) (RL.nil (ag ?_))))
 refine RW.aN _ rfl (fun Tp=>?_) (fun Tp=>?_)
 refine RW.skip (ag (RW.seq (RW.block ?_)))
 replace hN:=hN.ext (Ext.drew fI)
 refine RW.cb rfl (fun u=>ak w none_ u [.own vh 118 (vo) (gs),.ek bk (gs) (acc),.aA g2 [.slice none 0 0,.int .i64 (0),.int .i64 (0)] 175,.aA g1 [v,.int .i64 (s.2),.int .i64 ((cU (s,bl) ((ls.take ((i:Int)+2).toNat).drop i)).2)] 175]) 20 [(0,0),(1,0),(2,0),(3,0),(4,0),(5,0),(6,0),(7,0),(8,0),(9,0),(10,0),(11,0),(12,0),(13,0),(14,0),(15,0),(16,0),(17,1),(18,1),(19,0)] (by intro _ _ _ h;exact h) (by kernel_rfl) (hN.sub [1,2,3,4] (by decide) rfl) (RQ.ev (v:=vr) rfl rfl (fun w hS=>U) (RQ.ev (v:=lv) rfl rfl (fun w hS=>U) (RQ.ev (v:=.int .i64 ((i:Int))) rfl rfl (fun w hS=>U) (RQ.ev rfl rfl (fun w hS=>(aB U7 b7 (h1.ext hS.aE) rfl rfl (by omega) (by omega))) (RQ.ev rfl rfl (fun w hS=>(aF (m:=i) (a:=ha) UW rfl (h1.ext hS.aE) rfl Lz)) (RQ.ev (v:=.int .i64 ((p:Int))) rfl rfl (fun w hS=>U) (RQ.ev rfl rfl (fun w hS=>(aB UW bu ((ef.2 _ _ _ Lz wx).1.ext hS.aE) rfl rfl (by omega) (by omega))) ?_)))))))
 have aw:∃a_,(la)[p]?=some a_:=⟨_,UT (by omega)⟩
 obtain⟨ax,Br⟩:=aw
 refine RQ.ev rfl rfl (fun w hS=>(aF (m:=p) (a:=ax) UU rfl ((ef.2 _ _ _ Lz wx).1.ext hS.aE) rfl Br)) (RQ.ev (v:=lv) rfl rfl (fun w hS=>U) (RQ.ev (v:=.int .i64 ((i:Int))) rfl rfl (fun w hS=>U) (RQ.ev rfl rfl (fun w hS=>(an rfl rfl rfl (bc (by omega) (by omega)))) (RQ.ev rfl rfl (fun w hS=>(aB U7 b7 (h1.ext hS.aE) rfl rfl (by omega) (by omega))) (RQ.ev rfl rfl (fun w hS=>(aF (m:=((i:Int)+1).toNat) (a:=hb) UW rfl (h1.ext hS.aE) rfl (by rw[show((i:Int)+1).toNat=i+1 by omega];exact Ly))) (RQ.ev (v:=.int .i64 ((p:Int))) rfl rfl (fun w hS=>U) (RQ.ev rfl rfl (fun w hS=>(aB UW bu ((ef.2 _ _ _ Ly tU).1.ext hS.aE) rfl rfl (by omega) (by omega))) ?_)))))))
 have aw:∃a_,(lb)[p]?=some a_:=⟨_,UT (by omega)⟩
 obtain⟨ay,lI⟩:=aw
 refine RQ.ev rfl rfl (fun w hS=>(aF (m:=p) (a:=ay) UU rfl ((ef.2 _ _ _ Ly tU).1.ext hS.aE) rfl lI)) (RQ.ev rfl rfl (fun w hS=>(bh (cs:=[.int .i64 (ax),.int .i64 (ay)]) VE my (places:=#[(0,1),(1,1)]) (by intro w;kernel_rfl) (pl:=[(0,.tmp 50),(1,.tmp 58)]) rfl (ps:=[(0,.int .i64 (ax)),(1,.int .i64 (ay))]) rfl (zc:=[.int .i64 (0),.int .i64 (0)]) rfl (aP (vs:=[.int .i64 (ax)]) rfl rfl (US rfl) (aP (vs:=[.int .i64 (ay)]) rfl rfl (US rfl) rfl)))) ?_)
 refine RQ.do rfl rfl (iz (cf:=bk) (s:=2) (pl:=[(0,.tmp 59)]) (ps:=[(0,.agg #[.int .i64 (ax),.int .i64 (ay)])]) (zc:=[.int .i64 (0),.int .i64 (0)]) (l:=[(ax,ay)]) Vy wj (by kernel_rfl) rfl rfl (aP (vs:=[.int .i64 (ax),.int .i64 (ay)]) rfl rfl (US rfl) rfl) bP rfl (by decide) (by decide) (by decide) hN ?_)
 clear hN
 intro I1 kC (hN:ak w none_ kC [_,_,_,_,_,_])
 refine⟨(hN.sub [2,3,4,5] (by decide) rfl),?_⟩
 refine RQ.do rfl rfl (ez Vy wj rfl (by decide) pK bP hN 1 rfl rfl (hN.sm 0 rfl) rfl (by(try simp only[UX,U3,U6,Vc]);omega) (by decide) ?_)
 clear hN
 intro Gt lF (hN:ak w none_ lF [_,_,_,_,_,_])
 refine⟨(hN.sub [2,3,4,5] (by decide) rfl),?_⟩
 refine RQ.ev (v:=Gt) rfl rfl (fun w hS=>aa) (RQ.done (by kernel_rfl) (a7 (ag (RW.region (RL.ev (v:=.int .i64 ((p:Int))) rfl rfl U (RL.ev rfl rfl (an rfl rfl rfl (bc (by omega) (by omega))) (RL.ev (v:=.int .i64 ((p:Int)+1)) rfl rfl aa (RL.nil (ag ?_)))))))))
 exact⟨k2-1,by omega,Gt,pr++[(ax,ay)],p+1,rfl,rfl,rfl,rfl,rfl,rfl,rfl,(hN.sub [1,2,3,4,5] (by decide) rfl),by omega,by rw[WD,V5,←EC];simp only[VC,We,Br,lI,Yb],by(try simp only[UX,U3]);omega⟩
 refine RW.exit ?_
 iterate 2 refine bm ?_
 refine aO (ag ?_)
 have Lv:p=min la.length lb.length:=by omega
 have Ph:pr=pD la lb:=by rw[EC,Lv];rfl
 refine RW.region (RL.ev (v:=vo) rfl rfl U (RL.ev (v:=vr) rfl rfl U ?_))
 have aw:=(hN.sm 0 rfl).hd
 obtain⟨Sj,eM⟩:=aw
 subst eM
 refine RL.op rfl rfl (bS (enc:=vh) (l:=[Sj]) (xs:=[.tmp 63]) Vr jJ Dr rfl rfl (fun _=>rfl) rfl (by decide) (by decide) hN ?_)
 clear hN
 intro KY k9 (hN:ak w none_ k9 [_,_,_,_,_,_])
 replace hN:ak w none_ k9 [_,_,_,_,_]:=ak.sO (L:=[_,_,_,_,_]) (hN.sub [1,0,2,3,4,5] (by decide) rfl) 2 rfl
 refine RL.op rfl rfl (bD Vr Ad rfl jT hN 1 rfl rfl (hN.sl 0 rfl) rfl (by(try simp only[UX,U3,U6,Vc]);omega) (by decide) ?_)
 clear hN
 intro Js uu (hN:ak w none_ uu [_,_,_,_,_])
 refine RL.ev (v:=Js) rfl rfl aa (RL.nil (a7 (ag (RW.region (RL.ev (v:=.int .i64 ((i:Int))) rfl rfl U (RL.ev rfl rfl (an rfl rfl rfl (bc (by omega) (by omega))) (RL.ev (v:=.int .i64 ((i:Int)+2)) rfl rfl aa (RL.nil (ag ?_)))))))))
 exact⟨k-2,by omega,(cU (s,bl) ((ls.take ((i:Int)+2).toNat).drop i)).2,acc++[pr],Js,gs++[Sj],i+2,rfl,rfl,rfl,rfl,rfl,(hN.sub [1,2,3,4] (by decide) rfl),by omega,rM yD wx tU (by omega) Ph,by rw[UX];simp only[U3];omega⟩
 rw[decide_eq_false Rt]
 iterate 8 refine RL.off rfl rfl (by decide) rfl rfl ?_
 refine RL.ev (v:=.bool false) rfl rfl (aH rfl) (RL.nil (ag (RW.dD rfl (RW.exit ?_))))
 iterate 2 refine bm ?_
 refine aO (ag ?_)
 have Lv:p=min la.length lb.length:=by omega
 have Ph:pr=pD la lb:=by rw[EC,Lv];rfl
 refine RW.region (RL.ev (v:=vo) rfl rfl U (RL.ev (v:=vr) rfl rfl U ?_))
 have aw:=(hN.sm 0 rfl).hd
 obtain⟨Si,eM⟩:=aw
 subst eM
 refine RL.op rfl rfl (bS (enc:=vh) (l:=[Si]) (xs:=[.tmp 63]) Vr jJ Dr rfl rfl (fun _=>rfl) rfl (by decide) (by decide) hN ?_)
 clear hN
 intro UO vA (hN:ak w none_ vA [_,_,_,_,_,_])
 replace hN:ak w none_ vA [_,_,_,_,_]:=ak.sO (L:=[_,_,_,_,_]) (hN.sub [1,0,2,3,4,5] (by decide) rfl) 2 rfl
 refine RL.op rfl rfl (bD Vr Ad rfl jT hN 1 rfl rfl (hN.sl 0 rfl) rfl (by(try simp only[UX,U3,U6,Vc]);omega) (by decide) ?_)
 clear hN
 intro v20 vz (hN:ak w none_ vz [_,_,_,_,_])
 refine RL.ev (v:=v20) rfl rfl aa (RL.nil (a7 (ag (RW.region (RL.ev (v:=.int .i64 ((i:Int))) rfl rfl U (RL.ev rfl rfl (an rfl rfl rfl (bc (by omega) (by omega))) (RL.ev (v:=.int .i64 ((i:Int)+2)) rfl rfl aa (RL.nil (ag ?_)))))))))
 exact⟨k-2,by omega,(cU (s,bl) ((ls.take ((i:Int)+2).toNat).drop i)).2,acc++[pr],v20,gs++[Si],i+2,rfl,rfl,rfl,rfl,rfl,(hN.sub [1,2,3,4] (by decide) rfl),by omega,rM yD wx tU (by omega) Ph,by rw[UX];simp only[U3];omega⟩
 refine RW.exit ?_
 iterate 2 refine bm ?_
 refine aO (ag (RW.seq (RW.region (RL.ev rfl rfl (aG (cs:=[v,.int .i64 (s.2),.int .i64 (bl)]) Vp rfl cz rfl (hN.aA 3 rfl)) (RL.ev (v:=vo) rfl rfl U ?_)))))
 refine RL.op rfl rfl (aC (vs:=[v,.int .i64 (s.2),.int .i64 (bl)]) cz rfl rfl rfl (by intro u hu;simp only[U9,U2,or_false]at hu;rcases hu with rfl|rfl|rfl<;>first|rfl|exact(hv.ext hN.aE).bJ) hN 2 rfl rfl ?_)
 clear hN
 intro zx (hN:ak w none_ zx [_,_,_,_])
 refine RL.ev (v:=vo) rfl rfl aa (RL.nil (ag (RW.ret (aL (RV.bV rfl rfl (bI (hN.aA 2 rfl) Vp rfl cz)) ?_))))
 rw[zT _ (by omega),V4]at yD
 rw[yD]at e
 cases e
 exact⟨_,_,rfl,hN.sub [0,1] (by decide) rfl⟩
end Go.Proofs.YtngkdkbpgoddlaaGreat
namespace Go.Proofs.YtngkdkbpgoddlaaGreat
open Go.RowKit Go.Rl
open Go.Gr Go.cP Go.hO
def tR (b:List UInt8):Int×List I3×Bool:=match r6 b with|some (n,ar)=>(n,ar,true)|none=>(0,[],false)
def na (b:List UInt8):List Int×List I5×Bool:=match mh b with|some (rk,ws)=>(rk,ws,true)|none=>([],[],false)
theorem yb {l:List UInt8} {s1:St} {b1:Int} {l1:List (List Int)} (hM:dK 4 ((l,0),0)=((s1,b1),l1)) (h:¬(fE (s1,(cU (s1,b1) (l1.drop 1)).2)∧(l1.headD []).length=1)):tR l=(0,[],false):=by
  have e:dK 4 (tq l)=((s1,b1),l1):=hM
  unfold tR r6
  simp only[e,←YM]
  rw[ky,if_neg h]
theorem Hq {l:List UInt8} {s1:St} {b1:Int} {l1:List (List Int)} {a0:List Int} {x:Int} {ar:List I3} (hM:dK 4 ((l,0),0)=((s1,b1),l1)) (h:fE (s1,(cU (s1,b1) (l1.drop 1)).2)) (h0:l1[0]?=some a0) (h1:a0.length=1) (hx:a0[0]?=some x) (ha:ar=vq lT (l1.drop 1)):tR l=(x,ar,true):=by
  have e:dK 4 (tq l)=((s1,b1),l1):=hM
  unfold tR r6
  simp only[e,←YM]
  rw[ky,kR h0,if_pos ⟨h,h1⟩,hx,ha]
  rfl
theorem Cv {l:List UInt8} {s1:St} {b1:Int} {l1:List (List Int)} (hM:dK 6 ((l,0),0)=((s1,b1),l1)) (h:¬fE (s1,(cU (s1,b1) (l1.drop 1)).2)):na l=([],[],false):=by
  have e:dK 6 (tq l)=((s1,b1),l1):=hM
  unfold na mh
  simp only[e,←YM]
  rw[ky,if_neg h]
theorem EX {l:List UInt8} {s1:St} {b1:Int} {l1:List (List Int)} {a0:List Int} {ws:List I5} (hM:dK 6 ((l,0),0)=((s1,b1),l1)) (h:fE (s1,(cU (s1,b1) (l1.drop 1)).2)) (h0:l1[0]?=some a0) (ha:ws=vq jF (l1.drop 1)):na l=(a0,ws,true):=by
  have e:dK 6 (tq l)=((s1,b1),l1):=hM
  unfold na mh
  simp only[e,←YM]
  rw[ky,kR h0,if_pos h,ha]
theorem u6 {s:St} {bd:Int} {ls:List (List Int)} {a:List Int} (h:fE (s,(cU (s,bd) ls).2)) (ha:ls[0]?=some a):∀r∈ls,r.length=a.length:=by
  have h1:(cU (s,bd) ls).2=0:=h.1
  unfold cU at h1
  by_cases q:u9 ls
  · intro r hr;rw[q r hr,kR ha]
  · rw[if_neg q]at h1;cases h1
theorem ND {l:List (List Int)} {a b c:List Int} (h:l.length=4) (h1:l[1]?=some a) (h2:l[2]?=some b) (h3:l[3]?=some c):l.drop 1=[a,b,c]:=by
  match l,h,h1,h2,h3 with
  |[x,p,q,r],_,h1,h2,h3=>cases h1;cases h2;cases h3;rfl
theorem NC {l:List (List Int)} {a b c d e:List Int} (h:l.length=6) (h1:l[1]?=some a) (h2:l[2]?=some b) (h3:l[3]?=some c) (h4:l[4]?=some d) (h5:l[5]?=some e):l.drop 1=[a,b,c,d,e]:=by
  match l,h,h1,h2,h3,h4,h5 with
  |[x,p,q,r,s,t],_,h1,h2,h3,h4,h5=>cases h1;cases h2;cases h3;cases h4;cases h5;rfl
theorem oW (v:Value) (l:List UInt8) (w:World) (hv:Sl vb w v l) (hl:l.length≤1048576) {n:Int} {ar:List I3} {ok:Bool} (e:tR l=(n,ar,ok)):al UY 53 #[v] w fun r w'=>∃v',r=.tuple #[.agg #[.int .i64 n,v'],.bool ok]∧ak w none_ w' [.cV bf 3 100 v' ar]:=by
 refine al.start Tryz.func53 rfl (US rfl) ?_
 rw[bL]
 have hN:=ak.nil w none_
 obtain⟨b,IV⟩:∃b,b=w.heap.size:=⟨_,rfl⟩
 have hB:jD vb b w v l:=by rw[IV];exact hv.below
 have kS:b≤w.heap.size:=Xn IV
 refine RW.seq (RW.region ?_)
 refine RL.op rfl rfl (aX (cs:=[.int .i64 (0),.slice none 0 0]) kB rfl hN ?_)
 clear hN
 intro g1 w1 (hN:ak w none_ w1 [_])
 refine RL.ev (v:=.bool false) rfl rfl aa (RL.nil (ag (RW.seq (RW.region (RL.ev (v:=v) rfl rfl U (RL.ev rfl rfl (bh (cs:=[v,.int .i64 (0)]) Vk iq (places:=#[(0,1),(1,1)]) (by intro w;kernel_rfl) (pl:=[(0,.tmp 9)]) rfl (ps:=[(0,v)]) rfl (zc:=[.slice none 0 0,.int .i64 (0)]) rfl (aP (vs:=[v]) (hB.1.ext hN.aE).cO rfl (US rfl) rfl)) (RL.ev rfl rfl (bh (cs:=[v,.int .i64 (0),.int .i64 (0)]) Vp dN (places:=#[(0,2),(2,1)]) (by intro w;kernel_rfl) (pl:=[(0,.tmp 10)]) rfl (ps:=[(0,.agg #[v,.int .i64 (0)])]) rfl (zc:=[.slice none 0 0,.int .i64 (0),.int .i64 (0)]) rfl (aP (vs:=[v,.int .i64 (0)]) rfl rfl (US rfl) rfl)) ?_)))))))
 have gV:∃s1 b1 l1,dK 4 ((l,0),0)=((s1,b1),l1):=⟨_,_,_,rfl⟩
 obtain⟨jL,oI,mY,sL⟩:=gV
 have lC:=gA 4 ((l,0),0)
 rw[sL]at lC
 dsimp only at lC
 refine RL.op rfl rfl (aR Y8 rfl rfl rfl rfl ((jW b _ (l,0) 0 4 _ (hB.ext hN.aE) (Vf kS hN.size) sL (by decide)).mono ?_))
 rintro _ w2 ⟨x2,y2,ff,rfl,xg,bE⟩
 have fo:=hN.dU bE
 replace xg:=xg.back fo.aE kS
 clear bE
 clear hN
 have hN:ak w none_ w2 [_,_,_]:=fo
 clear fo
 refine RL.ev (v:=.tuple #[.agg #[x2,.int .i64 (jL.2),.int .i64 (oI)],y2]) rfl rfl U ?_
 iterate 2 refine RL.ev rfl rfl (bg rfl rfl) ?_
 refine RL.op rfl rfl (aX (cs:=[.slice none 0 0,.int .i64 (0),.int .i64 (0)]) dN rfl hN ?_)
 clear hN
 intro g3 w3 (hN:ak w none_ w3 [_,_,_,_])
 refine RL.op rfl rfl (aC (vs:=[x2,.int .i64 (jL.2),.int .i64 (oI)]) cz rfl rfl rfl (by intro u hu;simp only[U9,U2,or_false]at hu;rcases hu with rfl|rfl|rfl<;>first|rfl|exact(xg.1.ext hN.aE).bJ) hN 0 rfl rfl ?_)
 clear hN
 intro w4 (hN:ak w none_ w4 [_,_,_,_])
 refine RL.ev (v:=y2) rfl rfl aa ?_
 have qS:=mA 4 ((l,0),0)
 rw[sL]at qS
 dsimp only at qS
 have Cy:=(hN.dx 2 rfl).1
 have aw:∃a_,ff[0]?=some a_:=⟨_,UT (by omega)⟩
 obtain⟨h0,mP⟩:=aw
 have aw:∃a_,mY[0]?=some a_:=⟨_,UT (by omega)⟩
 obtain⟨r0,Aj⟩:=aw
 have Ql:=lC.2 r0 (UZ Aj)
 have aw:∃a_,ff[1]?=some a_:=⟨_,UT (by omega)⟩
 obtain⟨h1,Cz⟩:=aw
 have aw:∃a_,mY[1]?=some a_:=⟨_,UT (by omega)⟩
 obtain⟨r1,j9⟩:=aw
 have iN:=lC.2 r1 (UZ j9)
 have aw:∃a_,ff[2]?=some a_:=⟨_,UT (by omega)⟩
 obtain⟨h2,Ky⟩:=aw
 have aw:∃a_,mY[2]?=some a_:=⟨_,UT (by omega)⟩
 obtain⟨r2,pP⟩:=aw
 have jR:=lC.2 r2 (UZ pP)
 have aw:∃a_,ff[3]?=some a_:=⟨_,UT (by omega)⟩
 obtain⟨h3,Kx⟩:=aw
 have aw:∃a_,mY[3]?=some a_:=⟨_,UT (by omega)⟩
 obtain⟨r3,HD⟩:=aw
 have KO:=lC.2 r3 (UZ HD)
 have Fw:=ND qS j9 pP HD
 refine RL.nil (ag (RW.seq ?_))
 replace hN:=hN.ext (Ext.drew w4)
 refine RW.cb rfl (fun u=>ak w none_ u [.aA g3 [x2,.int .i64 (jL.2),.int .i64 (oI)] 175,.own vh 25 (y2) (ff),.dT vi (ff) (mY),.aA g1 [.int .i64 (0),.slice none 0 0] 24]) 4 [(0,0),(1,0),(2,0),(3,1),(4,2)] (by intro _ _ _ h;exact h) (by kernel_rfl) hN (RQ.ev rfl rfl (fun w hS=>(aG (cs:=[x2,.int .i64 (jL.2),.int .i64 (oI)]) Vp rfl cz rfl (hS.aA 0 rfl))) (RQ.ev (v:=y2) rfl rfl (fun w hS=>U) (RQ.ev rfl rfl (fun w hS=>(eW U7 b7 (hS.sl 1 rfl) rfl rfl (by omega) (by omega))) ?_)))
 refine RQ.do rfl rfl (aR Y9 rfl rfl rfl rfl ((jX _ jL oI _ (ff.drop 1) (mY.drop 1) _ (xg.1.ext hN.aE) ((hN.sl 1 rfl).fM (by omega)) ((hN.dx 2 rfl).drop 1)).mono ?_))
 rintro _ w5 ⟨rfl,aW⟩
 replace hN:=hN.ext aW
 clear aW
 refine⟨hN,?_⟩
 refine RQ.last rfl rfl (aC (vs:=[x2,.int .i64 (jL.2),.int .i64 ((cU (jL,oI) (mY.drop 1)).2)]) cz rfl rfl rfl (by intro u hu;simp only[U9,U2,or_false]at hu;rcases hu with rfl|rfl|rfl<;>first|rfl|exact(xg.1.ext hN.aE).bJ) hN 0 rfl rfl ?_)
 clear hN
 intro w6 (hN:ak w none_ w6 [_,_,_,_])
 refine RZ.done (by kernel_rfl) (ag ?_)
 iterate 2 refine RW.seq ?_
 refine RW.region (RL.ev rfl rfl (aG (cs:=[x2,.int .i64 (jL.2),.int .i64 ((cU (jL,oI) (mY.drop 1)).2)]) Vp rfl cz rfl (hN.aA 0 rfl)) ?_)
 refine RL.op rfl rfl (aM Za rfl rfl rfl ((jY _ jL ((cU (jL,oI) (mY.drop 1)).2) _ (xg.1.ext hN.aE)).mono ?_))
 rintro _ w7 ⟨rfl,aW⟩
 replace hN:=hN.ext aW
 clear aW
 refine RL.ev rfl rfl (cM rfl) (RL.ev (v:=.bool (decide (¬(fE (jL,(cU (jL,oI) (mY.drop 1)).2))))) rfl rfl U ?_)
 by_cases HG:¬(fE (jL,(cU (jL,oI) (mY.drop 1)).2))
 rw[decide_eq_true HG]
 iterate 5 refine RL.off rfl rfl (by decide) rfl rfl ?_
 refine RL.ev (v:=.bool true) rfl rfl (ao rfl) (RL.nil (ag (RW.bK rfl (RW.seq (RW.region (RL.ev rfl rfl (bh (cs:=[.int .i64 (0),.slice none 0 0]) U4 kB (places:=#[(0,1),(1,1)]) (by intro w;kernel_rfl) (pl:=[]) rfl (ps:=[]) rfl (zc:=[.int .i64 (0),.slice none 0 0]) rfl rfl) ?_))))))
 refine RL.op rfl rfl (aC (vs:=[.int .i64 (0),.slice none 0 0]) db rfl rfl rfl (by intro u hu;simp only[U9,U2,or_false]at hu;rcases hu with rfl|rfl<;>first|rfl) hN 3 rfl rfl ?_)
 clear hN
 intro w8 (hN:ak w none_ w8 [_,_,_,_])
 refine RL.ev (v:=.bool false) rfl rfl aa (RL.nil (ag (RW.ret (aD (aL (RV.bV rfl rfl (bI (hN.aA 3 rfl) U4 rfl db)) ?_)))))
 rw[yb sL (fun h_=>by first|exact HG h_.1|exact Qu (by rw[kR Aj]at h_;omega))]at e
 cases e
 replace hN:=hN.eK bf 3 100
 exact⟨_,rfl,hN.sub [0] (by decide) rfl⟩
 rw[decide_eq_false HG]
 refine RL.aI (v:=y2) rfl rfl (by decide) rfl rfl U (RL.aI rfl rfl (by decide) rfl rfl (aB U7 b7 (hN.sl 1 rfl) rfl rfl (by omega) (by omega)) (RL.aI rfl rfl (by decide) rfl rfl (aF (m:=0) (a:=h0) UW rfl (hN.sl 1 rfl) rfl mP) ?_))
 have Bs:=((hN.dx 2 rfl).2 _ _ _ mP Aj).1.aY
 refine RL.aI rfl rfl (by decide) rfl rfl (aQ UW ((hN.dx 2 rfl).2 _ _ _ mP Aj).1 rfl) (RL.aI rfl rfl (by decide) rfl rfl (bp rfl rfl) (RL.ev (v:=.bool (decide (¬(r0.length:Int)=1))) rfl rfl (aH rfl) (RL.nil (ag ?_))))
 refine RW.aN _ rfl (fun Qu=>?_) (fun Qu=>?_)
 refine RW.seq (RW.region (RL.ev rfl rfl (bh (cs:=[.int .i64 (0),.slice none 0 0]) U4 kB (places:=#[(0,1),(1,1)]) (by intro w;kernel_rfl) (pl:=[]) rfl (ps:=[]) rfl (zc:=[.int .i64 (0),.slice none 0 0]) rfl rfl) ?_))
 refine RL.op rfl rfl (aC (vs:=[.int .i64 (0),.slice none 0 0]) db rfl rfl rfl (by intro u hu;simp only[U9,U2,or_false]at hu;rcases hu with rfl|rfl<;>first|rfl) hN 3 rfl rfl ?_)
 clear hN
 intro jj (hN:ak w none_ jj [_,_,_,_])
 refine RL.ev (v:=.bool false) rfl rfl aa (RL.nil (ag (RW.ret (aD (aL (RV.bV rfl rfl (bI (hN.aA 3 rfl) U4 rfl db)) ?_)))))
 rw[yb sL (fun h_=>by first|exact HG h_.1|exact Qu (by rw[kR Aj]at h_;omega))]at e
 cases e
 replace hN:=hN.eK bf 3 100
 exact⟨_,rfl,hN.sub [0] (by decide) rfl⟩
 refine RW.skip (ag (RW.seq (RW.region (RL.ev (v:=y2) rfl rfl U (RL.ev rfl rfl (aB U7 b7 (hN.sl 1 rfl) rfl rfl (by omega) (by omega)) (RL.ev rfl rfl (aF (m:=0) (a:=h0) UW rfl (hN.sl 1 rfl) rfl mP) (RL.ev rfl rfl (aB UW bu ((hN.dx 2 rfl).2 _ _ _ mP Aj).1 rfl rfl (by omega) (by omega)) ?_)))))))
 have aw:∃a_,(r0)[0]?=some a_:=⟨_,UT (by omega)⟩
 obtain⟨ap,bG⟩:=aw
 refine RL.ev rfl rfl (aF (m:=0) (a:=ap) UU rfl ((hN.dx 2 rfl).2 _ _ _ mP Aj).1 rfl bG) (RL.ev rfl rfl (bh (cs:=[.int .i64 (ap),.slice none 0 0]) U4 kB (places:=#[(0,1),(1,1)]) (by intro w;kernel_rfl) (pl:=[(0,.tmp 34)]) rfl (ps:=[(0,.int .i64 (ap))]) rfl (zc:=[.int .i64 (0),.slice none 0 0]) rfl (aP (vs:=[.int .i64 (ap)]) rfl rfl (US rfl) rfl)) ?_)
 refine RL.op rfl rfl (aX (cs:=[.int .i64 (0),.slice none 0 0]) kB rfl hN ?_)
 clear hN
 intro I1 kC (hN:ak w none_ kC [_,_,_,_,_])
 refine RL.op rfl rfl (aC (vs:=[.int .i64 (ap),.slice none 0 0]) db rfl rfl rfl (by intro u hu;simp only[U9,U2,or_false]at hu;rcases hu with rfl|rfl<;>first|rfl) hN 0 rfl rfl ?_)
 clear hN
 intro lF (hN:ak w none_ lF [_,_,_,_,_])
 refine RL.nil (ag ?_)
 iterate 2 refine RW.seq ?_
 have Df:=Vi.1 HG
 have yJ:=u6 (a:=r1) Df (by rw[Fw];rfl)
 have o6:r2.length=r1.length:=yJ r2 (by rw[Fw];simp)
 have PZ:r3.length=r1.length:=yJ r3 (by rw[Fw];simp)
 replace hN:=hN.eK bf 3 100
 refine RW.region (RL.ev (v:=.int .i64 (0)) rfl rfl aa (RL.nil (ag (RW.block ?_))))
 refine RW.loop (fun k R0 bT=>∃vm:Value,∃acc:List I3,∃i:Nat,R0 2=.pointer (some ⟨g1,0,none⟩)∧R0 5=y2∧R0 6=.pointer (some ⟨I1,0,none⟩)∧R0 7=.int .i64 ((i:Int))∧ak w none_ bT [.cV bf 3 100 (vm) (acc),.aA I1 [.int .i64 (ap),vm] 24,.aA g3 [x2,.int .i64 (jL.2),.int .i64 ((cU (jL,oI) (mY.drop 1)).2)] 175,.own vh 25 (y2) (ff),.dT vi (ff) (mY),.aA g1 [.int .i64 (0),.slice none 0 0] 24]∧(i+k=r1.length)∧(acc=(V0 i).map fun q=>lT ([r1,r2,r3].map fun r=>(r[q]?).getD 0))∧(acc.length=i)) (r1.length) ?_ ?_
 exact⟨.slice none 0 0,[],0,rfl,rfl,rfl,rfl,hN,by omega,rfl,rfl⟩
 clear hN
 rintro k R0 bT ⟨vm,acc,i,bF,bM,dd,cd,hN,eR,hJ,fG⟩
 have bY:∃b6,R0=(aZ (aZ (aZ (aZ b6 2 _) 5 _) 6 _) 7 _):=⟨R0,by rw[ai bF,ai bM,ai dd,ai cd]⟩
 obtain⟨b6,rfl⟩:=bY
 clear bF bM dd cd
 iterate 2 refine RW.seq ?_
 refine RW.region (RL.ev (v:=.int .i64 ((i:Int))) rfl rfl U (RL.ev (v:=y2) rfl rfl U (RL.ev rfl rfl (aB U7 b7 (hN.sl 3 rfl) rfl rfl (by omega) (by omega)) (RL.ev rfl rfl (aF (m:=1) (a:=h1) UW rfl (hN.sl 3 rfl) rfl Cz) ?_))))
 have IZ:=((hN.dx 4 rfl).2 _ _ _ Cz j9).1.aY
 refine RL.ev rfl rfl (aQ UW ((hN.dx 4 rfl).2 _ _ _ Cz j9).1 rfl) (RL.ev rfl rfl (aV rfl rfl) (RL.nil (ag ?_)))
 refine RW.aN _ rfl (fun bW=>?_) (fun bW=>?_)
 refine RW.skip (ag (RW.seq (RW.block ?_)))
 replace hN:=hN.ext (Ext.drew bT)
 refine RW.cb rfl (fun u=>ak w none_ u [.aA I1 [.int .i64 (ap),vm] 24,.aA g3 [x2,.int .i64 (jL.2),.int .i64 ((cU (jL,oI) (mY.drop 1)).2)] 175,.own vh 25 (y2) (ff),.dT vi (ff) (mY),.aA g1 [.int .i64 (0),.slice none 0 0] 24]) 24 [(0,0),(1,0),(2,0),(3,0),(4,0),(5,0),(6,0),(7,0),(8,0),(9,0),(10,0),(11,0),(12,0),(13,0),(14,0),(15,0),(16,0),(17,0),(18,0),(19,0),(20,0),(21,1),(22,1),(23,0),(24,2)] (by intro _ _ _ h;exact h) (by kernel_rfl) (hN.sub [1,2,3,4,5] (by decide) rfl) (RQ.ev rfl rfl (fun w hS=>(ah U4 rfl dY (by decide) rfl)) (RQ.ev rfl rfl (fun w hS=>(aj Va rfl rfl (hS.aA 0 rfl) rfl)) (RQ.ev (v:=y2) rfl rfl (fun w hS=>U) (RQ.ev rfl rfl (fun w hS=>(aB U7 b7 (hS.sl 2 rfl) rfl rfl (by omega) (by omega))) (RQ.ev rfl rfl (fun w hS=>(aF (m:=1) (a:=h1) UW rfl (hS.sl 2 rfl) rfl Cz)) (RQ.ev (v:=.int .i64 ((i:Int))) rfl rfl (fun w hS=>U) (RQ.ev rfl rfl (fun w hS=>(aB UW bu ((hS.dx 3 rfl).2 _ _ _ Cz j9).1 rfl rfl (by omega) (by omega))) ?_)))))))
 have aw:∃a_,(r1)[i]?=some a_:=⟨_,UT (by omega)⟩
 obtain⟨zj,FH⟩:=aw
 refine RQ.ev rfl rfl (fun w hS=>(aF (m:=i) (a:=zj) UU rfl ((hS.dx 3 rfl).2 _ _ _ Cz j9).1 rfl FH)) (RQ.ev (v:=y2) rfl rfl (fun w hS=>U) (RQ.ev rfl rfl (fun w hS=>(aB U7 b7 (hS.sl 2 rfl) rfl rfl (by omega) (by omega))) (RQ.ev rfl rfl (fun w hS=>(aF (m:=2) (a:=h2) UW rfl (hS.sl 2 rfl) rfl Ky)) (RQ.ev (v:=.int .i64 ((i:Int))) rfl rfl (fun w hS=>U) (RQ.ev rfl rfl (fun w hS=>(aB UW bu ((hS.dx 3 rfl).2 _ _ _ Ky pP).1 rfl rfl (by omega) (by omega))) ?_)))))
 have aw:∃a_,(r2)[i]?=some a_:=⟨_,UT (by omega)⟩
 obtain⟨zi,FG⟩:=aw
 refine RQ.ev rfl rfl (fun w hS=>(aF (m:=i) (a:=zi) UU rfl ((hS.dx 3 rfl).2 _ _ _ Ky pP).1 rfl FG)) (RQ.ev (v:=y2) rfl rfl (fun w hS=>U) (RQ.ev rfl rfl (fun w hS=>(aB U7 b7 (hS.sl 2 rfl) rfl rfl (by omega) (by omega))) (RQ.ev rfl rfl (fun w hS=>(aF (m:=3) (a:=h3) UW rfl (hS.sl 2 rfl) rfl Kx)) (RQ.ev (v:=.int .i64 ((i:Int))) rfl rfl (fun w hS=>U) (RQ.ev rfl rfl (fun w hS=>(aB UW bu ((hS.dx 3 rfl).2 _ _ _ Kx HD).1 rfl rfl (by omega) (by omega))) ?_)))))
 have aw:∃a_,(r3)[i]?=some a_:=⟨_,UT (by omega)⟩
 obtain⟨vj,FE⟩:=aw
 refine RQ.ev rfl rfl (fun w hS=>(aF (m:=i) (a:=vj) UU rfl ((hS.dx 3 rfl).2 _ _ _ Kx HD).1 rfl FE)) (RQ.ev rfl rfl (fun w hS=>(bh (cs:=[.int .i64 (zj),.int .i64 (zi),.int .i64 (vj)]) Ve eo (places:=#[(0,1),(1,1),(2,1)]) (by intro w;kernel_rfl) (pl:=[(0,.tmp 51),(1,.tmp 57),(2,.tmp 63)]) rfl (ps:=[(0,.int .i64 (zj)),(1,.int .i64 (zi)),(2,.int .i64 (vj))]) rfl (zc:=[.int .i64 (0),.int .i64 (0),.int .i64 (0)]) rfl (aP (vs:=[.int .i64 (zj)]) rfl rfl (US rfl) (aP (vs:=[.int .i64 (zi)]) rfl rfl (US rfl) (aP (vs:=[.int .i64 (vj)]) rfl rfl (US rfl) rfl))))) ?_)
 refine RQ.do rfl rfl (iz (cf:=bf) (s:=3) (pl:=[(0,.tmp 64)]) (ps:=[(0,.agg #[.int .i64 (zj),.int .i64 (zi),.int .i64 (vj)])]) (zc:=[.int .i64 (0),.int .i64 (0),.int .i64 (0)]) (l:=[(zj,zi,vj)]) Va se (by kernel_rfl) rfl rfl (aP (vs:=[.int .i64 (zj),.int .i64 (zi),.int .i64 (vj)]) rfl rfl (US rfl) rfl) aU rfl (by decide) (by decide) (by decide) hN ?_)
 clear hN
 intro UN vz (hN:ak w none_ vz [_,_,_,_,_,_,_])
 refine⟨(hN.sub [2,3,4,5,6] (by decide) rfl),?_⟩
 refine RQ.do rfl rfl (ez Va se rfl (by decide) iB aU hN 1 rfl rfl (hN.sm 0 rfl) rfl (by(try simp only[UX,U3,U6,Vc]);omega) (by decide) ?_)
 clear hN
 intro SK zx (hN:ak w none_ zx [_,_,_,_,_,_,_])
 refine⟨(hN.sub [2,3,4,5,6] (by decide) rfl),?_⟩
 refine RQ.ev rfl rfl (fun w hS=>(ah U4 rfl dY (by decide) rfl)) ?_
 refine RQ.last rfl rfl (b9 dY rfl rfl (hN.sm 1 rfl).cO (hN.sm 1 rfl).bJ hN 2 rfl (US rfl) ?_)
 clear hN
 intro BM (hN:ak w none_ BM [_,_,_,_,_,_,_])
 refine RZ.done (by kernel_rfl) (a7 (ag (RW.region (RL.ev (v:=.int .i64 ((i:Int))) rfl rfl U (RL.ev rfl rfl (an rfl rfl rfl (bc (by omega) (by omega))) (RL.ev (v:=.int .i64 ((i:Int)+1)) rfl rfl aa (RL.nil (ag ?_))))))))
 exact⟨k-1,by omega,SK,acc++[(zj,zi,vj)],i+1,rfl,rfl,rfl,rfl,(hN.sub [1,2,3,4,5,6] (by decide) rfl),by omega,by rw[WD,V5,←hJ];simp only[lT,VC,We,Ze,Zf,FH,FG,FE,Yb],by(try simp only[UX,U3]);omega⟩
 refine RW.exit ?_
 iterate 2 refine bm ?_
 refine aO (ag (RW.seq (RW.region (RL.ev rfl rfl (aG (cs:=[.int .i64 (ap),vm]) U4 rfl db rfl (hN.aA 1 rfl)) ?_))))
 refine RL.op rfl rfl (aC (vs:=[.int .i64 (ap),vm]) db rfl rfl rfl (by intro u hu;simp only[U9,U2,or_false]at hu;rcases hu with rfl|rfl<;>first|rfl|exact(hN.sm 0 rfl).bJ) hN 5 rfl rfl ?_)
 clear hN
 intro Gs (hN:ak w none_ Gs [_,_,_,_,_,_])
 refine RL.ev (v:=.bool true) rfl rfl aa (RL.nil (ag (RW.ret (aL (RV.bV rfl rfl (bI (hN.aA 5 rfl) U4 rfl db)) ?_))))
 rw[Hq (ar:=acc) sL Df Aj (by omega) bG (by rw[Fw,hJ,show i=r1.length by omega];rfl)]at e
 cases e
 exact⟨_,rfl,hN.sub [0] (by decide) rfl⟩
theorem n0 (v:Value) (l:List UInt8) (w:World) (hv:Sl vb w v l) (hl:l.length≤1048576) {rk:List Int} {ws:List I5} {ok:Bool} (e:na l=(rk,ws,ok)):al UY 54 #[v] w fun r w'=>∃hs ls h0 wv,r=.tuple #[.agg #[vh h0,wv],.bool ok]∧(hs[0]?=some h0∧ls[0]?=some rk)∧ak w none_ w' [.dT vi hs ls,.cV bC 5 98 wv ws]:=by
 refine al.start Tryz.func54 rfl (US rfl) ?_
 rw[bL]
 have hN:=ak.nil w none_
 obtain⟨b,IV⟩:∃b,b=w.heap.size:=⟨_,rfl⟩
 have hB:jD vb b w v l:=by rw[IV];exact hv.below
 have kS:b≤w.heap.size:=Xn IV
 refine RW.seq (RW.region ?_)
 refine RL.op rfl rfl (aX (cs:=[.slice none 0 0,.slice none 0 0]) ng rfl hN ?_)
 clear hN
 intro g1 w1 (hN:ak w none_ w1 [_])
 refine RL.ev (v:=.bool false) rfl rfl aa (RL.nil (ag (RW.seq (RW.region (RL.ev (v:=v) rfl rfl U (RL.ev rfl rfl (bh (cs:=[v,.int .i64 (0)]) Vk iq (places:=#[(0,1),(1,1)]) (by intro w;kernel_rfl) (pl:=[(0,.tmp 9)]) rfl (ps:=[(0,v)]) rfl (zc:=[.slice none 0 0,.int .i64 (0)]) rfl (aP (vs:=[v]) (hB.1.ext hN.aE).cO rfl (US rfl) rfl)) (RL.ev rfl rfl (bh (cs:=[v,.int .i64 (0),.int .i64 (0)]) Vp dN (places:=#[(0,2),(2,1)]) (by intro w;kernel_rfl) (pl:=[(0,.tmp 10)]) rfl (ps:=[(0,.agg #[v,.int .i64 (0)])]) rfl (zc:=[.slice none 0 0,.int .i64 (0),.int .i64 (0)]) rfl (aP (vs:=[v,.int .i64 (0)]) rfl rfl (US rfl) rfl)) ?_)))))))
 have gV:∃s1 b1 l1,dK 6 ((l,0),0)=((s1,b1),l1):=⟨_,_,_,rfl⟩
 obtain⟨jL,oI,mY,sL⟩:=gV
 have lC:=gA 6 ((l,0),0)
 rw[sL]at lC
 dsimp only at lC
 refine RL.op rfl rfl (aR Y8 rfl rfl rfl rfl ((jW b _ (l,0) 0 6 _ (hB.ext hN.aE) (Vf kS hN.size) sL (by decide)).mono ?_))
 rintro _ w2 ⟨x2,y2,ff,rfl,xg,bE⟩
 have fo:=hN.dU bE
 replace xg:=xg.back fo.aE kS
 clear bE
 clear hN
 have hN:ak w none_ w2 [_,_,_]:=fo
 clear fo
 refine RL.ev (v:=.tuple #[.agg #[x2,.int .i64 (jL.2),.int .i64 (oI)],y2]) rfl rfl U ?_
 iterate 2 refine RL.ev rfl rfl (bg rfl rfl) ?_
 refine RL.op rfl rfl (aX (cs:=[.slice none 0 0,.int .i64 (0),.int .i64 (0)]) dN rfl hN ?_)
 clear hN
 intro g3 w3 (hN:ak w none_ w3 [_,_,_,_])
 refine RL.op rfl rfl (aC (vs:=[x2,.int .i64 (jL.2),.int .i64 (oI)]) cz rfl rfl rfl (by intro u hu;simp only[U9,U2,or_false]at hu;rcases hu with rfl|rfl|rfl<;>first|rfl|exact(xg.1.ext hN.aE).bJ) hN 0 rfl rfl ?_)
 clear hN
 intro w4 (hN:ak w none_ w4 [_,_,_,_])
 refine RL.ev (v:=y2) rfl rfl aa ?_
 have qS:=mA 6 ((l,0),0)
 rw[sL]at qS
 dsimp only at qS
 have Cy:=(hN.dx 2 rfl).1
 have aw:∃a_,ff[0]?=some a_:=⟨_,UT (by omega)⟩
 obtain⟨h0,mP⟩:=aw
 have aw:∃a_,mY[0]?=some a_:=⟨_,UT (by omega)⟩
 obtain⟨r0,Aj⟩:=aw
 have Ql:=lC.2 r0 (UZ Aj)
 have aw:∃a_,ff[1]?=some a_:=⟨_,UT (by omega)⟩
 obtain⟨h1,Cz⟩:=aw
 have aw:∃a_,mY[1]?=some a_:=⟨_,UT (by omega)⟩
 obtain⟨r1,j9⟩:=aw
 have iN:=lC.2 r1 (UZ j9)
 have aw:∃a_,ff[2]?=some a_:=⟨_,UT (by omega)⟩
 obtain⟨h2,Ky⟩:=aw
 have aw:∃a_,mY[2]?=some a_:=⟨_,UT (by omega)⟩
 obtain⟨r2,pP⟩:=aw
 have jR:=lC.2 r2 (UZ pP)
 have aw:∃a_,ff[3]?=some a_:=⟨_,UT (by omega)⟩
 obtain⟨h3,Kx⟩:=aw
 have aw:∃a_,mY[3]?=some a_:=⟨_,UT (by omega)⟩
 obtain⟨r3,HD⟩:=aw
 have KO:=lC.2 r3 (UZ HD)
 have aw:∃a_,ff[4]?=some a_:=⟨_,UT (by omega)⟩
 obtain⟨h4,PS⟩:=aw
 have aw:∃a_,mY[4]?=some a_:=⟨_,UT (by omega)⟩
 obtain⟨r4,N3⟩:=aw
 have u1:=lC.2 r4 (UZ N3)
 have aw:∃a_,ff[5]?=some a_:=⟨_,UT (by omega)⟩
 obtain⟨h5,PR⟩:=aw
 have aw:∃a_,mY[5]?=some a_:=⟨_,UT (by omega)⟩
 obtain⟨r5,N2⟩:=aw
 have HR:=lC.2 r5 (UZ N2)
 have Fw:=NC qS j9 pP HD N3 N2
 refine RL.nil (ag (RW.seq ?_))
 replace hN:=hN.ext (Ext.drew w4)
 refine RW.cb rfl (fun u=>ak w none_ u [.aA g3 [x2,.int .i64 (jL.2),.int .i64 (oI)] 175,.own vh 25 (y2) (ff),.dT vi (ff) (mY),.aA g1 [.slice none 0 0,.slice none 0 0] 28]) 4 [(0,0),(1,0),(2,0),(3,1),(4,2)] (by intro _ _ _ h;exact h) (by kernel_rfl) hN (RQ.ev rfl rfl (fun w hS=>(aG (cs:=[x2,.int .i64 (jL.2),.int .i64 (oI)]) Vp rfl cz rfl (hS.aA 0 rfl))) (RQ.ev (v:=y2) rfl rfl (fun w hS=>U) (RQ.ev rfl rfl (fun w hS=>(eW U7 b7 (hS.sl 1 rfl) rfl rfl (by omega) (by omega))) ?_)))
 refine RQ.do rfl rfl (aR Y9 rfl rfl rfl rfl ((jX _ jL oI _ (ff.drop 1) (mY.drop 1) _ (xg.1.ext hN.aE) ((hN.sl 1 rfl).fM (by omega)) ((hN.dx 2 rfl).drop 1)).mono ?_))
 rintro _ w5 ⟨rfl,aW⟩
 replace hN:=hN.ext aW
 clear aW
 refine⟨hN,?_⟩
 refine RQ.last rfl rfl (aC (vs:=[x2,.int .i64 (jL.2),.int .i64 ((cU (jL,oI) (mY.drop 1)).2)]) cz rfl rfl rfl (by intro u hu;simp only[U9,U2,or_false]at hu;rcases hu with rfl|rfl|rfl<;>first|rfl|exact(xg.1.ext hN.aE).bJ) hN 0 rfl rfl ?_)
 clear hN
 intro w6 (hN:ak w none_ w6 [_,_,_,_])
 refine RZ.done (by kernel_rfl) (ag ?_)
 iterate 2 refine RW.seq ?_
 refine RW.region (RL.ev rfl rfl (aG (cs:=[x2,.int .i64 (jL.2),.int .i64 ((cU (jL,oI) (mY.drop 1)).2)]) Vp rfl cz rfl (hN.aA 0 rfl)) ?_)
 refine RL.op rfl rfl (aM Za rfl rfl rfl ((jY _ jL ((cU (jL,oI) (mY.drop 1)).2) _ (xg.1.ext hN.aE)).mono ?_))
 rintro _ w7 ⟨rfl,aW⟩
 replace hN:=hN.ext aW
 clear aW
 refine RL.ev rfl rfl (cM rfl) (RL.nil (ag ?_))
 refine RW.aN _ rfl (fun HG=>?_) (fun HG=>?_)
 refine RW.seq (RW.region (RL.ev rfl rfl (bh (cs:=[.slice none 0 0,.slice none 0 0]) Vb ng (places:=#[(0,1),(1,1)]) (by intro w;kernel_rfl) (pl:=[]) rfl (ps:=[]) rfl (zc:=[.slice none 0 0,.slice none 0 0]) rfl rfl) ?_))
 refine RL.op rfl rfl (aC (vs:=[.slice none 0 0,.slice none 0 0]) dr rfl rfl rfl (by intro u hu;simp only[U9,U2,or_false]at hu;rcases hu with rfl|rfl<;>first|rfl) hN 3 rfl rfl ?_)
 clear hN
 intro w8 (hN:ak w none_ w8 [_,_,_,_])
 refine RL.ev (v:=.bool false) rfl rfl aa (RL.nil (ag (RW.ret (aD (aL (RV.bV rfl rfl (bI (hN.aA 3 rfl) Vb rfl dr)) ?_)))))
 rw[Cv sL HG]at e
 cases e
 have fo:=(ak.kV (h:=(none,0,0)) ((hN.fg vi).cj vi 3) 0 rfl).eK bC 5 98
 exact⟨_,_,(none,0,0),_,rfl,⟨rfl,rfl⟩,fo.sub [1,0] (by decide) rfl⟩
 refine RW.skip (ag (RW.seq (RW.region (RL.ev (v:=y2) rfl rfl U (RL.ev rfl rfl (aB U7 b7 (hN.sl 1 rfl) rfl rfl (by omega) (by omega)) (RL.ev rfl rfl (aF (m:=0) (a:=h0) UW rfl (hN.sl 1 rfl) rfl mP) (RL.ev rfl rfl (bh (cs:=[(vh h0),.slice none 0 0]) Vb ng (places:=#[(0,1),(1,1)]) (by intro w;kernel_rfl) (pl:=[(0,.tmp 25)]) rfl (ps:=[(0,(vh h0))]) rfl (zc:=[.slice none 0 0,.slice none 0 0]) rfl (aP (vs:=[(vh h0)]) rfl rfl (US rfl) rfl)) ?_)))))))
 refine RL.op rfl rfl (aX (cs:=[.slice none 0 0,.slice none 0 0]) ng rfl hN ?_)
 clear hN
 intro tY jH (hN:ak w none_ jH [_,_,_,_,_])
 refine RL.op rfl rfl (aC (vs:=[(vh h0),.slice none 0 0]) dr rfl rfl rfl (by intro u hu;simp only[U9,U2,or_false]at hu;rcases hu with rfl|rfl<;>first|rfl) hN 0 rfl rfl ?_)
 clear hN
 intro jj (hN:ak w none_ jj [_,_,_,_,_])
 refine RL.nil (ag ?_)
 iterate 2 refine RW.seq ?_
 have Df:=Vi.1 HG
 have yJ:=u6 (a:=r1) Df (by rw[Fw];rfl)
 have o6:r2.length=r1.length:=yJ r2 (by rw[Fw];simp)
 have PZ:r3.length=r1.length:=yJ r3 (by rw[Fw];simp)
 have TM:r4.length=r1.length:=yJ r4 (by rw[Fw];simp)
 have TL:r5.length=r1.length:=yJ r5 (by rw[Fw];simp)
 replace hN:=hN.eK bC 5 98
 refine RW.region (RL.ev (v:=.int .i64 (0)) rfl rfl aa (RL.nil (ag (RW.block ?_))))
 refine RW.loop (fun k R0 bT=>∃vm:Value,∃acc:List I5,∃i:Nat,R0 2=.pointer (some ⟨g1,0,none⟩)∧R0 5=y2∧R0 6=.pointer (some ⟨tY,0,none⟩)∧R0 7=.int .i64 ((i:Int))∧ak w none_ bT [.cV bC 5 98 (vm) (acc),.aA tY [(vh h0),vm] 28,.aA g3 [x2,.int .i64 (jL.2),.int .i64 ((cU (jL,oI) (mY.drop 1)).2)] 175,.own vh 25 (y2) (ff),.dT vi (ff) (mY),.aA g1 [.slice none 0 0,.slice none 0 0] 28]∧(i+k=r1.length)∧(acc=(V0 i).map fun q=>jF ([r1,r2,r3,r4,r5].map fun r=>(r[q]?).getD 0))∧(acc.length=i)) (r1.length) ?_ ?_
 exact⟨.slice none 0 0,[],0,rfl,rfl,rfl,rfl,hN,by omega,rfl,rfl⟩
 clear hN
 rintro k R0 bT ⟨vm,acc,i,bF,bM,dd,cd,hN,eR,hJ,fG⟩
 have bY:∃b6,R0=(aZ (aZ (aZ (aZ b6 2 _) 5 _) 6 _) 7 _):=⟨R0,by rw[ai bF,ai bM,ai dd,ai cd]⟩
 obtain⟨b6,rfl⟩:=bY
 clear bF bM dd cd
 iterate 2 refine RW.seq ?_
 refine RW.region (RL.ev (v:=.int .i64 ((i:Int))) rfl rfl U (RL.ev (v:=y2) rfl rfl U (RL.ev rfl rfl (aB U7 b7 (hN.sl 3 rfl) rfl rfl (by omega) (by omega)) (RL.ev rfl rfl (aF (m:=1) (a:=h1) UW rfl (hN.sl 3 rfl) rfl Cz) ?_))))
 have I0:=((hN.dx 4 rfl).2 _ _ _ Cz j9).1.aY
 refine RL.ev rfl rfl (aQ UW ((hN.dx 4 rfl).2 _ _ _ Cz j9).1 rfl) (RL.ev rfl rfl (aV rfl rfl) (RL.nil (ag ?_)))
 refine RW.aN _ rfl (fun bW=>?_) (fun bW=>?_)
 refine RW.skip (ag (RW.seq (RW.block ?_)))
 replace hN:=hN.ext (Ext.drew bT)
 refine RW.cb rfl (fun u=>ak w none_ u [.aA tY [(vh h0),vm] 28,.aA g3 [x2,.int .i64 (jL.2),.int .i64 ((cU (jL,oI) (mY.drop 1)).2)] 175,.own vh 25 (y2) (ff),.dT vi (ff) (mY),.aA g1 [.slice none 0 0,.slice none 0 0] 28]) 37 [(0,0),(1,0),(2,0),(3,0),(4,0),(5,0),(6,0),(7,0),(8,0),(9,0),(10,0),(11,0),(12,0),(13,0),(14,0),(15,0),(16,0),(17,0),(18,0),(19,0),(20,0),(21,0),(22,0),(23,0),(24,0),(25,0),(26,0),(27,0),(28,0),(29,0),(30,0),(31,0),(32,0),(33,0),(34,1),(35,1),(36,0),(37,2)] (by intro _ _ _ h;exact h) (by kernel_rfl) (hN.sub [1,2,3,4,5] (by decide) rfl) (RQ.ev rfl rfl (fun w hS=>(ah Vb rfl fJ (by decide) rfl)) (RQ.ev rfl rfl (fun w hS=>(aj Vg rfl rfl (hS.aA 0 rfl) rfl)) (RQ.ev (v:=y2) rfl rfl (fun w hS=>U) (RQ.ev rfl rfl (fun w hS=>(aB U7 b7 (hS.sl 2 rfl) rfl rfl (by omega) (by omega))) (RQ.ev rfl rfl (fun w hS=>(aF (m:=1) (a:=h1) UW rfl (hS.sl 2 rfl) rfl Cz)) (RQ.ev (v:=.int .i64 ((i:Int))) rfl rfl (fun w hS=>U) (RQ.ev rfl rfl (fun w hS=>(aB UW bu ((hS.dx 3 rfl).2 _ _ _ Cz j9).1 rfl rfl (by omega) (by omega))) ?_)))))))
 have aw:∃a_,(r1)[i]?=some a_:=⟨_,UT (by omega)⟩
 obtain⟨zj,FH⟩:=aw
 refine RQ.ev rfl rfl (fun w hS=>(aF (m:=i) (a:=zj) UU rfl ((hS.dx 3 rfl).2 _ _ _ Cz j9).1 rfl FH)) (RQ.ev (v:=y2) rfl rfl (fun w hS=>U) (RQ.ev rfl rfl (fun w hS=>(aB U7 b7 (hS.sl 2 rfl) rfl rfl (by omega) (by omega))) (RQ.ev rfl rfl (fun w hS=>(aF (m:=2) (a:=h2) UW rfl (hS.sl 2 rfl) rfl Ky)) (RQ.ev (v:=.int .i64 ((i:Int))) rfl rfl (fun w hS=>U) (RQ.ev rfl rfl (fun w hS=>(aB UW bu ((hS.dx 3 rfl).2 _ _ _ Ky pP).1 rfl rfl (by omega) (by omega))) ?_)))))
 have aw:∃a_,(r2)[i]?=some a_:=⟨_,UT (by omega)⟩
 obtain⟨zi,FG⟩:=aw
 refine RQ.ev rfl rfl (fun w hS=>(aF (m:=i) (a:=zi) UU rfl ((hS.dx 3 rfl).2 _ _ _ Ky pP).1 rfl FG)) (RQ.ev (v:=y2) rfl rfl (fun w hS=>U) (RQ.ev rfl rfl (fun w hS=>(aB U7 b7 (hS.sl 2 rfl) rfl rfl (by omega) (by omega))) (RQ.ev rfl rfl (fun w hS=>(aF (m:=3) (a:=h3) UW rfl (hS.sl 2 rfl) rfl Kx)) (RQ.ev (v:=.int .i64 ((i:Int))) rfl rfl (fun w hS=>U) (RQ.ev rfl rfl (fun w hS=>(aB UW bu ((hS.dx 3 rfl).2 _ _ _ Kx HD).1 rfl rfl (by omega) (by omega))) ?_)))))
 have aw:∃a_,(r3)[i]?=some a_:=⟨_,UT (by omega)⟩
 obtain⟨vj,FE⟩:=aw
 refine RQ.ev rfl rfl (fun w hS=>(aF (m:=i) (a:=vj) UU rfl ((hS.dx 3 rfl).2 _ _ _ Kx HD).1 rfl FE)) (RQ.ev (v:=y2) rfl rfl (fun w hS=>U) (RQ.ev rfl rfl (fun w hS=>(aB U7 b7 (hS.sl 2 rfl) rfl rfl (by omega) (by omega))) (RQ.ev rfl rfl (fun w hS=>(aF (m:=4) (a:=h4) UW rfl (hS.sl 2 rfl) rfl PS)) (RQ.ev (v:=.int .i64 ((i:Int))) rfl rfl (fun w hS=>U) (RQ.ev rfl rfl (fun w hS=>(aB UW bu ((hS.dx 3 rfl).2 _ _ _ PS N3).1 rfl rfl (by omega) (by omega))) ?_)))))
 have aw:∃a_,(r4)[i]?=some a_:=⟨_,UT (by omega)⟩
 obtain⟨Gk,Np⟩:=aw
 refine RQ.ev rfl rfl (fun w hS=>(aF (m:=i) (a:=Gk) UU rfl ((hS.dx 3 rfl).2 _ _ _ PS N3).1 rfl Np)) (RQ.ev (v:=y2) rfl rfl (fun w hS=>U) (RQ.ev rfl rfl (fun w hS=>(aB U7 b7 (hS.sl 2 rfl) rfl rfl (by omega) (by omega))) (RQ.ev rfl rfl (fun w hS=>(aF (m:=5) (a:=h5) UW rfl (hS.sl 2 rfl) rfl PR)) (RQ.ev (v:=.int .i64 ((i:Int))) rfl rfl (fun w hS=>U) (RQ.ev rfl rfl (fun w hS=>(aB UW bu ((hS.dx 3 rfl).2 _ _ _ PR N2).1 rfl rfl (by omega) (by omega))) ?_)))))
 have aw:∃a_,(r5)[i]?=some a_:=⟨_,UT (by omega)⟩
 obtain⟨Gj,Nn⟩:=aw
 refine RQ.ev rfl rfl (fun w hS=>(aF (m:=i) (a:=Gj) UU rfl ((hS.dx 3 rfl).2 _ _ _ PR N2).1 rfl Nn)) (RQ.ev rfl rfl (fun w hS=>(bh (cs:=[.int .i64 (vj),.int .i64 (Gk),.int .i64 (Gj)]) Vj Du (places:=#[(0,1),(1,1),(2,1)]) (by intro w;kernel_rfl) (pl:=[(0,.tmp 54),(1,.tmp 60),(2,.tmp 66)]) rfl (ps:=[(0,.int .i64 (vj)),(1,.int .i64 (Gk)),(2,.int .i64 (Gj))]) rfl (zc:=[.int .i64 (0),.int .i64 (0),.int .i64 (0)]) rfl (aP (vs:=[.int .i64 (vj)]) rfl rfl (US rfl) (aP (vs:=[.int .i64 (Gk)]) rfl rfl (US rfl) (aP (vs:=[.int .i64 (Gj)]) rfl rfl (US rfl) rfl))))) (RQ.ev rfl rfl (fun w hS=>(bh (cs:=[.int .i64 (zj),.int .i64 (zi),.int .i64 (vj),.int .i64 (Gk),.int .i64 (Gj)]) U0 ft (places:=#[(0,1),(1,1),(2,3)]) (by intro w;kernel_rfl) (pl:=[(0,.tmp 42),(1,.tmp 48),(2,.tmp 67)]) rfl (ps:=[(0,.int .i64 (zj)),(1,.int .i64 (zi)),(2,.agg #[.int .i64 (vj),.int .i64 (Gk),.int .i64 (Gj)])]) rfl (zc:=[.int .i64 (0),.int .i64 (0),.int .i64 (0),.int .i64 (0),.int .i64 (0)]) rfl (aP (vs:=[.int .i64 (zj)]) rfl rfl (US rfl) (aP (vs:=[.int .i64 (zi)]) rfl rfl (US rfl) (aP (vs:=[.int .i64 (vj),.int .i64 (Gk),.int .i64 (Gj)]) rfl rfl (US rfl) rfl))))) ?_))
 refine RQ.do rfl rfl (iz (cf:=bC) (s:=5) (pl:=[(0,.tmp 68)]) (ps:=[(0,.agg #[.int .i64 (zj),.int .i64 (zi),.int .i64 (vj),.int .i64 (Gk),.int .i64 (Gj)])]) (zc:=[.int .i64 (0),.int .i64 (0),.int .i64 (0),.int .i64 (0),.int .i64 (0)]) (l:=[(zj,zi,vj,Gk,Gj)]) Vg Bg (by kernel_rfl) rfl rfl (aP (vs:=[.int .i64 (zj),.int .i64 (zi),.int .i64 (vj),.int .i64 (Gk),.int .i64 (Gj)]) rfl rfl (US rfl) rfl) bb rfl (by decide) (by decide) (by decide) hN ?_)
 clear hN
 intro Uc zy (hN:ak w none_ zy [_,_,_,_,_,_,_])
 refine⟨(hN.sub [2,3,4,5,6] (by decide) rfl),?_⟩
 refine RQ.do rfl rfl (ez Vg Bg rfl (by decide) pJ bb hN 1 rfl rfl (hN.sm 0 rfl) rfl (by(try simp only[UX,U3,U6,Vc]);omega) (by decide) ?_)
 clear hN
 intro v20 vz (hN:ak w none_ vz [_,_,_,_,_,_,_])
 refine⟨(hN.sub [2,3,4,5,6] (by decide) rfl),?_⟩
 refine RQ.ev rfl rfl (fun w hS=>(ah Vb rfl fJ (by decide) rfl)) ?_
 refine RQ.last rfl rfl (b9 fJ rfl rfl (hN.sm 1 rfl).cO (hN.sm 1 rfl).bJ hN 2 rfl (US rfl) ?_)
 clear hN
 intro zx (hN:ak w none_ zx [_,_,_,_,_,_,_])
 refine RZ.done (by kernel_rfl) (a7 (ag (RW.region (RL.ev (v:=.int .i64 ((i:Int))) rfl rfl U (RL.ev rfl rfl (an rfl rfl rfl (bc (by omega) (by omega))) (RL.ev (v:=.int .i64 ((i:Int)+1)) rfl rfl aa (RL.nil (ag ?_))))))))
 exact⟨k-1,by omega,v20,acc++[(zj,zi,vj,Gk,Gj)],i+1,rfl,rfl,rfl,rfl,(hN.sub [1,2,3,4,5,6] (by decide) rfl),by omega,by rw[WD,V5,←hJ];simp only[jF,VC,We,Ze,Zf,FH,FG,FE,Np,Nn,Yb],by(try simp only[UX,U3]);omega⟩
 refine RW.exit ?_
 iterate 2 refine bm ?_
 refine aO (ag (RW.seq (RW.region (RL.ev rfl rfl (aG (cs:=[(vh h0),vm]) Vb rfl dr rfl (hN.aA 1 rfl)) ?_))))
 refine RL.op rfl rfl (aC (vs:=[(vh h0),vm]) dr rfl rfl rfl (by intro u hu;simp only[U9,U2,or_false]at hu;rcases hu with rfl|rfl<;>first|rfl|exact(hN.sm 0 rfl).bJ) hN 5 rfl rfl ?_)
 clear hN
 intro BM (hN:ak w none_ BM [_,_,_,_,_,_])
 refine RL.ev (v:=.bool true) rfl rfl aa (RL.nil (ag (RW.ret (aL (RV.bV rfl rfl (bI (hN.aA 5 rfl) Vb rfl dr)) ?_))))
 rw[EX (ws:=acc) sL Df Aj (by rw[Fw,hJ,show i=r1.length by omega];rfl)]at e
 cases e
 exact⟨_,_,h0,_,rfl,⟨mP,Aj⟩,hN.sub [4,0] (by decide) rfl⟩
end Go.Proofs.YtngkdkbpgoddlaaGreat
namespace Go.Proofs.YtngkdkbpgoddlaaGreat
open Go.RowKit Go.Rl
open Go.Gr Go.cP Go.hO
theorem jz {t:RT} {each:Nat} {s1:St} {b1:Int} {l1:List (List Int)} (h:bH t each=((s1,b1),l1)) (he:each≤2):s1.1.length≤t.1.1.length∧l1.length≤2000∧∀r∈l1,r.length≤t.1.1.length:=by
  have h1:=fw t
  unfold bH at h
  split at h
  · rename_i n hn
    have Px:n≤1000:=by
      unfold qe at hn
      split at hn
      · split at hn
        · cases hn
        · cases hn;omega
      · cases hn
    have h2:=gA (each*n) (dz t).1
    have h3:=mA (each*n) (dz t).1
    rw[h]at h2 h3
    dsimp only at h2 h3
    have h4:each*n≤2000:=Vf (Yz he Px) (by decide)
    exact⟨Vf h2.1 h1,by omega,fun r hr=>Vf (h2.2 r hr) h1⟩
  · cases h
    exact⟨h1,VP _,fun r hr=>by cases hr⟩
theorem DC {l:List UInt8} {t0 t1 t6 t7:RT} {s2 s4:St} {b2 b3 b4 b5:Int} {g:List Int} {far o2 i2 so si:List (List Int)} {outs ins:List (List I2)} (h0:dz ((l,0),0)=(t0,g)) (h1:bH t0 1=(t1,far)) (h2:bH t1 2=((s2,b2),o2)) (h3:df o2 (s2,b2)=((s2,b3),outs)) (h4:bH (s2,b3) 2=((s4,b4),i2)) (h5:df i2 (s4,b4)=((s4,b5),ins)) (h6:bH (s4,b5) 1=(t6,so)) (h7:bH t6 1=(t7,si)):
    jI l=(t7,(g,far,outs,ins,so,si)):=by
  have e:dz (tq l)=(t0,g):=h0
  unfold jI
  simp only[e,h1,h2,h3,h4,h5,h6,h7]
theorem mN (v:Value) (l:List UInt8) (w:World) (hv:Sl vb w v l) (hl:l.length≤1048576) {s1:St} {b1:Int} {q:Ic} (e:jI l=((s1,b1),q)):al UY 55 #[v] w fun r w'=>∃gv fv ov iv cD cE hf ho fk gL gF,r=.tuple #[.agg #[gv,fv,ov,iv,cD,cE],.bool (decide (fE (s1,b1)))]∧ak w none_ w' [.own vI 3 gv q.1,.own vh 25 fv hf,.dT vI hf q.2.1,.own vh 118 ov ho,.ek bk ho q.2.2.1,.own vh 118 iv fk,.ek bk fk q.2.2.2.1,.own vh 25 cD gL,.dT vI gL q.2.2.2.2.1,.own vh 25 cE gF,.dT vI gF q.2.2.2.2.2]:=by
 refine al.start Tryz.func55 rfl (US rfl) ?_
 rw[bL]
 have hN:=ak.nil w none_
 obtain⟨b,IV⟩:∃b,b=w.heap.size:=⟨_,rfl⟩
 have hB:jD vb b w v l:=by rw[IV];exact hv.below
 have kS:b≤w.heap.size:=Xn IV
 refine RW.seq (RW.region ?_)
 refine RL.op rfl rfl (aX (cs:=[.slice none 0 0,.slice none 0 0,.slice none 0 0,.slice none 0 0,.slice none 0 0,.slice none 0 0]) oQ rfl hN ?_)
 clear hN
 intro g1 w1 (hN:ak w none_ w1 [_])
 refine RL.ev (v:=.bool false) rfl rfl aa (RL.nil (ag (RW.seq (RW.region (RL.ev (v:=v) rfl rfl U (RL.ev rfl rfl (bh (cs:=[v,.int .i64 (0)]) Vk iq (places:=#[(0,1),(1,1)]) (by intro w;kernel_rfl) (pl:=[(0,.tmp 19)]) rfl (ps:=[(0,v)]) rfl (zc:=[.slice none 0 0,.int .i64 (0)]) rfl (aP (vs:=[v]) (hB.1.ext hN.aE).cO rfl (US rfl) rfl)) (RL.ev rfl rfl (bh (cs:=[v,.int .i64 (0),.int .i64 (0)]) Vp dN (places:=#[(0,2),(2,1)]) (by intro w;kernel_rfl) (pl:=[(0,.tmp 20)]) rfl (ps:=[(0,.agg #[v,.int .i64 (0)])]) rfl (zc:=[.slice none 0 0,.int .i64 (0),.int .i64 (0)]) rfl (aP (vs:=[v,.int .i64 (0)]) rfl rfl (US rfl) rfl)) ?_)))))))
 have gV:∃s1 b1 l1,dz ((l,0),0)=((s1,b1),l1):=⟨_,_,_,rfl⟩
 obtain⟨jL,oI,mY,sL⟩:=gV
 have lC:=fw ((l,0),0)
 rw[sL]at lC
 have Nu:=lO ((l,0),0)
 rw[sL]at Nu
 dsimp only at lC Nu
 refine RL.op rfl rfl (aM Y7 rfl rfl rfl ((kI b _ (l,0) 0 _ (hB.ext hN.aE) (Vf kS hN.size) sL).mono ?_))
 rintro _ w2 ⟨x2,y2,rfl,xg,D4,aW⟩
 have fo:=hN.bx D4 aW
 replace xg:=xg.back fo.aE kS
 clear D4 aW
 clear hN
 have hN:ak w none_ w2 [_,_]:=fo
 clear fo
 refine RL.ev (v:=.tuple #[.agg #[x2,.int .i64 (jL.2),.int .i64 (oI)],y2]) rfl rfl U ?_
 iterate 2 refine RL.ev rfl rfl (bg rfl rfl) ?_
 refine RL.op rfl rfl (aX (cs:=[.slice none 0 0,.int .i64 (0),.int .i64 (0)]) dN rfl hN ?_)
 clear hN
 intro g3 w3 (hN:ak w none_ w3 [_,_,_])
 refine RL.op rfl rfl (aC (vs:=[x2,.int .i64 (jL.2),.int .i64 (oI)]) cz rfl rfl rfl (by intro u hu;simp only[U9,U2,or_false]at hu;rcases hu with rfl|rfl|rfl<;>first|rfl|exact(xg.1.ext hN.aE).bJ) hN 0 rfl rfl ?_)
 clear hN
 intro w4 (hN:ak w none_ w4 [_,_,_])
 refine RL.ev (v:=y2) rfl rfl aa (RL.nil (ag (RW.seq (RW.region (RL.ev rfl rfl (aG (cs:=[x2,.int .i64 (jL.2),.int .i64 (oI)]) Vp rfl cz rfl (hN.aA 0 rfl)) ?_)))))
 have gV:∃s1 b1 l1,bH (jL,oI) 1=((s1,b1),l1):=⟨_,_,_,rfl⟩
 obtain⟨LR,CZ,Ur,Qt⟩:=gV
 refine RL.op rfl rfl (aR XP rfl rfl rfl rfl ((fx b _ jL oI 1 _ (xg.ext hN.aE) (Vf kS hN.size) Qt (by decide)).mono ?_))
 rintro _ w5 ⟨x5,y5,O4,rfl,Gu,bE⟩
 have fo:=hN.dU bE
 replace Gu:=Gu.back fo.aE kS
 clear bE
 clear hN
 have hN:ak w none_ w5 [_,_,_,_,_]:=fo
 clear fo
 have P2:=jz Qt (by decide)
 dsimp only at P2
 refine RL.ev (v:=.tuple #[.agg #[x5,.int .i64 (LR.2),.int .i64 (CZ)],y5]) rfl rfl U ?_
 iterate 2 refine RL.ev rfl rfl (bg rfl rfl) ?_
 refine RL.op rfl rfl (aX (cs:=[.slice none 0 0,.int .i64 (0),.int .i64 (0)]) dN rfl hN ?_)
 clear hN
 intro g6 w6 (hN:ak w none_ w6 [_,_,_,_,_,_])
 refine RL.op rfl rfl (aC (vs:=[x5,.int .i64 (LR.2),.int .i64 (CZ)]) cz rfl rfl rfl (by intro u hu;simp only[U9,U2,or_false]at hu;rcases hu with rfl|rfl|rfl<;>first|rfl|exact(Gu.1.ext hN.aE).bJ) hN 0 rfl rfl ?_)
 clear hN
 intro w7 (hN:ak w none_ w7 [_,_,_,_,_,_])
 refine RL.ev (v:=y5) rfl rfl aa (RL.nil (ag (RW.seq (RW.region (RL.ev rfl rfl (aG (cs:=[x5,.int .i64 (LR.2),.int .i64 (CZ)]) Vp rfl cz rfl (hN.aA 0 rfl)) ?_)))))
 have gV:∃s1 b1 l1,bH (LR,CZ) 2=((s1,b1),l1):=⟨_,_,_,rfl⟩
 obtain⟨tv,BF,OC,yQ⟩:=gV
 refine RL.op rfl rfl (aR XP rfl rfl rfl rfl ((fx b _ LR CZ 2 _ (Gu.ext hN.aE) (Vf kS hN.size) yQ (by decide)).mono ?_))
 rintro _ w8 ⟨x8,y8,NY,rfl,Lr,bE⟩
 have fo:=hN.dU bE
 replace Lr:=Lr.back fo.aE kS
 clear bE
 clear hN
 have hN:ak w none_ w8 [_,_,_,_,_,_,_,_]:=fo
 clear fo
 have Nb:=jz yQ (by decide)
 dsimp only at Nb
 refine RL.ev (v:=.tuple #[.agg #[x8,.int .i64 (tv.2),.int .i64 (BF)],y8]) rfl rfl U ?_
 iterate 2 refine RL.ev rfl rfl (bg rfl rfl) ?_
 refine RL.op rfl rfl (aX (cs:=[.slice none 0 0,.int .i64 (0),.int .i64 (0)]) dN rfl hN ?_)
 clear hN
 intro g9 w9 (hN:ak w none_ w9 [_,_,_,_,_,_,_,_,_])
 refine RL.op rfl rfl (aC (vs:=[x8,.int .i64 (tv.2),.int .i64 (BF)]) cz rfl rfl rfl (by intro u hu;simp only[U9,U2,or_false]at hu;rcases hu with rfl|rfl|rfl<;>first|rfl|exact(Lr.1.ext hN.aE).bJ) hN 0 rfl rfl ?_)
 clear hN
 intro jH (hN:ak w none_ jH [_,_,_,_,_,_,_,_,_])
 refine RL.ev (v:=y8) rfl rfl aa (RL.nil (ag (RW.seq (RW.region (RL.ev rfl rfl (aG (cs:=[x8,.int .i64 (tv.2),.int .i64 (BF)]) Vp rfl cz rfl (hN.aA 0 rfl)) (RL.ev (v:=y8) rfl rfl U ?_))))))
 have gV:=uK _ OC tv BF (Vv _)
 obtain⟨Gi,SZ,Nw⟩:=gV
 refine RL.op rfl rfl (aR aax rfl rfl rfl rfl ((kh _ tv BF _ NY OC _ (Lr.1.ext hN.aE) (hN.sl 1 rfl) (hN.dx 2 rfl) Nw (by omega) (fun r hr=>Vf (Nb.2.2 r hr) (by omega))).mono ?_))
 rintro _ jj ⟨Jn,Tj,rfl,bE⟩
 replace hN:ak w none_ jj [_,_,_,_,_,_,_,_,_,_,_]:=hN.dU bE
 clear bE
 refine RL.ev (v:=.tuple #[.agg #[x8,.int .i64 (tv.2),.int .i64 (Gi)],Jn]) rfl rfl U ?_
 iterate 2 refine RL.ev rfl rfl (bg rfl rfl) ?_
 refine RL.op rfl rfl (aC (vs:=[x8,.int .i64 (tv.2),.int .i64 (Gi)]) cz rfl rfl rfl (by intro u hu;simp only[U9,U2,or_false]at hu;rcases hu with rfl|rfl|rfl<;>first|rfl|exact(Lr.1.ext hN.aE).bJ) hN 2 rfl rfl ?_)
 clear hN
 intro iP (hN:ak w none_ iP [_,_,_,_,_,_,_,_,_,_,_])
 refine RL.ev (v:=Jn) rfl rfl aa (RL.nil (ag (RW.seq (RW.region (RL.ev rfl rfl (aG (cs:=[x8,.int .i64 (tv.2),.int .i64 (Gi)]) Vp rfl cz rfl (hN.aA 2 rfl)) ?_)))))
 have gV:∃s1 b1 l1,bH (tv,Gi) 2=((s1,b1),l1):=⟨_,_,_,rfl⟩
 obtain⟨tw,Gh,L2,KS⟩:=gV
 refine RL.op rfl rfl (aR XP rfl rfl rfl rfl ((fx b _ tv Gi 2 _ (Lr.ext hN.aE) (Vf kS hN.size) KS (by decide)).mono ?_))
 rintro _ kC ⟨Lj,Oj,O7,rfl,Cc,bE⟩
 have fo:=hN.dU bE
 replace Cc:=Cc.back fo.aE kS
 clear bE
 clear hN
 have hN:ak w none_ kC [_,_,_,_,_,_,_,_,_,_,_,_,_]:=fo
 clear fo
 have IQ:=jz KS (by decide)
 dsimp only at IQ
 refine RL.ev (v:=.tuple #[.agg #[Lj,.int .i64 (tw.2),.int .i64 (Gh)],Oj]) rfl rfl U ?_
 iterate 2 refine RL.ev rfl rfl (bg rfl rfl) ?_
 refine RL.op rfl rfl (aX (cs:=[.slice none 0 0,.int .i64 (0),.int .i64 (0)]) dN rfl hN ?_)
 clear hN
 intro Oe lF (hN:ak w none_ lF [_,_,_,_,_,_,_,_,_,_,_,_,_,_])
 refine RL.op rfl rfl (aC (vs:=[Lj,.int .i64 (tw.2),.int .i64 (Gh)]) cz rfl rfl rfl (by intro u hu;simp only[U9,U2,or_false]at hu;rcases hu with rfl|rfl|rfl<;>first|rfl|exact(Cc.1.ext hN.aE).bJ) hN 0 rfl rfl ?_)
 clear hN
 intro k9 (hN:ak w none_ k9 [_,_,_,_,_,_,_,_,_,_,_,_,_,_])
 refine RL.ev (v:=Oj) rfl rfl aa (RL.nil (ag (RW.seq (RW.region (RL.ev rfl rfl (aG (cs:=[Lj,.int .i64 (tw.2),.int .i64 (Gh)]) Vp rfl cz rfl (hN.aA 0 rfl)) (RL.ev (v:=Oj) rfl rfl U ?_))))))
 have gV:=uK _ L2 tw Gh (Vv _)
 obtain⟨Gg,SX,Nv⟩:=gV
 refine RL.op rfl rfl (aR aax rfl rfl rfl rfl ((kh _ tw Gh _ O7 L2 _ (Cc.1.ext hN.aE) (hN.sl 1 rfl) (hN.dx 2 rfl) Nv (by omega) (fun r hr=>Vf (IQ.2.2 r hr) (by omega))).mono ?_))
 rintro _ oL ⟨Jm,O5,rfl,bE⟩
 replace hN:ak w none_ oL [_,_,_,_,_,_,_,_,_,_,_,_,_,_,_,_]:=hN.dU bE
 clear bE
 refine RL.ev (v:=.tuple #[.agg #[Lj,.int .i64 (tw.2),.int .i64 (Gg)],Jm]) rfl rfl U ?_
 iterate 2 refine RL.ev rfl rfl (bg rfl rfl) ?_
 refine RL.op rfl rfl (aC (vs:=[Lj,.int .i64 (tw.2),.int .i64 (Gg)]) cz rfl rfl rfl (by intro u hu;simp only[U9,U2,or_false]at hu;rcases hu with rfl|rfl|rfl<;>first|rfl|exact(Cc.1.ext hN.aE).bJ) hN 2 rfl rfl ?_)
 clear hN
 intro uu (hN:ak w none_ uu [_,_,_,_,_,_,_,_,_,_,_,_,_,_,_,_])
 refine RL.ev (v:=Jm) rfl rfl aa (RL.nil (ag (RW.seq (RW.region (RL.ev rfl rfl (aG (cs:=[Lj,.int .i64 (tw.2),.int .i64 (Gg)]) Vp rfl cz rfl (hN.aA 2 rfl)) ?_)))))
 have gV:∃s1 b1 l1,bH (tw,Gg) 1=((s1,b1),l1):=⟨_,_,_,rfl⟩
 obtain⟨DT,Gf,SW,KR⟩:=gV
 refine RL.op rfl rfl (aR XP rfl rfl rfl rfl ((fx b _ tw Gg 1 _ (Cc.ext hN.aE) (Vf kS hN.size) KR (by decide)).mono ?_))
 rintro _ vA ⟨Ol,Jl,Th,rfl,Hf,bE⟩
 have fo:=hN.dU bE
 replace Hf:=Hf.back fo.aE kS
 clear bE
 clear hN
 have hN:ak w none_ vA [_,_,_,_,_,_,_,_,_,_,_,_,_,_,_,_,_,_]:=fo
 clear fo
 have Nd:=jz KR (by decide)
 dsimp only at Nd
 refine RL.ev (v:=.tuple #[.agg #[Ol,.int .i64 (DT.2),.int .i64 (Gf)],Jl]) rfl rfl U ?_
 iterate 2 refine RL.ev rfl rfl (bg rfl rfl) ?_
 refine RL.op rfl rfl (aX (cs:=[.slice none 0 0,.int .i64 (0),.int .i64 (0)]) dN rfl hN ?_)
 clear hN
 intro Uc zy (hN:ak w none_ zy [_,_,_,_,_,_,_,_,_,_,_,_,_,_,_,_,_,_,_])
 refine RL.op rfl rfl (aC (vs:=[Ol,.int .i64 (DT.2),.int .i64 (Gf)]) cz rfl rfl rfl (by intro u hu;simp only[U9,U2,or_false]at hu;rcases hu with rfl|rfl|rfl<;>first|rfl|exact(Hf.1.ext hN.aE).bJ) hN 0 rfl rfl ?_)
 clear hN
 intro vz (hN:ak w none_ vz [_,_,_,_,_,_,_,_,_,_,_,_,_,_,_,_,_,_,_])
 refine RL.ev (v:=Jl) rfl rfl aa (RL.nil (ag (RW.seq (RW.region (RL.ev rfl rfl (aG (cs:=[Ol,.int .i64 (DT.2),.int .i64 (Gf)]) Vp rfl cz rfl (hN.aA 0 rfl)) ?_)))))
 have gV:∃s1 b1 l1,bH (DT,Gf) 1=((s1,b1),l1):=⟨_,_,_,rfl⟩
 obtain⟨DS,Ge,SV,KQ⟩:=gV
 refine RL.op rfl rfl (aR XP rfl rfl rfl rfl ((fx b _ DT Gf 1 _ (Hf.ext hN.aE) (Vf kS hN.size) KQ (by decide)).mono ?_))
 rintro _ zx ⟨Ok,Jk,Tf,rfl,He,bE⟩
 have fo:=hN.dU bE
 replace He:=He.back fo.aE kS
 clear bE
 clear hN
 have hN:ak w none_ zx [_,_,_,_,_,_,_,_,_,_,_,_,_,_,_,_,_,_,_,_,_]:=fo
 clear fo
 have Nc:=jz KQ (by decide)
 dsimp only at Nc
 refine RL.ev (v:=.tuple #[.agg #[Ok,.int .i64 (DS.2),.int .i64 (Ge)],Jk]) rfl rfl U ?_
 iterate 2 refine RL.ev rfl rfl (bg rfl rfl) ?_
 refine RL.op rfl rfl (aX (cs:=[.slice none 0 0,.int .i64 (0),.int .i64 (0)]) dN rfl hN ?_)
 clear hN
 intro Ub BM (hN:ak w none_ BM [_,_,_,_,_,_,_,_,_,_,_,_,_,_,_,_,_,_,_,_,_,_])
 refine RL.op rfl rfl (aC (vs:=[Ok,.int .i64 (DS.2),.int .i64 (Ge)]) cz rfl rfl rfl (by intro u hu;simp only[U9,U2,or_false]at hu;rcases hu with rfl|rfl|rfl<;>first|rfl|exact(He.1.ext hN.aE).bJ) hN 0 rfl rfl ?_)
 clear hN
 intro Gs (hN:ak w none_ Gs [_,_,_,_,_,_,_,_,_,_,_,_,_,_,_,_,_,_,_,_,_,_])
 refine RL.ev (v:=Jk) rfl rfl aa (RL.nil (ag (RW.seq (RW.region (RL.ev (v:=y2) rfl rfl U (RL.ev (v:=y5) rfl rfl U (RL.ev (v:=Jn) rfl rfl U (RL.ev (v:=Jm) rfl rfl U (RL.ev (v:=Jl) rfl rfl U ?_)))))))))
 refine RL.ev (v:=Jk) rfl rfl U (RL.ev rfl rfl (bh (cs:=[y2,y5,Jn,Jm,Jl,Jk]) Vh oQ (places:=#[(0,1),(1,1),(2,1),(3,1),(4,1),(5,1)]) (by intro w;kernel_rfl) (pl:=[(0,.tmp 62),(1,.tmp 63),(2,.tmp 64),(3,.tmp 65),(4,.tmp 66),(5,.tmp 67)]) rfl (ps:=[(0,y2),(1,y5),(2,Jn),(3,Jm),(4,Jl),(5,Jk)]) rfl (zc:=[.slice none 0 0,.slice none 0 0,.slice none 0 0,.slice none 0 0,.slice none 0 0,.slice none 0 0]) rfl (aP (vs:=[y2]) (hN.sl 20 rfl).cO rfl (US rfl) (aP (vs:=[y5]) (hN.sl 17 rfl).cO rfl (US rfl) (aP (vs:=[Jn]) (hN.sl 11 rfl).cO rfl (US rfl) (aP (vs:=[Jm]) (hN.sl 6 rfl).cO rfl (US rfl) (aP (vs:=[Jl]) (hN.sl 4 rfl).cO rfl (US rfl) (aP (vs:=[Jk]) (hN.sl 1 rfl).cO rfl (US rfl) rfl))))))) (RL.ev rfl rfl (aG (cs:=[Ok,.int .i64 (DS.2),.int .i64 (Ge)]) Vp rfl cz rfl (hN.aA 0 rfl)) ?_))
 refine RL.op rfl rfl (aM Za rfl rfl rfl ((jY _ DS Ge _ (He.1.ext hN.aE)).mono ?_))
 rintro _ NR ⟨rfl,aW⟩
 replace hN:=hN.ext aW
 clear aW
 refine RL.op rfl rfl (aC (vs:=[y2,y5,Jn,Jm,Jl,Jk]) ga rfl rfl rfl (by intro u hu;simp only[U9,U2,or_false]at hu;rcases hu with rfl|rfl|rfl|rfl|rfl|rfl<;>first|rfl|exact(hN.sl 1 rfl).bJ|exact(hN.sl 11 rfl).bJ|exact(hN.sl 17 rfl).bJ|exact(hN.sl 20 rfl).bJ|exact(hN.sl 4 rfl).bJ|exact(hN.sl 6 rfl).bJ) hN 21 rfl rfl ?_)
 clear hN
 intro Lm (hN:ak w none_ Lm [_,_,_,_,_,_,_,_,_,_,_,_,_,_,_,_,_,_,_,_,_,_])
 refine RL.ev (v:=.bool (decide (fE (DS,Ge)))) rfl rfl aa (RL.nil (ag (RW.ret (aL (RV.bV rfl rfl (bI (hN.aA 21 rfl) Vh rfl ga)) ?_))))
 rw[DC sL Qt yQ Nw KS Nv KR KQ]at e
 cases e
 exact⟨_,_,_,_,_,_,_,_,_,_,_,rfl,hN.sub [20,17,18,11,12,6,7,4,5,1,2] (by decide) rfl⟩
end Go.Proofs.YtngkdkbpgoddlaaGreat
namespace Go.Gr
open Go.Rl Go.cP Go.hO
theorem pf {β:Type} {f:β→List UInt8} {l:List β} {i:Nat} {x:β} (h:l[i]?=some x):((l.take (i+1)).map f).flatten=((l.take i).map f).flatten++f x:=by
  rw[dH h];simp
theorem FV {β:Type} (f:β→List UInt8) (l:List β) (i:Nat):(((l.take i).map f).flatten).length≤((l.map f).flatten).length:=by
  have e:(l.map f).flatten=((l.take i).map f).flatten++((l.drop i).map f).flatten:=by
    rw[←WC,←V5,Yi]
  rw[e,UX];omega
theorem u5 {β:Type} {f:β→List UInt8} {l:List β} {i:Nat} {x:β} (h:l[i]?=some x):(((l.take i).map f).flatten).length+(f x).length≤((l.map f).flatten).length:=by
  have h1:=FV f l (i+1)
  rw[pf h,UX]at h1
  exact h1
theorem rG (ls:List (List Int)):(ct ls).flatten=aK [(ls.length:Int)]++(ls.map aK).flatten:=by unfold ct;rw[Vx]
def nr (r:List I2):List UInt8:=aK (r.map fun a=>a.1)++aK (r.map fun a=>a.2)
theorem zM (r:List I2):(nr r).length=8+16*r.length:=by unfold nr;rw[UX,aS,aS,Vl,Vl];omega
theorem pA (ls:List (List I2)):(cu ls).flatten=aK [(ls.length:Int)]++(ls.map nr).flatten:=by
  have e:(ls.flatMap eH).flatten=(ls.map nr).flatten:=by
    rw[Xw,Xa,Wz]
    congr 1
    apply WZ
    intro r _
    simp[eH,nr]
  unfold cu;rw[Vx,e]
def I7:Nat→I5→Int
  |0,a=>a.1
  |1,a=>a.2.1
  |2,a=>a.2.2.1
  |3,a=>a.2.2.2.1
  |_,a=>a.2.2.2.2
theorem K1 (a:I5) {k:Nat} (h:k<5):([a.1,a.2.1,a.2.2.1,a.2.2.2.1,a.2.2.2.2]:List Int)[k]?=some (I7 k a):=by
  have:k=0∨k=1∨k=2∨k=3∨k=4:=by omega
  rcases this with rfl|rfl|rfl|rfl|rfl<;>rfl
def oH (ws:List I5) (k:Nat):List UInt8:=((V0 k).map fun q=>aK (ws.map (I7 q))).flatten
theorem gk (ws:List I5) (k:Nat):oH ws (k+1)=oH ws k++aK (ws.map (I7 k)):=by unfold oH;rw[WD];simp
theorem CT (ws:List I5) (k:Nat):(oH ws k).length=k*(4+8*ws.length):=by
  induction k with
  |zero=>simp[oH]
  |succ k ih=>rw[gk,UX,ih,aS,Vl,aaG];omega
theorem At (rk:List Int) (ws:List I5):(eL rk ws).flatten=aK rk++oH ws 5:=by
  rw[gk,gk,gk,gk,gk]
  simp[eL,oH,I7]
  rfl
theorem kb {α β:Type} {f:α→β} {l:List α} {i:Nat} {x:α} (h:l[i]?=some x):(l.take i).map f++[f x]=(l.take (i+1)).map f:=by rw[dH h];simp
theorem Cl (n:Int) (ar:List I3):(ij n ar).flatten=aK [n]++aK (ar.map fun a=>a.1)++aK (ar.map fun a=>a.2.1)++aK (ar.map fun a=>a.2.2):=by simp[ij]
theorem rm (g:List Int) (far:List (List Int)) (outs ins:List (List I2)) (so si:List (List Int)):(dI g far outs ins so si).flatten=aK g++(ct far).flatten++(cu outs).flatten++(cu ins).flatten++(ct so).flatten++(ct si).flatten:=by simp[dI]
end Go.Gr
namespace Go.Proofs.YtngkdkbpgoddlaaGreat
open Go.RowKit Go.Rl
open Go.Gr Go.cP Go.hO
theorem du (bv:Value) (bl:List UInt8) (w:World) (hN:ak w (aT [.own vb 5 (bv) (bl)]) w [.own vb 5 (bv) (bl)]) (lv:Value) (l:List Int) (hl:nR (aT [.own vb 5 (bv) (bl)]) vI w lv l) (hz:bl.length+(4+8*l.length)≤140737488351232):al UY 179 #[bv,lv] w fun r w'=>ak w (aT [.own vb 5 (bv) (bl)]) w' [.own vb 5 (r) (bl++aK l)]:=by
 refine al.start WA rfl (US rfl) ?_
 rw[cc]
 refine RW.seq (RW.region (RL.ev (v:=.slice none 0 0) rfl rfl aa (RL.nil (ag (RW.seq (RW.region (RL.ev (v:=bv) rfl rfl U (RL.ev (v:=lv) rfl rfl U ?_))))))))
 refine RL.op rfl rfl (aM abH rfl rfl rfl ((tG _ l _ (hl.now hN) (by(try simp only[UX,Vs,Vt,Vc,U6,U3,Vw,UX,Vl]);omega)).mono ?_))
 rintro v1 w1 ⟨cx,aW⟩
 replace hN:ak w (aT [.own vb 5 (bv) (bl)]) w1 [_,_]:=hN.bx (l:=aK l) cx aW
 clear cx aW
 refine RL.op rfl rfl (bD U1 j4 rfl hZ hN 1 rfl rfl (hN.sl 0 rfl) rfl (by rw[aS];omega) (by decide) ?_)
 clear hN
 intro v2 w2 (hN:ak w (aT [.own vb 5 (bv) (bl)]) w2 [_,_])
 refine RL.ev (v:=v2) rfl rfl aa (RL.nil (ag (RW.seq (RW.region (RL.ev (v:=v2) rfl rfl U (RL.ev (v:=v2) rfl rfl aa (RL.nil (ag (RW.ret ?_)))))))))
 refine aL (RV.tmp rfl) ?_
 exact hN.sub [1] (by decide) rfl
theorem kL (bv:Value) (bl:List UInt8) (w:World) (hN:ak w (aT [.own vb 5 (bv) (bl)]) w [.own vb 5 (bv) (bl)]) (lv:Value) (hs:List Hd) (ls:List (List Int)) (h1:nR (aT [.own vb 5 (bv) (bl)]) vh w lv hs) (ef:ep (aT [.own vb 5 (bv) (bl)]) vI w hs ls) (hz:bl.length+(ct ls).flatten.length≤140737488351232):al UY 180 #[bv,lv] w fun r w'=>ak w (aT [.own vb 5 (bv) (bl)]) w' [.own vb 5 (r) (bl++(ct ls).flatten)]:=by
 refine al.start Zb rfl (US rfl) ?_
 rw[cc]
 have Cy:=ef.1
 have sD:=rG ls
 have LA:=congrArg Wc sD
 rw[UX,aS]at LA
 simp only[U3]at LA
 refine RW.seq (RW.region (RL.ev (v:=.slice none 0 0) rfl rfl aa (RL.nil (ag (RW.seq (RW.region (RL.ev (v:=bv) rfl rfl U (RL.ev (v:=lv) rfl rfl U ?_))))))))
 have iF:=(h1.now hN).aY
 refine RL.ev rfl rfl (aQ U7 (h1.now hN) rfl) ?_
 rw[Cy]
 refine RL.op rfl rfl (bS (enc:=vi) (l:=[(ls.length:Int)]) (xs:=[.tmp 8]) UW bu mu rfl rfl (fun _=>rfl) rfl (by decide) (by decide) hN ?_)
 clear hN
 intro g2 w2 (hN:ak w (aT [.own vb 5 (bv) (bl)]) w2 [_,_])
 refine RL.op rfl rfl (aR WA rfl rfl rfl rfl ((du _ bl _ (hN.bZ (M:=[_]) [1] (by decide) rfl) _ ([(ls.length:Int)]) (hN.kF (M:=[.own vb 5 (bv) (bl)]) 0 rfl [1] rfl rfl) (by(try simp only[UX,Vc,U3,Vl,aS]);omega)).mono ?_))
 rintro v3 w3 bE
 replace hN:ak w (aT [.own vb 5 (bv) (bl)]) w3 [_,_]:=ak.bX (M:=[_]) (N:=[_]) (hN.sub [1,0] (by decide) rfl) bE
 clear bE
 refine RL.ev (v:=v3) rfl rfl aa (RL.nil (ag ?_))
 iterate 2 refine RW.seq ?_
 refine RW.region (RL.ev (v:=.int .i64 (0)) rfl rfl aa (RL.nil (ag (RW.block ?_))))
 refine RW.loop (fun k R0 bT=>∃vo:Value,∃bo:List UInt8,∃i:Nat,R0 0=vo∧R0 1=lv∧R0 5=.int .i64 ((i:Int))∧ak w (aT [.own vb 5 (bv) (bl)]) bT [.own vb 5 (vo) (bo),.own vi 3 (.slice (some ⟨g2,0,none⟩) 1 1) ([(ls.length:Int)])]∧(i+k=ls.length)∧(bo=bl++aK [(ls.length:Int)]++((ls.take i).map aK).flatten)) (ls.length) ?_ ?_
 exact⟨v3,bl++aK ([(ls.length:Int)]),0,rfl,rfl,rfl,hN,by omega,by simp⟩
 clear hN
 rintro k R0 bT ⟨vo,bo,i,bN,bw,bM,hN,eR,yN⟩
 have bY:∃b6,R0=(aZ (aZ (aZ b6 0 _) 1 _) 5 _):=⟨R0,by rw[ai bN,ai bw,ai bM]⟩
 obtain⟨b6,rfl⟩:=bY
 clear bN bw bM
 iterate 2 refine RW.seq ?_
 refine RW.region (RL.ev (v:=.int .i64 ((i:Int))) rfl rfl U (RL.ev (v:=lv) rfl rfl U (RL.ev rfl rfl (aQ U7 (h1.now hN) rfl) (RL.ev rfl rfl (aV rfl rfl) (RL.nil (ag ?_))))))
 refine RW.aN _ rfl (fun bW=>?_) (fun bW=>?_)
 refine RW.skip (ag (RW.seq (RW.block (RW.region (RL.ev (v:=vo) rfl rfl U (RL.ev (v:=lv) rfl rfl U (RL.ev (v:=.int .i64 ((i:Int))) rfl rfl U (RL.ev rfl rfl (aB U7 b7 (h1.now hN) rfl rfl (by omega) (by omega)) ?_))))))))
 have aw:∃a_,(hs)[i]?=some a_:=⟨_,UT (by omega)⟩
 obtain⟨ap,bG⟩:=aw
 have aw:∃l_,(ls)[i]?=some l_:=⟨_,UT (by have:=ef.1;omega)⟩
 obtain⟨lp,dp⟩:=aw
 refine RL.ev rfl rfl (aF (m:=i) (a:=ap) UW rfl (h1.now hN) rfl bG) ?_
 have IU:=congrArg Wc yN
 simp only[UX,aS,U3]at IU
 have Ka:=u5 (f:=aK) dp
 rw[aS]at Ka
 refine RL.op rfl rfl (aR WA rfl rfl rfl rfl ((du _ bo _ (hN.bZ (M:=[_]) [0] (by decide) rfl) _ lp ((ef.fX bG dp).step (hN.sub (M:=[.own vb 5 (vo) (bo)]) [0] (by decide) rfl)) (by(try simp only[UX,Vc,U3,Vl,aS]);omega)).mono ?_))
 rintro v4 w4 bE
 replace hN:ak w (aT [.own vb 5 (bv) (bl)]) w4 [_,_]:=ak.bX (M:=[_]) (N:=[_]) (hN.sub [0,1] (by decide) rfl) bE
 clear bE
 refine RL.ev (v:=v4) rfl rfl aa (RL.nil (a7 (ag (RW.region (RL.ev (v:=.int .i64 ((i:Int))) rfl rfl U (RL.ev rfl rfl (an rfl rfl rfl (bc (by omega) (by omega))) (RL.ev (v:=.int .i64 ((i:Int)+1)) rfl rfl aa (RL.nil (ag ?_)))))))))
 exact⟨k-1,by omega,v4,bo++aK lp,i+1,rfl,rfl,rfl,hN,by omega,by rw[pf dp,←VF,←yN]⟩
 refine RW.exit ?_
 iterate 2 refine bm ?_
 refine aO (ag (RW.seq (RW.region (RL.ev (v:=vo) rfl rfl U (RL.ev (v:=vo) rfl rfl aa (RL.nil (ag (RW.ret (aL (RV.tmp rfl) ?_)))))))))
 have fk:i=ls.length:=by omega
 subst fk
 rw[Vz,VF,←rG]at yN
 subst yN
 exact hN.sub [0] (by decide) rfl
theorem ll (bv:Value) (bl:List UInt8) (w:World) (hN:ak w (aT [.own vb 5 (bv) (bl)]) w [.own vb 5 (bv) (bl)]) (lv:Value) (hs:List Hd) (ls:List (List I2)) (h1:nR (aT [.own vb 5 (bv) (bl)]) vh w lv hs) (ef:dM (aT [.own vb 5 (bv) (bl)]) bk w hs ls) (hz:bl.length+(cu ls).flatten.length≤140737488351232):al UY 181 #[bv,lv] w fun r w'=>ak w (aT [.own vb 5 (bv) (bl)]) w' [.own vb 5 (r) (bl++(cu ls).flatten)]:=by
 refine al.start aay rfl (US rfl) ?_
 rw[cc]
 have Cy:=ef.1
 have sD:=pA ls
 have LA:=congrArg Wc sD
 rw[UX,aS]at LA
 simp only[U3]at LA
 refine RW.seq (RW.region (RL.ev (v:=.slice none 0 0) rfl rfl aa (RL.nil (ag (RW.seq (RW.region (RL.ev (v:=bv) rfl rfl U (RL.ev (v:=lv) rfl rfl U ?_))))))))
 have iF:=(h1.now hN).aY
 refine RL.ev rfl rfl (aQ Vr (h1.now hN) rfl) ?_
 rw[Cy]
 refine RL.op rfl rfl (bS (enc:=vi) (l:=[(ls.length:Int)]) (xs:=[.tmp 11]) UW bu mu rfl rfl (fun _=>rfl) rfl (by decide) (by decide) hN ?_)
 clear hN
 intro g2 w2 (hN:ak w (aT [.own vb 5 (bv) (bl)]) w2 [_,_])
 refine RL.op rfl rfl (aR WA rfl rfl rfl rfl ((du _ bl _ (hN.bZ (M:=[_]) [1] (by decide) rfl) _ ([(ls.length:Int)]) (hN.kF (M:=[.own vb 5 (bv) (bl)]) 0 rfl [1] rfl rfl) (by(try simp only[UX,Vc,U3,Vl,aS]);omega)).mono ?_))
 rintro v3 w3 bE
 replace hN:ak w (aT [.own vb 5 (bv) (bl)]) w3 [_,_]:=ak.bX (M:=[_]) (N:=[_]) (hN.sub [1,0] (by decide) rfl) bE
 clear bE
 refine RL.ev (v:=v3) rfl rfl aa (RL.nil (ag ?_))
 iterate 2 refine RW.seq ?_
 refine RW.region (RL.ev (v:=.int .i64 (0)) rfl rfl aa (RL.nil (ag (RW.block ?_))))
 refine RW.loop (fun k R0 bT=>∃vo:Value,∃bo:List UInt8,∃i:Nat,R0 0=vo∧R0 1=lv∧R0 5=.int .i64 ((i:Int))∧ak w (aT [.own vb 5 (bv) (bl)]) bT [.own vb 5 (vo) (bo),.own vi 3 (.slice (some ⟨g2,0,none⟩) 1 1) ([(ls.length:Int)])]∧(i+k=ls.length)∧(bo=bl++aK [(ls.length:Int)]++((ls.take i).map nr).flatten)) (ls.length) ?_ ?_
 exact⟨v3,bl++aK ([(ls.length:Int)]),0,rfl,rfl,rfl,hN,by omega,by simp⟩
 clear hN
 rintro k R0 bT ⟨vo,bo,i,bN,bw,bM,hN,eR,yN⟩
 have bY:∃b6,R0=(aZ (aZ (aZ b6 0 _) 1 _) 5 _):=⟨R0,by rw[ai bN,ai bw,ai bM]⟩
 obtain⟨b6,rfl⟩:=bY
 clear bN bw bM
 iterate 2 refine RW.seq ?_
 refine RW.region (RL.ev (v:=.int .i64 ((i:Int))) rfl rfl U (RL.ev (v:=lv) rfl rfl U (RL.ev rfl rfl (aQ Vr (h1.now hN) rfl) (RL.ev rfl rfl (aV rfl rfl) (RL.nil (ag ?_))))))
 refine RW.aN _ rfl (fun bW=>?_) (fun bW=>?_)
 refine RW.skip (ag (RW.seq (RW.block (RW.seq ?_))))
 have aw:∃a_,hs[i]?=some a_:=⟨_,UT (by omega)⟩
 obtain⟨hp,E0⟩:=aw
 have aw:∃a_,ls[i]?=some a_:=⟨_,UT (by omega)⟩
 obtain⟨lp,dp⟩:=aw
 have IU:=congrArg Wc yN
 simp only[UX,aS,U3]at IU
 have Ka:=u5 (f:=nr) dp
 rw[zM]at Ka
 refine RW.region (RL.ev (v:=.slice none 0 0) rfl rfl aa (RL.nil (ag (RW.seq (RW.region (RL.ev (v:=.slice none 0 0) rfl rfl aa (RL.nil (ag ?_))))))))
 iterate 2 refine RW.seq ?_
 refine RW.region (RL.ev (v:=.int .i64 (0)) rfl rfl aa (RL.nil (ag (RW.block ?_))))
 replace hN:=hN.cj vi 3
 replace hN:=hN.cj vi 3
 refine RW.loop (fun k2 R1 fI=>∃v6:Value,∃l6:List Int,∃v7:Value,∃l7:List Int,∃j:Nat,R1 0=vo∧R1 1=lv∧R1 5=.int .i64 ((i:Int))∧R1 6=v6∧R1 7=v7∧R1 8=.int .i64 ((j:Int))∧ak w (aT [.own vb 5 (bv) (bl)]) fI [.own vi 3 (v7) (l7),.own vi 3 (v6) (l6),.own vb 5 (vo) (bo),.own vi 3 (.slice (some ⟨g2,0,none⟩) 1 1) ([(ls.length:Int)])]∧(j+k2=lp.length)∧(l6=(lp.take j).map fun a=>a.1)∧(l7=(lp.take j).map fun a=>a.2)∧(l6.length=j)∧(l7.length=j)) (lp.length) ?_ ?_
 exact⟨.slice none 0 0,[],.slice none 0 0,[],0,rfl,rfl,rfl,rfl,rfl,rfl,hN,by omega,rfl,rfl,rfl,rfl⟩
 clear hN
 rintro k2 R1 fI ⟨v6,l6,v7,l7,j,bN,bw,bM,dd,cd,cl,hN,wy,h6,h7,UJ,UI⟩
 have bY:∃gY,R1=(aZ (aZ (aZ (aZ (aZ (aZ gY 0 _) 1 _) 5 _) 6 _) 7 _) 8 _):=⟨R1,by rw[ai bN,ai bw,ai bM,ai dd,ai cd,ai cl]⟩
 obtain⟨gY,rfl⟩:=bY
 clear bN bw bM dd cd cl
 iterate 2 refine RW.seq ?_
 refine RW.region (RL.ev (v:=.int .i64 ((j:Int))) rfl rfl U (RL.ev (v:=lv) rfl rfl U (RL.ev (v:=.int .i64 ((i:Int))) rfl rfl U (RL.ev rfl rfl (aB Vr jJ (h1.now hN) rfl rfl (by omega) (by omega)) (RL.ev rfl rfl (aF (m:=i) (a:=hp) Vy rfl (h1.now hN) rfl E0) ?_)))))
 have HW:=((dM.fX ef E0 dp).now hN).aY
 refine RL.ev rfl rfl (bQ Vy ((dM.fX ef E0 dp).now hN) rfl) (RL.ev rfl rfl (aV rfl rfl) (RL.nil (ag ?_)))
 refine RW.aN _ rfl (fun eI=>?_) (fun eI=>?_)
 refine RW.skip (ag (RW.seq (RW.block (RW.seq (RW.region (RL.ev (v:=v6) rfl rfl U (RL.ev (v:=lv) rfl rfl U (RL.ev (v:=.int .i64 ((i:Int))) rfl rfl U (RL.ev rfl rfl (aB Vr jJ (h1.now hN) rfl rfl (by omega) (by omega)) ?_)))))))))
 refine RL.ev rfl rfl (aF (m:=i) (a:=hp) Vy rfl (h1.now hN) rfl E0) (RL.ev (v:=.int .i64 ((j:Int))) rfl rfl U (RL.ev rfl rfl (bn Vy eY bP (by decide) ((dM.fX ef E0 dp).now hN) rfl rfl (by omega) (by omega)) ?_))
 have aw:∃a_,(lp)[j]?=some a_:=⟨_,UT (by omega)⟩
 obtain⟨aq,iT⟩:=aw
 refine RL.ev rfl rfl (cH (m:=j) (b:=0) VE rfl bu (by decide) bP ((dM.fX ef E0 dp).now hN) iT rfl rfl) (RL.ev rfl rfl (c9 (m:=j) (j:=0) (a:=aq) UU rfl bP ((dM.fX ef E0 dp).now hN) rfl iT rfl) ?_)
 refine RL.op rfl rfl (bS (enc:=vi) (l:=[aq.1]) (xs:=[.tmp 37]) UW bu mu rfl rfl (fun _=>rfl) rfl (by decide) (by decide) hN ?_)
 clear hN
 intro g9 w9 (hN:ak w (aT [.own vb 5 (bv) (bl)]) w9 [_,_,_,_,_])
 refine RL.op rfl rfl (bD UW fT rfl (fun _=>rfl) hN 2 rfl rfl (hN.sl 0 rfl) rfl (by(try simp only[UX,U3,U6,Vc]);omega) (by decide) ?_)
 clear hN
 intro v10 jH (hN:ak w (aT [.own vb 5 (bv) (bl)]) jH [_,_,_,_,_])
 refine RL.ev (v:=v10) rfl rfl aa (RL.nil (ag (RW.region (RL.ev (v:=v7) rfl rfl U (RL.ev (v:=lv) rfl rfl U (RL.ev (v:=.int .i64 ((i:Int))) rfl rfl U (RL.ev rfl rfl (aB Vr jJ (h1.now hN) rfl rfl (by omega) (by omega)) (RL.ev rfl rfl (aF (m:=i) (a:=hp) Vy rfl (h1.now hN) rfl E0) (RL.ev (v:=.int .i64 ((j:Int))) rfl rfl U ?_)))))))))
 refine RL.ev rfl rfl (bn Vy eY bP (by decide) ((dM.fX ef E0 dp).now hN) rfl rfl (by omega) (by omega)) (RL.ev rfl rfl (cH (m:=j) (b:=0) VE rfl bu (by decide) bP ((dM.fX ef E0 dp).now hN) iT rfl rfl) (RL.ev rfl rfl (c9 (m:=j) (j:=1) (a:=aq) UU rfl bP ((dM.fX ef E0 dp).now hN) rfl iT rfl) ?_))
 refine RL.op rfl rfl (bS (enc:=vi) (l:=[aq.2]) (xs:=[.tmp 48]) UW bu mu rfl rfl (fun _=>rfl) rfl (by decide) (by decide) hN ?_)
 clear hN
 intro wM iP (hN:ak w (aT [.own vb 5 (bv) (bl)]) iP [_,_,_,_,_,_])
 refine RL.op rfl rfl (bD UW fT rfl (fun _=>rfl) hN 2 rfl rfl (hN.sl 0 rfl) rfl (by(try simp only[UX,U3,U6,Vc]);omega) (by decide) ?_)
 clear hN
 intro xw kC (hN:ak w (aT [.own vb 5 (bv) (bl)]) kC [_,_,_,_,_,_])
 refine RL.ev (v:=xw) rfl rfl aa (RL.nil (a7 (ag (RW.region (RL.ev (v:=.int .i64 ((j:Int))) rfl rfl U (RL.ev rfl rfl (an rfl rfl rfl (bc (by omega) (by omega))) (RL.ev (v:=.int .i64 ((j:Int)+1)) rfl rfl aa (RL.nil (ag ?_)))))))))
 exact⟨k2-1,by omega,v10,l6++[aq.1],xw,l7++[aq.2],j+1,rfl,rfl,rfl,rfl,rfl,rfl,(hN.sub [2,3,4,5] (by decide) rfl),by omega,by rw[h6];exact kb (f:=fun a:I2=>a.1) iT,by rw[h7];exact kb (f:=fun a:I2=>a.2) iT,by(try simp only[UX,U3]);omega,by(try simp only[UX,U3]);omega⟩
 refine RW.exit ?_
 iterate 2 refine bm ?_
 refine aO (ag ?_)
 have Cu:j=lp.length:=by omega
 subst Cu
 rw[Vz]at h6 h7
 refine RW.region (RL.ev (v:=vo) rfl rfl U (RL.ev (v:=v6) rfl rfl U ?_))
 refine RL.op rfl rfl (aR WA rfl rfl rfl rfl ((du _ bo _ (hN.bZ (M:=[_]) [2] (by decide) rfl) _ l6 (hN.kF (M:=[.own vb 5 (vo) (bo)]) 1 rfl [2] rfl rfl) (by(try simp only[UX,Vc,U3,Vl,aS]);omega)).mono ?_))
 rintro Gt lF bE
 replace hN:ak w (aT [.own vb 5 (bv) (bl)]) lF [_,_,_,_]:=ak.bX (M:=[_]) (N:=[_,_,_]) (hN.sub [2,0,1,3] (by decide) rfl) bE
 clear bE
 refine RL.ev (v:=v7) rfl rfl U ?_
 refine RL.op rfl rfl (aR WA rfl rfl rfl rfl ((du _ (bo++aK l6) _ (hN.bZ (M:=[_]) [0] (by decide) rfl) _ l7 (hN.kF (M:=[.own vb 5 (Gt) (bo++aK l6)]) 1 rfl [0] rfl rfl) (by(try simp only[UX,Vc,U3,Vl,aS]);omega)).mono ?_))
 rintro C4 k9 bE
 replace hN:ak w (aT [.own vb 5 (bv) (bl)]) k9 [_,_,_,_]:=ak.bX (M:=[_]) (N:=[_,_,_]) (hN.sub [0,1,2,3] (by decide) rfl) bE
 clear bE
 refine RL.ev (v:=C4) rfl rfl aa (RL.nil (a7 (ag (RW.region (RL.ev (v:=.int .i64 ((i:Int))) rfl rfl U (RL.ev rfl rfl (an rfl rfl rfl (bc (by omega) (by omega))) (RL.ev (v:=.int .i64 ((i:Int)+1)) rfl rfl aa (RL.nil (ag ?_)))))))))
 exact⟨k-1,by omega,C4,bo++aK l6++aK l7,i+1,rfl,rfl,rfl,(hN.sub [0,3] (by decide) rfl),by omega,by rw[pf dp,←VF,←yN,h6,h7,VF];rfl⟩
 refine RW.exit ?_
 iterate 2 refine bm ?_
 refine aO (ag (RW.seq (RW.region (RL.ev (v:=vo) rfl rfl U (RL.ev (v:=vo) rfl rfl aa (RL.nil (ag (RW.ret (aL (RV.tmp rfl) ?_)))))))))
 have fk:i=ls.length:=by omega
 subst fk
 rw[Vz,VF,←pA]at yN
 subst yN
 exact hN.sub [0] (by decide) rfl
end Go.Proofs.YtngkdkbpgoddlaaGreat
namespace Go.Proofs.YtngkdkbpgoddlaaGreat
open Go.RowKit Go.Rl
open Go.Gr Go.cP Go.hO
theorem rK (n:Int) (v:Value) (ar:List I3) (w:World) (hv:Sm bf w v ar) (fG:ar.length≤67108864):al UY 125 #[.agg #[.int .i64 n,v]] w fun r w'=>dy vb 5 w' w.heap.size r (ij n ar).flatten∧Ext w w':=by
 refine al.start acg rfl (US rfl) ?_
 rw[bL]
 have hN:=ak.nil w none_
 refine RW.seq (RW.region ?_)
 refine RL.op rfl rfl (bq (cs:=[.int .i64 (n),v]) rfl rfl hN ?_)
 clear hN
 intro g1 w1 (hN:ak w none_ w1 [_])
 refine RL.ev (v:=.slice none 0 0) rfl rfl aa (RL.nil (ag (RW.seq (RW.region (RL.ev (v:=.slice none 0 0) rfl rfl aa (RL.nil (ag (RW.seq (RW.region ?_)))))))))
 refine RL.ev (v:=.slice none 0 0) rfl rfl aa (RL.nil (ag (RW.seq (RW.region (RL.ev (v:=.slice none 0 0) rfl rfl aa (RL.nil (ag ?_)))))))
 iterate 2 refine RW.seq ?_
 refine RW.region (RL.ev (v:=.int .i64 (0)) rfl rfl aa (RL.nil (ag (RW.block ?_))))
 replace hN:=hN.cj vi 3
 replace hN:=hN.cj vi 3
 replace hN:=hN.cj vi 3
 refine RW.loop (fun k R0 bT=>∃v3:Value,∃l3:List Int,∃v4:Value,∃l4:List Int,∃v5:Value,∃l5:List Int,∃i:Nat,R0 1=.pointer (some ⟨g1,0,none⟩)∧R0 3=v3∧R0 4=v4∧R0 5=v5∧R0 6=.int .i64 ((i:Int))∧ak w none_ bT [.own vi 3 (v5) (l5),.own vi 3 (v4) (l4),.own vi 3 (v3) (l3),.aA g1 [.int .i64 (n),v] 24]∧(i+k=ar.length)∧(l3=(ar.take i).map fun a=>a.1)∧(l4=(ar.take i).map fun a=>a.2.1)∧(l5=(ar.take i).map fun a=>a.2.2)∧(l3.length=i)∧(l4.length=i)∧(l5.length=i)) (ar.length) ?_ ?_
 exact⟨.slice none 0 0,[],.slice none 0 0,[],.slice none 0 0,[],0,rfl,rfl,rfl,rfl,rfl,hN,by omega,rfl,rfl,rfl,rfl,rfl,rfl⟩
 clear hN
 rintro k R0 bT ⟨v3,l3,v4,l4,v5,l5,i,bw,ca,cg,bM,dd,hN,eR,MW,PF,PE,Rx,UC,UB⟩
 have bY:∃b6,R0=(aZ (aZ (aZ (aZ (aZ b6 1 _) 3 _) 4 _) 5 _) 6 _):=⟨R0,by rw[ai bw,ai ca,ai cg,ai bM,ai dd]⟩
 obtain⟨b6,rfl⟩:=bY
 clear bw ca cg bM dd
 iterate 2 refine RW.seq ?_
 refine RW.region (RL.ev (v:=.int .i64 ((i:Int))) rfl rfl U (RL.ev rfl rfl (ah U4 rfl dY (by decide) rfl) (RL.ev rfl rfl (aj Va rfl rfl (hN.aA 3 rfl) rfl) ?_)))
 have pd:=(hv.o.now hN).aY
 refine RL.ev rfl rfl (bQ Va (hv.o.now hN) rfl) (RL.ev rfl rfl (aV rfl rfl) (RL.nil (ag ?_)))
 refine RW.aN _ rfl (fun bW=>?_) (fun bW=>?_)
 refine RW.skip (ag (RW.seq (RW.block (RW.seq (RW.region (RL.ev (v:=v3) rfl rfl U (RL.ev rfl rfl (ah U4 rfl dY (by decide) rfl) (RL.ev rfl rfl (aj Va rfl rfl (hN.aA 3 rfl) rfl) (RL.ev (v:=.int .i64 ((i:Int))) rfl rfl U ?_)))))))))
 refine RL.ev rfl rfl (bn Va cq aU (by decide) (hv.o.now hN) rfl rfl (by omega) (by omega)) ?_
 have aw:∃a_,(ar)[i]?=some a_:=⟨_,UT (by omega)⟩
 obtain⟨ap,bG⟩:=aw
 refine RL.ev rfl rfl (cH (m:=i) (b:=0) Ve rfl bu (by decide) aU (hv.o.now hN) bG rfl rfl) (RL.ev rfl rfl (c9 (m:=i) (j:=0) (a:=ap) UU rfl aU (hv.o.now hN) rfl bG rfl) ?_)
 refine RL.op rfl rfl (bS (enc:=vi) (l:=[ap.1]) (xs:=[.tmp 20]) UW bu mu rfl rfl (fun _=>rfl) rfl (by decide) (by decide) hN ?_)
 clear hN
 intro g6 w6 (hN:ak w none_ w6 [_,_,_,_,_])
 refine RL.op rfl rfl (bD UW fT rfl (fun _=>rfl) hN 3 rfl rfl (hN.sl 0 rfl) rfl (by(try simp only[UX,U3,U6,Vc]);omega) (by decide) ?_)
 clear hN
 intro v7 w7 (hN:ak w none_ w7 [_,_,_,_,_])
 refine RL.ev (v:=v7) rfl rfl aa (RL.nil (ag (RW.seq (RW.region (RL.ev (v:=v4) rfl rfl U (RL.ev rfl rfl (ah U4 rfl dY (by decide) rfl) (RL.ev rfl rfl (aj Va rfl rfl (hN.aA 4 rfl) rfl) (RL.ev (v:=.int .i64 ((i:Int))) rfl rfl U (RL.ev rfl rfl (bn Va cq aU (by decide) (hv.o.now hN) rfl rfl (by omega) (by omega)) ?_)))))))))
 refine RL.ev rfl rfl (cH (m:=i) (b:=0) Ve rfl bu (by decide) aU (hv.o.now hN) bG rfl rfl) (RL.ev rfl rfl (c9 (m:=i) (j:=1) (a:=ap) UU rfl aU (hv.o.now hN) rfl bG rfl) ?_)
 refine RL.op rfl rfl (bS (enc:=vi) (l:=[ap.2.1]) (xs:=[.tmp 29]) UW bu mu rfl rfl (fun _=>rfl) rfl (by decide) (by decide) hN ?_)
 clear hN
 intro g8 w8 (hN:ak w none_ w8 [_,_,_,_,_,_])
 refine RL.op rfl rfl (bD UW fT rfl (fun _=>rfl) hN 3 rfl rfl (hN.sl 0 rfl) rfl (by(try simp only[UX,U3,U6,Vc]);omega) (by decide) ?_)
 clear hN
 intro v9 w9 (hN:ak w none_ w9 [_,_,_,_,_,_])
 refine RL.ev (v:=v9) rfl rfl aa (RL.nil (ag (RW.region (RL.ev (v:=v5) rfl rfl U (RL.ev rfl rfl (ah U4 rfl dY (by decide) rfl) (RL.ev rfl rfl (aj Va rfl rfl (hN.aA 5 rfl) rfl) (RL.ev (v:=.int .i64 ((i:Int))) rfl rfl U (RL.ev rfl rfl (bn Va cq aU (by decide) (hv.o.now hN) rfl rfl (by omega) (by omega)) (RL.ev rfl rfl (cH (m:=i) (b:=0) Ve rfl bu (by decide) aU (hv.o.now hN) bG rfl rfl) ?_)))))))))
 refine RL.ev rfl rfl (c9 (m:=i) (j:=2) (a:=ap) UU rfl aU (hv.o.now hN) rfl bG rfl) ?_
 refine RL.op rfl rfl (bS (enc:=vi) (l:=[ap.2.2]) (xs:=[.tmp 38]) UW bu mu rfl rfl (fun _=>rfl) rfl (by decide) (by decide) hN ?_)
 clear hN
 intro tY jH (hN:ak w none_ jH [_,_,_,_,_,_,_])
 refine RL.op rfl rfl (bD UW fT rfl (fun _=>rfl) hN 3 rfl rfl (hN.sl 0 rfl) rfl (by(try simp only[UX,U3,U6,Vc]);omega) (by decide) ?_)
 clear hN
 intro v11 jj (hN:ak w none_ jj [_,_,_,_,_,_,_])
 refine RL.ev (v:=v11) rfl rfl aa (RL.nil (a7 (ag (RW.region (RL.ev (v:=.int .i64 ((i:Int))) rfl rfl U (RL.ev rfl rfl (an rfl rfl rfl (bc (by omega) (by omega))) (RL.ev (v:=.int .i64 ((i:Int)+1)) rfl rfl aa (RL.nil (ag ?_)))))))))
 exact⟨k-1,by omega,v7,l3++[ap.1],v9,l4++[ap.2.1],v11,l5++[ap.2.2],i+1,rfl,rfl,rfl,rfl,rfl,(hN.sub [3,4,5,6] (by decide) rfl),by omega,by rw[MW];exact kb (f:=fun a:I3=>a.1) bG,by rw[PF];exact kb (f:=fun a:I3=>a.2.1) bG,by rw[PE];exact kb (f:=fun a:I3=>a.2.2) bG,by(try simp only[UX,U3]);omega,by(try simp only[UX,U3]);omega,by(try simp only[UX,U3]);omega⟩
 refine RW.exit ?_
 iterate 2 refine bm ?_
 refine aO (ag (RW.seq ?_))
 have fk:i=ar.length:=by omega
 subst fk
 rw[Vz]at MW PF PE
 refine RW.region (RL.ev rfl rfl (ah U4 rfl bu (by decide) rfl) (RL.ev rfl rfl (aj UU rfl rfl (hN.aA 3 rfl) rfl) ?_))
 refine RL.op rfl rfl (bS (enc:=vi) (l:=[n]) (xs:=[.tmp 42]) UW bu mu rfl rfl (fun _=>rfl) rfl (by decide) (by decide) hN ?_)
 clear hN
 intro wM iP (hN:ak w none_ iP [_,_,_,_,_])
 replace hN:=hN.cj vb 5
 replace hN:ak w none_ iP [.own vb 5 (.slice none 0 0) ([]),.own vi 3 (.slice (some ⟨wM,0,none⟩) 1 1) ([n]),.own vi 3 (v5) (l5),.own vi 3 (v4) (l4),.own vi 3 (v3) (l3),.aA g1 [.int .i64 (n),v] 24]:=hN
 refine RL.op rfl rfl (aR WA rfl rfl rfl rfl ((du _ ([]) _ (hN.bZ (M:=[_]) [0] (by decide) rfl) _ ([n]) (hN.kF (M:=[.own vb 5 (.slice none 0 0) ([])]) 1 rfl [0] rfl rfl) (by(try simp only[UX,Vc,U3,Vl,aS]);omega)).mono ?_))
 rintro xw kC bE
 rw[Wm]at bE
 replace hN:ak w none_ kC [_,_,_,_,_,_]:=ak.bX (M:=[_]) (N:=[_,_,_,_,_]) (hN.sub [0,1,2,3,4,5] (by decide) rfl) bE
 clear bE
 refine RL.ev (v:=v3) rfl rfl U ?_
 refine RL.op rfl rfl (aR WA rfl rfl rfl rfl ((du _ (aK ([n])) _ (hN.bZ (M:=[_]) [0] (by decide) rfl) _ l3 (hN.kF (M:=[.own vb 5 (xw) (aK ([n]))]) 4 rfl [0] rfl rfl) (by(try simp only[UX,Vc,U3,Vl,aS]);omega)).mono ?_))
 rintro C4 k9 bE
 replace hN:ak w none_ k9 [_,_,_,_,_,_]:=ak.bX (M:=[_]) (N:=[_,_,_,_,_]) (hN.sub [0,1,2,3,4,5] (by decide) rfl) bE
 clear bE
 refine RL.ev (v:=v4) rfl rfl U ?_
 refine RL.op rfl rfl (aR WA rfl rfl rfl rfl ((du _ (aK ([n])++aK l3) _ (hN.bZ (M:=[_]) [0] (by decide) rfl) _ l4 (hN.kF (M:=[.own vb 5 (C4) (aK ([n])++aK l3)]) 3 rfl [0] rfl rfl) (by(try simp only[UX,Vc,U3,Vl,aS]);omega)).mono ?_))
 rintro AW oL bE
 replace hN:ak w none_ oL [_,_,_,_,_,_]:=ak.bX (M:=[_]) (N:=[_,_,_,_,_]) (hN.sub [0,1,2,3,4,5] (by decide) rfl) bE
 clear bE
 refine RL.ev (v:=v5) rfl rfl U ?_
 refine RL.op rfl rfl (aR WA rfl rfl rfl rfl ((du _ (aK ([n])++aK l3++aK l4) _ (hN.bZ (M:=[_]) [0] (by decide) rfl) _ l5 (hN.kF (M:=[.own vb 5 (AW) (aK ([n])++aK l3++aK l4)]) 2 rfl [0] rfl rfl) (by(try simp only[UX,Vc,U3,Vl,aS]);omega)).mono ?_))
 rintro Js uu bE
 replace hN:ak w none_ uu [_,_,_,_,_,_]:=ak.bX (M:=[_]) (N:=[_,_,_,_,_]) (hN.sub [0,1,2,3,4,5] (by decide) rfl) bE
 clear bE
 refine RL.ev (v:=Js) rfl rfl aa (RL.nil (ag (RW.ret (aL (RV.tmp rfl) ?_))))
 rw[Cl,←MW,←PF,←PE]
 exact⟨hN.dA 0 rfl,hN.aE⟩
theorem qb (rk:List Int) (ws:List I5) (rv wv:Value) (w:World) (hr:Sl vI w rv rk) (hw:Sm bC w wv ws) (qS:rk.length≤67108864) (JZ:ws.length≤67108864):al UY 126 #[.agg #[rv,wv]] w fun r w'=>dy vb 5 w' w.heap.size r (eL rk ws).flatten∧Ext w w':=by
 refine al.start ach rfl (US rfl) ?_
 rw[bL]
 have hN:=ak.nil w none_
 refine RW.seq (RW.region ?_)
 refine RL.op rfl rfl (bq (cs:=[rv,wv]) rfl rfl hN ?_)
 clear hN
 intro g1 w1 (hN:ak w none_ w1 [_])
 refine RL.ev (v:=.slice none 0 0) rfl rfl aa (RL.nil (ag (RW.seq (RW.region (RL.ev rfl rfl (ah Vb rfl b7 (by decide) rfl) (RL.ev rfl rfl (aj UW rfl rfl (hN.aA 0 rfl) rfl) ?_))))))
 replace hN:=hN.cj vb 5
 replace hN:ak w none_ w1 [.own vb 5 (.slice none 0 0) ([]),.aA g1 [rv,wv] 28]:=hN
 refine RL.op rfl rfl (aR WA rfl rfl rfl rfl ((du _ ([]) _ (hN.bZ (M:=[_]) [0] (by decide) rfl) _ rk (hr.o.step (hN.sub (M:=[.own vb 5 (.slice none 0 0) ([])]) [0] (by decide) rfl)) (by(try simp only[UX,Vc,U3,Vl,aS]);omega)).mono ?_))
 rintro v2 w2 bE
 rw[Wm]at bE
 replace hN:ak w none_ w2 [_,_]:=ak.bX (M:=[_]) (N:=[_]) (hN.sub [0,1] (by decide) rfl) bE
 clear bE
 refine RL.ev (v:=v2) rfl rfl aa (RL.nil (ag ?_))
 iterate 2 refine RW.seq ?_
 refine RW.region (RL.ev (v:=.int .i64 (0)) rfl rfl aa (RL.nil (ag (RW.block ?_))))
 refine RW.loop (fun k R0 bT=>∃vo:Value,∃bo:List UInt8,∃k5:Nat,R0 1=.pointer (some ⟨g1,0,none⟩)∧R0 3=vo∧R0 4=.int .i64 ((k5:Int))∧ak w none_ bT [.own vb 5 (vo) (bo),.aA g1 [rv,wv] 28]∧(k5+k=5)∧(bo=aK rk++oH ws k5)) (5) ?_ ?_
 exact⟨v2,aK rk,0,rfl,rfl,rfl,hN,by omega,by simp[oH]⟩
 clear hN
 rintro k R0 bT ⟨vo,bo,k5,bw,ca,cg,hN,eR,yN⟩
 have bY:∃b6,R0=(aZ (aZ (aZ b6 1 _) 3 _) 4 _):=⟨R0,by rw[ai bw,ai ca,ai cg]⟩
 obtain⟨b6,rfl⟩:=bY
 clear bw ca cg
 iterate 2 refine RW.seq ?_
 refine RW.region (RL.ev (v:=.int .i64 ((k5:Int))) rfl rfl U (RL.ev rfl rfl (aV rfl rfl) (RL.nil (ag ?_))))
 refine RW.aN _ rfl (fun bW=>?_) (fun bW=>?_)
 refine RW.skip (ag (RW.seq (RW.block (RW.seq (RW.region (RL.ev (v:=.slice none 0 0) rfl rfl aa (RL.nil (ag ?_))))))))
 iterate 2 refine RW.seq ?_
 refine RW.region (RL.ev (v:=.int .i64 (0)) rfl rfl aa (RL.nil (ag (RW.block ?_))))
 replace hN:=hN.cj vi 3
 refine RW.loop (fun k2 R1 fI=>∃vl:Value,∃l:List Int,∃i:Nat,R1 1=.pointer (some ⟨g1,0,none⟩)∧R1 3=vo∧R1 4=.int .i64 ((k5:Int))∧R1 5=vl∧R1 6=.int .i64 ((i:Int))∧ak w none_ fI [.own vi 3 (vl) (l),.own vb 5 (vo) (bo),.aA g1 [rv,wv] 28]∧(i+k2=ws.length)∧(l=(ws.take i).map (I7 k5))∧(l.length=i)) (ws.length) ?_ ?_
 exact⟨.slice none 0 0,[],0,rfl,rfl,rfl,rfl,rfl,hN,by omega,rfl,rfl⟩
 clear hN
 rintro k2 R1 fI ⟨vl,l,i,bw,ca,cg,bM,dd,hN,wy,wu,UF⟩
 have bY:∃gY,R1=(aZ (aZ (aZ (aZ (aZ gY 1 _) 3 _) 4 _) 5 _) 6 _):=⟨R1,by rw[ai bw,ai ca,ai cg,ai bM,ai dd]⟩
 obtain⟨gY,rfl⟩:=bY
 clear bw ca cg bM dd
 iterate 2 refine RW.seq ?_
 refine RW.region (RL.ev (v:=.int .i64 ((i:Int))) rfl rfl U (RL.ev rfl rfl (ah Vb rfl fJ (by decide) rfl) (RL.ev rfl rfl (aj Vg rfl rfl (hN.aA 2 rfl) rfl) ?_)))
 have pd:=(hw.o.now hN).aY
 refine RL.ev rfl rfl (bQ Vg (hw.o.now hN) rfl) (RL.ev rfl rfl (aV rfl rfl) (RL.nil (ag ?_)))
 refine RW.aN _ rfl (fun eI=>?_) (fun eI=>?_)
 refine RW.skip (ag (RW.seq (RW.block (RW.seq (RW.region (RL.ev rfl rfl (ah Vb rfl fJ (by decide) rfl) (RL.ev rfl rfl (aj Vg rfl rfl (hN.aA 2 rfl) rfl) (RL.ev (v:=.int .i64 ((i:Int))) rfl rfl U (RL.ev rfl rfl (bn Vg dj bb (by decide) (hw.o.now hN) rfl rfl (by omega) (by omega)) ?_)))))))))
 have aw:∃a_,(ws)[i]?=some a_:=⟨_,UT (by omega)⟩
 obtain⟨ap,bG⟩:=aw
 refine RL.ev rfl rfl (bU (m:=i) (a:=ap) U0 rfl dj bb (by decide) (hw.o.now hN) rfl bG (cs:=[.int .i64 (ap.1),.int .i64 (ap.2.1),.int .i64 (ap.2.2.1),.int .i64 (ap.2.2.2.1),.int .i64 (ap.2.2.2.2)]) rfl) ?_
 refine RL.op rfl rfl (aX (cs:=[.int .i64 (0),.int .i64 (0),.int .i64 (0),.int .i64 (0),.int .i64 (0)]) ft rfl hN ?_)
 clear hN
 intro g6 w6 (hN:ak w none_ w6 [_,_,_,_])
 refine RL.op rfl rfl (aC (vs:=[.int .i64 (ap.1),.int .i64 (ap.2.1),.int .i64 (ap.2.2.1),.int .i64 (ap.2.2.2.1),.int .i64 (ap.2.2.2.2)]) dj rfl rfl rfl (by intro u hu;simp only[U9,U2,or_false]at hu;rcases hu with rfl|rfl|rfl|rfl|rfl<;>first|rfl) hN 0 rfl rfl ?_)
 clear hN
 intro w7 (hN:ak w none_ w7 [_,_,_,_])
 refine RL.nil (ag (RW.region (RL.ev (v:=vl) rfl rfl U (RL.ev rfl rfl (ah U0 rfl bu (by decide) rfl) (RL.ev rfl rfl (aj UU rfl rfl (hN.aA 0 rfl) rfl) (RL.ev rfl rfl (ah U0 rfl bu (by decide) rfl) (RL.ev rfl rfl (aj UU rfl rfl (hN.aA 0 rfl) rfl) (RL.ev rfl rfl (ah U0 rfl dk (by decide) rfl) (RL.ev rfl rfl (ah Vj rfl bu (by decide) rfl) ?_)))))))))
 refine RL.ev rfl rfl (aj UU rfl rfl (hN.aA 0 rfl) rfl) (RL.ev rfl rfl (ah U0 rfl dk (by decide) rfl) (RL.ev rfl rfl (ah Vj rfl bu (by decide) rfl) (RL.ev rfl rfl (aj UU rfl rfl (hN.aA 0 rfl) rfl) (RL.ev rfl rfl (ah U0 rfl dk (by decide) rfl) (RL.ev rfl rfl (ah Vj rfl bu (by decide) rfl) (RL.ev rfl rfl (aj UU rfl rfl (hN.aA 0 rfl) rfl) ?_))))))
 refine RL.op rfl rfl (bS (enc:=vi) (l:=[ap.1,ap.2.1,ap.2.2.1,ap.2.2.2.1,ap.2.2.2.2]) (xs:=[.tmp 29,.tmp 31,.tmp 34,.tmp 37,.tmp 40]) UW bu mu rfl rfl (fun _=>rfl) rfl (by decide) (by decide) hN ?_)
 clear hN
 intro g8 w8 (hN:ak w none_ w8 [_,_,_,_,_])
 refine RL.ev (v:=.int .i64 ((k5:Int))) rfl rfl U (RL.ev rfl rfl (aB UW bu (hN.sl 0 rfl) rfl rfl (by omega) (by omega)) (RL.ev rfl rfl (aF (m:=k5) (a:=(I7 k5 ap)) UU rfl (hN.sl 0 rfl) rfl (K1 ap (by omega))) ?_))
 refine RL.op rfl rfl (bS (enc:=vi) (l:=[(I7 k5 ap)]) (xs:=[.tmp 44]) UW bu mu rfl rfl (fun _=>rfl) rfl (by decide) (by decide) hN ?_)
 clear hN
 intro tY jH (hN:ak w none_ jH [_,_,_,_,_,_])
 refine RL.op rfl rfl (bD UW fT rfl (fun _=>rfl) hN 3 rfl rfl (hN.sl 0 rfl) rfl (by(try simp only[UX,U3,U6,Vc]);omega) (by decide) ?_)
 clear hN
 intro v11 jj (hN:ak w none_ jj [_,_,_,_,_,_])
 refine RL.ev (v:=v11) rfl rfl aa (RL.nil (a7 (ag (RW.region (RL.ev (v:=.int .i64 ((i:Int))) rfl rfl U (RL.ev rfl rfl (an rfl rfl rfl (bc (by omega) (by omega))) (RL.ev (v:=.int .i64 ((i:Int)+1)) rfl rfl aa (RL.nil (ag ?_)))))))))
 exact⟨k2-1,by omega,v11,l++[(I7 k5 ap)],i+1,rfl,rfl,rfl,rfl,rfl,(hN.sub [3,4,5] (by decide) rfl),by omega,by rw[wu];exact kb bG,by(try simp only[UX,U3]);omega⟩
 refine RW.exit ?_
 iterate 2 refine bm ?_
 refine aO (ag ?_)
 have fk:i=ws.length:=by omega
 subst fk
 rw[Vz]at wu
 have IU:=congrArg Wc yN
 rw[UX,aS,CT]at IU
 have PH:k5*(4+8*ws.length)≤4*(4+8*ws.length):=WL _ (by omega)
 refine RW.region (RL.ev (v:=vo) rfl rfl U (RL.ev (v:=vl) rfl rfl U ?_))
 refine RL.op rfl rfl (aR WA rfl rfl rfl rfl ((du _ bo _ (hN.bZ (M:=[_]) [1] (by decide) rfl) _ l (hN.kF (M:=[.own vb 5 (vo) (bo)]) 0 rfl [1] rfl rfl) (by(try simp only[UX,Vc,U3,Vl,aS]);omega)).mono ?_))
 rintro xx iP bE
 replace hN:ak w none_ iP [_,_,_]:=ak.bX (M:=[_]) (N:=[_,_]) (hN.sub [1,0,2] (by decide) rfl) bE
 clear bE
 refine RL.ev (v:=xx) rfl rfl aa (RL.nil (a7 (ag (RW.region (RL.ev (v:=.int .i64 ((k5:Int))) rfl rfl U (RL.ev rfl rfl (an rfl rfl rfl (bc (by omega) (by omega))) (RL.ev (v:=.int .i64 ((k5:Int)+1)) rfl rfl aa (RL.nil (ag ?_)))))))))
 exact⟨k-1,by omega,xx,bo++aK l,k5+1,rfl,rfl,rfl,(hN.sub [0,2] (by decide) rfl),by omega,by rw[gk,←VF,←yN,wu]⟩
 refine RW.exit ?_
 iterate 2 refine bm ?_
 refine aO (ag (RW.seq (RW.region (RL.ev (v:=vo) rfl rfl U (RL.ev (v:=vo) rfl rfl aa (RL.nil (ag (RW.ret (aL (RV.tmp rfl) ?_)))))))))
 have TB:k5=5:=by omega
 subst TB
 rw[At,←yN]
 exact⟨hN.dA 0 rfl,hN.aE⟩
theorem n3 (g:List Int) (far:List (List Int)) (outs ins:List (List I2)) (so si:List (List Int)) (gv fv ov iv cD cE:Value) (hf ho hi gL gF:List Hd) (w:World) (hT:qI none_ w gv g fv hf far ov ho outs iv hi ins cD gL so cE gF si) (ew:(dI g far outs ins so si).flatten.length≤140737488351232):al UY 127 #[.agg #[gv,fv,ov,iv,cD,cE]] w fun r w'=>dy vb 5 w' w.heap.size r (dI g far outs ins so si).flatten∧Ext w w':=by
 refine al.start aci rfl (US rfl) ?_
 rw[bL]
 have hN:=ak.nil w none_
 have Ta:=congrArg Wc (rm g far outs ins so si)
 simp only[UX,aS]at Ta
 refine RW.seq (RW.region ?_)
 refine RL.op rfl rfl (bq (cs:=[gv,fv,ov,iv,cD,cE]) rfl rfl hN ?_)
 clear hN
 intro g1 w1 (hN:ak w none_ w1 [_])
 refine RL.ev (v:=.slice none 0 0) rfl rfl aa (RL.nil (ag (RW.seq ?_)))
 replace hN:=hN.ext (Ext.drew w1)
 refine RW.cb rfl (fun u=>ak w none_ u [.aA g1 [gv,fv,ov,iv,cD,cE] 32]) 7 [(0,0),(1,0),(3,0),(4,0),(2,1),(5,1),(6,0)] (by intro _ _ _ h;exact h) (by kernel_rfl) hN (RQ.ev rfl rfl (fun w hS=>(ah Vh rfl b7 (by decide) rfl)) (RQ.ev rfl rfl (fun w hS=>(aj UW rfl rfl (hS.aA 0 rfl) rfl)) (RQ.ev rfl rfl (fun w hS=>(ah Vh rfl gK (by decide) rfl)) (RQ.ev rfl rfl (fun w hS=>(aj U7 rfl rfl (hS.aA 0 rfl) rfl)) ?_))))
 replace hN:=hN.cj vb 5
 replace hN:ak w none_ w1.drew [.own vb 5 (.slice none 0 0) ([]),.aA g1 [gv,fv,ov,iv,cD,cE] 32]:=hN
 refine RQ.do rfl rfl (aR WA rfl rfl rfl rfl ((du _ ([]) _ (hN.bZ (M:=[_]) [0] (by decide) rfl) _ g (hT.tg.step (hN.sub (M:=[.own vb 5 (.slice none 0 0) ([])]) [0] (by decide) rfl)) (by(try simp only[UX,Vc,aS]);omega)).mono ?_))
 rintro v2 w2 bE
 rw[Wm]at bE
 replace hN:ak w none_ w2 [_,_]:=ak.bX (M:=[_]) (N:=[_]) (hN.sub [0,1] (by decide) rfl) bE
 clear bE
 refine⟨(hN.sub [1] (by decide) rfl),?_⟩
 refine RQ.do rfl rfl (aR Zb rfl rfl rfl rfl ((kL _ (aK g) _ (hN.bZ (M:=[_]) [0] (by decide) rfl) _ hf far (hT.tf.step (hN.sub (M:=[.own vb 5 (v2) (aK g)]) [0] (by decide) rfl)) (hT.NU.step (hN.sub (M:=[.own vb 5 (v2) (aK g)]) [0] (by decide) rfl)) (by(try simp only[UX,Vc,aS]);omega)).mono ?_))
 rintro v4 w4 bE
 replace hN:ak w none_ w4 [_,_]:=ak.bX (M:=[_]) (N:=[_]) (hN.sub [0,1] (by decide) rfl) bE
 clear bE
 refine⟨(hN.sub [1] (by decide) rfl),?_⟩
 refine RQ.ev (v:=v4) rfl rfl (fun w hS=>aa) (RQ.done (by kernel_rfl) (ag (RW.seq ?_)))
 replace hN:=hN.ext (Ext.drew w4)
 refine RW.cb rfl (fun u=>ak w none_ u [.aA g1 [gv,fv,ov,iv,cD,cE] 32]) 8 [(0,0),(1,0),(2,0),(4,0),(5,0),(3,1),(6,1),(7,0)] (by intro _ _ _ h;exact h) (by kernel_rfl) (hN.sub [1] (by decide) rfl) (RQ.ev (v:=v4) rfl rfl (fun w hS=>U) (RQ.ev rfl rfl (fun w hS=>(ah Vh rfl kD (by decide) rfl)) (RQ.ev rfl rfl (fun w hS=>(aj Vr rfl rfl (hS.aA 0 rfl) rfl)) (RQ.ev rfl rfl (fun w hS=>(ah Vh rfl kD (by decide) rfl)) (RQ.ev rfl rfl (fun w hS=>(aj Vr rfl rfl (hS.aA 0 rfl) rfl)) ?_)))))
 refine RQ.do rfl rfl (aR aay rfl rfl rfl rfl ((ll _ (aK g++(ct far).flatten) _ (hN.bZ (M:=[_]) [0] (by decide) rfl) _ ho outs (hT.to.step (hN.sub (M:=[.own vb 5 (v4) (aK g++(ct far).flatten)]) [0] (by decide) rfl)) (dM.step hT.Ju kQ (hN.sub (M:=[.own vb 5 (v4) (aK g++(ct far).flatten)]) [0] (by decide) rfl)) (by(try simp only[UX,Vc,aS]);omega)).mono ?_))
 rintro v5 w5 bE
 replace hN:ak w none_ w5 [_,_]:=ak.bX (M:=[_]) (N:=[_]) (hN.sub [0,1] (by decide) rfl) bE
 clear bE
 refine⟨(hN.sub [1] (by decide) rfl),?_⟩
 refine RQ.do rfl rfl (aR aay rfl rfl rfl rfl ((ll _ (aK g++(ct far).flatten++(cu outs).flatten) _ (hN.bZ (M:=[_]) [0] (by decide) rfl) _ hi ins (hT.ti.step (hN.sub (M:=[.own vb 5 (v5) (aK g++(ct far).flatten++(cu outs).flatten)]) [0] (by decide) rfl)) (dM.step hT.tie kQ (hN.sub (M:=[.own vb 5 (v5) (aK g++(ct far).flatten++(cu outs).flatten)]) [0] (by decide) rfl)) (by(try simp only[UX,Vc,aS]);omega)).mono ?_))
 rintro v6 w6 bE
 replace hN:ak w none_ w6 [_,_]:=ak.bX (M:=[_]) (N:=[_]) (hN.sub [0,1] (by decide) rfl) bE
 clear bE
 refine⟨(hN.sub [1] (by decide) rfl),?_⟩
 refine RQ.ev (v:=v6) rfl rfl (fun w hS=>aa) (RQ.done (by kernel_rfl) (ag (RW.seq ?_)))
 replace hN:=hN.ext (Ext.drew w6)
 refine RW.cb rfl (fun u=>ak w none_ u [.aA g1 [gv,fv,ov,iv,cD,cE] 32]) 8 [(0,0),(1,0),(2,0),(4,0),(5,0),(3,1),(6,1),(7,0)] (by intro _ _ _ h;exact h) (by kernel_rfl) (hN.sub [1] (by decide) rfl) (RQ.ev (v:=v6) rfl rfl (fun w hS=>U) (RQ.ev rfl rfl (fun w hS=>(ah Vh rfl gK (by decide) rfl)) (RQ.ev rfl rfl (fun w hS=>(aj U7 rfl rfl (hS.aA 0 rfl) rfl)) (RQ.ev rfl rfl (fun w hS=>(ah Vh rfl gK (by decide) rfl)) (RQ.ev rfl rfl (fun w hS=>(aj U7 rfl rfl (hS.aA 0 rfl) rfl)) ?_)))))
 refine RQ.do rfl rfl (aR Zb rfl rfl rfl rfl ((kL _ (aK g++(ct far).flatten++(cu outs).flatten++(cu ins).flatten) _ (hN.bZ (M:=[_]) [0] (by decide) rfl) _ gL so (hT.NS.step (hN.sub (M:=[.own vb 5 (v6) (aK g++(ct far).flatten++(cu outs).flatten++(cu ins).flatten)]) [0] (by decide) rfl)) (hT.G1.step (hN.sub (M:=[.own vb 5 (v6) (aK g++(ct far).flatten++(cu outs).flatten++(cu ins).flatten)]) [0] (by decide) rfl)) (by(try simp only[UX,Vc,aS]);omega)).mono ?_))
 rintro v7 w7 bE
 replace hN:ak w none_ w7 [_,_]:=ak.bX (M:=[_]) (N:=[_]) (hN.sub [0,1] (by decide) rfl) bE
 clear bE
 refine⟨(hN.sub [1] (by decide) rfl),?_⟩
 refine RQ.do rfl rfl (aR Zb rfl rfl rfl rfl ((kL _ (aK g++(ct far).flatten++(cu outs).flatten++(cu ins).flatten++(ct so).flatten) _ (hN.bZ (M:=[_]) [0] (by decide) rfl) _ gF si (hT.NT.step (hN.sub (M:=[.own vb 5 (v7) (aK g++(ct far).flatten++(cu outs).flatten++(cu ins).flatten++(ct so).flatten)]) [0] (by decide) rfl)) (hT.G2.step (hN.sub (M:=[.own vb 5 (v7) (aK g++(ct far).flatten++(cu outs).flatten++(cu ins).flatten++(ct so).flatten)]) [0] (by decide) rfl)) (by(try simp only[UX,Vc,aS]);omega)).mono ?_))
 rintro v8 w8 bE
 replace hN:ak w none_ w8 [_,_]:=ak.bX (M:=[_]) (N:=[_]) (hN.sub [0,1] (by decide) rfl) bE
 clear bE
 refine⟨(hN.sub [1] (by decide) rfl),?_⟩
 refine RQ.ev (v:=v8) rfl rfl (fun w hS=>aa) (RQ.done (by kernel_rfl) (ag (RW.ret (aL (RV.tmp rfl) ?_))))
 rw[rm]
 exact⟨hN.dA 0 rfl,hN.aE⟩
end Go.Proofs.YtngkdkbpgoddlaaGreat
namespace Go.Proofs.YtngkdkbpgoddlaaGreat
open Go.RowKit Go.Rl
open Go.Gr
theorem wQ (n:Int) (v:Value) (l:List I3) (k:Nat) (w:World) (hv:Sm bf w v l) (hk:k<l.length):al UY 130 #[.agg #[.int .i64 n,v],.int .i64 (k:Int)] w fun r w'=>r=.bool (decide (nN l k))∧Ext w w':=by
 refine al.start acj rfl (US rfl) ?_
 rw[cc]
 have hN:=ak.nil w none_
 refine RW.seq (RW.region ?_)
 refine RL.op rfl rfl (bq (cs:=[.int .i64 (n),v]) rfl rfl hN ?_)
 clear hN
 intro g1 w1 (hN:ak w none_ w1 [_])
 refine RL.ev (v:=.bool false) rfl rfl aa (RL.nil (ag (RW.seq (RW.region (RL.ev rfl rfl (ah U4 rfl dY (by decide) rfl) (RL.ev rfl rfl (aj Va rfl rfl (hN.aA 0 rfl) rfl) (RL.ev (v:=.int .i64 ((k:Int))) rfl rfl U (RL.ev rfl rfl (bn Va cq aU (by decide) (hv.o.now hN) rfl rfl (by omega) (by omega)) ?_))))))))
 have aw:∃a_,(l)[k]?=some a_:=⟨_,UT (by omega)⟩
 obtain⟨ap,bG⟩:=aw
 refine RL.ev rfl rfl (bU (m:=k) (a:=ap) Ve rfl cq aU (by decide) (hv.o.now hN) rfl bG (cs:=[.int .i64 (ap.1),.int .i64 (ap.2.1),.int .i64 (ap.2.2)]) rfl) ?_
 refine RL.op rfl rfl (aX (cs:=[.int .i64 (0),.int .i64 (0),.int .i64 (0)]) eo rfl hN ?_)
 clear hN
 intro g2 w2 (hN:ak w none_ w2 [_,_])
 refine RL.op rfl rfl (aC (vs:=[.int .i64 (ap.1),.int .i64 (ap.2.1),.int .i64 (ap.2.2)]) cq rfl rfl rfl (by intro u hu;simp only[U9,U2,or_false]at hu;rcases hu with rfl|rfl|rfl<;>first|rfl) hN 0 rfl rfl ?_)
 clear hN
 intro w3 (hN:ak w none_ w3 [_,_])
 refine RL.nil (ag ?_)
 iterate 2 refine RW.seq ?_
 refine RW.region (RL.ev rfl rfl (ah Ve rfl bu (by decide) rfl) (RL.ev rfl rfl (aj UU rfl rfl (hN.aA 0 rfl) rfl) (RL.ev rfl rfl (ah Ve rfl bu (by decide) rfl) (RL.ev rfl rfl (aj UU rfl rfl (hN.aA 0 rfl) rfl) (RL.ev rfl rfl (cI rfl rfl) (RL.nil (ag ?_)))))))
 refine RW.aN _ rfl (fun EA=>?_) (fun EA=>?_)
 refine RW.seq (RW.region (RL.ev (v:=.bool false) rfl rfl aa (RL.nil (ag (RW.ret (aD (aL (RV.tmp rfl) ?_)))))))
 refine⟨congrArg Vd (decide_eq_false ?_).symm,hN.aE⟩
 rintro⟨a,ha,di,_⟩
 rw[bG]at ha
 cases ha
 exact di EA
 refine RW.skip (ag ?_)
 iterate 2 refine RW.seq ?_
 refine RW.region (RL.ev (v:=.int .i64 (0)) rfl rfl aa (RL.nil (ag (RW.block ?_))))
 refine RW.loop (fun q R0 bT=>∃i:Nat,R0 1=.int .i64 ((k:Int))∧R0 2=.pointer (some ⟨g1,0,none⟩)∧R0 5=.pointer (some ⟨g2,0,none⟩)∧R0 6=.int .i64 ((i:Int))∧ak w none_ bT [.aA g2 [.int .i64 (ap.1),.int .i64 (ap.2.1),.int .i64 (ap.2.2)] 100,.aA g1 [.int .i64 (n),v] 24]∧(i+q=l.length)∧(∀(j:Nat) b,j<i→l[j]?=some b→¬(b.1=ap.1∧b.2.1=ap.2.1∧(b.2.2<ap.2.2∨b.2.2=ap.2.2∧j<k)))) (l.length) ?_ ?_
 exact⟨0,rfl,rfl,rfl,rfl,hN,by omega,fun j b hj=>by omega⟩
 clear hN
 rintro q R0 bT ⟨i,bw,bF,bM,dd,hN,eR,eQ⟩
 have bY:∃b6,R0=(aZ (aZ (aZ (aZ b6 1 _) 2 _) 5 _) 6 _):=⟨R0,by rw[ai bw,ai bF,ai bM,ai dd]⟩
 obtain⟨b6,rfl⟩:=bY
 clear bw bF bM dd
 iterate 2 refine RW.seq ?_
 refine RW.region (RL.ev (v:=.int .i64 ((i:Int))) rfl rfl U (RL.ev rfl rfl (ah U4 rfl dY (by decide) rfl) (RL.ev rfl rfl (aj Va rfl rfl (hN.aA 1 rfl) rfl) ?_)))
 have qn:=(hv.o.now hN).aY
 refine RL.ev rfl rfl (bQ Va (hv.o.now hN) rfl) (RL.ev rfl rfl (aV rfl rfl) (RL.nil (ag ?_)))
 refine RW.aN _ rfl (fun bW=>?_) (fun bW=>?_)
 refine RW.skip (ag (RW.seq (RW.block (RW.seq (RW.region (RL.ev rfl rfl (ah U4 rfl dY (by decide) rfl) (RL.ev rfl rfl (aj Va rfl rfl (hN.aA 1 rfl) rfl) (RL.ev (v:=.int .i64 ((i:Int))) rfl rfl U (RL.ev rfl rfl (bn Va cq aU (by decide) (hv.o.now hN) rfl rfl (by omega) (by omega)) ?_)))))))))
 have aw:∃a_,(l)[i]?=some a_:=⟨_,UT (by omega)⟩
 obtain⟨ab,HT⟩:=aw
 refine RL.ev rfl rfl (bU (m:=i) (a:=ab) Ve rfl cq aU (by decide) (hv.o.now hN) rfl HT (cs:=[.int .i64 (ab.1),.int .i64 (ab.2.1),.int .i64 (ab.2.2)]) rfl) ?_
 refine RL.op rfl rfl (aX (cs:=[.int .i64 (0),.int .i64 (0),.int .i64 (0)]) eo rfl hN ?_)
 clear hN
 intro g5 w5 (hN:ak w none_ w5 [_,_,_])
 refine RL.op rfl rfl (aC (vs:=[.int .i64 (ab.1),.int .i64 (ab.2.1),.int .i64 (ab.2.2)]) cq rfl rfl rfl (by intro u hu;simp only[U9,U2,or_false]at hu;rcases hu with rfl|rfl|rfl<;>first|rfl) hN 0 rfl rfl ?_)
 clear hN
 intro w6 (hN:ak w none_ w6 [_,_,_])
 refine RL.nil (ag (RW.seq (RW.region (RL.ev rfl rfl (ah Ve rfl bu (by decide) rfl) (RL.ev rfl rfl (aj UU rfl rfl (hN.aA 0 rfl) rfl) (RL.ev rfl rfl (ah Ve rfl bu (by decide) rfl) (RL.ev rfl rfl (aj UU rfl rfl (hN.aA 1 rfl) rfl) (RL.ev rfl rfl (cI rfl rfl) (RL.ev (v:=.bool (decide (ab.1=ap.1))) rfl rfl U ?_)))))))))
 by_cases IC:ab.1=ap.1
 rw[decide_eq_true IC]
 refine RL.aI rfl rfl (by decide) rfl rfl (ah Ve rfl bu (by decide) rfl) (RL.aI rfl rfl (by decide) rfl rfl (aj UU rfl rfl (hN.aA 0 rfl) rfl) (RL.aI rfl rfl (by decide) rfl rfl (ah Ve rfl bu (by decide) rfl) (RL.aI rfl rfl (by decide) rfl rfl (aj UU rfl rfl (hN.aA 1 rfl) rfl) (RL.aI rfl rfl (by decide) rfl rfl (cI rfl rfl) (RL.ev (v:=.bool (decide (ab.2.1=ap.2.1))) rfl rfl (ao rfl) (RL.ev (v:=.bool (decide (ab.2.1=ap.2.1))) rfl rfl U ?_))))))
 by_cases E7:ab.2.1=ap.2.1
 rw[decide_eq_true E7]
 refine RL.aI rfl rfl (by decide) rfl rfl (ah Ve rfl bu (by decide) rfl) (RL.aI rfl rfl (by decide) rfl rfl (aj UU rfl rfl (hN.aA 0 rfl) rfl) (RL.aI rfl rfl (by decide) rfl rfl (ah Ve rfl bu (by decide) rfl) (RL.aI rfl rfl (by decide) rfl rfl (aj UU rfl rfl (hN.aA 1 rfl) rfl) (RL.aI rfl rfl (by decide) rfl rfl (aV rfl rfl) (RL.aI (v:=.bool (decide (ab.2.2<ap.2.2))) rfl rfl (by decide) rfl rfl U ?_)))))
 by_cases sv:ab.2.2<ap.2.2
 rw[decide_eq_true sv]
 iterate 6 refine RL.off rfl rfl (by decide) rfl rfl ?_
 iterate 3 refine RL.kK rfl rfl (by decide) rfl rfl ?_
 refine RL.off rfl rfl (by decide) rfl rfl (RL.aI (v:=.bool true) rfl rfl (by decide) rfl rfl (ao rfl) (RL.ev (v:=.bool true) rfl rfl (ao rfl) (RL.nil (ag (RW.bK rfl (RW.seq (RW.region (RL.ev (v:=.bool false) rfl rfl aa (RL.nil ?_)))))))))
 refine ag (RW.ret (aJ ?_))
 iterate 2 refine aD ?_
 refine aJ (aD (aL (RV.tmp rfl) ?_))
 refine⟨congrArg Vd (decide_eq_false ?_).symm,hN.aE⟩
 rintro⟨a,ha,di,fU⟩
 rw[bG]at ha
 cases ha
 exact fU i ab HT ⟨by omega,by omega,by omega⟩
 rw[decide_eq_false sv]
 refine RL.aI rfl rfl (by decide) rfl rfl (ah Ve rfl bu (by decide) rfl) (RL.aI rfl rfl (by decide) rfl rfl (aj UU rfl rfl (hN.aA 0 rfl) rfl) (RL.aI rfl rfl (by decide) rfl rfl (ah Ve rfl bu (by decide) rfl) (RL.aI rfl rfl (by decide) rfl rfl (aj UU rfl rfl (hN.aA 1 rfl) rfl) (RL.aI rfl rfl (by decide) rfl rfl (cI rfl rfl) (RL.aI (v:=.bool (decide (ab.2.2=ap.2.2))) rfl rfl (by decide) rfl rfl U ?_)))))
 by_cases E6:ab.2.2=ap.2.2
 rw[decide_eq_true E6]
 refine RL.aI (v:=.int .i64 ((i:Int))) rfl rfl (by decide) rfl rfl U (RL.aI (v:=.int .i64 ((k:Int))) rfl rfl (by decide) rfl rfl U (RL.aI rfl rfl (by decide) rfl rfl (aV rfl rfl) (RL.aI (v:=.bool (decide ((i:Int)<(k:Int)))) rfl rfl (by decide) rfl rfl (ao rfl) (RL.aI (v:=.bool (decide ((i:Int)<(k:Int)))) rfl rfl (by decide) rfl rfl (aH rfl) (RL.ev (v:=.bool (decide ((i:Int)<(k:Int)))) rfl rfl (ao rfl) (RL.nil (ag ?_)))))))
 refine RW.aN _ rfl (fun KK=>?_) (fun KK=>?_)
 refine RW.seq (RW.region (RL.ev (v:=.bool false) rfl rfl aa (RL.nil (ag (RW.ret (aJ ?_))))))
 iterate 2 refine aD ?_
 refine aJ (aD (aL (RV.tmp rfl) ?_))
 refine⟨congrArg Vd (decide_eq_false ?_).symm,hN.aE⟩
 rintro⟨a,ha,di,fU⟩
 rw[bG]at ha
 cases ha
 exact fU i ab HT ⟨by omega,by omega,by omega⟩
 refine RW.skip (a7 (ag (RW.region (RL.ev (v:=.int .i64 ((i:Int))) rfl rfl U (RL.ev rfl rfl (an rfl rfl rfl (bc (by omega) (by omega))) (RL.ev (v:=.int .i64 ((i:Int)+1)) rfl rfl aa (RL.nil (ag ?_))))))))
 exact⟨q-1,by omega,i+1,rfl,rfl,rfl,rfl,(hN.sub [1,2] (by decide) rfl),by omega,fun j b hj hb=>(Xi.1 hj).elim (fun h=>eQ j b h hb) (fun h=>by subst h;rw[HT]at hb;cases hb;rintro⟨h1,h2,h3⟩;omega)⟩
 rw[decide_eq_false E6]
 iterate 3 refine RL.off rfl rfl (by decide) rfl rfl ?_
 iterate 2 refine RL.aI (v:=.bool false) rfl rfl (by decide) rfl rfl (aH rfl) ?_
 refine RL.ev (v:=.bool false) rfl rfl (ao rfl) (RL.nil (ag (RW.dD rfl (RW.skip (a7 (ag (RW.region (RL.ev (v:=.int .i64 ((i:Int))) rfl rfl U (RL.ev rfl rfl (an rfl rfl rfl (bc (by omega) (by omega))) ?_)))))))))
 refine RL.ev (v:=.int .i64 ((i:Int)+1)) rfl rfl aa (RL.nil (ag ?_))
 exact⟨q-1,by omega,i+1,rfl,rfl,rfl,rfl,(hN.sub [1,2] (by decide) rfl),by omega,fun j b hj hb=>(Xi.1 hj).elim (fun h=>eQ j b h hb) (fun h=>by subst h;rw[HT]at hb;cases hb;rintro⟨h1,h2,h3⟩;omega)⟩
 rw[decide_eq_false E7]
 iterate 6 refine RL.off rfl rfl (by decide) rfl rfl ?_
 iterate 10 refine RL.kK rfl rfl (by decide) rfl rfl ?_
 refine RL.off rfl rfl (by decide) rfl rfl (RL.ev (v:=.bool false) rfl rfl (aH rfl) (RL.nil (ag (RW.dD rfl (RW.skip (a7 (ag (RW.region (RL.ev (v:=.int .i64 ((i:Int))) rfl rfl U ?_)))))))))
 refine RL.ev rfl rfl (an rfl rfl rfl (bc (by omega) (by omega))) (RL.ev (v:=.int .i64 ((i:Int)+1)) rfl rfl aa (RL.nil (ag ?_)))
 exact⟨q-1,by omega,i+1,rfl,rfl,rfl,rfl,(hN.sub [1,2] (by decide) rfl),by omega,fun j b hj hb=>(Xi.1 hj).elim (fun h=>eQ j b h hb) (fun h=>by subst h;rw[HT]at hb;cases hb;rintro⟨h1,h2,h3⟩;omega)⟩
 rw[decide_eq_false IC]
 iterate 5 refine RL.off rfl rfl (by decide) rfl rfl ?_
 refine RL.ev (v:=.bool false) rfl rfl (aH rfl) (RL.ev (v:=.bool false) rfl rfl U ?_)
 iterate 6 refine RL.off rfl rfl (by decide) rfl rfl ?_
 iterate 10 refine RL.kK rfl rfl (by decide) rfl rfl ?_
 refine RL.off rfl rfl (by decide) rfl rfl (RL.ev (v:=.bool false) rfl rfl (aH rfl) (RL.nil (ag (RW.dD rfl (RW.skip (a7 (ag (RW.region (RL.ev (v:=.int .i64 ((i:Int))) rfl rfl U ?_)))))))))
 refine RL.ev rfl rfl (an rfl rfl rfl (bc (by omega) (by omega))) (RL.ev (v:=.int .i64 ((i:Int)+1)) rfl rfl aa (RL.nil (ag ?_)))
 exact⟨q-1,by omega,i+1,rfl,rfl,rfl,rfl,(hN.sub [1,2] (by decide) rfl),by omega,fun j b hj hb=>(Xi.1 hj).elim (fun h=>eQ j b h hb) (fun h=>by subst h;rw[HT]at hb;cases hb;rintro⟨h1,h2,h3⟩;omega)⟩
 refine RW.exit ?_
 iterate 2 refine bm ?_
 refine aO (ag (RW.seq (RW.region (RL.ev (v:=.bool true) rfl rfl aa (RL.nil (ag (RW.ret (aL (RV.tmp rfl) ?_))))))))
 refine⟨congrArg Vd (decide_eq_true ⟨ap,bG,EA,fun j b hb=>eQ j b (by have:=(U5.1 hb).1;omega) hb⟩).symm,hN.aE⟩
theorem AF (n:Int) (v:Value) (l:List I3) (w:World) (hv:Sm bf w v l) (eP:dw n l=0):al UY 58 #[.agg #[.int .i64 n,v]] w fun r w'=>∃kv,r=.tuple #[.agg #[.int .i64 n,v,kv],.bool true]∧dy vI 3 w' w.heap.size kv (kept l)∧Ext w w':=by
 refine al.start Tryz.func58 rfl (US rfl) ?_
 rw[bL]
 have hN:=ak.nil w none_
 have RG:=(qO eP).2.2.1
 refine RW.seq (RW.region ?_)
 refine RL.op rfl rfl (bq (cs:=[.int .i64 (n),v]) rfl rfl hN ?_)
 clear hN
 intro g1 w1 (hN:ak w none_ w1 [_])
 refine RL.op rfl rfl (aX (cs:=[.int .i64 (0),.slice none 0 0,.slice none 0 0]) qJ rfl hN ?_)
 clear hN
 intro g2 w2 (hN:ak w none_ w2 [_,_])
 refine RL.ev (v:=.bool false) rfl rfl aa (RL.nil (ag ?_))
 iterate 2 refine RW.seq ?_
 refine RW.region (RL.ev rfl rfl (aG (cs:=[.int .i64 (n),v]) U4 rfl db rfl (hN.aA 1 rfl)) ?_)
 refine RL.op rfl rfl (aM YC rfl rfl rfl ((Ck (n) _ l _ (hv.o.now hN) eP).mono ?_))
 rintro _ w3 ⟨rfl,aW⟩
 replace hN:=hN.ext aW
 clear aW
 refine RL.ev rfl rfl (cm (bp rfl rfl) (fun h=>h rfl)) (RL.nil (ag (RW.dD rfl (RW.skip (ag (RW.seq (RW.region (RL.ev rfl rfl (aG (cs:=[.int .i64 (n),v]) U4 rfl db rfl (hN.aA 1 rfl)) (RL.ev rfl rfl (bh (cs:=[.int .i64 (n),v,.slice none 0 0]) Wk qJ (places:=#[(0,2),(2,1)]) (by intro w;kernel_rfl) (pl:=[(0,.tmp 11)]) rfl (ps:=[(0,.agg #[.int .i64 (n),v])]) rfl (zc:=[.int .i64 (0),.slice none 0 0,.slice none 0 0]) rfl (aP (vs:=[.int .i64 (n),v]) rfl rfl (US rfl) rfl)) ?_)))))))))
 refine RL.op rfl rfl (aX (cs:=[.int .i64 (0),.slice none 0 0,.slice none 0 0]) qJ rfl hN ?_)
 clear hN
 intro g4 w4 (hN:ak w none_ w4 [_,_,_])
 refine RL.op rfl rfl (aC (vs:=[.int .i64 (n),v,.slice none 0 0]) uB rfl rfl rfl (by intro u hu;simp only[U9,U2,or_false]at hu;rcases hu with rfl|rfl|rfl<;>first|rfl|exact(hv.o.now hN).bJ) hN 0 rfl rfl ?_)
 clear hN
 intro w5 (hN:ak w none_ w5 [_,_,_])
 refine RL.nil (ag ?_)
 iterate 2 refine RW.seq ?_
 replace hN:=hN.cj vI 3
 replace hN:ak w none_ w5 [.own vI 3 (.slice none 0 0) ([]),.aA g4 [.int .i64 (n),v,.slice none 0 0] 111,.aA g2 [.int .i64 (0),.slice none 0 0,.slice none 0 0] 111,.aA g1 [.int .i64 (n),v] 24]:=hN
 refine RW.region (RL.ev (v:=.int .i64 (0)) rfl rfl aa (RL.nil (ag (RW.block ?_))))
 refine RW.loop (fun k R0 bT=>∃va:Value,∃acc:List Int,∃i:Nat,R0 1=.pointer (some ⟨g1,0,none⟩)∧R0 2=.pointer (some ⟨g2,0,none⟩)∧R0 4=.pointer (some ⟨g4,0,none⟩)∧R0 5=.int .i64 ((i:Int))∧ak w none_ bT [.own vI 3 (va) (acc),.aA g4 [.int .i64 (n),v,va] 111,.aA g2 [.int .i64 (0),.slice none 0 0,.slice none 0 0] 111,.aA g1 [.int .i64 (n),v] 24]∧(i+k=l.length)∧(acc=(V0 i).map (fun k=>if nN l k then(1:Int)else 0))∧(acc.length=i)) (l.length) ?_ ?_
 exact⟨.slice none 0 0,[],0,rfl,rfl,rfl,rfl,hN,by omega,rfl,rfl⟩
 clear hN
 rintro k R0 bT ⟨va,acc,i,bw,bF,cg,bM,hN,eR,ha,fG⟩
 have bY:∃b6,R0=(aZ (aZ (aZ (aZ b6 1 _) 2 _) 4 _) 5 _):=⟨R0,by rw[ai bw,ai bF,ai cg,ai bM]⟩
 obtain⟨b6,rfl⟩:=bY
 clear bw bF cg bM
 iterate 2 refine RW.seq ?_
 refine RW.region (RL.ev (v:=.int .i64 ((i:Int))) rfl rfl U (RL.ev rfl rfl (ah U4 rfl dY (by decide) rfl) (RL.ev rfl rfl (aj Va rfl rfl (hN.aA 3 rfl) rfl) ?_)))
 have CF:=(hv.o.now hN).aY
 refine RL.ev rfl rfl (bQ Va (hv.o.now hN) rfl) (RL.ev rfl rfl (aV rfl rfl) (RL.nil (ag ?_)))
 refine RW.aN _ rfl (fun bW=>?_) (fun bW=>?_)
 refine RW.skip (ag (RW.seq (RW.block (RW.seq (RW.region (RL.ev (v:=.int .i64 (0)) rfl rfl aa (RL.nil (ag ?_))))))))
 iterate 2 refine RW.seq ?_
 refine RW.region (RL.ev rfl rfl (aG (cs:=[.int .i64 (n),v]) U4 rfl db rfl (hN.aA 3 rfl)) (RL.ev (v:=.int .i64 ((i:Int))) rfl rfl U ?_))
 refine RL.op rfl rfl (aR acj rfl rfl rfl rfl ((wQ (n) _ l i _ (hv.o.now hN) (by omega)).mono ?_))
 rintro _ w7 ⟨rfl,aW⟩
 replace hN:=hN.ext aW
 clear aW
 refine RL.nil (ag ?_)
 refine RW.aN _ rfl (fun P3=>?_) (fun P3=>?_)
 refine RW.region (RL.ev (v:=.int .i64 (1)) rfl rfl aa (RL.nil (ag (RW.region (RL.ev rfl rfl (ah Wk rfl b7 (by decide) rfl) (RL.ev rfl rfl (aj UW rfl rfl (hN.aA 1 rfl) rfl) (RL.ev (v:=.int .i64 (1)) rfl rfl U ?_)))))))
 refine RL.op rfl rfl (bS (enc:=vI) (l:=[1]) (xs:=[.tmp 25]) UW bu mu rfl rfl (fun _=>rfl) rfl (by decide) (by decide) hN ?_)
 clear hN
 intro g8 w8 (hN:ak w none_ w8 [_,_,_,_,_])
 refine RL.op rfl rfl (bD UW fT rfl (fun _=>rfl) hN 1 rfl rfl (hN.sl 0 rfl) rfl (by rw[fG];simp only[U3,U6,Vc];omega) (by decide) ?_)
 clear hN
 intro v9 w9 (hN:ak w none_ w9 [_,_,_,_,_])
 refine RL.ev rfl rfl (ah Wk rfl b7 (by decide) rfl) ?_
 refine RL.op rfl rfl (b9 b7 rfl rfl (hN.sl 1 rfl).cO (hN.sl 1 rfl).bJ hN 2 rfl (US rfl) ?_)
 clear hN
 intro jH (hN:ak w none_ jH [_,_,_,_,_])
 refine RL.nil (a7 (ag (RW.region (RL.ev (v:=.int .i64 ((i:Int))) rfl rfl U (RL.ev rfl rfl (an rfl rfl rfl (bc (by omega) (by omega))) (RL.ev (v:=.int .i64 ((i:Int)+1)) rfl rfl aa (RL.nil (ag ?_))))))))
 exact⟨k-1,by omega,v9,acc++[1],i+1,rfl,rfl,rfl,rfl,(hN.sub [1,2,3,4] (by decide) rfl),by omega,by rw[uT,ha,if_pos P3],by rw[UX,fG];rfl⟩
 refine RW.skip (ag (RW.region (RL.ev rfl rfl (ah Wk rfl b7 (by decide) rfl) (RL.ev rfl rfl (aj UW rfl rfl (hN.aA 1 rfl) rfl) (RL.ev (v:=.int .i64 (0)) rfl rfl U ?_)))))
 refine RL.op rfl rfl (bS (enc:=vI) (l:=[0]) (xs:=[.tmp 25]) UW bu mu rfl rfl (fun _=>rfl) rfl (by decide) (by decide) hN ?_)
 clear hN
 intro I4 jj (hN:ak w none_ jj [_,_,_,_,_])
 refine RL.op rfl rfl (bD UW fT rfl (fun _=>rfl) hN 1 rfl rfl (hN.sl 0 rfl) rfl (by rw[fG];simp only[U3,U6,Vc];omega) (by decide) ?_)
 clear hN
 intro xx iP (hN:ak w none_ iP [_,_,_,_,_])
 refine RL.ev rfl rfl (ah Wk rfl b7 (by decide) rfl) ?_
 refine RL.op rfl rfl (b9 b7 rfl rfl (hN.sl 1 rfl).cO (hN.sl 1 rfl).bJ hN 2 rfl (US rfl) ?_)
 clear hN
 intro kC (hN:ak w none_ kC [_,_,_,_,_])
 refine RL.nil (a7 (ag (RW.region (RL.ev (v:=.int .i64 ((i:Int))) rfl rfl U (RL.ev rfl rfl (an rfl rfl rfl (bc (by omega) (by omega))) (RL.ev (v:=.int .i64 ((i:Int)+1)) rfl rfl aa (RL.nil (ag ?_))))))))
 exact⟨k-1,by omega,xx,acc++[0],i+1,rfl,rfl,rfl,rfl,(hN.sub [1,2,3,4] (by decide) rfl),by omega,by rw[uT,ha,if_neg P3],by rw[UX,fG];rfl⟩
 refine RW.exit ?_
 iterate 2 refine bm ?_
 refine aO (ag (RW.seq (RW.region (RL.ev rfl rfl (aG (cs:=[.int .i64 (n),v,va]) Wk rfl uB rfl (hN.aA 1 rfl)) ?_))))
 refine RL.op rfl rfl (aC (vs:=[.int .i64 (n),v,va]) uB rfl rfl rfl (by intro u hu;simp only[U9,U2,or_false]at hu;rcases hu with rfl|rfl|rfl<;>first|rfl|exact(hN.sl 0 rfl).bJ|exact(hv.o.now hN).bJ) hN 2 rfl rfl ?_)
 clear hN
 intro lF (hN:ak w none_ lF [_,_,_,_])
 refine RL.ev (v:=.bool true) rfl rfl aa (RL.nil (ag (RW.ret (aL (RV.bV rfl rfl (bI (hN.aA 2 rfl) Wk rfl uB)) ?_))))
 have fk:i=l.length:=by omega
 subst fk
 subst ha
 exact⟨va,rfl,hN.dA 0 rfl,hN.aE⟩
end Go.Proofs.YtngkdkbpgoddlaaGreat
namespace Go.Proofs.YtngkdkbpgoddlaaGreat
open Go.RowKit Go.Rl
open Go.Gr
theorem wK (n:Int) (v kv:Value) (l:List I3) (w:World) (hv:Sm bf w v l):al UY 59 #[.agg #[.int .i64 n,v,kv]] w fun r w'=>r=.int .u64 ((ig n l).toNat:Int)∧Ext w w':=by
 refine al.start Tryz.func59 rfl (US rfl) ?_
 rw[bL]
 have hN:=ak.nil w none_
 refine RW.seq (RW.region ?_)
 refine RL.op rfl rfl (bq (cs:=[.int .i64 (n),v,kv]) rfl rfl hN ?_)
 clear hN
 intro g1 w1 (hN:ak w none_ w1 [_])
 refine RL.ev (v:=.int .u64 (0)) rfl rfl aa (RL.nil (ag (RW.seq (RW.region (RL.ev rfl rfl (ah Wk rfl db (by decide) rfl) (RL.ev rfl rfl (ah U4 rfl bu (by decide) rfl) (RL.ev rfl rfl (aj UU rfl rfl (hN.aA 0 rfl) rfl) ?_)))))))
 refine RL.op rfl rfl (aR Yo rfl rfl rfl rfl ((kE (14695981039346656037#64) n _).mono ?_))
 rintro _ _ ⟨rfl,rfl⟩
 refine RL.ev (v:=.int .u64 (((jU (14695981039346656037#64) n).toNat:Int))) rfl rfl aa (RL.nil (ag ?_))
 iterate 2 refine RW.seq ?_
 refine RW.region (RL.ev (v:=.int .i64 (0)) rfl rfl aa (RL.nil (ag (RW.block ?_))))
 refine RW.loop (fun k R0 bT=>∃h:xe,∃i:Nat,R0 1=.pointer (some ⟨g1,0,none⟩)∧R0 3=.int .u64 (((h).toNat:Int))∧R0 4=.int .i64 ((i:Int))∧ak w none_ bT [.aA g1 [.int .i64 (n),v,kv] 111]∧(i+k=l.length)∧(h=(l.take i).foldl pz (jU (14695981039346656037#64) n))) (l.length) ?_ ?_
 exact⟨jU (14695981039346656037#64) n,0,rfl,rfl,rfl,hN,by omega,rfl⟩
 clear hN
 rintro k R0 bT ⟨h,i,bw,ca,cg,hN,eR,hh⟩
 have bY:∃b6,R0=(aZ (aZ (aZ b6 1 _) 3 _) 4 _):=⟨R0,by rw[ai bw,ai ca,ai cg]⟩
 obtain⟨b6,rfl⟩:=bY
 clear bw ca cg
 iterate 2 refine RW.seq ?_
 refine RW.region (RL.ev (v:=.int .i64 ((i:Int))) rfl rfl U (RL.ev rfl rfl (ah Wk rfl db (by decide) rfl) (RL.ev rfl rfl (ah U4 rfl dY (by decide) rfl) (RL.ev rfl rfl (aj Va rfl rfl (hN.aA 0 rfl) rfl) ?_))))
 have mQ:=(hv.o.now hN).aY
 refine RL.ev rfl rfl (bQ Va (hv.o.now hN) rfl) (RL.ev rfl rfl (aV rfl rfl) (RL.nil (ag ?_)))
 refine RW.aN _ rfl (fun bW=>?_) (fun bW=>?_)
 refine RW.skip (ag (RW.seq (RW.block (RW.seq (RW.region (RL.ev rfl rfl (ah Wk rfl db (by decide) rfl) (RL.ev rfl rfl (ah U4 rfl dY (by decide) rfl) (RL.ev rfl rfl (aj Va rfl rfl (hN.aA 0 rfl) rfl) (RL.ev (v:=.int .i64 ((i:Int))) rfl rfl U ?_)))))))))
 refine RL.ev rfl rfl (bn Va cq aU (by decide) (hv.o.now hN) rfl rfl (by omega) (by omega)) ?_
 have aw:∃a_,(l)[i]?=some a_:=⟨_,UT (by omega)⟩
 obtain⟨ap,bG⟩:=aw
 refine RL.ev rfl rfl (bU (m:=i) (a:=ap) Ve rfl cq aU (by decide) (hv.o.now hN) rfl bG (cs:=[.int .i64 (ap.1),.int .i64 (ap.2.1),.int .i64 (ap.2.2)]) rfl) ?_
 refine RL.op rfl rfl (aX (cs:=[.int .i64 (0),.int .i64 (0),.int .i64 (0)]) eo rfl hN ?_)
 clear hN
 intro g4 w4 (hN:ak w none_ w4 [_,_])
 refine RL.op rfl rfl (aC (vs:=[.int .i64 (ap.1),.int .i64 (ap.2.1),.int .i64 (ap.2.2)]) cq rfl rfl rfl (by intro u hu;simp only[U9,U2,or_false]at hu;rcases hu with rfl|rfl|rfl<;>first|rfl) hN 0 rfl rfl ?_)
 clear hN
 intro w5 (hN:ak w none_ w5 [_,_])
 refine RL.nil (ag ?_)
 replace hN:=hN.ext (Ext.drew w5)
 refine RW.cb rfl (fun u=>ak w none_ u [.aA g4 [.int .i64 (ap.1),.int .i64 (ap.2.1),.int .i64 (ap.2.2)] 100,.aA g1 [.int .i64 (n),v,kv] 111]) 11 [(0,0),(1,0),(2,0),(4,0),(5,0),(7,0),(8,0),(3,1),(6,1),(9,1),(10,0)] (by intro _ _ _ h;exact h) (by kernel_rfl) hN (RQ.ev (v:=.int .u64 (((h).toNat:Int))) rfl rfl (fun w hS=>U) (RQ.ev rfl rfl (fun w hS=>(ah Ve rfl bu (by decide) rfl)) (RQ.ev rfl rfl (fun w hS=>(aj UU rfl rfl (hS.aA 0 rfl) rfl)) (RQ.ev rfl rfl (fun w hS=>(ah Ve rfl bu (by decide) rfl)) (RQ.ev rfl rfl (fun w hS=>(aj UU rfl rfl (hS.aA 0 rfl) rfl)) (RQ.ev rfl rfl (fun w hS=>(ah Ve rfl bu (by decide) rfl)) (RQ.ev rfl rfl (fun w hS=>(aj UU rfl rfl (hS.aA 0 rfl) rfl)) ?_)))))))
 refine RQ.do rfl rfl (aR Yo rfl rfl rfl rfl ((kE (h) ap.1 _).mono ?_))
 rintro _ _ ⟨rfl,rfl⟩
 refine⟨hN,?_⟩
 refine RQ.do rfl rfl (aR Yo rfl rfl rfl rfl ((kE (jU (h) ap.1) ap.2.1 _).mono ?_))
 rintro _ _ ⟨rfl,rfl⟩
 refine⟨hN,?_⟩
 refine RQ.do rfl rfl (aR Yo rfl rfl rfl rfl ((kE (jU (jU (h) ap.1) ap.2.1) ap.2.2 _).mono ?_))
 rintro _ _ ⟨rfl,rfl⟩
 refine⟨hN,?_⟩
 refine RQ.ev (v:=.int .u64 (((jU (jU (jU (h) ap.1) ap.2.1) ap.2.2).toNat:Int))) rfl rfl (fun w hS=>aa) (RQ.done (by kernel_rfl) (a7 (ag (RW.region (RL.ev (v:=.int .i64 ((i:Int))) rfl rfl U (RL.ev rfl rfl (an rfl rfl rfl (bc (by omega) (by omega))) (RL.ev (v:=.int .i64 ((i:Int)+1)) rfl rfl aa (RL.nil (ag ?_)))))))))
 exact⟨k-1,by omega,pz h ap,i+1,rfl,rfl,rfl,(hN.sub [1] (by decide) rfl),by omega,by rw[pB bG,hh]⟩
 refine RW.exit ?_
 iterate 2 refine bm ?_
 refine aO (ag (RW.seq (RW.region (RL.ev (v:=.int .u64 (((h).toNat:Int))) rfl rfl U (RL.ev (v:=.int .u64 (((h).toNat:Int))) rfl rfl aa (RL.nil (ag (RW.ret (aL (RV.tmp rfl) ?_)))))))))
 rw[show i=l.length by omega,Vz]at hh
 subst hh
 exact⟨rfl,hN.aE⟩
end Go.Proofs.YtngkdkbpgoddlaaGreat
namespace Go.Proofs.YtngkdkbpgoddlaaGreat
open Go.RowKit Go.Rl
open Go.Gr Go.cP Go.hO
theorem tH (n:Int) (v:Value) (ar:List I3) (w:World) (hv:Sm bf w v ar):al UY 124 #[.agg #[.int .i64 n,v]] w fun r w'=>dy vb 5 w' w.heap.size r (iD n ar)∧Ext w w':=by
 refine al.start ack rfl (US rfl) ?_
 rw[bL]
 have hN:=ak.nil w none_
 refine RW.seq (RW.region ?_)
 refine RL.op rfl rfl (bq (cs:=[.int .i64 (n),v]) rfl rfl hN ?_)
 clear hN
 intro g1 w1 (hN:ak w none_ w1 [_])
 refine RL.ev (v:=.slice none 0 0) rfl rfl aa (RL.nil (ag (RW.seq (RW.region (RL.ev (v:=.int .u64 (0)) rfl rfl aa (RL.nil (ag ?_)))))))
 iterate 2 refine RW.seq ?_
 by_cases eP:dw n ar=0
 refine RW.region (RL.ev rfl rfl (aG (cs:=[.int .i64 (n),v]) U4 rfl db rfl (hN.aA 0 rfl)) ?_)
 refine RL.op rfl rfl (aM YC rfl rfl rfl ((kM (n) _ ar _ (hv.o.now hN)).mono ?_))
 rintro _ w2 ⟨rfl,aW⟩
 replace hN:=hN.ext aW
 clear aW
 refine RL.ev rfl rfl (cS (cI rfl rfl) eP) (RL.nil (ag (RW.bK rfl (RW.seq (RW.region (RL.ev rfl rfl (aG (cs:=[.int .i64 (n),v]) U4 rfl db rfl (hN.aA 0 rfl)) ?_))))))
 refine RL.op rfl rfl (aM Tryz.func58 rfl rfl rfl ((AF (n) _ ar _ (hv.o.now hN) eP).mono ?_))
 rintro _ w3 ⟨OE,rfl,cx,aW⟩
 replace hN:ak w none_ w3 [_,_]:=hN.bx cx aW
 clear cx aW
 refine RL.ev (v:=.tuple #[.agg #[.int .i64 (n),v,OE],.bool true]) rfl rfl U ?_
 iterate 2 refine RL.ev rfl rfl (bg rfl rfl) ?_
 refine RL.op rfl rfl (aX (cs:=[.int .i64 (0),.slice none 0 0,.slice none 0 0]) qJ rfl hN ?_)
 clear hN
 intro g4 w4 (hN:ak w none_ w4 [_,_,_])
 refine RL.op rfl rfl (aC (vs:=[.int .i64 (n),v,OE]) uB rfl rfl rfl (by intro u hu;simp only[U9,U2,or_false]at hu;rcases hu with rfl|rfl|rfl<;>first|rfl|exact(hN.sl 1 rfl).bJ|exact(hv.o.now hN).bJ) hN 0 rfl rfl ?_)
 clear hN
 intro w5 (hN:ak w none_ w5 [_,_,_])
 refine RL.ev (v:=.bool true) rfl rfl aa (RL.nil (ag (RW.region (RL.ev rfl rfl (aG (cs:=[.int .i64 (n),v,OE]) Wk rfl uB rfl (hN.aA 0 rfl)) ?_))))
 refine RL.op rfl rfl (aM Tryz.func59 rfl rfl rfl ((wK (n) _ _ ar _ (hv.o.now hN)).mono ?_))
 rintro _ w6 ⟨rfl,aW⟩
 replace hN:=hN.ext aW
 clear aW
 have GH:=(ig n ar).isLt
 refine RL.ev (v:=.int .u64 (((ig (n) ar).toNat:Int))) rfl rfl aa (RL.nil (ag (RW.seq (RW.region ?_))))
 refine RL.op rfl rfl (bS (enc:=vb) (l:=[80,82,49]) (xs:=[.const (.int .u8 (80)),.const (.int .u8 (82)),.const (.int .u8 (49))]) U1 lG Ie rfl rfl (fun _=>rfl) rfl (by decide) (by decide) hN ?_)
 clear hN
 intro g7 w7 (hN:ak w none_ w7 [_,_,_,_])
 refine RL.op rfl rfl (iX U1 Vu hN 0 rfl rfl rfl ?_)
 clear hN
 intro w8 (hN:ak w none_ w8 [_,_,_,_])
 refine RL.ev (v:=.slice (some ⟨g7,0,none⟩) 3 3) rfl rfl aa (RL.nil (ag (RW.seq (RW.region (RL.ev (v:=.slice (some ⟨g7,0,none⟩) 3 3) rfl rfl U (RL.ev (v:=.int .u64 (((ig (n) ar).toNat:Int))) rfl rfl U ?_))))))
 refine RL.op rfl rfl (aR XM rfl rfl rfl rfl ((gN ((ig (n) ar).toNat) 8 _ (by omega)).mono ?_))
 rintro v9 w9 ⟨cx,aW⟩
 replace hN:ak w none_ w9 [_,_,_,_,_]:=hN.bx (l:=put ((ig (n) ar).toNat) 8) cx aW
 clear cx aW
 refine RL.op rfl rfl (gQ U1 j4 rfl hN (hN.C5 1 rfl) rfl rfl (hN.sl 0 rfl) (by rw[bR];omega) rfl (by rw[bR];simp only[U6,Vc];omega) (by decide) ?_)
 clear hN
 intro v10 jH (hN:ak w none_ jH [_,_,_,_,_,_])
 refine RL.ev (v:=v10) rfl rfl aa (RL.nil (ag (RW.seq (RW.region (RL.ev (v:=v10) rfl rfl U (RL.ev (v:=v10) rfl rfl aa (RL.nil (ag (RW.ret ?_)))))))))
 refine aL (RV.tmp rfl) ?_
 rw[yL eP]
 exact⟨hN.dA 0 rfl,hN.aE⟩
 have CB:=eP
 refine RW.region (RL.ev rfl rfl (aG (cs:=[.int .i64 (n),v]) U4 rfl db rfl (hN.aA 0 rfl)) ?_)
 refine RL.op rfl rfl (aM YC rfl rfl rfl ((kM (n) _ ar _ (hv.o.now hN)).mono ?_))
 rintro _ jj ⟨rfl,aW⟩
 replace hN:=hN.ext aW
 clear aW
 refine RL.ev rfl rfl (cm (cI rfl rfl) eP) (RL.nil (ag (RW.dD rfl (RW.skip (ag (RW.seq (RW.region ?_)))))))
 refine RL.op rfl rfl (bS (enc:=vb) (l:=[80,82,49]) (xs:=[.const (.int .u8 (80)),.const (.int .u8 (82)),.const (.int .u8 (49))]) U1 lG Ie rfl rfl (fun _=>rfl) rfl (by decide) (by decide) hN ?_)
 clear hN
 intro wM iP (hN:ak w none_ iP [_,_])
 refine RL.op rfl rfl (iX U1 Vu hN 0 rfl rfl rfl ?_)
 clear hN
 intro kC (hN:ak w none_ kC [_,_])
 refine RL.ev (v:=.slice (some ⟨wM,0,none⟩) 3 3) rfl rfl aa (RL.nil (ag (RW.seq (RW.region (RL.ev (v:=.slice (some ⟨wM,0,none⟩) 3 3) rfl rfl U (RL.ev (v:=.int .u64 (0)) rfl rfl U ?_))))))
 refine RL.op rfl rfl (aR XM rfl rfl rfl rfl ((gN 0 8 _ (by omega)).mono ?_))
 rintro Gt lF ⟨cx,aW⟩
 replace hN:ak w none_ lF [_,_,_]:=hN.bx (l:=put 0 8) cx aW
 clear cx aW
 refine RL.op rfl rfl (gQ U1 j4 rfl hN (hN.C5 1 rfl) rfl rfl (hN.sl 0 rfl) (by rw[bR];omega) rfl (by rw[bR];simp only[U6,Vc];omega) (by decide) ?_)
 clear hN
 intro C4 k9 (hN:ak w none_ k9 [_,_,_,_])
 refine RL.ev (v:=C4) rfl rfl aa (RL.nil (ag (RW.seq (RW.region (RL.ev (v:=C4) rfl rfl U (RL.ev (v:=C4) rfl rfl aa (RL.nil (ag (RW.ret ?_)))))))))
 refine aL (RV.tmp rfl) ?_
 rw[uZ CB]
 exact⟨hN.dA 0 rfl,hN.aE⟩
theorem qc (n:Int) (ar:List I3) (rk:List Int) (ws:List I5) (g:List Int) (far:List (List Int)) (outs ins:List (List I2)) (so si:List (List Int)) (v rv wv gv fv ov iv cD cE:Value) (hf ho hi gL gF:List Hd) (w:World) (hv:Sm bf w v ar) (hr:Sl vI w rv rk) (hw:Sm bC w wv ws) (hT:qI none_ w gv g fv hf far ov ho outs iv hi ins cD gL so cE gF si) (fG:ar.length≤67108864) (qS:rk.length≤67108864) (JZ:ws.length≤67108864) (pS:g.length≤67108864) (sD:far.length≤67108864∧∀r∈far,r.length≤67108864) (Lw:outs.length≤67108864∧∀r∈outs,r.length≤67108864) (HJ:ins.length≤67108864∧∀r∈ins,r.length≤67108864) (Ag:so.length≤67108864∧∀r∈so,r.length≤67108864) (Ai:si.length≤67108864∧∀r∈si,r.length≤67108864) (ew:eA (mq n ar rk ws g far outs ins so si)≤140737488351232):al UY 56 #[.agg #[.int .i64 n,v,rv,wv,gv,fv,ov,iv,cD,cE]] w fun r w'=>dy vb 5 w' w.heap.size r (cX (mq n ar rk ws g far outs ins so si))∧Ext w w':=by
 refine al.start Tryz.func56 rfl (US rfl) ?_
 rw[bL]
 have hN:=ak.nil w none_
 have aw:=Il ew
 obtain⟨iR,ff,NZ,GF⟩:=aw
 refine RW.seq (RW.region ?_)
 refine RL.op rfl rfl (bq (cs:=[.int .i64 (n),v,rv,wv,gv,fv,ov,iv,cD,cE]) rfl rfl hN ?_)
 clear hN
 intro g1 w1 (hN:ak w none_ w1 [_])
 refine RL.ev (v:=.slice none 0 0) rfl rfl aa (RL.nil (ag (RW.seq ?_)))
 replace hN:=hN.ext (Ext.drew w1)
 refine RW.cb rfl (fun u=>ak w none_ u [.aA g1 [.int .i64 (n),v,rv,wv,gv,fv,ov,iv,cD,cE] 34]) 15 [(0,0),(1,0),(3,0),(4,0),(6,0),(7,0),(9,0),(10,0),(2,1),(5,1),(8,1),(11,1),(12,1),(13,1),(14,0)] (by intro _ _ _ h;exact h) (by kernel_rfl) hN (RQ.ev rfl rfl (fun w hS=>(ah U8 rfl db (by decide) rfl)) (RQ.ev rfl rfl (fun w hS=>(cr (cs:=[.int .i64 (n),v,rv,wv,gv,fv,ov,iv,cD,cE]) (j:=0) (m:=2) U4 rfl db rfl (hS.aA 0 rfl) (US rfl))) (RQ.ev rfl rfl (fun w hS=>(ah U8 rfl db (by decide) rfl)) (RQ.ev rfl rfl (fun w hS=>(cr (cs:=[.int .i64 (n),v,rv,wv,gv,fv,ov,iv,cD,cE]) (j:=0) (m:=2) U4 rfl db rfl (hS.aA 0 rfl) (US rfl))) (RQ.ev rfl rfl (fun w hS=>(ah U8 rfl dr (by decide) rfl)) (RQ.ev rfl rfl (fun w hS=>(cr (cs:=[.int .i64 (n),v,rv,wv,gv,fv,ov,iv,cD,cE]) (j:=2) (m:=2) Vb rfl dr rfl (hS.aA 0 rfl) (US rfl))) (RQ.ev rfl rfl (fun w hS=>(ah U8 rfl ga (by decide) rfl)) (RQ.ev rfl rfl (fun w hS=>(cr (cs:=[.int .i64 (n),v,rv,wv,gv,fv,ov,iv,cD,cE]) (j:=4) (m:=6) Vh rfl ga rfl (hS.aA 0 rfl) (US rfl))) ?_))))))))
 refine RQ.do rfl rfl (aM ack rfl rfl rfl ((tH n _ ar _ (hv.o.now hN)).mono ?_))
 rintro v2 w2 ⟨cx,aW⟩
 replace hN:ak w none_ w2 [_,_]:=hN.bx (l:=(iD n ar)) cx aW
 clear cx aW
 refine⟨(hN.sub [1] (by decide) rfl),?_⟩
 refine RQ.do rfl rfl (aM acg rfl rfl rfl ((rK n _ ar _ (hv.o.now hN) fG).mono ?_))
 rintro v3 w3 ⟨cx,aW⟩
 replace hN:ak w none_ w3 [_,_,_]:=hN.bx (l:=(ij n ar).flatten) cx aW
 clear cx aW
 refine⟨(hN.sub [2] (by decide) rfl),?_⟩
 refine RQ.do rfl rfl (aM ach rfl rfl rfl ((qb rk ws _ _ _ (hr.o.now hN) (hw.o.now hN) qS JZ).mono ?_))
 rintro v4 w4 ⟨cx,aW⟩
 replace hN:ak w none_ w4 [_,_,_,_]:=hN.bx (l:=(eL rk ws).flatten) cx aW
 clear cx aW
 refine⟨(hN.sub [3] (by decide) rfl),?_⟩
 refine RQ.do rfl rfl (aM aci rfl rfl rfl ((n3 g far outs ins so si gv fv ov iv cD cE hf ho hi gL gF _ (hT.ext hN.aE) GF).mono ?_))
 rintro v5 w5 ⟨cx,aW⟩
 replace hN:ak w none_ w5 [_,_,_,_,_]:=hN.bx (l:=(dI g far outs ins so si).flatten) cx aW
 clear cx aW
 refine⟨(hN.sub [4] (by decide) rfl),?_⟩
 have aw:=(hN.sl 3 rfl).hd
 obtain⟨h7,eM⟩:=aw
 subst eM
 have aw:=(hN.sl 2 rfl).hd
 obtain⟨h8,eM⟩:=aw
 subst eM
 have aw:=(hN.sl 1 rfl).hd
 obtain⟨h9,eM⟩:=aw
 subst eM
 have aw:=(hN.sl 0 rfl).hd
 obtain⟨Nz,eM⟩:=aw
 subst eM
 refine RQ.do rfl rfl (bS (enc:=vh) (l:=[h7,h8,h9,Nz]) (xs:=[.tmp 5,.tmp 8,.tmp 11,.tmp 14]) VB fq Dq rfl rfl (fun _=>rfl) rfl (by decide) (by decide) hN ?_)
 clear hN
 intro g6 w6 (hN:ak w none_ w6 [_,_,_,_,_,_])
 refine⟨(hN.sub [5] (by decide) rfl),?_⟩
 refine RQ.do rfl rfl (aM abT rfl rfl rfl ((tF _ ([h7,h8,h9,Nz]) [((iD n ar)),((ij n ar).flatten),((eL rk ws).flatten),((dI g far outs ins so si).flatten)] _ (hN.sl 0 rfl) (ep.cons (hN.sl 4 rfl) (py.none _ _) (ep.cons (hN.sl 3 rfl) (py.none _ _) (ep.cons (hN.sl 2 rfl) (py.none _ _) (ep.cons (hN.sl 1 rfl) (py.none _ _) (ep.nil _ _ _))))) ew).mono ?_))
 rintro v11 jj ⟨cx,aW⟩
 replace hN:ak w none_ jj [_,_,_,_,_,_,_]:=hN.bx (l:=cX (mq n ar rk ws g far outs ins so si)) cx aW
 clear cx aW
 refine⟨(hN.sub [6] (by decide) rfl),?_⟩
 refine RQ.ev (v:=v11) rfl rfl (fun w hS=>aa) (RQ.done (by kernel_rfl) (ag (RW.ret (aL (RV.tmp rfl) ?_))))
 exact⟨hN.dA 0 rfl,hN.aE⟩
end Go.Proofs.YtngkdkbpgoddlaaGreat
