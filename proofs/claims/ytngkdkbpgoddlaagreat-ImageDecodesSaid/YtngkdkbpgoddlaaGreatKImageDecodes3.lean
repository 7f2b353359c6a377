/- The law ImageDecodes: texts that its row leans on (3). -/
import Derived.Test.YtngkdkbpgoddlaaGreatKImageDecodes2
set_option linter.unusedVariables false
set_option linter.unusedSimpArgs false
set_option linter.unusedSectionVars false
set_option maxHeartbeats 4000000
set_option maxRecDepth 100000
open Array renaming getElem?_eq_some_iff → VD
open BitVec renaming ofNat → Xe, xor_zero → Ym, shiftRight_add → ZI
open Decidable renaming not_not → Vi
open Go.Proofs.Tryz renaming underlying3 → UU, underlying25 → UW, prog → UY, underlying98 → U0, underlying38 → U1, underlying24 → U4, underlying29 → U7, underlying34 → U8, underlying22 → Va, underlying28 → Vb, underlying100 → Ve, underlying26 → Vg, underlying32 → Vh, underlying96 → Vj, underlying169 → Vk, underlying30 → Vr, underlying5 → Vu, underlying118 → Vy, underlying57 → VA, underlying45 → VB, underlying135 → VE, underlying89 → VI, underlying9 → VO, underlying211 → Wi, func70 → Wj, underlying75 → Wq, underlying144 → Ww, underlying59 → WB, func76 → W2, func95 → Xc, func40 → Xm, underlying257 → XN, func66 → X5, func71 → X6, func84 → X7, func153 → Yp, func36 → YA, underlying123 → YG, underlying132 → YH, func67 → Zp, func18 → Zs, func68 → Zt, func29 → Zu, func83 → Zv, func14 → Zw, func41 → Zx, func202 → aah, func173 → aai, func174 → aaj, func158 → aak, func37 → aaH, func92 → aaI, func91 → aaJ, func28 → aaK, func52 → aaL, func157 → abG, func177 → abI, func175 → abJ, func176 → abK, func210 → abL, func193 → abM, func155 → abN, func219 → abO, func215 → abP, func204 → abQ, func116 → abR, func115 → abS, func123 → abT, func102 → abU
open Go.Value renaming bool → Vd, int → Vn, tuple → Zr
open Go.World renaming cell?_of_block → WJ
open List renaming getElem?_eq_getElem → UT, length_append → UX, mem_of_getElem? → UZ, not_mem_nil → U2, length_singleton → U3, length_cons → U6, mem_cons → U9, length_nil → Vc, length_map → Vl, replicate → Vm, take_of_length_le → Vo, length_take → Vs, length_drop → Vt, length_replicate → Vw, take_length → Vz, append_assoc → VF, append_nil → V4, eq_nil_of_length_eq_zero → Wg, nil_append → Wm, getElem?_set → Wu, drop_eq_nil_of_le → WQ, length_pos_iff → XC, size_toArray → YQ
open Nat renaming le_of_ble_eq_true → US, le_trans → Vf, le_refl → Vv, lt_of_le_of_lt → VJ, zero_le → VP, lt_of_lt_of_le → Wh, eq_zero_or_pos → XI
open Option renaming map_map → abd
open Prod renaming ext → V7, snd → Wd
namespace Go.Proofs.YtngkdkbpgoddlaaGreat
open Go.RowKit Go.Rl
open Go.cP
theorem zP {v:Value} {s t:St} {most m:Int} {size:Nat} {w:World} {b:Nat} (hB:jD vb b w v s.1) (kS:b≤w.heap.size) (QX:0<size) (iM: -9223372036854775808≤most) (fZ:most≤9223372036854775807) (hq:cQ s most size=(t,m)):
    al UY 173 #[TV v s.2,vi most,vi (size:Int)] w (fun r w'=>∃x,r=.tuple #[TV x t.2,vi m]∧jD vb b w' x t.1∧Ext w w'):=by
  have h:=mW b v s most size w hB kS QX iM fZ
  rw[hq]at h
  exact h
theorem vM (v:Value) (s:St) (w:World) (hv:Sl vb w v s.1):al UY 175 #[TV v s.2] w fun r w'=>r=vi (jx s)∧Ext w w':=by
 refine al.start abJ rfl (US rfl) ?_
 rw[bL]
 have aw:=id hv
 obtain⟨A0,c0,Es,P4,MN,dv⟩:=aw
 subst Es
 refine RW.seq (RW.region ?_)
 refine RL.op rfl rfl (oZ (cs:=[.slice A0 s.1.length c0,.int .i64 s.2]) rfl rfl ?_)
 intro w1 iN gM iR
 have Es:=hv.ext gM
 refine RL.ev rfl rfl aa (RL.nil (ag ?_))
 iterate 2 refine RW.seq ?_
 by_cases h0:s.2=0
 refine RW.region (RL.ev rfl rfl (ah Vk rfl bu (by decide) rfl) (RL.ev rfl rfl (aj UU rfl rfl iN rfl) (RL.ev rfl rfl (cS (cI rfl rfl) h0) (RL.ev rfl rfl U (RL.aI rfl rfl (by decide) rfl rfl (ah Vk rfl fq (by decide) rfl) (RL.aI rfl rfl (by decide) rfl rfl (aj U1 rfl rfl iN rfl) (RL.aI rfl rfl (by decide) rfl rfl (aQ U1 Es rfl) (RL.aI rfl rfl (by decide) rfl rfl (cN rfl rfl) (RL.ev rfl rfl (ao rfl) ?_)))))))))
 refine RL.nil (ag ?_)
 refine RW.aN _ rfl (fun GJ=>?_) (fun GJ=>?_)
 refine RW.seq (RW.region (RL.ev rfl rfl aa (RL.nil (ag (RW.ret (aD (aL (RV.tmp rfl) ?_)))))))
 refine⟨?_,gM⟩
 unfold jx
 rw[if_neg (by simp[h0])]
 first
   |rw[if_pos (by omega)];rfl
   |(rw[if_neg (by omega),h0];rfl)
   |(rw[if_neg (by omega)];show vi s.2=_;rw[h0])
 refine RW.skip (ag (RW.seq (RW.region (RL.ev rfl rfl (ah Vk rfl bu (by decide) rfl) (RL.ev rfl rfl (aj UU rfl rfl iN rfl) (RL.ev rfl rfl aa (RL.nil (ag (RW.ret ?_)))))))))
 refine aL (RV.tmp rfl) ?_
 refine⟨?_,gM⟩
 unfold jx
 rw[if_neg (by simp[h0])]
 first
   |rw[if_pos (by omega)];rfl
   |(rw[if_neg (by omega),h0];rfl)
   |(rw[if_neg (by omega)];show vi s.2=_;rw[h0])
 refine RW.region (RL.ev rfl rfl (ah Vk rfl bu (by decide) rfl) (RL.ev rfl rfl (aj UU rfl rfl iN rfl) (RL.ev rfl rfl (cm (cI rfl rfl) h0) (RL.ev rfl rfl U ?_))))
 iterate 4 refine RL.off rfl rfl (by decide) rfl rfl ?_
 refine RL.ev rfl rfl (aH rfl) (RL.nil (ag (RW.dD rfl (RW.skip (ag (RW.seq (RW.region (RL.ev rfl rfl (ah Vk rfl bu (by decide) rfl) (RL.ev rfl rfl (aj UU rfl rfl iN rfl) ?_)))))))))
 refine RL.ev rfl rfl aa (RL.nil (ag (RW.ret (aL (RV.tmp rfl) ?_))))
 refine⟨?_,gM⟩
 unfold jx
 rw[if_pos h0];rfl
theorem nZ (b:Nat) (v:Value) (s:St) (most:Int) (w:World) (hB:jD vb b w v s.1) (kS:b≤w.heap.size) (iM: -9223372036854775808≤most) (fZ:most≤9223372036854775807):al UY 176 #[TV v s.2,vi most] w fun r w'=>∃x y,r=.tuple #[TV x (bO s most).1.2,y]∧jD vb b w' x (bO s most).1.1∧dy vi 3 w' w.heap.size y (bO s most).2∧Ext w w':=by
 refine al.start abK rfl (US rfl) ?_
 rw[cc]
 have hv:=hB.sl
 have aw:=id hv
 obtain⟨A0,c0,Es,P4,MN,dv⟩:=aw
 subst Es
 have Ry:=Cm s most
 generalize hq:cQ s most 8=q at Ry
 obtain⟨t,m⟩:=q
 obtain⟨N,R7,tX,R6,T4,R5,R4,RY⟩:=Ry
 rw[R4,RY]
 simp only at tX R6 T4 R5 ⊢
 clear R4 RY
 refine RW.seq (RW.region ?_)
 refine RL.op rfl rfl (oZ (cs:=[.slice A0 s.1.length c0,.int .i64 s.2]) rfl rfl ?_)
 intro w1 iN gM iR
 refine RL.op rfl rfl (fB (cs:=[.slice none 0 0,.int .i64 0]) nS rfl ?_)
 intro w2 jR jh ff
 replace iN:=iN.ext jh
 have OI:=gM.size
 refine RL.ev rfl rfl aa (RL.nil (ag (RW.seq (RW.region (RL.ev rfl rfl (aG (cs:=[.slice A0 s.1.length c0,.int .i64 s.2]) Vk rfl cJ rfl iN) (RL.ev rfl rfl U ?_))))))
 refine RL.op rfl rfl (cF aai rfl rfl rfl rfl rfl ((zP ((hB.ext gM).ext jh) (by omega) (by decide) iM fZ hq).mono ?_))
 rintro _ w3 ⟨x,rfl,hx,ml⟩
 have T8:=hx.sl
 obtain⟨A3,c3,qQ,_,Kj,_⟩:=T8
 subst qQ
 replace jR:=jR.ext ml
 have S2:=ml.size
 refine RL.ev rfl rfl U ?_
 iterate 2 refine RL.ev rfl rfl (bg rfl rfl) ?_
 refine RL.op rfl rfl (fB (cs:=[.slice none 0 0,.int .i64 0]) nS rfl ?_)
 intro w4 u1 yM GF
 replace jR:=jR.ext yM
 replace hx:=hx.ext yM
 refine RL.op rfl rfl (cK (vs:=[.slice A3 t.1.length c3,.int .i64 t.2]) cJ rfl rfl rfl (jN _ _ _ _) u1 rfl ?_)
 intro w5 HR yA O4
 replace jR:=jR.mod yA (fun e=>by omega)
 have HX:Ext w w5:=(((gM.trans jh).trans ml).trans yM).then yA (fun i hi e=>by omega)
 replace hx:=hx.mod yA (fun k hk e=>by omega)
 refine RL.ev rfl rfl aa (RL.nil (ag (RW.seq (RW.region (RL.ev rfl rfl aa (RL.nil (ag ?_)))))))
 iterate 2 refine RW.seq ?_
 refine RW.region (RL.ev rfl rfl aa (RL.nil (ag (RW.block ?_))))
 refine RW.loop (fun k R w'=>∃i:Nat,∃vo:Value,∃xi:Value,R 9=.int .i64 (i:Int)∧R 8=vo∧R 7=vi m∧R 6=.pointer (some ⟨w3.heap.size,0,none⟩)∧R 4=.pointer (some ⟨w1.heap.size,0,none⟩)∧(i+k=N)∧(jD vb b w' xi (t.1.drop (i*8)))∧(fV w' w3.heap.size [xi,.int .i64 t.2] 169)∧(fV w' w1.heap.size [.slice none 0 0,.int .i64 0] 169)∧(dy vi 3 w' w5.heap.size vo (fj i t.1))∧(Ext w w')∧(w5.heap.size≤w'.heap.size)) N ?_ ?_
 exact⟨0,.slice none 0 0,_,rfl,rfl,rfl,rfl,rfl,by omega,by simpa using hx,HR,jR,dy.nil _ _ _ _,HX,Vv _⟩
 rintro k R w' ⟨i,vo,xi,dc,cl,cd,dd,cg,eR,OM,AA,Dj,ho,dZ,ew⟩
 have bY:∃R0,R=(aZ (aZ (aZ (aZ (aZ R0 9 _) 8 _) 7 _) 6 _) 4 _):=⟨R,by rw[ai dc,ai cl,ai cd,ai dd,ai cg]⟩
 obtain⟨R0,rfl⟩:=bY
 clear dc cl cd dd cg
 have HB:=OM.sl
 obtain⟨A5,c5,L6,_,Tt,_⟩:=HB
 subst L6
 have HE:=ho.lt
 iterate 2 refine RW.seq ?_
 refine RW.region ?_
 iterate 2 refine RL.ev rfl rfl U ?_
 refine RL.ev rfl rfl (aV rfl rfl) (RL.nil (ag ?_))
 refine RW.aN _ rfl (fun bW=>?_) (fun bW=>?_)
 refine RW.skip (ag (RW.seq (RW.block (RW.seq (RW.region ?_)))))
 have RK:i<N:=by
   rcases XI N with h|h
   · have:=R6 h;omega
   · have:=tX h;omega
 have OW:t.2=0:=R5 (by omega)
 have fF:=Cg t.1 t.2 i OW (by omega)
 refine RL.ev rfl rfl (aG (cs:=[.slice A5 (t.1.drop (i*8)).length c5,.int .i64 t.2]) Vk rfl cJ rfl AA) ?_
 refine RL.op rfl rfl (aR aah rfl rfl rfl rfl ((uJ (s:=(t.1.drop (i*8),t.2)) OM (by omega) wV fF).mono ?_))
 rintro _ w6 ⟨x2,rfl,Io,Ax⟩
 have T7:=Io.sl
 obtain⟨A6,c6,S6,_,Ts,_⟩:=T7
 subst S6
 have Uu:=Ax.size
 refine RL.ev rfl rfl U ?_
 iterate 2 refine RL.ev rfl rfl (bg rfl rfl) ?_
 refine RL.op rfl rfl (fB (cs:=[.slice none 0 0,.int .i64 0]) nS rfl ?_)
 intro w7 IW Na O3
 refine RL.op rfl rfl (cK (vs:=[.slice A6 (t.1.drop ((i+1)*8)).length c6,.int .i64 0]) cJ rfl rfl rfl (jN _ _ _ _) IW rfl ?_)
 intro w8 Ob De NY
 have Qh:=((AA.ext Ax).ext Na).mod De (fun e=>by omega)
 have Qi:=((Dj.ext Ax).ext Na).mod De (fun e=>by omega)
 have Tr:=((ho.ext Ax).ext Na).mod De (fun k hk e=>by have:=HE k hk;omega)
 have S5:=(Io.ext Na).mod De (fun k hk e=>by omega)
 have T6:Ext w w8:=((dZ.trans Ax).trans Na).then De (fun i hi e=>by have:=dZ.size;omega)
 refine RL.ev rfl rfl aa (RL.nil (ag (RW.seq (RW.region (RL.ev rfl rfl (aG (cs:=[.slice A6 (t.1.drop ((i+1)*8)).length c6,.int .i64 0]) Vk rfl cJ rfl Ob) ?_)))))
 refine RL.op rfl rfl (cK (vs:=[.slice A6 (t.1.drop ((i+1)*8)).length c6,.int .i64 0]) cJ rfl rfl rfl (jN _ _ _ _) Qh rfl ?_)
 intro w9 TT N4 NX
 refine RL.nil (ag (RW.region ?_))
 iterate 2 refine RL.ev rfl rfl U ?_
 refine RL.ev rfl rfl (cw VA UU rfl (oR _ (JQ _))) ?_
 refine RL.op rfl rfl (nu (enc:=vi) (l:=[Dz (le ((t.1.drop (i*8)).take 8))]) (xs:=[.tmp 31]) UW bu mu rfl rfl (fun _=>rfl) rfl (by decide) (by decide) ?_)
 intro jH An yO Ft Mi
 refine RL.op rfl rfl (eg UW fT rfl (fun _=>rfl) ((Tr.mod N4 (fun k hk e=>by have:=HE k hk;omega)).ext Ft) rfl An.sl rfl (by simp only[U6,Vc,oq];omega) (by decide) (by omega) ?_)
 intro v11 jj Pv EM TC
 refine RL.ev rfl rfl aa (RL.nil (a7 (ag (RW.region (RL.ev rfl rfl U (RL.ev rfl rfl (an rfl rfl rfl (bc (by omega) (by omega))) (RL.ev rfl rfl aa (RL.nil (ag ?_)))))))))
 refine⟨k-1,by omega,i+1,v11,_,rfl,rfl,rfl,rfl,rfl,by omega,((S5.mod N4 (fun k hk e=>by omega)).ext Ft).mod EM (fun k hk e=>by have:=HE k e;omega),?_,((Qi.mod N4 (fun e=>by omega)).ext Ft).mod EM (fun e=>by have:=HE _ e;omega),by rw[sd];exact Pv,((T6.then N4 (fun k hk e=>by omega)).trans Ft).then EM (fun k hk e=>by have:=HE k e;omega),by have:=EM.size;omega⟩
 rw[OW]
 exact(TT.ext Ft).mod EM (fun e=>by have:=HE _ e;omega)
 refine RW.exit ?_
 iterate 2 refine bm ?_
 refine aO (ag (RW.seq (RW.region (RL.ev rfl rfl (aG (cs:=[.slice A5 (t.1.drop (i*8)).length c5,.int .i64 t.2]) Vk rfl cJ rfl AA) (RL.ev rfl rfl U ?_)))))
 refine RL.op rfl rfl (cK (vs:=[.slice A5 (t.1.drop (i*8)).length c5,.int .i64 t.2]) cJ rfl rfl rfl (jN _ _ _ _) Dj rfl ?_)
 intro vz Qk Kk Tg
 refine RL.ev rfl rfl aa (RL.nil (ag (RW.ret ?_)))
 have RK:i=N:=by
   rcases XI N with h|h
   · omega
   · have:=tX h;omega
 subst RK
 have hE:Ext w vz:=dZ.then Kk (fun i hi e=>by omega)
 refine aL (RV.bV rfl rfl (bI Qk Vk rfl cJ)) ?_
 exact⟨_,_,rfl,OM.mod Kk (fun k hk e=>by omega),(ho.mod Kk (fun k hk e=>by have:=HE k hk;omega)).lower (by omega),hE⟩
end Go.Proofs.YtngkdkbpgoddlaaGreat
namespace Go.Proofs.YtngkdkbpgoddlaaGreat
open Go.RowKit Go.Rl
open Go.hO
theorem vu:(UY.info? 257).map (·.zero)=some (some (.agg (Vm 256 (.int .u32 0)).toArray)):=by kernel_rfl
theorem zD (x:BitVec 32) (w:World):al UY 210 #[u32 x] w fun v w'=>v=u32 (hO.step x)∧w=w':=by
 refine al.start abL rfl (US rfl) ?_
 rw[bL]
 refine RW.seq (RW.region (RL.ev rfl rfl aa (RL.nil (ag (RW.seq (RW.region (RL.ev rfl rfl U (RL.ev rfl rfl (mn rfl rfl (by decide) (zg _ 1 (by decide))) (RL.ev rfl rfl U ?_)))))))))
 refine RL.ev rfl rfl (an rfl rfl rfl (Ja _ 1#32)) (RL.ev rfl rfl (K5 rfl (NI _)) (RL.ev rfl rfl (an rfl rfl rfl (Ja _ B9)) (RL.ev rfl rfl (an rfl rfl rfl (vg _ _)) (RL.ev rfl rfl aa (RL.nil (ag (RW.ret (aL (RV.tmp rfl) ?_))))))))
 exact⟨rfl,rfl⟩
theorem xz (w:World):al UY 193 #[] w fun v w'=>v=.agg (iK 256).toArray∧Ext w w':=by
 refine al.start abM rfl (US rfl) ?_
 rw[Jb]
 refine RW.seq (RW.region ?_)
 refine RL.op rfl rfl (fB vu rfl ?_)
 intro w1 Ql gM iR
 refine RL.nil (ag (RW.seq (RW.region ?_)))
 refine RL.op rfl rfl (fB vu rfl ?_)
 intro w2 iN jh ff
 refine RL.nil (ag ?_)
 iterate 2 refine RW.seq ?_
 refine RW.region (RL.ev rfl rfl U (RL.nil (ag (RW.block ?_))))
 refine RW.loop (fun k R w'=>∃i:Nat,R 4=.int .i64 (i:Int)∧R 0=.pointer (some ⟨w.heap.size,0,none⟩)∧R 1=.pointer (some ⟨w1.heap.size,0,none⟩)∧(i+k=256)∧(fV w' w.heap.size (Vm 256 (.int .u32 0)) 257)∧(fV w' w1.heap.size (iK i) 257)∧(Ext w w')) 256 ?_ ?_
 exact⟨0,rfl,rfl,rfl,rfl,Ql.ext jh,by rw[xA];exact iN,gM.trans jh⟩
 rintro k R w' ⟨i,cg,bN,bw,eR,IU,AA,dZ⟩
 have bY:∃R0,R=(aZ (aZ (aZ R0 4 _) 0 _) 1 _):=⟨R,by rw[ai cg,ai bN,ai bw]⟩
 obtain⟨R0,rfl⟩:=bY
 clear cg bN bw
 refine RW.seq (RW.region (RL.ev rfl rfl (aV rfl rfl) (RL.nil (ag (RW.seq ?_)))))
 refine RW.aN _ rfl (fun bW=>?_) (fun bW=>?_)
 refine RW.skip (ag (RW.seq (RW.block (RW.seq (RW.region (RL.ev rfl rfl U (RL.ev rfl rfl aa (RL.nil (ag ?_)))))))))
 refine RW.seq (RW.region (RL.ev rfl rfl U (RL.ev rfl rfl (cw UU Ww rfl (F9 i)) (RL.ev rfl rfl aa (RL.nil (ag ?_))))))
 iterate 2 refine RW.seq ?_
 refine RW.region (RL.ev rfl rfl U (RL.nil (ag (RW.block ?_))))
 refine RW.loop (fun k2 R2 xf=>∃j:Nat,R2 9=.int .i64 (j:Int)∧R2 3=u32 (dO j (Xe 32 i))∧R2 2=.int .i64 (i:Int)∧R2 4=.int .i64 (i:Int)∧R2 0=.pointer (some ⟨w.heap.size,0,none⟩)∧R2 1=.pointer (some ⟨w1.heap.size,0,none⟩)∧(j+k2=8)∧(xf=w')) 8 ?_ ?_
 exact⟨0,rfl,rfl,rfl,rfl,rfl,rfl,rfl,rfl⟩
 rintro k2 R2 xf ⟨j,dc,ca,bF,cg,bN,bw,wy,hw⟩
 have bY:∃NO,R2=(aZ (aZ (aZ (aZ (aZ (aZ NO 9 _) 3 _) 2 _) 4 _) 0 _) 1 _):=⟨R2,by rw[ai dc,ai ca,ai bF,ai cg,ai bN,ai bw]⟩
 obtain⟨NO,rfl⟩:=bY
 clear dc ca bF cg bN bw
 subst hw
 refine RW.seq (RW.region (RL.ev rfl rfl (aV rfl rfl) (RL.nil (ag (RW.seq ?_)))))
 refine RW.aN _ rfl (fun eI=>?_) (fun eI=>?_)
 refine RW.skip (ag (RW.seq (RW.block (RW.region (RL.ev rfl rfl U ?_)))))
 refine RL.op rfl rfl (aM abL rfl rfl rfl ((zD (dO j (Xe 32 i)) _).mono ?_))
 rintro _ _ ⟨rfl,rfl⟩
 refine RL.ev rfl rfl aa (RL.nil (a7 (ag (RW.region (RL.ev rfl rfl (an rfl rfl rfl (bc (by omega) (by omega))) (RL.ev rfl rfl U (RL.nil (ag ?_))))))))
 exact⟨k2-1,by omega,j+1,rfl,by rw[rp];rfl,rfl,rfl,rfl,rfl,by omega,rfl⟩
 refine RW.exit ?_
 iterate 2 refine bm ?_
 refine aO (ag (RW.region ?_))
 iterate 2 refine RL.ev rfl rfl U ?_
 refine RL.ev rfl rfl (p5 XN DE rfl rfl (by omega) (by omega)) ?_
 refine RL.op rfl rfl (kn DE rfl rfl rfl rfl AA (by rw[eE];omega) ?_)
 intro w3 KO Bi NZ
 refine RL.nil (a7 (ag (RW.region (RL.ev rfl rfl (an rfl rfl rfl (bc (by omega) (by omega))) (RL.ev rfl rfl U (RL.nil (ag ?_)))))))
 have TD:j=8:=by omega
 subst TD
 exact⟨k-1,by omega,i+1,rfl,rfl,rfl,by omega,IU.mod Bi (by omega),by rw[xB i];exact KO,dZ.then Bi (by have:=dZ.size;omega)⟩
 refine RW.exit ?_
 iterate 2 refine bm ?_
 refine aO (ag (RW.seq (RW.region (RL.ev rfl rfl (aG (cs:=iK 256) XN rfl (by rw[eE];exact AX) rfl (by rw[show i=256 from by omega]at AA;exact AA)) ?_))))
 refine RL.op rfl rfl (cK (vs:=iK 256) (by rw[eE];exact AX) rfl rfl rfl (rn 256) IU (by rw[eE];simp) ?_)
 intro w4 u1 MO GF
 refine RL.nil (ag (RW.ret (aL (RV.cell rfl rfl u1 XN rfl (by rw[YQ,eE];exact AX)) ?_)))
 exact⟨rfl,dZ.then MO (by omega)⟩
theorem z2 (n:BitVec 32) (v:Value) (l:List UInt8) (w:World) (hv:Sl vb w v l):al UY 155 #[u32 n,v] w fun r w'=>r=u32 (hO.more n l)∧Ext w w':=by
 refine al.start abN rfl (US rfl) ?_
 rw[cc]
 refine RW.seq (RW.region (RL.ev rfl rfl aa (RL.nil (ag (RW.seq (RW.region ?_))))))
 refine RL.op rfl rfl (oa abM rfl rfl ((xz _).mono ?_))
 rintro _ w1 ⟨rfl,gM⟩
 refine RL.op rfl rfl (fB vu rfl ?_)
 intro w2 jR jh ff
 refine RL.op rfl rfl (cK (vs:=iK 256) (by rw[eE];exact AX) rfl rfl rfl (rn 256) jR (by rw[eE];simp) ?_)
 intro w3 KO Bi NZ
 have ml:Ext w w3:=(gM.trans jh).then Bi (by have:=gM.size;omega)
 have OS:=hv.ext ml
 have hlen:=hv.aY
 refine RL.nil (ag (RW.seq (RW.region (RL.ev rfl rfl U (RL.ev rfl rfl (y7 rfl (I9 _)) (RL.ev rfl rfl aa (RL.nil (ag ?_))))))))
 iterate 2 refine RW.seq ?_
 refine RW.region (RL.ev rfl rfl U (RL.ev rfl rfl (aQ U1 OS rfl) (RL.ev rfl rfl U (RL.nil (ag (RW.block ?_))))))
 refine RW.loop (fun k R w'=>∃i:Nat,R 13=.int .i64 (i:Int)∧R 0=u32 (ko (~~~n) (l.take i))∧R 11=v∧R 12=.int .i64 (l.length:Int)∧R 5=.pointer (some ⟨w1.heap.size,0,none⟩)∧(i+k=l.length)∧(w'=w3)) l.length ?_ ?_
 exact⟨0,rfl,rfl,rfl,rfl,rfl,by omega,rfl⟩
 rintro k R w' ⟨i,gH,bN,iC,gI,bM,eR,hw⟩
 have bY:∃R0,R=(aZ (aZ (aZ (aZ (aZ R0 13 _) 0 _) 11 _) 12 _) 5 _):=⟨R,by rw[ai gH,ai bN,ai iC,ai gI,ai bM]⟩
 obtain⟨R0,rfl⟩:=bY
 clear gH bN iC gI bM
 subst hw
 refine RW.seq (RW.region (RL.ev rfl rfl (aV rfl rfl) (RL.nil (ag (RW.seq ?_)))))
 refine RW.aN _ rfl (fun bW=>?_) (fun bW=>?_)
 refine RW.skip (ag (RW.seq (RW.block (RW.seq (RW.region (RL.ev rfl rfl (aB U1 lG OS rfl rfl (by omega) (by omega)) (RL.ev rfl rfl (iH Vu rfl OS rfl (by omega)) (RL.ev rfl rfl aa (RL.nil ?_)))))))))
 refine ag (RW.region (RL.ev rfl rfl U (RL.ev rfl rfl (mn rfl rfl (by decide) (zg _ 8 (by decide))) (RL.ev rfl rfl U (RL.ev rfl rfl (cw Ww Vu rfl (NH _)) (RL.ev rfl rfl U (RL.ev rfl rfl (an rfl rfl rfl (La _ _)) (RL.ev rfl rfl (p5 XN DE rfl rfl (by omega) (by have:=Gl (ko (~~~n) (l.take i)^^^wide l[(i:Int).toNat]);omega)) (RL.ev rfl rfl (aj Ww rfl rfl KO (G6 _ (Gl _))) ?_)))))))))
 refine RL.ev rfl rfl (an rfl rfl rfl (NF _ _)) (RL.ev rfl rfl aa (RL.nil (a7 (ag (RW.region (RL.ev rfl rfl (an rfl rfl rfl (bc (by omega) (by omega))) (RL.ev rfl rfl U (RL.nil (ag ?_)))))))))
 refine⟨k-1,by omega,i+1,rfl,?_,rfl,rfl,rfl,by omega,rfl⟩
 rw[←rY (~~~n) l i (by omega)];rfl
 refine RW.exit ?_
 iterate 2 refine bm ?_
 refine aO (ag (RW.seq (RW.region (RL.ev rfl rfl U (RL.ev rfl rfl (y7 rfl (I9 _)) (RL.ev rfl rfl aa (RL.nil (ag (RW.ret ?_)))))))))
 refine aL (RV.tmp rfl) ?_
 refine⟨?_,ml⟩
 show u32 (~~~(ko (~~~n) (l.take i)))=_
 rw[Vo (by omega)];rfl
theorem uC (v:Value) (l:List UInt8) (w:World) (hv:Sl vb w v l):al UY 92 #[v] w fun r w'=>r=u32 (hO.sum l)∧Ext w w':=by
 refine al.start aaI rfl (US rfl) ?_
 rw[bL]
 refine RW.seq (RW.region (RL.ev rfl rfl aa (RL.nil (ag (RW.seq (RW.region (RL.ev rfl rfl U ?_)))))))
 refine RL.op rfl rfl (aR abN rfl rfl rfl rfl ((z2 0#32 v l _ hv).mono ?_))
 rintro _ w1 ⟨rfl,gM⟩
 refine RL.ev rfl rfl aa (RL.nil (ag (RW.ret (aL (RV.tmp rfl) ?_))))
 exact⟨rfl,gM⟩
theorem rj (n:BitVec 32) (w:World):al UY 91 #[u32 n] w fun r w'=>dy vb 5 w' w.heap.size r (ix n)∧Ext w w':=by
 refine al.start aaJ rfl (US rfl) ?_
 rw[bL]
 refine RW.seq (RW.region (RL.ev rfl rfl aa (RL.nil (ag (RW.seq (RW.region (RL.ev rfl rfl U (RL.ev rfl rfl (cw Ww Vu rfl (H8 _)) (RL.ev rfl rfl U ?_)))))))))
 refine RL.ev rfl rfl (mn rfl rfl (by decide) (zg _ 8 (by decide))) (RL.ev rfl rfl (cw Ww Vu rfl (AN _ 8)) (RL.ev rfl rfl U (RL.ev rfl rfl (mn rfl rfl (by decide) (zg _ 16 (by decide))) (RL.ev rfl rfl (cw Ww Vu rfl (AN _ 16)) (RL.ev rfl rfl U (RL.ev rfl rfl (mn rfl rfl (by decide) (zg _ 24 (by decide))) (RL.ev rfl rfl (cw Ww Vu rfl (AN _ 24)) ?_)))))))
 refine RL.op rfl rfl (nu (enc:=vb) (l:=ix n) (xs:=[.tmp 4,.tmp 7,.tmp 10,.tmp 13]) U1 lG Ie rfl rfl re rfl (by decide) (by decide) ?_)
 intro w1 ka iN gM iR
 refine RL.ev rfl rfl aa (RL.nil (ag (RW.ret (aL (RV.tmp rfl) ?_))))
 exact⟨ka,gM⟩
theorem zv (v:Value) (l:List UInt8) (w:World) (hv:Sl vb w v l) (hl:l.length≤140737488355324):al UY 49 #[v] w fun r w'=>dy vb 5 w' w.heap.size r (l++ix (hO.sum l))∧Ext w w':=by
 refine al.start Tryz.func49 rfl (US rfl) ?_
 rw[bL]
 refine RW.seq (RW.region (RL.ev rfl rfl aa (RL.nil (ag (RW.seq (RW.region (RL.ev rfl rfl U ?_)))))))
 refine RL.op rfl rfl (eg (l:=[]) U1 j4 rfl hZ (dy.nil vb 5 w w.heap.size) rfl hv rfl (by simp;omega) (by decide) (Vv _) ?_)
 intro v1 w1 ka fZ Ar
 rw[Wm]at ka
 have gM:Ext w w1:=fZ.mono (by intro i _ h;cases h)
 refine RL.ev rfl rfl aa (RL.nil (ag (RW.seq (RW.region ?_))))
 iterate 2 refine RL.ev rfl rfl U ?_
 refine RL.op rfl rfl (aM aaI rfl rfl rfl ((uC v l _ (hv.ext gM)).mono ?_))
 rintro _ w2 ⟨rfl,jh⟩
 refine RL.op rfl rfl (aM aaJ rfl rfl rfl ((rj (hO.sum l) _).mono ?_))
 rintro vt w3 ⟨MJ,ml⟩
 refine RL.op rfl rfl (eg U1 j4 rfl hZ (ka.ext (jh.trans ml)) rfl MJ.sl rfl (by simp[ix];omega) (by decide) (by have:=gM.size;have:=jh.size;have:=ml.size;omega) ?_)
 intro v4 w4 MK MO UG
 refine RL.ev rfl rfl aa (RL.nil (ag (RW.ret (aL (RV.tmp rfl) ?_))))
 exact⟨MK,((gM.trans jh).trans ml).then MO (fun i hi e=>by have:=(ka.lt _ e).1;omega)⟩
theorem zY (v:Value) (l:List UInt8) (w:World) (hv:Sl vb w v l) (hl:l.length≤140737488355328):al UY 38 #[v] w fun r w'=>(fA l=true∧∃x,r=.tuple #[x,.int .i64 0]∧dy vb 5 w' w.heap.size x (l.take (l.length-4))∧Ext w w')∨(fA l=false∧r=.tuple #[.slice none 0 0,.int .i64 5]∧Ext w w'):=by
 refine al.start Tryz.func38 rfl (US rfl) ?_
 rw[bL]
 refine RW.seq (RW.region ?_)
 iterate 2 refine RL.ev rfl rfl aa ?_
 refine RL.nil (ag (RW.seq (RW.region ?_)))
 have hlen:=hv.aY
 refine RL.ev rfl rfl U (RL.ev rfl rfl (aQ U1 hv rfl) (RL.ev rfl rfl (an rfl rfl rfl (kc (by omega) (by omega))) (RL.ev rfl rfl aa (RL.nil (ag ?_)))))
 iterate 2 refine RW.seq ?_
 by_cases EJ:(l.length:Int)-4<0
 refine RW.draw rfl (fun w'=>Ext w w') ?_
 have hS:Ext w w.drew:=Ext.drew w
 have iZ:decide ((l.length:Int)-4<0)=true:=decide_eq_true EJ
 refine RA.take (i:=0) rfl rfl (by kernel_rfl) (by kernel_rfl) (by kernel_rfl) (by intro _ _ _ h;exact h) rfl hS (fun w hS=>U) (RA.take (i:=1) rfl rfl (by kernel_rfl) (by kernel_rfl) (by kernel_rfl) (by intro _ _ _ h;exact h) rfl hS (fun w hS=>(aV rfl rfl)) (RA.take (i:=2) rfl rfl (by kernel_rfl) (by kernel_rfl) (by kernel_rfl) (by intro _ _ _ h;exact h) rfl hS (fun w hS=>U) (RA.dE (i:=3) rfl rfl rfl (by decide) (congrArg Vd iZ) (by kernel_rfl) (by kernel_rfl) (by kernel_rfl) (by intro _ _ _ h;exact h) rfl hS (RA.dE (i:=4) rfl rfl rfl (by decide) (congrArg Vd iZ) (by kernel_rfl) (by kernel_rfl) (by kernel_rfl) (by intro _ _ _ h;exact h) rfl hS (RA.dE (i:=5) rfl rfl rfl (by decide) (congrArg Vd iZ) (by kernel_rfl) (by kernel_rfl) (by kernel_rfl) (by intro _ _ _ h;exact h) rfl hS (RA.dE (i:=6) rfl rfl rfl (by decide) (congrArg Vd iZ) (by kernel_rfl) (by kernel_rfl) (by kernel_rfl) (by intro _ _ _ h;exact h) rfl hS (RA.dE (i:=7) rfl rfl rfl (by decide) (congrArg Vd iZ) (by kernel_rfl) (by kernel_rfl) (by kernel_rfl) (by intro _ _ _ h;exact h) rfl hS (RA.dE (i:=8) rfl rfl rfl (by decide) (congrArg Vd iZ) (by kernel_rfl) (by kernel_rfl) (by kernel_rfl) (by intro _ _ _ h;exact h) rfl hS (RA.dE (i:=9) rfl rfl rfl (by decide) (congrArg Vd iZ) (by kernel_rfl) (by kernel_rfl) (by kernel_rfl) (by intro _ _ _ h;exact h) rfl hS ?_)))))))))
 refine RA.dE (i:=10) rfl rfl rfl (by decide) (congrArg Vd iZ) (by kernel_rfl) (by kernel_rfl) (by kernel_rfl) (by intro _ _ _ h;exact h) rfl hS (RA.dE (i:=11) rfl rfl rfl (by decide) (congrArg Vd iZ) (by kernel_rfl) (by kernel_rfl) (by kernel_rfl) (by intro _ _ _ h;exact h) rfl hS (RA.dE (i:=12) rfl rfl rfl (by decide) (congrArg Vd iZ) (by kernel_rfl) (by kernel_rfl) (by kernel_rfl) (by intro _ _ _ h;exact h) rfl hS (RA.dE (i:=13) rfl rfl rfl (by decide) (congrArg Vd iZ) (by kernel_rfl) (by kernel_rfl) (by kernel_rfl) (by intro _ _ _ h;exact h) rfl hS (RA.take (i:=14) rfl rfl (by kernel_rfl) (by kernel_rfl) (by kernel_rfl) (by intro _ _ _ h;exact h) rfl hS (fun w hS=>(ao (by exact congrArg Vd iZ))) (RA.done (by kernel_rfl) (ag (RW.bK rfl (RW.seq (RW.region ?_)))))))))
 iterate 2 refine RL.ev rfl rfl aa ?_
 refine RL.nil (ag (RW.ret (aD (aL (RV.fR rfl) ?_))))
 refine .inr ⟨?_,rfl,Ext.drew w⟩
 unfold fA;exact decide_eq_false (by omega)
 refine RW.draw rfl (fun w'=>Ext w w') ?_
 have hS:Ext w w.drew:=Ext.drew w
 have iZ:decide ((l.length:Int)-4<0)=false:=decide_eq_false EJ
 have J0:((l.length:Int)-4).toNat=l.length-4:=by omega
 refine RA.take (i:=0) rfl rfl (by kernel_rfl) (by kernel_rfl) (by kernel_rfl) (by intro _ _ _ h;exact h) rfl hS (fun w hS=>U) (RA.take (i:=1) rfl rfl (by kernel_rfl) (by kernel_rfl) (by kernel_rfl) (by intro _ _ _ h;exact h) rfl hS (fun w hS=>(aV rfl rfl)) (RA.take (i:=2) rfl rfl (by kernel_rfl) (by kernel_rfl) (by kernel_rfl) (by intro _ _ _ h;exact h) rfl hS (fun w hS=>U) (RA.fS (i:=3) rfl rfl rfl (by decide) (congrArg Vd iZ) (by kernel_rfl) (by kernel_rfl) (by kernel_rfl) (by intro _ _ _ h;exact h) rfl hS (fun w hS=>U) (RA.fS (i:=4) rfl rfl rfl (by decide) (congrArg Vd iZ) (by kernel_rfl) (by kernel_rfl) (by kernel_rfl) (by intro _ _ _ h;exact h) rfl hS (fun w hS=>U) (RA.fS (i:=5) rfl rfl rfl (by decide) (congrArg Vd iZ) (by kernel_rfl) (by kernel_rfl) (by kernel_rfl) (by intro _ _ _ h;exact h) rfl hS (fun w hS=>(gX U1 lG (hv.ext hS) rfl rfl (by omega) (by omega))) (RA.fS (i:=9) rfl rfl rfl (by decide) (congrArg Vd iZ) (by kernel_rfl) (by kernel_rfl) (by kernel_rfl) (by intro _ _ _ h;exact h) rfl hS (fun w hS=>U) (RA.fS (i:=10) rfl rfl rfl (by decide) (congrArg Vd iZ) (by kernel_rfl) (by kernel_rfl) (by kernel_rfl) (by intro _ _ _ h;exact h) rfl hS (fun w hS=>U) (RA.fS (i:=11) rfl rfl rfl (by decide) (congrArg Vd iZ) (by kernel_rfl) (by kernel_rfl) (by kernel_rfl) (by intro _ _ _ h;exact h) rfl hS (fun w hS=>(eW U1 lG (hv.ext hS) rfl rfl (by omega) (by omega))) ?_))))))))
 refine RA.fS (i:=12) rfl rfl rfl (by decide) (congrArg Vd iZ) (by kernel_rfl) (by kernel_rfl) (by kernel_rfl) (by intro _ _ _ h;exact h) rfl hS (fun w hS=>(eD U1 Vu VO ((hv.ext hS).fM (by omega)) rfl)) ?_
 refine RA.rR (i:=6) (by kernel_rfl) rfl rfl rfl (by decide) (congrArg Vd iZ) rfl (aM aaI rfl rfl rfl ((uC _ _ _ ((hv.ext hS).nc (by omega))).mono ?_))
 rintro _ w1 ⟨rfl,gM⟩
 have RU:Ext w w1:=hS.trans gM
 refine⟨RU,?_⟩
 clear hS
 have hS:=RU
 refine RA.rR (i:=7) (by kernel_rfl) rfl rfl rfl (by decide) (congrArg Vd iZ) rfl (aM aaJ rfl rfl rfl ((rj _ _).mono ?_))
 rintro vt w2 ⟨MJ,jh⟩
 have Ns:Ext w w2:=hS.trans jh
 refine⟨Ns,?_⟩
 clear hS
 have hS:=Ns
 refine RA.rR (i:=8) (by kernel_rfl) rfl rfl rfl (by decide) (congrArg Vd iZ) rfl (dQ.ev (eD U1 Vu VO MJ.sl rfl) ⟨hS,?_⟩)
 refine RA.fS (i:=13) rfl rfl rfl (by decide) (congrArg Vd iZ) (by kernel_rfl) (by kernel_rfl) (by kernel_rfl) (by intro _ _ _ h;exact h) rfl hS (fun w hS=>(kz rfl rfl)) (RA.take (i:=14) rfl rfl (by kernel_rfl) (by kernel_rfl) (by kernel_rfl) (by intro _ _ _ h;exact h) rfl hS (fun w hS=>(aH (by exact congrArg Vd iZ))) (RA.done (by kernel_rfl) (ag ?_)))
 refine RW.aN _ rfl (fun di=>?_) (fun di=>?_)
 simp only[J0]at di
 refine RW.seq (RW.region ?_)
 iterate 2 refine RL.ev rfl rfl aa ?_
 refine RL.nil (ag (RW.ret (aD (aL (RV.fR rfl) ?_))))
 first
   |exact .inl ⟨by unfold fA;exact decide_eq_true ⟨by omega,Vi.1 di⟩,v5,rfl,Kg,RN⟩
   |exact .inr ⟨by unfold fA;exact decide_eq_false (fun h=>di h.2),rfl,hS⟩
 simp only[J0]at di
 refine RW.skip (ag (RW.seq (RW.region ?_)))
 iterate 2 refine RL.ev rfl rfl U ?_
 refine RL.ev rfl rfl (gX U1 lG (hv.ext hS) rfl rfl (by omega) (by omega)) ?_
 refine RL.op rfl rfl (eg (l:=[]) U1 j4 rfl hZ (dy.nil vb 5 _ w.heap.size) rfl ((hv.ext hS).nc (by omega)) rfl (by simp;omega) (by decide) hS.size ?_)
 intro v5 w5 Kg yA PH
 rw[Wm,J0]at Kg
 have RN:Ext w w5:=hS.trans (yA.mono (by intro i _ h;cases h))
 iterate 2 refine RL.ev rfl rfl aa ?_
 refine RL.nil (ag (RW.ret (aL (RV.fR rfl) ?_)))
 first
   |exact .inl ⟨by unfold fA;exact decide_eq_true ⟨by omega,Vi.1 di⟩,v5,rfl,Kg,RN⟩
   |exact .inr ⟨by unfold fA;exact decide_eq_false (fun h=>di h.2),rfl,hS⟩
end Go.Proofs.YtngkdkbpgoddlaaGreat
namespace Go.Proofs.YtngkdkbpgoddlaaGreat
open Go.RowKit Go.Rl
open Go.hO
theorem tC (x:BitVec 32) (w:World):al UY 219 #[u32 x] w fun v w'=>v=u32 (hO.step x)∧w=w':=by
 refine al.start abO rfl (US rfl) ?_
 rw[bL]
 refine RW.seq (RW.region (RL.ev rfl rfl aa (RL.nil (ag ?_))))
 iterate 2 refine RW.seq ?_
 refine RW.region (RL.ev rfl rfl U (RL.ev rfl rfl (AH rfl rfl (by decide) (Lb x)) (RL.ev rfl rfl (cI rfl rfl) (RL.nil (ag ?_)))))
 refine RW.aN _ rfl (fun EH=>?_) (fun EH=>?_)
 refine RW.seq (RW.region (RL.ev rfl rfl U (RL.ev rfl rfl (ph rfl rfl (by decide) (Gc x)) (RL.ev rfl rfl (an rfl rfl rfl (vg _ B9)) (RL.ev rfl rfl aa (RL.nil (ag (RW.ret (aD ?_)))))))))
 refine aL (RV.tmp rfl) ?_
 refine⟨?_,rfl⟩
 rw[step_eq]
 first
   |rw[if_pos ((qN x).1 EH)];rfl
   |rw[if_neg (fun e=>EH ((qN x).2 e)),Ym];rfl
 refine RW.skip (ag (RW.seq (RW.region (RL.ev rfl rfl U (RL.ev rfl rfl (ph rfl rfl (by decide) (Gc x)) (RL.ev rfl rfl aa (RL.nil (ag (RW.ret ?_)))))))))
 refine aL (RV.tmp rfl) ?_
 refine⟨?_,rfl⟩
 rw[step_eq]
 first
   |rw[if_pos ((qN x).1 EH)];rfl
   |rw[if_neg (fun e=>EH ((qN x).2 e)),Ym];rfl
theorem tE (n:BitVec 32) (v:Value) (l:List UInt8) (w:World) (hv:Sl vb w v l):al UY 215 #[u32 n,v] w fun r w'=>r=u32 (hO.more n l)∧w=w':=by
 refine al.start abP rfl (US rfl) ?_
 rw[cc]
 have hlen:=hv.aY
 refine RW.seq (RW.region (RL.ev rfl rfl aa (RL.nil (ag (RW.seq (RW.region (RL.ev rfl rfl U (RL.ev rfl rfl (an rfl rfl rfl (LK _)) (RL.ev rfl rfl aa ?_)))))))))
 refine RL.nil (ag ?_)
 iterate 2 refine RW.seq ?_
 refine RW.region (RL.ev rfl rfl aa (RL.nil (ag (RW.block ?_))))
 refine RW.loop (fun k R w'=>∃i:Nat,R 5=.int .i64 (i:Int)∧R 0=u32 (ko (~~~n) (l.take i))∧R 1=v∧(i+k=l.length)∧(w'=w)) l.length ?_ ?_
 exact⟨0,rfl,rfl,rfl,by omega,rfl⟩
 rintro k R w' ⟨i,bM,bN,bw,eR,hw⟩
 have bY:∃R0,R=(aZ (aZ (aZ R0 5 _) 0 _) 1 _):=⟨R,by rw[ai bM,ai bN,ai bw]⟩
 obtain⟨R0,rfl⟩:=bY
 clear bM bN bw
 subst hw
 iterate 2 refine RW.seq ?_
 refine RW.region ?_
 iterate 2 refine RL.ev rfl rfl U ?_
 refine RL.ev rfl rfl (aQ U1 hv rfl) (RL.ev rfl rfl (aV rfl rfl) (RL.nil (ag ?_)))
 refine RW.aN _ rfl (fun bW=>?_) (fun bW=>?_)
 refine RW.skip (ag (RW.seq (RW.block (RW.seq (RW.region ?_)))))
 iterate 3 refine RL.ev rfl rfl U ?_
 refine RL.ev rfl rfl (aB U1 lG hv rfl rfl (by omega) (by omega)) (RL.ev rfl rfl (iH Vu rfl hv rfl (by omega)) (RL.ev rfl rfl (cw Vu Ww rfl (BL _)) (RL.ev rfl rfl (an rfl rfl rfl (vg _ _)) (RL.ev rfl rfl aa (RL.nil (ag (RW.seq (RW.region (RL.ev rfl rfl aa ?_)))))))))
 refine RL.nil (ag (RW.block ?_))
 refine RW.loop (fun k2 R2 xf=>∃j:Nat,R2 6=.int .i64 (j:Int)∧R2 5=.int .i64 (i:Int)∧R2 0=u32 (dO j (ko (~~~n) (l.take i)^^^wide (l[(i:Int).toNat]'(by omega))))∧R2 1=v∧(j+k2=8)∧(xf=w')) 8 ?_ ?_
 exact⟨0,rfl,rfl,rfl,rfl,rfl,rfl⟩
 rintro k2 R2 xf ⟨j,dd,bM,bN,bw,wy,hw⟩
 have bY:∃NO,R2=(aZ (aZ (aZ (aZ NO 6 _) 5 _) 0 _) 1 _):=⟨R2,by rw[ai dd,ai bM,ai bN,ai bw]⟩
 obtain⟨NO,rfl⟩:=bY
 clear dd bM bN bw
 subst hw
 iterate 2 refine RW.seq ?_
 refine RW.region (RL.ev rfl rfl U (RL.ev rfl rfl (aV rfl rfl) (RL.nil (ag ?_))))
 refine RW.aN _ rfl (fun eI=>?_) (fun eI=>?_)
 refine RW.skip (ag (RW.seq (RW.block (RW.region (RL.ev rfl rfl U ?_)))))
 refine RL.op rfl rfl (aM abO rfl rfl rfl ((tC _ _).mono ?_))
 rintro _ _ ⟨rfl,rfl⟩
 refine RL.ev rfl rfl aa (RL.nil (a7 (ag (RW.region (RL.ev rfl rfl U (RL.ev rfl rfl (an rfl rfl rfl (bc (by omega) (by omega))) (RL.ev rfl rfl aa (RL.nil (ag ?_)))))))))
 exact⟨k2-1,by omega,j+1,rfl,rfl,by rw[rp];rfl,rfl,by omega,rfl⟩
 refine RW.exit ?_
 iterate 2 refine bm ?_
 refine aO (a7 (ag (RW.region (RL.ev rfl rfl U (RL.ev rfl rfl (an rfl rfl rfl (bc (by omega) (by omega))) (RL.ev rfl rfl aa (RL.nil (ag ?_))))))))
 have hj:j=8:=by omega
 subst hj
 refine⟨k-1,by omega,i+1,rfl,?_,rfl,by omega,rfl⟩
 rw[←rY (~~~n) l i (by omega)];rfl
 refine RW.exit ?_
 iterate 2 refine bm ?_
 refine aO (ag (RW.seq (RW.region (RL.ev rfl rfl U (RL.ev rfl rfl (an rfl rfl rfl (LK _)) (RL.ev rfl rfl aa (RL.nil (ag (RW.ret ?_)))))))))
 refine aL (RV.tmp rfl) ?_
 refine⟨?_,rfl⟩
 show u32 (~~~(ko (~~~n) (l.take i)))=_
 rw[Vo (by omega)];rfl
theorem vK (v:Value) (l:List UInt8) (w:World) (hv:Sl vb w v l):al UY 204 #[v] w fun r w'=>r=u32 (hO.sum l)∧w=w':=by
 refine al.start abQ rfl (US rfl) ?_
 rw[bL]
 refine RW.seq (RW.region (RL.ev rfl rfl aa (RL.nil (ag (RW.seq (RW.region (RL.ev rfl rfl U ?_)))))))
 refine RL.op rfl rfl (aR abP rfl rfl rfl rfl ((tE 0#32 v l _ hv).mono ?_))
 rintro _ _ ⟨rfl,rfl⟩
 refine RL.ev rfl rfl aa (RL.nil (ag (RW.ret (aL (RV.tmp rfl) ?_))))
 exact⟨rfl,rfl⟩
end Go.Proofs.YtngkdkbpgoddlaaGreat
namespace Go.Proofs.YtngkdkbpgoddlaaGreat
open Go.RowKit Go.Rl
open Go.hO
theorem mV (v:Value) (l:List UInt8) (w:World) (hv:Sl vb w v l) (hl:l.length≤140737488355324):al UY 174 #[v] w fun r w'=>dy vb 5 w' w.heap.size r (l++ix (hO.sum l))∧Ext w w':=by
 refine al.start aaj rfl (US rfl) ?_
 rw[bL]
 refine RW.seq (RW.region (RL.ev rfl rfl aa (RL.nil (ag (RW.seq (RW.region (RL.ev rfl rfl U ?_)))))))
 refine RL.op rfl rfl (aM abQ rfl rfl rfl ((vK v l _ hv).mono ?_))
 rintro _ _ ⟨rfl,rfl⟩
 refine RL.ev rfl rfl aa (RL.nil (ag (RW.seq (RW.region (RL.ev rfl rfl aa (RL.nil (ag (RW.seq (RW.region ?_)))))))))
 iterate 2 refine RL.ev rfl rfl U ?_
 refine RL.op rfl rfl (eg (l:=[]) U1 j4 rfl hZ (dy.nil vb 5 w w.heap.size) rfl hv rfl (by simp;omega) (by decide) (Vv _) ?_)
 intro v1 w1 ka fZ Ar
 rw[Wm]at ka
 have gM:Ext w w1:=fZ.mono (by intro i _ h;cases h)
 refine RL.ev rfl rfl aa (RL.nil (ag ?_))
 iterate 2 refine RW.seq ?_
 refine RW.region (RL.ev rfl rfl aa (RL.nil (ag (RW.block ?_))))
 refine RW.loop (fun k R w'=>∃i:Nat,∃vo:Value,R 5=.int .i64 (i:Int)∧R 3=u32 (hO.sum l>>>(8*i))∧R 4=vo∧(i+k=4)∧(dy vb 5 w' w.heap.size vo (l++(ix (hO.sum l)).take i))∧(Ext w w')) 4 ?_ ?_
 exact⟨0,v1,rfl,by rw[Nat.mul_zero,BitVec.ushiftRight_zero];rfl,rfl,rfl,by simpa using ka,gM⟩
 rintro k R w' ⟨i,vo,bM,ca,cg,eR,ho,dZ⟩
 have bY:∃R0,R=(aZ (aZ (aZ R0 5 _) 3 _) 4 _):=⟨R,by rw[ai bM,ai ca,ai cg]⟩
 obtain⟨R0,rfl⟩:=bY
 clear bM ca cg
 iterate 2 refine RW.seq ?_
 refine RW.region (RL.ev rfl rfl U (RL.ev rfl rfl (aV rfl rfl) (RL.nil (ag ?_))))
 refine RW.aN _ rfl (fun bW=>?_) (fun bW=>?_)
 refine RW.skip (ag (RW.seq (RW.block (RW.seq (RW.region ?_)))))
 iterate 2 refine RL.ev rfl rfl U ?_
 refine RL.ev rfl rfl (AH rfl rfl (by decide) (Gb _)) (RL.ev rfl rfl (cw Ww Vu rfl (NG _)) ?_)
 refine RL.op rfl rfl (nu (enc:=vb) (l:=[kZ (hO.sum l) (8*i)]) (xs:=[.tmp 18]) U1 lG Ie rfl rfl re rfl (by decide) (by decide) ?_)
 intro w2 xj jR jh ff
 refine RL.op rfl rfl (eg U1 j4 rfl hZ (ho.ext jh) rfl xj.sl rfl (by simp;omega) (by decide) (by have:=dZ.size;have:=jh.size;omega) ?_)
 intro v3 w3 HF Bi PI
 have ml:Ext w w3:=(dZ.trans jh).then Bi (fun x hx e=>by have:=(ho.lt _ e).1;omega)
 refine RL.ev rfl rfl aa (RL.nil (ag (RW.region (RL.ev rfl rfl U (RL.ev rfl rfl (ph rfl rfl (by decide) (Gd _)) (RL.ev rfl rfl aa (RL.nil (a7 (ag ?_)))))))))
 refine RW.region (RL.ev rfl rfl U (RL.ev rfl rfl (an rfl rfl rfl (bc (by omega) (by omega))) (RL.ev rfl rfl aa (RL.nil (ag ?_)))))
 refine⟨k-1,by omega,i+1,v3,rfl,?_,rfl,by omega,?_,ml⟩
 · rw[show 8*(i+1)=8*i+8 from by omega,ZI];rfl
 · rw[VF]at HF;rw[←BR (hO.sum l) i (by omega)];exact HF
 refine RW.exit ?_
 iterate 2 refine bm ?_
 refine aO (ag (RW.seq (RW.region (RL.ev rfl rfl U (RL.ev rfl rfl aa (RL.nil (ag (RW.ret (aL (RV.tmp rfl) ?_)))))))))
 refine⟨?_,dZ⟩
 have hi:i=4:=by omega
 subst hi
 exact ho
theorem tD (v:Value) (l:List UInt8) (w:World) (hv:Sl vb w v l) (hl:l.length≤140737488355328):al UY 116 #[v] w fun r w'=>(fA l=true∧r=.tuple #[jy v 0 (l.length-4),.int .i64 0]∧Ext w w')∨(fA l=false∧r=.tuple #[.slice none 0 0,.int .i64 5]∧Ext w w'):=by
 refine al.start abR rfl (US rfl) ?_
 rw[bL]
 refine RW.seq (RW.region ?_)
 have hlen:=hv.aY
 iterate 2 refine RL.ev rfl rfl aa ?_
 refine RL.nil (ag ?_)
 iterate 2 refine RW.seq ?_
 by_cases EJ:(l.length:Int)<4
 refine RW.draw rfl (fun w'=>Ext w w') ?_
 have hS:Ext w w.drew:=Ext.drew w
 have iZ:decide ((l.length:Int)<4)=true:=decide_eq_true EJ
 refine RA.take (i:=0) rfl rfl (by kernel_rfl) (by kernel_rfl) (by kernel_rfl) (by intro _ _ _ h;exact h) rfl hS (fun w hS=>U) (RA.take (i:=1) rfl rfl (by kernel_rfl) (by kernel_rfl) (by kernel_rfl) (by intro _ _ _ h;exact h) rfl hS (fun w hS=>(aQ U1 (hv.ext hS) rfl)) (RA.take (i:=2) rfl rfl (by kernel_rfl) (by kernel_rfl) (by kernel_rfl) (by intro _ _ _ h;exact h) rfl hS (fun w hS=>(aV rfl rfl)) (RA.take (i:=3) rfl rfl (by kernel_rfl) (by kernel_rfl) (by kernel_rfl) (by intro _ _ _ h;exact h) rfl hS (fun w hS=>U) (RA.dE (i:=4) rfl rfl rfl (by decide) (congrArg Vd iZ) (by kernel_rfl) (by kernel_rfl) (by kernel_rfl) (by intro _ _ _ h;exact h) rfl hS (RA.dE (i:=5) rfl rfl rfl (by decide) (congrArg Vd iZ) (by kernel_rfl) (by kernel_rfl) (by kernel_rfl) (by intro _ _ _ h;exact h) rfl hS (RA.dE (i:=6) rfl rfl rfl (by decide) (congrArg Vd iZ) (by kernel_rfl) (by kernel_rfl) (by kernel_rfl) (by intro _ _ _ h;exact h) rfl hS (RA.dE (i:=7) rfl rfl rfl (by decide) (congrArg Vd iZ) (by kernel_rfl) (by kernel_rfl) (by kernel_rfl) (by intro _ _ _ h;exact h) rfl hS (RA.dE (i:=8) rfl rfl rfl (by decide) (congrArg Vd iZ) (by kernel_rfl) (by kernel_rfl) (by kernel_rfl) (by intro _ _ _ h;exact h) rfl hS (RA.dE (i:=9) rfl rfl rfl (by decide) (congrArg Vd iZ) (by kernel_rfl) (by kernel_rfl) (by kernel_rfl) (by intro _ _ _ h;exact h) rfl hS ?_)))))))))
 refine RA.dE (i:=10) rfl rfl rfl (by decide) (congrArg Vd iZ) (by kernel_rfl) (by kernel_rfl) (by kernel_rfl) (by intro _ _ _ h;exact h) rfl hS (RA.dE (i:=11) rfl rfl rfl (by decide) (congrArg Vd iZ) (by kernel_rfl) (by kernel_rfl) (by kernel_rfl) (by intro _ _ _ h;exact h) rfl hS (RA.dE (i:=12) rfl rfl rfl (by decide) (congrArg Vd iZ) (by kernel_rfl) (by kernel_rfl) (by kernel_rfl) (by intro _ _ _ h;exact h) rfl hS (RA.dE (i:=13) rfl rfl rfl (by decide) (congrArg Vd iZ) (by kernel_rfl) (by kernel_rfl) (by kernel_rfl) (by intro _ _ _ h;exact h) rfl hS (RA.take (i:=14) rfl rfl (by kernel_rfl) (by kernel_rfl) (by kernel_rfl) (by intro _ _ _ h;exact h) rfl hS (fun w hS=>(ao (congrArg Vd iZ))) (RA.done (by kernel_rfl) (ag (RW.bK rfl (RW.seq (RW.region ?_)))))))))
 iterate 2 refine RL.ev rfl rfl aa ?_
 refine RL.nil (ag (RW.ret (aD (aL (RV.fR rfl) ?_))))
 refine .inr ⟨?_,rfl,Ext.drew w⟩
 unfold fA;exact decide_eq_false (by omega)
 refine RW.draw rfl (fun w'=>Ext w w') ?_
 have hS:Ext w w.drew:=Ext.drew w
 have iZ:decide ((l.length:Int)<4)=false:=decide_eq_false EJ
 have J0:((l.length:Int)-4).toNat=l.length-4:=by omega
 refine RA.take (i:=0) rfl rfl (by kernel_rfl) (by kernel_rfl) (by kernel_rfl) (by intro _ _ _ h;exact h) rfl hS (fun w hS=>U) (RA.take (i:=1) rfl rfl (by kernel_rfl) (by kernel_rfl) (by kernel_rfl) (by intro _ _ _ h;exact h) rfl hS (fun w hS=>(aQ U1 (hv.ext hS) rfl)) (RA.take (i:=2) rfl rfl (by kernel_rfl) (by kernel_rfl) (by kernel_rfl) (by intro _ _ _ h;exact h) rfl hS (fun w hS=>(aV rfl rfl)) (RA.take (i:=3) rfl rfl (by kernel_rfl) (by kernel_rfl) (by kernel_rfl) (by intro _ _ _ h;exact h) rfl hS (fun w hS=>U) (RA.fS (i:=4) rfl rfl rfl (by decide) (congrArg Vd iZ) (by kernel_rfl) (by kernel_rfl) (by kernel_rfl) (by intro _ _ _ h;exact h) rfl hS (fun w hS=>U) (RA.fS (i:=5) rfl rfl rfl (by decide) (congrArg Vd iZ) (by kernel_rfl) (by kernel_rfl) (by kernel_rfl) (by intro _ _ _ h;exact h) rfl hS (fun w hS=>U) (RA.fS (i:=6) rfl rfl rfl (by decide) (congrArg Vd iZ) (by kernel_rfl) (by kernel_rfl) (by kernel_rfl) (by intro _ _ _ h;exact h) rfl hS (fun w hS=>(aQ U1 (hv.ext hS) rfl)) (RA.fS (i:=7) rfl rfl rfl (by decide) (congrArg Vd iZ) (by kernel_rfl) (by kernel_rfl) (by kernel_rfl) (by intro _ _ _ h;exact h) rfl hS (fun w hS=>(an rfl rfl rfl (kc (by omega) (by omega)))) (RA.fS (i:=8) rfl rfl rfl (by decide) (congrArg Vd iZ) (by kernel_rfl) (by kernel_rfl) (by kernel_rfl) (by intro _ _ _ h;exact h) rfl hS (fun w hS=>(gX U1 lG (hv.ext hS) rfl rfl (by omega) (by omega))) ?_))))))))
 refine RA.fS (i:=11) rfl rfl rfl (by decide) (congrArg Vd iZ) (by kernel_rfl) (by kernel_rfl) (by kernel_rfl) (by intro _ _ _ h;exact h) rfl hS (fun w hS=>U) (RA.fS (i:=12) rfl rfl rfl (by decide) (congrArg Vd iZ) (by kernel_rfl) (by kernel_rfl) (by kernel_rfl) (by intro _ _ _ h;exact h) rfl hS (fun w hS=>(eD U1 Vu VO (hv.ext hS) rfl)) ?_)
 refine RA.rR (i:=9) (by kernel_rfl) rfl rfl rfl (by decide) (congrArg Vd iZ) rfl (aM aaj rfl rfl rfl ((mV _ _ _ ((hv.ext hS).nc (by omega)) (by simp;omega)).mono ?_))
 rintro vt w2 ⟨MJ,jh⟩
 have Ns:Ext w w2:=hS.trans jh
 refine⟨Ns,?_⟩
 clear hS
 have hS:=Ns
 refine RA.rR (i:=10) (by kernel_rfl) rfl rfl rfl (by decide) (congrArg Vd iZ) rfl (dQ.ev (eD U1 Vu VO MJ.sl rfl) ⟨hS,?_⟩)
 refine RA.fS (i:=13) rfl rfl rfl (by decide) (congrArg Vd iZ) (by kernel_rfl) (by kernel_rfl) (by kernel_rfl) (by intro _ _ _ h;exact h) rfl hS (fun w hS=>(kz rfl rfl)) (RA.take (i:=14) rfl rfl (by kernel_rfl) (by kernel_rfl) (by kernel_rfl) (by intro _ _ _ h;exact h) rfl hS (fun w hS=>(aH (congrArg Vd iZ))) (RA.done (by kernel_rfl) (ag ?_)))
 refine RW.aN _ rfl (fun di=>?_) (fun di=>?_)
 simp only[J0]at di
 refine RW.seq (RW.region ?_)
 iterate 2 refine RL.ev rfl rfl aa ?_
 refine RL.nil (ag (RW.ret (aD (aL (RV.fR rfl) ?_))))
 exact .inr ⟨by unfold fA;exact decide_eq_false (fun h=>di ((A4 l (by omega)).2 h.2)),rfl,hS⟩
 simp only[J0]at di
 refine RW.skip (ag (RW.seq (RW.region ?_)))
 iterate 2 refine RL.ev rfl rfl U ?_
 refine RL.ev rfl rfl (aQ U1 (hv.ext hS) rfl) (RL.ev rfl rfl (an rfl rfl rfl (kc (by omega) (by omega))) (RL.ev rfl rfl (gX U1 lG (hv.ext hS) rfl rfl (by omega) (by omega)) ?_))
 iterate 2 refine RL.ev rfl rfl aa ?_
 refine RL.nil (ag (RW.ret (aL (RV.fR rfl) ?_)))
 refine .inl ⟨by unfold fA;exact decide_eq_true ⟨by omega,(A4 l (by omega)).1 (Vi.1 di)⟩,?_,hS⟩
 show Zr #[jy v 0 ((l.length:Int)-4).toNat,.int .i64 0]=_
 rw[J0]
end Go.Proofs.YtngkdkbpgoddlaaGreat
namespace Go.cP
open Go.Rl
section
variable {w0 w w':World} {F:Nat→Prop} {L:List Atom} {a a' b:Atom}
theorem G0 (h:ak w0 F w L) (i:Nat) (hi:L[i]?=some a) (hm:Rl.Mod a.dg w w') (hs:a'.says w') (hf:∀k,a'.dg k→a.dg k) (hb:b.says w') (Qj:∀k,b.dg k→w.heap.size≤k∧k<w'.heap.size):ak w0 F w' (b::L.set i a'):=by
  have hU:=h.aZ i hi hm hs (fun k hk=>⟨.inl (hf k hk),Wh (h.low i a hi k (hf k hk)).2 hm.size⟩)
  refine hU.add hb (fun k hk=>⟨Vf h.size (Qj k hk).1,(Qj k hk).2⟩) fun j c hc k hk hC=>?_
  have bW:k<w.heap.size:=by
    rw[Wu]at hc
    split at hc
    · split at hc
      · cases hc;exact(h.low i a hi k (hf k hk)).2
      · cases hc
    · exact(h.low j c hc k hk).2
  have:=(Qj k hC).1
  omega
def b8 (T:TypeId) (lo hi g:Nat) (s:St):Atom where
  dg k:=lo≤k∧k<hi
  says w:=Rd T w lo hi g s
  jo:=by
    intro w w' h hs
    obtain⟨hb,hc,v,h1,⟨A,c,hv,l1,l2,dv⟩,h3⟩:=hs
    refine⟨hb,hc,v,?_,⟨A,c,hv,l1,l2,fun j u hj=>?_⟩,h3⟩
    · unfold fV at *
      exact(h g ⟨hb,hc⟩ (VD.1 h1).1).trans h1
    · obtain ⟨ad, e, hq⟩ := dv j u hj
      refine⟨ad,e,?_⟩
      have HQ:=block_lt_of_cell hq
      have hk:v.ownBlock=some ad.block:=by rw[hv,e];rfl
      rw[block_add]at HQ
      exact(WJ (by rw[block_add];exact h _ ⟨(h3 _ hk).1,(h3 _ hk).2.1⟩ HQ)).trans hq
theorem b8.says {T:TypeId} {lo hi g:Nat} {s:St} (h:ak w0 F w L) (i:Nat) (fk:L[i]?=some (b8 T lo hi g s)):Rd T w lo hi g s:=h.says i _ fk
theorem AZ {T:TypeId} {lo hi g:Nat} {s s':St} (h:ak w0 F w L) (i:Nat) (fk:L[i]?=some (b8 T lo hi g s)) (hr:Rd T w' lo hi g s') (hm:Rl.Mod (fun k=>k=g) w w'):ak w0 F w' (L.set i (b8 T lo hi g s')):=by
  have h0:=b8.says h i fk
  refine h.aZ i fk (hm.mono fun k _ e=>?_) hr fun k hk=>⟨.inl hk,Wh (h.low i _ fk k hk).2 hm.size⟩
  cases e;exact⟨h0.1,h0.2.1⟩
theorem JD {α:Type} {enc:α→Value} {E T:TypeId} {lo hi g:Nat} {s s':St} {v:Value} {l:List α} (h:ak w0 F w L) (i:Nat) (fk:L[i]?=some (b8 T lo hi g s)) (ho:dy enc E w' w.heap.size v l) (hr:Rd T w' lo hi g s') (hm:Rl.Mod (fun k=>k=g) w w'):
    ak w0 F w' (.own enc E v l::L.set i (b8 T lo hi g s')):=by
  have h0:=b8.says h i fk
  refine G0 h i fk (hm.mono fun k _ e=>?_) hr (fun _ hk=>hk) (ho.lower (VP _)) (fun k hk=>ho.lt k hk)
  cases e;exact⟨h0.1,h0.2.1⟩
theorem Ii {T:TypeId} {lo hi g:Nat} {s:St} (h:ak w0 F w L) (i:Nat) (fk:L[i]?=some (b8 T lo hi g s)):hi≤w.heap.size:=by
  have h0:=b8.says h i fk
  have bW:lo<hi:=VJ h0.1 h0.2.1
  have:=(h.low i _ fk (hi-1) ⟨by omega,by omega⟩).2
  omega
theorem vN {T:TypeId} {g:Nat} {s:St} (h:ak w0 F w L) (hr:Rd T w' w.heap.size w'.heap.size g s) (he:Ext w w'):ak w0 F w' (b8 T w.heap.size w'.heap.size g s::L):=
  h.push he hr fun k hk=>hk
end
end Go.cP
namespace Go.Proofs.YtngkdkbpgoddlaaGreat
open Go.RowKit Go.Rl
open Go.cP Go.hO
theorem nY (b:Nat) (v:Value) (s:St) (most:Int) (w:World) (hB:jD vb b w v s.1) (kS:b≤w.heap.size) (iM: -9223372036854775808≤most) (fZ:most≤9223372036854775807):al UY 115 #[TV v s.2,vi most] w fun r w'=>∃x,r=.tuple #[TV x (cp s most).1.2,str (cp s most).2]∧jD vb b w' x (cp s most).1.1∧Ext w w':=by
 refine al.start abS rfl (US rfl) ?_
 rw[cc]
 have hN:=ak.nil w none_
 have Q1:=BO s most
 refine RW.seq (RW.region ?_)
 refine RL.op rfl rfl (bq (cs:=[v,.int .i64 (s.2)]) rfl rfl hN ?_)
 clear hN
 intro g1 w1 (hN:ak w none_ w1 [_])
 refine RL.op rfl rfl (aX (cs:=[.slice none 0 0,.int .i64 (0)]) iq rfl hN ?_)
 clear hN
 intro g2 w2 (hN:ak w none_ w2 [_,_])
 refine RL.ev rfl rfl aa (RL.nil (ag (RW.seq (RW.region (RL.ev rfl rfl (aG (cs:=[v,.int .i64 (s.2)]) Vk rfl cJ rfl (hN.aA 1 rfl)) (RL.ev rfl rfl U ?_))))))
 refine RL.op rfl rfl (cF aai rfl rfl rfl rfl rfl ((mW _ _ s (most) 1 _ (hB.ext hN.aE) (Vf kS hN.size) (by decide) (by omega) (by omega)).mono ?_))
 rintro _ w3 ⟨x3,rfl,lH,aW⟩
 replace hN:=hN.ext aW
 replace lH:=lH.back hN.aE kS
 clear aW
 refine RL.ev rfl rfl U ?_
 iterate 2 refine RL.ev rfl rfl (bg rfl rfl) ?_
 refine RL.op rfl rfl (aX (cs:=[.slice none 0 0,.int .i64 (0)]) iq rfl hN ?_)
 clear hN
 intro g4 w4 (hN:ak w none_ w4 [_,_,_])
 refine RL.op rfl rfl (aC (vs:=[x3,.int .i64 ((cQ s (most) 1).1.2)]) cJ rfl rfl rfl (by intro u hu;simp only[U9,U2,or_false]at hu;rcases hu with rfl|rfl<;>first|rfl|exact(lH.1.ext hN.aE).bJ) hN 0 rfl rfl ?_)
 clear hN
 intro w5 (hN:ak w none_ w5 [_,_,_])
 refine RL.ev rfl rfl aa (RL.nil (ag ?_))
 iterate 2 refine RW.seq ?_
 refine RW.region (RL.ev rfl rfl U (RL.ev rfl rfl (aV rfl rfl) (RL.nil (ag ?_))))
 refine RW.aN _ rfl (fun bW=>?_) (fun bW=>?_)
 refine RW.seq (RW.region (RL.ev rfl rfl (aG (cs:=[x3,.int .i64 ((cQ s (most) 1).1.2)]) Vk rfl cJ rfl (hN.aA 0 rfl)) ?_))
 refine RL.op rfl rfl (aC (vs:=[x3,.int .i64 ((cQ s (most) 1).1.2)]) cJ rfl rfl rfl (by intro u hu;simp only[U9,U2,or_false]at hu;rcases hu with rfl|rfl<;>first|rfl|exact(lH.1.ext hN.aE).bJ) hN 1 rfl rfl ?_)
 clear hN
 intro w6 (hN:ak w none_ w6 [_,_,_])
 refine RL.ev rfl rfl aa (RL.nil (ag (RW.ret (aD (aL (RV.bV rfl rfl (bI (hN.aA 1 rfl) Vk rfl cJ)) ?_)))))
 have h2:cp s most=((cQ s most 1).1,[]):=by
   rcases Q1 with h|h
   · exact h.2
   · omega
 rw[h2]
 exact⟨_,rfl,lH.ext hN.aE,hN.aE⟩
 refine RW.skip (ag (RW.seq ?_))
 have GK:0≤(cQ s most 1).2∧(cQ s most 1).2≤(cQ s most 1).1.1.length∧cp s most=(((cQ s most 1).1.1.drop (cQ s most 1).2.toNat,0),(cQ s most 1).1.1.take (cQ s most 1).2.toNat):=Q1.resolve_left (fun h=>bW h.1)
 obtain⟨UH,N8,GJ⟩:=GK
 replace hN:=hN.ext (Ext.drew w5)
 refine RW.cb rfl (fun u=>ak w none_ u [.aA g4 [x3,.int .i64 ((cQ s (most) 1).1.2)] 169,.aA g1 [v,.int .i64 (s.2)] 169]) 12 [(0,0),(1,0),(2,0),(3,0),(4,0),(5,0),(6,0),(7,0),(8,0),(9,0),(10,1),(11,0)] (by intro _ _ _ h;exact h) (by kernel_rfl) (hN.sub [0,2] (by decide) rfl) (RQ.ev rfl rfl (fun w hS=>(ah Vk rfl fq (by decide) rfl)) (RQ.ev rfl rfl (fun w hS=>(aj U1 rfl rfl (hS.aA 0 rfl) rfl)) (RQ.ev rfl rfl (fun w hS=>U) (RQ.ev rfl rfl (fun w hS=>(eW U1 lG (lH.1.ext hS.aE) rfl rfl (by omega) (by omega))) (RQ.ev rfl rfl (fun w hS=>(bh (cs:=[(jy x3 ((cQ s (most) 1).2).toNat (cQ s (most) 1).1.1.length),.int .i64 (0)]) Vk iq (places:=#[(0,1),(1,1)]) (by intro w;kernel_rfl) (pl:=[(0,.tmp 20)]) rfl (ps:=[(0,(jy x3 ((cQ s (most) 1).2).toNat (cQ s (most) 1).1.1.length))]) rfl (zc:=[.slice none 0 0,.int .i64 (0)]) rfl (aP (vs:=[(jy x3 ((cQ s (most) 1).2).toNat (cQ s (most) 1).1.1.length)]) ((lH.1.ext hS.aE).fM (by omega)).cO rfl (US rfl) rfl))) (RQ.ev rfl rfl (fun w hS=>(ah Vk rfl fq (by decide) rfl)) (RQ.ev rfl rfl (fun w hS=>(aj U1 rfl rfl (hS.aA 0 rfl) rfl)) (RQ.ev rfl rfl (fun w hS=>U) (RQ.ev rfl rfl (fun w hS=>(gX U1 lG (lH.1.ext hS.aE) rfl rfl (by omega) (by omega))) ?_)))))))))
 refine RQ.ev rfl rfl (fun w hS=>(eD U1 Vu VO ((lH.1.ext hS.aE).nc (by omega)) rfl)) ?_
 refine RQ.do rfl rfl (aC (vs:=[(jy x3 ((cQ s (most) 1).2).toNat (cQ s (most) 1).1.1.length),.int .i64 (0)]) cJ rfl rfl rfl (by intro u hu;simp only[U9,U2,or_false]at hu;rcases hu with rfl|rfl<;>first|rfl|exact((lH.1.ext hN.aE).fM (by omega)).bJ) hN 1 rfl rfl ?_)
 clear hN
 intro w7 (hN:ak w none_ w7 [_,_,_])
 refine⟨(hN.sub [0,2] (by decide) rfl),?_⟩
 refine RQ.ev rfl rfl (fun w hS=>aa) (RQ.done (by kernel_rfl) (ag (RW.ret (aL (RV.bV rfl rfl (bI (hN.aA 1 rfl) Vk rfl cJ)) ?_))))
 rw[GJ]
 exact⟨_,rfl,(lH.fM (by omega)).ext hN.aE,hN.aE⟩
theorem nv (v:Value) (hs:List Hd) (ls:List (List UInt8)) (w:World) (hv:Sl vh w v hs) (ef:ep none_ vb w hs ls) (ew:eA ls≤140737488351232):al UY 18 #[v] w fun r w'=>dy vb 5 w' w.heap.size r (cX ls)∧Ext w w':=by
 refine al.start Zs rfl (US rfl) ?_
 rw[bL]
 have hN:=ak.nil w none_
 have RG:=ef.1
 have De:=uS ls
 refine RW.seq (RW.region (RL.ev rfl rfl aa (RL.nil (ag (RW.seq (RW.region (RL.ev rfl rfl aa (RL.nil (ag ?_)))))))))
 iterate 2 refine RW.seq ?_
 refine RW.region (RL.ev rfl rfl U ?_)
 have iF:=(hv.ext hN.aE).aY
 refine RL.ev rfl rfl (aQ VB (hv.ext hN.aE) rfl) (RL.ev rfl rfl U (RL.nil (ag (RW.block ?_))))
 replace hN:=hN.cj vb 5
 refine RW.loop (fun k R0 bT=>∃vo:Value,∃acc:List UInt8,∃i:Nat,R0 3=vo∧R0 6=v∧R0 7=.int .i64 ((hs.length:Int))∧R0 8=.int .i64 ((i:Int))∧ak w none_ bT [.own vb 5 (vo) (acc)]∧(i+k=hs.length)∧(acc=cX (ls.take i))) (hs.length) ?_ ?_
 exact⟨.slice none 0 0,[],0,rfl,rfl,rfl,rfl,hN,by omega,rfl⟩
 clear hN
 rintro k R0 bT ⟨vo,acc,i,ca,dd,cd,cl,hN,eR,hJ⟩
 have bY:∃b6,R0=(aZ (aZ (aZ (aZ b6 3 _) 6 _) 7 _) 8 _):=⟨R0,by rw[ai ca,ai dd,ai cd,ai cl]⟩
 obtain⟨b6,rfl⟩:=bY
 clear ca dd cd cl
 refine RW.seq (RW.region (RL.ev rfl rfl (aV rfl rfl) (RL.nil (ag (RW.seq ?_)))))
 refine RW.aN _ rfl (fun bW=>?_) (fun bW=>?_)
 refine RW.skip (ag (RW.seq (RW.block (RW.seq (RW.region (RL.ev rfl rfl (aB VB fq (hv.ext hN.aE) rfl rfl (by omega) (by omega)) ?_))))))
 have aw:∃a_,(hs)[i]?=some a_:=⟨_,UT (by omega)⟩
 obtain⟨ap,bG⟩:=aw
 have aw:∃l_,(ls)[i]?=some l_:=⟨_,UT (by have:=ef.1;omega)⟩
 obtain⟨lp,dp⟩:=aw
 refine RL.ev rfl rfl (aF (m:=i) (a:=ap) U1 rfl (hv.ext hN.aE) rfl bG) ?_
 have M6:=sc dp
 have Tv:=rZ dp
 have Tw:=ya ls (i+1)
 have Kp:=gS (ls.take i)
 have fG:acc.length=eA (ls.take i):=by rw[hJ,Kp]
 refine RL.ev rfl rfl aa (RL.nil (ag (RW.region ?_)))
 iterate 2 refine RL.ev rfl rfl U ?_
 refine RL.op rfl rfl (aM Tryz.func49 rfl rfl rfl ((zv _ lp _ ((ef.2 _ _ _ bG dp).1.ext hN.aE) (by(try simp only[UX,Vs,Vt,aS,cv,bR,cC,Vc,U6]);omega)).mono ?_))
 rintro v3 w3 ⟨cx,aW⟩
 replace hN:ak w none_ w3 [_,_]:=hN.bx (l:=iO lp) cx aW
 clear cx aW
 refine RL.ev rfl rfl (eD U1 Vu VO (hN.sl 0 rfl) rfl) ?_
 refine RL.op rfl rfl (aM Tryz.func48 rfl rfl rfl ((zC (iO lp) _ (by(try simp only[UX,Vs,Vt,aS,cv,bR,cC,Vc,U6]);omega)).mono ?_))
 rintro v4 w4 ⟨cx,aW⟩
 replace hN:ak w none_ w4 [_,_,_]:=hN.bx (l:=fL (iO lp)) cx aW
 clear cx aW
 refine RL.op rfl rfl (bD U1 j4 rfl hZ hN 2 rfl rfl (hN.sl 0 rfl) rfl (by rw[cv,cC];omega) (by decide) ?_)
 clear hN
 intro v5 w5 (hN:ak w none_ w5 [_,_,_])
 refine RL.ev rfl rfl aa (RL.nil (a7 (ag (RW.region (RL.ev rfl rfl (an rfl rfl rfl (bc (by omega) (by omega))) (RL.ev rfl rfl U (RL.nil (ag ?_))))))))
 exact⟨k-1,by omega,v5,acc++(fL (iO lp)),i+1,rfl,rfl,rfl,rfl,(hN.sub [2] (by decide) rfl),by omega,by rw[M6,hJ]⟩
 refine RW.exit ?_
 iterate 2 refine bm ?_
 refine aO (ag (RW.seq (RW.region (RL.ev rfl rfl U (RL.ev rfl rfl aa (RL.nil (ag (RW.ret (aL (RV.tmp rfl) ?_)))))))))
 exact⟨(hN.dA 0 rfl).lP (by rw[hJ,Vo (by omega)]),hN.aE⟩
theorem tF (v:Value) (hs:List Hd) (ls:List (List UInt8)) (w:World) (hv:Sl vh w v hs) (ef:ep none_ vb w hs ls) (ew:eA ls≤140737488351232):al UY 123 #[v] w fun r w'=>dy vb 5 w' w.heap.size r (cX ls)∧Ext w w':=by
 refine al.start abT rfl (US rfl) ?_
 rw[bL]
 have hN:=ak.nil w none_
 have RG:=ef.1
 have De:=uS ls
 refine RW.seq (RW.region (RL.ev rfl rfl aa (RL.nil (ag (RW.seq (RW.region (RL.ev rfl rfl aa (RL.nil (ag ?_)))))))))
 iterate 2 refine RW.seq ?_
 refine RW.region (RL.ev rfl rfl aa (RL.nil (ag (RW.block ?_))))
 replace hN:=hN.cj vb 5
 refine RW.loop (fun k R0 bT=>∃vo:Value,∃acc:List UInt8,∃i:Nat,R0 0=v∧R0 3=vo∧R0 4=.int .i64 ((i:Int))∧ak w none_ bT [.own vb 5 (vo) (acc)]∧(i+k=hs.length)∧(acc=cX (ls.take i))) (hs.length) ?_ ?_
 exact⟨.slice none 0 0,[],0,rfl,rfl,rfl,hN,by omega,rfl⟩
 clear hN
 rintro k R0 bT ⟨vo,acc,i,bN,ca,cg,hN,eR,hJ⟩
 have bY:∃b6,R0=(aZ (aZ (aZ b6 0 _) 3 _) 4 _):=⟨R0,by rw[ai bN,ai ca,ai cg]⟩
 obtain⟨b6,rfl⟩:=bY
 clear bN ca cg
 iterate 2 refine RW.seq ?_
 refine RW.region ?_
 iterate 2 refine RL.ev rfl rfl U ?_
 have jb:=(hv.ext hN.aE).aY
 refine RL.ev rfl rfl (aQ VB (hv.ext hN.aE) rfl) (RL.ev rfl rfl (aV rfl rfl) (RL.nil (ag ?_)))
 refine RW.aN _ rfl (fun bW=>?_) (fun bW=>?_)
 refine RW.skip (ag (RW.seq (RW.block (RW.region ?_))))
 iterate 3 refine RL.ev rfl rfl U ?_
 refine RL.ev rfl rfl (aB VB fq (hv.ext hN.aE) rfl rfl (by omega) (by omega)) ?_
 have aw:∃a_,(hs)[i]?=some a_:=⟨_,UT (by omega)⟩
 obtain⟨ap,bG⟩:=aw
 have aw:∃l_,(ls)[i]?=some l_:=⟨_,UT (by have:=ef.1;omega)⟩
 obtain⟨lp,dp⟩:=aw
 refine RL.ev rfl rfl (aF (m:=i) (a:=ap) U1 rfl (hv.ext hN.aE) rfl bG) ?_
 have M6:=sc dp
 have Tv:=rZ dp
 have Tw:=ya ls (i+1)
 have Kp:=gS (ls.take i)
 have fG:acc.length=eA (ls.take i):=by rw[hJ,Kp]
 refine RL.op rfl rfl (aM aaj rfl rfl rfl ((mV _ lp _ ((ef.2 _ _ _ bG dp).1.ext hN.aE) (by(try simp only[UX,Vs,Vt,aS,cv,bR,cC,Vc,U6]);omega)).mono ?_))
 rintro v3 w3 ⟨cx,aW⟩
 replace hN:ak w none_ w3 [_,_]:=hN.bx (l:=iO lp) cx aW
 clear cx aW
 refine RL.ev rfl rfl (eD U1 Vu VO (hN.sl 0 rfl) rfl) ?_
 refine RL.op rfl rfl (aM abI rfl rfl rfl ((tB (iO lp) _ (by(try simp only[UX,Vs,Vt,aS,cv,bR,cC,Vc,U6]);omega)).mono ?_))
 rintro v4 w4 ⟨cx,aW⟩
 replace hN:ak w none_ w4 [_,_,_]:=hN.bx (l:=fL (iO lp)) cx aW
 clear cx aW
 refine RL.op rfl rfl (bD U1 j4 rfl hZ hN 2 rfl rfl (hN.sl 0 rfl) rfl (by rw[cv,cC];omega) (by decide) ?_)
 clear hN
 intro v5 w5 (hN:ak w none_ w5 [_,_,_])
 refine RL.ev rfl rfl aa (RL.nil (a7 (ag (RW.region (RL.ev rfl rfl U (RL.ev rfl rfl (an rfl rfl rfl (bc (by omega) (by omega))) (RL.ev rfl rfl aa (RL.nil (ag ?_)))))))))
 exact⟨k-1,by omega,v5,acc++(fL (iO lp)),i+1,rfl,rfl,rfl,(hN.sub [2] (by decide) rfl),by omega,by rw[M6,hJ]⟩
 refine RW.exit ?_
 iterate 2 refine bm ?_
 refine aO (ag (RW.seq (RW.region (RL.ev rfl rfl U (RL.ev rfl rfl aa (RL.nil (ag (RW.ret (aL (RV.tmp rfl) ?_)))))))))
 exact⟨(hN.dA 0 rfl).lP (by rw[hJ,Vo (by omega)]),hN.aE⟩
end Go.Proofs.YtngkdkbpgoddlaaGreat
namespace Go.Proofs.YtngkdkbpgoddlaaGreat
open Go.RowKit Go.Rl
open Go.Gr Go.cP Go.hO
theorem ub (a:I3) (w:World):al UY 72 #[.agg #[.int .i64 a.1,.int .i64 a.2.1,.int .i64 a.2.2]] w fun r w'=>r=.int .i64 a.1∧Ext w w':=by
 refine al.start Tryz.func72 rfl (US rfl) ?_
 rw[bL]
 have hN:=ak.nil w none_
 refine RW.seq (RW.region ?_)
 refine RL.op rfl rfl (bq (cs:=[.int .i64 (a.1),.int .i64 (a.2.1),.int .i64 (a.2.2)]) rfl rfl hN ?_)
 clear hN
 intro g1 w1 (hN:ak w none_ w1 [_])
 refine RL.ev (v:=.int .i64 (0)) rfl rfl aa (RL.nil (ag (RW.seq (RW.region (RL.ev rfl rfl (ah Ve rfl bu (by decide) rfl) (RL.ev rfl rfl (aj UU rfl rfl (hN.aA 0 rfl) rfl) (RL.ev (v:=.int .i64 (a.1)) rfl rfl aa (RL.nil (ag ?_)))))))))
 refine RW.ret (aL (RV.tmp rfl) ?_)
 exact⟨rfl,hN.aE⟩
theorem uf (v:Value) (l:List I3) (w:World) (hv:Sm bf w v l) (hl:l.length≤67108864):al UY 71 #[v,.func (.func 72) #[] #[]] w fun r w'=>dy vb 5 w' w.heap.size r (aK (l.map fun a=>a.1))∧Ext w w':=by
 refine al.start X6 rfl (US rfl) ?_
 rw[cc]
 have hN:=ak.nil w none_
 refine RW.seq (RW.region (RL.ev (v:=.slice none 0 0) rfl rfl aa (RL.nil (ag (RW.seq (RW.region (RL.ev (v:=.slice none 0 0) rfl rfl aa (RL.nil (ag ?_)))))))))
 iterate 2 refine RW.seq ?_
 refine RW.region (RL.ev (v:=v) rfl rfl U ?_)
 have iF:=(hv.o.now hN).aY
 refine RL.ev rfl rfl (bQ Va (hv.o.now hN) rfl) (RL.ev (v:=.int .i64 (0)) rfl rfl U (RL.nil (ag (RW.block ?_))))
 replace hN:=hN.cj vi 3
 refine RW.loop (fun k R0 bT=>∃va:Value,∃acc:List Int,∃i:Nat,R0 1=.func (.func 72) #[] #[]∧R0 5=va∧R0 8=v∧R0 9=.int .i64 ((l.length:Int))∧R0 10=.int .i64 ((i:Int))∧ak w none_ bT [.own vi 3 (va) (acc)]∧(i+k=l.length)∧(acc=(l.take i).map fun a=>a.1)∧(acc.length=i)) (l.length) ?_ ?_
 exact⟨.slice none 0 0,[],0,rfl,rfl,rfl,rfl,rfl,hN,by omega,rfl,rfl⟩
 clear hN
 rintro k R0 bT ⟨va,acc,i,bw,bM,cl,dc,cB,hN,eR,ha,fG⟩
 have bY:∃b6,R0=(aZ (aZ (aZ (aZ (aZ b6 1 _) 5 _) 8 _) 9 _) 10 _):=⟨R0,by rw[ai bw,ai bM,ai cl,ai dc,ai cB]⟩
 obtain⟨b6,rfl⟩:=bY
 clear bw bM cl dc cB
 refine RW.seq (RW.region (RL.ev rfl rfl (aV rfl rfl) (RL.nil (ag (RW.seq ?_)))))
 refine RW.aN _ rfl (fun bW=>?_) (fun bW=>?_)
 refine RW.skip (ag (RW.seq (RW.block (RW.seq (RW.region (RL.ev rfl rfl (bn Va cq aU (by decide) (hv.o.now hN) rfl rfl (by omega) (by omega)) ?_))))))
 have aw:∃a_,(l)[i]?=some a_:=⟨_,UT (by omega)⟩
 obtain⟨ap,bG⟩:=aw
 refine RL.ev rfl rfl (bU (m:=i) (a:=ap) Ve rfl cq aU (by decide) (hv.o.now hN) rfl bG (cs:=[.int .i64 (ap.1),.int .i64 (ap.2.1),.int .i64 (ap.2.2)]) rfl) ?_
 refine RL.op rfl rfl (aX (cs:=[.int .i64 (0),.int .i64 (0),.int .i64 (0)]) eo rfl hN ?_)
 clear hN
 intro g3 w3 (hN:ak w none_ w3 [_,_])
 refine RL.op rfl rfl (aC (vs:=[.int .i64 (ap.1),.int .i64 (ap.2.1),.int .i64 (ap.2.2)]) cq rfl rfl rfl (by intro u hu;simp only[U9,U2,or_false]at hu;rcases hu with rfl|rfl|rfl<;>first|rfl) hN 0 rfl rfl ?_)
 clear hN
 intro w4 (hN:ak w none_ w4 [_,_])
 refine RL.nil (ag (RW.region (RL.ev (v:=va) rfl rfl U (RL.ev (v:=.func (.func 72) #[] #[]) rfl rfl U (RL.ev rfl rfl (aG (cs:=[.int .i64 (ap.1),.int .i64 (ap.2.1),.int .i64 (ap.2.2)]) Ve rfl cq rfl (hN.aA 0 rfl)) ?_)))))
 refine RL.op rfl rfl (bB (first:=#[]) (captured:=#[]) (v0:=.agg #[.int .i64 (ap.1),.int .i64 (ap.2.1),.int .i64 (ap.2.2)]) (args:=#[.agg #[.int .i64 (ap.1),.int .i64 (ap.2.1),.int .i64 (ap.2.2)]]) Tryz.func72 rfl rfl (by simp) rfl rfl ((ub ap _).mono ?_))
 rintro _ w5 ⟨rfl,aW⟩
 replace hN:=hN.ext aW
 clear aW
 refine RL.op rfl rfl (bS (enc:=vi) (l:=[ap.1]) (xs:=[.tmp 17]) UW bu mu rfl rfl (fun _=>rfl) rfl (by decide) (by decide) hN ?_)
 clear hN
 intro g6 w6 (hN:ak w none_ w6 [_,_,_])
 refine RL.op rfl rfl (bD UW fT rfl (fun _=>rfl) hN 2 rfl rfl (hN.sl 0 rfl) rfl (by rw[fG];simp only[U3,U6,Vc];omega) (by decide) ?_)
 clear hN
 intro v7 w7 (hN:ak w none_ w7 [_,_,_])
 refine RL.ev (v:=v7) rfl rfl aa (RL.nil (a7 (ag (RW.region (RL.ev rfl rfl (an rfl rfl rfl (bc (by omega) (by omega))) (RL.ev (v:=.int .i64 ((i:Int)+1)) rfl rfl U (RL.nil (ag ?_))))))))
 exact⟨k-1,by omega,v7,acc++[ap.1],i+1,rfl,rfl,rfl,rfl,rfl,(hN.sub [2] (by decide) rfl),by omega,by rw[cZ _ bG,ha],by rw[UX,fG];rfl⟩
 refine RW.exit ?_
 iterate 2 refine bm ?_
 refine aO (ag (RW.seq ?_))
 have fk:i=l.length:=by omega
 refine RW.region (RL.ev (v:=va) rfl rfl U ?_)
 refine RL.op rfl rfl (aM Wj rfl rfl rfl ((cY _ acc _ (hN.sl 0 rfl) (by(try simp only[UX,Vs,Vt,Vc,U6,U3,Vw,UX,Vl]);omega)).mono ?_))
 rintro v8 w8 ⟨cx,aW⟩
 replace hN:ak w none_ w8 [_,_]:=hN.bx (l:=aK acc) cx aW
 clear cx aW
 refine RL.ev (v:=v8) rfl rfl aa (RL.nil (ag (RW.ret (aL (RV.tmp rfl) ?_))))
 rw[fk,Vz]at ha
 subst ha
 exact⟨hN.dA 0 rfl,hN.aE⟩
theorem ua (a:I3) (w:World):al UY 73 #[.agg #[.int .i64 a.1,.int .i64 a.2.1,.int .i64 a.2.2]] w fun r w'=>r=.int .i64 a.2.1∧Ext w w':=by
 refine al.start Tryz.func73 rfl (US rfl) ?_
 rw[bL]
 have hN:=ak.nil w none_
 refine RW.seq (RW.region ?_)
 refine RL.op rfl rfl (bq (cs:=[.int .i64 (a.1),.int .i64 (a.2.1),.int .i64 (a.2.2)]) rfl rfl hN ?_)
 clear hN
 intro g1 w1 (hN:ak w none_ w1 [_])
 refine RL.ev (v:=.int .i64 (0)) rfl rfl aa (RL.nil (ag (RW.seq (RW.region (RL.ev rfl rfl (ah Ve rfl bu (by decide) rfl) (RL.ev rfl rfl (aj UU rfl rfl (hN.aA 0 rfl) rfl) (RL.ev (v:=.int .i64 (a.2.1)) rfl rfl aa (RL.nil (ag ?_)))))))))
 refine RW.ret (aL (RV.tmp rfl) ?_)
 exact⟨rfl,hN.aE⟩
theorem ue (v:Value) (l:List I3) (w:World) (hv:Sm bf w v l) (hl:l.length≤67108864):al UY 71 #[v,.func (.func 73) #[] #[]] w fun r w'=>dy vb 5 w' w.heap.size r (aK (l.map fun a=>a.2.1))∧Ext w w':=by
 refine al.start X6 rfl (US rfl) ?_
 rw[cc]
 have hN:=ak.nil w none_
 refine RW.seq (RW.region (RL.ev (v:=.slice none 0 0) rfl rfl aa (RL.nil (ag (RW.seq (RW.region (RL.ev (v:=.slice none 0 0) rfl rfl aa (RL.nil (ag ?_)))))))))
 iterate 2 refine RW.seq ?_
 refine RW.region (RL.ev (v:=v) rfl rfl U ?_)
 have iF:=(hv.o.now hN).aY
 refine RL.ev rfl rfl (bQ Va (hv.o.now hN) rfl) (RL.ev (v:=.int .i64 (0)) rfl rfl U (RL.nil (ag (RW.block ?_))))
 replace hN:=hN.cj vi 3
 refine RW.loop (fun k R0 bT=>∃va:Value,∃acc:List Int,∃i:Nat,R0 1=.func (.func 73) #[] #[]∧R0 5=va∧R0 8=v∧R0 9=.int .i64 ((l.length:Int))∧R0 10=.int .i64 ((i:Int))∧ak w none_ bT [.own vi 3 (va) (acc)]∧(i+k=l.length)∧(acc=(l.take i).map fun a=>a.2.1)∧(acc.length=i)) (l.length) ?_ ?_
 exact⟨.slice none 0 0,[],0,rfl,rfl,rfl,rfl,rfl,hN,by omega,rfl,rfl⟩
 clear hN
 rintro k R0 bT ⟨va,acc,i,bw,bM,cl,dc,cB,hN,eR,ha,fG⟩
 have bY:∃b6,R0=(aZ (aZ (aZ (aZ (aZ b6 1 _) 5 _) 8 _) 9 _) 10 _):=⟨R0,by rw[ai bw,ai bM,ai cl,ai dc,ai cB]⟩
 obtain⟨b6,rfl⟩:=bY
 clear bw bM cl dc cB
 refine RW.seq (RW.region (RL.ev rfl rfl (aV rfl rfl) (RL.nil (ag (RW.seq ?_)))))
 refine RW.aN _ rfl (fun bW=>?_) (fun bW=>?_)
 refine RW.skip (ag (RW.seq (RW.block (RW.seq (RW.region (RL.ev rfl rfl (bn Va cq aU (by decide) (hv.o.now hN) rfl rfl (by omega) (by omega)) ?_))))))
 have aw:∃a_,(l)[i]?=some a_:=⟨_,UT (by omega)⟩
 obtain⟨ap,bG⟩:=aw
 refine RL.ev rfl rfl (bU (m:=i) (a:=ap) Ve rfl cq aU (by decide) (hv.o.now hN) rfl bG (cs:=[.int .i64 (ap.1),.int .i64 (ap.2.1),.int .i64 (ap.2.2)]) rfl) ?_
 refine RL.op rfl rfl (aX (cs:=[.int .i64 (0),.int .i64 (0),.int .i64 (0)]) eo rfl hN ?_)
 clear hN
 intro g3 w3 (hN:ak w none_ w3 [_,_])
 refine RL.op rfl rfl (aC (vs:=[.int .i64 (ap.1),.int .i64 (ap.2.1),.int .i64 (ap.2.2)]) cq rfl rfl rfl (by intro u hu;simp only[U9,U2,or_false]at hu;rcases hu with rfl|rfl|rfl<;>first|rfl) hN 0 rfl rfl ?_)
 clear hN
 intro w4 (hN:ak w none_ w4 [_,_])
 refine RL.nil (ag (RW.region (RL.ev (v:=va) rfl rfl U (RL.ev (v:=.func (.func 73) #[] #[]) rfl rfl U (RL.ev rfl rfl (aG (cs:=[.int .i64 (ap.1),.int .i64 (ap.2.1),.int .i64 (ap.2.2)]) Ve rfl cq rfl (hN.aA 0 rfl)) ?_)))))
 refine RL.op rfl rfl (bB (first:=#[]) (captured:=#[]) (v0:=.agg #[.int .i64 (ap.1),.int .i64 (ap.2.1),.int .i64 (ap.2.2)]) (args:=#[.agg #[.int .i64 (ap.1),.int .i64 (ap.2.1),.int .i64 (ap.2.2)]]) Tryz.func73 rfl rfl (by simp) rfl rfl ((ua ap _).mono ?_))
 rintro _ w5 ⟨rfl,aW⟩
 replace hN:=hN.ext aW
 clear aW
 refine RL.op rfl rfl (bS (enc:=vi) (l:=[ap.2.1]) (xs:=[.tmp 17]) UW bu mu rfl rfl (fun _=>rfl) rfl (by decide) (by decide) hN ?_)
 clear hN
 intro g6 w6 (hN:ak w none_ w6 [_,_,_])
 refine RL.op rfl rfl (bD UW fT rfl (fun _=>rfl) hN 2 rfl rfl (hN.sl 0 rfl) rfl (by rw[fG];simp only[U3,U6,Vc];omega) (by decide) ?_)
 clear hN
 intro v7 w7 (hN:ak w none_ w7 [_,_,_])
 refine RL.ev (v:=v7) rfl rfl aa (RL.nil (a7 (ag (RW.region (RL.ev rfl rfl (an rfl rfl rfl (bc (by omega) (by omega))) (RL.ev (v:=.int .i64 ((i:Int)+1)) rfl rfl U (RL.nil (ag ?_))))))))
 exact⟨k-1,by omega,v7,acc++[ap.2.1],i+1,rfl,rfl,rfl,rfl,rfl,(hN.sub [2] (by decide) rfl),by omega,by rw[cZ _ bG,ha],by rw[UX,fG];rfl⟩
 refine RW.exit ?_
 iterate 2 refine bm ?_
 refine aO (ag (RW.seq ?_))
 have fk:i=l.length:=by omega
 refine RW.region (RL.ev (v:=va) rfl rfl U ?_)
 refine RL.op rfl rfl (aM Wj rfl rfl rfl ((cY _ acc _ (hN.sl 0 rfl) (by(try simp only[UX,Vs,Vt,Vc,U6,U3,Vw,UX,Vl]);omega)).mono ?_))
 rintro v8 w8 ⟨cx,aW⟩
 replace hN:ak w none_ w8 [_,_]:=hN.bx (l:=aK acc) cx aW
 clear cx aW
 refine RL.ev (v:=v8) rfl rfl aa (RL.nil (ag (RW.ret (aL (RV.tmp rfl) ?_))))
 rw[fk,Vz]at ha
 subst ha
 exact⟨hN.dA 0 rfl,hN.aE⟩
theorem tZ (a:I3) (w:World):al UY 74 #[.agg #[.int .i64 a.1,.int .i64 a.2.1,.int .i64 a.2.2]] w fun r w'=>r=.int .i64 a.2.2∧Ext w w':=by
 refine al.start Tryz.func74 rfl (US rfl) ?_
 rw[bL]
 have hN:=ak.nil w none_
 refine RW.seq (RW.region ?_)
 refine RL.op rfl rfl (bq (cs:=[.int .i64 (a.1),.int .i64 (a.2.1),.int .i64 (a.2.2)]) rfl rfl hN ?_)
 clear hN
 intro g1 w1 (hN:ak w none_ w1 [_])
 refine RL.ev (v:=.int .i64 (0)) rfl rfl aa (RL.nil (ag (RW.seq (RW.region (RL.ev rfl rfl (ah Ve rfl bu (by decide) rfl) (RL.ev rfl rfl (aj UU rfl rfl (hN.aA 0 rfl) rfl) (RL.ev (v:=.int .i64 (a.2.2)) rfl rfl aa (RL.nil (ag ?_)))))))))
 refine RW.ret (aL (RV.tmp rfl) ?_)
 exact⟨rfl,hN.aE⟩
theorem ud (v:Value) (l:List I3) (w:World) (hv:Sm bf w v l) (hl:l.length≤67108864):al UY 71 #[v,.func (.func 74) #[] #[]] w fun r w'=>dy vb 5 w' w.heap.size r (aK (l.map fun a=>a.2.2))∧Ext w w':=by
 refine al.start X6 rfl (US rfl) ?_
 rw[cc]
 have hN:=ak.nil w none_
 refine RW.seq (RW.region (RL.ev (v:=.slice none 0 0) rfl rfl aa (RL.nil (ag (RW.seq (RW.region (RL.ev (v:=.slice none 0 0) rfl rfl aa (RL.nil (ag ?_)))))))))
 iterate 2 refine RW.seq ?_
 refine RW.region (RL.ev (v:=v) rfl rfl U ?_)
 have iF:=(hv.o.now hN).aY
 refine RL.ev rfl rfl (bQ Va (hv.o.now hN) rfl) (RL.ev (v:=.int .i64 (0)) rfl rfl U (RL.nil (ag (RW.block ?_))))
 replace hN:=hN.cj vi 3
 refine RW.loop (fun k R0 bT=>∃va:Value,∃acc:List Int,∃i:Nat,R0 1=.func (.func 74) #[] #[]∧R0 5=va∧R0 8=v∧R0 9=.int .i64 ((l.length:Int))∧R0 10=.int .i64 ((i:Int))∧ak w none_ bT [.own vi 3 (va) (acc)]∧(i+k=l.length)∧(acc=(l.take i).map fun a=>a.2.2)∧(acc.length=i)) (l.length) ?_ ?_
 exact⟨.slice none 0 0,[],0,rfl,rfl,rfl,rfl,rfl,hN,by omega,rfl,rfl⟩
 clear hN
 rintro k R0 bT ⟨va,acc,i,bw,bM,cl,dc,cB,hN,eR,ha,fG⟩
 have bY:∃b6,R0=(aZ (aZ (aZ (aZ (aZ b6 1 _) 5 _) 8 _) 9 _) 10 _):=⟨R0,by rw[ai bw,ai bM,ai cl,ai dc,ai cB]⟩
 obtain⟨b6,rfl⟩:=bY
 clear bw bM cl dc cB
 refine RW.seq (RW.region (RL.ev rfl rfl (aV rfl rfl) (RL.nil (ag (RW.seq ?_)))))
 refine RW.aN _ rfl (fun bW=>?_) (fun bW=>?_)
 refine RW.skip (ag (RW.seq (RW.block (RW.seq (RW.region (RL.ev rfl rfl (bn Va cq aU (by decide) (hv.o.now hN) rfl rfl (by omega) (by omega)) ?_))))))
 have aw:∃a_,(l)[i]?=some a_:=⟨_,UT (by omega)⟩
 obtain⟨ap,bG⟩:=aw
 refine RL.ev rfl rfl (bU (m:=i) (a:=ap) Ve rfl cq aU (by decide) (hv.o.now hN) rfl bG (cs:=[.int .i64 (ap.1),.int .i64 (ap.2.1),.int .i64 (ap.2.2)]) rfl) ?_
 refine RL.op rfl rfl (aX (cs:=[.int .i64 (0),.int .i64 (0),.int .i64 (0)]) eo rfl hN ?_)
 clear hN
 intro g3 w3 (hN:ak w none_ w3 [_,_])
 refine RL.op rfl rfl (aC (vs:=[.int .i64 (ap.1),.int .i64 (ap.2.1),.int .i64 (ap.2.2)]) cq rfl rfl rfl (by intro u hu;simp only[U9,U2,or_false]at hu;rcases hu with rfl|rfl|rfl<;>first|rfl) hN 0 rfl rfl ?_)
 clear hN
 intro w4 (hN:ak w none_ w4 [_,_])
 refine RL.nil (ag (RW.region (RL.ev (v:=va) rfl rfl U (RL.ev (v:=.func (.func 74) #[] #[]) rfl rfl U (RL.ev rfl rfl (aG (cs:=[.int .i64 (ap.1),.int .i64 (ap.2.1),.int .i64 (ap.2.2)]) Ve rfl cq rfl (hN.aA 0 rfl)) ?_)))))
 refine RL.op rfl rfl (bB (first:=#[]) (captured:=#[]) (v0:=.agg #[.int .i64 (ap.1),.int .i64 (ap.2.1),.int .i64 (ap.2.2)]) (args:=#[.agg #[.int .i64 (ap.1),.int .i64 (ap.2.1),.int .i64 (ap.2.2)]]) Tryz.func74 rfl rfl (by simp) rfl rfl ((tZ ap _).mono ?_))
 rintro _ w5 ⟨rfl,aW⟩
 replace hN:=hN.ext aW
 clear aW
 refine RL.op rfl rfl (bS (enc:=vi) (l:=[ap.2.2]) (xs:=[.tmp 17]) UW bu mu rfl rfl (fun _=>rfl) rfl (by decide) (by decide) hN ?_)
 clear hN
 intro g6 w6 (hN:ak w none_ w6 [_,_,_])
 refine RL.op rfl rfl (bD UW fT rfl (fun _=>rfl) hN 2 rfl rfl (hN.sl 0 rfl) rfl (by rw[fG];simp only[U3,U6,Vc];omega) (by decide) ?_)
 clear hN
 intro v7 w7 (hN:ak w none_ w7 [_,_,_])
 refine RL.ev (v:=v7) rfl rfl aa (RL.nil (a7 (ag (RW.region (RL.ev rfl rfl (an rfl rfl rfl (bc (by omega) (by omega))) (RL.ev (v:=.int .i64 ((i:Int)+1)) rfl rfl U (RL.nil (ag ?_))))))))
 exact⟨k-1,by omega,v7,acc++[ap.2.2],i+1,rfl,rfl,rfl,rfl,rfl,(hN.sub [2] (by decide) rfl),by omega,by rw[cZ _ bG,ha],by rw[UX,fG];rfl⟩
 refine RW.exit ?_
 iterate 2 refine bm ?_
 refine aO (ag (RW.seq ?_))
 have fk:i=l.length:=by omega
 refine RW.region (RL.ev (v:=va) rfl rfl U ?_)
 refine RL.op rfl rfl (aM Wj rfl rfl rfl ((cY _ acc _ (hN.sl 0 rfl) (by(try simp only[UX,Vs,Vt,Vc,U6,U3,Vw,UX,Vl]);omega)).mono ?_))
 rintro v8 w8 ⟨cx,aW⟩
 replace hN:ak w none_ w8 [_,_]:=hN.bx (l:=aK acc) cx aW
 clear cx aW
 refine RL.ev (v:=v8) rfl rfl aa (RL.nil (ag (RW.ret (aL (RV.tmp rfl) ?_))))
 rw[fk,Vz]at ha
 subst ha
 exact⟨hN.dA 0 rfl,hN.aE⟩
theorem qv (a:I5) (w:World):al UY 77 #[.agg #[.int .i64 a.1,.int .i64 a.2.1,.int .i64 a.2.2.1,.int .i64 a.2.2.2.1,.int .i64 a.2.2.2.2]] w fun r w'=>r=.int .i64 a.1∧Ext w w':=by
 refine al.start Tryz.func77 rfl (US rfl) ?_
 rw[bL]
 have hN:=ak.nil w none_
 refine RW.seq (RW.region ?_)
 refine RL.op rfl rfl (bq (cs:=[.int .i64 (a.1),.int .i64 (a.2.1),.int .i64 (a.2.2.1),.int .i64 (a.2.2.2.1),.int .i64 (a.2.2.2.2)]) rfl rfl hN ?_)
 clear hN
 intro g1 w1 (hN:ak w none_ w1 [_])
 refine RL.ev (v:=.int .i64 (0)) rfl rfl aa (RL.nil (ag (RW.seq (RW.region (RL.ev rfl rfl (ah U0 rfl bu (by decide) rfl) (RL.ev rfl rfl (aj UU rfl rfl (hN.aA 0 rfl) rfl) (RL.ev (v:=.int .i64 (a.1)) rfl rfl aa (RL.nil (ag ?_)))))))))
 refine RW.ret (aL (RV.tmp rfl) ?_)
 exact⟨rfl,hN.aE⟩
theorem qH (v:Value) (l:List I5) (w:World) (hv:Sm bC w v l) (hl:l.length≤67108864):al UY 76 #[v,.func (.func 77) #[] #[]] w fun r w'=>dy vb 5 w' w.heap.size r (aK (l.map fun a=>a.1))∧Ext w w':=by
 refine al.start W2 rfl (US rfl) ?_
 rw[cc]
 have hN:=ak.nil w none_
 refine RW.seq (RW.region (RL.ev (v:=.slice none 0 0) rfl rfl aa (RL.nil (ag (RW.seq (RW.region (RL.ev (v:=.slice none 0 0) rfl rfl aa (RL.nil (ag ?_)))))))))
 iterate 2 refine RW.seq ?_
 refine RW.region (RL.ev (v:=v) rfl rfl U ?_)
 have iF:=(hv.o.now hN).aY
 refine RL.ev rfl rfl (bQ Vg (hv.o.now hN) rfl) (RL.ev (v:=.int .i64 (0)) rfl rfl U (RL.nil (ag (RW.block ?_))))
 replace hN:=hN.cj vi 3
 refine RW.loop (fun k R0 bT=>∃va:Value,∃acc:List Int,∃i:Nat,R0 1=.func (.func 77) #[] #[]∧R0 5=va∧R0 8=v∧R0 9=.int .i64 ((l.length:Int))∧R0 10=.int .i64 ((i:Int))∧ak w none_ bT [.own vi 3 (va) (acc)]∧(i+k=l.length)∧(acc=(l.take i).map fun a=>a.1)∧(acc.length=i)) (l.length) ?_ ?_
 exact⟨.slice none 0 0,[],0,rfl,rfl,rfl,rfl,rfl,hN,by omega,rfl,rfl⟩
 clear hN
 rintro k R0 bT ⟨va,acc,i,bw,bM,cl,dc,cB,hN,eR,ha,fG⟩
 have bY:∃b6,R0=(aZ (aZ (aZ (aZ (aZ b6 1 _) 5 _) 8 _) 9 _) 10 _):=⟨R0,by rw[ai bw,ai bM,ai cl,ai dc,ai cB]⟩
 obtain⟨b6,rfl⟩:=bY
 clear bw bM cl dc cB
 refine RW.seq (RW.region (RL.ev rfl rfl (aV rfl rfl) (RL.nil (ag (RW.seq ?_)))))
 refine RW.aN _ rfl (fun bW=>?_) (fun bW=>?_)
 refine RW.skip (ag (RW.seq (RW.block (RW.seq (RW.region (RL.ev rfl rfl (bn Vg dj bb (by decide) (hv.o.now hN) rfl rfl (by omega) (by omega)) ?_))))))
 have aw:∃a_,(l)[i]?=some a_:=⟨_,UT (by omega)⟩
 obtain⟨ap,bG⟩:=aw
 refine RL.ev rfl rfl (bU (m:=i) (a:=ap) U0 rfl dj bb (by decide) (hv.o.now hN) rfl bG (cs:=[.int .i64 (ap.1),.int .i64 (ap.2.1),.int .i64 (ap.2.2.1),.int .i64 (ap.2.2.2.1),.int .i64 (ap.2.2.2.2)]) rfl) ?_
 refine RL.op rfl rfl (aX (cs:=[.int .i64 (0),.int .i64 (0),.int .i64 (0),.int .i64 (0),.int .i64 (0)]) ft rfl hN ?_)
 clear hN
 intro g3 w3 (hN:ak w none_ w3 [_,_])
 refine RL.op rfl rfl (aC (vs:=[.int .i64 (ap.1),.int .i64 (ap.2.1),.int .i64 (ap.2.2.1),.int .i64 (ap.2.2.2.1),.int .i64 (ap.2.2.2.2)]) dj rfl rfl rfl (by intro u hu;simp only[U9,U2,or_false]at hu;rcases hu with rfl|rfl|rfl|rfl|rfl<;>first|rfl) hN 0 rfl rfl ?_)
 clear hN
 intro w4 (hN:ak w none_ w4 [_,_])
 refine RL.nil (ag (RW.region (RL.ev (v:=va) rfl rfl U (RL.ev (v:=.func (.func 77) #[] #[]) rfl rfl U (RL.ev rfl rfl (aG (cs:=[.int .i64 (ap.1),.int .i64 (ap.2.1),.int .i64 (ap.2.2.1),.int .i64 (ap.2.2.2.1),.int .i64 (ap.2.2.2.2)]) U0 rfl dj rfl (hN.aA 0 rfl)) ?_)))))
 refine RL.op rfl rfl (bB (first:=#[]) (captured:=#[]) (v0:=.agg #[.int .i64 (ap.1),.int .i64 (ap.2.1),.int .i64 (ap.2.2.1),.int .i64 (ap.2.2.2.1),.int .i64 (ap.2.2.2.2)]) (args:=#[.agg #[.int .i64 (ap.1),.int .i64 (ap.2.1),.int .i64 (ap.2.2.1),.int .i64 (ap.2.2.2.1),.int .i64 (ap.2.2.2.2)]]) Tryz.func77 rfl rfl (by simp) rfl rfl ((qv ap _).mono ?_))
 rintro _ w5 ⟨rfl,aW⟩
 replace hN:=hN.ext aW
 clear aW
 refine RL.op rfl rfl (bS (enc:=vi) (l:=[ap.1]) (xs:=[.tmp 17]) UW bu mu rfl rfl (fun _=>rfl) rfl (by decide) (by decide) hN ?_)
 clear hN
 intro g6 w6 (hN:ak w none_ w6 [_,_,_])
 refine RL.op rfl rfl (bD UW fT rfl (fun _=>rfl) hN 2 rfl rfl (hN.sl 0 rfl) rfl (by rw[fG];simp only[U3,U6,Vc];omega) (by decide) ?_)
 clear hN
 intro v7 w7 (hN:ak w none_ w7 [_,_,_])
 refine RL.ev (v:=v7) rfl rfl aa (RL.nil (a7 (ag (RW.region (RL.ev rfl rfl (an rfl rfl rfl (bc (by omega) (by omega))) (RL.ev (v:=.int .i64 ((i:Int)+1)) rfl rfl U (RL.nil (ag ?_))))))))
 exact⟨k-1,by omega,v7,acc++[ap.1],i+1,rfl,rfl,rfl,rfl,rfl,(hN.sub [2] (by decide) rfl),by omega,by rw[cZ _ bG,ha],by rw[UX,fG];rfl⟩
 refine RW.exit ?_
 iterate 2 refine bm ?_
 refine aO (ag (RW.seq ?_))
 have fk:i=l.length:=by omega
 refine RW.region (RL.ev (v:=va) rfl rfl U ?_)
 refine RL.op rfl rfl (aM Wj rfl rfl rfl ((cY _ acc _ (hN.sl 0 rfl) (by(try simp only[UX,Vs,Vt,Vc,U6,U3,Vw,UX,Vl]);omega)).mono ?_))
 rintro v8 w8 ⟨cx,aW⟩
 replace hN:ak w none_ w8 [_,_]:=hN.bx (l:=aK acc) cx aW
 clear cx aW
 refine RL.ev (v:=v8) rfl rfl aa (RL.nil (ag (RW.ret (aL (RV.tmp rfl) ?_))))
 rw[fk,Vz]at ha
 subst ha
 exact⟨hN.dA 0 rfl,hN.aE⟩
theorem qu (a:I5) (w:World):al UY 78 #[.agg #[.int .i64 a.1,.int .i64 a.2.1,.int .i64 a.2.2.1,.int .i64 a.2.2.2.1,.int .i64 a.2.2.2.2]] w fun r w'=>r=.int .i64 a.2.1∧Ext w w':=by
 refine al.start Tryz.func78 rfl (US rfl) ?_
 rw[bL]
 have hN:=ak.nil w none_
 refine RW.seq (RW.region ?_)
 refine RL.op rfl rfl (bq (cs:=[.int .i64 (a.1),.int .i64 (a.2.1),.int .i64 (a.2.2.1),.int .i64 (a.2.2.2.1),.int .i64 (a.2.2.2.2)]) rfl rfl hN ?_)
 clear hN
 intro g1 w1 (hN:ak w none_ w1 [_])
 refine RL.ev (v:=.int .i64 (0)) rfl rfl aa (RL.nil (ag (RW.seq (RW.region (RL.ev rfl rfl (ah U0 rfl bu (by decide) rfl) (RL.ev rfl rfl (aj UU rfl rfl (hN.aA 0 rfl) rfl) (RL.ev (v:=.int .i64 (a.2.1)) rfl rfl aa (RL.nil (ag ?_)))))))))
 refine RW.ret (aL (RV.tmp rfl) ?_)
 exact⟨rfl,hN.aE⟩
theorem qG (v:Value) (l:List I5) (w:World) (hv:Sm bC w v l) (hl:l.length≤67108864):al UY 76 #[v,.func (.func 78) #[] #[]] w fun r w'=>dy vb 5 w' w.heap.size r (aK (l.map fun a=>a.2.1))∧Ext w w':=by
 refine al.start W2 rfl (US rfl) ?_
 rw[cc]
 have hN:=ak.nil w none_
 refine RW.seq (RW.region (RL.ev (v:=.slice none 0 0) rfl rfl aa (RL.nil (ag (RW.seq (RW.region (RL.ev (v:=.slice none 0 0) rfl rfl aa (RL.nil (ag ?_)))))))))
 iterate 2 refine RW.seq ?_
 refine RW.region (RL.ev (v:=v) rfl rfl U ?_)
 have iF:=(hv.o.now hN).aY
 refine RL.ev rfl rfl (bQ Vg (hv.o.now hN) rfl) (RL.ev (v:=.int .i64 (0)) rfl rfl U (RL.nil (ag (RW.block ?_))))
 replace hN:=hN.cj vi 3
 refine RW.loop (fun k R0 bT=>∃va:Value,∃acc:List Int,∃i:Nat,R0 1=.func (.func 78) #[] #[]∧R0 5=va∧R0 8=v∧R0 9=.int .i64 ((l.length:Int))∧R0 10=.int .i64 ((i:Int))∧ak w none_ bT [.own vi 3 (va) (acc)]∧(i+k=l.length)∧(acc=(l.take i).map fun a=>a.2.1)∧(acc.length=i)) (l.length) ?_ ?_
 exact⟨.slice none 0 0,[],0,rfl,rfl,rfl,rfl,rfl,hN,by omega,rfl,rfl⟩
 clear hN
 rintro k R0 bT ⟨va,acc,i,bw,bM,cl,dc,cB,hN,eR,ha,fG⟩
 have bY:∃b6,R0=(aZ (aZ (aZ (aZ (aZ b6 1 _) 5 _) 8 _) 9 _) 10 _):=⟨R0,by rw[ai bw,ai bM,ai cl,ai dc,ai cB]⟩
 obtain⟨b6,rfl⟩:=bY
 clear bw bM cl dc cB
 refine RW.seq (RW.region (RL.ev rfl rfl (aV rfl rfl) (RL.nil (ag (RW.seq ?_)))))
 refine RW.aN _ rfl (fun bW=>?_) (fun bW=>?_)
 refine RW.skip (ag (RW.seq (RW.block (RW.seq (RW.region (RL.ev rfl rfl (bn Vg dj bb (by decide) (hv.o.now hN) rfl rfl (by omega) (by omega)) ?_))))))
 have aw:∃a_,(l)[i]?=some a_:=⟨_,UT (by omega)⟩
 obtain⟨ap,bG⟩:=aw
 refine RL.ev rfl rfl (bU (m:=i) (a:=ap) U0 rfl dj bb (by decide) (hv.o.now hN) rfl bG (cs:=[.int .i64 (ap.1),.int .i64 (ap.2.1),.int .i64 (ap.2.2.1),.int .i64 (ap.2.2.2.1),.int .i64 (ap.2.2.2.2)]) rfl) ?_
 refine RL.op rfl rfl (aX (cs:=[.int .i64 (0),.int .i64 (0),.int .i64 (0),.int .i64 (0),.int .i64 (0)]) ft rfl hN ?_)
 clear hN
 intro g3 w3 (hN:ak w none_ w3 [_,_])
 refine RL.op rfl rfl (aC (vs:=[.int .i64 (ap.1),.int .i64 (ap.2.1),.int .i64 (ap.2.2.1),.int .i64 (ap.2.2.2.1),.int .i64 (ap.2.2.2.2)]) dj rfl rfl rfl (by intro u hu;simp only[U9,U2,or_false]at hu;rcases hu with rfl|rfl|rfl|rfl|rfl<;>first|rfl) hN 0 rfl rfl ?_)
 clear hN
 intro w4 (hN:ak w none_ w4 [_,_])
 refine RL.nil (ag (RW.region (RL.ev (v:=va) rfl rfl U (RL.ev (v:=.func (.func 78) #[] #[]) rfl rfl U (RL.ev rfl rfl (aG (cs:=[.int .i64 (ap.1),.int .i64 (ap.2.1),.int .i64 (ap.2.2.1),.int .i64 (ap.2.2.2.1),.int .i64 (ap.2.2.2.2)]) U0 rfl dj rfl (hN.aA 0 rfl)) ?_)))))
 refine RL.op rfl rfl (bB (first:=#[]) (captured:=#[]) (v0:=.agg #[.int .i64 (ap.1),.int .i64 (ap.2.1),.int .i64 (ap.2.2.1),.int .i64 (ap.2.2.2.1),.int .i64 (ap.2.2.2.2)]) (args:=#[.agg #[.int .i64 (ap.1),.int .i64 (ap.2.1),.int .i64 (ap.2.2.1),.int .i64 (ap.2.2.2.1),.int .i64 (ap.2.2.2.2)]]) Tryz.func78 rfl rfl (by simp) rfl rfl ((qu ap _).mono ?_))
 rintro _ w5 ⟨rfl,aW⟩
 replace hN:=hN.ext aW
 clear aW
 refine RL.op rfl rfl (bS (enc:=vi) (l:=[ap.2.1]) (xs:=[.tmp 17]) UW bu mu rfl rfl (fun _=>rfl) rfl (by decide) (by decide) hN ?_)
 clear hN
 intro g6 w6 (hN:ak w none_ w6 [_,_,_])
 refine RL.op rfl rfl (bD UW fT rfl (fun _=>rfl) hN 2 rfl rfl (hN.sl 0 rfl) rfl (by rw[fG];simp only[U3,U6,Vc];omega) (by decide) ?_)
 clear hN
 intro v7 w7 (hN:ak w none_ w7 [_,_,_])
 refine RL.ev (v:=v7) rfl rfl aa (RL.nil (a7 (ag (RW.region (RL.ev rfl rfl (an rfl rfl rfl (bc (by omega) (by omega))) (RL.ev (v:=.int .i64 ((i:Int)+1)) rfl rfl U (RL.nil (ag ?_))))))))
 exact⟨k-1,by omega,v7,acc++[ap.2.1],i+1,rfl,rfl,rfl,rfl,rfl,(hN.sub [2] (by decide) rfl),by omega,by rw[cZ _ bG,ha],by rw[UX,fG];rfl⟩
 refine RW.exit ?_
 iterate 2 refine bm ?_
 refine aO (ag (RW.seq ?_))
 have fk:i=l.length:=by omega
 refine RW.region (RL.ev (v:=va) rfl rfl U ?_)
 refine RL.op rfl rfl (aM Wj rfl rfl rfl ((cY _ acc _ (hN.sl 0 rfl) (by(try simp only[UX,Vs,Vt,Vc,U6,U3,Vw,UX,Vl]);omega)).mono ?_))
 rintro v8 w8 ⟨cx,aW⟩
 replace hN:ak w none_ w8 [_,_]:=hN.bx (l:=aK acc) cx aW
 clear cx aW
 refine RL.ev (v:=v8) rfl rfl aa (RL.nil (ag (RW.ret (aL (RV.tmp rfl) ?_))))
 rw[fk,Vz]at ha
 subst ha
 exact⟨hN.dA 0 rfl,hN.aE⟩
theorem qt (a:I5) (w:World):al UY 79 #[.agg #[.int .i64 a.1,.int .i64 a.2.1,.int .i64 a.2.2.1,.int .i64 a.2.2.2.1,.int .i64 a.2.2.2.2]] w fun r w'=>r=.int .i64 a.2.2.1∧Ext w w':=by
 refine al.start Tryz.func79 rfl (US rfl) ?_
 rw[bL]
 have hN:=ak.nil w none_
 refine RW.seq (RW.region ?_)
 refine RL.op rfl rfl (bq (cs:=[.int .i64 (a.1),.int .i64 (a.2.1),.int .i64 (a.2.2.1),.int .i64 (a.2.2.2.1),.int .i64 (a.2.2.2.2)]) rfl rfl hN ?_)
 clear hN
 intro g1 w1 (hN:ak w none_ w1 [_])
 refine RL.ev (v:=.int .i64 (0)) rfl rfl aa (RL.nil (ag (RW.seq (RW.region (RL.ev rfl rfl (ah U0 rfl dk (by decide) rfl) (RL.ev rfl rfl (ah Vj rfl bu (by decide) rfl) (RL.ev rfl rfl (aj UU rfl rfl (hN.aA 0 rfl) rfl) (RL.ev (v:=.int .i64 (a.2.2.1)) rfl rfl aa (RL.nil ?_)))))))))
 refine ag (RW.ret (aL (RV.tmp rfl) ?_))
 exact⟨rfl,hN.aE⟩
theorem qF (v:Value) (l:List I5) (w:World) (hv:Sm bC w v l) (hl:l.length≤67108864):al UY 76 #[v,.func (.func 79) #[] #[]] w fun r w'=>dy vb 5 w' w.heap.size r (aK (l.map fun a=>a.2.2.1))∧Ext w w':=by
 refine al.start W2 rfl (US rfl) ?_
 rw[cc]
 have hN:=ak.nil w none_
 refine RW.seq (RW.region (RL.ev (v:=.slice none 0 0) rfl rfl aa (RL.nil (ag (RW.seq (RW.region (RL.ev (v:=.slice none 0 0) rfl rfl aa (RL.nil (ag ?_)))))))))
 iterate 2 refine RW.seq ?_
 refine RW.region (RL.ev (v:=v) rfl rfl U ?_)
 have iF:=(hv.o.now hN).aY
 refine RL.ev rfl rfl (bQ Vg (hv.o.now hN) rfl) (RL.ev (v:=.int .i64 (0)) rfl rfl U (RL.nil (ag (RW.block ?_))))
 replace hN:=hN.cj vi 3
 refine RW.loop (fun k R0 bT=>∃va:Value,∃acc:List Int,∃i:Nat,R0 1=.func (.func 79) #[] #[]∧R0 5=va∧R0 8=v∧R0 9=.int .i64 ((l.length:Int))∧R0 10=.int .i64 ((i:Int))∧ak w none_ bT [.own vi 3 (va) (acc)]∧(i+k=l.length)∧(acc=(l.take i).map fun a=>a.2.2.1)∧(acc.length=i)) (l.length) ?_ ?_
 exact⟨.slice none 0 0,[],0,rfl,rfl,rfl,rfl,rfl,hN,by omega,rfl,rfl⟩
 clear hN
 rintro k R0 bT ⟨va,acc,i,bw,bM,cl,dc,cB,hN,eR,ha,fG⟩
 have bY:∃b6,R0=(aZ (aZ (aZ (aZ (aZ b6 1 _) 5 _) 8 _) 9 _) 10 _):=⟨R0,by rw[ai bw,ai bM,ai cl,ai dc,ai cB]⟩
 obtain⟨b6,rfl⟩:=bY
 clear bw bM cl dc cB
 refine RW.seq (RW.region (RL.ev rfl rfl (aV rfl rfl) (RL.nil (ag (RW.seq ?_)))))
 refine RW.aN _ rfl (fun bW=>?_) (fun bW=>?_)
 refine RW.skip (ag (RW.seq (RW.block (RW.seq (RW.region (RL.ev rfl rfl (bn Vg dj bb (by decide) (hv.o.now hN) rfl rfl (by omega) (by omega)) ?_))))))
 have aw:∃a_,(l)[i]?=some a_:=⟨_,UT (by omega)⟩
 obtain⟨ap,bG⟩:=aw
 refine RL.ev rfl rfl (bU (m:=i) (a:=ap) U0 rfl dj bb (by decide) (hv.o.now hN) rfl bG (cs:=[.int .i64 (ap.1),.int .i64 (ap.2.1),.int .i64 (ap.2.2.1),.int .i64 (ap.2.2.2.1),.int .i64 (ap.2.2.2.2)]) rfl) ?_
 refine RL.op rfl rfl (aX (cs:=[.int .i64 (0),.int .i64 (0),.int .i64 (0),.int .i64 (0),.int .i64 (0)]) ft rfl hN ?_)
 clear hN
 intro g3 w3 (hN:ak w none_ w3 [_,_])
 refine RL.op rfl rfl (aC (vs:=[.int .i64 (ap.1),.int .i64 (ap.2.1),.int .i64 (ap.2.2.1),.int .i64 (ap.2.2.2.1),.int .i64 (ap.2.2.2.2)]) dj rfl rfl rfl (by intro u hu;simp only[U9,U2,or_false]at hu;rcases hu with rfl|rfl|rfl|rfl|rfl<;>first|rfl) hN 0 rfl rfl ?_)
 clear hN
 intro w4 (hN:ak w none_ w4 [_,_])
 refine RL.nil (ag (RW.region (RL.ev (v:=va) rfl rfl U (RL.ev (v:=.func (.func 79) #[] #[]) rfl rfl U (RL.ev rfl rfl (aG (cs:=[.int .i64 (ap.1),.int .i64 (ap.2.1),.int .i64 (ap.2.2.1),.int .i64 (ap.2.2.2.1),.int .i64 (ap.2.2.2.2)]) U0 rfl dj rfl (hN.aA 0 rfl)) ?_)))))
 refine RL.op rfl rfl (bB (first:=#[]) (captured:=#[]) (v0:=.agg #[.int .i64 (ap.1),.int .i64 (ap.2.1),.int .i64 (ap.2.2.1),.int .i64 (ap.2.2.2.1),.int .i64 (ap.2.2.2.2)]) (args:=#[.agg #[.int .i64 (ap.1),.int .i64 (ap.2.1),.int .i64 (ap.2.2.1),.int .i64 (ap.2.2.2.1),.int .i64 (ap.2.2.2.2)]]) Tryz.func79 rfl rfl (by simp) rfl rfl ((qt ap _).mono ?_))
 rintro _ w5 ⟨rfl,aW⟩
 replace hN:=hN.ext aW
 clear aW
 refine RL.op rfl rfl (bS (enc:=vi) (l:=[ap.2.2.1]) (xs:=[.tmp 17]) UW bu mu rfl rfl (fun _=>rfl) rfl (by decide) (by decide) hN ?_)
 clear hN
 intro g6 w6 (hN:ak w none_ w6 [_,_,_])
 refine RL.op rfl rfl (bD UW fT rfl (fun _=>rfl) hN 2 rfl rfl (hN.sl 0 rfl) rfl (by rw[fG];simp only[U3,U6,Vc];omega) (by decide) ?_)
 clear hN
 intro v7 w7 (hN:ak w none_ w7 [_,_,_])
 refine RL.ev (v:=v7) rfl rfl aa (RL.nil (a7 (ag (RW.region (RL.ev rfl rfl (an rfl rfl rfl (bc (by omega) (by omega))) (RL.ev (v:=.int .i64 ((i:Int)+1)) rfl rfl U (RL.nil (ag ?_))))))))
 exact⟨k-1,by omega,v7,acc++[ap.2.2.1],i+1,rfl,rfl,rfl,rfl,rfl,(hN.sub [2] (by decide) rfl),by omega,by rw[cZ _ bG,ha],by rw[UX,fG];rfl⟩
 refine RW.exit ?_
 iterate 2 refine bm ?_
 refine aO (ag (RW.seq ?_))
 have fk:i=l.length:=by omega
 refine RW.region (RL.ev (v:=va) rfl rfl U ?_)
 refine RL.op rfl rfl (aM Wj rfl rfl rfl ((cY _ acc _ (hN.sl 0 rfl) (by(try simp only[UX,Vs,Vt,Vc,U6,U3,Vw,UX,Vl]);omega)).mono ?_))
 rintro v8 w8 ⟨cx,aW⟩
 replace hN:ak w none_ w8 [_,_]:=hN.bx (l:=aK acc) cx aW
 clear cx aW
 refine RL.ev (v:=v8) rfl rfl aa (RL.nil (ag (RW.ret (aL (RV.tmp rfl) ?_))))
 rw[fk,Vz]at ha
 subst ha
 exact⟨hN.dA 0 rfl,hN.aE⟩
theorem qs (a:I5) (w:World):al UY 80 #[.agg #[.int .i64 a.1,.int .i64 a.2.1,.int .i64 a.2.2.1,.int .i64 a.2.2.2.1,.int .i64 a.2.2.2.2]] w fun r w'=>r=.int .i64 a.2.2.2.1∧Ext w w':=by
 refine al.start Tryz.func80 rfl (US rfl) ?_
 rw[bL]
 have hN:=ak.nil w none_
 refine RW.seq (RW.region ?_)
 refine RL.op rfl rfl (bq (cs:=[.int .i64 (a.1),.int .i64 (a.2.1),.int .i64 (a.2.2.1),.int .i64 (a.2.2.2.1),.int .i64 (a.2.2.2.2)]) rfl rfl hN ?_)
 clear hN
 intro g1 w1 (hN:ak w none_ w1 [_])
 refine RL.ev (v:=.int .i64 (0)) rfl rfl aa (RL.nil (ag (RW.seq (RW.region (RL.ev rfl rfl (ah U0 rfl dk (by decide) rfl) (RL.ev rfl rfl (ah Vj rfl bu (by decide) rfl) (RL.ev rfl rfl (aj UU rfl rfl (hN.aA 0 rfl) rfl) (RL.ev (v:=.int .i64 (a.2.2.2.1)) rfl rfl aa (RL.nil ?_)))))))))
 refine ag (RW.ret (aL (RV.tmp rfl) ?_))
 exact⟨rfl,hN.aE⟩
theorem qE (v:Value) (l:List I5) (w:World) (hv:Sm bC w v l) (hl:l.length≤67108864):al UY 76 #[v,.func (.func 80) #[] #[]] w fun r w'=>dy vb 5 w' w.heap.size r (aK (l.map fun a=>a.2.2.2.1))∧Ext w w':=by
 refine al.start W2 rfl (US rfl) ?_
 rw[cc]
 have hN:=ak.nil w none_
 refine RW.seq (RW.region (RL.ev (v:=.slice none 0 0) rfl rfl aa (RL.nil (ag (RW.seq (RW.region (RL.ev (v:=.slice none 0 0) rfl rfl aa (RL.nil (ag ?_)))))))))
 iterate 2 refine RW.seq ?_
 refine RW.region (RL.ev (v:=v) rfl rfl U ?_)
 have iF:=(hv.o.now hN).aY
 refine RL.ev rfl rfl (bQ Vg (hv.o.now hN) rfl) (RL.ev (v:=.int .i64 (0)) rfl rfl U (RL.nil (ag (RW.block ?_))))
 replace hN:=hN.cj vi 3
 refine RW.loop (fun k R0 bT=>∃va:Value,∃acc:List Int,∃i:Nat,R0 1=.func (.func 80) #[] #[]∧R0 5=va∧R0 8=v∧R0 9=.int .i64 ((l.length:Int))∧R0 10=.int .i64 ((i:Int))∧ak w none_ bT [.own vi 3 (va) (acc)]∧(i+k=l.length)∧(acc=(l.take i).map fun a=>a.2.2.2.1)∧(acc.length=i)) (l.length) ?_ ?_
 exact⟨.slice none 0 0,[],0,rfl,rfl,rfl,rfl,rfl,hN,by omega,rfl,rfl⟩
 clear hN
 rintro k R0 bT ⟨va,acc,i,bw,bM,cl,dc,cB,hN,eR,ha,fG⟩
 have bY:∃b6,R0=(aZ (aZ (aZ (aZ (aZ b6 1 _) 5 _) 8 _) 9 _) 10 _):=⟨R0,by rw[ai bw,ai bM,ai cl,ai dc,ai cB]⟩
 obtain⟨b6,rfl⟩:=bY
 clear bw bM cl dc cB
 refine RW.seq (RW.region (RL.ev rfl rfl (aV rfl rfl) (RL.nil (ag (RW.seq ?_)))))
 refine RW.aN _ rfl (fun bW=>?_) (fun bW=>?_)
 refine RW.skip (ag (RW.seq (RW.block (RW.seq (RW.region (RL.ev rfl rfl (bn Vg dj bb (by decide) (hv.o.now hN) rfl rfl (by omega) (by omega)) ?_))))))
 have aw:∃a_,(l)[i]?=some a_:=⟨_,UT (by omega)⟩
 obtain⟨ap,bG⟩:=aw
 refine RL.ev rfl rfl (bU (m:=i) (a:=ap) U0 rfl dj bb (by decide) (hv.o.now hN) rfl bG (cs:=[.int .i64 (ap.1),.int .i64 (ap.2.1),.int .i64 (ap.2.2.1),.int .i64 (ap.2.2.2.1),.int .i64 (ap.2.2.2.2)]) rfl) ?_
 refine RL.op rfl rfl (aX (cs:=[.int .i64 (0),.int .i64 (0),.int .i64 (0),.int .i64 (0),.int .i64 (0)]) ft rfl hN ?_)
 clear hN
 intro g3 w3 (hN:ak w none_ w3 [_,_])
 refine RL.op rfl rfl (aC (vs:=[.int .i64 (ap.1),.int .i64 (ap.2.1),.int .i64 (ap.2.2.1),.int .i64 (ap.2.2.2.1),.int .i64 (ap.2.2.2.2)]) dj rfl rfl rfl (by intro u hu;simp only[U9,U2,or_false]at hu;rcases hu with rfl|rfl|rfl|rfl|rfl<;>first|rfl) hN 0 rfl rfl ?_)
 clear hN
 intro w4 (hN:ak w none_ w4 [_,_])
 refine RL.nil (ag (RW.region (RL.ev (v:=va) rfl rfl U (RL.ev (v:=.func (.func 80) #[] #[]) rfl rfl U (RL.ev rfl rfl (aG (cs:=[.int .i64 (ap.1),.int .i64 (ap.2.1),.int .i64 (ap.2.2.1),.int .i64 (ap.2.2.2.1),.int .i64 (ap.2.2.2.2)]) U0 rfl dj rfl (hN.aA 0 rfl)) ?_)))))
 refine RL.op rfl rfl (bB (first:=#[]) (captured:=#[]) (v0:=.agg #[.int .i64 (ap.1),.int .i64 (ap.2.1),.int .i64 (ap.2.2.1),.int .i64 (ap.2.2.2.1),.int .i64 (ap.2.2.2.2)]) (args:=#[.agg #[.int .i64 (ap.1),.int .i64 (ap.2.1),.int .i64 (ap.2.2.1),.int .i64 (ap.2.2.2.1),.int .i64 (ap.2.2.2.2)]]) Tryz.func80 rfl rfl (by simp) rfl rfl ((qs ap _).mono ?_))
 rintro _ w5 ⟨rfl,aW⟩
 replace hN:=hN.ext aW
 clear aW
 refine RL.op rfl rfl (bS (enc:=vi) (l:=[ap.2.2.2.1]) (xs:=[.tmp 17]) UW bu mu rfl rfl (fun _=>rfl) rfl (by decide) (by decide) hN ?_)
 clear hN
 intro g6 w6 (hN:ak w none_ w6 [_,_,_])
 refine RL.op rfl rfl (bD UW fT rfl (fun _=>rfl) hN 2 rfl rfl (hN.sl 0 rfl) rfl (by rw[fG];simp only[U3,U6,Vc];omega) (by decide) ?_)
 clear hN
 intro v7 w7 (hN:ak w none_ w7 [_,_,_])
 refine RL.ev (v:=v7) rfl rfl aa (RL.nil (a7 (ag (RW.region (RL.ev rfl rfl (an rfl rfl rfl (bc (by omega) (by omega))) (RL.ev (v:=.int .i64 ((i:Int)+1)) rfl rfl U (RL.nil (ag ?_))))))))
 exact⟨k-1,by omega,v7,acc++[ap.2.2.2.1],i+1,rfl,rfl,rfl,rfl,rfl,(hN.sub [2] (by decide) rfl),by omega,by rw[cZ _ bG,ha],by rw[UX,fG];rfl⟩
 refine RW.exit ?_
 iterate 2 refine bm ?_
 refine aO (ag (RW.seq ?_))
 have fk:i=l.length:=by omega
 refine RW.region (RL.ev (v:=va) rfl rfl U ?_)
 refine RL.op rfl rfl (aM Wj rfl rfl rfl ((cY _ acc _ (hN.sl 0 rfl) (by(try simp only[UX,Vs,Vt,Vc,U6,U3,Vw,UX,Vl]);omega)).mono ?_))
 rintro v8 w8 ⟨cx,aW⟩
 replace hN:ak w none_ w8 [_,_]:=hN.bx (l:=aK acc) cx aW
 clear cx aW
 refine RL.ev (v:=v8) rfl rfl aa (RL.nil (ag (RW.ret (aL (RV.tmp rfl) ?_))))
 rw[fk,Vz]at ha
 subst ha
 exact⟨hN.dA 0 rfl,hN.aE⟩
theorem qq (a:I5) (w:World):al UY 81 #[.agg #[.int .i64 a.1,.int .i64 a.2.1,.int .i64 a.2.2.1,.int .i64 a.2.2.2.1,.int .i64 a.2.2.2.2]] w fun r w'=>r=.int .i64 a.2.2.2.2∧Ext w w':=by
 refine al.start Tryz.func81 rfl (US rfl) ?_
 rw[bL]
 have hN:=ak.nil w none_
 refine RW.seq (RW.region ?_)
 refine RL.op rfl rfl (bq (cs:=[.int .i64 (a.1),.int .i64 (a.2.1),.int .i64 (a.2.2.1),.int .i64 (a.2.2.2.1),.int .i64 (a.2.2.2.2)]) rfl rfl hN ?_)
 clear hN
 intro g1 w1 (hN:ak w none_ w1 [_])
 refine RL.ev (v:=.int .i64 (0)) rfl rfl aa (RL.nil (ag (RW.seq (RW.region (RL.ev rfl rfl (ah U0 rfl dk (by decide) rfl) (RL.ev rfl rfl (ah Vj rfl bu (by decide) rfl) (RL.ev rfl rfl (aj UU rfl rfl (hN.aA 0 rfl) rfl) (RL.ev (v:=.int .i64 (a.2.2.2.2)) rfl rfl aa (RL.nil ?_)))))))))
 refine ag (RW.ret (aL (RV.tmp rfl) ?_))
 exact⟨rfl,hN.aE⟩
theorem qD (v:Value) (l:List I5) (w:World) (hv:Sm bC w v l) (hl:l.length≤67108864):al UY 76 #[v,.func (.func 81) #[] #[]] w fun r w'=>dy vb 5 w' w.heap.size r (aK (l.map fun a=>a.2.2.2.2))∧Ext w w':=by
 refine al.start W2 rfl (US rfl) ?_
 rw[cc]
 have hN:=ak.nil w none_
 refine RW.seq (RW.region (RL.ev (v:=.slice none 0 0) rfl rfl aa (RL.nil (ag (RW.seq (RW.region (RL.ev (v:=.slice none 0 0) rfl rfl aa (RL.nil (ag ?_)))))))))
 iterate 2 refine RW.seq ?_
 refine RW.region (RL.ev (v:=v) rfl rfl U ?_)
 have iF:=(hv.o.now hN).aY
 refine RL.ev rfl rfl (bQ Vg (hv.o.now hN) rfl) (RL.ev (v:=.int .i64 (0)) rfl rfl U (RL.nil (ag (RW.block ?_))))
 replace hN:=hN.cj vi 3
 refine RW.loop (fun k R0 bT=>∃va:Value,∃acc:List Int,∃i:Nat,R0 1=.func (.func 81) #[] #[]∧R0 5=va∧R0 8=v∧R0 9=.int .i64 ((l.length:Int))∧R0 10=.int .i64 ((i:Int))∧ak w none_ bT [.own vi 3 (va) (acc)]∧(i+k=l.length)∧(acc=(l.take i).map fun a=>a.2.2.2.2)∧(acc.length=i)) (l.length) ?_ ?_
 exact⟨.slice none 0 0,[],0,rfl,rfl,rfl,rfl,rfl,hN,by omega,rfl,rfl⟩
 clear hN
 rintro k R0 bT ⟨va,acc,i,bw,bM,cl,dc,cB,hN,eR,ha,fG⟩
 have bY:∃b6,R0=(aZ (aZ (aZ (aZ (aZ b6 1 _) 5 _) 8 _) 9 _) 10 _):=⟨R0,by rw[ai bw,ai bM,ai cl,ai dc,ai cB]⟩
 obtain⟨b6,rfl⟩:=bY
 clear bw bM cl dc cB
 refine RW.seq (RW.region (RL.ev rfl rfl (aV rfl rfl) (RL.nil (ag (RW.seq ?_)))))
 refine RW.aN _ rfl (fun bW=>?_) (fun bW=>?_)
 refine RW.skip (ag (RW.seq (RW.block (RW.seq (RW.region (RL.ev rfl rfl (bn Vg dj bb (by decide) (hv.o.now hN) rfl rfl (by omega) (by omega)) ?_))))))
 have aw:∃a_,(l)[i]?=some a_:=⟨_,UT (by omega)⟩
 obtain⟨ap,bG⟩:=aw
 refine RL.ev rfl rfl (bU (m:=i) (a:=ap) U0 rfl dj bb (by decide) (hv.o.now hN) rfl bG (cs:=[.int .i64 (ap.1),.int .i64 (ap.2.1),.int .i64 (ap.2.2.1),.int .i64 (ap.2.2.2.1),.int .i64 (ap.2.2.2.2)]) rfl) ?_
 refine RL.op rfl rfl (aX (cs:=[.int .i64 (0),.int .i64 (0),.int .i64 (0),.int .i64 (0),.int .i64 (0)]) ft rfl hN ?_)
 clear hN
 intro g3 w3 (hN:ak w none_ w3 [_,_])
 refine RL.op rfl rfl (aC (vs:=[.int .i64 (ap.1),.int .i64 (ap.2.1),.int .i64 (ap.2.2.1),.int .i64 (ap.2.2.2.1),.int .i64 (ap.2.2.2.2)]) dj rfl rfl rfl (by intro u hu;simp only[U9,U2,or_false]at hu;rcases hu with rfl|rfl|rfl|rfl|rfl<;>first|rfl) hN 0 rfl rfl ?_)
 clear hN
 intro w4 (hN:ak w none_ w4 [_,_])
 refine RL.nil (ag (RW.region (RL.ev (v:=va) rfl rfl U (RL.ev (v:=.func (.func 81) #[] #[]) rfl rfl U (RL.ev rfl rfl (aG (cs:=[.int .i64 (ap.1),.int .i64 (ap.2.1),.int .i64 (ap.2.2.1),.int .i64 (ap.2.2.2.1),.int .i64 (ap.2.2.2.2)]) U0 rfl dj rfl (hN.aA 0 rfl)) ?_)))))
 refine RL.op rfl rfl (bB (first:=#[]) (captured:=#[]) (v0:=.agg #[.int .i64 (ap.1),.int .i64 (ap.2.1),.int .i64 (ap.2.2.1),.int .i64 (ap.2.2.2.1),.int .i64 (ap.2.2.2.2)]) (args:=#[.agg #[.int .i64 (ap.1),.int .i64 (ap.2.1),.int .i64 (ap.2.2.1),.int .i64 (ap.2.2.2.1),.int .i64 (ap.2.2.2.2)]]) Tryz.func81 rfl rfl (by simp) rfl rfl ((qq ap _).mono ?_))
 rintro _ w5 ⟨rfl,aW⟩
 replace hN:=hN.ext aW
 clear aW
 refine RL.op rfl rfl (bS (enc:=vi) (l:=[ap.2.2.2.2]) (xs:=[.tmp 17]) UW bu mu rfl rfl (fun _=>rfl) rfl (by decide) (by decide) hN ?_)
 clear hN
 intro g6 w6 (hN:ak w none_ w6 [_,_,_])
 refine RL.op rfl rfl (bD UW fT rfl (fun _=>rfl) hN 2 rfl rfl (hN.sl 0 rfl) rfl (by rw[fG];simp only[U3,U6,Vc];omega) (by decide) ?_)
 clear hN
 intro v7 w7 (hN:ak w none_ w7 [_,_,_])
 refine RL.ev (v:=v7) rfl rfl aa (RL.nil (a7 (ag (RW.region (RL.ev rfl rfl (an rfl rfl rfl (bc (by omega) (by omega))) (RL.ev (v:=.int .i64 ((i:Int)+1)) rfl rfl U (RL.nil (ag ?_))))))))
 exact⟨k-1,by omega,v7,acc++[ap.2.2.2.2],i+1,rfl,rfl,rfl,rfl,rfl,(hN.sub [2] (by decide) rfl),by omega,by rw[cZ _ bG,ha],by rw[UX,fG];rfl⟩
 refine RW.exit ?_
 iterate 2 refine bm ?_
 refine aO (ag (RW.seq ?_))
 have fk:i=l.length:=by omega
 refine RW.region (RL.ev (v:=va) rfl rfl U ?_)
 refine RL.op rfl rfl (aM Wj rfl rfl rfl ((cY _ acc _ (hN.sl 0 rfl) (by(try simp only[UX,Vs,Vt,Vc,U6,U3,Vw,UX,Vl]);omega)).mono ?_))
 rintro v8 w8 ⟨cx,aW⟩
 replace hN:ak w none_ w8 [_,_]:=hN.bx (l:=aK acc) cx aW
 clear cx aW
 refine RL.ev (v:=v8) rfl rfl aa (RL.nil (ag (RW.ret (aL (RV.tmp rfl) ?_))))
 rw[fk,Vz]at ha
 subst ha
 exact⟨hN.dA 0 rfl,hN.aE⟩
theorem qx (a:I2) (w:World):al UY 85 #[.agg #[.int .i64 a.1,.int .i64 a.2]] w fun r w'=>r=.int .i64 a.1∧Ext w w':=by
 refine al.start Tryz.func85 rfl (US rfl) ?_
 rw[bL]
 have hN:=ak.nil w none_
 refine RW.seq (RW.region ?_)
 refine RL.op rfl rfl (bq (cs:=[.int .i64 (a.1),.int .i64 (a.2)]) rfl rfl hN ?_)
 clear hN
 intro g1 w1 (hN:ak w none_ w1 [_])
 refine RL.ev (v:=.int .i64 (0)) rfl rfl aa (RL.nil (ag (RW.seq (RW.region (RL.ev rfl rfl (ah VE rfl bu (by decide) rfl) (RL.ev rfl rfl (aj UU rfl rfl (hN.aA 0 rfl) rfl) (RL.ev (v:=.int .i64 (a.1)) rfl rfl aa (RL.nil (ag ?_)))))))))
 refine RW.ret (aL (RV.tmp rfl) ?_)
 exact⟨rfl,hN.aE⟩
theorem lA (v:Value) (l:List I2) (w:World) (hv:Sm bk w v l) (hl:l.length≤67108864):al UY 84 #[v,.func (.func 85) #[] #[]] w fun r w'=>dy vb 5 w' w.heap.size r (aK (l.map fun a=>a.1))∧Ext w w':=by
 refine al.start X7 rfl (US rfl) ?_
 rw[cc]
 have hN:=ak.nil w none_
 refine RW.seq (RW.region (RL.ev (v:=.slice none 0 0) rfl rfl aa (RL.nil (ag (RW.seq (RW.region (RL.ev (v:=.slice none 0 0) rfl rfl aa (RL.nil (ag ?_)))))))))
 iterate 2 refine RW.seq ?_
 refine RW.region (RL.ev (v:=v) rfl rfl U ?_)
 have iF:=(hv.o.now hN).aY
 refine RL.ev rfl rfl (bQ Vy (hv.o.now hN) rfl) (RL.ev (v:=.int .i64 (0)) rfl rfl U (RL.nil (ag (RW.block ?_))))
 replace hN:=hN.cj vi 3
 refine RW.loop (fun k R0 bT=>∃va:Value,∃acc:List Int,∃i:Nat,R0 1=.func (.func 85) #[] #[]∧R0 5=va∧R0 8=v∧R0 9=.int .i64 ((l.length:Int))∧R0 10=.int .i64 ((i:Int))∧ak w none_ bT [.own vi 3 (va) (acc)]∧(i+k=l.length)∧(acc=(l.take i).map fun a=>a.1)∧(acc.length=i)) (l.length) ?_ ?_
 exact⟨.slice none 0 0,[],0,rfl,rfl,rfl,rfl,rfl,hN,by omega,rfl,rfl⟩
 clear hN
 rintro k R0 bT ⟨va,acc,i,bw,bM,cl,dc,cB,hN,eR,ha,fG⟩
 have bY:∃b6,R0=(aZ (aZ (aZ (aZ (aZ b6 1 _) 5 _) 8 _) 9 _) 10 _):=⟨R0,by rw[ai bw,ai bM,ai cl,ai dc,ai cB]⟩
 obtain⟨b6,rfl⟩:=bY
 clear bw bM cl dc cB
 refine RW.seq (RW.region (RL.ev rfl rfl (aV rfl rfl) (RL.nil (ag (RW.seq ?_)))))
 refine RW.aN _ rfl (fun bW=>?_) (fun bW=>?_)
 refine RW.skip (ag (RW.seq (RW.block (RW.seq (RW.region (RL.ev rfl rfl (bn Vy eY bP (by decide) (hv.o.now hN) rfl rfl (by omega) (by omega)) ?_))))))
 have aw:∃a_,(l)[i]?=some a_:=⟨_,UT (by omega)⟩
 obtain⟨ap,bG⟩:=aw
 refine RL.ev rfl rfl (bU (m:=i) (a:=ap) VE rfl eY bP (by decide) (hv.o.now hN) rfl bG (cs:=[.int .i64 (ap.1),.int .i64 (ap.2)]) rfl) ?_
 refine RL.op rfl rfl (aX (cs:=[.int .i64 (0),.int .i64 (0)]) my rfl hN ?_)
 clear hN
 intro g3 w3 (hN:ak w none_ w3 [_,_])
 refine RL.op rfl rfl (aC (vs:=[.int .i64 (ap.1),.int .i64 (ap.2)]) eY rfl rfl rfl (by intro u hu;simp only[U9,U2,or_false]at hu;rcases hu with rfl|rfl<;>first|rfl) hN 0 rfl rfl ?_)
 clear hN
 intro w4 (hN:ak w none_ w4 [_,_])
 refine RL.nil (ag (RW.region (RL.ev (v:=va) rfl rfl U (RL.ev (v:=.func (.func 85) #[] #[]) rfl rfl U (RL.ev rfl rfl (aG (cs:=[.int .i64 (ap.1),.int .i64 (ap.2)]) VE rfl eY rfl (hN.aA 0 rfl)) ?_)))))
 refine RL.op rfl rfl (bB (first:=#[]) (captured:=#[]) (v0:=.agg #[.int .i64 (ap.1),.int .i64 (ap.2)]) (args:=#[.agg #[.int .i64 (ap.1),.int .i64 (ap.2)]]) Tryz.func85 rfl rfl (by simp) rfl rfl ((qx ap _).mono ?_))
 rintro _ w5 ⟨rfl,aW⟩
 replace hN:=hN.ext aW
 clear aW
 refine RL.op rfl rfl (bS (enc:=vi) (l:=[ap.1]) (xs:=[.tmp 17]) UW bu mu rfl rfl (fun _=>rfl) rfl (by decide) (by decide) hN ?_)
 clear hN
 intro g6 w6 (hN:ak w none_ w6 [_,_,_])
 refine RL.op rfl rfl (bD UW fT rfl (fun _=>rfl) hN 2 rfl rfl (hN.sl 0 rfl) rfl (by rw[fG];simp only[U3,U6,Vc];omega) (by decide) ?_)
 clear hN
 intro v7 w7 (hN:ak w none_ w7 [_,_,_])
 refine RL.ev (v:=v7) rfl rfl aa (RL.nil (a7 (ag (RW.region (RL.ev rfl rfl (an rfl rfl rfl (bc (by omega) (by omega))) (RL.ev (v:=.int .i64 ((i:Int)+1)) rfl rfl U (RL.nil (ag ?_))))))))
 exact⟨k-1,by omega,v7,acc++[ap.1],i+1,rfl,rfl,rfl,rfl,rfl,(hN.sub [2] (by decide) rfl),by omega,by rw[cZ _ bG,ha],by rw[UX,fG];rfl⟩
 refine RW.exit ?_
 iterate 2 refine bm ?_
 refine aO (ag (RW.seq ?_))
 have fk:i=l.length:=by omega
 refine RW.region (RL.ev (v:=va) rfl rfl U ?_)
 refine RL.op rfl rfl (aM Wj rfl rfl rfl ((cY _ acc _ (hN.sl 0 rfl) (by(try simp only[UX,Vs,Vt,Vc,U6,U3,Vw,UX,Vl]);omega)).mono ?_))
 rintro v8 w8 ⟨cx,aW⟩
 replace hN:ak w none_ w8 [_,_]:=hN.bx (l:=aK acc) cx aW
 clear cx aW
 refine RL.ev (v:=v8) rfl rfl aa (RL.nil (ag (RW.ret (aL (RV.tmp rfl) ?_))))
 rw[fk,Vz]at ha
 subst ha
 exact⟨hN.dA 0 rfl,hN.aE⟩
theorem qw (a:I2) (w:World):al UY 86 #[.agg #[.int .i64 a.1,.int .i64 a.2]] w fun r w'=>r=.int .i64 a.2∧Ext w w':=by
 refine al.start Tryz.func86 rfl (US rfl) ?_
 rw[bL]
 have hN:=ak.nil w none_
 refine RW.seq (RW.region ?_)
 refine RL.op rfl rfl (bq (cs:=[.int .i64 (a.1),.int .i64 (a.2)]) rfl rfl hN ?_)
 clear hN
 intro g1 w1 (hN:ak w none_ w1 [_])
 refine RL.ev (v:=.int .i64 (0)) rfl rfl aa (RL.nil (ag (RW.seq (RW.region (RL.ev rfl rfl (ah VE rfl bu (by decide) rfl) (RL.ev rfl rfl (aj UU rfl rfl (hN.aA 0 rfl) rfl) (RL.ev (v:=.int .i64 (a.2)) rfl rfl aa (RL.nil (ag ?_)))))))))
 refine RW.ret (aL (RV.tmp rfl) ?_)
 exact⟨rfl,hN.aE⟩
theorem lx (v:Value) (l:List I2) (w:World) (hv:Sm bk w v l) (hl:l.length≤67108864):al UY 84 #[v,.func (.func 86) #[] #[]] w fun r w'=>dy vb 5 w' w.heap.size r (aK (l.map fun a=>a.2))∧Ext w w':=by
 refine al.start X7 rfl (US rfl) ?_
 rw[cc]
 have hN:=ak.nil w none_
 refine RW.seq (RW.region (RL.ev (v:=.slice none 0 0) rfl rfl aa (RL.nil (ag (RW.seq (RW.region (RL.ev (v:=.slice none 0 0) rfl rfl aa (RL.nil (ag ?_)))))))))
 iterate 2 refine RW.seq ?_
 refine RW.region (RL.ev (v:=v) rfl rfl U ?_)
 have iF:=(hv.o.now hN).aY
 refine RL.ev rfl rfl (bQ Vy (hv.o.now hN) rfl) (RL.ev (v:=.int .i64 (0)) rfl rfl U (RL.nil (ag (RW.block ?_))))
 replace hN:=hN.cj vi 3
 refine RW.loop (fun k R0 bT=>∃va:Value,∃acc:List Int,∃i:Nat,R0 1=.func (.func 86) #[] #[]∧R0 5=va∧R0 8=v∧R0 9=.int .i64 ((l.length:Int))∧R0 10=.int .i64 ((i:Int))∧ak w none_ bT [.own vi 3 (va) (acc)]∧(i+k=l.length)∧(acc=(l.take i).map fun a=>a.2)∧(acc.length=i)) (l.length) ?_ ?_
 exact⟨.slice none 0 0,[],0,rfl,rfl,rfl,rfl,rfl,hN,by omega,rfl,rfl⟩
 clear hN
 rintro k R0 bT ⟨va,acc,i,bw,bM,cl,dc,cB,hN,eR,ha,fG⟩
 have bY:∃b6,R0=(aZ (aZ (aZ (aZ (aZ b6 1 _) 5 _) 8 _) 9 _) 10 _):=⟨R0,by rw[ai bw,ai bM,ai cl,ai dc,ai cB]⟩
 obtain⟨b6,rfl⟩:=bY
 clear bw bM cl dc cB
 refine RW.seq (RW.region (RL.ev rfl rfl (aV rfl rfl) (RL.nil (ag (RW.seq ?_)))))
 refine RW.aN _ rfl (fun bW=>?_) (fun bW=>?_)
 refine RW.skip (ag (RW.seq (RW.block (RW.seq (RW.region (RL.ev rfl rfl (bn Vy eY bP (by decide) (hv.o.now hN) rfl rfl (by omega) (by omega)) ?_))))))
 have aw:∃a_,(l)[i]?=some a_:=⟨_,UT (by omega)⟩
 obtain⟨ap,bG⟩:=aw
 refine RL.ev rfl rfl (bU (m:=i) (a:=ap) VE rfl eY bP (by decide) (hv.o.now hN) rfl bG (cs:=[.int .i64 (ap.1),.int .i64 (ap.2)]) rfl) ?_
 refine RL.op rfl rfl (aX (cs:=[.int .i64 (0),.int .i64 (0)]) my rfl hN ?_)
 clear hN
 intro g3 w3 (hN:ak w none_ w3 [_,_])
 refine RL.op rfl rfl (aC (vs:=[.int .i64 (ap.1),.int .i64 (ap.2)]) eY rfl rfl rfl (by intro u hu;simp only[U9,U2,or_false]at hu;rcases hu with rfl|rfl<;>first|rfl) hN 0 rfl rfl ?_)
 clear hN
 intro w4 (hN:ak w none_ w4 [_,_])
 refine RL.nil (ag (RW.region (RL.ev (v:=va) rfl rfl U (RL.ev (v:=.func (.func 86) #[] #[]) rfl rfl U (RL.ev rfl rfl (aG (cs:=[.int .i64 (ap.1),.int .i64 (ap.2)]) VE rfl eY rfl (hN.aA 0 rfl)) ?_)))))
 refine RL.op rfl rfl (bB (first:=#[]) (captured:=#[]) (v0:=.agg #[.int .i64 (ap.1),.int .i64 (ap.2)]) (args:=#[.agg #[.int .i64 (ap.1),.int .i64 (ap.2)]]) Tryz.func86 rfl rfl (by simp) rfl rfl ((qw ap _).mono ?_))
 rintro _ w5 ⟨rfl,aW⟩
 replace hN:=hN.ext aW
 clear aW
 refine RL.op rfl rfl (bS (enc:=vi) (l:=[ap.2]) (xs:=[.tmp 17]) UW bu mu rfl rfl (fun _=>rfl) rfl (by decide) (by decide) hN ?_)
 clear hN
 intro g6 w6 (hN:ak w none_ w6 [_,_,_])
 refine RL.op rfl rfl (bD UW fT rfl (fun _=>rfl) hN 2 rfl rfl (hN.sl 0 rfl) rfl (by rw[fG];simp only[U3,U6,Vc];omega) (by decide) ?_)
 clear hN
 intro v7 w7 (hN:ak w none_ w7 [_,_,_])
 refine RL.ev (v:=v7) rfl rfl aa (RL.nil (a7 (ag (RW.region (RL.ev rfl rfl (an rfl rfl rfl (bc (by omega) (by omega))) (RL.ev (v:=.int .i64 ((i:Int)+1)) rfl rfl U (RL.nil (ag ?_))))))))
 exact⟨k-1,by omega,v7,acc++[ap.2],i+1,rfl,rfl,rfl,rfl,rfl,(hN.sub [2] (by decide) rfl),by omega,by rw[cZ _ bG,ha],by rw[UX,fG];rfl⟩
 refine RW.exit ?_
 iterate 2 refine bm ?_
 refine aO (ag (RW.seq ?_))
 have fk:i=l.length:=by omega
 refine RW.region (RL.ev (v:=va) rfl rfl U ?_)
 refine RL.op rfl rfl (aM Wj rfl rfl rfl ((cY _ acc _ (hN.sl 0 rfl) (by(try simp only[UX,Vs,Vt,Vc,U6,U3,Vw,UX,Vl]);omega)).mono ?_))
 rintro v8 w8 ⟨cx,aW⟩
 replace hN:ak w none_ w8 [_,_]:=hN.bx (l:=aK acc) cx aW
 clear cx aW
 refine RL.ev (v:=v8) rfl rfl aa (RL.nil (ag (RW.ret (aL (RV.tmp rfl) ?_))))
 rw[fk,Vz]at ha
 subst ha
 exact⟨hN.dA 0 rfl,hN.aE⟩
end Go.Proofs.YtngkdkbpgoddlaaGreat
namespace Go.Proofs.YtngkdkbpgoddlaaGreat
open Go.RowKit Go.Rl
open Go.Gr Go.cP Go.hO
theorem vR (g:Nat) (n:Nat) (mv c0 c1 c2 c3 c4:Value) (ar:List I3) (w:World) (hb:fV w g [.int .i64 (n:Int),mv,c0,c1,c2,c3,c4] 211) (hm:Sm bf w mv ar):al UY 68 #[.pointer (some ⟨g,0,none⟩)] w fun r w'=>r=.int .u64 ((ig (n:Int) ar).toNat:Int)∧Ext w w':=by
 refine al.start Zt rfl (US rfl) ?_
 rw[bL]
 have hN:=ak.nil w none_
 refine RW.seq (RW.region (RL.ev (v:=.int .u64 (0)) rfl rfl aa (RL.nil (ag ?_))))
 iterate 2 refine RW.seq ?_
 refine RW.region (RL.ev (v:=.pointer (some ⟨g,0,none⟩)) rfl rfl U (RL.ev rfl rfl (cm (iI YG rfl rfl) (by simp)) (RL.nil (ag (RW.dD rfl (RW.skip (ag (RW.seq (RW.region ?_)))))))))
 refine RL.op rfl rfl (aX (cs:=[.int .u64 (0)]) Ji rfl hN ?_)
 clear hN
 intro g1 w1 (hN:ak w none_ w1 [_])
 refine RL.op rfl rfl (b9 Jv rfl rfl rfl rfl hN 0 rfl (US rfl) ?_)
 clear hN
 intro w2 (hN:ak w none_ w2 [_])
 refine RL.nil (ag (RW.seq (RW.region (RL.ev rfl rfl (c8 (vs:=[.pointer (some ⟨g1,0,none⟩)]) (xs:=[.tmp 3]) rfl rfl) (RL.ev (v:=.func (.func 153) #[] #[.pointer (some ⟨g1,0,none⟩)]) rfl rfl aa (RL.nil (ag (RW.seq (RW.region ?_)))))))))
 refine RL.ev (v:=.func (.func 153) #[] #[.pointer (some ⟨g1,0,none⟩)]) rfl rfl U (RL.ev (v:=.pointer (some ⟨g,0,none⟩)) rfl rfl U (RL.ev rfl rfl (bt rfl) (RL.ev rfl rfl (ah Wi rfl db (by decide) rfl) (RL.ev rfl rfl (ah U4 rfl bu (by decide) rfl) (RL.ev rfl rfl (aj UU rfl rfl (hb.ext hN.aE) rfl) ?_)))))
 refine RL.op rfl rfl (bB (first:=#[]) (captured:=#[.pointer (some ⟨g1,0,none⟩)]) (v0:=.int .i64 ((n:Int))) (args:=#[.int .i64 ((n:Int)),.pointer (some ⟨g1,0,none⟩)]) Yp rfl rfl (by simp) rfl rfl ((mL (14695981039346656037#64) (n:Int) g1 _ (hN.bZ (M:=[_]) [0] (by decide) rfl)).mono ?_))
 rintro _ w3 ⟨rfl,bE⟩
 replace hN:ak w none_ w3 [_]:=ak.bX (M:=[_]) (N:=[]) (hN.sub [0] (by decide) rfl) bE
 clear bE
 refine RL.nil (ag ?_)
 iterate 2 refine RW.seq ?_
 refine RW.region (RL.ev (v:=.pointer (some ⟨g,0,none⟩)) rfl rfl U (RL.ev rfl rfl (bt rfl) (RL.ev rfl rfl (ah Wi rfl db (by decide) rfl) (RL.ev rfl rfl (ah U4 rfl dY (by decide) rfl) (RL.ev rfl rfl (aj Va rfl rfl (hb.ext hN.aE) rfl) ?_)))))
 have qn:=(hm.o.now hN).aY
 refine RL.ev rfl rfl (bQ Va (hm.o.now hN) rfl) (RL.ev (v:=.int .i64 (0)) rfl rfl U (RL.nil (ag (RW.block ?_))))
 refine RW.loop (fun k R0 bT=>∃h:xe,∃i:Nat,R0 3=.pointer (some ⟨g1,0,none⟩)∧R0 4=.func (.func 153) #[] #[.pointer (some ⟨g1,0,none⟩)]∧R0 21=mv∧R0 22=.int .i64 ((ar.length:Int))∧R0 23=.int .i64 ((i:Int))∧ak w none_ bT [.aA g1 [.int .u64 (((h).toNat:Int))] 57]∧(i+k=ar.length)∧(h=(ar.take i).foldl pz (jU (14695981039346656037#64) (n:Int)))) (ar.length) ?_ ?_
 exact⟨jU (14695981039346656037#64) (n:Int),0,rfl,rfl,rfl,rfl,rfl,hN,by omega,rfl⟩
 clear hN
 rintro k R0 bT ⟨h,i,ca,cg,yx,jP,gG,hN,eR,hh⟩
 have bY:∃b6,R0=(aZ (aZ (aZ (aZ (aZ b6 3 _) 4 _) 21 _) 22 _) 23 _):=⟨R0,by rw[ai ca,ai cg,ai yx,ai jP,ai gG]⟩
 obtain⟨b6,rfl⟩:=bY
 clear ca cg yx jP gG
 refine RW.seq (RW.region (RL.ev rfl rfl (aV rfl rfl) (RL.nil (ag (RW.seq ?_)))))
 refine RW.aN _ rfl (fun bW=>?_) (fun bW=>?_)
 refine RW.skip (ag (RW.seq (RW.block (RW.seq (RW.region (RL.ev rfl rfl (bn Va cq aU (by decide) (hm.o.now hN) rfl rfl (by omega) (by omega)) ?_))))))
 have aw:∃a_,(ar)[i]?=some a_:=⟨_,UT (by omega)⟩
 obtain⟨ap,bG⟩:=aw
 refine RL.ev rfl rfl (bU (m:=i) (a:=ap) Ve rfl cq aU (by decide) (hm.o.now hN) rfl bG (cs:=[.int .i64 (ap.1),.int .i64 (ap.2.1),.int .i64 (ap.2.2)]) rfl) ?_
 refine RL.op rfl rfl (aX (cs:=[.int .i64 (0),.int .i64 (0),.int .i64 (0)]) eo rfl hN ?_)
 clear hN
 intro g5 w5 (hN:ak w none_ w5 [_,_])
 refine RL.op rfl rfl (aC (vs:=[.int .i64 (ap.1),.int .i64 (ap.2.1),.int .i64 (ap.2.2)]) cq rfl rfl rfl (by intro u hu;simp only[U9,U2,or_false]at hu;rcases hu with rfl|rfl|rfl<;>first|rfl) hN 0 rfl rfl ?_)
 clear hN
 intro w6 (hN:ak w none_ w6 [_,_])
 refine RL.nil (ag (RW.seq (RW.region (RL.ev (v:=.func (.func 153) #[] #[.pointer (some ⟨g1,0,none⟩)]) rfl rfl U (RL.ev rfl rfl (ah Ve rfl bu (by decide) rfl) (RL.ev rfl rfl (aj UU rfl rfl (hN.aA 0 rfl) rfl) ?_))))))
 refine RL.op rfl rfl (bB (first:=#[]) (captured:=#[.pointer (some ⟨g1,0,none⟩)]) (v0:=.int .i64 (ap.1)) (args:=#[.int .i64 (ap.1),.pointer (some ⟨g1,0,none⟩)]) Yp rfl rfl (by simp) rfl rfl ((mL (h) ap.1 g1 _ (hN.bZ (M:=[_]) [1] (by decide) rfl)).mono ?_))
 rintro _ w7 ⟨rfl,bE⟩
 replace hN:ak w none_ w7 [_,_]:=ak.bX (M:=[_]) (N:=[_]) (hN.sub [1,0] (by decide) rfl) bE
 clear bE
 refine RL.nil (ag (RW.seq (RW.region (RL.ev (v:=.func (.func 153) #[] #[.pointer (some ⟨g1,0,none⟩)]) rfl rfl U (RL.ev rfl rfl (ah Ve rfl bu (by decide) rfl) (RL.ev rfl rfl (aj UU rfl rfl (hN.aA 1 rfl) rfl) ?_))))))
 refine RL.op rfl rfl (bB (first:=#[]) (captured:=#[.pointer (some ⟨g1,0,none⟩)]) (v0:=.int .i64 (ap.2.1)) (args:=#[.int .i64 (ap.2.1),.pointer (some ⟨g1,0,none⟩)]) Yp rfl rfl (by simp) rfl rfl ((mL (jU (h) ap.1) ap.2.1 g1 _ (hN.bZ (M:=[_]) [0] (by decide) rfl)).mono ?_))
 rintro _ w8 ⟨rfl,bE⟩
 replace hN:ak w none_ w8 [_,_]:=ak.bX (M:=[_]) (N:=[_]) (hN.sub [0,1] (by decide) rfl) bE
 clear bE
 refine RL.nil (ag (RW.region (RL.ev (v:=.func (.func 153) #[] #[.pointer (some ⟨g1,0,none⟩)]) rfl rfl U (RL.ev rfl rfl (ah Ve rfl bu (by decide) rfl) (RL.ev rfl rfl (aj UU rfl rfl (hN.aA 1 rfl) rfl) ?_)))))
 refine RL.op rfl rfl (bB (first:=#[]) (captured:=#[.pointer (some ⟨g1,0,none⟩)]) (v0:=.int .i64 (ap.2.2)) (args:=#[.int .i64 (ap.2.2),.pointer (some ⟨g1,0,none⟩)]) Yp rfl rfl (by simp) rfl rfl ((mL (jU (jU (h) ap.1) ap.2.1) ap.2.2 g1 _ (hN.bZ (M:=[_]) [0] (by decide) rfl)).mono ?_))
 rintro _ w9 ⟨rfl,bE⟩
 replace hN:ak w none_ w9 [_,_]:=ak.bX (M:=[_]) (N:=[_]) (hN.sub [0,1] (by decide) rfl) bE
 clear bE
 refine RL.nil (a7 (ag (RW.region (RL.ev rfl rfl (an rfl rfl rfl (bc (by omega) (by omega))) (RL.ev (v:=.int .i64 ((i:Int)+1)) rfl rfl U (RL.nil (ag ?_)))))))
 exact⟨k-1,by omega,pz h ap,i+1,rfl,rfl,rfl,rfl,rfl,(hN.sub [0] (by decide) rfl),by omega,by rw[pB bG,hh]⟩
 refine RW.exit ?_
 iterate 2 refine bm ?_
 refine aO (ag (RW.seq (RW.region (RL.ev rfl rfl (aj VA rfl rfl (hN.aA 0 rfl) rfl) (RL.ev (v:=.int .u64 (((h).toNat:Int))) rfl rfl aa (RL.nil (ag (RW.ret (aL (RV.tmp rfl) ?_)))))))))
 rw[show i=ar.length by omega,Vz]at hh
 subst hh
 exact⟨rfl,hN.aE⟩
theorem zV (w:World):al UY 68 #[.pointer none] w fun r w'=>r=.int .u64 0∧Ext w w':=by
 refine al.start Zt rfl (US rfl) ?_
 rw[bL]
 have hN:=ak.nil w none_
 refine RW.seq (RW.region (RL.ev (v:=.int .u64 (0)) rfl rfl aa (RL.nil (ag ?_))))
 iterate 2 refine RW.seq ?_
 refine RW.region (RL.ev (v:=.pointer none) rfl rfl U (RL.ev rfl rfl (cS (iI YG rfl rfl) rfl) (RL.nil (ag (RW.bK rfl (RW.seq (RW.region (RL.ev (v:=.int .u64 (0)) rfl rfl aa (RL.nil ?_)))))))))
 refine ag (RW.ret (aD (aL (RV.tmp rfl) ?_)))
 exact⟨rfl,hN.aE⟩
theorem wA (n:Nat) (v:Value) (ar:List I3) (w:World) (hv:Sm bf w v ar) (EG:dw (n:Int) ar=0):al UY 28 #[.agg #[.int .i64 (n:Int),v]] w fun r w'=>dy vb 5 w' w.heap.size r (iD (n:Int) ar)∧Ext w w':=by
 refine al.start aaK rfl (US rfl) ?_
 rw[bL]
 have hN:=ak.nil w none_
 refine RW.seq (RW.region ?_)
 refine RL.op rfl rfl (bq (cs:=[.int .i64 ((n:Int)),v]) rfl rfl hN ?_)
 clear hN
 intro g1 w1 (hN:ak w none_ w1 [_])
 refine RL.ev (v:=.slice none 0 0) rfl rfl aa (RL.nil (ag (RW.seq (RW.region ?_))))
 refine RL.op rfl rfl (bS (enc:=vb) (l:=[80,82,49]) (xs:=[.const (.int .u8 (80)),.const (.int .u8 (82)),.const (.int .u8 (49))]) U1 lG Ie rfl rfl (fun _=>rfl) rfl (by decide) (by decide) hN ?_)
 clear hN
 intro g2 w2 (hN:ak w none_ w2 [_,_])
 refine RL.op rfl rfl (iX U1 Vu hN 0 rfl rfl rfl ?_)
 clear hN
 intro w3 (hN:ak w none_ w3 [_,_])
 refine RL.ev rfl rfl (aG (cs:=[.int .i64 ((n:Int)),v]) U4 rfl db rfl (hN.aA 1 rfl)) ?_
 refine RL.op rfl rfl (aM Zp rfl rfl rfl ((sM n _ ar _ (hv.o.now hN) EG).mono ?_))
 rintro _ w4 ⟨g4,Uq,d0,d1,d2,d3,d4,rfl,u1,GF,aW⟩
 replace hN:=hN.ext aW
 clear aW
 refine RL.op rfl rfl (aM Zt rfl rfl rfl ((vR g4 n _ _ _ _ _ _ ar _ u1 GF).mono ?_))
 rintro _ w5 ⟨rfl,aW⟩
 replace hN:=hN.ext aW
 clear aW
 have GH:=(ig (n:Int) ar).isLt
 refine RL.op rfl rfl (aR X5 rfl rfl rfl rfl ((ki ((ig (n:Int) ar).toNat) 8 _ (by omega)).mono ?_))
 rintro v6 w6 ⟨cx,aW⟩
 replace hN:ak w none_ w6 [_,_,_]:=hN.bx (l:=put ((ig (n:Int) ar).toNat) 8) cx aW
 clear cx aW
 refine RL.op rfl rfl (gQ U1 j4 rfl hN (hN.C5 1 rfl) rfl rfl (hN.sl 0 rfl) (by rw[bR];omega) rfl (by rw[bR];simp only[U6,Vc];omega) (by decide) ?_)
 clear hN
 intro v7 w7 (hN:ak w none_ w7 [_,_,_,_])
 refine RL.ev (v:=v7) rfl rfl aa (RL.nil (ag (RW.ret (aL (RV.tmp rfl) ?_))))
 exact⟨(hN.dA 0 rfl).lP (yL EG).symm,hN.aE⟩
theorem tV (n:Int) (v:Value) (ar:List I3) (w:World) (hv:Sm bf w v ar) (CB:¬dw n ar=0):al UY 28 #[.agg #[.int .i64 n,v]] w fun r w'=>dy vb 5 w' w.heap.size r (iD n ar)∧Ext w w':=by
 refine al.start aaK rfl (US rfl) ?_
 rw[bL]
 have hN:=ak.nil w none_
 refine RW.seq (RW.region ?_)
 refine RL.op rfl rfl (bq (cs:=[.int .i64 (n),v]) rfl rfl hN ?_)
 clear hN
 intro g1 w1 (hN:ak w none_ w1 [_])
 refine RL.ev (v:=.slice none 0 0) rfl rfl aa (RL.nil (ag (RW.seq (RW.region ?_))))
 refine RL.op rfl rfl (bS (enc:=vb) (l:=[80,82,49]) (xs:=[.const (.int .u8 (80)),.const (.int .u8 (82)),.const (.int .u8 (49))]) U1 lG Ie rfl rfl (fun _=>rfl) rfl (by decide) (by decide) hN ?_)
 clear hN
 intro g2 w2 (hN:ak w none_ w2 [_,_])
 refine RL.op rfl rfl (iX U1 Vu hN 0 rfl rfl rfl ?_)
 clear hN
 intro w3 (hN:ak w none_ w3 [_,_])
 refine RL.ev rfl rfl (aG (cs:=[.int .i64 (n),v]) U4 rfl db rfl (hN.aA 1 rfl)) ?_
 refine RL.op rfl rfl (aM Zp rfl rfl rfl ((wJ (n) _ ar _ (hv.o.now hN) CB).mono ?_))
 rintro _ w4 ⟨rfl,aW⟩
 replace hN:=hN.ext aW
 clear aW
 refine RL.op rfl rfl (aM Zt rfl rfl rfl ((zV _).mono ?_))
 rintro _ w5 ⟨rfl,aW⟩
 replace hN:=hN.ext aW
 clear aW
 have GH:=(ig n ar).isLt
 refine RL.op rfl rfl (aR X5 rfl rfl rfl rfl ((ki 0 8 _ (by omega)).mono ?_))
 rintro v6 w6 ⟨cx,aW⟩
 replace hN:ak w none_ w6 [_,_,_]:=hN.bx (l:=put 0 8) cx aW
 clear cx aW
 refine RL.op rfl rfl (gQ U1 j4 rfl hN (hN.C5 1 rfl) rfl rfl (hN.sl 0 rfl) (by rw[bR];omega) rfl (by rw[bR];simp only[U6,Vc];omega) (by decide) ?_)
 clear hN
 intro v7 w7 (hN:ak w none_ w7 [_,_,_,_])
 refine RL.ev (v:=v7) rfl rfl aa (RL.nil (ag (RW.ret (aL (RV.tmp rfl) ?_))))
 exact⟨(hN.dA 0 rfl).lP (uZ CB).symm,hN.aE⟩
theorem yK (n:Int) (v:Value) (ar:List I3) (w:World) (hv:Sm bf w v ar):al UY 28 #[.agg #[.int .i64 n,v]] w fun r w'=>dy vb 5 w' w.heap.size r (iD n ar)∧Ext w w':=by
  by_cases h:dw n ar=0
  · obtain ⟨h0, _⟩ := qO h
    obtain⟨q,rfl⟩:∃q:Nat,n=(q:Int):=⟨n.toNat,by omega⟩
    exact wA q v ar w hv h
  · exact tV n v ar w hv h
theorem kP (gf:FuncId) (fn:Func) (lb:Array Value) (M:List Atom) (Fx:(Nat→Prop)→World→Prop) (xs:List (List UInt8)) (hf:UY.funcs[gf]?=some fn) (hn:(fn.name == "runtime.NumGoroutine")=false) (hb:fn.body.isSome=true) (M7:sZ UY gf lb M Fx Wd y9 (Jd vb) xs) (ew:xs.flatten.length≤140737488351232) (w:World) (Dg:Fx (aT M) w) (hN:ak w (aT M) w M):al UY 29 #[.func (.func gf) #[] lb] w fun r w'=>ak w (aT M) w' [.own vb 5 r xs.flatten]:=by
 refine al.jV Zu rfl (US rfl) ?_
 rw[bL]
 replace hN:=hN.NN
 refine XW.seq (XW.region rfl (RL.ev (v:=.slice none 0 0) rfl rfl aa (RL.nil (bA (bj (XW.seq (XW.region rfl ?_)))))))
 refine RL.op rfl rfl (aX (cs:=[.slice none 0 0]) Jj rfl hN ?_)
 clear hN
 intro g1 w1 (hN:ak w (aT M) w1 [_,_])
 refine RL.nil (bA (bj ?_))
 iterate 2 refine XW.seq ?_
 replace hN:=hN.cj vb 5
 replace hN:ak w (aT M) w1 [.own vb 5 (.slice none 0 0) ([]),.aA g1 [.slice none 0 0] 38,.all M]:=hN
 refine XW.region rfl (RL.ev (v:=.func (.func gf) #[] lb) rfl rfl U (RL.nil (bA (bj (XW.block ?_)))))
 refine XW.zU (gf:=gf) (lb:=lb) (M:=M) (fun s:Value×List UInt8=>[.aA g1 [s.1] 38,.own vb 5 s.1 s.2]) (C2 UInt8) (.slice none 0 0,[]) (ak.comm (L:=M) (ak.unpack (hN.sub [2,1,0] (by decide) rfl))) rfl hf hn hb M7 C2.on Dg (fun _=>rfl) (by decide) ?_ ?_
 clear hN
 rintro l_ D_ Ij FF ⟨v_,a_⟩ ⟨xv,xb⟩ LW Ik wr eB HB Lu hN
 change XW _ _ _ _ _ _ (aZ _ 6 (xv)) _
 replace hN:ak wr FF wr [.obj l_ (.loop (Ij .ready none)),.obj D_ (.deferred (some [])),.aA g1 [v_] 38,.own vb 5 (v_) (a_)]:=hN
 have S3:Sl vb wr xv xb:=Lu.1
 have S4:py FF xv xb:=Lu.2
 have KP:a_.length+xb.length≤xs.flatten.length:=H6 eB rfl HB
 refine XW.region rfl (RL.ev (v:=xv) rfl rfl aa (RL.nil (bA (sV ?_))))
 clear hN
 intro w2 (hN:ak wr FF w2 [.obj l_ (.loop (Ij .busy none)),.obj D_ (.deferred (some [])),.aA g1 [v_] 38,.own vb 5 (v_) (a_)])
 refine XW.block (XW.region rfl (RL.ev rfl rfl (aj U1 rfl rfl (hN.aA 2 rfl) rfl) (RL.ev (v:=xv) rfl rfl U ?_)))
 refine RL.op rfl rfl (bD U1 j4 rfl hZ hN 3 rfl rfl (S3.off S4 hN.mod) rfl (by(try simp only[UX,Vs,Vt,Vc,U6,U3,Vw,UX,Vl]);omega) (by decide) ?_)
 clear hN
 intro v3 w3 (hN:ak wr FF w3 [_,_,_,_])
 refine RL.op rfl rfl (b9 fq rfl rfl (hN.sl 3 rfl).cO (hN.sl 3 rfl).bJ hN 2 rfl (US rfl) ?_)
 clear hN
 intro w4 (hN:ak wr FF w4 [_,_,_,_])
 refine RL.nil (bA (dX ?_))
 exact vH ⟨v3,a_++xb⟩ ⟨rfl,rfl⟩ (hN.sub [0,1,2,3] (by decide) rfl)
 clear hN
 rintro l_ D_ o_ ⟨v_,a_⟩ w5 eB hN
 replace hN:ak w (aT M) w5 [.obj l_ o_,.obj D_ (.deferred (some [])),.aA g1 [v_] 38,.own vb 5 (v_) (a_)]:=hN
 have LB:a_=xs.flatten:=BD eB
 refine dX (bj (XW.seq (XW.region rfl (RL.ev rfl rfl (aj U1 rfl rfl (hN.aA 2 rfl) rfl) (RL.ev (v:=v_) rfl rfl aa (RL.nil (bA (bj (XW.ret ?_)))))))))
 refine Dw hN (.inl rfl) 1 rfl ?_
 clear hN
 intro w6 (hN:ak w (aT M) w6 [_,_,_,_])
 refine⟨_,RV.tmp rfl,?_⟩
 rw[←LB]
 exact hN.sub [3] (by decide) rfl
end Go.Proofs.YtngkdkbpgoddlaaGreat
namespace Go.Proofs.YtngkdkbpgoddlaaGreat
open Go.RowKit Go.Rl
open Go.Gr Go.cP Go.hO
theorem vY {σ:Type} (l:Nat) (C:Bool→σ→Atom) (T:σ→(Value×List UInt8)→Bool→σ→Prop) (s0:σ) {n:Int} {ar:List I3} {F:Nat→Prop} (w:World) (hT:∀s x b s',T s x b s'→b=true) (hY:nf UY l C T Wd s0 (ij n ar) (Jd vb) y9) (gb:Nat) (v:Value) (hN:ak w F w [C true s0,.aA gb [.int .i64 n,v] 24]) (hv:qZ F bf w v ar) (fG:ar.length≤67108864):al UY 69 #[.func (.yield l) #[] #[],.pointer (some ⟨gb,0,none⟩)] w fun _ w'=>∃s',tc T Wd s0 (ij n ar) s'∧ak w F w' [C true s']:=by
 refine al.jV Tryz.func69 rfl (US rfl) ?_
 rw[cc]
 have hg:dW T Wd s0 (ij n ar) s0 (ij n ar):=dW.start
 refine XW.qM (XL.ev (v:=.func (.yield l) #[] #[]) rfl rfl rfl U (XL.ev rfl rfl rfl (ah U4 rfl bu (by decide) rfl) (XL.ev rfl rfl rfl (aj UU rfl rfl (hN.aA 1 rfl) rfl) ?_)))
 refine XL.op rfl rfl (k7.of rfl (bS (enc:=vi) (l:=[n]) (xs:=[.tmp 5]) UW bu mu rfl rfl (fun _=>rfl) rfl (by decide) (by decide) hN ?_))
 clear hN
 intro g1 w1 (hN:ak w F w1 [_,_,_])
 refine XL.op rfl rfl (k7.of rfl (aM Wj rfl rfl rfl ((cY _ ([n]) _ (hN.sl 0 rfl) (by(try simp only[UX,Vs,Vt,Vc,U6,U3,Vw,UX,Vl]);omega)).mono ?_)))
 rintro v2 w2 ⟨cx,aW⟩
 replace hN:ak w F w2 [_,_,_,_]:=hN.bx (l:=aK ([n])) cx aW
 clear cx aW
 refine XL.op rfl rfl (cy rfl rfl ((dW.yield hT hY (v2,(aK ([n]))) hg (hN.bZ (M:=[_]) [2] (by decide) rfl) ⟨(hN.sl 0 rfl),hN.j1 (M:=[_]) [2] rfl 0 rfl rfl (fun k hk=>hk)⟩).mono ?_))
 rintro _ w3 ⟨s3,rfl,fD,bE⟩
 replace hg:=fD
 clear fD
 replace hN:ak w F w3 [_,_,_,_]:=ak.bX (M:=[_]) (N:=[_,_,_]) (hN.sub [2,0,1,3] (by decide) rfl) bE
 clear bE
 refine XL.ev (v:=.bool true) rfl rfl rfl U (XL.aI (v:=.func (.yield l) #[] #[]) rfl rfl (by decide) rfl rfl rfl U (XL.aI rfl rfl (by decide) rfl rfl rfl (ah U4 rfl dY (by decide) rfl) (XL.aI rfl rfl (by decide) rfl rfl rfl (aj Va rfl rfl (hN.aA 3 rfl) rfl) ?_)))
 refine XL.on rfl rfl (by decide) rfl rfl (k7.of rfl (aR X6 rfl rfl rfl rfl ((uf _ ar _ (hv.now hN) (by omega)).mono ?_)))
 rintro v4 w4 ⟨cx,aW⟩
 replace hN:ak w F w4 [_,_,_,_,_]:=hN.bx (l:=aK (ar.map fun a=>a.1)) cx aW
 clear cx aW
 refine XL.on rfl rfl (by decide) rfl rfl (cy rfl rfl ((dW.yield hT hY (v4,(aK (ar.map fun a=>a.1))) hg (hN.bZ (M:=[_]) [1] (by decide) rfl) ⟨(hN.sl 0 rfl),hN.j1 (M:=[_]) [1] rfl 0 rfl rfl (fun k hk=>hk)⟩).mono ?_))
 rintro _ w5 ⟨s5,rfl,fD,bE⟩
 replace hg:=fD
 clear fD
 replace hN:ak w F w5 [_,_,_,_,_]:=ak.bX (M:=[_]) (N:=[_,_,_,_]) (hN.sub [1,0,2,3,4] (by decide) rfl) bE
 clear bE
 refine XL.ev (v:=.bool true) rfl rfl rfl (ao rfl) (XL.ev (v:=.bool true) rfl rfl rfl U (XL.aI (v:=.func (.yield l) #[] #[]) rfl rfl (by decide) rfl rfl rfl U (XL.aI rfl rfl (by decide) rfl rfl rfl (ah U4 rfl dY (by decide) rfl) (XL.aI rfl rfl (by decide) rfl rfl rfl (aj Va rfl rfl (hN.aA 4 rfl) rfl) ?_))))
 refine XL.on rfl rfl (by decide) rfl rfl (k7.of rfl (aR X6 rfl rfl rfl rfl ((ue _ ar _ (hv.now hN) (by omega)).mono ?_)))
 rintro v6 w6 ⟨cx,aW⟩
 replace hN:ak w F w6 [_,_,_,_,_,_]:=hN.bx (l:=aK (ar.map fun a=>a.2.1)) cx aW
 clear cx aW
 refine XL.on rfl rfl (by decide) rfl rfl (cy rfl rfl ((dW.yield hT hY (v6,(aK (ar.map fun a=>a.2.1))) hg (hN.bZ (M:=[_]) [1] (by decide) rfl) ⟨(hN.sl 0 rfl),hN.j1 (M:=[_]) [1] rfl 0 rfl rfl (fun k hk=>hk)⟩).mono ?_))
 rintro _ w7 ⟨s7,rfl,fD,bE⟩
 replace hg:=fD
 clear fD
 replace hN:ak w F w7 [_,_,_,_,_,_]:=ak.bX (M:=[_]) (N:=[_,_,_,_,_]) (hN.sub [1,0,2,3,4,5] (by decide) rfl) bE
 clear bE
 refine XL.ev (v:=.bool true) rfl rfl rfl (ao rfl) (XL.ev (v:=.bool true) rfl rfl rfl U (XL.aI (v:=.func (.yield l) #[] #[]) rfl rfl (by decide) rfl rfl rfl U (XL.aI rfl rfl (by decide) rfl rfl rfl (ah U4 rfl dY (by decide) rfl) (XL.aI rfl rfl (by decide) rfl rfl rfl (aj Va rfl rfl (hN.aA 5 rfl) rfl) ?_))))
 refine XL.on rfl rfl (by decide) rfl rfl (k7.of rfl (aR X6 rfl rfl rfl rfl ((ud _ ar _ (hv.now hN) (by omega)).mono ?_)))
 rintro v8 w8 ⟨cx,aW⟩
 replace hN:ak w F w8 [_,_,_,_,_,_,_]:=hN.bx (l:=aK (ar.map fun a=>a.2.2)) cx aW
 clear cx aW
 refine XL.on rfl rfl (by decide) rfl rfl (cy rfl rfl ((dW.yield hT hY (v8,(aK (ar.map fun a=>a.2.2))) hg (hN.bZ (M:=[_]) [1] (by decide) rfl) ⟨(hN.sl 0 rfl),hN.j1 (M:=[_]) [1] rfl 0 rfl rfl (fun k hk=>hk)⟩).mono ?_))
 rintro _ w9 ⟨s9,rfl,fD,bE⟩
 replace hg:=fD
 clear fD
 replace hN:ak w F w9 [_,_,_,_,_,_,_]:=ak.bX (M:=[_]) (N:=[_,_,_,_,_,_]) (hN.sub [1,0,2,3,4,5,6] (by decide) rfl) bE
 clear bE
 refine XL.ev (v:=.bool true) rfl rfl rfl (ao rfl) (XL.nil (uq (RV.zero rfl) ?_))
 exact⟨_,hg.done,hN.sub [0] (by decide) rfl⟩
theorem z0 (n:Int) (ar:List I3) (gb:Nat) (v:Value) (fG:ar.length≤67108864):sZ UY 69 #[.pointer (some ⟨gb,0,none⟩)] [.aA gb [.int .i64 n,v] 24] (fun F w=>qZ F bf w v ar) Wd y9 (Jd vb) (ij n ar):=by
  intro σ l C T s0 w0 w F hT hY Dg hN
  have h1:=hN.bZ (M:=[_,_]) [0,1] (by decide) rfl
  refine(vY l C T s0 w hT hY gb v h1 (qZ.step ny Dg hN) fG).mono ?_
  rintro _ w' ⟨s',hr,h2⟩
  exact⟨s',hr,ak.bX (M:=[_,_]) (N:=[]) hN h2⟩
theorem tM {σ:Type} (l:Nat) (C:Bool→σ→Atom) (T:σ→(Value×List UInt8)→Bool→σ→Prop) (s0:σ) {rk:List Int} {ws:List I5} {F:Nat→Prop} (w:World) (hT:∀s x b s',T s x b s'→b=true) (hY:nf UY l C T Wd s0 (eL rk ws) (Jd vb) y9) (gb:Nat) (rv wv:Value) (hN:ak w F w [C true s0,.aA gb [rv,wv] 28]) (hr:nR F vI w rv rk) (hw:qZ F bC w wv ws) (qS:rk.length≤67108864) (JZ:ws.length≤67108864):al UY 75 #[.func (.yield l) #[] #[],.pointer (some ⟨gb,0,none⟩)] w fun _ w'=>∃s',tc T Wd s0 (eL rk ws) s'∧ak w F w' [C true s']:=by
 refine al.jV Tryz.func75 rfl (US rfl) ?_
 rw[cc]
 have hg:dW T Wd s0 (eL rk ws) s0 (eL rk ws):=dW.start
 refine XW.qM (XL.ev (v:=.func (.yield l) #[] #[]) rfl rfl rfl U (XL.ev rfl rfl rfl (ah Vb rfl b7 (by decide) rfl) (XL.ev rfl rfl rfl (aj UW rfl rfl (hN.aA 1 rfl) rfl) ?_)))
 refine XL.op rfl rfl (k7.of rfl (aM Wj rfl rfl rfl ((cY _ rk _ (hr.now hN) (by(try simp only[UX,Vs,Vt,Vc,U6,U3,Vw,UX,Vl]);omega)).mono ?_)))
 rintro v1 w1 ⟨cx,aW⟩
 replace hN:ak w F w1 [_,_,_]:=hN.bx (l:=aK rk) cx aW
 clear cx aW
 refine XL.op rfl rfl (cy rfl rfl ((dW.yield hT hY (v1,(aK rk)) hg (hN.bZ (M:=[_]) [1] (by decide) rfl) ⟨(hN.sl 0 rfl),hN.j1 (M:=[_]) [1] rfl 0 rfl rfl (fun k hk=>hk)⟩).mono ?_))
 rintro _ w2 ⟨s2,rfl,fD,bE⟩
 replace hg:=fD
 clear fD
 replace hN:ak w F w2 [_,_,_]:=ak.bX (M:=[_]) (N:=[_,_]) (hN.sub [1,0,2] (by decide) rfl) bE
 clear bE
 refine XL.ev (v:=.bool true) rfl rfl rfl U (XL.aI (v:=.func (.yield l) #[] #[]) rfl rfl (by decide) rfl rfl rfl U (XL.aI rfl rfl (by decide) rfl rfl rfl (ah Vb rfl fJ (by decide) rfl) (XL.aI rfl rfl (by decide) rfl rfl rfl (aj Vg rfl rfl (hN.aA 2 rfl) rfl) ?_)))
 refine XL.on rfl rfl (by decide) rfl rfl (k7.of rfl (aR W2 rfl rfl rfl rfl ((qH _ ws _ (hw.now hN) (by omega)).mono ?_)))
 rintro v3 w3 ⟨cx,aW⟩
 replace hN:ak w F w3 [_,_,_,_]:=hN.bx (l:=aK (ws.map fun a=>a.1)) cx aW
 clear cx aW
 refine XL.on rfl rfl (by decide) rfl rfl (cy rfl rfl ((dW.yield hT hY (v3,(aK (ws.map fun a=>a.1))) hg (hN.bZ (M:=[_]) [1] (by decide) rfl) ⟨(hN.sl 0 rfl),hN.j1 (M:=[_]) [1] rfl 0 rfl rfl (fun k hk=>hk)⟩).mono ?_))
 rintro _ w4 ⟨s4,rfl,fD,bE⟩
 replace hg:=fD
 clear fD
 replace hN:ak w F w4 [_,_,_,_]:=ak.bX (M:=[_]) (N:=[_,_,_]) (hN.sub [1,0,2,3] (by decide) rfl) bE
 clear bE
 refine XL.ev (v:=.bool true) rfl rfl rfl (ao rfl) (XL.ev (v:=.bool true) rfl rfl rfl U (XL.aI (v:=.func (.yield l) #[] #[]) rfl rfl (by decide) rfl rfl rfl U (XL.aI rfl rfl (by decide) rfl rfl rfl (ah Vb rfl fJ (by decide) rfl) (XL.aI rfl rfl (by decide) rfl rfl rfl (aj Vg rfl rfl (hN.aA 3 rfl) rfl) ?_))))
 refine XL.on rfl rfl (by decide) rfl rfl (k7.of rfl (aR W2 rfl rfl rfl rfl ((qG _ ws _ (hw.now hN) (by omega)).mono ?_)))
 rintro v5 w5 ⟨cx,aW⟩
 replace hN:ak w F w5 [_,_,_,_,_]:=hN.bx (l:=aK (ws.map fun a=>a.2.1)) cx aW
 clear cx aW
 refine XL.on rfl rfl (by decide) rfl rfl (cy rfl rfl ((dW.yield hT hY (v5,(aK (ws.map fun a=>a.2.1))) hg (hN.bZ (M:=[_]) [1] (by decide) rfl) ⟨(hN.sl 0 rfl),hN.j1 (M:=[_]) [1] rfl 0 rfl rfl (fun k hk=>hk)⟩).mono ?_))
 rintro _ w6 ⟨s6,rfl,fD,bE⟩
 replace hg:=fD
 clear fD
 replace hN:ak w F w6 [_,_,_,_,_]:=ak.bX (M:=[_]) (N:=[_,_,_,_]) (hN.sub [1,0,2,3,4] (by decide) rfl) bE
 clear bE
 refine XL.ev (v:=.bool true) rfl rfl rfl (ao rfl) (XL.ev (v:=.bool true) rfl rfl rfl U (XL.aI (v:=.func (.yield l) #[] #[]) rfl rfl (by decide) rfl rfl rfl U (XL.aI rfl rfl (by decide) rfl rfl rfl (ah Vb rfl fJ (by decide) rfl) (XL.aI rfl rfl (by decide) rfl rfl rfl (aj Vg rfl rfl (hN.aA 4 rfl) rfl) ?_))))
 refine XL.on rfl rfl (by decide) rfl rfl (k7.of rfl (aR W2 rfl rfl rfl rfl ((qF _ ws _ (hw.now hN) (by omega)).mono ?_)))
 rintro v7 w7 ⟨cx,aW⟩
 replace hN:ak w F w7 [_,_,_,_,_,_]:=hN.bx (l:=aK (ws.map fun a=>a.2.2.1)) cx aW
 clear cx aW
 refine XL.on rfl rfl (by decide) rfl rfl (cy rfl rfl ((dW.yield hT hY (v7,(aK (ws.map fun a=>a.2.2.1))) hg (hN.bZ (M:=[_]) [1] (by decide) rfl) ⟨(hN.sl 0 rfl),hN.j1 (M:=[_]) [1] rfl 0 rfl rfl (fun k hk=>hk)⟩).mono ?_))
 rintro _ w8 ⟨s8,rfl,fD,bE⟩
 replace hg:=fD
 clear fD
 replace hN:ak w F w8 [_,_,_,_,_,_]:=ak.bX (M:=[_]) (N:=[_,_,_,_,_]) (hN.sub [1,0,2,3,4,5] (by decide) rfl) bE
 clear bE
 refine XL.ev (v:=.bool true) rfl rfl rfl (ao rfl) (XL.ev (v:=.bool true) rfl rfl rfl U (XL.aI (v:=.func (.yield l) #[] #[]) rfl rfl (by decide) rfl rfl rfl U (XL.aI rfl rfl (by decide) rfl rfl rfl (ah Vb rfl fJ (by decide) rfl) (XL.aI rfl rfl (by decide) rfl rfl rfl (aj Vg rfl rfl (hN.aA 5 rfl) rfl) ?_))))
 refine XL.on rfl rfl (by decide) rfl rfl (k7.of rfl (aR W2 rfl rfl rfl rfl ((qE _ ws _ (hw.now hN) (by omega)).mono ?_)))
 rintro v9 w9 ⟨cx,aW⟩
 replace hN:ak w F w9 [_,_,_,_,_,_,_]:=hN.bx (l:=aK (ws.map fun a=>a.2.2.2.1)) cx aW
 clear cx aW
 refine XL.on rfl rfl (by decide) rfl rfl (cy rfl rfl ((dW.yield hT hY (v9,(aK (ws.map fun a=>a.2.2.2.1))) hg (hN.bZ (M:=[_]) [1] (by decide) rfl) ⟨(hN.sl 0 rfl),hN.j1 (M:=[_]) [1] rfl 0 rfl rfl (fun k hk=>hk)⟩).mono ?_))
 rintro _ jH ⟨SM,rfl,fD,bE⟩
 replace hg:=fD
 clear fD
 replace hN:ak w F jH [_,_,_,_,_,_,_]:=ak.bX (M:=[_]) (N:=[_,_,_,_,_,_]) (hN.sub [1,0,2,3,4,5,6] (by decide) rfl) bE
 clear bE
 refine XL.ev (v:=.bool true) rfl rfl rfl (ao rfl) (XL.ev (v:=.bool true) rfl rfl rfl U (XL.aI (v:=.func (.yield l) #[] #[]) rfl rfl (by decide) rfl rfl rfl U (XL.aI rfl rfl (by decide) rfl rfl rfl (ah Vb rfl fJ (by decide) rfl) (XL.aI rfl rfl (by decide) rfl rfl rfl (aj Vg rfl rfl (hN.aA 6 rfl) rfl) ?_))))
 refine XL.on rfl rfl (by decide) rfl rfl (k7.of rfl (aR W2 rfl rfl rfl rfl ((qD _ ws _ (hw.now hN) (by omega)).mono ?_)))
 rintro v11 jj ⟨cx,aW⟩
 replace hN:ak w F jj [_,_,_,_,_,_,_,_]:=hN.bx (l:=aK (ws.map fun a=>a.2.2.2.2)) cx aW
 clear cx aW
 refine XL.on rfl rfl (by decide) rfl rfl (cy rfl rfl ((dW.yield hT hY (v11,(aK (ws.map fun a=>a.2.2.2.2))) hg (hN.bZ (M:=[_]) [1] (by decide) rfl) ⟨(hN.sl 0 rfl),hN.j1 (M:=[_]) [1] rfl 0 rfl rfl (fun k hk=>hk)⟩).mono ?_))
 rintro _ iP ⟨jL,rfl,fD,bE⟩
 replace hg:=fD
 clear fD
 replace hN:ak w F iP [_,_,_,_,_,_,_,_]:=ak.bX (M:=[_]) (N:=[_,_,_,_,_,_,_]) (hN.sub [1,0,2,3,4,5,6,7] (by decide) rfl) bE
 clear bE
 refine XL.ev (v:=.bool true) rfl rfl rfl (ao rfl) (XL.nil (uq (RV.zero rfl) ?_))
 exact⟨_,hg.done,hN.sub [0] (by decide) rfl⟩
theorem x6 (rk:List Int) (ws:List I5) (gb:Nat) (rv wv:Value) (qS:rk.length≤67108864) (JZ:ws.length≤67108864):sZ UY 75 #[.pointer (some ⟨gb,0,none⟩)] [.aA gb [rv,wv] 28] (fun F w=>nR F vI w rv rk∧qZ F bC w wv ws) Wd y9 (Jd vb) (eL rk ws):=by
  intro σ l C T s0 w0 w F hT hY Dg hN
  have h1:=hN.bZ (M:=[_,_]) [0,1] (by decide) rfl
  refine(tM l C T s0 w hT hY gb rv wv h1 (Dg.1.step hN) (qZ.step sf Dg.2 hN) qS JZ).mono ?_
  rintro _ w' ⟨s',hr,h2⟩
  exact⟨s',hr,ak.bX (M:=[_,_]) (N:=[]) hN h2⟩
theorem lN {σ:Type} (l:Nat) (C:Bool→σ→Atom) (T:σ→(Value×List UInt8)→Bool→σ→Prop) (s0:σ) {XS:List (List UInt8)} {F:Nat→Prop} (w:World) (hT:∀s x b s',T s x b s'→b=true) (hY:nf UY l C T Wd s0 XS (Jd vb) y9) (gy:Nat) (s:σ) (todo:List (List UInt8)) (v:Value) (hs:List Hd) (ls:List (List Int)) (hg:dW T Wd s0 XS s (ct ls++todo)) (hN:ak w F w [C true s,.aA gy [.func (.yield l) #[] #[]] 59]) (h1:nR F vh w v hs) (ef:ep F vI w hs ls) (wu:ls.length≤67108864) (qS:∀r∈ls,r.length≤67108864):al UY 83 #[v,.pointer (some ⟨gy,0,none⟩)] w fun _ w'=>∃s',dW T Wd s0 XS s' todo∧ak w F w' [C true s',.aA gy [.func (.yield l) #[] #[]] 59]:=by
 refine al.jV Zv rfl (US rfl) ?_
 rw[cc]
 have Cy:=ef.1
 refine XW.seq (XW.oD rfl (fun u=>ak w F u [.aA gy [.func (.yield l) #[] #[]] 59]) ?_)
 replace hN:=hN.ext (Ext.drew w)
 refine XA.take (i:=0) rfl rfl (by kernel_rfl) (by kernel_rfl) (by kernel_rfl) (by repeat (first|exact fP|refine fN ?_|refine fQ ?_|refine fO ?_)) rfl (hN.sub [1] (by decide) rfl) (fun w hS=>(aj WB rfl rfl (hS.aA 0 rfl) rfl)) ?_
 refine XA.take (v:=v) (i:=1) rfl rfl (by kernel_rfl) (by kernel_rfl) (by kernel_rfl) (by repeat (first|exact fP|refine fN ?_|refine fQ ?_|refine fO ?_)) rfl (hN.sub [1] (by decide) rfl) (fun w hS=>U) ?_
 have iF:=(h1.now hN).aY
 refine XA.take (i:=2) rfl rfl (by kernel_rfl) (by kernel_rfl) (by kernel_rfl) (by repeat (first|exact fP|refine fN ?_|refine fQ ?_|refine fO ?_)) rfl (hN.sub [1] (by decide) rfl) (fun w hS=>(aQ U7 (h1.now hS) rfl)) ?_
 refine XA.only (i:=3) (by kernel_rfl) rfl rfl rfl (k7.of rfl (bS (enc:=vi) (l:=[(hs.length:Int)]) (xs:=[.tmp 7]) UW bu mu rfl rfl (fun _=>rfl) rfl (by decide) (by decide) hN ?_))
 clear hN
 intro g2 w2 (hN:ak w F w2 [_,_,_])
 refine⟨(hN.sub [2] (by decide) rfl),?_⟩
 refine XA.only (i:=4) (by kernel_rfl) rfl rfl rfl (k7.of rfl (aM Wj rfl rfl rfl ((cY _ [(ls.length:Int)] _ (by have h_:=(hN.sl 0 rfl);rw[Cy]at h_;exact h_) (by simp)).mono ?_)))
 rintro v3 w3 ⟨cx,aW⟩
 replace hN:ak w F w3 [_,_,_,_]:=hN.bx (l:=aK [(ls.length:Int)]) cx aW
 clear cx aW
 refine⟨(hN.sub [3] (by decide) rfl),?_⟩
 refine XA.only (i:=5) (by kernel_rfl) rfl rfl rfl (cy rfl rfl ((dW.yield hT hY (v3,(aK [(ls.length:Int)])) hg (hN.bZ (M:=[_]) [2] (by decide) rfl) ⟨(hN.sl 0 rfl),hN.j1 (M:=[_]) [2] rfl 0 rfl rfl (fun k hk=>hk)⟩).mono ?_))
 rintro _ w4 ⟨s4,rfl,fD,bE⟩
 replace hg:=fD
 clear fD
 replace hN:ak w F w4 [_,_,_,_]:=ak.bX (M:=[_]) (N:=[_,_,_]) (hN.sub [2,0,1,3] (by decide) rfl) bE
 clear bE
 refine⟨(hN.sub [3] (by decide) rfl),?_⟩
 refine XA.done (by kernel_rfl) (bj (XW.seq (XW.region rfl (RL.ev (v:=v) rfl rfl U (RL.ev rfl rfl (aQ U7 (h1.now hN) rfl) (RL.ev (v:=.int .i64 (0)) rfl rfl U (RL.nil (bA (bj ?_)))))))))
 refine XW.block ?_
 refine XW.loop (fun k R0 bT=>∃si:σ,∃i:Nat,R0 1=.pointer (some ⟨gy,0,none⟩)∧R0 11=v∧R0 12=.int .i64 ((hs.length:Int))∧R0 13=.int .i64 ((i:Int))∧ak w F bT [C true si,.aA gy [.func (.yield l) #[] #[]] 59]∧(i+k=hs.length)∧(dW T Wd s0 XS si ((ls.drop i).map aK++todo))) (hs.length) ?_ ?_
 exact⟨s4,0,rfl,rfl,rfl,rfl,(hN.sub [0,3] (by decide) rfl),by omega,hg⟩
 clear hN
 rintro k R0 bT ⟨si,i,bw,iC,gI,gH,hN,eR,hg⟩
 have bY:∃b6,R0=(aZ (aZ (aZ (aZ b6 1 _) 11 _) 12 _) 13 _):=⟨R0,by rw[ai bw,ai iC,ai gI,ai gH]⟩
 obtain⟨b6,rfl⟩:=bY
 clear bw iC gI gH
 refine XW.seq (XW.region rfl (RL.ev rfl rfl (aV rfl rfl) (RL.nil (bA (bj (XW.seq ?_))))))
 refine XW.aN _ rfl (fun bW=>?_) (fun bW=>?_)
 refine XW.skip (bj (XW.seq (XW.block (XW.seq (XW.region rfl (RL.ev rfl rfl (aB U7 b7 (h1.now hN) rfl rfl (by omega) (by omega)) ?_))))))
 have aw:∃a_,(hs)[i]?=some a_:=⟨_,UT (by omega)⟩
 obtain⟨ap,bG⟩:=aw
 have aw:∃l_,(ls)[i]?=some l_:=⟨_,UT (by have:=ef.1;omega)⟩
 obtain⟨lp,dp⟩:=aw
 refine RL.ev rfl rfl (aF (m:=i) (a:=ap) UW rfl (h1.now hN) rfl bG) ?_
 have O8:=qS lp (UZ dp)
 refine RL.ev (v:=(vh ap)) rfl rfl aa (RL.nil (bA (bj ?_)))
 replace hg:=hg.as (LV dp)
 refine XW.oD rfl (fun u=>ak w F u [.aA gy [.func (.yield l) #[] #[]] 59]) ?_
 replace hN:=hN.ext (Ext.drew bT)
 refine XA.take (i:=0) rfl rfl (by kernel_rfl) (by kernel_rfl) (by kernel_rfl) (by repeat (first|exact fP|refine fN ?_|refine fQ ?_|refine fO ?_)) rfl (hN.sub [1] (by decide) rfl) (fun w hS=>(aj WB rfl rfl (hS.aA 0 rfl) rfl)) ?_
 refine XA.take (v:=(vh ap)) (i:=1) rfl rfl (by kernel_rfl) (by kernel_rfl) (by kernel_rfl) (by repeat (first|exact fP|refine fN ?_|refine fQ ?_|refine fO ?_)) rfl (hN.sub [1] (by decide) rfl) (fun w hS=>U) ?_
 refine XA.only (i:=2) (by kernel_rfl) rfl rfl rfl (k7.of rfl (aM Wj rfl rfl rfl ((cY _ lp _ ((ef.fX bG dp).now hN) (by(try simp only[UX,Vs,Vt,Vc,U6,U3,Vw,UX,Vl]);omega)).mono ?_)))
 rintro v5 w5 ⟨cx,aW⟩
 replace hN:ak w F w5 [_,_,_]:=hN.bx (l:=aK lp) cx aW
 clear cx aW
 refine⟨(hN.sub [2] (by decide) rfl),?_⟩
 refine XA.only (i:=3) (by kernel_rfl) rfl rfl rfl (cy rfl rfl ((dW.yield hT hY (v5,(aK lp)) hg (hN.bZ (M:=[_]) [1] (by decide) rfl) ⟨(hN.sl 0 rfl),hN.j1 (M:=[_]) [1] rfl 0 rfl rfl (fun k hk=>hk)⟩).mono ?_))
 rintro _ w6 ⟨s6,rfl,fD,bE⟩
 replace hg:=fD
 clear fD
 replace hN:ak w F w6 [_,_,_]:=ak.bX (M:=[_]) (N:=[_,_]) (hN.sub [1,0,2] (by decide) rfl) bE
 clear bE
 refine⟨(hN.sub [2] (by decide) rfl),?_⟩
 refine XA.done (by kernel_rfl) (dX (bj (XW.region rfl (RL.ev rfl rfl (an rfl rfl rfl (bc (by omega) (by omega))) (RL.ev (v:=.int .i64 ((i:Int)+1)) rfl rfl U (RL.nil (bA (bj ?_))))))))
 exact⟨rfl,k-1,by omega,s6,i+1,rfl,rfl,rfl,rfl,(hN.sub [0,2] (by decide) rfl),by omega,hg⟩
 refine XW.exit ?_
 iterate 2 refine lJ ?_
 refine gu (uq (RV.zero rfl) ?_)
 rw[WQ (by omega)]at hg
 exact⟨_,hg,hN.sub [0,1] (by decide) rfl⟩
theorem qg {σ:Type} (l:Nat) (C:Bool→σ→Atom) (T:σ→(Value×List UInt8)→Bool→σ→Prop) (s0:σ) {g:List Int} {far:List (List Int)} {outs ins:List (List I2)} {so si:List (List Int)} {F:Nat→Prop} (w:World) (hT:∀s x b s',T s x b s'→b=true) (hY:nf UY l C T Wd s0 (dI g far outs ins so si) (Jd vb) y9) (gb:Nat) (gv fv ov iv cD cE:Value) (hf ho hi gL gF:List Hd) (hN:ak w F w [C true s0,.aA gb [gv,fv,ov,iv,cD,cE] 32]) (o9:qI F w gv g fv hf far ov ho outs iv hi ins cD gL so cE gF si) (pS:g.length≤67108864) (sD:far.length≤67108864∧∀r∈far,r.length≤67108864) (Lw:outs.length≤67108864∧∀r∈outs,r.length≤67108864) (HJ:ins.length≤67108864∧∀r∈ins,r.length≤67108864) (Ag:so.length≤67108864∧∀r∈so,r.length≤67108864) (Ai:si.length≤67108864∧∀r∈si,r.length≤67108864):al UY 82 #[.func (.yield l) #[] #[],.pointer (some ⟨gb,0,none⟩)] w fun _ w'=>∃s',tc T Wd s0 (dI g far outs ins so si) s'∧ak w F w' [C true s']:=by
 refine al.jV Tryz.func82 rfl (US rfl) ?_
 rw[cc]
 have hg:dW T Wd s0 (dI g far outs ins so si) s0 (dI g far outs ins so si):=dW.start
 refine XW.seq (XW.region rfl ?_)
 refine RL.op rfl rfl (bq (cs:=[.func (.yield l) #[] #[]]) rfl rfl hN ?_)
 clear hN
 intro g1 w1 (hN:ak w F w1 [_,_,_])
 refine RL.nil (bA (bj (XW.seq (XW.region rfl (RL.ev rfl rfl (c8 (vs:=[.pointer (some ⟨g1,0,none⟩)]) (xs:=[.tmp 2]) rfl rfl) (RL.ev (v:=.func (.func 83) #[] #[.pointer (some ⟨g1,0,none⟩)]) rfl rfl aa (RL.nil (bA (bj ?_)))))))))
 refine XW.seq (XW.oD rfl (fun u=>ak w F u [.aA g1 [.func (.yield l) #[] #[]] 59,.aA gb [gv,fv,ov,iv,cD,cE] 32]) ?_)
 replace hN:=hN.ext (Ext.drew w1)
 refine XA.take (i:=0) rfl rfl (by kernel_rfl) (by kernel_rfl) (by kernel_rfl) (by repeat (first|exact fP|refine fN ?_|refine fQ ?_|refine fO ?_)) rfl (hN.sub [0,2] (by decide) rfl) (fun w hS=>(aj WB rfl rfl (hS.aA 0 rfl) rfl)) ?_
 refine XA.take (i:=1) rfl rfl (by kernel_rfl) (by kernel_rfl) (by kernel_rfl) (by repeat (first|exact fP|refine fN ?_|refine fQ ?_|refine fO ?_)) rfl (hN.sub [0,2] (by decide) rfl) (fun w hS=>(ah Vh rfl b7 (by decide) rfl)) ?_
 refine XA.take (i:=2) rfl rfl (by kernel_rfl) (by kernel_rfl) (by kernel_rfl) (by repeat (first|exact fP|refine fN ?_|refine fQ ?_|refine fO ?_)) rfl (hN.sub [0,2] (by decide) rfl) (fun w hS=>(aj UW rfl rfl (hS.aA 1 rfl) rfl)) ?_
 refine XA.only (i:=3) (by kernel_rfl) rfl rfl rfl (k7.of rfl (aM Wj rfl rfl rfl ((cY _ g _ (o9.tg.now hN) (by(try simp only[UX,Vs,Vt,Vc,U6,U3,Vw,UX,Vl]);omega)).mono ?_)))
 rintro v2 w2 ⟨cx,aW⟩
 replace hN:ak w F w2 [_,_,_,_]:=hN.bx (l:=aK g) cx aW
 clear cx aW
 refine⟨(hN.sub [1,3] (by decide) rfl),?_⟩
 refine XA.only (i:=4) (by kernel_rfl) rfl rfl rfl (cy rfl rfl ((dW.yield hT hY (v2,(aK g)) hg (hN.bZ (M:=[_]) [2] (by decide) rfl) ⟨(hN.sl 0 rfl),hN.j1 (M:=[_]) [2] rfl 0 rfl rfl (fun k hk=>hk)⟩).mono ?_))
 rintro _ w3 ⟨s3,rfl,fD,bE⟩
 replace hg:=fD
 clear fD
 replace hN:ak w F w3 [_,_,_,_]:=ak.bX (M:=[_]) (N:=[_,_,_]) (hN.sub [2,0,1,3] (by decide) rfl) bE
 clear bE
 refine⟨(hN.sub [2,3] (by decide) rfl),?_⟩
 refine XA.done (by kernel_rfl) (bj (XW.seq (XW.region rfl (RL.ev (v:=.func (.func 83) #[] #[.pointer (some ⟨g1,0,none⟩)]) rfl rfl U (RL.ev rfl rfl (ah Vh rfl gK (by decide) rfl) (RL.ev rfl rfl (aj U7 rfl rfl (hN.aA 3 rfl) rfl) ?_))))))
 refine RL.op rfl rfl (bB (first:=#[]) (captured:=#[.pointer (some ⟨g1,0,none⟩)]) (v0:=fv) (args:=#[fv,.pointer (some ⟨g1,0,none⟩)]) Zv rfl rfl (by simp) rfl rfl ((lN l C T s0 _ hT hY g1 s3 _ _ hf far (hg.as rfl) (hN.bZ (M:=[_,_]) [0,2] (by decide) rfl) (o9.tf.step (hN.sub (M:=[C true s3,.aA g1 [.func (.yield l) #[] #[]] 59]) [0,2] (by decide) rfl)) (o9.NU.step (hN.sub (M:=[C true s3,.aA g1 [.func (.yield l) #[] #[]] 59]) [0,2] (by decide) rfl)) sD.1 sD.2).mono ?_))
 rintro _ w4 ⟨s4,fD,bE⟩
 replace hg:=fD
 clear fD
 replace hN:ak w F w4 [_,_,_,_]:=ak.bX (M:=[_,_]) (N:=[_,_]) (hN.sub [0,2,1,3] (by decide) rfl) bE
 clear bE
 refine RL.nil (bA (bj ?_))
 iterate 2 refine XW.seq ?_
 refine XW.region rfl (RL.ev rfl rfl (ah Vh rfl kD (by decide) rfl) (RL.ev rfl rfl (aj Vr rfl rfl (hN.aA 3 rfl) rfl) (RL.ev rfl rfl (ah Vh rfl kD (by decide) rfl) (RL.ev rfl rfl (aj Vr rfl rfl (hN.aA 3 rfl) rfl) (RL.ev rfl rfl (pk (cs:=[ov,iv]) YH kD GZ (pl:=[(0,.tmp 19),(1,.tmp 21)]) rfl (ps:=[(0,ov),(1,iv)]) rfl (zc:=[.slice none 0 0,.slice none 0 0]) rfl (aP (vs:=[ov]) (o9.to.now hN).cO rfl (US rfl) (aP (vs:=[iv]) (o9.ti.now hN).cO rfl (US rfl) rfl))) (RL.ev (v:=.int .i64 (0)) rfl rfl U (RL.nil (bA (bj ?_)))))))))
 refine XW.block ?_
 refine XW.loop (fun k R0 bT=>∃sj:σ,∃i:Nat,R0 1=.pointer (some ⟨gb,0,none⟩)∧R0 2=.pointer (some ⟨g1,0,none⟩)∧R0 3=.func (.func 83) #[] #[.pointer (some ⟨g1,0,none⟩)]∧R0 22=.agg #[ov,iv]∧R0 23=.int .i64 ((i:Int))∧ak w F bT [C true sj,.aA g1 [.func (.yield l) #[] #[]] 59,.aA gb [gv,fv,ov,iv,cD,cE] 32]∧(i+k=2)∧(dW T Wd s0 (dI g far outs ins so si) sj (match i with|0=>cu outs++(cu ins++(ct so++ct si))|1=>cu ins++(ct so++ct si)|_=>ct so++ct si))) (2) ?_ ?_
 exact⟨s4,0,rfl,rfl,rfl,rfl,rfl,(hN.sub [0,1,3] (by decide) rfl),by omega,hg⟩
 clear hN
 rintro k R0 bT ⟨sj,i,bw,bF,ca,jP,gG,hN,eR,hg⟩
 have bY:∃b6,R0=(aZ (aZ (aZ (aZ (aZ b6 1 _) 2 _) 3 _) 22 _) 23 _):=⟨R0,by rw[ai bw,ai bF,ai ca,ai jP,ai gG]⟩
 obtain⟨b6,rfl⟩:=bY
 clear bw bF ca jP gG
 refine XW.seq (XW.region rfl (RL.ev rfl rfl (aV rfl rfl) (RL.nil (bA (bj (XW.seq ?_))))))
 refine XW.aN _ rfl (fun bW=>?_) (fun bW=>?_)
 refine XW.skip (bj (XW.seq (XW.block (XW.seq ?_))))
 have xk:i=0∨i=1:=by omega
 rcases xk with rfl|rfl
 have Cy:=o9.Ju.1
 change dW T Wd s0 (dI g far outs ins so si) sj (cu outs++(cu ins++(ct so++ct si)))at hg
 refine XW.region rfl (RL.ev rfl rfl (gJ (cs:=[ov,iv]) YH Vr rfl kD rfl rfl (by omega) (by omega) rfl) (RL.ev (v:=ov) rfl rfl aa (RL.nil (bA (bj (XW.seq (XW.oD rfl (fun u=>ak w F u [.aA g1 [.func (.yield l) #[] #[]] 59,.aA gb [gv,fv,ov,iv,cD,cE] 32]) ?_)))))))
 replace hN:=hN.ext (Ext.drew bT)
 refine XA.take (i:=0) rfl rfl (by kernel_rfl) (by kernel_rfl) (by kernel_rfl) (by repeat (first|exact fP|refine fN ?_|refine fQ ?_|refine fO ?_)) rfl (hN.sub [1,2] (by decide) rfl) (fun w hS=>(aj WB rfl rfl (hS.aA 0 rfl) rfl)) ?_
 refine XA.take (v:=ov) (i:=1) rfl rfl (by kernel_rfl) (by kernel_rfl) (by kernel_rfl) (by repeat (first|exact fP|refine fN ?_|refine fQ ?_|refine fO ?_)) rfl (hN.sub [1,2] (by decide) rfl) (fun w hS=>U) ?_
 have pd:=(o9.to.now hN).aY
 refine XA.take (i:=2) rfl rfl (by kernel_rfl) (by kernel_rfl) (by kernel_rfl) (by repeat (first|exact fP|refine fN ?_|refine fQ ?_|refine fO ?_)) rfl (hN.sub [1,2] (by decide) rfl) (fun w hS=>(aQ Vr (o9.to.now hS) rfl)) ?_
 refine XA.only (i:=3) (by kernel_rfl) rfl rfl rfl (k7.of rfl (bS (enc:=vi) (l:=[(ho.length:Int)]) (xs:=[.tmp 28]) UW bu mu rfl rfl (fun _=>rfl) rfl (by decide) (by decide) hN ?_))
 clear hN
 intro g6 w6 (hN:ak w F w6 [_,_,_,_])
 refine⟨(hN.sub [2,3] (by decide) rfl),?_⟩
 refine XA.only (i:=4) (by kernel_rfl) rfl rfl rfl (k7.of rfl (aM Wj rfl rfl rfl ((cY _ [(outs.length:Int)] _ (by have h_:=(hN.sl 0 rfl);rw[Cy]at h_;exact h_) (by simp)).mono ?_)))
 rintro v7 w7 ⟨cx,aW⟩
 replace hN:ak w F w7 [_,_,_,_,_]:=hN.bx (l:=aK [(outs.length:Int)]) cx aW
 clear cx aW
 refine⟨(hN.sub [3,4] (by decide) rfl),?_⟩
 refine XA.only (i:=5) (by kernel_rfl) rfl rfl rfl (cy rfl rfl ((dW.yield hT hY (v7,(aK [(outs.length:Int)])) hg (hN.bZ (M:=[_]) [2] (by decide) rfl) ⟨(hN.sl 0 rfl),hN.j1 (M:=[_]) [2] rfl 0 rfl rfl (fun k hk=>hk)⟩).mono ?_))
 rintro _ w8 ⟨s8,rfl,fD,bE⟩
 replace hg:=fD
 clear fD
 replace hN:ak w F w8 [_,_,_,_,_]:=ak.bX (M:=[_]) (N:=[_,_,_,_]) (hN.sub [2,0,1,3,4] (by decide) rfl) bE
 clear bE
 refine⟨(hN.sub [3,4] (by decide) rfl),?_⟩
 refine XA.done (by kernel_rfl) (bj (XW.seq (XW.region rfl (RL.ev (v:=ov) rfl rfl U (RL.ev rfl rfl (aQ Vr (o9.to.now hN) rfl) (RL.ev (v:=.int .i64 (0)) rfl rfl U (RL.nil (bA (bj ?_)))))))))
 refine XW.block ?_
 refine XW.loop (fun k2 R1 fI=>∃sq:σ,∃q:Nat,R1 1=.pointer (some ⟨gb,0,none⟩)∧R1 2=.pointer (some ⟨g1,0,none⟩)∧R1 3=.func (.func 83) #[] #[.pointer (some ⟨g1,0,none⟩)]∧R1 22=.agg #[ov,iv]∧R1 23=.int .i64 (((0:Nat):Int))∧R1 32=ov∧R1 33=.int .i64 ((ho.length:Int))∧R1 34=.int .i64 ((q:Int))∧ak w F fI [C true sq,.aA g1 [.func (.yield l) #[] #[]] 59,.aA gb [gv,fv,ov,iv,cD,cE] 32]∧(q+k2=ho.length)∧(dW T Wd s0 (dI g far outs ins so si) sq ((outs.drop q).flatMap eH++(cu ins++(ct so++ct si))))) (ho.length) ?_ ?_
 exact⟨s8,0,rfl,rfl,rfl,rfl,rfl,rfl,rfl,rfl,(hN.sub [0,3,4] (by decide) rfl),by omega,hg⟩
 clear hN
 rintro k2 R1 fI ⟨sq,q,bw,bF,ca,jP,gG,yu,mc,mb,hN,J7,hg⟩
 have bY:∃gY,R1=(aZ (aZ (aZ (aZ (aZ (aZ (aZ (aZ gY 1 _) 2 _) 3 _) 22 _) 23 _) 32 _) 33 _) 34 _):=⟨R1,by rw[ai bw,ai bF,ai ca,ai jP,ai gG,ai yu,ai mc,ai mb]⟩
 obtain⟨gY,rfl⟩:=bY
 clear bw bF ca jP gG yu mc mb
 refine XW.seq (XW.region rfl (RL.ev rfl rfl (aV rfl rfl) (RL.nil (bA (bj (XW.seq ?_))))))
 refine XW.aN _ rfl (fun eI=>?_) (fun eI=>?_)
 refine XW.skip (bj (XW.seq (XW.block (XW.seq (XW.region rfl (RL.ev rfl rfl (aB Vr jJ (o9.to.now hN) rfl rfl (by omega) (by omega)) ?_))))))
 have aw:∃a_,(ho)[q]?=some a_:=⟨_,UT (by omega)⟩
 obtain⟨ap,bG⟩:=aw
 have aw:∃l_,(outs)[q]?=some l_:=⟨_,UT (by have:=o9.Ju.1;omega)⟩
 obtain⟨lp,dp⟩:=aw
 refine RL.ev rfl rfl (aF (m:=q) (a:=ap) Vy rfl (o9.to.now hN) rfl bG) (RL.ev (v:=(vh ap)) rfl rfl aa ?_)
 have O8:=Lw.2 lp (UZ dp)
 replace hg:=hg.as (D1 dp)
 refine RL.nil (bA (bj (XW.seq (XW.oD rfl (fun u=>ak w F u [.aA g1 [.func (.yield l) #[] #[]] 59,.aA gb [gv,fv,ov,iv,cD,cE] 32]) ?_))))
 replace hN:=hN.ext (Ext.drew fI)
 refine XA.take (i:=0) rfl rfl (by kernel_rfl) (by kernel_rfl) (by kernel_rfl) (by repeat (first|exact fP|refine fN ?_|refine fQ ?_|refine fO ?_)) rfl (hN.sub [1,2] (by decide) rfl) (fun w hS=>(aj WB rfl rfl (hS.aA 0 rfl) rfl)) ?_
 refine XA.take (v:=(vh ap)) (i:=1) rfl rfl (by kernel_rfl) (by kernel_rfl) (by kernel_rfl) (by repeat (first|exact fP|refine fN ?_|refine fQ ?_|refine fO ?_)) rfl (hN.sub [1,2] (by decide) rfl) (fun w hS=>U) ?_
 refine XA.only (i:=2) (by kernel_rfl) rfl rfl rfl (k7.of rfl (aR X7 rfl rfl rfl rfl ((lA _ lp _ ((o9.Ju.fX bG dp).now hN) (by omega)).mono ?_)))
 rintro v9 w9 ⟨cx,aW⟩
 replace hN:ak w F w9 [_,_,_,_]:=hN.bx (l:=aK (lp.map fun a=>a.1)) cx aW
 clear cx aW
 refine⟨(hN.sub [2,3] (by decide) rfl),?_⟩
 refine XA.only (i:=3) (by kernel_rfl) rfl rfl rfl (cy rfl rfl ((dW.yield hT hY (v9,(aK (lp.map fun a=>a.1))) hg (hN.bZ (M:=[_]) [1] (by decide) rfl) ⟨(hN.sl 0 rfl),hN.j1 (M:=[_]) [1] rfl 0 rfl rfl (fun k hk=>hk)⟩).mono ?_))
 rintro _ jH ⟨SM,rfl,fD,bE⟩
 replace hg:=fD
 clear fD
 replace hN:ak w F jH [_,_,_,_]:=ak.bX (M:=[_]) (N:=[_,_,_]) (hN.sub [1,0,2,3] (by decide) rfl) bE
 clear bE
 refine⟨(hN.sub [2,3] (by decide) rfl),?_⟩
 refine XA.done (by kernel_rfl) (bj (XW.oD rfl (fun u=>ak w F u [.own vb 5 (v9) (aK (lp.map fun a=>a.1)),.aA g1 [.func (.yield l) #[] #[]] 59,.aA gb [gv,fv,ov,iv,cD,cE] 32]) ?_))
 replace hN:=hN.ext (Ext.drew jH)
 refine XA.take (i:=0) rfl rfl (by kernel_rfl) (by kernel_rfl) (by kernel_rfl) (by repeat (first|exact fP|refine fN ?_|refine fQ ?_|refine fO ?_)) rfl (hN.sub [1,2,3] (by decide) rfl) (fun w hS=>(aj WB rfl rfl (hS.aA 1 rfl) rfl)) ?_
 refine XA.take (v:=(vh ap)) (i:=1) rfl rfl (by kernel_rfl) (by kernel_rfl) (by kernel_rfl) (by repeat (first|exact fP|refine fN ?_|refine fQ ?_|refine fO ?_)) rfl (hN.sub [1,2,3] (by decide) rfl) (fun w hS=>U) ?_
 refine XA.only (i:=2) (by kernel_rfl) rfl rfl rfl (k7.of rfl (aR X7 rfl rfl rfl rfl ((lx _ lp _ ((o9.Ju.fX bG dp).now hN) (by omega)).mono ?_)))
 rintro v11 jj ⟨cx,aW⟩
 replace hN:ak w F jj [_,_,_,_,_]:=hN.bx (l:=aK (lp.map fun a=>a.2)) cx aW
 clear cx aW
 refine⟨(hN.sub [2,3,4] (by decide) rfl),?_⟩
 refine XA.only (i:=3) (by kernel_rfl) rfl rfl rfl (cy rfl rfl ((dW.yield hT hY (v11,(aK (lp.map fun a=>a.2))) hg (hN.bZ (M:=[_]) [1] (by decide) rfl) ⟨(hN.sl 0 rfl),hN.j1 (M:=[_]) [1] rfl 0 rfl rfl (fun k hk=>hk)⟩).mono ?_))
 rintro _ iP ⟨jL,rfl,fD,bE⟩
 replace hg:=fD
 clear fD
 replace hN:ak w F iP [_,_,_,_,_]:=ak.bX (M:=[_]) (N:=[_,_,_,_]) (hN.sub [1,0,2,3,4] (by decide) rfl) bE
 clear bE
 refine⟨(hN.sub [2,3,4] (by decide) rfl),?_⟩
 refine XA.done (by kernel_rfl) (dX (bj (XW.region rfl (RL.ev rfl rfl (an rfl rfl rfl (bc (by omega) (by omega))) (RL.ev (v:=.int .i64 ((q:Int)+1)) rfl rfl U (RL.nil (bA (bj ?_))))))))
 exact⟨rfl,k2-1,by omega,jL,q+1,rfl,rfl,rfl,rfl,rfl,rfl,rfl,rfl,(hN.sub [0,3,4] (by decide) rfl),by omega,hg⟩
 refine XW.exit ?_
 iterate 2 refine lJ ?_
 refine gu (dX (bj (XW.region rfl (RL.ev rfl rfl (an rfl rfl rfl (bc (by omega) (by omega))) (RL.ev (v:=.int .i64 (((0:Nat):Int)+1)) rfl rfl U (RL.nil (bA (bj ?_))))))))
 rw[WQ (by omega)]at hg
 exact⟨rfl,k-1,by omega,sq,0+1,rfl,rfl,rfl,rfl,rfl,hN,by omega,hg⟩
 have Cy:=o9.tie.1
 change dW T Wd s0 (dI g far outs ins so si) sj (cu ins++(ct so++ct si))at hg
 refine XW.region rfl (RL.ev rfl rfl (gJ (cs:=[ov,iv]) YH Vr rfl kD rfl rfl (by omega) (by omega) rfl) (RL.ev (v:=iv) rfl rfl aa (RL.nil (bA (bj (XW.seq (XW.oD rfl (fun u=>ak w F u [.aA g1 [.func (.yield l) #[] #[]] 59,.aA gb [gv,fv,ov,iv,cD,cE] 32]) ?_)))))))
 replace hN:=hN.ext (Ext.drew bT)
 refine XA.take (i:=0) rfl rfl (by kernel_rfl) (by kernel_rfl) (by kernel_rfl) (by repeat (first|exact fP|refine fN ?_|refine fQ ?_|refine fO ?_)) rfl (hN.sub [1,2] (by decide) rfl) (fun w hS=>(aj WB rfl rfl (hS.aA 0 rfl) rfl)) ?_
 refine XA.take (v:=iv) (i:=1) rfl rfl (by kernel_rfl) (by kernel_rfl) (by kernel_rfl) (by repeat (first|exact fP|refine fN ?_|refine fQ ?_|refine fO ?_)) rfl (hN.sub [1,2] (by decide) rfl) (fun w hS=>U) ?_
 have I0:=(o9.ti.now hN).aY
 refine XA.take (i:=2) rfl rfl (by kernel_rfl) (by kernel_rfl) (by kernel_rfl) (by repeat (first|exact fP|refine fN ?_|refine fQ ?_|refine fO ?_)) rfl (hN.sub [1,2] (by decide) rfl) (fun w hS=>(aQ Vr (o9.ti.now hS) rfl)) ?_
 refine XA.only (i:=3) (by kernel_rfl) rfl rfl rfl (k7.of rfl (bS (enc:=vi) (l:=[(hi.length:Int)]) (xs:=[.tmp 28]) UW bu mu rfl rfl (fun _=>rfl) rfl (by decide) (by decide) hN ?_))
 clear hN
 intro Oe lF (hN:ak w F lF [_,_,_,_])
 refine⟨(hN.sub [2,3] (by decide) rfl),?_⟩
 refine XA.only (i:=4) (by kernel_rfl) rfl rfl rfl (k7.of rfl (aM Wj rfl rfl rfl ((cY _ [(ins.length:Int)] _ (by have h_:=(hN.sl 0 rfl);rw[Cy]at h_;exact h_) (by simp)).mono ?_)))
 rintro C4 k9 ⟨cx,aW⟩
 replace hN:ak w F k9 [_,_,_,_,_]:=hN.bx (l:=aK [(ins.length:Int)]) cx aW
 clear cx aW
 refine⟨(hN.sub [3,4] (by decide) rfl),?_⟩
 refine XA.only (i:=5) (by kernel_rfl) rfl rfl rfl (cy rfl rfl ((dW.yield hT hY (C4,(aK [(ins.length:Int)])) hg (hN.bZ (M:=[_]) [2] (by decide) rfl) ⟨(hN.sl 0 rfl),hN.j1 (M:=[_]) [2] rfl 0 rfl rfl (fun k hk=>hk)⟩).mono ?_))
 rintro _ oL ⟨Ln,rfl,fD,bE⟩
 replace hg:=fD
 clear fD
 replace hN:ak w F oL [_,_,_,_,_]:=ak.bX (M:=[_]) (N:=[_,_,_,_]) (hN.sub [2,0,1,3,4] (by decide) rfl) bE
 clear bE
 refine⟨(hN.sub [3,4] (by decide) rfl),?_⟩
 refine XA.done (by kernel_rfl) (bj (XW.seq (XW.region rfl (RL.ev (v:=iv) rfl rfl U (RL.ev rfl rfl (aQ Vr (o9.ti.now hN) rfl) (RL.ev (v:=.int .i64 (0)) rfl rfl U (RL.nil (bA (bj ?_)))))))))
 refine XW.block ?_
 refine XW.loop (fun k2 R1 fI=>∃sq:σ,∃q:Nat,R1 1=.pointer (some ⟨gb,0,none⟩)∧R1 2=.pointer (some ⟨g1,0,none⟩)∧R1 3=.func (.func 83) #[] #[.pointer (some ⟨g1,0,none⟩)]∧R1 22=.agg #[ov,iv]∧R1 23=.int .i64 (((1:Nat):Int))∧R1 32=iv∧R1 33=.int .i64 ((hi.length:Int))∧R1 34=.int .i64 ((q:Int))∧ak w F fI [C true sq,.aA g1 [.func (.yield l) #[] #[]] 59,.aA gb [gv,fv,ov,iv,cD,cE] 32]∧(q+k2=hi.length)∧(dW T Wd s0 (dI g far outs ins so si) sq ((ins.drop q).flatMap eH++(ct so++ct si)))) (hi.length) ?_ ?_
 exact⟨Ln,0,rfl,rfl,rfl,rfl,rfl,rfl,rfl,rfl,(hN.sub [0,3,4] (by decide) rfl),by omega,hg⟩
 clear hN
 rintro k2 R1 fI ⟨sq,q,bw,bF,ca,jP,gG,yu,mc,mb,hN,J7,hg⟩
 have bY:∃gY,R1=(aZ (aZ (aZ (aZ (aZ (aZ (aZ (aZ gY 1 _) 2 _) 3 _) 22 _) 23 _) 32 _) 33 _) 34 _):=⟨R1,by rw[ai bw,ai bF,ai ca,ai jP,ai gG,ai yu,ai mc,ai mb]⟩
 obtain⟨gY,rfl⟩:=bY
 clear bw bF ca jP gG yu mc mb
 refine XW.seq (XW.region rfl (RL.ev rfl rfl (aV rfl rfl) (RL.nil (bA (bj (XW.seq ?_))))))
 refine XW.aN _ rfl (fun eI=>?_) (fun eI=>?_)
 refine XW.skip (bj (XW.seq (XW.block (XW.seq (XW.region rfl (RL.ev rfl rfl (aB Vr jJ (o9.ti.now hN) rfl rfl (by omega) (by omega)) ?_))))))
 have aw:∃a_,(hi)[q]?=some a_:=⟨_,UT (by omega)⟩
 obtain⟨ap,bG⟩:=aw
 have aw:∃l_,(ins)[q]?=some l_:=⟨_,UT (by have:=o9.tie.1;omega)⟩
 obtain⟨lp,dp⟩:=aw
 refine RL.ev rfl rfl (aF (m:=q) (a:=ap) Vy rfl (o9.ti.now hN) rfl bG) (RL.ev (v:=(vh ap)) rfl rfl aa ?_)
 have O8:=HJ.2 lp (UZ dp)
 replace hg:=hg.as (D1 dp)
 refine RL.nil (bA (bj (XW.seq (XW.oD rfl (fun u=>ak w F u [.aA g1 [.func (.yield l) #[] #[]] 59,.aA gb [gv,fv,ov,iv,cD,cE] 32]) ?_))))
 replace hN:=hN.ext (Ext.drew fI)
 refine XA.take (i:=0) rfl rfl (by kernel_rfl) (by kernel_rfl) (by kernel_rfl) (by repeat (first|exact fP|refine fN ?_|refine fQ ?_|refine fO ?_)) rfl (hN.sub [1,2] (by decide) rfl) (fun w hS=>(aj WB rfl rfl (hS.aA 0 rfl) rfl)) ?_
 refine XA.take (v:=(vh ap)) (i:=1) rfl rfl (by kernel_rfl) (by kernel_rfl) (by kernel_rfl) (by repeat (first|exact fP|refine fN ?_|refine fQ ?_|refine fO ?_)) rfl (hN.sub [1,2] (by decide) rfl) (fun w hS=>U) ?_
 refine XA.only (i:=2) (by kernel_rfl) rfl rfl rfl (k7.of rfl (aR X7 rfl rfl rfl rfl ((lA _ lp _ ((o9.tie.fX bG dp).now hN) (by omega)).mono ?_)))
 rintro Js uu ⟨cx,aW⟩
 replace hN:ak w F uu [_,_,_,_]:=hN.bx (l:=aK (lp.map fun a=>a.1)) cx aW
 clear cx aW
 refine⟨(hN.sub [2,3] (by decide) rfl),?_⟩
 refine XA.only (i:=3) (by kernel_rfl) rfl rfl rfl (cy rfl rfl ((dW.yield hT hY (Js,(aK (lp.map fun a=>a.1))) hg (hN.bZ (M:=[_]) [1] (by decide) rfl) ⟨(hN.sl 0 rfl),hN.j1 (M:=[_]) [1] rfl 0 rfl rfl (fun k hk=>hk)⟩).mono ?_))
 rintro _ vA ⟨tv,rfl,fD,bE⟩
 replace hg:=fD
 clear fD
 replace hN:ak w F vA [_,_,_,_]:=ak.bX (M:=[_]) (N:=[_,_,_]) (hN.sub [1,0,2,3] (by decide) rfl) bE
 clear bE
 refine⟨(hN.sub [2,3] (by decide) rfl),?_⟩
 refine XA.done (by kernel_rfl) (bj (XW.oD rfl (fun u=>ak w F u [.own vb 5 (Js) (aK (lp.map fun a=>a.1)),.aA g1 [.func (.yield l) #[] #[]] 59,.aA gb [gv,fv,ov,iv,cD,cE] 32]) ?_))
 replace hN:=hN.ext (Ext.drew vA)
 refine XA.take (i:=0) rfl rfl (by kernel_rfl) (by kernel_rfl) (by kernel_rfl) (by repeat (first|exact fP|refine fN ?_|refine fQ ?_|refine fO ?_)) rfl (hN.sub [1,2,3] (by decide) rfl) (fun w hS=>(aj WB rfl rfl (hS.aA 1 rfl) rfl)) ?_
 refine XA.take (v:=(vh ap)) (i:=1) rfl rfl (by kernel_rfl) (by kernel_rfl) (by kernel_rfl) (by repeat (first|exact fP|refine fN ?_|refine fQ ?_|refine fO ?_)) rfl (hN.sub [1,2,3] (by decide) rfl) (fun w hS=>U) ?_
 refine XA.only (i:=2) (by kernel_rfl) rfl rfl rfl (k7.of rfl (aR X7 rfl rfl rfl rfl ((lx _ lp _ ((o9.tie.fX bG dp).now hN) (by omega)).mono ?_)))
 rintro LL zy ⟨cx,aW⟩
 replace hN:ak w F zy [_,_,_,_,_]:=hN.bx (l:=aK (lp.map fun a=>a.2)) cx aW
 clear cx aW
 refine⟨(hN.sub [2,3,4] (by decide) rfl),?_⟩
 refine XA.only (i:=3) (by kernel_rfl) rfl rfl rfl (cy rfl rfl ((dW.yield hT hY (LL,(aK (lp.map fun a=>a.2))) hg (hN.bZ (M:=[_]) [1] (by decide) rfl) ⟨(hN.sl 0 rfl),hN.j1 (M:=[_]) [1] rfl 0 rfl rfl (fun k hk=>hk)⟩).mono ?_))
 rintro _ vz ⟨SL,rfl,fD,bE⟩
 replace hg:=fD
 clear fD
 replace hN:ak w F vz [_,_,_,_,_]:=ak.bX (M:=[_]) (N:=[_,_,_,_]) (hN.sub [1,0,2,3,4] (by decide) rfl) bE
 clear bE
 refine⟨(hN.sub [2,3,4] (by decide) rfl),?_⟩
 refine XA.done (by kernel_rfl) (dX (bj (XW.region rfl (RL.ev rfl rfl (an rfl rfl rfl (bc (by omega) (by omega))) (RL.ev (v:=.int .i64 ((q:Int)+1)) rfl rfl U (RL.nil (bA (bj ?_))))))))
 exact⟨rfl,k2-1,by omega,SL,q+1,rfl,rfl,rfl,rfl,rfl,rfl,rfl,rfl,(hN.sub [0,3,4] (by decide) rfl),by omega,hg⟩
 refine XW.exit ?_
 iterate 2 refine lJ ?_
 refine gu (dX (bj (XW.region rfl (RL.ev rfl rfl (an rfl rfl rfl (bc (by omega) (by omega))) (RL.ev (v:=.int .i64 (((1:Nat):Int)+1)) rfl rfl U (RL.nil (bA (bj ?_))))))))
 rw[WQ (by omega)]at hg
 exact⟨rfl,k-1,by omega,sq,1+1,rfl,rfl,rfl,rfl,rfl,hN,by omega,hg⟩
 refine XW.exit ?_
 iterate 2 refine lJ ?_
 refine gu (bj (XW.seq ?_))
 have fk:i=2:=by omega
 subst fk
 change dW T Wd s0 (dI g far outs ins so si) sj (ct so++ct si)at hg
 refine XW.region rfl (RL.ev (v:=.func (.func 83) #[] #[.pointer (some ⟨g1,0,none⟩)]) rfl rfl U (RL.ev rfl rfl (ah Vh rfl gK (by decide) rfl) (RL.ev rfl rfl (aj U7 rfl rfl (hN.aA 2 rfl) rfl) ?_)))
 refine RL.op rfl rfl (bB (first:=#[]) (captured:=#[.pointer (some ⟨g1,0,none⟩)]) (v0:=cD) (args:=#[cD,.pointer (some ⟨g1,0,none⟩)]) Zv rfl rfl (by simp) rfl rfl ((lN l C T s0 _ hT hY g1 sj _ _ gL so (hg.as rfl) (hN.bZ (M:=[_,_]) [0,1] (by decide) rfl) (o9.NS.step (hN.sub (M:=[C true sj,.aA g1 [.func (.yield l) #[] #[]] 59]) [0,1] (by decide) rfl)) (o9.G1.step (hN.sub (M:=[C true sj,.aA g1 [.func (.yield l) #[] #[]] 59]) [0,1] (by decide) rfl)) Ag.1 Ag.2).mono ?_))
 rintro _ zx ⟨Ot,fD,bE⟩
 replace hg:=fD
 clear fD
 replace hN:ak w F zx [_,_,_]:=ak.bX (M:=[_,_]) (N:=[_]) (hN.sub [0,1,2] (by decide) rfl) bE
 clear bE
 replace hg:=hg.as (V4 _).symm
 refine RL.nil (bA (bj (XW.region rfl (RL.ev (v:=.func (.func 83) #[] #[.pointer (some ⟨g1,0,none⟩)]) rfl rfl U (RL.ev rfl rfl (ah Vh rfl gK (by decide) rfl) (RL.ev rfl rfl (aj U7 rfl rfl (hN.aA 2 rfl) rfl) ?_))))))
 refine RL.op rfl rfl (bB (first:=#[]) (captured:=#[.pointer (some ⟨g1,0,none⟩)]) (v0:=cE) (args:=#[cE,.pointer (some ⟨g1,0,none⟩)]) Zv rfl rfl (by simp) rfl rfl ((lN l C T s0 _ hT hY g1 Ot _ _ gF si (hg.as rfl) (hN.bZ (M:=[_,_]) [0,1] (by decide) rfl) (o9.NT.step (hN.sub (M:=[C true Ot,.aA g1 [.func (.yield l) #[] #[]] 59]) [0,1] (by decide) rfl)) (o9.G2.step (hN.sub (M:=[C true Ot,.aA g1 [.func (.yield l) #[] #[]] 59]) [0,1] (by decide) rfl)) Ai.1 Ai.2).mono ?_))
 rintro _ BM ⟨Up,fD,bE⟩
 replace hg:=fD
 clear fD
 replace hN:ak w F BM [_,_,_]:=ak.bX (M:=[_,_]) (N:=[_]) (hN.sub [0,1,2] (by decide) rfl) bE
 clear bE
 refine RL.nil (bA (uq (RV.zero rfl) ?_))
 exact⟨_,hg.done,hN.sub [0] (by decide) rfl⟩
theorem tL (g:List Int) (far:List (List Int)) (outs ins:List (List I2)) (so si:List (List Int)) (gb:Nat) (gv fv ov iv cD cE:Value) (hf ho hi gL gF:List Hd) (pS:g.length≤67108864) (sD:far.length≤67108864∧∀r∈far,r.length≤67108864) (Lw:outs.length≤67108864∧∀r∈outs,r.length≤67108864) (HJ:ins.length≤67108864∧∀r∈ins,r.length≤67108864) (Ag:so.length≤67108864∧∀r∈so,r.length≤67108864) (Ai:si.length≤67108864∧∀r∈si,r.length≤67108864):sZ UY 82 #[.pointer (some ⟨gb,0,none⟩)] [.aA gb [gv,fv,ov,iv,cD,cE] 32] (fun F w=>qI F w gv g fv hf far ov ho outs iv hi ins cD gL so cE gF si) Wd y9 (Jd vb) (dI g far outs ins so si):=by
  intro σ l C T s0 w0 w F hT hY Dg hN
  have h1:=hN.bZ (M:=[_,_]) [0,1] (by decide) rfl
  refine(qg l C T s0 w hT hY gb gv fv ov iv cD cE hf ho hi gL gF h1 (Dg.step hN) pS sD Lw HJ Ag Ai).mono ?_
  rintro _ w' ⟨s',hr,h2⟩
  exact⟨s',hr,ak.bX (M:=[_,_]) (N:=[]) hN h2⟩
end Go.Proofs.YtngkdkbpgoddlaaGreat
namespace Go.Proofs.YtngkdkbpgoddlaaGreat
open Go.RowKit Go.Rl
open Go.Gr Go.cP Go.hO
theorem xZ (n:Int) (ar:List I3) (v:Value) (w:World) (hv:Sm bf w v ar):al UY 30 #[.agg #[.int .i64 n,v]] w fun r w'=>∃g,r=.func (.func 69) #[] #[.pointer (some ⟨g,0,none⟩)]∧ak w none_ w' [.aA g [.int .i64 n,v] 24]:=by
 refine al.start Tryz.func30 rfl (US rfl) ?_
 rw[bL]
 have hN:=ak.nil w none_
 refine RW.seq (RW.region ?_)
 refine RL.op rfl rfl (bq (cs:=[.int .i64 (n),v]) rfl rfl hN ?_)
 clear hN
 intro g1 w1 (hN:ak w none_ w1 [_])
 refine RL.ev rfl rfl aa (RL.nil (ag (RW.seq (RW.region (RL.ev rfl rfl (c8 (vs:=[.pointer (some ⟨g1,0,none⟩)]) (xs:=[.tmp 1]) rfl rfl) (RL.ev (v:=.func (.func 69) #[] #[.pointer (some ⟨g1,0,none⟩)]) rfl rfl aa (RL.nil (ag (RW.ret ?_)))))))))
 refine aL (RV.tmp rfl) ?_
 exact⟨_,rfl,hN.sub [0] (by decide) rfl⟩
theorem vZ (rk:List Int) (ws:List I5) (rv wv:Value) (w:World) (hr:Sl vI w rv rk) (hw:Sm bC w wv ws):al UY 31 #[.agg #[rv,wv]] w fun r w'=>∃g,r=.func (.func 75) #[] #[.pointer (some ⟨g,0,none⟩)]∧ak w none_ w' [.aA g [rv,wv] 28]:=by
 refine al.start Tryz.func31 rfl (US rfl) ?_
 rw[bL]
 have hN:=ak.nil w none_
 refine RW.seq (RW.region ?_)
 refine RL.op rfl rfl (bq (cs:=[rv,wv]) rfl rfl hN ?_)
 clear hN
 intro g1 w1 (hN:ak w none_ w1 [_])
 refine RL.ev rfl rfl aa (RL.nil (ag (RW.seq (RW.region (RL.ev rfl rfl (c8 (vs:=[.pointer (some ⟨g1,0,none⟩)]) (xs:=[.tmp 1]) rfl rfl) (RL.ev (v:=.func (.func 75) #[] #[.pointer (some ⟨g1,0,none⟩)]) rfl rfl aa (RL.nil (ag (RW.ret ?_)))))))))
 refine aL (RV.tmp rfl) ?_
 exact⟨_,rfl,hN.sub [0] (by decide) rfl⟩
theorem rV (g0:List Int) (far:List (List Int)) (outs ins:List (List I2)) (so si:List (List Int)) (gv fv ov iv cD cE:Value) (hf ho hi gL gF:List Hd) (w:World) (hT:qI none_ w gv g0 fv hf far ov ho outs iv hi ins cD gL so cE gF si):al UY 32 #[.agg #[gv,fv,ov,iv,cD,cE]] w fun r w'=>∃g,r=.func (.func 82) #[] #[.pointer (some ⟨g,0,none⟩)]∧ak w none_ w' [.aA g [gv,fv,ov,iv,cD,cE] 32]:=by
 refine al.start Tryz.func32 rfl (US rfl) ?_
 rw[bL]
 have hN:=ak.nil w none_
 refine RW.seq (RW.region ?_)
 refine RL.op rfl rfl (bq (cs:=[gv,fv,ov,iv,cD,cE]) rfl rfl hN ?_)
 clear hN
 intro g1 w1 (hN:ak w none_ w1 [_])
 refine RL.ev rfl rfl aa (RL.nil (ag (RW.seq (RW.region (RL.ev rfl rfl (c8 (vs:=[.pointer (some ⟨g1,0,none⟩)]) (xs:=[.tmp 1]) rfl rfl) (RL.ev (v:=.func (.func 82) #[] #[.pointer (some ⟨g1,0,none⟩)]) rfl rfl aa (RL.nil (ag (RW.ret ?_)))))))))
 refine aL (RV.tmp rfl) ?_
 exact⟨_,rfl,hN.sub [0] (by decide) rfl⟩
theorem wP (n:Int) (ar:List I3) (rk:List Int) (ws:List I5) (g:List Int) (far:List (List Int)) (outs ins:List (List I2)) (so si:List (List Int)) (v rv wv gv fv ov iv cD cE:Value) (hf ho hi gL gF:List Hd) (w:World) (hv:Sm bf w v ar) (hr:Sl vI w rv rk) (hw:Sm bC w wv ws) (hT:qI none_ w gv g fv hf far ov ho outs iv hi ins cD gL so cE gF si) (fG:ar.length≤67108864) (qS:rk.length≤67108864) (JZ:ws.length≤67108864) (pS:g.length≤67108864) (sD:far.length≤67108864∧∀r∈far,r.length≤67108864) (Lw:outs.length≤67108864∧∀r∈outs,r.length≤67108864) (HJ:ins.length≤67108864∧∀r∈ins,r.length≤67108864) (Ag:so.length≤67108864∧∀r∈so,r.length≤67108864) (Ai:si.length≤67108864∧∀r∈si,r.length≤67108864) (ew:eA (mq n ar rk ws g far outs ins so si)≤140737488351232):al UY 10 #[.agg #[.int .i64 n,v,rv,wv,gv,fv,ov,iv,cD,cE]] w fun r w'=>dy vb 5 w' w.heap.size r (cX (mq n ar rk ws g far outs ins so si))∧Ext w w':=by
 refine al.start Tryz.func10 rfl (US rfl) ?_
 rw[bL]
 have hN:=ak.nil w none_
 have aw:=Il ew
 obtain⟨iR,ff,NZ,GF⟩:=aw
 refine RW.seq (RW.region ?_)
 refine RL.op rfl rfl (bq (cs:=[.int .i64 (n),v,rv,wv,gv,fv,ov,iv,cD,cE]) rfl rfl hN ?_)
 clear hN
 intro g1 w1 (hN:ak w none_ w1 [_])
 refine RL.ev (v:=.slice none 0 0) rfl rfl aa (RL.nil (ag (RW.seq ?_)))
 replace hN:=hN.ext (Ext.drew w1)
 refine RW.cb rfl (fun u=>ak w none_ u [.aA g1 [.int .i64 (n),v,rv,wv,gv,fv,ov,iv,cD,cE] 34]) 18 [(0,0),(1,0),(3,0),(4,0),(7,0),(8,0),(11,0),(12,0),(2,1),(5,1),(6,1),(9,1),(10,1),(13,1),(14,1),(15,1),(16,1),(17,0)] (by intro _ _ _ h;exact h) (by kernel_rfl) hN (RQ.ev rfl rfl (fun w hS=>(ah U8 rfl db (by decide) rfl)) (RQ.ev rfl rfl (fun w hS=>(cr (cs:=[.int .i64 (n),v,rv,wv,gv,fv,ov,iv,cD,cE]) (j:=0) (m:=2) U4 rfl db rfl (hS.aA 0 rfl) (US rfl))) (RQ.ev rfl rfl (fun w hS=>(ah U8 rfl db (by decide) rfl)) (RQ.ev rfl rfl (fun w hS=>(cr (cs:=[.int .i64 (n),v,rv,wv,gv,fv,ov,iv,cD,cE]) (j:=0) (m:=2) U4 rfl db rfl (hS.aA 0 rfl) (US rfl))) (RQ.ev rfl rfl (fun w hS=>(ah U8 rfl dr (by decide) rfl)) (RQ.ev rfl rfl (fun w hS=>(cr (cs:=[.int .i64 (n),v,rv,wv,gv,fv,ov,iv,cD,cE]) (j:=2) (m:=2) Vb rfl dr rfl (hS.aA 0 rfl) (US rfl))) (RQ.ev rfl rfl (fun w hS=>(ah U8 rfl ga (by decide) rfl)) (RQ.ev rfl rfl (fun w hS=>(cr (cs:=[.int .i64 (n),v,rv,wv,gv,fv,ov,iv,cD,cE]) (j:=4) (m:=6) Vh rfl ga rfl (hS.aA 0 rfl) (US rfl))) ?_))))))))
 refine RQ.do rfl rfl (aM aaK rfl rfl rfl ((yK (n) _ ar _ (hv.o.now hN)).mono ?_))
 rintro v2 w2 ⟨cx,aW⟩
 replace hN:ak w none_ w2 [_,_]:=hN.bx (l:=iD (n) ar) cx aW
 clear cx aW
 refine⟨(hN.sub [1] (by decide) rfl),?_⟩
 refine RQ.do rfl rfl (aM Tryz.func30 rfl rfl rfl ((xZ n ar v _ (hv.o.now hN)).mono ?_))
 rintro _ w3 ⟨g3,rfl,bE⟩
 replace hN:ak w none_ w3 [_,_,_]:=hN.dU bE
 clear bE
 refine⟨(hN.sub [2] (by decide) rfl),?_⟩
 refine RQ.do rfl rfl (aM Zu rfl rfl rfl ((kP 69 _ #[.pointer (some ⟨g3,0,none⟩)] [.aA g3 [.int .i64 (n),v] 24] _ (ij n ar) Tryz.func69 rfl rfl (z0 n ar g3 v fG) (by omega) _ (qZ.step ny hv.o (hN.sub (M:=[.aA g3 [.int .i64 (n),v] 24]) [0] (by decide) rfl)) (hN.bZ (M:=[_]) [0] (by decide) rfl)).mono ?_))
 rintro v4 w4 bE
 replace hN:ak w none_ w4 [_,_,_]:=ak.bX (M:=[_]) (N:=[_,_]) (hN.sub [0,1,2] (by decide) rfl) bE
 clear bE
 refine⟨(hN.sub [2] (by decide) rfl),?_⟩
 refine RQ.do rfl rfl (aM Tryz.func31 rfl rfl rfl ((vZ rk ws rv wv _ (hr.o.now hN) (hw.o.now hN)).mono ?_))
 rintro _ w5 ⟨g5,rfl,bE⟩
 replace hN:ak w none_ w5 [_,_,_,_]:=hN.dU bE
 clear bE
 refine⟨(hN.sub [3] (by decide) rfl),?_⟩
 refine RQ.do rfl rfl (aM Zu rfl rfl rfl ((kP 75 _ #[.pointer (some ⟨g5,0,none⟩)] [.aA g5 [rv,wv] 28] _ (eL rk ws) Tryz.func75 rfl rfl (x6 rk ws g5 rv wv qS JZ) (by omega) _ ⟨hr.o.step (hN.sub (M:=[.aA g5 [rv,wv] 28]) [0] (by decide) rfl),qZ.step sf hw.o (hN.sub (M:=[.aA g5 [rv,wv] 28]) [0] (by decide) rfl)⟩ (hN.bZ (M:=[_]) [0] (by decide) rfl)).mono ?_))
 rintro v6 w6 bE
 replace hN:ak w none_ w6 [_,_,_,_]:=ak.bX (M:=[_]) (N:=[_,_,_]) (hN.sub [0,1,2,3] (by decide) rfl) bE
 clear bE
 refine⟨(hN.sub [3] (by decide) rfl),?_⟩
 refine RQ.do rfl rfl (aM Tryz.func32 rfl rfl rfl ((rV g far outs ins so si gv fv ov iv cD cE hf ho hi gL gF _ (hT.ext hN.aE)).mono ?_))
 rintro _ w7 ⟨g7,rfl,bE⟩
 replace hN:ak w none_ w7 [_,_,_,_,_]:=hN.dU bE
 clear bE
 refine⟨(hN.sub [4] (by decide) rfl),?_⟩
 refine RQ.do rfl rfl (aM Zu rfl rfl rfl ((kP 82 _ #[.pointer (some ⟨g7,0,none⟩)] [.aA g7 [gv,fv,ov,iv,cD,cE] 32] _ (dI g far outs ins so si) Tryz.func82 rfl rfl (tL g far outs ins so si g7 gv fv ov iv cD cE hf ho hi gL gF pS sD Lw HJ Ag Ai) (by omega) _ (hT.step (hN.sub (M:=[.aA g7 [gv,fv,ov,iv,cD,cE] 32]) [0] (by decide) rfl)) (hN.bZ (M:=[_]) [0] (by decide) rfl)).mono ?_))
 rintro v8 w8 bE
 replace hN:ak w none_ w8 [_,_,_,_,_]:=ak.bX (M:=[_]) (N:=[_,_,_,_]) (hN.sub [0,1,2,3,4] (by decide) rfl) bE
 clear bE
 refine⟨(hN.sub [4] (by decide) rfl),?_⟩
 have aw:=(hN.sl 3 rfl).hd
 obtain⟨Nz,eM⟩:=aw
 subst eM
 have aw:=(hN.sl 2 rfl).hd
 obtain⟨CG,eM⟩:=aw
 subst eM
 have aw:=(hN.sl 1 rfl).hd
 obtain⟨Sn,eM⟩:=aw
 subst eM
 have aw:=(hN.sl 0 rfl).hd
 obtain⟨Sk,eM⟩:=aw
 subst eM
 refine RQ.do rfl rfl (bS (enc:=vh) (l:=[Nz,CG,Sn,Sk]) (xs:=[.tmp 5,.tmp 9,.tmp 13,.tmp 17]) VB fq Dq rfl rfl (fun _=>rfl) rfl (by decide) (by decide) hN ?_)
 clear hN
 intro g9 w9 (hN:ak w none_ w9 [_,_,_,_,_,_])
 refine⟨(hN.sub [5] (by decide) rfl),?_⟩
 refine RQ.do rfl rfl (aM Zs rfl rfl rfl ((nv _ ([Nz,CG,Sn,Sk]) [(iD (n) ar),((ij n ar).flatten),((eL rk ws).flatten),((dI g far outs ins so si).flatten)] _ (hN.sl 0 rfl) (ep.cons (hN.sl 4 rfl) (py.none _ _) (ep.cons (hN.sl 3 rfl) (py.none _ _) (ep.cons (hN.sl 2 rfl) (py.none _ _) (ep.cons (hN.sl 1 rfl) (py.none _ _) (ep.nil _ _ _))))) ew).mono ?_))
 rintro Gt lF ⟨cx,aW⟩
 replace hN:ak w none_ lF [_,_,_,_,_,_,_]:=hN.bx (l:=cX (mq n ar rk ws g far outs ins so si)) cx aW
 clear cx aW
 refine⟨(hN.sub [6] (by decide) rfl),?_⟩
 refine RQ.ev (v:=Gt) rfl rfl (fun w hS=>aa) (RQ.done (by kernel_rfl) (ag (RW.ret (aL (RV.tmp rfl) ?_))))
 exact⟨hN.dA 0 rfl,hN.aE⟩
end Go.Proofs.YtngkdkbpgoddlaaGreat
namespace Go.Proofs.YtngkdkbpgoddlaaGreat
open Go.RowKit Go.Rl
open Go.cP Go.hO
theorem lU (v:Value) (l:List UInt8) (w:World) (hv:Sl vb w v l) (hl:l.length≤1048576):al UY 14 #[v] w fun r w'=>∃hs,ak w none_ w' [.own vh 38 r hs,.dT vb hs (bz l)]:=by
 refine al.start Zw rfl (US rfl) ?_
 rw[bL]
 have hN:=ak.nil w none_
 refine RW.seq (RW.region (RL.ev rfl rfl aa (RL.nil (ag (RW.scope (RW.seq (RW.region (RL.ev rfl rfl aa (RL.nil ?_)))))))))
 refine ag (RW.seq (RW.region (RL.ev rfl rfl U ?_)))
 refine RL.op rfl rfl (aM YA rfl rfl rfl ((mF _ l _ (hv.ext hN.aE) (by omega)).mono ?_))
 rintro _ w1 ⟨g1,rfl,lr,aW⟩
 have fo:=vN hN lr aW
 clear lr aW
 generalize Kl:(w).heap.size=QV at fo
 generalize Kw:(w1).heap.size=Bl at fo
 clear hN
 have hN:ak w none_ w1 [_]:=fo
 clear fo
 refine RL.ev rfl rfl aa ?_
 replace hN:=hN.fg vb
 replace hN:=hN.cj vh 38
 refine RL.nil (ag (RW.seq (RW.label (ag (RW.seq (RW.block ?_))))))
 refine RW.loop (fun k R0 bT=>∃rest:List UInt8,∃ls:List (List UInt8),∃vo:Value,∃hs:List Hd,R0 0=v∧R0 3=vo∧R0 4=.pointer (some ⟨g1,0,none⟩)∧ak w none_ bT [.own vh 38 (vo) (hs),.dT vb (hs) (ls),b8 142 QV Bl g1 (rest,0)]∧(rest.length≤k)∧(rest.length≤l.length)∧(hs.length=ls.length∧hs.length+rest.length≤l.length)∧(parts l=(fz (l.length:Int) k rest).map (ls++·))) (l.length) ?_ ?_
 exact⟨l,[],.slice none 0 0,[],rfl,rfl,rfl,hN,Vv _,Vv _,⟨rfl,by simp⟩,by unfold parts;simp⟩
 clear hN
 rintro k R0 bT ⟨rest,ls,vo,hs,bN,ca,cg,hN,Tn,qS,wu,hp⟩
 have bY:∃b6,R0=(aZ (aZ (aZ b6 0 _) 3 _) 4 _):=⟨R0,by rw[ai bN,ai ca,ai cg]⟩
 obtain⟨b6,rfl⟩:=bY
 clear bN ca cg
 iterate 2 refine RW.seq ?_
 refine RW.region (RL.ev rfl rfl U ?_)
 refine RL.op rfl rfl (aM aaH rfl rfl rfl ((sb _ _ _ (rest,0) _ (b8.says hN 2 rfl)).mono ?_))
 rintro _ _ ⟨rfl,rfl⟩
 refine RL.ev rfl rfl (cN rfl rfl) (RL.nil (ag ?_))
 refine RW.aN _ rfl (fun gg=>?_) (fun gg=>?_)
 refine RW.skip (ag (RW.block (RW.seq ?_)))
 have tT:rest≠[]:=by intro e;rw[e]at gg;simp at gg
 have Ar:k=(k-1)+1:=by have:=XC.2 tT;omega
 have Tc:(cp (rest,0) (l.length:Int)).2.length≤rest.length:=rf (rest,0) _
 refine RW.region ?_
 iterate 2 refine RL.ev rfl rfl U ?_
 have qn:=(hv.ext hN.aE).aY
 refine RL.ev rfl rfl (aQ U1 (hv.ext hN.aE) rfl) ?_
 refine RL.op rfl rfl (aR Tryz.func39 rfl rfl rfl rfl ((DU (b8.says hN 2 rfl) (Ii hN 2 rfl) (by omega) (by omega) (by show rest.length≤_;omega) (eta (cp (rest,0) ((l.length:Int))))).mono ?_))
 rintro _ w5 ⟨rfl,lr,Iy⟩
 replace hN:ak w none_ w5 [_,_,_]:=AZ hN 2 rfl lr Iy
 clear lr Iy
 refine RL.op rfl rfl (pF VO U1 Vu rfl (by(try simp only[UX,Vs,Vt,aS,cv,bR,cC,Vc,U6]);omega) hN ?_)
 clear hN
 intro v6 w6 (hN:ak w none_ w6 [_,_,_,_])
 refine RL.op rfl rfl (aM Tryz.func38 rfl rfl rfl ((zY _ ((cp (rest,0) ((l.length:Int))).2) _ (hN.C5 0 rfl) (by(try simp only[UX,Vs,Vt,aS,cv,bR,cC,Vc,U6]);omega)).mono ?_))
 intro r_ w7 ON
 rcases ON with⟨Ps,v7,rfl,cx,aW⟩|⟨Ps,rfl,aW⟩
 replace hN:ak w none_ w7 [_,_,_,_,_]:=hN.bx cx aW
 clear cx aW
 refine RL.ev rfl rfl U ?_
 iterate 2 refine RL.ev rfl rfl (bg rfl rfl) ?_
 iterate 2 refine RL.ev rfl rfl aa ?_
 refine RL.nil (ag ?_)
 iterate 2 refine RW.seq ?_
 refine RW.region (RL.ev rfl rfl U (RL.ev rfl rfl (cm (bp rfl rfl) (fun h=>h rfl)) (RL.ev rfl rfl U (RL.aI rfl rfl (by decide) rfl rfl U ?_))))
 refine RL.on rfl rfl (by decide) rfl rfl (aM Xm rfl rfl rfl ((eV _ _ _ ((cp (rest,0) ((l.length:Int))).1) _ (b8.says hN 4 rfl)).mono ?_))
 rintro _ _ ⟨rfl,rfl⟩
 refine RL.aI rfl rfl (by decide) rfl rfl (bp rfl rfl) (RL.ev rfl rfl (aH rfl) (RL.nil (ag ?_)))
 refine RW.aN _ rfl (fun hX=>?_) (fun hX=>?_)
 refine RW.seq ?_
 have Bh:parts l=none:=by
   rw[hp,Ar,jm tT (by first|exact .inl (by assumption)|exact .inr (by assumption))];rfl
 refine RW.region (RL.ev rfl rfl aa (RL.nil (ag (RW.exit (bm (dC (by decide) (bm (aO (ag ?_)))))))))
 iterate 2 refine RW.seq ?_
 refine RW.region (RL.ev rfl rfl U ?_)
 refine RL.op rfl rfl (aM Xm rfl rfl rfl ((eV _ _ _ ((cp (rest,0) ((l.length:Int))).1) _ (b8.says hN 4 rfl)).mono ?_))
 rintro _ _ ⟨rfl,rfl⟩
 refine RL.ev rfl rfl (bp rfl rfl) (RL.nil (ag ?_))
 refine RW.aN _ rfl (fun KL=>?_) (fun KL=>?_)
 refine RW.seq (RW.region (RL.ev rfl rfl aa (RL.nil (ag (RW.ret (aD (ry (aL (RV.tmp rfl) ?_))))))))
 have hq:bz l=[]:=by unfold bz;rw[Bh];rfl
 have tX:ak w none_ w7 [.own vh 38 (.slice none 0 0) [],.dT vb [] (bz l)]:=by
   rw[hq];exact((hN.sub (M:=[]) [] (by decide) rfl).fg vb).cj vh 38
 exact⟨_,tX⟩
 refine RW.skip (ag (RW.seq (RW.region (RL.ev rfl rfl U (RL.ev rfl rfl aa (RL.nil (ag (RW.ret (ry ?_)))))))))
 refine aL (RV.tmp rfl) ?_
 have hq:bz l=[]:=by unfold bz;rw[Bh];rfl
 have tX:ak w none_ w7 [.own vh 38 (.slice none 0 0) [],.dT vb [] (bz l)]:=by
   rw[hq];exact((hN.sub (M:=[]) [] (by decide) rfl).fg vb).cj vh 38
 exact⟨_,tX⟩
 refine RW.skip (ag (RW.region ?_))
 iterate 2 refine RL.ev rfl rfl U ?_
 have aw:=(hN.sl 0 rfl).hd
 obtain⟨CG,eM⟩:=aw
 subst eM
 refine RL.op rfl rfl (bS (enc:=vh) (l:=[CG]) (xs:=[.tmp 29]) VB fq Dq rfl rfl (fun _=>rfl) rfl (by decide) (by decide) hN ?_)
 clear hN
 intro tY jH (hN:ak w none_ jH [_,_,_,_,_,_])
 refine RL.op rfl rfl (bD VB Im rfl jT hN 3 rfl rfl (hN.sl 0 rfl) rfl (by(try simp only[UX,Vs,Vt,aS,cv,bR,cC,Vc,U6]);omega) (by decide) ?_)
 clear hN
 intro xx iP (hN:ak w none_ iP [_,_,_,_,_,_])
 replace hN:ak w none_ iP [_,_,_,_,_]:=ak.kV (L:=[_,_,_,_,_]) (hN.sub [1,0,2,3,4,5] (by decide) rfl) 3 rfl
 refine RL.ev rfl rfl aa (RL.nil (a7 (ag ?_)))
 have hg:=rh (Vi.1 hX)
 have Pp:=oY (k:=k-1) tT (Vi.1 hX) (by assumption)
 have Pn:parts l=(fz (l.length:Int) (k-1) (cp (rest,0) (l.length:Int)).1.1).map ((ls++[((cp (rest,0) ((l.length:Int))).2).take (((cp (rest,0) ((l.length:Int))).2).length-4)])++·):=by
   rw[hp,Ar,Pp,abd]
   congr 1;funext x;simp
 have T2:(cp (rest,0) (l.length:Int)).1=((cp (rest,0) (l.length:Int)).1.1,0):=V7 rfl (Vi.1 hX)
 rw[T2]at hN
 exact⟨k-1,by omega,(cp (rest,0) (l.length:Int)).1.1,ls++[((cp (rest,0) ((l.length:Int))).2).take (((cp (rest,0) ((l.length:Int))).2).length-4)],xx,hs++[CG],rfl,rfl,rfl,(hN.sub [2,3,4] (by decide) rfl),by omega,by omega,⟨by simp[wu.1],by rw[UX,U3];omega⟩,Pn⟩
 replace hN:=hN.ext aW
 clear aW
 refine RL.ev rfl rfl U ?_
 iterate 2 refine RL.ev rfl rfl (bg rfl rfl) ?_
 iterate 2 refine RL.ev rfl rfl aa ?_
 refine RL.nil (ag ?_)
 iterate 2 refine RW.seq ?_
 refine RW.region (RL.ev rfl rfl U (RL.ev rfl rfl (cS (bp rfl rfl) (by decide)) (RL.ev rfl rfl U ?_)))
 iterate 3 refine RL.off rfl rfl (by decide) rfl rfl ?_
 refine RL.ev rfl rfl (ao rfl) (RL.nil (ag (RW.bK rfl (RW.seq ?_))))
 have Bh:parts l=none:=by
   rw[hp,Ar,jm tT (by first|exact .inl (by assumption)|exact .inr (by assumption))];rfl
 refine RW.region (RL.ev rfl rfl aa (RL.nil (ag (RW.exit (bm (dC (by decide) (bm (aO (ag ?_)))))))))
 iterate 2 refine RW.seq ?_
 refine RW.region (RL.ev rfl rfl U ?_)
 refine RL.op rfl rfl (aM Xm rfl rfl rfl ((eV _ _ _ ((cp (rest,0) ((l.length:Int))).1) _ (b8.says hN 3 rfl)).mono ?_))
 rintro _ _ ⟨rfl,rfl⟩
 refine RL.ev rfl rfl (bp rfl rfl) (RL.nil (ag ?_))
 refine RW.aN _ rfl (fun KL=>?_) (fun KL=>?_)
 refine RW.seq (RW.region (RL.ev rfl rfl aa (RL.nil (ag (RW.ret (aD (ry (aL (RV.tmp rfl) ?_))))))))
 have hq:bz l=[]:=by unfold bz;rw[Bh];rfl
 have tX:ak w none_ w7 [.own vh 38 (.slice none 0 0) [],.dT vb [] (bz l)]:=by
   rw[hq];exact((hN.sub (M:=[]) [] (by decide) rfl).fg vb).cj vh 38
 exact⟨_,tX⟩
 refine RW.skip (ag (RW.seq (RW.region (RL.ev rfl rfl U (RL.ev rfl rfl aa (RL.nil (ag (RW.ret (ry ?_)))))))))
 refine aL (RV.tmp rfl) ?_
 have hq:bz l=[]:=by unfold bz;rw[Bh];rfl
 have tX:ak w none_ w7 [.own vh 38 (.slice none 0 0) [],.dT vb [] (bz l)]:=by
   rw[hq];exact((hN.sub (M:=[]) [] (by decide) rfl).fg vb).cj vh 38
 exact⟨_,tX⟩
 dsimp only at gg
 refine RW.exit ?_
 iterate 2 refine bm ?_
 refine aO (ag ?_)
 iterate 2 refine RW.seq ?_
 refine RW.region (RL.ev rfl rfl U ?_)
 refine RL.op rfl rfl (aM Xm rfl rfl rfl ((eV _ _ _ (rest,0) _ (b8.says hN 2 rfl)).mono ?_))
 rintro _ _ ⟨rfl,rfl⟩
 refine RL.ev rfl rfl (cm (bp rfl rfl) (fun h=>h rfl)) (RL.nil (ag (RW.dD rfl (RW.skip (ag (RW.seq (RW.region (RL.ev rfl rfl U (RL.ev rfl rfl aa ?_)))))))))
 refine RL.nil (ag (RW.ret (ry (aL (RV.tmp rfl) ?_))))
 have Pg:rest=[]:=Wg (by omega)
 have zq:parts l=some ls:=by rw[hp,Pg,nt];simp
 have hq:bz l=ls:=by unfold bz;rw[zq];rfl
 have tX:ak w none_ bT [.own vh 38 vo hs,.dT vb hs (bz l)]:=by
   rw[hq];exact hN.sub [0,1] (by decide) rfl
 exact⟨_,tX⟩
theorem lQ (v:Value) (l:List UInt8) (w:World) (hv:Sl vb w v l) (hl:l.length≤1048576):al UY 52 #[v] w fun r w'=>∃v hs,r=.tuple #[v,.bool (parts l).isSome]∧ak w none_ w' [.own vh 38 v hs,.dT vb hs (bz l)]:=by
 refine al.start aaL rfl (US rfl) ?_
 rw[bL]
 have hN:=ak.nil w none_
 have hB:=hv.below
 refine RW.seq (RW.region ?_)
 iterate 2 refine RL.ev rfl rfl aa ?_
 refine RL.nil (ag (RW.seq (RW.region (RL.ev rfl rfl aa (RL.nil (ag (RW.seq (RW.region (RL.ev rfl rfl U ?_)))))))))
 refine RL.ev rfl rfl (bh (cs:=[v,.int .i64 (0)]) Vk iq (places:=#[(0,1),(1,1)]) (by intro w;kernel_rfl) (pl:=[(0,.tmp 10)]) rfl (ps:=[(0,v)]) rfl (zc:=[.slice none 0 0,.int .i64 (0)]) rfl (aP (vs:=[v]) (hB.1.ext hN.aE).cO rfl (US rfl) rfl)) ?_
 refine RL.op rfl rfl (aX (cs:=[.slice none 0 0,.int .i64 (0)]) iq rfl hN ?_)
 clear hN
 intro g1 w1 (hN:ak w none_ w1 [_])
 refine RL.op rfl rfl (aC (vs:=[v,.int .i64 (0)]) cJ rfl rfl rfl (by intro u hu;simp only[U9,U2,or_false]at hu;rcases hu with rfl|rfl<;>first|rfl|exact(hB.1.ext hN.aE).bJ) hN 0 rfl rfl ?_)
 clear hN
 intro w2 (hN:ak w none_ w2 [_])
 replace hN:=hN.fg vb
 replace hN:=hN.cj vh 38
 refine RL.nil (ag (RW.seq (RW.block ?_)))
 refine RW.loop (fun k R0 bT=>∃rest:List UInt8,∃ls:List (List UInt8),∃xi:Value,∃vo:Value,∃hs:List Hd,R0 0=v∧R0 4=vo∧R0 5=.pointer (some ⟨g1,0,none⟩)∧ak w none_ bT [.own vh 38 (vo) (hs),.dT vb (hs) (ls),.aA g1 [xi,.int .i64 (0)] 169]∧(rest.length≤k)∧(rest.length≤l.length)∧(hs.length=ls.length∧hs.length+rest.length≤l.length)∧(parts l=(fz (l.length:Int) k rest).map (ls++·))∧(jD vb w.heap.size w xi rest)) (l.length) ?_ ?_
 exact⟨l,[],v,.slice none 0 0,[],rfl,rfl,rfl,hN,Vv _,Vv _,⟨rfl,by simp⟩,by unfold parts;simp,hB⟩
 clear hN
 rintro k R0 bT ⟨rest,ls,xi,vo,hs,bN,cg,bM,hN,Tn,qS,wu,hp,Kb⟩
 have bY:∃b6,R0=(aZ (aZ (aZ b6 0 _) 4 _) 5 _):=⟨R0,by rw[ai bN,ai cg,ai bM]⟩
 obtain⟨b6,rfl⟩:=bY
 clear bN cg bM
 iterate 2 refine RW.seq ?_
 refine RW.region (RL.ev rfl rfl (ah Vk rfl fq (by decide) rfl) (RL.ev rfl rfl (aj U1 rfl rfl (hN.aA 2 rfl) rfl) ?_))
 have mQ:=(Kb.1.ext hN.aE).aY
 refine RL.ev rfl rfl (aQ U1 (Kb.1.ext hN.aE) rfl) (RL.ev rfl rfl (cN rfl rfl) (RL.nil (ag ?_)))
 refine RW.aN _ rfl (fun gg=>?_) (fun gg=>?_)
 refine RW.skip (ag (RW.block (RW.seq ?_)))
 have tT:rest≠[]:=by intro e;rw[e]at gg;simp at gg
 have Ar:k=(k-1)+1:=by have:=XC.2 tT;omega
 have Tc:(cp (rest,0) (l.length:Int)).2.length≤rest.length:=rf (rest,0) _
 refine RW.region (RL.ev rfl rfl (aG (cs:=[xi,.int .i64 (0)]) Vk rfl cJ rfl (hN.aA 2 rfl)) (RL.ev rfl rfl U ?_))
 have qn:=(hB.1.ext hN.aE).aY
 refine RL.ev rfl rfl (aQ U1 (hB.1.ext hN.aE) rfl) ?_
 refine RL.op rfl rfl (aR abS rfl rfl rfl rfl ((nY _ _ (rest,0) ((l.length:Int)) _ (Kb.ext hN.aE) hN.size (by omega) (by omega)).mono ?_))
 rintro _ w5 ⟨x5,rfl,Gu,aW⟩
 replace hN:=hN.ext aW
 replace Gu:=Gu.back hN.aE (Vv _)
 clear aW
 refine RL.ev rfl rfl U ?_
 iterate 2 refine RL.ev rfl rfl (bg rfl rfl) ?_
 refine RL.op rfl rfl (aX (cs:=[.slice none 0 0,.int .i64 (0)]) iq rfl hN ?_)
 clear hN
 intro g6 w6 (hN:ak w none_ w6 [_,_,_,_])
 refine RL.op rfl rfl (aC (vs:=[x5,.int .i64 ((cp (rest,0) ((l.length:Int))).1.2)]) cJ rfl rfl rfl (by intro u hu;simp only[U9,U2,or_false]at hu;rcases hu with rfl|rfl<;>first|rfl|exact(Gu.1.ext hN.aE).bJ) hN 0 rfl rfl ?_)
 clear hN
 intro w7 (hN:ak w none_ w7 [_,_,_,_])
 refine RL.ev rfl rfl aa (RL.nil (ag (RW.seq (RW.region (RL.ev rfl rfl U ?_)))))
 refine RL.op rfl rfl (pF VO U1 Vu rfl (by(try simp only[UX,Vs,Vt,aS,cv,bR,cC,Vc,U6]);omega) hN ?_)
 clear hN
 intro v8 w8 (hN:ak w none_ w8 [_,_,_,_,_])
 refine RL.op rfl rfl (aM abR rfl rfl rfl ((tD _ ((cp (rest,0) ((l.length:Int))).2) _ (hN.C5 0 rfl) (by(try simp only[UX,Vs,Vt,aS,cv,bR,cC,Vc,U6]);omega)).mono ?_))
 intro r_ w9 ON
 rcases ON with⟨Pr,N1,aW⟩|⟨Pr,N1,aW⟩
 replace hN:=hN.ext aW
 have fo:=hN.LN 0 rfl (((cp (rest,0) ((l.length:Int))).2).length-4) (by omega)
 clear aW
 obtain⟨h9,eM⟩:=((hN.C5 0 rfl).nc (hi:=(((cp (rest,0) ((l.length:Int))).2).length-4)) (by omega)).hd
 rw[eM]at N1 fo
 subst N1
 clear hN
 have hN:ak w none_ w9 [_,_,_,_,_]:=fo
 clear fo
 refine RL.ev rfl rfl U ?_
 iterate 2 refine RL.ev rfl rfl (bg rfl rfl) ?_
 iterate 2 refine RL.ev rfl rfl aa ?_
 refine RL.nil (ag ?_)
 iterate 2 refine RW.seq ?_
 refine RW.region (RL.ev rfl rfl (ah Vk rfl bu (by decide) rfl) (RL.ev rfl rfl (aj UU rfl rfl (hN.aA 1 rfl) rfl) (RL.ev rfl rfl (bp rfl rfl) (RL.ev rfl rfl U ?_))))
 by_cases hX:¬(cp (rest,0) ((l.length:Int))).1.2=0
 rw[decide_eq_true hX]
 iterate 2 refine RL.off rfl rfl (by decide) rfl rfl ?_
 refine RL.ev rfl rfl (ao rfl) (RL.nil (ag (RW.bK rfl (RW.seq ?_))))
 have Bh:parts l=none:=by
   rw[hp,Ar,jm tT (by first|exact .inl (by assumption)|exact .inr (by assumption))];rfl
 refine RW.region ?_
 iterate 2 refine RL.ev rfl rfl aa ?_
 refine RL.nil (ag (RW.ret (aD (aJ (aD (aJ (aD (aL (RV.fR rfl) ?_))))))))
 have hq:bz l=[]:=by unfold bz;rw[Bh];rfl
 have tX:ak w none_ w9 [.own vh 38 (.slice none 0 0) [],.dT vb [] (bz l)]:=by
   rw[hq];exact((hN.sub (M:=[]) [] (by decide) rfl).fg vb).cj vh 38
 have hi:(parts l).isSome=false:=by rw[Bh];rfl
 rw[hi]
 exact⟨_,_,rfl,tX⟩
 rw[decide_eq_false hX]
 refine RL.aI rfl rfl (by decide) rfl rfl U (RL.aI rfl rfl (by decide) rfl rfl (cm (bp rfl rfl) (fun h=>h rfl)) (RL.ev rfl rfl (aH rfl) (RL.nil (ag (RW.dD rfl (RW.skip (ag (RW.seq (RW.region ?_)))))))))
 iterate 2 refine RL.ev rfl rfl U ?_
 refine RL.op rfl rfl (bS (enc:=vh) (l:=[h9]) (xs:=[.tmp 37]) VB fq Dq rfl rfl (fun _=>rfl) rfl (by decide) (by decide) hN ?_)
 clear hN
 intro tY jH (hN:ak w none_ jH [_,_,_,_,_,_])
 refine RL.op rfl rfl (bD VB Im rfl jT hN 3 rfl rfl (hN.sl 0 rfl) rfl (by(try simp only[UX,Vs,Vt,aS,cv,bR,cC,Vc,U6]);omega) (by decide) ?_)
 clear hN
 intro v11 jj (hN:ak w none_ jj [_,_,_,_,_,_])
 replace hN:ak w none_ jj [_,_,_,_,_]:=ak.y0 (L:=[_,_,_,_,_]) (hN.sub [1,0,2,3,4,5] (by decide) rfl) 3 rfl
 refine RL.ev rfl rfl aa (RL.nil (ag (RW.region (RL.ev rfl rfl (aG (cs:=[x5,.int .i64 ((cp (rest,0) ((l.length:Int))).1.2)]) Vk rfl cJ rfl (hN.aA 1 rfl)) ?_))))
 refine RL.op rfl rfl (aC (vs:=[x5,.int .i64 ((cp (rest,0) ((l.length:Int))).1.2)]) cJ rfl rfl rfl (by intro u hu;simp only[U9,U2,or_false]at hu;rcases hu with rfl|rfl<;>first|rfl|exact(Gu.1.ext hN.aE).bJ) hN 4 rfl rfl ?_)
 clear hN
 intro iP (hN:ak w none_ iP [_,_,_,_,_])
 refine RL.nil (a7 (ag ?_))
 have hg:=rh (Vi.1 hX)
 have Pp:=oY (k:=k-1) tT (Vi.1 hX) (by assumption)
 have Pn:parts l=(fz (l.length:Int) (k-1) (cp (rest,0) (l.length:Int)).1.1).map ((ls++[((cp (rest,0) ((l.length:Int))).2).take (((cp (rest,0) ((l.length:Int))).2).length-4)])++·):=by
   rw[hp,Ar,Pp,abd]
   congr 1;funext x;simp
 have S1:(cp (rest,0) (l.length:Int)).1.2=0:=Vi.1 hX
 rw[S1]at hN
 exact⟨k-1,by omega,(cp (rest,0) (l.length:Int)).1.1,ls++[((cp (rest,0) ((l.length:Int))).2).take (((cp (rest,0) ((l.length:Int))).2).length-4)],x5,v11,hs++[h9],rfl,rfl,rfl,(hN.sub [2,3,4] (by decide) rfl),by omega,by omega,⟨by simp[wu.1],by rw[UX,U3];omega⟩,Pn,Gu⟩
 subst N1
 replace hN:=hN.ext aW
 clear aW
 refine RL.ev rfl rfl U ?_
 iterate 2 refine RL.ev rfl rfl (bg rfl rfl) ?_
 iterate 2 refine RL.ev rfl rfl aa ?_
 refine RL.nil (ag ?_)
 iterate 2 refine RW.seq ?_
 refine RW.region (RL.ev rfl rfl (ah Vk rfl bu (by decide) rfl) (RL.ev rfl rfl (aj UU rfl rfl (hN.aA 1 rfl) rfl) (RL.ev rfl rfl (bp rfl rfl) (RL.ev rfl rfl U ?_))))
 by_cases hX:¬(cp (rest,0) ((l.length:Int))).1.2=0
 rw[decide_eq_true hX]
 iterate 2 refine RL.off rfl rfl (by decide) rfl rfl ?_
 refine RL.ev rfl rfl (ao rfl) (RL.nil (ag (RW.bK rfl (RW.seq ?_))))
 have Bh:parts l=none:=by
   rw[hp,Ar,jm tT (by first|exact .inl (by assumption)|exact .inr (by assumption))];rfl
 refine RW.region ?_
 iterate 2 refine RL.ev rfl rfl aa ?_
 refine RL.nil (ag (RW.ret (aD (aJ (aD (aJ (aD (aL (RV.fR rfl) ?_))))))))
 have hq:bz l=[]:=by unfold bz;rw[Bh];rfl
 have tX:ak w none_ w9 [.own vh 38 (.slice none 0 0) [],.dT vb [] (bz l)]:=by
   rw[hq];exact((hN.sub (M:=[]) [] (by decide) rfl).fg vb).cj vh 38
 have hi:(parts l).isSome=false:=by rw[Bh];rfl
 rw[hi]
 exact⟨_,_,rfl,tX⟩
 rw[decide_eq_false hX]
 refine RL.aI rfl rfl (by decide) rfl rfl U (RL.aI rfl rfl (by decide) rfl rfl (cS (bp rfl rfl) (by decide)) (RL.ev rfl rfl (aH rfl) (RL.nil (ag (RW.bK rfl (RW.seq ?_))))))
 have Bh:parts l=none:=by
   rw[hp,Ar,jm tT (by first|exact .inl (by assumption)|exact .inr (by assumption))];rfl
 refine RW.region ?_
 iterate 2 refine RL.ev rfl rfl aa ?_
 refine RL.nil (ag (RW.ret (aD (aJ (aD (aJ (aD (aL (RV.fR rfl) ?_))))))))
 have hq:bz l=[]:=by unfold bz;rw[Bh];rfl
 have tX:ak w none_ w9 [.own vh 38 (.slice none 0 0) [],.dT vb [] (bz l)]:=by
   rw[hq];exact((hN.sub (M:=[]) [] (by decide) rfl).fg vb).cj vh 38
 have hi:(parts l).isSome=false:=by rw[Bh];rfl
 rw[hi]
 exact⟨_,_,rfl,tX⟩
 refine RW.exit ?_
 iterate 2 refine bm ?_
 refine aO (ag (RW.seq (RW.region (RL.ev rfl rfl U ?_))))
 iterate 2 refine RL.ev rfl rfl aa ?_
 refine RL.nil (ag (RW.ret (aL (RV.fR rfl) ?_)))
 have Pg:rest=[]:=Wg (by omega)
 have zq:parts l=some ls:=by rw[hp,Pg,nt];simp
 have hq:bz l=ls:=by unfold bz;rw[zq];rfl
 have tX:ak w none_ bT [.own vh 38 vo hs,.dT vb hs (bz l)]:=by
   rw[hq];exact hN.sub [0,1] (by decide) rfl
 have hi:(parts l).isSome=true:=by rw[zq];rfl
 rw[hi]
 exact⟨_,_,rfl,tX⟩
end Go.Proofs.YtngkdkbpgoddlaaGreat
namespace Go.Proofs.YtngkdkbpgoddlaaGreat
open Go.RowKit Go.Rl
open Go.Gr Go.cP Go.hO
theorem gC (lo hi g gr:Nat) (m:Int) (bd:Bool) (s:St) (w:World) (hN:ak w (aT [.aA gr [.pointer (some ⟨g,0,none⟩),.int .i64 (m),.bool (bd)] 89,b8 142 lo hi g s]) w [.aA gr [.pointer (some ⟨g,0,none⟩),.int .i64 (m),.bool (bd)] 89,b8 142 lo hi g s]) (iM:0≤m) (fZ:m≤1048576) (j5:s.1.length≤1048576):al UY 95 #[.pointer (some ⟨gr,0,none⟩)] w fun r w'=>ak w (aT [.aA gr [.pointer (some ⟨g,0,none⟩),.int .i64 (m),.bool (bd)] 89,b8 142 lo hi g s]) w' [.own vi 3 r (bO s m).2,.aA gr [.pointer (some ⟨g,0,none⟩),.int .i64 (m),.bool (bd)] 89,b8 142 lo hi g ((bO s m).1)]:=by
 refine al.start Xc rfl (US rfl) ?_
 rw[bL]
 refine RW.seq (RW.region (RL.ev (v:=.slice none 0 0) rfl rfl aa (RL.nil (ag (RW.seq ?_)))))
 replace hN:=hN.ext (Ext.drew w)
 refine RW.cb rfl (fun u=>ak w (aT [.aA gr [.pointer (some ⟨g,0,none⟩),.int .i64 (m),.bool (bd)] 89,b8 142 lo hi g s]) u [.aA gr [.pointer (some ⟨g,0,none⟩),.int .i64 (m),.bool (bd)] 89]) 10 [(0,0),(1,0),(2,0),(3,0),(4,0),(5,0),(6,0),(7,0),(8,1),(9,0)] (by intro _ _ _ h;exact h) (by kernel_rfl) (hN.sub [0] (by decide) rfl) (RQ.ev (v:=.pointer (some ⟨gr,0,none⟩)) rfl rfl (fun w hS=>U) (RQ.ev rfl rfl (fun w hS=>(bt rfl)) (RQ.ev rfl rfl (fun w hS=>(ah VI rfl BV (by decide) rfl)) (RQ.ev rfl rfl (fun w hS=>(aj Wq rfl rfl (hS.aA 0 rfl) rfl)) (RQ.ev (v:=.pointer (some ⟨gr,0,none⟩)) rfl rfl (fun w hS=>U) (RQ.ev rfl rfl (fun w hS=>(bt rfl)) (RQ.ev rfl rfl (fun w hS=>(ah VI rfl bu (by decide) rfl)) (RQ.ev rfl rfl (fun w hS=>(aj UU rfl rfl (hS.aA 0 rfl) rfl)) ?_))))))))
 refine RQ.do rfl rfl (aR abG rfl rfl rfl rfl ((DW (b8.says hN 1 rfl) (Ii hN 1 rfl) (by omega) (by omega) (by omega) (eta (bO s (m)))).mono ?_))
 rintro v1 w1 ⟨cx,lr,Iy⟩
 replace hN:ak w (aT [.aA gr [.pointer (some ⟨g,0,none⟩),.int .i64 (m),.bool (bd)] 89,b8 142 lo hi g s]) w1 [_,_,_]:=JD hN 1 rfl cx lr Iy
 clear cx lr Iy
 refine⟨(hN.sub [1] (by decide) rfl),?_⟩
 refine RQ.ev (v:=v1) rfl rfl (fun w hS=>aa) (RQ.done (by kernel_rfl) (ag (RW.ret (aL (RV.tmp rfl) ?_))))
 exact hN.sub [0,1,2] (by decide) rfl
theorem r7 {m:Int} {s:St} {bd:Bool} (h:qf m (bO s m).2=none):er m (s,bd)=(((bO s m).1,true),0):=by
  unfold er dn;simp only[h]
theorem Hs {m:Int} {s:St} {bd:Bool} {n:Nat} (h:qf m (bO s m).2=some n):er m (s,bd)=(((bO s m).1,bd),n):=by
  unfold er dn;simp only[h]
theorem vU {m:Int} {l:List Int} (h:¬l.length=1):qf m l=none:=by
  unfold qf
  split
  · exact absurd rfl h
  · rfl
theorem vV {m x:Int} {l:List Int} (hl:l.length=1) (hx:l[0]?=some x) (h:x<0∨m<x):qf m l=none:=by
  match l,hl,hx with
  |[y],_,hx=>cases hx;unfold qf;simp only;rw[if_pos h]
theorem JL {m x:Int} {l:List Int} (hl:l.length=1) (hx:l[0]?=some x) (h:¬(x<0∨m<x)):qf m l=some x.toNat:=by
  match l,hl,hx with
  |[y],_,hx=>cases hx;unfold qf;simp only;rw[if_neg h]
theorem xN (lo hi g gr:Nat) (m:Int) (bd:Bool) (s:St) (w:World) (hN:ak w (aT [.aA gr [.pointer (some ⟨g,0,none⟩),.int .i64 (m),.bool (bd)] 89,b8 142 lo hi g s]) w [.aA gr [.pointer (some ⟨g,0,none⟩),.int .i64 (m),.bool (bd)] 89,b8 142 lo hi g s]) (iM:0≤m) (fZ:m≤1048576) (j5:s.1.length≤1048576):al UY 158 #[.pointer (some ⟨gr,0,none⟩)] w fun r w'=>r=.int .i64 (((er m (s,bd)).2:Nat):Int)∧ak w (aT [.aA gr [.pointer (some ⟨g,0,none⟩),.int .i64 (m),.bool (bd)] 89,b8 142 lo hi g s]) w' [.aA gr [.pointer (some ⟨g,0,none⟩),.int .i64 (m),.bool ((er m (s,bd)).1.2)] 89,b8 142 lo hi g ((er m (s,bd)).1.1)]:=by
 refine al.start aak rfl (US rfl) ?_
 rw[bL]
 refine RW.seq (RW.region (RL.ev (v:=.int .i64 (0)) rfl rfl aa (RL.nil (ag (RW.seq (RW.region (RL.ev (v:=.pointer (some ⟨gr,0,none⟩)) rfl rfl U ?_)))))))
 refine RL.op rfl rfl (aM Xc rfl rfl rfl ((gC lo hi g gr m (bd) s _ (hN.bZ (M:=[_,_]) [0,1] (by decide) rfl) (by omega) (by omega) (by omega)).mono ?_))
 rintro v1 w1 bE
 replace hN:ak w (aT [.aA gr [.pointer (some ⟨g,0,none⟩),.int .i64 (m),.bool (bd)] 89,b8 142 lo hi g s]) w1 [_,_,_]:=ak.bX (M:=[_,_]) (N:=[]) (hN.sub [0,1] (by decide) rfl) bE
 clear bE
 refine RL.ev (v:=v1) rfl rfl aa (RL.nil (ag ?_))
 iterate 2 refine RW.seq ?_
 by_cases Al:((bO s m).2.length:Int)=1
 have QY:(bO s m).2.length=1:=by omega
 have aw:∃a_,(bO s m).2[0]?=some a_:=⟨_,UT (by omega)⟩
 obtain⟨ap,bG⟩:=aw
 replace hN:=hN.ext (Ext.drew w1)
 refine RW.cb rfl (fun u=>ak w (aT [.aA gr [.pointer (some ⟨g,0,none⟩),.int .i64 (m),.bool (bd)] 89,b8 142 lo hi g s]) u [.own vi 3 (v1) ((bO s m).2),.aA gr [.pointer (some ⟨g,0,none⟩),.int .i64 (m),.bool (bd)] 89,b8 142 lo hi g ((bO s m).1)]) 19 [(0,0),(1,0),(2,0),(3,0),(4,0),(5,0),(6,0),(7,0),(8,0),(9,0),(10,0),(11,0),(12,0),(13,0),(14,0),(15,0),(16,0),(17,0),(18,0)] (by intro _ _ _ h;exact h) (by kernel_rfl) hN (RQ.ev (v:=v1) rfl rfl (fun w hS=>U) ?_)
 have jb:=(hN.sl 0 rfl).aY
 refine RQ.ev rfl rfl (fun w hS=>(aQ UW (hS.sl 0 rfl) rfl)) (RQ.ev rfl rfl (fun w hS=>(cm (bp rfl rfl) (fun h=>h Al))) (RQ.ev (v:=.bool false) rfl rfl (fun w hS=>U) (RQ.on (v:=v1) rfl rfl rfl rfl (fun w hS=>U) (RQ.on rfl rfl rfl rfl (fun w hS=>(aB UW bu (hS.sl 0 rfl) rfl rfl (by omega) (by omega))) (RQ.on rfl rfl rfl rfl (fun w hS=>(aF (m:=0) (a:=ap) UU rfl (hS.sl 0 rfl) rfl bG)) (RQ.on rfl rfl rfl rfl (fun w hS=>(aV rfl rfl)) (RQ.ev (v:=.bool (decide (ap<0))) rfl rfl (fun w hS=>(aH rfl)) (RQ.ev (v:=.bool (decide (ap<0))) rfl rfl (fun w hS=>U) ?_))))))))
 by_cases yG:ap<0
 rw[decide_eq_true yG]
 iterate 8 refine RQ.off rfl rfl rfl rfl ?_
 refine RQ.ev (v:=.bool true) rfl rfl (fun w hS=>(ao rfl)) (RQ.done (by kernel_rfl) (ag (RW.bK rfl (RW.seq (RW.region (RL.ev (v:=.pointer (some ⟨gr,0,none⟩)) rfl rfl U (RL.ev rfl rfl (bt rfl) (RL.ev rfl rfl (ah VI rfl np (by decide) rfl) ?_))))))))
 refine RL.op rfl rfl (b9 np rfl rfl rfl rfl hN 1 rfl (US rfl) ?_)
 clear hN
 intro w4 (hN:ak w (aT [.aA gr [.pointer (some ⟨g,0,none⟩),.int .i64 (m),.bool (bd)] 89,b8 142 lo hi g s]) w4 [_,_,_])
 refine RL.nil (ag (RW.seq (RW.region (RL.ev (v:=.int .i64 (0)) rfl rfl aa (RL.nil (ag (RW.ret (aD (aL (RV.tmp rfl) ?_)))))))))
 have eM:(er m (s,bd))=(((bO s m).1,true),0):=r7 (by first|exact vU (by omega)|exact vV (by omega) bG (by omega))
 rw[eM]
 exact⟨rfl,hN.sub [1,2] (by decide) rfl⟩
 rw[decide_eq_false yG]
 refine RQ.on (v:=v1) rfl rfl rfl rfl (fun w hS=>U) (RQ.on rfl rfl rfl rfl (fun w hS=>(aB UW bu (hS.sl 0 rfl) rfl rfl (by omega) (by omega))) (RQ.on rfl rfl rfl rfl (fun w hS=>(aF (m:=0) (a:=ap) UU rfl (hS.sl 0 rfl) rfl bG)) (RQ.on (v:=.pointer (some ⟨gr,0,none⟩)) rfl rfl rfl rfl (fun w hS=>U) (RQ.on rfl rfl rfl rfl (fun w hS=>(bt rfl)) (RQ.on rfl rfl rfl rfl (fun w hS=>(ah VI rfl bu (by decide) rfl)) (RQ.on rfl rfl rfl rfl (fun w hS=>(aj UU rfl rfl (hS.aA 1 rfl) rfl)) (RQ.on rfl rfl rfl rfl (fun w hS=>(cN rfl rfl)) (RQ.ev (v:=.bool (decide (m<ap))) rfl rfl (fun w hS=>(aH rfl)) (RQ.done (by kernel_rfl) ?_)))))))))
 refine ag ?_
 refine RW.aN _ rfl (fun Qe=>?_) (fun Qe=>?_)
 refine RW.seq (RW.region (RL.ev (v:=.pointer (some ⟨gr,0,none⟩)) rfl rfl U (RL.ev rfl rfl (bt rfl) (RL.ev rfl rfl (ah VI rfl np (by decide) rfl) ?_))))
 refine RL.op rfl rfl (b9 np rfl rfl rfl rfl hN 1 rfl (US rfl) ?_)
 clear hN
 intro w6 (hN:ak w (aT [.aA gr [.pointer (some ⟨g,0,none⟩),.int .i64 (m),.bool (bd)] 89,b8 142 lo hi g s]) w6 [_,_,_])
 refine RL.nil (ag (RW.seq (RW.region (RL.ev (v:=.int .i64 (0)) rfl rfl aa (RL.nil (ag (RW.ret (aD (aL (RV.tmp rfl) ?_)))))))))
 have eM:(er m (s,bd))=(((bO s m).1,true),0):=r7 (by first|exact vU (by omega)|exact vV (by omega) bG (by omega))
 rw[eM]
 exact⟨rfl,hN.sub [1,2] (by decide) rfl⟩
 refine RW.skip (ag (RW.seq (RW.region (RL.ev (v:=v1) rfl rfl U (RL.ev rfl rfl (aB UW bu (hN.sl 0 rfl) rfl rfl (by omega) (by omega)) (RL.ev rfl rfl (aF (m:=0) (a:=ap) UU rfl (hN.sl 0 rfl) rfl bG) (RL.ev (v:=.int .i64 (ap)) rfl rfl aa (RL.nil (ag ?_)))))))))
 refine RW.ret (aL (RV.tmp rfl) ?_)
 have eM:(er m (s,bd))=(((bO s m).1,bd),ap.toNat):=Hs (JL (by omega) bG (by omega))
 rw[eM]
 exact⟨congrArg (Vn .i64) (by omega),hN.sub [1,2] (by decide) rfl⟩
 replace hN:=hN.ext (Ext.drew w1)
 refine RW.cb rfl (fun u=>ak w (aT [.aA gr [.pointer (some ⟨g,0,none⟩),.int .i64 (m),.bool (bd)] 89,b8 142 lo hi g s]) u [.own vi 3 (v1) ((bO s m).2),.aA gr [.pointer (some ⟨g,0,none⟩),.int .i64 (m),.bool (bd)] 89,b8 142 lo hi g ((bO s m).1)]) 19 [(0,0),(1,0),(2,0),(3,0),(4,0),(5,0),(6,0),(7,0),(8,0),(9,0),(10,0),(11,0),(12,0),(13,0),(14,0),(15,0),(16,0),(17,0),(18,0)] (by intro _ _ _ h;exact h) (by kernel_rfl) hN (RQ.ev (v:=v1) rfl rfl (fun w hS=>U) ?_)
 have KU:=(hN.sl 0 rfl).aY
 refine RQ.ev rfl rfl (fun w hS=>(aQ UW (hS.sl 0 rfl) rfl)) (RQ.ev rfl rfl (fun w hS=>(cS (bp rfl rfl) Al)) (RQ.ev (v:=.bool true) rfl rfl (fun w hS=>U) ?_))
 iterate 4 refine RQ.off rfl rfl rfl rfl ?_
 refine RQ.ev (v:=.bool true) rfl rfl (fun w hS=>(ao rfl)) (RQ.ev (v:=.bool true) rfl rfl (fun w hS=>U) ?_)
 iterate 8 refine RQ.off rfl rfl rfl rfl ?_
 refine RQ.ev (v:=.bool true) rfl rfl (fun w hS=>(ao rfl)) (RQ.done (by kernel_rfl) (ag (RW.bK rfl (RW.seq (RW.region (RL.ev (v:=.pointer (some ⟨gr,0,none⟩)) rfl rfl U (RL.ev rfl rfl (bt rfl) (RL.ev rfl rfl (ah VI rfl np (by decide) rfl) ?_))))))))
 refine RL.op rfl rfl (b9 np rfl rfl rfl rfl hN 1 rfl (US rfl) ?_)
 clear hN
 intro w9 (hN:ak w (aT [.aA gr [.pointer (some ⟨g,0,none⟩),.int .i64 (m),.bool (bd)] 89,b8 142 lo hi g s]) w9 [_,_,_])
 refine RL.nil (ag (RW.seq (RW.region (RL.ev (v:=.int .i64 (0)) rfl rfl aa (RL.nil (ag (RW.ret (aD (aL (RV.tmp rfl) ?_)))))))))
 have eM:(er m (s,bd))=(((bO s m).1,true),0):=r7 (by first|exact vU (by omega)|exact vV (by omega) bG (by omega))
 rw[eM]
 exact⟨rfl,hN.sub [1,2] (by decide) rfl⟩
end Go.Proofs.YtngkdkbpgoddlaaGreat
namespace Go.Proofs.YtngkdkbpgoddlaaGreat
open Go.RowKit Go.Rl
open Go.Gr Go.cP Go.hO
theorem x9 (lv:Value) (l:List Int) (w:World) (hl:Sl vi w lv l) (hlen:l.length=3):al UY 97 #[lv] w fun r w'=>r=.agg #[.int .i64 (lT l).1,.int .i64 (lT l).2.1,.int .i64 (lT l).2.2]∧Ext w w':=by
 refine al.start Tryz.func97 rfl (US rfl) ?_
 rw[bL]
 have hN:=ak.nil w none_
 obtain⟨x0,qR⟩:∃a_,l[0]?=some a_:=⟨_,UT (by omega)⟩
 obtain⟨x1,qQ⟩:∃a_,l[1]?=some a_:=⟨_,UT (by omega)⟩
 obtain⟨x2,Io⟩:∃a_,l[2]?=some a_:=⟨_,UT (by omega)⟩
 refine RW.seq (RW.region ?_)
 refine RL.op rfl rfl (aX (cs:=[.int .i64 (0),.int .i64 (0),.int .i64 (0)]) eo rfl hN ?_)
 clear hN
 intro g1 w1 (hN:ak w none_ w1 [_])
 refine RL.nil (ag (RW.seq ?_))
 replace hN:=hN.ext (Ext.drew w1)
 refine RW.cb rfl (fun u=>ak w none_ u []) 11 [(0,0),(1,0),(2,0),(3,0),(4,0),(5,0),(6,0),(7,0),(8,0),(9,0),(10,1)] (by intro _ _ _ h;exact h) (by kernel_rfl) (hN.sub [] (by decide) rfl) (RQ.ev (v:=lv) rfl rfl (fun w hS=>U) (RQ.ev rfl rfl (fun w hS=>(aB UW bu (hl.o.now hS) rfl rfl (by omega) (by omega))) (RQ.ev rfl rfl (fun w hS=>(aF (m:=0) (a:=x0) UU rfl (hl.o.now hS) rfl qR)) (RQ.ev (v:=lv) rfl rfl (fun w hS=>U) (RQ.ev rfl rfl (fun w hS=>(aB UW bu (hl.o.now hS) rfl rfl (by omega) (by omega))) (RQ.ev rfl rfl (fun w hS=>(aF (m:=1) (a:=x1) UU rfl (hl.o.now hS) rfl qQ)) (RQ.ev (v:=lv) rfl rfl (fun w hS=>U) (RQ.ev rfl rfl (fun w hS=>(aB UW bu (hl.o.now hS) rfl rfl (by omega) (by omega))) (RQ.ev rfl rfl (fun w hS=>(aF (m:=2) (a:=x2) UU rfl (hl.o.now hS) rfl Io)) ?_)))))))))
 refine RQ.ev rfl rfl (fun w hS=>(bh (cs:=[.int .i64 (x0),.int .i64 (x1),.int .i64 (x2)]) Ve eo (places:=#[(0,1),(1,1),(2,1)]) (by intro w;kernel_rfl) (pl:=[(0,.tmp 5),(1,.tmp 8),(2,.tmp 11)]) rfl (ps:=[(0,.int .i64 (x0)),(1,.int .i64 (x1)),(2,.int .i64 (x2))]) rfl (zc:=[.int .i64 (0),.int .i64 (0),.int .i64 (0)]) rfl (aP (vs:=[.int .i64 (x0)]) rfl rfl (US rfl) (aP (vs:=[.int .i64 (x1)]) rfl rfl (US rfl) (aP (vs:=[.int .i64 (x2)]) rfl rfl (US rfl) rfl))))) ?_
 refine RQ.do rfl rfl (aC (vs:=[.int .i64 (x0),.int .i64 (x1),.int .i64 (x2)]) cq rfl rfl rfl (by intro u hu;simp only[U9,U2,or_false]at hu;rcases hu with rfl|rfl|rfl<;>first|rfl) hN 0 rfl rfl ?_)
 clear hN
 intro w5 (hN:ak w none_ w5 [_])
 refine⟨(hN.sub [] (by decide) rfl),?_⟩
 refine RQ.done (by kernel_rfl) (ag (RW.ret (aL (RV.cell rfl rfl (hN.aA 0 rfl) Ve rfl cq) ?_)))
 exact⟨by unfold lT;rw[qR,qQ,Io];rfl,hN.aE⟩
theorem tP (lv:Value) (l:List Int) (w:World) (hl:Sl vi w lv l) (hlen:l.length=5):al UY 99 #[lv] w fun r w'=>r=.agg #[.int .i64 (jF l).1,.int .i64 (jF l).2.1,.int .i64 (jF l).2.2.1,.int .i64 (jF l).2.2.2.1,.int .i64 (jF l).2.2.2.2]∧Ext w w':=by
 refine al.start Tryz.func99 rfl (US rfl) ?_
 rw[bL]
 have hN:=ak.nil w none_
 obtain⟨x0,qR⟩:∃a_,l[0]?=some a_:=⟨_,UT (by omega)⟩
 obtain⟨x1,qQ⟩:∃a_,l[1]?=some a_:=⟨_,UT (by omega)⟩
 obtain⟨x2,Io⟩:∃a_,l[2]?=some a_:=⟨_,UT (by omega)⟩
 obtain⟨x3,Q0⟩:∃a_,l[3]?=some a_:=⟨_,UT (by omega)⟩
 obtain⟨x4,QZ⟩:∃a_,l[4]?=some a_:=⟨_,UT (by omega)⟩
 refine RW.seq (RW.region ?_)
 refine RL.op rfl rfl (aX (cs:=[.int .i64 (0),.int .i64 (0),.int .i64 (0),.int .i64 (0),.int .i64 (0)]) ft rfl hN ?_)
 clear hN
 intro g1 w1 (hN:ak w none_ w1 [_])
 refine RL.nil (ag (RW.seq ?_))
 replace hN:=hN.ext (Ext.drew w1)
 refine RW.cb rfl (fun u=>ak w none_ u []) 18 [(0,0),(1,0),(2,0),(3,0),(4,0),(5,0),(6,0),(7,0),(8,0),(9,0),(10,0),(11,0),(12,0),(13,0),(14,0),(15,0),(16,0),(17,1)] (by intro _ _ _ h;exact h) (by kernel_rfl) (hN.sub [] (by decide) rfl) (RQ.ev (v:=lv) rfl rfl (fun w hS=>U) (RQ.ev rfl rfl (fun w hS=>(aB UW bu (hl.o.now hS) rfl rfl (by omega) (by omega))) (RQ.ev rfl rfl (fun w hS=>(aF (m:=0) (a:=x0) UU rfl (hl.o.now hS) rfl qR)) (RQ.ev (v:=lv) rfl rfl (fun w hS=>U) (RQ.ev rfl rfl (fun w hS=>(aB UW bu (hl.o.now hS) rfl rfl (by omega) (by omega))) (RQ.ev rfl rfl (fun w hS=>(aF (m:=1) (a:=x1) UU rfl (hl.o.now hS) rfl qQ)) (RQ.ev (v:=lv) rfl rfl (fun w hS=>U) (RQ.ev rfl rfl (fun w hS=>(aB UW bu (hl.o.now hS) rfl rfl (by omega) (by omega))) (RQ.ev rfl rfl (fun w hS=>(aF (m:=2) (a:=x2) UU rfl (hl.o.now hS) rfl Io)) ?_)))))))))
 refine RQ.ev (v:=lv) rfl rfl (fun w hS=>U) (RQ.ev rfl rfl (fun w hS=>(aB UW bu (hl.o.now hS) rfl rfl (by omega) (by omega))) (RQ.ev rfl rfl (fun w hS=>(aF (m:=3) (a:=x3) UU rfl (hl.o.now hS) rfl Q0)) (RQ.ev (v:=lv) rfl rfl (fun w hS=>U) (RQ.ev rfl rfl (fun w hS=>(aB UW bu (hl.o.now hS) rfl rfl (by omega) (by omega))) (RQ.ev rfl rfl (fun w hS=>(aF (m:=4) (a:=x4) UU rfl (hl.o.now hS) rfl QZ)) (RQ.ev rfl rfl (fun w hS=>(bh (cs:=[.int .i64 (x2),.int .i64 (x3),.int .i64 (x4)]) Vj Du (places:=#[(0,1),(1,1),(2,1)]) (by intro w;kernel_rfl) (pl:=[(0,.tmp 11),(1,.tmp 14),(2,.tmp 17)]) rfl (ps:=[(0,.int .i64 (x2)),(1,.int .i64 (x3)),(2,.int .i64 (x4))]) rfl (zc:=[.int .i64 (0),.int .i64 (0),.int .i64 (0)]) rfl (aP (vs:=[.int .i64 (x2)]) rfl rfl (US rfl) (aP (vs:=[.int .i64 (x3)]) rfl rfl (US rfl) (aP (vs:=[.int .i64 (x4)]) rfl rfl (US rfl) rfl))))) (RQ.ev rfl rfl (fun w hS=>(bh (cs:=[.int .i64 (x0),.int .i64 (x1),.int .i64 (x2),.int .i64 (x3),.int .i64 (x4)]) U0 ft (places:=#[(0,1),(1,1),(2,3)]) (by intro w;kernel_rfl) (pl:=[(0,.tmp 5),(1,.tmp 8),(2,.tmp 18)]) rfl (ps:=[(0,.int .i64 (x0)),(1,.int .i64 (x1)),(2,.agg #[.int .i64 (x2),.int .i64 (x3),.int .i64 (x4)])]) rfl (zc:=[.int .i64 (0),.int .i64 (0),.int .i64 (0),.int .i64 (0),.int .i64 (0)]) rfl (aP (vs:=[.int .i64 (x0)]) rfl rfl (US rfl) (aP (vs:=[.int .i64 (x1)]) rfl rfl (US rfl) (aP (vs:=[.int .i64 (x2),.int .i64 (x3),.int .i64 (x4)]) rfl rfl (US rfl) rfl))))) ?_)))))))
 refine RQ.do rfl rfl (aC (vs:=[.int .i64 (x0),.int .i64 (x1),.int .i64 (x2),.int .i64 (x3),.int .i64 (x4)]) dj rfl rfl rfl (by intro u hu;simp only[U9,U2,or_false]at hu;rcases hu with rfl|rfl|rfl|rfl|rfl<;>first|rfl) hN 0 rfl rfl ?_)
 clear hN
 intro w7 (hN:ak w none_ w7 [_])
 refine⟨(hN.sub [] (by decide) rfl),?_⟩
 refine RQ.done (by kernel_rfl) (ag (RW.ret (aL (RV.cell rfl rfl (hN.aA 0 rfl) U0 rfl dj) ?_)))
 exact⟨by unfold jF;rw[qR,qQ,Io,Q0,QZ];rfl,hN.aE⟩
theorem tQ (lv:Value) (l:List Int) (w:World) (hl:Sl vi w lv l) (hlen:l.length=2):al UY 102 #[lv] w fun r w'=>r=.agg #[.int .i64 (iQ l).1,.int .i64 (iQ l).2]∧Ext w w':=by
 refine al.start abU rfl (US rfl) ?_
 rw[bL]
 have hN:=ak.nil w none_
 obtain⟨x0,qR⟩:∃a_,l[0]?=some a_:=⟨_,UT (by omega)⟩
 obtain⟨x1,qQ⟩:∃a_,l[1]?=some a_:=⟨_,UT (by omega)⟩
 refine RW.seq (RW.region ?_)
 refine RL.op rfl rfl (aX (cs:=[.int .i64 (0),.int .i64 (0)]) my rfl hN ?_)
 clear hN
 intro g1 w1 (hN:ak w none_ w1 [_])
 refine RL.nil (ag (RW.seq ?_))
 replace hN:=hN.ext (Ext.drew w1)
 refine RW.cb rfl (fun u=>ak w none_ u []) 8 [(0,0),(1,0),(2,0),(3,0),(4,0),(5,0),(6,0),(7,1)] (by intro _ _ _ h;exact h) (by kernel_rfl) (hN.sub [] (by decide) rfl) (RQ.ev (v:=lv) rfl rfl (fun w hS=>U) (RQ.ev rfl rfl (fun w hS=>(aB UW bu (hl.o.now hS) rfl rfl (by omega) (by omega))) (RQ.ev rfl rfl (fun w hS=>(aF (m:=0) (a:=x0) UU rfl (hl.o.now hS) rfl qR)) (RQ.ev (v:=lv) rfl rfl (fun w hS=>U) (RQ.ev rfl rfl (fun w hS=>(aB UW bu (hl.o.now hS) rfl rfl (by omega) (by omega))) (RQ.ev rfl rfl (fun w hS=>(aF (m:=1) (a:=x1) UU rfl (hl.o.now hS) rfl qQ)) (RQ.ev rfl rfl (fun w hS=>(bh (cs:=[.int .i64 (x0),.int .i64 (x1)]) VE my (places:=#[(0,1),(1,1)]) (by intro w;kernel_rfl) (pl:=[(0,.tmp 5),(1,.tmp 8)]) rfl (ps:=[(0,.int .i64 (x0)),(1,.int .i64 (x1))]) rfl (zc:=[.int .i64 (0),.int .i64 (0)]) rfl (aP (vs:=[.int .i64 (x0)]) rfl rfl (US rfl) (aP (vs:=[.int .i64 (x1)]) rfl rfl (US rfl) rfl)))) ?_)))))))
 refine RQ.do rfl rfl (aC (vs:=[.int .i64 (x0),.int .i64 (x1)]) eY rfl rfl rfl (by intro u hu;simp only[U9,U2,or_false]at hu;rcases hu with rfl|rfl<;>first|rfl) hN 0 rfl rfl ?_)
 clear hN
 intro w4 (hN:ak w none_ w4 [_])
 refine⟨(hN.sub [] (by decide) rfl),?_⟩
 refine RQ.done (by kernel_rfl) (ag (RW.ret (aL (RV.cell rfl rfl (hN.aA 0 rfl) VE rfl eY) ?_)))
 exact⟨by unfold iQ;rw[qR,qQ];rfl,hN.aE⟩
theorem l8 (v:Value) (l:List UInt8) (w:World) (hv:Sl vb w v l) (hl:l.length≤1048576):al UY 41 #[v] w fun r w'=>∃gr lo hi g,r=.pointer (some ⟨gr,0,none⟩)∧ak w none_ w' [.aA gr [.pointer (some ⟨g,0,none⟩),.int .i64 (l.length:Int),.bool false] 89,b8 142 lo hi g (l,0)]:=by
 refine al.start Zx rfl (US rfl) ?_
 rw[bL]
 have hN:=ak.nil w none_
 refine RW.seq (RW.region (RL.ev (v:=.pointer none) rfl rfl aa (RL.nil (ag (RW.seq (RW.region (RL.ev (v:=v) rfl rfl U ?_)))))))
 refine RL.op rfl rfl (aM YA rfl rfl rfl ((mF _ l _ (hv.o.now hN) (by omega)).mono ?_))
 rintro _ w1 ⟨g1,rfl,lr,aW⟩
 have fo:=vN hN lr aW
 clear lr aW
 generalize Kl:(w).heap.size=QV at fo
 generalize Kw:(w1).heap.size=Bl at fo
 clear hN
 have hN:ak w none_ w1 [_]:=fo
 clear fo
 refine RL.ev (v:=v) rfl rfl U ?_
 have jb:=(hv.o.now hN).aY
 refine RL.ev rfl rfl (aQ U1 (hv.o.now hN) rfl) (RL.ev rfl rfl (bh (cs:=[.pointer (some ⟨g1,0,none⟩),.int .i64 ((l.length:Int)),.bool false]) VI Jg (places:=#[(0,1),(1,1),(2,1)]) (by intro w;kernel_rfl) (pl:=[(0,.tmp 4),(1,.tmp 6)]) rfl (ps:=[(0,.pointer (some ⟨g1,0,none⟩)),(1,.int .i64 ((l.length:Int)))]) rfl (zc:=[.pointer none,.int .i64 (0),.bool false]) rfl (aP (vs:=[.pointer (some ⟨g1,0,none⟩)]) rfl rfl (US rfl) (aP (vs:=[.int .i64 ((l.length:Int))]) rfl rfl (US rfl) rfl))) ?_)
 refine RL.op rfl rfl (bq (cs:=[.pointer (some ⟨g1,0,none⟩),.int .i64 ((l.length:Int)),.bool false]) rfl rfl hN ?_)
 clear hN
 intro g3 w3 (hN:ak w none_ w3 [_,_])
 refine RL.ev (v:=.pointer (some ⟨g3,0,none⟩)) rfl rfl aa (RL.nil (ag (RW.ret (aL (RV.tmp rfl) ?_))))
 exact⟨_,_,_,_,rfl,hN.sub [0,1] (by decide) rfl⟩
end Go.Proofs.YtngkdkbpgoddlaaGreat
