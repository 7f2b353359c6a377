/- The law ImageDecodes: texts that its row leans on (4). -/
import Derived.Test.YtngkdkbpgoddlaaGreatKImageDecodes3
set_option linter.unusedVariables false
set_option linter.unusedSimpArgs false
set_option linter.unusedSectionVars false
set_option maxHeartbeats 4000000
set_option maxRecDepth 100000
open Classical renaming propDecidable → VG
open Decidable renaming not_not → Vi
open Go.Instr renaming makeFunc → aa7
open Go.IntKind renaming u64 → V8, i64 → Xb
open Go.Proofs.Tryz renaming underlying3 → UU, underlying25 → UW, prog → UY, underlying98 → U0, underlying24 → U4, underlying29 → U7, underlying22 → Va, underlying28 → Vb, underlying26 → Vg, underlying32 → Vh, underlying96 → Vj, underlying30 → Vr, underlying118 → Vy, underlying135 → VE, underlying89 → VI, underlying75 → Wq, underlying82 → Wv, func95 → Xc, func40 → Xm, func171 → Xr, func160 → Yr, func167 → Ys, func103 → Y4, func170 → Y5, func158 → aak, func104 → aal, underlying219 → aam, func164 → aan, func165 → aao, func161 → aap, func162 → aaq, underlying228 → aar, func169 → aas, func102 → abU, func101 → abV, func100 → abW, func213 → abX, func218 → abY, func212 → abZ, func199 → ab0, func201 → ab1, func163 → ab2, func166 → ab3, func214 → ab4, func200 → ab5, func168 → ab6, func107 → ab7, func109 → ab8, func110 → ab9
open Go.Value renaming bool → Vd, int → Vn, tuple → Zr
open Int renaming fdiv_eq_ediv_of_nonneg → W7
open List renaming getElem?_eq_getElem → UT, length_append → UX, mem_of_getElem? → UZ, not_mem_nil → U2, length_singleton → U3, getElem?_eq_some_iff → U5, length_cons → U6, mem_cons → U9, length_nil → Vc, length_map → Vl, take_of_length_le → Vo, length_take → Vs, length_drop → Vt, length_replicate → Vw, take_length → Vz, getElem?_of_mem → VK, mem_singleton → VY, range → V0, mem_cons_self → V2, map_append → V5, mem_map → V9, length → Wc, getElem?_map → Wf, getElem?_take → Wt, range_succ → WD, mem_append → W6, mem_take_iff_getElem → XE, getElem?_drop → XH
open Nat renaming le_of_ble_eq_true → US, le_trans → Vf, le_refl → Vv, lt_or_ge → VH, zero_le → VP, zero_add → W3
open Option.some renaming inj → Vq
namespace Go.Proofs.YtngkdkbpgoddlaaGreat
open Go.RowKit Go.Rl
open Go.Gr Go.cP Go.hO
theorem uc (lo hi g gr:Nat) (m:Int) (bd:Bool) (s:St) (w:World) (hN:ak w (aT [.aA gr [.pointer (some ⟨g,0,none⟩),.int .i64 (m),.bool (bd)] 89,b8 142 lo hi g s]) w [.aA gr [.pointer (some ⟨g,0,none⟩),.int .i64 (m),.bool (bd)] 89,b8 142 lo hi g s]) (iM:0≤m) (fZ:m≤1048576) (j5:s.1.length≤1048576):al UY 96 #[.pointer (some ⟨gr,0,none⟩),.int .i64 3,.func (.func 97) #[] #[]] w fun r w'=>ak w (aT [.aA gr [.pointer (some ⟨g,0,none⟩),.int .i64 (m),.bool (bd)] 89,b8 142 lo hi g s]) w' [.cV bf 3 100 r (cn lT m 2 (s,bd)).2,.aA gr [.pointer (some ⟨g,0,none⟩),.int .i64 (m),.bool ((cn lT m 2 (s,bd)).1.2)] 89,b8 142 lo hi g ((cn lT m 2 (s,bd)).1.1)]:=by
 refine al.start Tryz.func96 rfl (US rfl) ?_
 rw[jB]
 refine RW.seq (RW.region (RL.ev (v:=.slice none 0 0) rfl rfl aa (RL.nil (ag (RW.seq (RW.region (RL.ev (v:=.slice none 0 0) rfl rfl aa ?_)))))))
 replace hN:=hN.fg vi
 replace hN:=hN.cj vh 25
 replace hN:ak w (aT [.aA gr [.pointer (some ⟨g,0,none⟩),.int .i64 (m),.bool (bd)] 89,b8 142 lo hi g s]) w [.own vh 25 (.slice none 0 0) ([]),.dT vi ([]) ([]),.aA gr [.pointer (some ⟨g,0,none⟩),.int .i64 (m),.bool (bd)] 89,b8 142 lo hi g s]:=hN
 refine RL.nil (ag ?_)
 iterate 2 refine RW.seq ?_
 refine RW.region (RL.ev (v:=.int .i64 (3)) rfl rfl U (RL.ev (v:=.int .i64 (0)) rfl rfl U (RL.nil (ag (RW.block ?_)))))
 refine RW.loop (fun k R0 bT=>∃st:St,∃ls:List (List Int),∃vo:Value,∃hs:List Hd,∃i:Nat,R0 0=.pointer (some ⟨gr,0,none⟩)∧R0 2=.func (.func 97) #[] #[]∧R0 7=vo∧R0 13=.int .i64 (3)∧R0 14=.int .i64 ((i:Int))∧ak w (aT [.aA gr [.pointer (some ⟨g,0,none⟩),.int .i64 (m),.bool (bd)] 89,b8 142 lo hi g s]) bT [.own vh 25 (vo) (hs),.dT vi (hs) (ls),.aA gr [.pointer (some ⟨g,0,none⟩),.int .i64 (m),.bool (bd)] 89,b8 142 lo hi g st]∧(i+k=3)∧(iV m i (s,bd)=((st,bd),ls))∧(st.1.length≤1048576)∧(hs.length=ls.length)∧(ls.length=i)∧(∀r∈ls,r.length≤1048576)) (3) ?_ ?_
 exact⟨s,[],.slice none 0 0,[],0,rfl,rfl,rfl,rfl,rfl,hN,by omega,rfl,j5,rfl,rfl,fun r hr=>by cases hr⟩
 clear hN
 rintro k R0 bT ⟨st,ls,vo,hs,i,bN,bF,cd,gH,me,hN,eR,fF,sg,wu,MS,tU⟩
 have bY:∃b6,R0=(aZ (aZ (aZ (aZ (aZ b6 0 _) 2 _) 7 _) 13 _) 14 _):=⟨R0,by rw[ai bN,ai bF,ai cd,ai gH,ai me]⟩
 obtain⟨b6,rfl⟩:=bY
 clear bN bF cd gH me
 refine RW.seq (RW.region (RL.ev rfl rfl (aV rfl rfl) (RL.nil (ag (RW.seq ?_)))))
 refine RW.aN _ rfl (fun bW=>?_) (fun bW=>?_)
 refine RW.skip (ag (RW.seq (RW.block (RW.region (RL.ev (v:=vo) rfl rfl U (RL.ev (v:=.pointer (some ⟨gr,0,none⟩)) rfl rfl U ?_))))))
 refine RL.op rfl rfl (aM Xc rfl rfl rfl ((gC lo hi g gr m (bd) st _ (hN.bZ (M:=[_,_]) [2,3] (by decide) rfl) (by omega) (by omega) (by(try have:=dB s m);omega)).mono ?_))
 rintro v1 w1 bE
 replace hN:ak w (aT [.aA gr [.pointer (some ⟨g,0,none⟩),.int .i64 (m),.bool (bd)] 89,b8 142 lo hi g s]) w1 [_,_,_,_,_]:=ak.bX (M:=[_,_]) (N:=[_,_]) (hN.sub [2,3,0,1] (by decide) rfl) bE
 clear bE
 have aw:=(hN.sl 0 rfl).hd
 obtain⟨h3,eM⟩:=aw
 subst eM
 refine RL.op rfl rfl (bS (enc:=vh) (l:=[h3]) (xs:=[.tmp 18]) U7 b7 BJ rfl rfl (fun _=>rfl) rfl (by decide) (by decide) hN ?_)
 clear hN
 intro g2 w2 (hN:ak w (aT [.aA gr [.pointer (some ⟨g,0,none⟩),.int .i64 (m),.bool (bd)] 89,b8 142 lo hi g s]) w2 [_,_,_,_,_,_])
 replace hN:ak w (aT [.aA gr [.pointer (some ⟨g,0,none⟩),.int .i64 (m),.bool (bd)] 89,b8 142 lo hi g s]) w2 [_,_,_,_,_]:=ak.kV (L:=[_,_,_,_,_]) (hN.sub [1,0,2,3,4,5] (by decide) rfl) 4 rfl
 refine RL.op rfl rfl (bD U7 yh rfl jT hN 3 rfl rfl (hN.sl 0 rfl) rfl (by(try simp only[UX,Vs,Vt,Vc,U6,U3,Vw,UX,Vl]);omega) (by decide) ?_)
 clear hN
 intro v4 w4 (hN:ak w (aT [.aA gr [.pointer (some ⟨g,0,none⟩),.int .i64 (m),.bool (bd)] 89,b8 142 lo hi g s]) w4 [_,_,_,_,_])
 refine RL.ev (v:=v4) rfl rfl aa (RL.nil (a7 (ag (RW.region (RL.ev rfl rfl (an rfl rfl rfl (bc (by omega) (by omega))) (RL.ev (v:=.int .i64 ((i:Int)+1)) rfl rfl U (RL.nil (ag ?_))))))))
 exact⟨k-1,by omega,(bO st m).1,ls++[(bO st m).2],v4,hs++[h3],i+1,rfl,rfl,rfl,rfl,rfl,(hN.sub [3,4,1,2] (by decide) rfl),by omega,by rw[oT,fF];rfl,Vf (dB st m) sg,by simp[wu],by simp[MS],fun r hr=>(W6.1 hr).elim (tU r) (fun e=>by rw[VY]at e;subst e;exact Vf (jg st m) sg)⟩
 refine RW.exit ?_
 iterate 2 refine bm ?_
 refine aO (ag (RW.seq ?_))
 obtain rfl:i=3:=by omega
 have yB:=ru m 3 (s,bd)
 rw[fF]at yB
 dsimp only at yB
 refine RW.region (RL.ev (v:=.slice none 0 0) rfl rfl aa (RL.nil (ag ?_)))
 iterate 2 refine RW.seq ?_
 refine RW.region (RL.ev (v:=vo) rfl rfl U (RL.ev rfl rfl (aB U7 b7 (hN.sl 0 rfl) rfl rfl (by omega) (by omega)) ?_))
 have aw:∃a_,(hs)[0]?=some a_:=⟨_,UT (by omega)⟩
 obtain⟨az,jS⟩:=aw
 have aw:∃l_,(ls)[0]?=some l_:=⟨_,UT (by have:=(hN.dx 1 rfl).1;omega)⟩
 obtain⟨lz,oM⟩:=aw
 refine RL.ev rfl rfl (aF (m:=0) (a:=az) UW rfl (hN.sl 0 rfl) rfl jS) ?_
 have pd:=((hN.dx 1 rfl).2 _ _ _ jS oM).1.aY
 refine RL.ev rfl rfl (aQ UW ((hN.dx 1 rfl).2 _ _ _ jS oM).1 rfl) (RL.ev (v:=.int .i64 (0)) rfl rfl U (RL.nil (ag (RW.block ?_))))
 replace hN:=hN.eK bf 3 100
 refine RW.loop (fun k2 R1 fI=>∃vr:Value,∃acc:List I3,∃j:Nat,R1 0=.pointer (some ⟨gr,0,none⟩)∧R1 2=.func (.func 97) #[] #[]∧R1 7=vo∧R1 8=vr∧R1 25=.int .i64 ((lz.length:Int))∧R1 26=.int .i64 ((j:Int))∧ak w (aT [.aA gr [.pointer (some ⟨g,0,none⟩),.int .i64 (m),.bool (bd)] 89,b8 142 lo hi g s]) fI [.cV bf 3 100 (vr) (acc),.own vh 25 (vo) (hs),.dT vi (hs) (ls),.aA gr [.pointer (some ⟨g,0,none⟩),.int .i64 (m),.bool (bd)] 89,b8 142 lo hi g st]∧(j+k2=lz.length)∧(acc=(V0 j).map fun q=>lT (ls.map fun r=>(r[q]?).getD 0))∧(acc.length=j)∧(0<j→∀r∈ls,r.length=lz.length)) (lz.length) ?_ ?_
 exact⟨.slice none 0 0,[],0,rfl,rfl,rfl,rfl,rfl,rfl,hN,by omega,rfl,rfl,fun h=>absurd h (by omega)⟩
 clear hN
 rintro k2 R1 fI ⟨vr,acc,j,bN,bF,cd,cl,eO,fC,hN,wy,hJ,fG,yJ⟩
 have bY:∃gY,R1=(aZ (aZ (aZ (aZ (aZ (aZ gY 0 _) 2 _) 7 _) 8 _) 25 _) 26 _):=⟨R1,by rw[ai bN,ai bF,ai cd,ai cl,ai eO,ai fC]⟩
 obtain⟨gY,rfl⟩:=bY
 clear bN bF cd cl eO fC
 refine RW.seq (RW.region (RL.ev rfl rfl (aV rfl rfl) (RL.nil (ag (RW.seq ?_)))))
 refine RW.aN _ rfl (fun eI=>?_) (fun eI=>?_)
 refine RW.skip (ag (RW.seq (RW.block (RW.seq ?_))))
 have MP:=tU lz (UZ oM)
 refine RW.region (RL.ev (v:=.int .i64 ((j:Int))) rfl rfl U (RL.ev (v:=.int .i64 ((j:Int))) rfl rfl aa (RL.nil (ag (RW.seq (RW.region (RL.ev (v:=.slice none 0 0) rfl rfl aa (RL.nil (ag ?_)))))))))
 iterate 2 refine RW.seq ?_
 refine RW.region (RL.ev (v:=vo) rfl rfl U ?_)
 have HW:=(hN.sl 1 rfl).aY
 refine RL.ev rfl rfl (aQ U7 (hN.sl 1 rfl) rfl) (RL.ev (v:=.int .i64 (0)) rfl rfl U (RL.nil (ag (RW.block ?_))))
 replace hN:=hN.cj vi 3
 refine RW.loop (fun k3 R2 AV=>∃vn:Value,∃dq:List Int,∃p:Nat,R2 0=.pointer (some ⟨gr,0,none⟩)∧R2 2=.func (.func 97) #[] #[]∧R2 7=vo∧R2 8=vr∧R2 9=.int .i64 ((j:Int))∧R2 10=vn∧R2 25=.int .i64 ((lz.length:Int))∧R2 26=.int .i64 ((j:Int))∧R2 29=vo∧R2 30=.int .i64 ((hs.length:Int))∧R2 31=.int .i64 ((p:Int))∧ak w (aT [.aA gr [.pointer (some ⟨g,0,none⟩),.int .i64 (m),.bool (bd)] 89,b8 142 lo hi g s]) AV [.own vi 3 (vn) (dq),.cV bf 3 100 (vr) (acc),.own vh 25 (vo) (hs),.dT vi (hs) (ls),.aA gr [.pointer (some ⟨g,0,none⟩),.int .i64 (m),.bool (bd)] 89,b8 142 lo hi g st]∧(p+k3=3)∧(dq=(ls.take p).map fun r=>(r[j]?).getD 0)∧(dq.length=p)∧(∀r∈ls.take p,r.length=lz.length)) (3) ?_ ?_
 exact⟨.slice none 0 0,[],0,rfl,rfl,rfl,rfl,rfl,rfl,rfl,rfl,rfl,rfl,rfl,hN,by omega,rfl,rfl,fun r hr=>by cases hr⟩
 clear hN
 rintro k3 R2 AV ⟨vn,dq,p,bN,bF,cd,cl,dc,cB,eO,fC,pN,pM,pL,hN,Pj,pQ,Rw,o6⟩
 have bY:∃BI,R2=(aZ (aZ (aZ (aZ (aZ (aZ (aZ (aZ (aZ (aZ (aZ BI 0 _) 2 _) 7 _) 8 _) 9 _) 10 _) 25 _) 26 _) 29 _) 30 _) 31 _):=⟨R2,by rw[ai bN,ai bF,ai cd,ai cl,ai dc,ai cB,ai eO,ai fC,ai pN,ai pM,ai pL]⟩
 obtain⟨BI,rfl⟩:=bY
 clear bN bF cd cl dc cB eO fC pN pM pL
 refine RW.seq (RW.region (RL.ev rfl rfl (aV rfl rfl) (RL.nil (ag (RW.seq ?_)))))
 refine RW.aN _ rfl (fun EN=>?_) (fun EN=>?_)
 refine RW.skip (ag (RW.seq (RW.block (RW.seq (RW.region (RL.ev rfl rfl (aB U7 b7 (hN.sl 2 rfl) rfl rfl (by omega) (by omega)) ?_))))))
 have aw:∃a_,(hs)[p]?=some a_:=⟨_,UT (by omega)⟩
 obtain⟨ay,lI⟩:=aw
 have aw:∃l_,(ls)[p]?=some l_:=⟨_,UT (by have:=(hN.dx 3 rfl).1;omega)⟩
 obtain⟨ly,oN⟩:=aw
 refine RL.ev rfl rfl (aF (m:=p) (a:=ay) UW rfl (hN.sl 2 rfl) rfl lI) (RL.ev (v:=(vh ay)) rfl rfl aa (RL.nil (ag ?_)))
 iterate 2 refine RW.seq ?_
 refine RW.region (RL.ev (v:=(vh ay)) rfl rfl U ?_)
 have KT:=((hN.dx 3 rfl).2 _ _ _ lI oN).1.aY
 refine RL.ev rfl rfl (aQ UW ((hN.dx 3 rfl).2 _ _ _ lI oN).1 rfl) (RL.ev (v:=vo) rfl rfl U (RL.ev rfl rfl (aB U7 b7 (hN.sl 2 rfl) rfl rfl (by omega) (by omega)) ?_))
 have aw:∃a_,(hs)[0]?=some a_:=⟨_,UT (by omega)⟩
 obtain⟨au,FI⟩:=aw
 have aw:∃l_,(ls)[0]?=some l_:=⟨_,UT (by have:=(hN.dx 3 rfl).1;omega)⟩
 obtain⟨lu,Bj⟩:=aw
 refine RL.ev rfl rfl (aF (m:=0) (a:=au) UW rfl (hN.sl 2 rfl) rfl FI) ?_
 have Bs:=((hN.dx 3 rfl).2 _ _ _ FI Bj).1.aY
 refine RL.ev rfl rfl (aQ UW ((hN.dx 3 rfl).2 _ _ _ FI Bj).1 rfl) (RL.ev rfl rfl (bp rfl rfl) (RL.nil (ag ?_)))
 refine RW.aN _ rfl (fun di=>?_) (fun di=>?_)
 refine RW.seq (RW.region (RL.ev (v:=.pointer (some ⟨gr,0,none⟩)) rfl rfl U (RL.ev rfl rfl (bt rfl) (RL.ev rfl rfl (ah VI rfl np (by decide) rfl) ?_))))
 refine RL.op rfl rfl (b9 np rfl rfl rfl rfl hN 4 rfl (US rfl) ?_)
 clear hN
 intro jj (hN:ak w (aT [.aA gr [.pointer (some ⟨g,0,none⟩),.int .i64 (m),.bool (bd)] 89,b8 142 lo hi g s]) jj [_,_,_,_,_,_])
 refine RL.nil (ag (RW.seq (RW.region (RL.ev (v:=.slice none 0 0) rfl rfl aa (RL.nil (ag (RW.ret (aD (aJ ?_)))))))))
 iterate 2 refine aD ?_
 refine aJ (aD (aJ ?_))
 iterate 2 refine aD ?_
 refine aJ (aD (aL (RV.tmp rfl) ?_))
 have MQ:lu.length=lz.length:=by rw[Vq (Bj.symm.trans oM)]
 have eM:(cn lT m 2 (s,bd))=((st,true),[]):=pt fF oM (by omega) oN (by omega)
 rw[eM]
 replace hN:=hN.eK bf 3 100
 exact hN.sub [0,5,6] (by decide) rfl
 refine RW.skip (ag ?_)
 obtain rfl:lu=lz:=Vq (Bj.symm.trans oM)
 refine RW.region (RL.ev (v:=vn) rfl rfl U (RL.ev (v:=(vh ay)) rfl rfl U (RL.ev (v:=.int .i64 ((j:Int))) rfl rfl U (RL.ev rfl rfl (aB UW bu ((hN.dx 3 rfl).2 _ _ _ lI oN).1 rfl rfl (by omega) (by omega)) ?_))))
 have aw:∃a_,(ly)[j]?=some a_:=⟨_,UT (by omega)⟩
 obtain⟨ac,jC⟩:=aw
 refine RL.ev rfl rfl (aF (m:=j) (a:=ac) UU rfl ((hN.dx 3 rfl).2 _ _ _ lI oN).1 rfl jC) ?_
 refine RL.op rfl rfl (bS (enc:=vi) (l:=[ac]) (xs:=[.tmp 49]) UW bu mu rfl rfl (fun _=>rfl) rfl (by decide) (by decide) hN ?_)
 clear hN
 intro wM iP (hN:ak w (aT [.aA gr [.pointer (some ⟨g,0,none⟩),.int .i64 (m),.bool (bd)] 89,b8 142 lo hi g s]) iP [_,_,_,_,_,_,_])
 refine RL.op rfl rfl (bD UW fT rfl (fun _=>rfl) hN 1 rfl rfl (hN.sl 0 rfl) rfl (by(try simp only[UX,U3,U6,Vc]);omega) (by decide) ?_)
 clear hN
 intro xw kC (hN:ak w (aT [.aA gr [.pointer (some ⟨g,0,none⟩),.int .i64 (m),.bool (bd)] 89,b8 142 lo hi g s]) kC [_,_,_,_,_,_,_])
 refine RL.ev (v:=xw) rfl rfl aa (RL.nil (a7 (ag (RW.region (RL.ev rfl rfl (an rfl rfl rfl (bc (by omega) (by omega))) (RL.ev (v:=.int .i64 ((p:Int)+1)) rfl rfl U (RL.nil (ag ?_))))))))
 exact⟨k3-1,by omega,xw,dq++[ac],p+1,rfl,rfl,rfl,rfl,rfl,rfl,rfl,rfl,rfl,rfl,rfl,(hN.sub [1,2,3,4,5,6] (by decide) rfl),by omega,by rw[dH oN,V5,pQ];simp[jC],by(try simp only[UX,U3]);omega,fun r hr=>(cT oN hr).elim (o6 r) (fun e=>e▸by omega)⟩
 refine RW.exit ?_
 iterate 2 refine bm ?_
 refine aO (ag (RW.region (RL.ev (v:=vr) rfl rfl U (RL.ev (v:=.func (.func 97) #[] #[]) rfl rfl U (RL.ev (v:=vn) rfl rfl U ?_)))))
 refine RL.op rfl rfl (bB (first:=#[]) (captured:=#[]) (v0:=vn) (args:=#[vn]) Tryz.func97 rfl rfl (by simp) rfl rfl ((x9 _ dq _ (hN.sl 0 rfl) (by omega)).mono ?_))
 rintro _ lF ⟨rfl,aW⟩
 replace hN:=hN.ext aW
 clear aW
 refine RL.op rfl rfl (iz (cf:=bf) (s:=3) (pl:=[(0,.tmp 56)]) (ps:=[(0,.agg #[.int .i64 ((lT dq).1),.int .i64 ((lT dq).2.1),.int .i64 ((lT dq).2.2)])]) (zc:=[.int .i64 (0),.int .i64 (0),.int .i64 (0)]) (l:=[((lT dq).1,(lT dq).2.1,(lT dq).2.2)]) Va se (by kernel_rfl) rfl rfl (aP (vs:=[.int .i64 ((lT dq).1),.int .i64 ((lT dq).2.1),.int .i64 ((lT dq).2.2)]) rfl rfl (US rfl) rfl) aU rfl (by decide) (by decide) (by decide) hN ?_)
 clear hN
 intro KY k9 (hN:ak w (aT [.aA gr [.pointer (some ⟨g,0,none⟩),.int .i64 (m),.bool (bd)] 89,b8 142 lo hi g s]) k9 [_,_,_,_,_,_,_])
 refine RL.op rfl rfl (ez Va se rfl (by decide) iB aU hN 2 rfl rfl (hN.sm 0 rfl) rfl (by(try simp only[UX,U3,U6,Vc]);omega) (by decide) ?_)
 clear hN
 intro AW oL (hN:ak w (aT [.aA gr [.pointer (some ⟨g,0,none⟩),.int .i64 (m),.bool (bd)] 89,b8 142 lo hi g s]) oL [_,_,_,_,_,_,_])
 refine RL.ev (v:=AW) rfl rfl aa (RL.nil (a7 (ag (RW.region (RL.ev rfl rfl (an rfl rfl rfl (bc (by omega) (by omega))) (RL.ev (v:=.int .i64 ((j:Int)+1)) rfl rfl U (RL.nil (ag ?_))))))))
 exact⟨k2-1,by omega,AW,acc++[((lT dq).1,(lT dq).2.1,(lT dq).2.2)],j+1,rfl,rfl,rfl,rfl,rfl,rfl,(hN.sub [2,3,4,5,6] (by decide) rfl),by omega,by rw[WD,V5,←hJ];subst pQ;rw[Vo (by omega)];rfl,by(try simp only[UX,U3]);omega,fun _=>by rw[Vo (by omega)]at o6;exact o6⟩
 refine RW.exit ?_
 iterate 2 refine bm ?_
 refine aO (ag (RW.seq (RW.region (RL.ev (v:=vr) rfl rfl U (RL.ev (v:=vr) rfl rfl aa (RL.nil (ag (RW.ret (aL (RV.tmp rfl) ?_)))))))))
 have Cu:j=lz.length:=by omega
 subst Cu
 have eM:(cn lT m 2 (s,bd))=((st,bd),acc):=by rw[nJ fF oM yJ,hJ]
 rw[eM]
 exact hN.sub [0,3,4] (by decide) rfl
theorem qB (lo hi g gr:Nat) (m:Int) (bd:Bool) (s:St) (w:World) (hN:ak w (aT [.aA gr [.pointer (some ⟨g,0,none⟩),.int .i64 (m),.bool (bd)] 89,b8 142 lo hi g s]) w [.aA gr [.pointer (some ⟨g,0,none⟩),.int .i64 (m),.bool (bd)] 89,b8 142 lo hi g s]) (iM:0≤m) (fZ:m≤1048576) (j5:s.1.length≤1048576):al UY 98 #[.pointer (some ⟨gr,0,none⟩),.int .i64 5,.func (.func 99) #[] #[]] w fun r w'=>ak w (aT [.aA gr [.pointer (some ⟨g,0,none⟩),.int .i64 (m),.bool (bd)] 89,b8 142 lo hi g s]) w' [.cV bC 5 98 r (cn jF m 4 (s,bd)).2,.aA gr [.pointer (some ⟨g,0,none⟩),.int .i64 (m),.bool ((cn jF m 4 (s,bd)).1.2)] 89,b8 142 lo hi g ((cn jF m 4 (s,bd)).1.1)]:=by
 refine al.start Tryz.func98 rfl (US rfl) ?_
 rw[jB]
 refine RW.seq (RW.region (RL.ev (v:=.slice none 0 0) rfl rfl aa (RL.nil (ag (RW.seq (RW.region (RL.ev (v:=.slice none 0 0) rfl rfl aa ?_)))))))
 replace hN:=hN.fg vi
 replace hN:=hN.cj vh 25
 replace hN:ak w (aT [.aA gr [.pointer (some ⟨g,0,none⟩),.int .i64 (m),.bool (bd)] 89,b8 142 lo hi g s]) w [.own vh 25 (.slice none 0 0) ([]),.dT vi ([]) ([]),.aA gr [.pointer (some ⟨g,0,none⟩),.int .i64 (m),.bool (bd)] 89,b8 142 lo hi g s]:=hN
 refine RL.nil (ag ?_)
 iterate 2 refine RW.seq ?_
 refine RW.region (RL.ev (v:=.int .i64 (5)) rfl rfl U (RL.ev (v:=.int .i64 (0)) rfl rfl U (RL.nil (ag (RW.block ?_)))))
 refine RW.loop (fun k R0 bT=>∃st:St,∃ls:List (List Int),∃vo:Value,∃hs:List Hd,∃i:Nat,R0 0=.pointer (some ⟨gr,0,none⟩)∧R0 2=.func (.func 99) #[] #[]∧R0 7=vo∧R0 13=.int .i64 (5)∧R0 14=.int .i64 ((i:Int))∧ak w (aT [.aA gr [.pointer (some ⟨g,0,none⟩),.int .i64 (m),.bool (bd)] 89,b8 142 lo hi g s]) bT [.own vh 25 (vo) (hs),.dT vi (hs) (ls),.aA gr [.pointer (some ⟨g,0,none⟩),.int .i64 (m),.bool (bd)] 89,b8 142 lo hi g st]∧(i+k=5)∧(iV m i (s,bd)=((st,bd),ls))∧(st.1.length≤1048576)∧(hs.length=ls.length)∧(ls.length=i)∧(∀r∈ls,r.length≤1048576)) (5) ?_ ?_
 exact⟨s,[],.slice none 0 0,[],0,rfl,rfl,rfl,rfl,rfl,hN,by omega,rfl,j5,rfl,rfl,fun r hr=>by cases hr⟩
 clear hN
 rintro k R0 bT ⟨st,ls,vo,hs,i,bN,bF,cd,gH,me,hN,eR,fF,sg,wu,MS,tU⟩
 have bY:∃b6,R0=(aZ (aZ (aZ (aZ (aZ b6 0 _) 2 _) 7 _) 13 _) 14 _):=⟨R0,by rw[ai bN,ai bF,ai cd,ai gH,ai me]⟩
 obtain⟨b6,rfl⟩:=bY
 clear bN bF cd gH me
 refine RW.seq (RW.region (RL.ev rfl rfl (aV rfl rfl) (RL.nil (ag (RW.seq ?_)))))
 refine RW.aN _ rfl (fun bW=>?_) (fun bW=>?_)
 refine RW.skip (ag (RW.seq (RW.block (RW.region (RL.ev (v:=vo) rfl rfl U (RL.ev (v:=.pointer (some ⟨gr,0,none⟩)) rfl rfl U ?_))))))
 refine RL.op rfl rfl (aM Xc rfl rfl rfl ((gC lo hi g gr m (bd) st _ (hN.bZ (M:=[_,_]) [2,3] (by decide) rfl) (by omega) (by omega) (by(try have:=dB s m);omega)).mono ?_))
 rintro v1 w1 bE
 replace hN:ak w (aT [.aA gr [.pointer (some ⟨g,0,none⟩),.int .i64 (m),.bool (bd)] 89,b8 142 lo hi g s]) w1 [_,_,_,_,_]:=ak.bX (M:=[_,_]) (N:=[_,_]) (hN.sub [2,3,0,1] (by decide) rfl) bE
 clear bE
 have aw:=(hN.sl 0 rfl).hd
 obtain⟨h3,eM⟩:=aw
 subst eM
 refine RL.op rfl rfl (bS (enc:=vh) (l:=[h3]) (xs:=[.tmp 18]) U7 b7 BJ rfl rfl (fun _=>rfl) rfl (by decide) (by decide) hN ?_)
 clear hN
 intro g2 w2 (hN:ak w (aT [.aA gr [.pointer (some ⟨g,0,none⟩),.int .i64 (m),.bool (bd)] 89,b8 142 lo hi g s]) w2 [_,_,_,_,_,_])
 replace hN:ak w (aT [.aA gr [.pointer (some ⟨g,0,none⟩),.int .i64 (m),.bool (bd)] 89,b8 142 lo hi g s]) w2 [_,_,_,_,_]:=ak.kV (L:=[_,_,_,_,_]) (hN.sub [1,0,2,3,4,5] (by decide) rfl) 4 rfl
 refine RL.op rfl rfl (bD U7 yh rfl jT hN 3 rfl rfl (hN.sl 0 rfl) rfl (by(try simp only[UX,Vs,Vt,Vc,U6,U3,Vw,UX,Vl]);omega) (by decide) ?_)
 clear hN
 intro v4 w4 (hN:ak w (aT [.aA gr [.pointer (some ⟨g,0,none⟩),.int .i64 (m),.bool (bd)] 89,b8 142 lo hi g s]) w4 [_,_,_,_,_])
 refine RL.ev (v:=v4) rfl rfl aa (RL.nil (a7 (ag (RW.region (RL.ev rfl rfl (an rfl rfl rfl (bc (by omega) (by omega))) (RL.ev (v:=.int .i64 ((i:Int)+1)) rfl rfl U (RL.nil (ag ?_))))))))
 exact⟨k-1,by omega,(bO st m).1,ls++[(bO st m).2],v4,hs++[h3],i+1,rfl,rfl,rfl,rfl,rfl,(hN.sub [3,4,1,2] (by decide) rfl),by omega,by rw[oT,fF];rfl,Vf (dB st m) sg,by simp[wu],by simp[MS],fun r hr=>(W6.1 hr).elim (tU r) (fun e=>by rw[VY]at e;subst e;exact Vf (jg st m) sg)⟩
 refine RW.exit ?_
 iterate 2 refine bm ?_
 refine aO (ag (RW.seq ?_))
 obtain rfl:i=5:=by omega
 have yB:=ru m 5 (s,bd)
 rw[fF]at yB
 dsimp only at yB
 refine RW.region (RL.ev (v:=.slice none 0 0) rfl rfl aa (RL.nil (ag ?_)))
 iterate 2 refine RW.seq ?_
 refine RW.region (RL.ev (v:=vo) rfl rfl U (RL.ev rfl rfl (aB U7 b7 (hN.sl 0 rfl) rfl rfl (by omega) (by omega)) ?_))
 have aw:∃a_,(hs)[0]?=some a_:=⟨_,UT (by omega)⟩
 obtain⟨az,jS⟩:=aw
 have aw:∃l_,(ls)[0]?=some l_:=⟨_,UT (by have:=(hN.dx 1 rfl).1;omega)⟩
 obtain⟨lz,oM⟩:=aw
 refine RL.ev rfl rfl (aF (m:=0) (a:=az) UW rfl (hN.sl 0 rfl) rfl jS) ?_
 have pd:=((hN.dx 1 rfl).2 _ _ _ jS oM).1.aY
 refine RL.ev rfl rfl (aQ UW ((hN.dx 1 rfl).2 _ _ _ jS oM).1 rfl) (RL.ev (v:=.int .i64 (0)) rfl rfl U (RL.nil (ag (RW.block ?_))))
 replace hN:=hN.eK bC 5 98
 refine RW.loop (fun k2 R1 fI=>∃vr:Value,∃acc:List I5,∃j:Nat,R1 0=.pointer (some ⟨gr,0,none⟩)∧R1 2=.func (.func 99) #[] #[]∧R1 7=vo∧R1 8=vr∧R1 25=.int .i64 ((lz.length:Int))∧R1 26=.int .i64 ((j:Int))∧ak w (aT [.aA gr [.pointer (some ⟨g,0,none⟩),.int .i64 (m),.bool (bd)] 89,b8 142 lo hi g s]) fI [.cV bC 5 98 (vr) (acc),.own vh 25 (vo) (hs),.dT vi (hs) (ls),.aA gr [.pointer (some ⟨g,0,none⟩),.int .i64 (m),.bool (bd)] 89,b8 142 lo hi g st]∧(j+k2=lz.length)∧(acc=(V0 j).map fun q=>jF (ls.map fun r=>(r[q]?).getD 0))∧(acc.length=j)∧(0<j→∀r∈ls,r.length=lz.length)) (lz.length) ?_ ?_
 exact⟨.slice none 0 0,[],0,rfl,rfl,rfl,rfl,rfl,rfl,hN,by omega,rfl,rfl,fun h=>absurd h (by omega)⟩
 clear hN
 rintro k2 R1 fI ⟨vr,acc,j,bN,bF,cd,cl,eO,fC,hN,wy,hJ,fG,yJ⟩
 have bY:∃gY,R1=(aZ (aZ (aZ (aZ (aZ (aZ gY 0 _) 2 _) 7 _) 8 _) 25 _) 26 _):=⟨R1,by rw[ai bN,ai bF,ai cd,ai cl,ai eO,ai fC]⟩
 obtain⟨gY,rfl⟩:=bY
 clear bN bF cd cl eO fC
 refine RW.seq (RW.region (RL.ev rfl rfl (aV rfl rfl) (RL.nil (ag (RW.seq ?_)))))
 refine RW.aN _ rfl (fun eI=>?_) (fun eI=>?_)
 refine RW.skip (ag (RW.seq (RW.block (RW.seq ?_))))
 have MP:=tU lz (UZ oM)
 refine RW.region (RL.ev (v:=.int .i64 ((j:Int))) rfl rfl U (RL.ev (v:=.int .i64 ((j:Int))) rfl rfl aa (RL.nil (ag (RW.seq (RW.region (RL.ev (v:=.slice none 0 0) rfl rfl aa (RL.nil (ag ?_)))))))))
 iterate 2 refine RW.seq ?_
 refine RW.region (RL.ev (v:=vo) rfl rfl U ?_)
 have HW:=(hN.sl 1 rfl).aY
 refine RL.ev rfl rfl (aQ U7 (hN.sl 1 rfl) rfl) (RL.ev (v:=.int .i64 (0)) rfl rfl U (RL.nil (ag (RW.block ?_))))
 replace hN:=hN.cj vi 3
 refine RW.loop (fun k3 R2 AV=>∃vn:Value,∃dq:List Int,∃p:Nat,R2 0=.pointer (some ⟨gr,0,none⟩)∧R2 2=.func (.func 99) #[] #[]∧R2 7=vo∧R2 8=vr∧R2 9=.int .i64 ((j:Int))∧R2 10=vn∧R2 25=.int .i64 ((lz.length:Int))∧R2 26=.int .i64 ((j:Int))∧R2 29=vo∧R2 30=.int .i64 ((hs.length:Int))∧R2 31=.int .i64 ((p:Int))∧ak w (aT [.aA gr [.pointer (some ⟨g,0,none⟩),.int .i64 (m),.bool (bd)] 89,b8 142 lo hi g s]) AV [.own vi 3 (vn) (dq),.cV bC 5 98 (vr) (acc),.own vh 25 (vo) (hs),.dT vi (hs) (ls),.aA gr [.pointer (some ⟨g,0,none⟩),.int .i64 (m),.bool (bd)] 89,b8 142 lo hi g st]∧(p+k3=5)∧(dq=(ls.take p).map fun r=>(r[j]?).getD 0)∧(dq.length=p)∧(∀r∈ls.take p,r.length=lz.length)) (5) ?_ ?_
 exact⟨.slice none 0 0,[],0,rfl,rfl,rfl,rfl,rfl,rfl,rfl,rfl,rfl,rfl,rfl,hN,by omega,rfl,rfl,fun r hr=>by cases hr⟩
 clear hN
 rintro k3 R2 AV ⟨vn,dq,p,bN,bF,cd,cl,dc,cB,eO,fC,pN,pM,pL,hN,Pj,pQ,Rw,o6⟩
 have bY:∃BI,R2=(aZ (aZ (aZ (aZ (aZ (aZ (aZ (aZ (aZ (aZ (aZ BI 0 _) 2 _) 7 _) 8 _) 9 _) 10 _) 25 _) 26 _) 29 _) 30 _) 31 _):=⟨R2,by rw[ai bN,ai bF,ai cd,ai cl,ai dc,ai cB,ai eO,ai fC,ai pN,ai pM,ai pL]⟩
 obtain⟨BI,rfl⟩:=bY
 clear bN bF cd cl dc cB eO fC pN pM pL
 refine RW.seq (RW.region (RL.ev rfl rfl (aV rfl rfl) (RL.nil (ag (RW.seq ?_)))))
 refine RW.aN _ rfl (fun EN=>?_) (fun EN=>?_)
 refine RW.skip (ag (RW.seq (RW.block (RW.seq (RW.region (RL.ev rfl rfl (aB U7 b7 (hN.sl 2 rfl) rfl rfl (by omega) (by omega)) ?_))))))
 have aw:∃a_,(hs)[p]?=some a_:=⟨_,UT (by omega)⟩
 obtain⟨ay,lI⟩:=aw
 have aw:∃l_,(ls)[p]?=some l_:=⟨_,UT (by have:=(hN.dx 3 rfl).1;omega)⟩
 obtain⟨ly,oN⟩:=aw
 refine RL.ev rfl rfl (aF (m:=p) (a:=ay) UW rfl (hN.sl 2 rfl) rfl lI) (RL.ev (v:=(vh ay)) rfl rfl aa (RL.nil (ag ?_)))
 iterate 2 refine RW.seq ?_
 refine RW.region (RL.ev (v:=(vh ay)) rfl rfl U ?_)
 have KT:=((hN.dx 3 rfl).2 _ _ _ lI oN).1.aY
 refine RL.ev rfl rfl (aQ UW ((hN.dx 3 rfl).2 _ _ _ lI oN).1 rfl) (RL.ev (v:=vo) rfl rfl U (RL.ev rfl rfl (aB U7 b7 (hN.sl 2 rfl) rfl rfl (by omega) (by omega)) ?_))
 have aw:∃a_,(hs)[0]?=some a_:=⟨_,UT (by omega)⟩
 obtain⟨au,FI⟩:=aw
 have aw:∃l_,(ls)[0]?=some l_:=⟨_,UT (by have:=(hN.dx 3 rfl).1;omega)⟩
 obtain⟨lu,Bj⟩:=aw
 refine RL.ev rfl rfl (aF (m:=0) (a:=au) UW rfl (hN.sl 2 rfl) rfl FI) ?_
 have Bs:=((hN.dx 3 rfl).2 _ _ _ FI Bj).1.aY
 refine RL.ev rfl rfl (aQ UW ((hN.dx 3 rfl).2 _ _ _ FI Bj).1 rfl) (RL.ev rfl rfl (bp rfl rfl) (RL.nil (ag ?_)))
 refine RW.aN _ rfl (fun di=>?_) (fun di=>?_)
 refine RW.seq (RW.region (RL.ev (v:=.pointer (some ⟨gr,0,none⟩)) rfl rfl U (RL.ev rfl rfl (bt rfl) (RL.ev rfl rfl (ah VI rfl np (by decide) rfl) ?_))))
 refine RL.op rfl rfl (b9 np rfl rfl rfl rfl hN 4 rfl (US rfl) ?_)
 clear hN
 intro jj (hN:ak w (aT [.aA gr [.pointer (some ⟨g,0,none⟩),.int .i64 (m),.bool (bd)] 89,b8 142 lo hi g s]) jj [_,_,_,_,_,_])
 refine RL.nil (ag (RW.seq (RW.region (RL.ev (v:=.slice none 0 0) rfl rfl aa (RL.nil (ag (RW.ret (aD (aJ ?_)))))))))
 iterate 2 refine aD ?_
 refine aJ (aD (aJ ?_))
 iterate 2 refine aD ?_
 refine aJ (aD (aL (RV.tmp rfl) ?_))
 have MQ:lu.length=lz.length:=by rw[Vq (Bj.symm.trans oM)]
 have eM:(cn jF m 4 (s,bd))=((st,true),[]):=pt fF oM (by omega) oN (by omega)
 rw[eM]
 replace hN:=hN.eK bC 5 98
 exact hN.sub [0,5,6] (by decide) rfl
 refine RW.skip (ag ?_)
 obtain rfl:lu=lz:=Vq (Bj.symm.trans oM)
 refine RW.region (RL.ev (v:=vn) rfl rfl U (RL.ev (v:=(vh ay)) rfl rfl U (RL.ev (v:=.int .i64 ((j:Int))) rfl rfl U (RL.ev rfl rfl (aB UW bu ((hN.dx 3 rfl).2 _ _ _ lI oN).1 rfl rfl (by omega) (by omega)) ?_))))
 have aw:∃a_,(ly)[j]?=some a_:=⟨_,UT (by omega)⟩
 obtain⟨ac,jC⟩:=aw
 refine RL.ev rfl rfl (aF (m:=j) (a:=ac) UU rfl ((hN.dx 3 rfl).2 _ _ _ lI oN).1 rfl jC) ?_
 refine RL.op rfl rfl (bS (enc:=vi) (l:=[ac]) (xs:=[.tmp 49]) UW bu mu rfl rfl (fun _=>rfl) rfl (by decide) (by decide) hN ?_)
 clear hN
 intro wM iP (hN:ak w (aT [.aA gr [.pointer (some ⟨g,0,none⟩),.int .i64 (m),.bool (bd)] 89,b8 142 lo hi g s]) iP [_,_,_,_,_,_,_])
 refine RL.op rfl rfl (bD UW fT rfl (fun _=>rfl) hN 1 rfl rfl (hN.sl 0 rfl) rfl (by(try simp only[UX,U3,U6,Vc]);omega) (by decide) ?_)
 clear hN
 intro xw kC (hN:ak w (aT [.aA gr [.pointer (some ⟨g,0,none⟩),.int .i64 (m),.bool (bd)] 89,b8 142 lo hi g s]) kC [_,_,_,_,_,_,_])
 refine RL.ev (v:=xw) rfl rfl aa (RL.nil (a7 (ag (RW.region (RL.ev rfl rfl (an rfl rfl rfl (bc (by omega) (by omega))) (RL.ev (v:=.int .i64 ((p:Int)+1)) rfl rfl U (RL.nil (ag ?_))))))))
 exact⟨k3-1,by omega,xw,dq++[ac],p+1,rfl,rfl,rfl,rfl,rfl,rfl,rfl,rfl,rfl,rfl,rfl,(hN.sub [1,2,3,4,5,6] (by decide) rfl),by omega,by rw[dH oN,V5,pQ];simp[jC],by(try simp only[UX,U3]);omega,fun r hr=>(cT oN hr).elim (o6 r) (fun e=>e▸by omega)⟩
 refine RW.exit ?_
 iterate 2 refine bm ?_
 refine aO (ag (RW.region (RL.ev (v:=vr) rfl rfl U (RL.ev (v:=.func (.func 99) #[] #[]) rfl rfl U (RL.ev (v:=vn) rfl rfl U ?_)))))
 refine RL.op rfl rfl (bB (first:=#[]) (captured:=#[]) (v0:=vn) (args:=#[vn]) Tryz.func99 rfl rfl (by simp) rfl rfl ((tP _ dq _ (hN.sl 0 rfl) (by omega)).mono ?_))
 rintro _ lF ⟨rfl,aW⟩
 replace hN:=hN.ext aW
 clear aW
 refine RL.op rfl rfl (iz (cf:=bC) (s:=5) (pl:=[(0,.tmp 56)]) (ps:=[(0,.agg #[.int .i64 ((jF dq).1),.int .i64 ((jF dq).2.1),.int .i64 ((jF dq).2.2.1),.int .i64 ((jF dq).2.2.2.1),.int .i64 ((jF dq).2.2.2.2)])]) (zc:=[.int .i64 (0),.int .i64 (0),.int .i64 (0),.int .i64 (0),.int .i64 (0)]) (l:=[((jF dq).1,(jF dq).2.1,(jF dq).2.2.1,(jF dq).2.2.2.1,(jF dq).2.2.2.2)]) Vg Bg (by kernel_rfl) rfl rfl (aP (vs:=[.int .i64 ((jF dq).1),.int .i64 ((jF dq).2.1),.int .i64 ((jF dq).2.2.1),.int .i64 ((jF dq).2.2.2.1),.int .i64 ((jF dq).2.2.2.2)]) rfl rfl (US rfl) rfl) bb rfl (by decide) (by decide) (by decide) hN ?_)
 clear hN
 intro KY k9 (hN:ak w (aT [.aA gr [.pointer (some ⟨g,0,none⟩),.int .i64 (m),.bool (bd)] 89,b8 142 lo hi g s]) k9 [_,_,_,_,_,_,_])
 refine RL.op rfl rfl (ez Vg Bg rfl (by decide) pJ bb hN 2 rfl rfl (hN.sm 0 rfl) rfl (by(try simp only[UX,U3,U6,Vc]);omega) (by decide) ?_)
 clear hN
 intro AW oL (hN:ak w (aT [.aA gr [.pointer (some ⟨g,0,none⟩),.int .i64 (m),.bool (bd)] 89,b8 142 lo hi g s]) oL [_,_,_,_,_,_,_])
 refine RL.ev (v:=AW) rfl rfl aa (RL.nil (a7 (ag (RW.region (RL.ev rfl rfl (an rfl rfl rfl (bc (by omega) (by omega))) (RL.ev (v:=.int .i64 ((j:Int)+1)) rfl rfl U (RL.nil (ag ?_))))))))
 exact⟨k2-1,by omega,AW,acc++[((jF dq).1,(jF dq).2.1,(jF dq).2.2.1,(jF dq).2.2.2.1,(jF dq).2.2.2.2)],j+1,rfl,rfl,rfl,rfl,rfl,rfl,(hN.sub [2,3,4,5,6] (by decide) rfl),by omega,by rw[WD,V5,←hJ];subst pQ;rw[Vo (by omega)];rfl,by(try simp only[UX,U3]);omega,fun _=>by rw[Vo (by omega)]at o6;exact o6⟩
 refine RW.exit ?_
 iterate 2 refine bm ?_
 refine aO (ag (RW.seq (RW.region (RL.ev (v:=vr) rfl rfl U (RL.ev (v:=vr) rfl rfl aa (RL.nil (ag (RW.ret (aL (RV.tmp rfl) ?_)))))))))
 have Cu:j=lz.length:=by omega
 subst Cu
 have eM:(cn jF m 4 (s,bd))=((st,bd),acc):=by rw[nJ fF oM yJ,hJ]
 rw[eM]
 exact hN.sub [0,3,4] (by decide) rfl
theorem qC (lo hi g gr:Nat) (m:Int) (bd:Bool) (s:St) (w:World) (hN:ak w (aT [.aA gr [.pointer (some ⟨g,0,none⟩),.int .i64 (m),.bool (bd)] 89,b8 142 lo hi g s]) w [.aA gr [.pointer (some ⟨g,0,none⟩),.int .i64 (m),.bool (bd)] 89,b8 142 lo hi g s]) (iM:0≤m) (fZ:m≤1048576) (j5:s.1.length≤1048576):al UY 101 #[.pointer (some ⟨gr,0,none⟩),.int .i64 2,.func (.func 102) #[] #[]] w fun r w'=>ak w (aT [.aA gr [.pointer (some ⟨g,0,none⟩),.int .i64 (m),.bool (bd)] 89,b8 142 lo hi g s]) w' [.cV bk 2 135 r (cn iQ m 1 (s,bd)).2,.aA gr [.pointer (some ⟨g,0,none⟩),.int .i64 (m),.bool ((cn iQ m 1 (s,bd)).1.2)] 89,b8 142 lo hi g ((cn iQ m 1 (s,bd)).1.1)]:=by
 refine al.start abV rfl (US rfl) ?_
 rw[jB]
 refine RW.seq (RW.region (RL.ev (v:=.slice none 0 0) rfl rfl aa (RL.nil (ag (RW.seq (RW.region (RL.ev (v:=.slice none 0 0) rfl rfl aa ?_)))))))
 replace hN:=hN.fg vi
 replace hN:=hN.cj vh 25
 replace hN:ak w (aT [.aA gr [.pointer (some ⟨g,0,none⟩),.int .i64 (m),.bool (bd)] 89,b8 142 lo hi g s]) w [.own vh 25 (.slice none 0 0) ([]),.dT vi ([]) ([]),.aA gr [.pointer (some ⟨g,0,none⟩),.int .i64 (m),.bool (bd)] 89,b8 142 lo hi g s]:=hN
 refine RL.nil (ag ?_)
 iterate 2 refine RW.seq ?_
 refine RW.region (RL.ev (v:=.int .i64 (2)) rfl rfl U (RL.ev (v:=.int .i64 (0)) rfl rfl U (RL.nil (ag (RW.block ?_)))))
 refine RW.loop (fun k R0 bT=>∃st:St,∃ls:List (List Int),∃vo:Value,∃hs:List Hd,∃i:Nat,R0 0=.pointer (some ⟨gr,0,none⟩)∧R0 2=.func (.func 102) #[] #[]∧R0 7=vo∧R0 13=.int .i64 (2)∧R0 14=.int .i64 ((i:Int))∧ak w (aT [.aA gr [.pointer (some ⟨g,0,none⟩),.int .i64 (m),.bool (bd)] 89,b8 142 lo hi g s]) bT [.own vh 25 (vo) (hs),.dT vi (hs) (ls),.aA gr [.pointer (some ⟨g,0,none⟩),.int .i64 (m),.bool (bd)] 89,b8 142 lo hi g st]∧(i+k=2)∧(iV m i (s,bd)=((st,bd),ls))∧(st.1.length≤1048576)∧(hs.length=ls.length)∧(ls.length=i)∧(∀r∈ls,r.length≤1048576)) (2) ?_ ?_
 exact⟨s,[],.slice none 0 0,[],0,rfl,rfl,rfl,rfl,rfl,hN,by omega,rfl,j5,rfl,rfl,fun r hr=>by cases hr⟩
 clear hN
 rintro k R0 bT ⟨st,ls,vo,hs,i,bN,bF,cd,gH,me,hN,eR,fF,sg,wu,MS,tU⟩
 have bY:∃b6,R0=(aZ (aZ (aZ (aZ (aZ b6 0 _) 2 _) 7 _) 13 _) 14 _):=⟨R0,by rw[ai bN,ai bF,ai cd,ai gH,ai me]⟩
 obtain⟨b6,rfl⟩:=bY
 clear bN bF cd gH me
 refine RW.seq (RW.region (RL.ev rfl rfl (aV rfl rfl) (RL.nil (ag (RW.seq ?_)))))
 refine RW.aN _ rfl (fun bW=>?_) (fun bW=>?_)
 refine RW.skip (ag (RW.seq (RW.block (RW.region (RL.ev (v:=vo) rfl rfl U (RL.ev (v:=.pointer (some ⟨gr,0,none⟩)) rfl rfl U ?_))))))
 refine RL.op rfl rfl (aM Xc rfl rfl rfl ((gC lo hi g gr m (bd) st _ (hN.bZ (M:=[_,_]) [2,3] (by decide) rfl) (by omega) (by omega) (by(try have:=dB s m);omega)).mono ?_))
 rintro v1 w1 bE
 replace hN:ak w (aT [.aA gr [.pointer (some ⟨g,0,none⟩),.int .i64 (m),.bool (bd)] 89,b8 142 lo hi g s]) w1 [_,_,_,_,_]:=ak.bX (M:=[_,_]) (N:=[_,_]) (hN.sub [2,3,0,1] (by decide) rfl) bE
 clear bE
 have aw:=(hN.sl 0 rfl).hd
 obtain⟨h3,eM⟩:=aw
 subst eM
 refine RL.op rfl rfl (bS (enc:=vh) (l:=[h3]) (xs:=[.tmp 18]) U7 b7 BJ rfl rfl (fun _=>rfl) rfl (by decide) (by decide) hN ?_)
 clear hN
 intro g2 w2 (hN:ak w (aT [.aA gr [.pointer (some ⟨g,0,none⟩),.int .i64 (m),.bool (bd)] 89,b8 142 lo hi g s]) w2 [_,_,_,_,_,_])
 replace hN:ak w (aT [.aA gr [.pointer (some ⟨g,0,none⟩),.int .i64 (m),.bool (bd)] 89,b8 142 lo hi g s]) w2 [_,_,_,_,_]:=ak.kV (L:=[_,_,_,_,_]) (hN.sub [1,0,2,3,4,5] (by decide) rfl) 4 rfl
 refine RL.op rfl rfl (bD U7 yh rfl jT hN 3 rfl rfl (hN.sl 0 rfl) rfl (by(try simp only[UX,Vs,Vt,Vc,U6,U3,Vw,UX,Vl]);omega) (by decide) ?_)
 clear hN
 intro v4 w4 (hN:ak w (aT [.aA gr [.pointer (some ⟨g,0,none⟩),.int .i64 (m),.bool (bd)] 89,b8 142 lo hi g s]) w4 [_,_,_,_,_])
 refine RL.ev (v:=v4) rfl rfl aa (RL.nil (a7 (ag (RW.region (RL.ev rfl rfl (an rfl rfl rfl (bc (by omega) (by omega))) (RL.ev (v:=.int .i64 ((i:Int)+1)) rfl rfl U (RL.nil (ag ?_))))))))
 exact⟨k-1,by omega,(bO st m).1,ls++[(bO st m).2],v4,hs++[h3],i+1,rfl,rfl,rfl,rfl,rfl,(hN.sub [3,4,1,2] (by decide) rfl),by omega,by rw[oT,fF];rfl,Vf (dB st m) sg,by simp[wu],by simp[MS],fun r hr=>(W6.1 hr).elim (tU r) (fun e=>by rw[VY]at e;subst e;exact Vf (jg st m) sg)⟩
 refine RW.exit ?_
 iterate 2 refine bm ?_
 refine aO (ag (RW.seq ?_))
 obtain rfl:i=2:=by omega
 have yB:=ru m 2 (s,bd)
 rw[fF]at yB
 dsimp only at yB
 refine RW.region (RL.ev (v:=.slice none 0 0) rfl rfl aa (RL.nil (ag ?_)))
 iterate 2 refine RW.seq ?_
 refine RW.region (RL.ev (v:=vo) rfl rfl U (RL.ev rfl rfl (aB U7 b7 (hN.sl 0 rfl) rfl rfl (by omega) (by omega)) ?_))
 have aw:∃a_,(hs)[0]?=some a_:=⟨_,UT (by omega)⟩
 obtain⟨az,jS⟩:=aw
 have aw:∃l_,(ls)[0]?=some l_:=⟨_,UT (by have:=(hN.dx 1 rfl).1;omega)⟩
 obtain⟨lz,oM⟩:=aw
 refine RL.ev rfl rfl (aF (m:=0) (a:=az) UW rfl (hN.sl 0 rfl) rfl jS) ?_
 have pd:=((hN.dx 1 rfl).2 _ _ _ jS oM).1.aY
 refine RL.ev rfl rfl (aQ UW ((hN.dx 1 rfl).2 _ _ _ jS oM).1 rfl) (RL.ev (v:=.int .i64 (0)) rfl rfl U (RL.nil (ag (RW.block ?_))))
 replace hN:=hN.eK bk 2 135
 refine RW.loop (fun k2 R1 fI=>∃vr:Value,∃acc:List I2,∃j:Nat,R1 0=.pointer (some ⟨gr,0,none⟩)∧R1 2=.func (.func 102) #[] #[]∧R1 7=vo∧R1 8=vr∧R1 25=.int .i64 ((lz.length:Int))∧R1 26=.int .i64 ((j:Int))∧ak w (aT [.aA gr [.pointer (some ⟨g,0,none⟩),.int .i64 (m),.bool (bd)] 89,b8 142 lo hi g s]) fI [.cV bk 2 135 (vr) (acc),.own vh 25 (vo) (hs),.dT vi (hs) (ls),.aA gr [.pointer (some ⟨g,0,none⟩),.int .i64 (m),.bool (bd)] 89,b8 142 lo hi g st]∧(j+k2=lz.length)∧(acc=(V0 j).map fun q=>iQ (ls.map fun r=>(r[q]?).getD 0))∧(acc.length=j)∧(0<j→∀r∈ls,r.length=lz.length)) (lz.length) ?_ ?_
 exact⟨.slice none 0 0,[],0,rfl,rfl,rfl,rfl,rfl,rfl,hN,by omega,rfl,rfl,fun h=>absurd h (by omega)⟩
 clear hN
 rintro k2 R1 fI ⟨vr,acc,j,bN,bF,cd,cl,eO,fC,hN,wy,hJ,fG,yJ⟩
 have bY:∃gY,R1=(aZ (aZ (aZ (aZ (aZ (aZ gY 0 _) 2 _) 7 _) 8 _) 25 _) 26 _):=⟨R1,by rw[ai bN,ai bF,ai cd,ai cl,ai eO,ai fC]⟩
 obtain⟨gY,rfl⟩:=bY
 clear bN bF cd cl eO fC
 refine RW.seq (RW.region (RL.ev rfl rfl (aV rfl rfl) (RL.nil (ag (RW.seq ?_)))))
 refine RW.aN _ rfl (fun eI=>?_) (fun eI=>?_)
 refine RW.skip (ag (RW.seq (RW.block (RW.seq ?_))))
 have MP:=tU lz (UZ oM)
 refine RW.region (RL.ev (v:=.int .i64 ((j:Int))) rfl rfl U (RL.ev (v:=.int .i64 ((j:Int))) rfl rfl aa (RL.nil (ag (RW.seq (RW.region (RL.ev (v:=.slice none 0 0) rfl rfl aa (RL.nil (ag ?_)))))))))
 iterate 2 refine RW.seq ?_
 refine RW.region (RL.ev (v:=vo) rfl rfl U ?_)
 have HW:=(hN.sl 1 rfl).aY
 refine RL.ev rfl rfl (aQ U7 (hN.sl 1 rfl) rfl) (RL.ev (v:=.int .i64 (0)) rfl rfl U (RL.nil (ag (RW.block ?_))))
 replace hN:=hN.cj vi 3
 refine RW.loop (fun k3 R2 AV=>∃vn:Value,∃dq:List Int,∃p:Nat,R2 0=.pointer (some ⟨gr,0,none⟩)∧R2 2=.func (.func 102) #[] #[]∧R2 7=vo∧R2 8=vr∧R2 9=.int .i64 ((j:Int))∧R2 10=vn∧R2 25=.int .i64 ((lz.length:Int))∧R2 26=.int .i64 ((j:Int))∧R2 29=vo∧R2 30=.int .i64 ((hs.length:Int))∧R2 31=.int .i64 ((p:Int))∧ak w (aT [.aA gr [.pointer (some ⟨g,0,none⟩),.int .i64 (m),.bool (bd)] 89,b8 142 lo hi g s]) AV [.own vi 3 (vn) (dq),.cV bk 2 135 (vr) (acc),.own vh 25 (vo) (hs),.dT vi (hs) (ls),.aA gr [.pointer (some ⟨g,0,none⟩),.int .i64 (m),.bool (bd)] 89,b8 142 lo hi g st]∧(p+k3=2)∧(dq=(ls.take p).map fun r=>(r[j]?).getD 0)∧(dq.length=p)∧(∀r∈ls.take p,r.length=lz.length)) (2) ?_ ?_
 exact⟨.slice none 0 0,[],0,rfl,rfl,rfl,rfl,rfl,rfl,rfl,rfl,rfl,rfl,rfl,hN,by omega,rfl,rfl,fun r hr=>by cases hr⟩
 clear hN
 rintro k3 R2 AV ⟨vn,dq,p,bN,bF,cd,cl,dc,cB,eO,fC,pN,pM,pL,hN,Pj,pQ,Rw,o6⟩
 have bY:∃BI,R2=(aZ (aZ (aZ (aZ (aZ (aZ (aZ (aZ (aZ (aZ (aZ BI 0 _) 2 _) 7 _) 8 _) 9 _) 10 _) 25 _) 26 _) 29 _) 30 _) 31 _):=⟨R2,by rw[ai bN,ai bF,ai cd,ai cl,ai dc,ai cB,ai eO,ai fC,ai pN,ai pM,ai pL]⟩
 obtain⟨BI,rfl⟩:=bY
 clear bN bF cd cl dc cB eO fC pN pM pL
 refine RW.seq (RW.region (RL.ev rfl rfl (aV rfl rfl) (RL.nil (ag (RW.seq ?_)))))
 refine RW.aN _ rfl (fun EN=>?_) (fun EN=>?_)
 refine RW.skip (ag (RW.seq (RW.block (RW.seq (RW.region (RL.ev rfl rfl (aB U7 b7 (hN.sl 2 rfl) rfl rfl (by omega) (by omega)) ?_))))))
 have aw:∃a_,(hs)[p]?=some a_:=⟨_,UT (by omega)⟩
 obtain⟨ay,lI⟩:=aw
 have aw:∃l_,(ls)[p]?=some l_:=⟨_,UT (by have:=(hN.dx 3 rfl).1;omega)⟩
 obtain⟨ly,oN⟩:=aw
 refine RL.ev rfl rfl (aF (m:=p) (a:=ay) UW rfl (hN.sl 2 rfl) rfl lI) (RL.ev (v:=(vh ay)) rfl rfl aa (RL.nil (ag ?_)))
 iterate 2 refine RW.seq ?_
 refine RW.region (RL.ev (v:=(vh ay)) rfl rfl U ?_)
 have KT:=((hN.dx 3 rfl).2 _ _ _ lI oN).1.aY
 refine RL.ev rfl rfl (aQ UW ((hN.dx 3 rfl).2 _ _ _ lI oN).1 rfl) (RL.ev (v:=vo) rfl rfl U (RL.ev rfl rfl (aB U7 b7 (hN.sl 2 rfl) rfl rfl (by omega) (by omega)) ?_))
 have aw:∃a_,(hs)[0]?=some a_:=⟨_,UT (by omega)⟩
 obtain⟨au,FI⟩:=aw
 have aw:∃l_,(ls)[0]?=some l_:=⟨_,UT (by have:=(hN.dx 3 rfl).1;omega)⟩
 obtain⟨lu,Bj⟩:=aw
 refine RL.ev rfl rfl (aF (m:=0) (a:=au) UW rfl (hN.sl 2 rfl) rfl FI) ?_
 have Bs:=((hN.dx 3 rfl).2 _ _ _ FI Bj).1.aY
 refine RL.ev rfl rfl (aQ UW ((hN.dx 3 rfl).2 _ _ _ FI Bj).1 rfl) (RL.ev rfl rfl (bp rfl rfl) (RL.nil (ag ?_)))
 refine RW.aN _ rfl (fun di=>?_) (fun di=>?_)
 refine RW.seq (RW.region (RL.ev (v:=.pointer (some ⟨gr,0,none⟩)) rfl rfl U (RL.ev rfl rfl (bt rfl) (RL.ev rfl rfl (ah VI rfl np (by decide) rfl) ?_))))
 refine RL.op rfl rfl (b9 np rfl rfl rfl rfl hN 4 rfl (US rfl) ?_)
 clear hN
 intro jj (hN:ak w (aT [.aA gr [.pointer (some ⟨g,0,none⟩),.int .i64 (m),.bool (bd)] 89,b8 142 lo hi g s]) jj [_,_,_,_,_,_])
 refine RL.nil (ag (RW.seq (RW.region (RL.ev (v:=.slice none 0 0) rfl rfl aa (RL.nil (ag (RW.ret (aD (aJ ?_)))))))))
 iterate 2 refine aD ?_
 refine aJ (aD (aJ ?_))
 iterate 2 refine aD ?_
 refine aJ (aD (aL (RV.tmp rfl) ?_))
 have MQ:lu.length=lz.length:=by rw[Vq (Bj.symm.trans oM)]
 have eM:(cn iQ m 1 (s,bd))=((st,true),[]):=pt fF oM (by omega) oN (by omega)
 rw[eM]
 replace hN:=hN.eK bk 2 135
 exact hN.sub [0,5,6] (by decide) rfl
 refine RW.skip (ag ?_)
 obtain rfl:lu=lz:=Vq (Bj.symm.trans oM)
 refine RW.region (RL.ev (v:=vn) rfl rfl U (RL.ev (v:=(vh ay)) rfl rfl U (RL.ev (v:=.int .i64 ((j:Int))) rfl rfl U (RL.ev rfl rfl (aB UW bu ((hN.dx 3 rfl).2 _ _ _ lI oN).1 rfl rfl (by omega) (by omega)) ?_))))
 have aw:∃a_,(ly)[j]?=some a_:=⟨_,UT (by omega)⟩
 obtain⟨ac,jC⟩:=aw
 refine RL.ev rfl rfl (aF (m:=j) (a:=ac) UU rfl ((hN.dx 3 rfl).2 _ _ _ lI oN).1 rfl jC) ?_
 refine RL.op rfl rfl (bS (enc:=vi) (l:=[ac]) (xs:=[.tmp 49]) UW bu mu rfl rfl (fun _=>rfl) rfl (by decide) (by decide) hN ?_)
 clear hN
 intro wM iP (hN:ak w (aT [.aA gr [.pointer (some ⟨g,0,none⟩),.int .i64 (m),.bool (bd)] 89,b8 142 lo hi g s]) iP [_,_,_,_,_,_,_])
 refine RL.op rfl rfl (bD UW fT rfl (fun _=>rfl) hN 1 rfl rfl (hN.sl 0 rfl) rfl (by(try simp only[UX,U3,U6,Vc]);omega) (by decide) ?_)
 clear hN
 intro xw kC (hN:ak w (aT [.aA gr [.pointer (some ⟨g,0,none⟩),.int .i64 (m),.bool (bd)] 89,b8 142 lo hi g s]) kC [_,_,_,_,_,_,_])
 refine RL.ev (v:=xw) rfl rfl aa (RL.nil (a7 (ag (RW.region (RL.ev rfl rfl (an rfl rfl rfl (bc (by omega) (by omega))) (RL.ev (v:=.int .i64 ((p:Int)+1)) rfl rfl U (RL.nil (ag ?_))))))))
 exact⟨k3-1,by omega,xw,dq++[ac],p+1,rfl,rfl,rfl,rfl,rfl,rfl,rfl,rfl,rfl,rfl,rfl,(hN.sub [1,2,3,4,5,6] (by decide) rfl),by omega,by rw[dH oN,V5,pQ];simp[jC],by(try simp only[UX,U3]);omega,fun r hr=>(cT oN hr).elim (o6 r) (fun e=>e▸by omega)⟩
 refine RW.exit ?_
 iterate 2 refine bm ?_
 refine aO (ag (RW.region (RL.ev (v:=vr) rfl rfl U (RL.ev (v:=.func (.func 102) #[] #[]) rfl rfl U (RL.ev (v:=vn) rfl rfl U ?_)))))
 refine RL.op rfl rfl (bB (first:=#[]) (captured:=#[]) (v0:=vn) (args:=#[vn]) abU rfl rfl (by simp) rfl rfl ((tQ _ dq _ (hN.sl 0 rfl) (by omega)).mono ?_))
 rintro _ lF ⟨rfl,aW⟩
 replace hN:=hN.ext aW
 clear aW
 refine RL.op rfl rfl (iz (cf:=bk) (s:=2) (pl:=[(0,.tmp 56)]) (ps:=[(0,.agg #[.int .i64 ((iQ dq).1),.int .i64 ((iQ dq).2)])]) (zc:=[.int .i64 (0),.int .i64 (0)]) (l:=[((iQ dq).1,(iQ dq).2)]) Vy wj (by kernel_rfl) rfl rfl (aP (vs:=[.int .i64 ((iQ dq).1),.int .i64 ((iQ dq).2)]) rfl rfl (US rfl) rfl) bP rfl (by decide) (by decide) (by decide) hN ?_)
 clear hN
 intro KY k9 (hN:ak w (aT [.aA gr [.pointer (some ⟨g,0,none⟩),.int .i64 (m),.bool (bd)] 89,b8 142 lo hi g s]) k9 [_,_,_,_,_,_,_])
 refine RL.op rfl rfl (ez Vy wj rfl (by decide) pK bP hN 2 rfl rfl (hN.sm 0 rfl) rfl (by(try simp only[UX,U3,U6,Vc]);omega) (by decide) ?_)
 clear hN
 intro AW oL (hN:ak w (aT [.aA gr [.pointer (some ⟨g,0,none⟩),.int .i64 (m),.bool (bd)] 89,b8 142 lo hi g s]) oL [_,_,_,_,_,_,_])
 refine RL.ev (v:=AW) rfl rfl aa (RL.nil (a7 (ag (RW.region (RL.ev rfl rfl (an rfl rfl rfl (bc (by omega) (by omega))) (RL.ev (v:=.int .i64 ((j:Int)+1)) rfl rfl U (RL.nil (ag ?_))))))))
 exact⟨k2-1,by omega,AW,acc++[((iQ dq).1,(iQ dq).2)],j+1,rfl,rfl,rfl,rfl,rfl,rfl,(hN.sub [2,3,4,5,6] (by decide) rfl),by omega,by rw[WD,V5,←hJ];subst pQ;rw[Vo (by omega)];rfl,by(try simp only[UX,U3]);omega,fun _=>by rw[Vo (by omega)]at o6;exact o6⟩
 refine RW.exit ?_
 iterate 2 refine bm ?_
 refine aO (ag (RW.seq (RW.region (RL.ev (v:=vr) rfl rfl U (RL.ev (v:=vr) rfl rfl aa (RL.nil (ag (RW.ret (aL (RV.tmp rfl) ?_)))))))))
 have Cu:j=lz.length:=by omega
 subst Cu
 have eM:(cn iQ m 1 (s,bd))=((st,bd),acc):=by rw[nJ fF oM yJ,hJ]
 rw[eM]
 exact hN.sub [0,3,4] (by decide) rfl
end Go.Proofs.YtngkdkbpgoddlaaGreat
namespace Go.Gr
open Go.Rl Go.cP Go.hO
theorem Hl {m:Int} {l:List Int} {n:Nat} (h:qf m l=some n):(n:Int)≤m:=by
  unfold qf at h
  split at h
  · split at h
    · cases h
    · cases h;omega
  · cases h
theorem r8 {m:Int} {s:RS} {s1:RS} {n:Nat} (h0:0≤m) (h:er m s=(s1,n)):(n:Int)≤m:=by
  unfold er at h
  split at h
  · rename_i k hk
    cases h;exact Hl hk
  · cases h;exact h0
theorem o1 {m:Int} {s:RS} {s1:RS} {n:Nat} (h:er m s=(s1,n)):s1.1.1.length≤s.1.1.length:=by
  unfold er at h
  have h1:(dn m s).1.1.1.length≤s.1.1.length:=dB s.1 m
  split at h<;>cases h<;>exact h1
theorem DO (m:Int):∀(i:Nat) (s:RS),(iV m i s).1.1.1.length≤s.1.1.length∧∀r∈(iV m i s).2,r.length≤s.1.1.length:=by
  intro i
  induction i with
  |zero=>intro s;exact⟨Vv _,fun r hr=>by cases hr⟩
  |succ i ih=>
    intro s
    have h1:(dn m s).1.1.1.length≤s.1.1.length:=dB s.1 m
    have h2:(dn m s).2.length≤s.1.1.length:=jg s.1 m
    have h3:=ih (dn m s).1
    refine⟨Vf h3.1 h1,fun r hr=>?_⟩
    rcases U9.1 hr with rfl|hr
    · exact h2
    · exact Vf (h3.2 r hr) h1
theorem CS {α:Type} (f:List Int→α) (a:List Int) (rest:List (List Int)) (b:Bool):(sS f a rest b).1.length≤a.length:=by
  unfold sS
  split
  · exact VP _
  · split
    · rw[Ds];exact Vv _
    · exact VP _
theorem fe {α:Type} {f:List Int→α} {m:Int} {n:Nat} {s s1:RS} {l:List α} (h:cn f m n s=(s1,l)):s1.1.1.length≤s.1.1.length∧l.length≤s.1.1.length:=by
  have h1:=DO m (n+1) s
  have h2:=CS f ((iV m (n+1) s).2.headD []) (iV m (n+1) s).2.tail (iV m (n+1) s).1.2
  unfold cn at h
  cases h
  refine⟨h1.1,Vf h2 ?_⟩
  cases hq:(iV m (n+1) s).2 with
  |nil=>exact VP _
  |cons a r=>exact h1.2 a (by rw[hq];exact V2 ..)
theorem FQ {β:Type} {one:RS→RS×β} {N j:Nat} {s0 cur:RS} {ls:List β} {nx:RS} {x:β} (h:nD one N s0=((nD one j cur).1,ls++(nD one j cur).2)) (hj:0<j) (hc:cur.1.2=0) (hx:one cur=(nx,x)):
    nD one N s0=((nD one (j-1) nx).1,(ls++[x])++(nD one (j-1) nx).2):=by
  obtain⟨i,rfl⟩:∃i,j=i+1:=⟨j-1,by omega⟩
  rw[h]
  simp only[nD,Nat.add_sub_cancel]
  rw[if_neg (by rw[hc];decide),hx]
  simp
theorem qT {β:Type} {one:RS→RS×β} {N j:Nat} {s0 cur:RS} {ls:List β} (h:nD one N s0=((nD one j cur).1,ls++(nD one j cur).2)) (hs:j=0∨cur.1.2≠0):nD one N s0=(cur,ls):=by
  rw[h]
  rcases hs with rfl|hs
  · simp[nD]
  · rw[FP hs];simp
theorem nW {β:Type} {m:Int} {one:RS→RS×β} {s s1 fin:RS} {n:Nat} {ls:List β} (hM:er m s=(s1,n)) (h:nD one n s1=(fin,ls)):dh m one s=(fin,ls):=by
  unfold dh
  rw[hM]
  exact h
theorem HY {β:Type} {one:RS→RS×β} (h1:∀s,(one s).1.1.1.length≤s.1.1.length):∀(n:Nat) (s:RS),(nD one n s).1.1.1.length≤s.1.1.length∧(nD one n s).2.length≤n:=by
  intro n
  induction n with
  |zero=>intro s;exact⟨Vv _,Vv _⟩
  |succ n ih=>
    intro s
    simp only[nD]
    split
    · exact⟨Vv _,VP _⟩
    · have := ih (one s).1
      exact⟨Vf this.1 (h1 s),by simp only[U6];omega⟩
theorem H0 {β:Type} {one:RS→RS×β} {p:β→Nat} {B:Nat} (h1:∀s,(one s).1.1.1.length≤s.1.1.length) (h2:∀s,p (one s).2≤s.1.1.length):∀(n:Nat) (s:RS),s.1.1.length≤B→∀r∈(nD one n s).2,p r≤B:=by
  intro n
  induction n with
  |zero=>intro s _ r hr;cases hr
  |succ n ih=>
    intro s hs r hr
    simp only[nD]at hr
    split at hr
    · cases hr
    · rcases U9.1 hr with rfl | hr
      · exact Vf (h2 s) hs
      · exact ih (one s).1 (Vf (h1 s) hs) r hr
theorem fK (m:Int) (s:RS):(dn m s).1.1.1.length≤s.1.1.length:=dB s.1 m
theorem gD (m:Int) (s:RS):(dn m s).2.length≤s.1.1.length:=jg s.1 m
theorem kY {α:Type} (f:List Int→α) (m:Int) (n:Nat) (s:RS):(cn f m n s).1.1.1.length≤s.1.1.length:=(fe (s1:=(cn f m n s).1) (l:=(cn f m n s).2) rfl).1
theorem im {α:Type} (f:List Int→α) (m:Int) (n:Nat) (s:RS):(cn f m n s).2.length≤s.1.1.length:=(fe (s1:=(cn f m n s).1) (l:=(cn f m n s).2) rfl).2
theorem fc {β:Type} {m:Int} {one:RS→RS×β} {p:β→Nat} (h0:0≤m) (h1:∀s,(one s).1.1.1.length≤s.1.1.length) (h2:∀s,p (one s).2≤s.1.1.length) (s:RS):(dh m one s).1.1.1.length≤s.1.1.length∧(((dh m one s).2.length:Int)≤m∧∀r∈(dh m one s).2,p r≤s.1.1.length):=by
  have a:=r8 (s:=s) (s1:=(er m s).1) (n:=(er m s).2) h0 rfl
  have b:=o1 (m:=m) (s:=s) (s1:=(er m s).1) (n:=(er m s).2) rfl
  have c:=HY h1 (er m s).2 (er m s).1
  refine⟨Vf c.1 b,?_,H0 h1 h2 _ _ b⟩
  have d:(dh m one s).2.length≤(er m s).2:=c.2
  omega
theorem Hr {m:Int} {s:St} {bd:Bool} {x:Int} {s1:St} {b1:Bool} {l1:List I3} (hl:(bO s m).2.length=1) (hx:(bO s m).2[0]?=some x) (hM:cn lT m 2 ((bO s m).1,bd)=((s1,b1),l1)):lB m (s,bd)=((s1,b1),(x,l1)):=by
  have h:(dn m (s,bd)).2=[x]:=by
    show(bO s m).2=[x]
    match h:(bO s m).2,hl,hx with
    |[y],_,hx=>cases hx;rfl
  have h2:(dn m (s,bd)).1=((bO s m).1,bd):=rfl
  unfold lB
  rw[h,h2,hM]
theorem Ee {m:Int} {s:St} {bd:Bool} (hl:¬(bO s m).2.length=1):lB m (s,bd)=(((bO s m).1,true),(0,[])):=by
  unfold lB
  split
  · rename_i h
    exact absurd (congrArg Wc (show(bO s m).2=_ from h)) hl
  · rfl
theorem EY {m:Int} {s:St} {bd:Bool} {s1:St} {b1:Bool} {l1:List I5} (hM:cn jF m 4 ((bO s m).1,bd)=((s1,b1),l1)):iS m (s,bd)=((s1,b1),((bO s m).2,l1)):=by
  have h2:(dn m (s,bd)).1=((bO s m).1,bd):=rfl
  unfold iS
  rw[h2,hM];rfl
theorem DD {m:Int} {s:St} {bd:Bool} {s1 s2 s3 s4 s5:RS} {far so si:List (List Int)} {outs ins:List (List I2)} (h1:dh m (dn m) ((bO s m).1,bd)=(s1,far)) (h2:dh m (cn iQ m 1) s1=(s2,outs)) (h3:dh m (cn iQ m 1) s2=(s3,ins)) (h4:dh m (dn m) s3=(s4,so)) (h5:dh m (dn m) s4=(s5,si)):
    gw m (s,bd)=(s5,((bO s m).2,far,outs,ins,so,si)):=by
  have h0:(dn m (s,bd)).1=((bO s m).1,bd):=rfl
  unfold gw
  simp only[h0,h1,h2,h3,h4,h5]
  rfl
end Go.Gr
namespace Go.Rl
section
variable {P:Program} {n:Nat} {Q:eN} {R:Nat→Value} {w:World} {K:Value→World→Prop} {dst:Option Tmp} {ty:TypeId} {pos:String} {af:Array Edge} {gd:Option (Nat×Bool)}
theorem kW {f:FuncId} {first:Array Operand} {xs:List Operand} {vs:List Value} (hx:first=xs.toArray) (h:xs.map (ev R)=vs):Ev P ⟨dst,.makeFunc (.func f) first #[],ty,pos,af,gd⟩ R w (.func (.func f) vs.toArray #[]):=by
  subst hx h
  simp[Ev,execOp,aa7]
end
section
variable {w:World} {F:Nat→Prop} {α:Type} {enc:α→Value}
theorem ep.drop {hs:List Hd} {ls:List (List α)} (h:ep F enc w hs ls) (k:Nat):ep F enc w (hs.drop k) (ls.drop k):=
  ⟨by rw[Vt,Vt,h.1],fun i hd l hi hl=>h.2 (k+i) hd l (by rw[XH]at hi;exact hi) (by rw[XH]at hl;exact hl)⟩
theorem ep.take {hs:List Hd} {ls:List (List α)} (h:ep F enc w hs ls) (k:Nat):ep F enc w (hs.take k) (ls.take k):=by
  refine⟨by rw[Vs,Vs,h.1],fun i hd l hi hl=>?_⟩
  rw[Wt]at hi hl
  split at hi
  · rename_i hk
    rw[if_pos hk]at hl
    exact h.2 i hd l hi hl
  · cases hi
end
end Go.Rl
namespace Go.Proofs.YtngkdkbpgoddlaaGreat
open Go.RowKit Go.Rl
open Go.Gr Go.cP Go.hO
theorem Bd (lo hi g gr:Nat) (m:Int) (bd:Bool) (s:St) (w:World) (hN:ak w (aT [.aA gr [.pointer (some ⟨g,0,none⟩),.int .i64 (m),.bool (bd)] 89,b8 142 lo hi g s]) w [.aA gr [.pointer (some ⟨g,0,none⟩),.int .i64 (m),.bool (bd)] 89,b8 142 lo hi g s]) (iM:0≤m) (fZ:m≤1048576) (j5:s.1.length≤1048576) {s1:St} {b1:Bool} {n1:Nat} (e:er m (s,bd)=((s1,b1),n1)):al UY 158 #[.pointer (some ⟨gr,0,none⟩)] w fun r w'=>r=.int .i64 (n1:Int)∧ak w (aT [.aA gr [.pointer (some ⟨g,0,none⟩),.int .i64 (m),.bool (bd)] 89,b8 142 lo hi g s]) w' [.aA gr [.pointer (some ⟨g,0,none⟩),.int .i64 (m),.bool (b1)] 89,b8 142 lo hi g s1]:=
  (xN lo hi g gr m bd s w hN iM fZ j5).mono fun _ _ h=>by rw[e]at h;exact h
theorem AL (lo hi g gr:Nat) (m:Int) (bd:Bool) (s:St) (w:World) (hN:ak w (aT [.aA gr [.pointer (some ⟨g,0,none⟩),.int .i64 (m),.bool (bd)] 89,b8 142 lo hi g s]) w [.aA gr [.pointer (some ⟨g,0,none⟩),.int .i64 (m),.bool (bd)] 89,b8 142 lo hi g s]) (iM:0≤m) (fZ:m≤1048576) (j5:s.1.length≤1048576) {s1:St} {b1:Bool} {l1:List I3} (e:cn lT m 2 (s,bd)=((s1,b1),l1)):al UY 96 #[.pointer (some ⟨gr,0,none⟩),.int .i64 3,.func (.func 97) #[] #[]] w fun r w'=>ak w (aT [.aA gr [.pointer (some ⟨g,0,none⟩),.int .i64 (m),.bool (bd)] 89,b8 142 lo hi g s]) w' [.cV bf 3 100 r l1,.aA gr [.pointer (some ⟨g,0,none⟩),.int .i64 (m),.bool (b1)] 89,b8 142 lo hi g s1]:=
  (uc lo hi g gr m bd s w hN iM fZ j5).mono fun _ _ h=>by rw[e]at h;exact h
theorem wR (lo hi g gr:Nat) (m:Int) (bd:Bool) (s:St) (w:World) (hN:ak w (aT [.aA gr [.pointer (some ⟨g,0,none⟩),.int .i64 (m),.bool (bd)] 89,b8 142 lo hi g s]) w [.aA gr [.pointer (some ⟨g,0,none⟩),.int .i64 (m),.bool (bd)] 89,b8 142 lo hi g s]) (iM:0≤m) (fZ:m≤1048576) (j5:s.1.length≤1048576) {s1:St} {b1:Bool} {l1:List I5} (e:cn jF m 4 (s,bd)=((s1,b1),l1)):al UY 98 #[.pointer (some ⟨gr,0,none⟩),.int .i64 5,.func (.func 99) #[] #[]] w fun r w'=>ak w (aT [.aA gr [.pointer (some ⟨g,0,none⟩),.int .i64 (m),.bool (bd)] 89,b8 142 lo hi g s]) w' [.cV bC 5 98 r l1,.aA gr [.pointer (some ⟨g,0,none⟩),.int .i64 (m),.bool (b1)] 89,b8 142 lo hi g s1]:=
  (qB lo hi g gr m bd s w hN iM fZ j5).mono fun _ _ h=>by rw[e]at h;exact h
theorem wS (lo hi g gr:Nat) (m:Int) (bd:Bool) (s:St) (w:World) (hN:ak w (aT [.aA gr [.pointer (some ⟨g,0,none⟩),.int .i64 (m),.bool (bd)] 89,b8 142 lo hi g s]) w [.aA gr [.pointer (some ⟨g,0,none⟩),.int .i64 (m),.bool (bd)] 89,b8 142 lo hi g s]) (iM:0≤m) (fZ:m≤1048576) (j5:s.1.length≤1048576) {s1:St} {b1:Bool} {l1:List I2} (e:cn iQ m 1 (s,bd)=((s1,b1),l1)):al UY 101 #[.pointer (some ⟨gr,0,none⟩),.int .i64 2,.func (.func 102) #[] #[]] w fun r w'=>ak w (aT [.aA gr [.pointer (some ⟨g,0,none⟩),.int .i64 (m),.bool (bd)] 89,b8 142 lo hi g s]) w' [.cV bk 2 135 r l1,.aA gr [.pointer (some ⟨g,0,none⟩),.int .i64 (m),.bool (b1)] 89,b8 142 lo hi g s1]:=
  (qC lo hi g gr m bd s w hN iM fZ j5).mono fun _ _ h=>by rw[e]at h;exact h
theorem B7 (lo hi g gr gb:Nat) (m:Int) (bd:Bool) (s:St) (w:World) (hN:ak w (aT [.aA gb [.pointer (some ⟨gr,0,none⟩)] 82,.aA gr [.pointer (some ⟨g,0,none⟩),.int .i64 (m),.bool (bd)] 89,b8 142 lo hi g s]) w [.aA gb [.pointer (some ⟨gr,0,none⟩)] 82,.aA gr [.pointer (some ⟨g,0,none⟩),.int .i64 (m),.bool (bd)] 89,b8 142 lo hi g s]) (iM:0≤m) (fZ:m≤1048576) (j5:s.1.length≤1048576) {s1:St} {b1:Bool} {l1:List I2} (e:cn iQ m 1 (s,bd)=((s1,b1),l1)):al UY 100 #[.pointer (some ⟨gb,0,none⟩)] w fun r w'=>ak w (aT [.aA gb [.pointer (some ⟨gr,0,none⟩)] 82,.aA gr [.pointer (some ⟨g,0,none⟩),.int .i64 (m),.bool (bd)] 89,b8 142 lo hi g s]) w' [.cV bk 2 135 r l1,.aA gb [.pointer (some ⟨gr,0,none⟩)] 82,.aA gr [.pointer (some ⟨g,0,none⟩),.int .i64 (m),.bool (b1)] 89,b8 142 lo hi g s1]:=by
 refine al.start abW rfl (US rfl) ?_
 rw[bL]
 refine RW.seq (RW.region (RL.ev (v:=.slice none 0 0) rfl rfl aa (RL.nil (ag (RW.seq (RW.region (RL.ev rfl rfl (aj Wv rfl rfl (hN.aA 0 rfl) rfl) ?_)))))))
 have gV:∃s1 b1 l1,cn iQ m 1 (s,(bd))=((s1,b1),l1):=⟨_,_,_,rfl⟩
 obtain⟨Lo,xm,Us,zr⟩:=gV
 have FM:=(fe zr).1
 have Qs:=(fe zr).2
 dsimp only at FM Qs
 refine RL.op rfl rfl (cF abV rfl rfl rfl rfl rfl ((wS lo hi g gr m (bd) s _ (hN.bZ (M:=[_,_]) [1,2] (by decide) rfl) (by omega) (by omega) (by omega) zr).mono ?_))
 rintro v1 w1 bE
 replace hN:ak w (aT [.aA gb [.pointer (some ⟨gr,0,none⟩)] 82,.aA gr [.pointer (some ⟨g,0,none⟩),.int .i64 (m),.bool (bd)] 89,b8 142 lo hi g s]) w1 [_,_,_,_]:=ak.bX (M:=[_,_]) (N:=[_]) (hN.sub [1,2,0] (by decide) rfl) bE
 clear bE
 refine RL.ev (v:=v1) rfl rfl aa (RL.nil (ag (RW.ret (aL (RV.tmp rfl) ?_))))
 have eM:=zr.symm.trans e
 injection eM with Qv Ua
 injection Qv with Qv T9
 subst Qv Ua T9
 exact hN.sub [0,3,1,2] (by decide) rfl
theorem xJ (lo hi g gr gb:Nat) (m:Int) (bd:Bool) (s:St) (w:World) (hN:ak w (aT [.aA gr [.pointer (some ⟨g,0,none⟩),.int .i64 (m),.bool (bd)] 89,b8 142 lo hi g s]) w [.aA gr [.pointer (some ⟨g,0,none⟩),.int .i64 (m),.bool (bd)] 89,b8 142 lo hi g s]) (iM:0≤m) (fZ:m≤1048576) (j5:s.1.length≤1048576):al UY 103 #[.pointer (some ⟨gr,0,none⟩),.func (.func 95) #[.pointer (some ⟨gr,0,none⟩)] #[]] w fun r w'=>∃hs,ak w (aT [.aA gr [.pointer (some ⟨g,0,none⟩),.int .i64 (m),.bool (bd)] 89,b8 142 lo hi g s]) w' [.own vh 25 r hs,.dT vi hs (dh m (dn m) (s,bd)).2,.aA gr [.pointer (some ⟨g,0,none⟩),.int .i64 (m),.bool ((dh m (dn m) (s,bd)).1.2)] 89,b8 142 lo hi g ((dh m (dn m) (s,bd)).1.1)]:=by
 refine al.start Y4 rfl (US rfl) ?_
 rw[cc]
 refine RW.seq (RW.region (RL.ev (v:=.slice none 0 0) rfl rfl aa (RL.nil (ag (RW.seq (RW.region (RL.ev (v:=.slice none 0 0) rfl rfl aa ?_)))))))
 replace hN:=hN.fg vi
 replace hN:=hN.cj vh 25
 replace hN:ak w (aT [.aA gr [.pointer (some ⟨g,0,none⟩),.int .i64 (m),.bool (bd)] 89,b8 142 lo hi g s]) w [.own vh 25 (.slice none 0 0) ([]),.dT vi ([]) ([]),.aA gr [.pointer (some ⟨g,0,none⟩),.int .i64 (m),.bool (bd)] 89,b8 142 lo hi g s]:=hN
 refine RL.nil (ag (RW.seq (RW.region (RL.ev (v:=.pointer (some ⟨gr,0,none⟩)) rfl rfl U ?_))))
 have gV:∃s1 b1 n1,er m (s,(bd))=((s1,b1),n1):=⟨_,_,_,rfl⟩
 obtain⟨Lo,xm,D9,zr⟩:=gV
 have Qq:=r8 (by omega) zr
 have FM:=o1 zr
 dsimp only at FM
 refine RL.op rfl rfl (aM aak rfl rfl rfl ((Bd lo hi g gr m (bd) s _ (hN.bZ (M:=[_,_]) [2,3] (by decide) rfl) (by omega) (by omega) (by omega) zr).mono ?_))
 rintro _ w1 ⟨rfl,bE⟩
 replace hN:ak w (aT [.aA gr [.pointer (some ⟨g,0,none⟩),.int .i64 (m),.bool (bd)] 89,b8 142 lo hi g s]) w1 [_,_,_,_]:=ak.bX (M:=[_,_]) (N:=[_,_]) (hN.sub [2,3,0,1] (by decide) rfl) bE
 clear bE
 refine RL.ev (v:=.int .i64 ((D9:Int))) rfl rfl aa (RL.nil (ag (RW.seq (RW.block ?_))))
 refine RW.loop (fun k R0 bT=>∃j:Nat,∃st:St,∃b:Bool,∃ls:List (List Int),∃vo:Value,∃hs:List Hd,R0 0=.pointer (some ⟨gr,0,none⟩)∧R0 1=.func (.func 95) #[.pointer (some ⟨gr,0,none⟩)] #[]∧R0 5=vo∧R0 6=.int .i64 ((j:Int))∧ak w (aT [.aA gr [.pointer (some ⟨g,0,none⟩),.int .i64 (m),.bool (bd)] 89,b8 142 lo hi g s]) bT [.aA gr [.pointer (some ⟨g,0,none⟩),.int .i64 (m),.bool (b)] 89,b8 142 lo hi g st,.own vh 25 (vo) (hs),.dT vi (hs) (ls)]∧(j=k)∧(nD (dn m) D9 (Lo,xm)=((nD (dn m) j (st,b)).1,ls++(nD (dn m) j (st,b)).2))∧(st.1.length≤1048576)∧(hs.length+j=D9)) (D9) ?_ ?_
 exact⟨D9,Lo,xm,[],.slice none 0 0,[],rfl,rfl,rfl,rfl,hN,rfl,rfl,by omega,W3 _⟩
 clear hN
 rintro k R0 bT ⟨j,st,b,ls,vo,hs,bN,bw,bM,dd,hN,wy,yD,sg,TG⟩
 have bY:∃b6,R0=(aZ (aZ (aZ (aZ b6 0 _) 1 _) 5 _) 6 _):=⟨R0,by rw[ai bN,ai bw,ai bM,ai dd]⟩
 obtain⟨b6,rfl⟩:=bY
 clear bN bw bM dd
 iterate 2 refine RW.seq ?_
 refine RW.region (RL.ev (v:=.int .i64 ((j:Int))) rfl rfl U (RL.ev rfl rfl (cN rfl rfl) (RL.ev (v:=.bool (decide (0<(j:Int)))) rfl rfl U ?_)))
 by_cases HI:0<(j:Int)
 rw[decide_eq_true HI]
 refine RL.aI (v:=.pointer (some ⟨gr,0,none⟩)) rfl rfl (by decide) rfl rfl U (RL.aI rfl rfl (by decide) rfl rfl (bt rfl) (RL.aI rfl rfl (by decide) rfl rfl (ah VI rfl BV (by decide) rfl) (RL.aI rfl rfl (by decide) rfl rfl (aj Wq rfl rfl (hN.aA 0 rfl) rfl) ?_)))
 refine RL.on rfl rfl (by decide) rfl rfl (aM Xm rfl rfl rfl ((eV _ _ _ st _ (b8.says hN 1 rfl)).mono ?_))
 rintro _ _ ⟨rfl,rfl⟩
 refine RL.aI rfl rfl (by decide) rfl rfl (cI rfl rfl) (RL.ev (v:=.bool (decide (st.2=0))) rfl rfl (ao rfl) (RL.nil (ag ?_)))
 refine RW.aN _ rfl (fun sD=>?_) (fun sD=>?_)
 refine RW.skip (ag (RW.seq (RW.block (RW.region (RL.ev (v:=vo) rfl rfl U (RL.ev (v:=.func (.func 95) #[.pointer (some ⟨gr,0,none⟩)] #[]) rfl rfl U ?_))))))
 refine RL.op rfl rfl (uO (_u:=.tmp 0) (_w:=undef) (first:=#[.pointer (some ⟨gr,0,none⟩)]) (captured:=#[]) (args:=#[.pointer (some ⟨gr,0,none⟩)]) Xc rfl rfl (by simp) rfl ((gC lo hi g gr m (b) st _ (hN.bZ (M:=[_,_]) [0,1] (by decide) rfl) (by omega) (by omega) (by omega)).mono ?_))
 rintro v3 w3 bE
 replace hN:ak w (aT [.aA gr [.pointer (some ⟨g,0,none⟩),.int .i64 (m),.bool (bd)] 89,b8 142 lo hi g s]) w3 [_,_,_,_,_]:=ak.bX (M:=[_,_]) (N:=[_,_]) (hN.sub [0,1,2,3] (by decide) rfl) bE
 clear bE
 have aw:=(hN.sl 0 rfl).hd
 obtain⟨h5,eM⟩:=aw
 subst eM
 refine RL.op rfl rfl (bS (enc:=vh) (l:=[h5]) (xs:=[.tmp 23]) U7 b7 BJ rfl rfl (fun _=>rfl) rfl (by decide) (by decide) hN ?_)
 clear hN
 intro g4 w4 (hN:ak w (aT [.aA gr [.pointer (some ⟨g,0,none⟩),.int .i64 (m),.bool (bd)] 89,b8 142 lo hi g s]) w4 [_,_,_,_,_,_])
 replace hN:ak w (aT [.aA gr [.pointer (some ⟨g,0,none⟩),.int .i64 (m),.bool (bd)] 89,b8 142 lo hi g s]) w4 [_,_,_,_,_]:=ak.kV (L:=[_,_,_,_,_]) (hN.sub [1,0,2,3,4,5] (by decide) rfl) 4 rfl
 refine RL.op rfl rfl (bD U7 yh rfl jT hN 3 rfl rfl (hN.sl 0 rfl) rfl (by(try simp only[UX,Vs,Vt,Vc,U6,U3,Vw,UX,Vl]);omega) (by decide) ?_)
 clear hN
 intro v6 w6 (hN:ak w (aT [.aA gr [.pointer (some ⟨g,0,none⟩),.int .i64 (m),.bool (bd)] 89,b8 142 lo hi g s]) w6 [_,_,_,_,_])
 refine RL.ev (v:=v6) rfl rfl aa (RL.nil (a7 (ag (RW.region (RL.ev (v:=.int .i64 ((j:Int))) rfl rfl U (RL.ev rfl rfl (an rfl rfl rfl (show arith .sub .i64 (j:Int) 1=((j-1:Nat):Int)from(kc (by omega) (by omega)).trans (by omega))) (RL.ev (v:=.int .i64 (((j-1:Nat):Int))) rfl rfl aa (RL.nil (ag ?_)))))))))
 exact⟨k-1,by omega,j-1,(bO st m).1,(b),ls++[(bO st m).2],v6,hs++[h5],rfl,rfl,rfl,rfl,(hN.sub [1,2,3,4] (by decide) rfl),by omega,FQ yD (by omega) sD rfl,Vf (dB st m) sg,by simp only[UX,U3];omega⟩
 refine RW.exit ?_
 iterate 2 refine bm ?_
 refine aO (ag (RW.seq (RW.region (RL.ev (v:=vo) rfl rfl U (RL.ev (v:=vo) rfl rfl aa (RL.nil (ag (RW.ret (aL (RV.tmp rfl) ?_)))))))))
 have eM:=nW zr (qT yD (.inr sD))
 rw[eM]
 exact⟨_,hN.sub [2,3,0,1] (by decide) rfl⟩
 rw[decide_eq_false HI]
 iterate 6 refine RL.off rfl rfl (by decide) rfl rfl ?_
 refine RL.ev (v:=.bool false) rfl rfl (aH rfl) (RL.nil (ag (RW.dD rfl (RW.exit ?_))))
 iterate 2 refine bm ?_
 refine aO (ag (RW.seq (RW.region (RL.ev (v:=vo) rfl rfl U (RL.ev (v:=vo) rfl rfl aa (RL.nil (ag (RW.ret (aL (RV.tmp rfl) ?_)))))))))
 have eM:=nW zr (qT yD (.inl (by omega)))
 rw[eM]
 exact⟨_,hN.sub [2,3,0,1] (by decide) rfl⟩
theorem xH (lo hi g gr gb:Nat) (m:Int) (bd:Bool) (s:St) (w:World) (hN:ak w (aT [.aA gb [.pointer (some ⟨gr,0,none⟩)] 82,.aA gr [.pointer (some ⟨g,0,none⟩),.int .i64 (m),.bool (bd)] 89,b8 142 lo hi g s]) w [.aA gb [.pointer (some ⟨gr,0,none⟩)] 82,.aA gr [.pointer (some ⟨g,0,none⟩),.int .i64 (m),.bool (bd)] 89,b8 142 lo hi g s]) (iM:0≤m) (fZ:m≤1048576) (j5:s.1.length≤1048576):al UY 104 #[.pointer (some ⟨gr,0,none⟩),.func (.func 100) #[] #[.pointer (some ⟨gb,0,none⟩)]] w fun r w'=>∃hs,ak w (aT [.aA gb [.pointer (some ⟨gr,0,none⟩)] 82,.aA gr [.pointer (some ⟨g,0,none⟩),.int .i64 (m),.bool (bd)] 89,b8 142 lo hi g s]) w' [.own vh 118 r hs,.ek bk hs (dh m (cn iQ m 1) (s,bd)).2,.aA gb [.pointer (some ⟨gr,0,none⟩)] 82,.aA gr [.pointer (some ⟨g,0,none⟩),.int .i64 (m),.bool ((dh m (cn iQ m 1) (s,bd)).1.2)] 89,b8 142 lo hi g ((dh m (cn iQ m 1) (s,bd)).1.1)]:=by
 refine al.start aal rfl (US rfl) ?_
 rw[cc]
 refine RW.seq (RW.region (RL.ev (v:=.slice none 0 0) rfl rfl aa (RL.nil (ag (RW.seq (RW.region (RL.ev (v:=.slice none 0 0) rfl rfl aa ?_)))))))
 replace hN:=hN.Bw bk
 replace hN:=hN.cj vh 118
 replace hN:ak w (aT [.aA gb [.pointer (some ⟨gr,0,none⟩)] 82,.aA gr [.pointer (some ⟨g,0,none⟩),.int .i64 (m),.bool (bd)] 89,b8 142 lo hi g s]) w [.own vh 118 (.slice none 0 0) ([]),.ek bk ([]) ([]),.aA gb [.pointer (some ⟨gr,0,none⟩)] 82,.aA gr [.pointer (some ⟨g,0,none⟩),.int .i64 (m),.bool (bd)] 89,b8 142 lo hi g s]:=hN
 refine RL.nil (ag (RW.seq (RW.region (RL.ev (v:=.pointer (some ⟨gr,0,none⟩)) rfl rfl U ?_))))
 have gV:∃s1 b1 n1,er m (s,(bd))=((s1,b1),n1):=⟨_,_,_,rfl⟩
 obtain⟨Lo,xm,D9,zr⟩:=gV
 have Qq:=r8 (by omega) zr
 have FM:=o1 zr
 dsimp only at FM
 refine RL.op rfl rfl (aM aak rfl rfl rfl ((Bd lo hi g gr m (bd) s _ (hN.bZ (M:=[_,_]) [3,4] (by decide) rfl) (by omega) (by omega) (by omega) zr).mono ?_))
 rintro _ w1 ⟨rfl,bE⟩
 replace hN:ak w (aT [.aA gb [.pointer (some ⟨gr,0,none⟩)] 82,.aA gr [.pointer (some ⟨g,0,none⟩),.int .i64 (m),.bool (bd)] 89,b8 142 lo hi g s]) w1 [_,_,_,_,_]:=ak.bX (M:=[_,_]) (N:=[_,_,_]) (hN.sub [3,4,0,1,2] (by decide) rfl) bE
 clear bE
 refine RL.ev (v:=.int .i64 ((D9:Int))) rfl rfl aa (RL.nil (ag (RW.seq (RW.block ?_))))
 refine RW.loop (fun k R0 bT=>∃j:Nat,∃st:St,∃b:Bool,∃ls:List (List I2),∃vo:Value,∃hs:List Hd,R0 0=.pointer (some ⟨gr,0,none⟩)∧R0 1=.func (.func 100) #[] #[.pointer (some ⟨gb,0,none⟩)]∧R0 5=vo∧R0 6=.int .i64 ((j:Int))∧ak w (aT [.aA gb [.pointer (some ⟨gr,0,none⟩)] 82,.aA gr [.pointer (some ⟨g,0,none⟩),.int .i64 (m),.bool (bd)] 89,b8 142 lo hi g s]) bT [.aA gr [.pointer (some ⟨g,0,none⟩),.int .i64 (m),.bool (b)] 89,b8 142 lo hi g st,.own vh 118 (vo) (hs),.ek bk (hs) (ls),.aA gb [.pointer (some ⟨gr,0,none⟩)] 82]∧(j=k)∧(nD (cn iQ m 1) D9 (Lo,xm)=((nD (cn iQ m 1) j (st,b)).1,ls++(nD (cn iQ m 1) j (st,b)).2))∧(st.1.length≤1048576)∧(hs.length+j=D9)) (D9) ?_ ?_
 exact⟨D9,Lo,xm,[],.slice none 0 0,[],rfl,rfl,rfl,rfl,hN,rfl,rfl,by omega,W3 _⟩
 clear hN
 rintro k R0 bT ⟨j,st,b,ls,vo,hs,bN,bw,bM,dd,hN,wy,yD,sg,TG⟩
 have bY:∃b6,R0=(aZ (aZ (aZ (aZ b6 0 _) 1 _) 5 _) 6 _):=⟨R0,by rw[ai bN,ai bw,ai bM,ai dd]⟩
 obtain⟨b6,rfl⟩:=bY
 clear bN bw bM dd
 iterate 2 refine RW.seq ?_
 refine RW.region (RL.ev (v:=.int .i64 ((j:Int))) rfl rfl U (RL.ev rfl rfl (cN rfl rfl) (RL.ev (v:=.bool (decide (0<(j:Int)))) rfl rfl U ?_)))
 by_cases HI:0<(j:Int)
 rw[decide_eq_true HI]
 refine RL.aI (v:=.pointer (some ⟨gr,0,none⟩)) rfl rfl (by decide) rfl rfl U (RL.aI rfl rfl (by decide) rfl rfl (bt rfl) (RL.aI rfl rfl (by decide) rfl rfl (ah VI rfl BV (by decide) rfl) (RL.aI rfl rfl (by decide) rfl rfl (aj Wq rfl rfl (hN.aA 0 rfl) rfl) ?_)))
 refine RL.on rfl rfl (by decide) rfl rfl (aM Xm rfl rfl rfl ((eV _ _ _ st _ (b8.says hN 1 rfl)).mono ?_))
 rintro _ _ ⟨rfl,rfl⟩
 refine RL.aI rfl rfl (by decide) rfl rfl (cI rfl rfl) (RL.ev (v:=.bool (decide (st.2=0))) rfl rfl (ao rfl) (RL.nil (ag ?_)))
 refine RW.aN _ rfl (fun sD=>?_) (fun sD=>?_)
 refine RW.skip (ag (RW.seq (RW.block (RW.region (RL.ev (v:=vo) rfl rfl U (RL.ev (v:=.func (.func 100) #[] #[.pointer (some ⟨gb,0,none⟩)]) rfl rfl U ?_))))))
 have gV:∃s1 b1 l1,cn iQ m 1 (st,(b))=((s1,b1),l1):=⟨_,_,_,rfl⟩
 obtain⟨ta,zt,Hy,tb⟩:=gV
 have wF:=(fe tb).1
 have wG:=(fe tb).2
 dsimp only at wF wG
 refine RL.op rfl rfl (uO (_u:=.tmp 0) (_w:=undef) (first:=#[]) (captured:=#[.pointer (some ⟨gb,0,none⟩)]) (args:=#[.pointer (some ⟨gb,0,none⟩)]) abW rfl rfl (by simp) rfl ((B7 lo hi g gr gb m (b) st _ (hN.bZ (M:=[_,_,_]) [4,0,1] (by decide) rfl) (by omega) (by omega) (by omega) tb).mono ?_))
 rintro v3 w3 bE
 replace hN:ak w (aT [.aA gb [.pointer (some ⟨gr,0,none⟩)] 82,.aA gr [.pointer (some ⟨g,0,none⟩),.int .i64 (m),.bool (bd)] 89,b8 142 lo hi g s]) w3 [_,_,_,_,_,_]:=ak.bX (M:=[_,_,_]) (N:=[_,_]) (hN.sub [4,0,1,2,3] (by decide) rfl) bE
 clear bE
 have aw:=(hN.sm 0 rfl).hd
 obtain⟨h5,eM⟩:=aw
 subst eM
 refine RL.op rfl rfl (bS (enc:=vh) (l:=[h5]) (xs:=[.tmp 23]) Vr jJ Dr rfl rfl (fun _=>rfl) rfl (by decide) (by decide) hN ?_)
 clear hN
 intro g4 w4 (hN:ak w (aT [.aA gb [.pointer (some ⟨gr,0,none⟩)] 82,.aA gr [.pointer (some ⟨g,0,none⟩),.int .i64 (m),.bool (bd)] 89,b8 142 lo hi g s]) w4 [_,_,_,_,_,_,_])
 replace hN:ak w (aT [.aA gb [.pointer (some ⟨gr,0,none⟩)] 82,.aA gr [.pointer (some ⟨g,0,none⟩),.int .i64 (m),.bool (bd)] 89,b8 142 lo hi g s]) w4 [_,_,_,_,_,_]:=ak.sO (L:=[_,_,_,_,_,_]) (hN.sub [1,0,2,3,4,5,6] (by decide) rfl) 5 rfl
 refine RL.op rfl rfl (bD Vr Ad rfl jT hN 4 rfl rfl (hN.sl 0 rfl) rfl (by(try simp only[UX,Vs,Vt,Vc,U6,U3,Vw,UX,Vl]);omega) (by decide) ?_)
 clear hN
 intro v6 w6 (hN:ak w (aT [.aA gb [.pointer (some ⟨gr,0,none⟩)] 82,.aA gr [.pointer (some ⟨g,0,none⟩),.int .i64 (m),.bool (bd)] 89,b8 142 lo hi g s]) w6 [_,_,_,_,_,_])
 refine RL.ev (v:=v6) rfl rfl aa (RL.nil (a7 (ag (RW.region (RL.ev (v:=.int .i64 ((j:Int))) rfl rfl U (RL.ev rfl rfl (an rfl rfl rfl (show arith .sub .i64 (j:Int) 1=((j-1:Nat):Int)from(kc (by omega) (by omega)).trans (by omega))) (RL.ev (v:=.int .i64 (((j-1:Nat):Int))) rfl rfl aa (RL.nil (ag ?_)))))))))
 exact⟨k-1,by omega,j-1,ta,(zt),ls++[Hy],v6,hs++[h5],rfl,rfl,rfl,rfl,(hN.sub [2,3,4,5,1] (by decide) rfl),by omega,FQ yD (by omega) sD tb,by omega,by simp only[UX,U3];omega⟩
 refine RW.exit ?_
 iterate 2 refine bm ?_
 refine aO (ag (RW.seq (RW.region (RL.ev (v:=vo) rfl rfl U (RL.ev (v:=vo) rfl rfl aa (RL.nil (ag (RW.ret (aL (RV.tmp rfl) ?_)))))))))
 have eM:=nW zr (qT yD (.inr sD))
 rw[eM]
 exact⟨_,hN.sub [2,3,4,0,1] (by decide) rfl⟩
 rw[decide_eq_false HI]
 iterate 6 refine RL.off rfl rfl (by decide) rfl rfl ?_
 refine RL.ev (v:=.bool false) rfl rfl (aH rfl) (RL.nil (ag (RW.dD rfl (RW.exit ?_))))
 iterate 2 refine bm ?_
 refine aO (ag (RW.seq (RW.region (RL.ev (v:=vo) rfl rfl U (RL.ev (v:=vo) rfl rfl aa (RL.nil (ag (RW.ret (aL (RV.tmp rfl) ?_)))))))))
 have eM:=nW zr (qT yD (.inl (by omega)))
 rw[eM]
 exact⟨_,hN.sub [2,3,4,0,1] (by decide) rfl⟩
end Go.Proofs.YtngkdkbpgoddlaaGreat
namespace Go.Proofs.YtngkdkbpgoddlaaGreat
open Go.RowKit Go.Rl
open Go.Gr Go.cP Go.hO
theorem rD (lo hi g gr gb:Nat) (m:Int) (bd:Bool) (s:St) (w:World) (hN:ak w (aT [.aA gr [.pointer (some ⟨g,0,none⟩),.int .i64 (m),.bool (bd)] 89,b8 142 lo hi g s]) w [.aA gr [.pointer (some ⟨g,0,none⟩),.int .i64 (m),.bool (bd)] 89,b8 142 lo hi g s]) (iM:0≤m) (fZ:m≤1048576) (j5:s.1.length≤1048576) {s1:St} {b1:Bool} {l1:List (List Int)} (e:dh m (dn m) (s,bd)=((s1,b1),l1)):al UY 103 #[.pointer (some ⟨gr,0,none⟩),.func (.func 95) #[.pointer (some ⟨gr,0,none⟩)] #[]] w fun r w'=>∃hs,ak w (aT [.aA gr [.pointer (some ⟨g,0,none⟩),.int .i64 (m),.bool (bd)] 89,b8 142 lo hi g s]) w' [.own vh 25 r hs,.dT vi hs l1,.aA gr [.pointer (some ⟨g,0,none⟩),.int .i64 (m),.bool (b1)] 89,b8 142 lo hi g s1]:=
  (xJ lo hi g gr gb m bd s w hN iM fZ j5).mono fun _ _ h=>by rw[e]at h;exact h
theorem xI (lo hi g gr gb:Nat) (m:Int) (bd:Bool) (s:St) (w:World) (hN:ak w (aT [.aA gb [.pointer (some ⟨gr,0,none⟩)] 82,.aA gr [.pointer (some ⟨g,0,none⟩),.int .i64 (m),.bool (bd)] 89,b8 142 lo hi g s]) w [.aA gb [.pointer (some ⟨gr,0,none⟩)] 82,.aA gr [.pointer (some ⟨g,0,none⟩),.int .i64 (m),.bool (bd)] 89,b8 142 lo hi g s]) (iM:0≤m) (fZ:m≤1048576) (j5:s.1.length≤1048576) {s1:St} {b1:Bool} {l1:List (List I2)} (e:dh m (cn iQ m 1) (s,bd)=((s1,b1),l1)):al UY 104 #[.pointer (some ⟨gr,0,none⟩),.func (.func 100) #[] #[.pointer (some ⟨gb,0,none⟩)]] w fun r w'=>∃hs,ak w (aT [.aA gb [.pointer (some ⟨gr,0,none⟩)] 82,.aA gr [.pointer (some ⟨g,0,none⟩),.int .i64 (m),.bool (bd)] 89,b8 142 lo hi g s]) w' [.own vh 118 r hs,.ek bk hs l1,.aA gb [.pointer (some ⟨gr,0,none⟩)] 82,.aA gr [.pointer (some ⟨g,0,none⟩),.int .i64 (m),.bool (b1)] 89,b8 142 lo hi g s1]:=
  (xH lo hi g gr gb m bd s w hN iM fZ j5).mono fun _ _ h=>by rw[e]at h;exact h
theorem tJ (lo hi g gr:Nat) (m:Int) (bd:Bool) (s:St) (w:World) (hN:ak w (aT [.aA gr [.pointer (some ⟨g,0,none⟩),.int .i64 (m),.bool (bd)] 89,b8 142 lo hi g s]) w [.aA gr [.pointer (some ⟨g,0,none⟩),.int .i64 (m),.bool (bd)] 89,b8 142 lo hi g s]) (iM:0≤m) (fZ:m≤1048576) (j5:s.1.length≤1048576):al UY 42 #[.pointer (some ⟨gr,0,none⟩)] w fun r w'=>∃v,r=.agg #[.int .i64 (lB m (s,bd)).2.1,v]∧ak w (aT [.aA gr [.pointer (some ⟨g,0,none⟩),.int .i64 (m),.bool (bd)] 89,b8 142 lo hi g s]) w' [.cV bf 3 100 v (lB m (s,bd)).2.2,.aA gr [.pointer (some ⟨g,0,none⟩),.int .i64 (m),.bool ((lB m (s,bd)).1.2)] 89,b8 142 lo hi g ((lB m (s,bd)).1.1)]:=by
 refine al.start Tryz.func42 rfl (US rfl) ?_
 rw[bL]
 refine RW.seq (RW.region ?_)
 refine RL.op rfl rfl (aX (cs:=[.int .i64 (0),.slice none 0 0]) kB rfl hN ?_)
 clear hN
 intro g1 w1 (hN:ak w (aT [.aA gr [.pointer (some ⟨g,0,none⟩),.int .i64 (m),.bool (bd)] 89,b8 142 lo hi g s]) w1 [_,_,_])
 refine RL.nil (ag (RW.seq (RW.region (RL.ev (v:=.pointer (some ⟨gr,0,none⟩)) rfl rfl U ?_))))
 refine RL.op rfl rfl (aM Xc rfl rfl rfl ((gC lo hi g gr m (bd) s _ (hN.bZ (M:=[_,_]) [1,2] (by decide) rfl) (by omega) (by omega) (by omega)).mono ?_))
 rintro v2 w2 bE
 replace hN:ak w (aT [.aA gr [.pointer (some ⟨g,0,none⟩),.int .i64 (m),.bool (bd)] 89,b8 142 lo hi g s]) w2 [_,_,_,_]:=ak.bX (M:=[_,_]) (N:=[_]) (hN.sub [1,2,0] (by decide) rfl) bE
 clear bE
 refine RL.ev (v:=v2) rfl rfl aa (RL.nil (ag ?_))
 iterate 2 refine RW.seq ?_
 refine RW.region (RL.ev (v:=v2) rfl rfl U ?_)
 have mQ:=(hN.sl 0 rfl).aY
 refine RL.ev rfl rfl (aQ UW (hN.sl 0 rfl) rfl) (RL.ev rfl rfl (bp rfl rfl) (RL.nil (ag ?_)))
 refine RW.aN _ rfl (fun Al=>?_) (fun Al=>?_)
 refine RW.seq (RW.region (RL.ev (v:=.pointer (some ⟨gr,0,none⟩)) rfl rfl U (RL.ev rfl rfl (bt rfl) (RL.ev rfl rfl (ah VI rfl np (by decide) rfl) ?_))))
 refine RL.op rfl rfl (b9 np rfl rfl rfl rfl hN 1 rfl (US rfl) ?_)
 clear hN
 intro w4 (hN:ak w (aT [.aA gr [.pointer (some ⟨g,0,none⟩),.int .i64 (m),.bool (bd)] 89,b8 142 lo hi g s]) w4 [_,_,_,_])
 refine RL.nil (ag (RW.seq (RW.region (RL.ev rfl rfl (bh (cs:=[.int .i64 (0),.slice none 0 0]) U4 kB (places:=#[(0,1),(1,1)]) (by intro w;kernel_rfl) (pl:=[]) rfl (ps:=[]) rfl (zc:=[.int .i64 (0),.slice none 0 0]) rfl rfl) ?_))))
 refine RL.op rfl rfl (aC (vs:=[.int .i64 (0),.slice none 0 0]) db rfl rfl rfl (by intro u hu;simp only[U9,U2,or_false]at hu;rcases hu with rfl|rfl<;>first|rfl) hN 3 rfl rfl ?_)
 clear hN
 intro w5 (hN:ak w (aT [.aA gr [.pointer (some ⟨g,0,none⟩),.int .i64 (m),.bool (bd)] 89,b8 142 lo hi g s]) w5 [_,_,_,_])
 refine RL.nil (ag (RW.ret (aD (aL (RV.cell rfl rfl (hN.aA 3 rfl) U4 rfl db) ?_))))
 rw[Ee (by omega)]
 replace hN:=hN.eK bf 3 100
 exact⟨_,rfl,hN.sub [0,2,3] (by decide) rfl⟩
 refine RW.skip (ag (RW.seq ?_))
 replace hN:=hN.ext (Ext.drew w2)
 refine RW.cb rfl (fun u=>ak w (aT [.aA gr [.pointer (some ⟨g,0,none⟩),.int .i64 (m),.bool (bd)] 89,b8 142 lo hi g s]) u [.own vi 3 (v2) ((bO s m).2)]) 7 [(0,0),(1,0),(2,0),(3,0),(4,1),(5,1),(6,1)] (by intro _ _ _ h;exact h) (by kernel_rfl) (hN.sub [0] (by decide) rfl) (RQ.ev (v:=v2) rfl rfl (fun w hS=>U) (RQ.ev rfl rfl (fun w hS=>(aB UW bu (hS.sl 0 rfl) rfl rfl (by omega) (by omega))) ?_))
 have aw:∃a_,((bO s m).2)[0]?=some a_:=⟨_,UT (by omega)⟩
 obtain⟨ap,bG⟩:=aw
 refine RQ.ev rfl rfl (fun w hS=>(aF (m:=0) (a:=ap) UU rfl (hS.sl 0 rfl) rfl bG)) (RQ.ev (v:=.pointer (some ⟨gr,0,none⟩)) rfl rfl (fun w hS=>U) ?_)
 have gV:∃s1 b1 l1,cn lT m 2 ((bO s m).1,(bd))=((s1,b1),l1):=⟨_,_,_,rfl⟩
 obtain⟨Ln,Og,SU,Dl⟩:=gV
 have HV:=(fe Dl).1
 have Qr:=(fe Dl).2
 dsimp only at HV Qr
 refine RQ.do rfl rfl (cF Tryz.func96 rfl rfl rfl rfl rfl ((AL lo hi g gr m (bd) ((bO s m).1) _ (hN.bZ (M:=[_,_]) [1,2] (by decide) rfl) (by omega) (by omega) (by have:=dB s m;omega) Dl).mono ?_))
 rintro v6 w6 bE
 replace hN:ak w (aT [.aA gr [.pointer (some ⟨g,0,none⟩),.int .i64 (m),.bool (bd)] 89,b8 142 lo hi g s]) w6 [_,_,_,_,_]:=ak.bX (M:=[_,_]) (N:=[_,_]) (hN.sub [1,2,0,3] (by decide) rfl) bE
 clear bE
 refine⟨(hN.sub [3] (by decide) rfl),?_⟩
 refine RQ.do rfl rfl (dQ.ev (bh (cs:=[.int .i64 (ap),v6]) U4 kB (places:=#[(0,1),(1,1)]) (by intro w;kernel_rfl) (pl:=[(0,.tmp 15),(1,.tmp 17)]) rfl (ps:=[(0,.int .i64 (ap)),(1,v6)]) rfl (zc:=[.int .i64 (0),.slice none 0 0]) rfl (aP (vs:=[.int .i64 (ap)]) rfl rfl (US rfl) (aP (vs:=[v6]) (hN.sm 0 rfl).cO rfl (US rfl) rfl))) ⟨(hN.sub [3] (by decide) rfl),?_⟩)
 refine RQ.do rfl rfl (aC (vs:=[.int .i64 (ap),v6]) db rfl rfl rfl (by intro u hu;simp only[U9,U2,or_false]at hu;rcases hu with rfl|rfl<;>first|rfl|exact(hN.sm 0 rfl).bJ) hN 4 rfl rfl ?_)
 clear hN
 intro w7 (hN:ak w (aT [.aA gr [.pointer (some ⟨g,0,none⟩),.int .i64 (m),.bool (bd)] 89,b8 142 lo hi g s]) w7 [_,_,_,_,_])
 refine⟨(hN.sub [3] (by decide) rfl),?_⟩
 refine RQ.done (by kernel_rfl) (ag (RW.ret (aL (RV.cell rfl rfl (hN.aA 4 rfl) U4 rfl db) ?_)))
 rw[Hr (by omega) bG Dl]
 exact⟨_,rfl,hN.sub [0,1,2] (by decide) rfl⟩
theorem rL (lo hi g gr:Nat) (m:Int) (bd:Bool) (s:St) (w:World) (hN:ak w (aT [.aA gr [.pointer (some ⟨g,0,none⟩),.int .i64 (m),.bool (bd)] 89,b8 142 lo hi g s]) w [.aA gr [.pointer (some ⟨g,0,none⟩),.int .i64 (m),.bool (bd)] 89,b8 142 lo hi g s]) (iM:0≤m) (fZ:m≤1048576) (j5:s.1.length≤1048576):al UY 43 #[.pointer (some ⟨gr,0,none⟩)] w fun r w'=>∃rv wv,r=.agg #[rv,wv]∧ak w (aT [.aA gr [.pointer (some ⟨g,0,none⟩),.int .i64 (m),.bool (bd)] 89,b8 142 lo hi g s]) w' [.own vI 3 rv (iS m (s,bd)).2.1,.cV bC 5 98 wv (iS m (s,bd)).2.2,.aA gr [.pointer (some ⟨g,0,none⟩),.int .i64 (m),.bool ((iS m (s,bd)).1.2)] 89,b8 142 lo hi g ((iS m (s,bd)).1.1)]:=by
 refine al.start Tryz.func43 rfl (US rfl) ?_
 rw[bL]
 refine RW.seq (RW.region ?_)
 refine RL.op rfl rfl (aX (cs:=[.slice none 0 0,.slice none 0 0]) ng rfl hN ?_)
 clear hN
 intro g1 w1 (hN:ak w (aT [.aA gr [.pointer (some ⟨g,0,none⟩),.int .i64 (m),.bool (bd)] 89,b8 142 lo hi g s]) w1 [_,_,_])
 refine RL.nil (ag (RW.seq (RW.region (RL.ev (v:=.pointer (some ⟨gr,0,none⟩)) rfl rfl U ?_))))
 refine RL.op rfl rfl (aM Xc rfl rfl rfl ((gC lo hi g gr m (bd) s _ (hN.bZ (M:=[_,_]) [1,2] (by decide) rfl) (by omega) (by omega) (by omega)).mono ?_))
 rintro v2 w2 bE
 replace hN:ak w (aT [.aA gr [.pointer (some ⟨g,0,none⟩),.int .i64 (m),.bool (bd)] 89,b8 142 lo hi g s]) w2 [_,_,_,_]:=ak.bX (M:=[_,_]) (N:=[_]) (hN.sub [1,2,0] (by decide) rfl) bE
 clear bE
 refine RL.ev (v:=.pointer (some ⟨gr,0,none⟩)) rfl rfl U ?_
 have gV:∃s1 b1 l1,cn jF m 4 ((bO s m).1,(bd))=((s1,b1),l1):=⟨_,_,_,rfl⟩
 obtain⟨ta,zt,Hy,tb⟩:=gV
 have wF:=(fe tb).1
 have wG:=(fe tb).2
 dsimp only at wF wG
 refine RL.op rfl rfl (cF Tryz.func98 rfl rfl rfl rfl rfl ((wR lo hi g gr m (bd) ((bO s m).1) _ (hN.bZ (M:=[_,_]) [1,2] (by decide) rfl) (by omega) (by omega) (by have:=dB s m;omega) tb).mono ?_))
 rintro v3 w3 bE
 replace hN:ak w (aT [.aA gr [.pointer (some ⟨g,0,none⟩),.int .i64 (m),.bool (bd)] 89,b8 142 lo hi g s]) w3 [_,_,_,_,_]:=ak.bX (M:=[_,_]) (N:=[_,_]) (hN.sub [1,2,0,3] (by decide) rfl) bE
 clear bE
 refine RL.ev rfl rfl (bh (cs:=[v2,v3]) Vb ng (places:=#[(0,1),(1,1)]) (by intro w;kernel_rfl) (pl:=[(0,.tmp 4),(1,.tmp 6)]) rfl (ps:=[(0,v2),(1,v3)]) rfl (zc:=[.slice none 0 0,.slice none 0 0]) rfl (aP (vs:=[v2]) (hN.sl 3 rfl).cO rfl (US rfl) (aP (vs:=[v3]) (hN.sm 0 rfl).cO rfl (US rfl) rfl))) ?_
 refine RL.op rfl rfl (aC (vs:=[v2,v3]) dr rfl rfl rfl (by intro u hu;simp only[U9,U2,or_false]at hu;rcases hu with rfl|rfl<;>first|rfl|exact(hN.sl 3 rfl).bJ|exact(hN.sm 0 rfl).bJ) hN 4 rfl rfl ?_)
 clear hN
 intro w4 (hN:ak w (aT [.aA gr [.pointer (some ⟨g,0,none⟩),.int .i64 (m),.bool (bd)] 89,b8 142 lo hi g s]) w4 [_,_,_,_,_])
 refine RL.nil (ag (RW.ret (aL (RV.cell rfl rfl (hN.aA 4 rfl) Vb rfl dr) ?_)))
 rw[EY tb]
 exact⟨_,_,rfl,hN.sub [3,0,1,2] (by decide) rfl⟩
theorem oX (lo hi g gr:Nat) (m:Int) (bd:Bool) (s:St) (w:World) (hN:ak w (aT [.aA gr [.pointer (some ⟨g,0,none⟩),.int .i64 (m),.bool (bd)] 89,b8 142 lo hi g s]) w [.aA gr [.pointer (some ⟨g,0,none⟩),.int .i64 (m),.bool (bd)] 89,b8 142 lo hi g s]) (iM:0≤m) (fZ:m≤1048576) (j5:s.1.length≤1048576):al UY 44 #[.pointer (some ⟨gr,0,none⟩)] w fun r w'=>∃gv fv ov iv cD cE hf ho fk gL gF,r=.agg #[gv,fv,ov,iv,cD,cE]∧ak w (aT [.aA gr [.pointer (some ⟨g,0,none⟩),.int .i64 (m),.bool (bd)] 89,b8 142 lo hi g s]) w' [.own vI 3 gv (gw m (s,bd)).2.1,.own vh 25 fv hf,.dT vI hf (gw m (s,bd)).2.2.1,.own vh 118 ov ho,.ek bk ho (gw m (s,bd)).2.2.2.1,.own vh 118 iv fk,.ek bk fk (gw m (s,bd)).2.2.2.2.1,.own vh 25 cD gL,.dT vI gL (gw m (s,bd)).2.2.2.2.2.1,.own vh 25 cE gF,.dT vI gF (gw m (s,bd)).2.2.2.2.2.2,.aA gr [.pointer (some ⟨g,0,none⟩),.int .i64 (m),.bool ((gw m (s,bd)).1.2)] 89,b8 142 lo hi g ((gw m (s,bd)).1.1)]:=by
 refine al.start Tryz.func44 rfl (US rfl) ?_
 rw[bL]
 refine RW.seq (RW.region ?_)
 refine RL.op rfl rfl (bq (cs:=[.pointer (some ⟨gr,0,none⟩)]) rfl rfl hN ?_)
 clear hN
 intro g1 w1 (hN:ak w (aT [.aA gr [.pointer (some ⟨g,0,none⟩),.int .i64 (m),.bool (bd)] 89,b8 142 lo hi g s]) w1 [_,_,_])
 refine RL.op rfl rfl (aX (cs:=[.slice none 0 0,.slice none 0 0,.slice none 0 0,.slice none 0 0,.slice none 0 0,.slice none 0 0]) oQ rfl hN ?_)
 clear hN
 intro g2 w2 (hN:ak w (aT [.aA gr [.pointer (some ⟨g,0,none⟩),.int .i64 (m),.bool (bd)] 89,b8 142 lo hi g s]) w2 [_,_,_,_])
 refine RL.nil (ag (RW.seq (RW.region (RL.ev rfl rfl (c8 (vs:=[.pointer (some ⟨g1,0,none⟩)]) (xs:=[.tmp 1]) rfl rfl) (RL.ev (v:=.func (.func 100) #[] #[.pointer (some ⟨g1,0,none⟩)]) rfl rfl aa (RL.nil (ag (RW.seq (RW.region ?_)))))))))
 refine RL.ev rfl rfl (aj Wv rfl rfl (hN.aA 1 rfl) rfl) ?_
 refine RL.op rfl rfl (aM Xc rfl rfl rfl ((gC lo hi g gr m (bd) s _ (hN.bZ (M:=[_,_]) [2,3] (by decide) rfl) (by omega) (by omega) (by omega)).mono ?_))
 rintro v3 w3 bE
 replace hN:ak w (aT [.aA gr [.pointer (some ⟨g,0,none⟩),.int .i64 (m),.bool (bd)] 89,b8 142 lo hi g s]) w3 [_,_,_,_,_]:=ak.bX (M:=[_,_]) (N:=[_,_]) (hN.sub [2,3,0,1] (by decide) rfl) bE
 clear bE
 have Tk:=dB s m
 refine RL.ev rfl rfl (bh (cs:=[v3,.slice none 0 0,.slice none 0 0,.slice none 0 0,.slice none 0 0,.slice none 0 0]) Vh oQ (places:=#[(0,1),(1,1),(2,1),(3,1),(4,1),(5,1)]) (by intro w;kernel_rfl) (pl:=[(0,.tmp 7)]) rfl (ps:=[(0,v3)]) rfl (zc:=[.slice none 0 0,.slice none 0 0,.slice none 0 0,.slice none 0 0,.slice none 0 0,.slice none 0 0]) rfl (aP (vs:=[v3]) (hN.sl 0 rfl).cO rfl (US rfl) rfl)) ?_
 refine RL.op rfl rfl (aX (cs:=[.slice none 0 0,.slice none 0 0,.slice none 0 0,.slice none 0 0,.slice none 0 0,.slice none 0 0]) oQ rfl hN ?_)
 clear hN
 intro g4 w4 (hN:ak w (aT [.aA gr [.pointer (some ⟨g,0,none⟩),.int .i64 (m),.bool (bd)] 89,b8 142 lo hi g s]) w4 [_,_,_,_,_,_])
 refine RL.op rfl rfl (aC (vs:=[v3,.slice none 0 0,.slice none 0 0,.slice none 0 0,.slice none 0 0,.slice none 0 0]) ga rfl rfl rfl (by intro u hu;simp only[U9,U2,or_false]at hu;rcases hu with rfl|rfl|rfl|rfl|rfl|rfl<;>first|rfl|exact(hN.sl 1 rfl).bJ) hN 0 rfl rfl ?_)
 clear hN
 intro w5 (hN:ak w (aT [.aA gr [.pointer (some ⟨g,0,none⟩),.int .i64 (m),.bool (bd)] 89,b8 142 lo hi g s]) w5 [_,_,_,_,_,_])
 refine RL.nil (ag (RW.seq (RW.region ?_)))
 iterate 2 refine RL.ev rfl rfl (aj Wv rfl rfl (hN.aA 5 rfl) rfl) ?_
 refine RL.ev rfl rfl (kW (vs:=[.pointer (some ⟨gr,0,none⟩)]) (xs:=[.tmp 10]) rfl rfl) ?_
 have gV:∃s1 b1 l1,dh m (dn m) ((bO s m).1,(bd))=((s1,b1),l1):=⟨_,_,_,rfl⟩
 obtain⟨Ln,Og,SU,Dl⟩:=gV
 have HV:=(fc (p:=Wc) (by omega) (fK m) (gD m) ((bO s m).1,(bd))).1
 rw[Dl]at HV
 dsimp only at HV
 refine RL.op rfl rfl (aR Y4 rfl rfl rfl rfl ((rD lo hi g gr 0 m (bd) ((bO s m).1) _ (hN.bZ (M:=[_,_]) [2,3] (by decide) rfl) (by omega) (by omega) (by have:=dB s m;omega) Dl).mono ?_))
 rintro v6 w6 ⟨Te,bE⟩
 replace hN:ak w (aT [.aA gr [.pointer (some ⟨g,0,none⟩),.int .i64 (m),.bool (bd)] 89,b8 142 lo hi g s]) w6 [_,_,_,_,_,_,_,_]:=ak.bX (M:=[_,_]) (N:=[_,_,_,_]) (hN.sub [2,3,0,1,4,5] (by decide) rfl) bE
 clear bE
 refine RL.ev rfl rfl (ah Vh rfl gK (by decide) rfl) ?_
 refine RL.op rfl rfl (b9 gK rfl rfl (hN.sl 0 rfl).cO (hN.sl 0 rfl).bJ hN 4 rfl (US rfl) ?_)
 clear hN
 intro w7 (hN:ak w (aT [.aA gr [.pointer (some ⟨g,0,none⟩),.int .i64 (m),.bool (bd)] 89,b8 142 lo hi g s]) w7 [_,_,_,_,_,_,_,_])
 refine RL.nil (ag (RW.seq (RW.region (RL.ev rfl rfl (aj Wv rfl rfl (hN.aA 7 rfl) rfl) (RL.ev (v:=.func (.func 100) #[] #[.pointer (some ⟨g1,0,none⟩)]) rfl rfl U ?_)))))
 have gV:∃s1 b1 l1,dh m (cn iQ m 1) (Ln,(Og))=((s1,b1),l1):=⟨_,_,_,rfl⟩
 obtain⟨tv,BF,OC,yQ⟩:=gV
 have Nt:=(fc (p:=Wc) (by omega) (kY iQ m 1) (im iQ m 1) (Ln,(Og))).1
 rw[yQ]at Nt
 dsimp only at Nt
 refine RL.op rfl rfl (aR aal rfl rfl rfl rfl ((xI lo hi g gr g1 m (Og) Ln _ (hN.bZ (M:=[_,_,_]) [7,2,3] (by decide) rfl) (by omega) (by omega) (by omega) yQ).mono ?_))
 rintro v8 w8 ⟨NY,bE⟩
 replace hN:ak w (aT [.aA gr [.pointer (some ⟨g,0,none⟩),.int .i64 (m),.bool (bd)] 89,b8 142 lo hi g s]) w8 [_,_,_,_,_,_,_,_,_,_]:=ak.bX (M:=[_,_,_]) (N:=[_,_,_,_,_]) (hN.sub [7,2,3,0,1,4,5,6] (by decide) rfl) bE
 clear bE
 refine RL.ev rfl rfl (ah Vh rfl kD (by decide) rfl) ?_
 refine RL.op rfl rfl (b9 kD rfl rfl (hN.sl 0 rfl).cO (hN.sl 0 rfl).bJ hN 7 rfl (US rfl) ?_)
 clear hN
 intro w9 (hN:ak w (aT [.aA gr [.pointer (some ⟨g,0,none⟩),.int .i64 (m),.bool (bd)] 89,b8 142 lo hi g s]) w9 [_,_,_,_,_,_,_,_,_,_])
 refine RL.nil (ag (RW.seq (RW.region (RL.ev rfl rfl (aj Wv rfl rfl (hN.aA 2 rfl) rfl) (RL.ev (v:=.func (.func 100) #[] #[.pointer (some ⟨g1,0,none⟩)]) rfl rfl U ?_)))))
 have gV:∃s1 b1 l1,dh m (cn iQ m 1) (tv,(BF))=((s1,b1),l1):=⟨_,_,_,rfl⟩
 obtain⟨vF,zh,S0,pc⟩:=gV
 have IY:=(fc (p:=Wc) (by omega) (kY iQ m 1) (im iQ m 1) (tv,(BF))).1
 rw[pc]at IY
 dsimp only at IY
 refine RL.op rfl rfl (aR aal rfl rfl rfl rfl ((xI lo hi g gr g1 m (BF) tv _ (hN.bZ (M:=[_,_,_]) [2,3,4] (by decide) rfl) (by omega) (by omega) (by omega) pc).mono ?_))
 rintro v10 jH ⟨Mi,bE⟩
 replace hN:ak w (aT [.aA gr [.pointer (some ⟨g,0,none⟩),.int .i64 (m),.bool (bd)] 89,b8 142 lo hi g s]) jH [_,_,_,_,_,_,_,_,_,_,_,_]:=ak.bX (M:=[_,_,_]) (N:=[_,_,_,_,_,_,_]) (hN.sub [2,3,4,0,1,5,6,7,8,9] (by decide) rfl) bE
 clear bE
 refine RL.ev rfl rfl (ah Vh rfl kD (by decide) rfl) ?_
 refine RL.op rfl rfl (b9 kD rfl rfl (hN.sl 0 rfl).cO (hN.sl 0 rfl).bJ hN 9 rfl (US rfl) ?_)
 clear hN
 intro jj (hN:ak w (aT [.aA gr [.pointer (some ⟨g,0,none⟩),.int .i64 (m),.bool (bd)] 89,b8 142 lo hi g s]) jj [_,_,_,_,_,_,_,_,_,_,_,_])
 refine RL.nil (ag (RW.seq (RW.region ?_)))
 iterate 2 refine RL.ev rfl rfl (aj Wv rfl rfl (hN.aA 2 rfl) rfl) ?_
 refine RL.ev rfl rfl (kW (vs:=[.pointer (some ⟨gr,0,none⟩)]) (xs:=[.tmp 23]) rfl rfl) ?_
 have gV:∃s1 b1 l1,dh m (dn m) (vF,(zh))=((s1,b1),l1):=⟨_,_,_,rfl⟩
 obtain⟨tx,uk,SY,yR⟩:=gV
 have IX:=(fc (p:=Wc) (by omega) (fK m) (gD m) (vF,(zh))).1
 rw[yR]at IX
 dsimp only at IX
 refine RL.op rfl rfl (aR Y4 rfl rfl rfl rfl ((rD lo hi g gr 0 m (zh) vF _ (hN.bZ (M:=[_,_]) [3,4] (by decide) rfl) (by omega) (by omega) (by omega) yR).mono ?_))
 rintro xx iP ⟨Ti,bE⟩
 replace hN:ak w (aT [.aA gr [.pointer (some ⟨g,0,none⟩),.int .i64 (m),.bool (bd)] 89,b8 142 lo hi g s]) iP [_,_,_,_,_,_,_,_,_,_,_,_,_,_]:=ak.bX (M:=[_,_]) (N:=[_,_,_,_,_,_,_,_,_,_]) (hN.sub [3,4,0,1,2,5,6,7,8,9,10,11] (by decide) rfl) bE
 clear bE
 refine RL.ev rfl rfl (ah Vh rfl gK (by decide) rfl) ?_
 refine RL.op rfl rfl (b9 gK rfl rfl (hN.sl 0 rfl).cO (hN.sl 0 rfl).bJ hN 11 rfl (US rfl) ?_)
 clear hN
 intro kC (hN:ak w (aT [.aA gr [.pointer (some ⟨g,0,none⟩),.int .i64 (m),.bool (bd)] 89,b8 142 lo hi g s]) kC [_,_,_,_,_,_,_,_,_,_,_,_,_,_])
 refine RL.nil (ag (RW.seq (RW.region ?_)))
 iterate 2 refine RL.ev rfl rfl (aj Wv rfl rfl (hN.aA 6 rfl) rfl) ?_
 refine RL.ev rfl rfl (kW (vs:=[.pointer (some ⟨gr,0,none⟩)]) (xs:=[.tmp 28]) rfl rfl) ?_
 have gV:∃s1 b1 l1,dh m (dn m) (tx,(uk))=((s1,b1),l1):=⟨_,_,_,rfl⟩
 obtain⟨LS,NL,OD,AE⟩:=gV
 have yP:=(fc (p:=Wc) (by omega) (fK m) (gD m) (tx,(uk))).1
 rw[AE]at yP
 dsimp only at yP
 refine RL.op rfl rfl (aR Y4 rfl rfl rfl rfl ((rD lo hi g gr 0 m (uk) tx _ (hN.bZ (M:=[_,_]) [2,3] (by decide) rfl) (by omega) (by omega) (by omega) AE).mono ?_))
 rintro Gt lF ⟨O6,bE⟩
 replace hN:ak w (aT [.aA gr [.pointer (some ⟨g,0,none⟩),.int .i64 (m),.bool (bd)] 89,b8 142 lo hi g s]) lF [_,_,_,_,_,_,_,_,_,_,_,_,_,_,_,_]:=ak.bX (M:=[_,_]) (N:=[_,_,_,_,_,_,_,_,_,_,_,_]) (hN.sub [2,3,0,1,4,5,6,7,8,9,10,11,12,13] (by decide) rfl) bE
 clear bE
 refine RL.ev rfl rfl (ah Vh rfl gK (by decide) rfl) ?_
 refine RL.op rfl rfl (b9 gK rfl rfl (hN.sl 0 rfl).cO (hN.sl 0 rfl).bJ hN 13 rfl (US rfl) ?_)
 clear hN
 intro k9 (hN:ak w (aT [.aA gr [.pointer (some ⟨g,0,none⟩),.int .i64 (m),.bool (bd)] 89,b8 142 lo hi g s]) k9 [_,_,_,_,_,_,_,_,_,_,_,_,_,_,_,_])
 refine RL.nil (ag (RW.seq (RW.region (RL.ev rfl rfl (aG (cs:=[v3,v6,v8,v10,xx,Gt]) Vh rfl ga rfl (hN.aA 13 rfl)) ?_))))
 refine RL.op rfl rfl (aC (vs:=[v3,v6,v8,v10,xx,Gt]) ga rfl rfl rfl (by intro u hu;simp only[U9,U2,or_false]at hu;rcases hu with rfl|rfl|rfl|rfl|rfl|rfl<;>first|rfl|exact(hN.sl 0 rfl).bJ|exact(hN.sl 11 rfl).bJ|exact(hN.sl 14 rfl).bJ|exact(hN.sl 4 rfl).bJ|exact(hN.sl 6 rfl).bJ|exact(hN.sl 9 rfl).bJ) hN 15 rfl rfl ?_)
 clear hN
 intro oL (hN:ak w (aT [.aA gr [.pointer (some ⟨g,0,none⟩),.int .i64 (m),.bool (bd)] 89,b8 142 lo hi g s]) oL [_,_,_,_,_,_,_,_,_,_,_,_,_,_,_,_])
 refine RL.nil (ag (RW.ret (aL (RV.cell rfl rfl (hN.aA 15 rfl) Vh rfl ga) ?_)))
 rw[DD Dl yQ pc yR AE]
 exact⟨_,_,_,_,_,_,_,_,_,_,_,rfl,hN.sub [14,11,12,9,10,6,7,4,5,0,1,2,3] (by decide) rfl⟩
end Go.Proofs.YtngkdkbpgoddlaaGreat
namespace Go.Gr
open Go.Rl Go.cP Go.hO
theorem xS {most:Int}:∀(k:Nat) (b:List UInt8) (ls:List (List UInt8)),fz most k b=some ls→∀r∈ls,r.length≤b.length:=by
  intro k
  induction k with
  |zero=>
    intro b ls h r hr
    unfold fz at h
    split at h
    · cases h;cases hr
    · cases h
  |succ k ih=>
    intro b ls h r hr
    unfold fz at h
    split at h
    · cases h;cases hr
    · split at h
      · cases h
      · cases hq:fz most k (cp (b,0) most).1.1 with
        |none=>rw[hq]at h;cases h
        |some l2=>
          rw[hq]at h
          cases h
          rcases U9.1 hr with rfl|hr
          · have := rf (b, 0) most
            rw[Vs];dsimp only at this;omega
          · exact Vf (ih _ _ hq r hr) (xK (b,0) most 1)
theorem fy {b r:List UInt8} (h:r∈bz b):r.length≤b.length:=by
  unfold bz at h
  cases hq:parts b with
  |none=>rw[hq]at h;cases h
  |some ls=>rw[hq]at h;exact xS _ _ _ hq r h
theorem Hp {m:Int} {s s1:RS} {n:Int} {ar:List I3} (h:lB m s=(s1,(n,ar))):ar.length≤s.1.1.length:=by
  unfold lB at h
  split at h
  · cases h
    exact Vf (im _ _ _ _) (fK m s)
  · cases h;exact VP _
theorem EW {m:Int} {s s1:RS} {rk:List Int} {ws:List I5} (h:iS m s=(s1,(rk,ws))):rk.length≤s.1.1.length∧ws.length≤s.1.1.length:=by
  unfold iS at h
  cases h
  exact⟨gD m s,Vf (im _ _ _ _) (fK m s)⟩
theorem DB {m:Int} {s s1:RS} {g:List Int} {far so si:List (List Int)} {outs ins:List (List I2)} {B:Nat} (h:gw m s=(s1,(g,far,outs,ins,so,si))) (h0:0≤m) (hm:m≤(B:Int)) (hs:s.1.1.length≤B):
    g.length≤B∧(far.length≤B∧∀r∈far,r.length≤B)∧(outs.length≤B∧∀r∈outs,r.length≤B)∧(ins.length≤B∧∀r∈ins,r.length≤B)∧(so.length≤B∧∀r∈so,r.length≤B)∧(si.length≤B∧∀r∈si,r.length≤B):=by
  unfold gw at h
  cases h
  have a0:=fK m s
  have a1:=fc (p:=Wc) h0 (fK m) (gD m) (dn m s).1
  have a2:=fc (p:=Wc) h0 (kY iQ m 1) (im iQ m 1) (dh m (dn m) (dn m s).1).1
  have a3:=fc (p:=Wc) h0 (kY iQ m 1) (im iQ m 1) (dh m (cn iQ m 1) (dh m (dn m) (dn m s).1).1).1
  have a4:=fc (p:=Wc) h0 (fK m) (gD m) (dh m (cn iQ m 1) (dh m (cn iQ m 1) (dh m (dn m) (dn m s).1).1).1).1
  have a5:=fc (p:=Wc) h0 (fK m) (gD m) (dh m (dn m) (dh m (cn iQ m 1) (dh m (cn iQ m 1) (dh m (dn m) (dn m s).1).1).1).1).1
  obtain⟨b1,c1,d1⟩:=a1
  obtain⟨b2,c2,d2⟩:=a2
  obtain⟨b3,c3,d3⟩:=a3
  obtain⟨b4,c4,d4⟩:=a4
  obtain⟨b5,c5,d5⟩:=a5
  refine⟨Vf (gD m s) hs,⟨by omega,fun r hr=>Vf (d1 r hr) (by omega)⟩,⟨by omega,fun r hr=>Vf (d2 r hr) (by omega)⟩,⟨by omega,fun r hr=>Vf (d3 r hr) (by omega)⟩,⟨by omega,fun r hr=>Vf (d4 r hr) (by omega)⟩,⟨by omega,fun r hr=>Vf (d5 r hr) (by omega)⟩⟩
theorem B5 {p1 p2 p3 : List UInt8} {s1 s2 s3 : RS} {n : Int} {ar : List I3} {rk : List Int} {ws : List I5} {g : List Int} {far so si : List (List Int)} {outs ins : List (List I2)} {B : Nat} (hm : lB (p1.length : Int) ((p1, 0), false) = (s1, (n, ar))) (hh : iS (p2.length : Int) ((p2, 0), false) = (s2, (rk, ws))) (ht : gw (p3.length : Int) ((p3, 0), false) = (s3, (g, far, outs, ins, so, si)))
    (h1:p1.length≤B) (h2:p2.length≤B) (h3:p3.length≤B):C1 B B B ar rk ws g far outs ins so si:=by
  have a:=Hp hm
  have b:=EW hh
  have c:=DB (B:=B) ht (by omega) (by omega) h3
  exact⟨Vf a h1,Vf b.1 h2,Vf b.2 h2,c.1,c.2.1,c.2.2.1,c.2.2.2.1,c.2.2.2.2.1,c.2.2.2.2.2⟩
theorem kJ {p1 p2 p3:List UInt8} {s1 s2 s3:St} {b1 b2 b3:Bool} {n:Int} {ar:List I3} {rk:List Int} {ws:List I5} {g:List Int} {far so si:List (List Int)} {outs ins:List (List I2)} (hm:lB (p1.length:Int) ((p1,0),false)=((s1,b1),(n,ar))) (hh:iS (p2.length:Int) ((p2,0),false)=((s2,b2),(rk,ws))) (ht:gw (p3.length:Int) ((p3,0),false)=((s3,b3),(g,far,outs,ins,so,si))):
    n4 p1 p2 p3=if(b1=false∧jx s1=0)∧(b2=false∧jx s2=0)∧(b3=false∧jx s3=0)then some ⟨n,ar,rk,ws,g,far,outs,ins,so,si⟩else none:=by
  have e1:G8 p1=((p1,0),false):=rfl
  have e2:G8 p2=((p2,0),false):=rfl
  have e3:G8 p3=((p3,0),false):=rfl
  unfold n4
  simp only[e1,e2,e3,hm,hh,ht]
  rfl
theorem CN {b:List UInt8} (h:¬(bz b).length=4):kX b=none:=by
  unfold kX
  split
  · rename_i hq;rw[hq]at h;exact absurd rfl h
  · rfl
theorem zd {b p1 p2 p3:List UInt8} (h4:(bz b).length=4) (h1:(bz b)[1]?=some p1) (h2:(bz b)[2]?=some p2) (h3:(bz b)[3]?=some p3):kX b=(n4 p1 p2 p3).bind fun x=>if jq x=0∧cX (eG x)=b then some x else none:=by
  unfold kX
  split
  · rename_i hq
    rw[hq]at h1 h2 h3
    cases h1;cases h2;cases h3;rfl
  · rename_i hq
    match hp:bz b,h4,h1,h2,h3 with
    |[a,c,d,e],_,_,_,_=>exact absurd hp (hq a c d e)
theorem kA {b p1 p2 p3:List UInt8} (h4:(bz b).length=4) (h1:(bz b)[1]?=some p1) (h2:(bz b)[2]?=some p2) (h3:(bz b)[3]?=some p3) (hr:n4 p1 p2 p3=none):kX b=none:=by
  rw[zd h4 h1 h2 h3,hr];rfl
theorem F6 {b p1 p2 p3:List UInt8} {x:oO} (h4:(bz b).length=4) (h1:(bz b)[1]?=some p1) (h2:(bz b)[2]?=some p2) (h3:(bz b)[3]?=some p3) (hr:n4 p1 p2 p3=some x):kX b=if jq x=0∧cX (eG x)=b then some x else none:=by
  rw[zd h4 h1 h2 h3,hr];rfl
end Go.Gr
namespace Go.Gr
open Go.Rl
def sY (l:List Int):Prop:=∀(i:Nat) (x y:Int),l[i]?=some x→l[i+1]?=some y→x<y
theorem Hb {l:List Int} (h:sY l):∀(d i:Nat) (x y:Int),l[i]?=some x→l[i+1+d]?=some y→x<y:=by
  intro d
  induction d with
  |zero=>intro i x y hx hy;exact h i x y hx hy
  |succ d ih=>
    intro i x y hx hy
    have hl:=(U5.1 hy).1
    obtain⟨z,hz⟩:∃z,l[i+1+d]?=some z:=⟨_,UT (by omega)⟩
    have h1:=ih i x z hx hz
    have h2:=h (i+1+d) z y hz (by rw[show i+1+d+1=i+1+(d+1) by omega];exact hy)
    omega
theorem nX {l:List Int} (h:sY l) {i j:Nat} {x y:Int} (hx:l[i]?=some x) (hy:l[j]?=some y) (nz:i<j):x<y:=
  Hb h (j-i-1) i x y hx (by rw[show i+1+(j-i-1)=j by omega];exact hy)
theorem Ga {g:List Int} {v:Int} {p:Nat} (hR:sY g) (h:g[p]?=some v):j7 (fun y=>y=v) g=(p:Int):=
  nE (fun y hy e=>by
    obtain⟨m,hm,he⟩:=XE.1 hy
    have h1:=nX hR (i:=m) (x:=y) (by rw[UT (by omega),he]) h (by omega)
    omega) h rfl
theorem H7 {g:List Int} {v:Int} {p:Nat} (hR:sY g) (nO:∀m x,m<p→g[m]?=some x→x<v) (mj:∀m x,p≤m→g[m]?=some x→v≤x) (h:¬g[p]?=some v):j7 (fun y=>y=v) g= -1:=
  pg fun y hy e=>by
    subst e
    obtain⟨m,hm⟩:=VK hy
    rcases Nat.lt_trichotomy m p with q|q|q
    · have:=nO m y q hm;omega
    · subst q;exact h hm
    · have hl := (U5.1 hm).1
      obtain⟨z,hz⟩:∃z,g[p]?=some z:=⟨_,UT (by omega)⟩
      have h1:=mj p z (Vv _) hz
      have h2:=nX hR hz hm q
      omega
theorem FZ {g:List Int} {x:Int}:j7 (fun y=>y=x) g<0↔x∉g:=by
  have:=@cA g x
  constructor
  · intro h hm;have:=this.2 hm;omega
  · intro h
    by_cases e:0≤j7 (fun y=>y=x) g
    · exact absurd (this.1 e) h
    · omega
def sX {α:Type} (key:α→Int) (P:α→Prop) (l:List α):Prop:=(∀x∈l,P x)∧∀(i:Nat) (x y:α),l[i]?=some x→l[i+1]?=some y→key x<key y
def fp {α:Type} (key:α→Int) (P:α→Prop) (n:Int) (ls:List (List α)):Prop:=(ls.length:Int)=n∧∀r∈ls,sX key P r
noncomputable instance {α:Type} (key:α→Int) (P:α→Prop) (n:Int) (ls:List (List α)):Decidable (fp key P n ls):=VG _
theorem rI {α:Type} (key:α→Int) (P:α→Prop):sX key P []:=⟨fun x h=>absurd h (U2),fun i x y h=>by cases h⟩
theorem jf {α:Type} {key:α→Int} {P:α→Prop} {l:List α} {i:Nat} {x:α} (h:sX key P (l.take i)) (hx:l[i]?=some x) (h2:P x) (h3:∀y,0<i→l[i-1]?=some y→key y<key x):sX key P (l.take (i+1)):=by
  refine⟨fun y hy=>?_,fun j a b ha hb=>?_⟩
  · rw [dH hx, W6, VY] at hy
    rcases hy with hy|rfl
    · exact h.1 y hy
    · exact h2
  · rw [Wt] at ha hb
    split at ha
    · split at hb
      · by_cases hj : j + 1 < i
        · exact h.2 j a b (by rw[Wt,if_pos (by omega)];exact ha) (by rw[Wt,if_pos hj];exact hb)
        · have e : j + 1 = i := by omega
          subst e
          rw[hx]at hb;cases hb
          exact h3 a (by omega) (by simpa using ha)
      · cases hb
    · cases ha
theorem iW {α:Type} {key:α→Int} {P:α→Prop} {l:List α} {i:Nat} {x y:α} (hx:l[i]?=some x) (hi:0<i) (hy:l[i-1]?=some y) (h:key x≤key y):¬sX key P l:=fun hn=>by
  have:=hn.2 (i-1) y x hy (by rw[show i-1+1=i by omega];exact hx)
  omega
theorem fu {n:Int} {g:List Int}:fp (fun x=>x) (fun x=>0≤x∧x<n) 1 [g]↔iJ n (pH g 2) g:=
  ⟨fun h=>⟨fun x hx=>⟨(h.2 g (VY.2 rfl)).1 x hx,fun e=>absurd e (by decide)⟩,(h.2 g (VY.2 rfl)).2⟩,fun h=>⟨rfl,fun r hr=>by rw[VY]at hr;subst hr;exact⟨fun x hx=>(h.1 x hx).1,h.2⟩⟩⟩
theorem Bf {g:List Int} {x:Int}:pH g 1 x↔x∈g:=by
  unfold pH
  constructor
  · intro h
    have:=h (by decide)
    by_cases e:x∈g
    · exact e
    · rw[if_neg e]at this;omega
  · intro h _
    rw[if_pos h]
theorem yg {g:List Int} {x:Int}:pH g 0 x↔x∉g:=by
  unfold pH
  constructor
  · intro h e
    have:=h (by decide)
    rw[if_pos e]at this;omega
  · intro h _
    rw[if_neg h]
theorem dR {n:Int} {g:List Int} {ls:List (List Int)}:fp (fun x=>x) (fun x=>(0≤x∧x<n)∧x∉g) n ls↔oJ n g ls:=
  ⟨fun h=>⟨fun r hr=>⟨fun x hx=>⟨((h.2 r hr).1 x hx).1,yg.2 ((h.2 r hr).1 x hx).2⟩,(h.2 r hr).2⟩,h.1⟩,fun h=>⟨h.2,fun r hr=>⟨fun x hx=>⟨((h.1 r hr).1 x hx).1,yg.1 ((h.1 r hr).1 x hx).2⟩,(h.1 r hr).2⟩⟩⟩
theorem de {n:Int} {g:List Int} {ls:List (List I2)} (hg:∀x∈g,0≤x∧x<n):fp (fun x:I2=>x.1) (fun x=>x.1∈g∧cG 0 x.2) n ls↔iu n g ls:=by
  constructor
  · intro h
    refine⟨fun r hr=>⟨fun x hx=>((h.2 r hr).1 x hx).2,fun v hv=>?_,fun i v u hv hu=>?_⟩,h.1⟩
    · obtain ⟨x, hx, rfl⟩ := V9.1 hv
      have:=((h.2 r hr).1 x hx).1
      exact⟨hg _ this,Bf.2 this⟩
    · rw [Wf, Option.map_eq_some_iff] at hv hu
      obtain⟨x,hx,rfl⟩:=hv
      obtain⟨y,hy,rfl⟩:=hu
      exact(h.2 r hr).2 i x y hx hy
  · intro h
    refine⟨h.2,fun r hr=>⟨fun x hx=>⟨Bf.1 (((h.1 r hr).2.1 x.1 (V9.2 ⟨x,hx,rfl⟩)).2),(h.1 r hr).1 x hx⟩,fun i x y hx hy=>(h.1 r hr).2.2 i x.1 y.1 (by rw[Wf,hx];rfl) (by rw[Wf,hy];rfl)⟩⟩
end Go.Gr
namespace Go.Proofs.YtngkdkbpgoddlaaGreat
open Go.RowKit Go.Rl
open Go.Gr
theorem HS {i j q:Nat} (hq:q=(i+j)/2):((i:Int)+(j:Int)).fdiv (2^(min (1:Int).toNat V8.bits))=(q:Int):=by
  subst hq
  show((i:Int)+(j:Int)).fdiv 2=_
  rw[W7 _ (by omega)]
  omega
theorem ye (x:Int) (w:World):al UY 213 #[.int .i64 x] w fun r w'=>r=.bool false∧Ext w w':=by
 refine al.start abX rfl (US rfl) ?_
 rw[bL]
 have hN:=ak.nil w none_
 refine RW.seq (RW.region (RL.ev (v:=.bool false) rfl rfl aa (RL.nil (ag (RW.seq (RW.region ?_))))))
 iterate 2 refine RL.ev (v:=.int .i64 (x)) rfl rfl U ?_
 refine RL.ev rfl rfl (cm (bp rfl rfl) (fun h=>h rfl)) (RL.ev (v:=.bool false) rfl rfl aa (RL.nil (ag (RW.ret (aL (RV.tmp rfl) ?_)))))
 exact⟨rfl,hN.aE⟩
theorem wW (x:Int) (w:World):al UY 218 #[.int .i64 x] w fun r w'=>r=.bool false∧Ext w w':=by
 refine al.start abY rfl (US rfl) ?_
 rw[bL]
 have hN:=ak.nil w none_
 refine RW.seq (RW.region (RL.ev (v:=.bool false) rfl rfl aa (RL.nil (ag (RW.seq (RW.region ?_))))))
 iterate 2 refine RL.ev (v:=.int .i64 (x)) rfl rfl U ?_
 refine RL.ev rfl rfl (cm (bp rfl rfl) (fun h=>h rfl)) (RL.ev (v:=.bool false) rfl rfl aa (RL.nil (ag (RW.ret (aL (RV.tmp rfl) ?_)))))
 exact⟨rfl,hN.aE⟩
theorem z7 (x y:Int) (w:World):al UY 212 #[.int .i64 x,.int .i64 y] w fun r w'=>r=.bool (decide (x<y))∧Ext w w':=by
 refine al.start abZ rfl (US rfl) ?_
 rw[cc]
 have hN:=ak.nil w none_
 refine RW.seq (RW.region (RL.ev (v:=.bool false) rfl rfl aa (RL.nil (ag (RW.seq (RW.region (RL.ev (v:=.int .i64 (x)) rfl rfl U ?_)))))))
 refine RL.op rfl rfl (aM abY rfl rfl rfl ((wW (x) _).mono ?_))
 rintro _ w1 ⟨rfl,aW⟩
 replace hN:=hN.ext aW
 clear aW
 refine RL.ev (v:=.bool false) rfl rfl U ?_
 iterate 3 refine RL.off rfl rfl (by decide) rfl rfl ?_
 refine RL.ev (v:=.bool false) rfl rfl (aH rfl) (RL.ev (v:=.bool false) rfl rfl U (RL.aI (v:=.int .i64 (x)) rfl rfl (by decide) rfl rfl U (RL.aI (v:=.int .i64 (y)) rfl rfl (by decide) rfl rfl U (RL.aI rfl rfl (by decide) rfl rfl (aV rfl rfl) (RL.ev (v:=.bool (decide (x<y))) rfl rfl (aH rfl) (RL.ev (v:=.bool (decide (x<y))) rfl rfl aa (RL.nil (ag (RW.ret ?_)))))))))
 refine aL (RV.tmp rfl) ?_
 exact⟨rfl,hN.aE⟩
theorem uj (gv:Value) (g:List Int) (v:Int) (w:World) (hg:Sl vI w gv g) (hR:sY g) (pS:g.length≤16777216):al UY 199 #[gv,.int .i64 v] w fun r w'=>∃p:Nat,r=.tuple #[.int .i64 (p:Int),.bool (decide (g[p]?=some v))]∧(∀m x,m<p→g[m]?=some x→x<v)∧(∀m x,p≤m→g[m]?=some x→v≤x)∧Ext w w':=by
 refine al.start ab0 rfl (US rfl) ?_
 rw[cc]
 have hN:=ak.nil w none_
 refine RW.seq (RW.region (RL.ev (v:=.int .i64 (0)) rfl rfl aa (RL.ev (v:=.bool false) rfl rfl aa (RL.nil (ag (RW.seq (RW.region (RL.ev (v:=gv) rfl rfl U ?_))))))))
 have iF:=(hg.o.now hN).aY
 refine RL.ev rfl rfl (aQ UW (hg.o.now hN) rfl) (RL.ev (v:=.int .i64 ((g.length:Int))) rfl rfl aa (RL.nil (ag (RW.seq (RW.region (RL.ev (v:=.int .i64 ((g.length:Int))) rfl rfl U (RL.ev (v:=.int .i64 (0)) rfl rfl aa (RL.ev (v:=.int .i64 ((g.length:Int))) rfl rfl aa (RL.nil ?_)))))))))
 refine ag (RW.seq (RW.block ?_))
 refine RW.loop (fun k R0 bT=>∃i:Nat,∃j:Nat,R0 0=gv∧R0 1=.int .i64 (v)∧R0 6=.int .i64 ((g.length:Int))∧R0 7=.int .i64 ((i:Int))∧R0 8=.int .i64 ((j:Int))∧ak w none_ bT []∧(i+k=j)∧(j≤g.length)∧(∀m x,m<i→g[m]?=some x→x<v)∧(∀m x,j≤m→g[m]?=some x→v≤x)) (g.length) ?_ ?_
 exact⟨0,g.length,rfl,rfl,rfl,rfl,rfl,hN,by omega,Vv _,fun m x hm=>absurd hm (by omega),fun m x hm hx=>absurd (U5.1 hx).1 (by omega)⟩
 clear hN
 rintro k R0 bT ⟨i,j,bN,bw,dd,cd,cl,hN,nz,RH,nO,mj⟩
 have bY:∃b6,R0=(aZ (aZ (aZ (aZ (aZ b6 0 _) 1 _) 6 _) 7 _) 8 _):=⟨R0,by rw[ai bN,ai bw,ai dd,ai cd,ai cl]⟩
 obtain⟨b6,rfl⟩:=bY
 clear bN bw dd cd cl
 iterate 2 refine RW.seq ?_
 refine RW.region (RL.ev (v:=.int .i64 ((i:Int))) rfl rfl U (RL.ev (v:=.int .i64 ((j:Int))) rfl rfl U (RL.ev rfl rfl (aV rfl rfl) (RL.nil (ag ?_)))))
 refine RW.aN _ rfl (fun bW=>?_) (fun bW=>?_)
 refine RW.skip (ag (RW.block (RW.seq ?_)))
 obtain⟨q,hq⟩:∃q:Nat,q=(i+j)/2:=⟨_,rfl⟩
 have aw:∃a_,g[q]?=some a_:=⟨_,UT (by omega)⟩
 obtain⟨ap,bG⟩:=aw
 refine RW.region (RL.ev (v:=.int .i64 ((i:Int))) rfl rfl U (RL.ev (v:=.int .i64 ((j:Int))) rfl rfl U (RL.ev rfl rfl (an rfl rfl rfl (bc (by omega) (by omega))) (RL.ev rfl rfl (cw UU aam rfl (vw (by omega) (by omega))) (RL.ev rfl rfl (mn rfl rfl (by decide) (show((i:Int)+(j:Int)).fdiv (2^(min (1:Int).toNat V8.bits))=(q:Int)from HS hq)) (RL.ev rfl rfl (cw aam UU rfl (Jr (by omega) (by omega))) (RL.ev (v:=.int .i64 ((q:Int))) rfl rfl aa (RL.nil (ag ?_)))))))))
 refine RW.seq (RW.region (RL.ev (v:=gv) rfl rfl U (RL.ev (v:=.int .i64 ((q:Int))) rfl rfl U (RL.ev rfl rfl (aB UW bu (hg.o.now hN) rfl rfl (by omega) (by omega)) (RL.ev rfl rfl (aF (m:=q) (a:=ap) UU rfl (hg.o.now hN) rfl bG) (RL.ev (v:=.int .i64 (v)) rfl rfl U ?_))))))
 refine RL.op rfl rfl (aR abZ rfl rfl rfl rfl ((z7 (ap) (v) _).mono ?_))
 rintro _ w3 ⟨rfl,aW⟩
 replace hN:=hN.ext aW
 clear aW
 refine RL.nil (ag ?_)
 refine RW.aN _ rfl (fun MT=>?_) (fun MT=>?_)
 refine RW.region (RL.ev (v:=.int .i64 ((q:Int))) rfl rfl U (RL.ev rfl rfl (an rfl rfl rfl (bc (by omega) (by omega))) (RL.ev (v:=.int .i64 ((q:Int)+1)) rfl rfl aa (RL.nil (a7 (ag ?_))))))
 have j6:=hq
 exact⟨j-(q+1),by omega,(q+1),j,rfl,rfl,rfl,rfl,rfl,hN,by omega,by omega,fun m x hm hx=>by
   rcases VH m q with e|e
   · have:=nX hR hx bG e;omega
   · obtain rfl : m = q := by omega
     rw[bG]at hx;cases hx;assumption,by omega⟩
 refine RW.region (RL.ev (v:=.int .i64 ((q:Int))) rfl rfl U (RL.ev (v:=.int .i64 ((q:Int))) rfl rfl aa (RL.nil (a7 (ag ?_)))))
 have j6:=hq
 exact⟨q-i,by omega,i,q,rfl,rfl,rfl,rfl,rfl,hN,by omega,by omega,by omega,fun m x hm hx=>by
   rcases VH q m with e|e
   · have:=nX hR bG hx e;omega
   · obtain rfl : m = q := by omega
     rw[bG]at hx;cases hx;omega⟩
 refine RW.exit ?_
 iterate 2 refine bm ?_
 refine aO (ag (RW.seq ?_))
 by_cases hv:g[i]?=some v
 have HJ:=(U5.1 hv).1
 have Kr:i=j:=by omega
 subst Kr
 refine RW.region ?_
 iterate 2 refine RL.ev (v:=.int .i64 ((i:Int))) rfl rfl U ?_
 refine RL.ev (v:=.int .i64 ((g.length:Int))) rfl rfl U (RL.ev rfl rfl (cS (aV rfl rfl) (by omega)) (RL.ev (v:=.bool true) rfl rfl U (RL.aI (v:=gv) rfl rfl (by decide) rfl rfl U (RL.aI (v:=.int .i64 ((i:Int))) rfl rfl (by decide) rfl rfl U (RL.aI rfl rfl (by decide) rfl rfl (aB UW bu (hg.o.now hN) rfl rfl (by omega) (by omega)) (RL.aI rfl rfl (by decide) rfl rfl (aF (m:=i) (a:=v) UU rfl (hg.o.now hN) rfl hv) (RL.aI (v:=.int .i64 (v)) rfl rfl (by decide) rfl rfl U (RL.aI rfl rfl (by decide) rfl rfl (cS (cI rfl rfl) rfl) (RL.aI (v:=.bool true) rfl rfl (by decide) rfl rfl U ?_)))))))))
 iterate 6 refine RL.off rfl rfl (by decide) rfl rfl ?_
 iterate 2 refine RL.kK rfl rfl (by decide) rfl rfl ?_
 refine RL.off rfl rfl (by decide) rfl rfl (RL.aI (v:=.bool true) rfl rfl (by decide) rfl rfl (ao rfl) (RL.ev (v:=.bool true) rfl rfl (ao rfl) (RL.ev (v:=.int .i64 ((i:Int))) rfl rfl aa (RL.ev (v:=.bool true) rfl rfl aa (RL.nil (ag (RW.ret (aL (RV.fR rfl) ?_))))))))
 exact⟨i,(show Zr #[.int .i64 (i:Int),.bool true]=_ by rw[decide_eq_true hv]),nO,mj,hN.aE⟩
 have Kr:i=j:=by omega
 subst Kr
 refine RW.region ?_
 by_cases HJ:i<g.length
 iterate 2 refine RL.ev (v:=.int .i64 ((i:Int))) rfl rfl U ?_
 refine RL.ev (v:=.int .i64 ((g.length:Int))) rfl rfl U (RL.ev rfl rfl (cS (aV rfl rfl) (by omega)) (RL.ev (v:=.bool true) rfl rfl U (RL.aI (v:=gv) rfl rfl (by decide) rfl rfl U (RL.aI (v:=.int .i64 ((i:Int))) rfl rfl (by decide) rfl rfl U (RL.aI rfl rfl (by decide) rfl rfl (aB UW bu (hg.o.now hN) rfl rfl (by omega) (by omega)) ?_)))))
 have aw:∃a_,(g)[i]?=some a_:=⟨_,UT (by omega)⟩
 obtain⟨az,jS⟩:=aw
 refine RL.aI rfl rfl (by decide) rfl rfl (aF (m:=i) (a:=az) UU rfl (hg.o.now hN) rfl jS) (RL.aI (v:=.int .i64 (v)) rfl rfl (by decide) rfl rfl U (RL.aI rfl rfl (by decide) rfl rfl (cm (cI rfl rfl) (fun e=>hv (by rw[jS,e]))) (RL.aI (v:=.bool false) rfl rfl (by decide) rfl rfl U (RL.aI (v:=gv) rfl rfl (by decide) rfl rfl U (RL.aI (v:=.int .i64 ((i:Int))) rfl rfl (by decide) rfl rfl U (RL.aI rfl rfl (by decide) rfl rfl (aB UW bu (hg.o.now hN) rfl rfl (by omega) (by omega)) ?_))))))
 have aw:∃a_,(g)[i]?=some a_:=⟨_,UT (by omega)⟩
 obtain⟨a5,Qm⟩:=aw
 refine RL.aI rfl rfl (by decide) rfl rfl (aF (m:=i) (a:=a5) UU rfl (hg.o.now hN) rfl Qm) ?_
 refine RL.on rfl rfl (by decide) rfl rfl (aM abX rfl rfl rfl ((ye (a5) _).mono ?_))
 rintro _ w6 ⟨rfl,aW⟩
 replace hN:=hN.ext aW
 clear aW
 refine RL.aI (v:=.bool false) rfl rfl (by decide) rfl rfl U ?_
 iterate 2 refine RL.off rfl rfl (by decide) rfl rfl ?_
 iterate 2 refine RL.aI (v:=.bool false) rfl rfl (by decide) rfl rfl (aH rfl) ?_
 refine RL.ev (v:=.bool false) rfl rfl (ao rfl) (RL.ev (v:=.int .i64 ((i:Int))) rfl rfl aa (RL.ev (v:=.bool false) rfl rfl aa (RL.nil (ag (RW.ret (aL (RV.fR rfl) ?_))))))
 exact⟨i,(show Zr #[.int .i64 (i:Int),.bool false]=_ by rw[decide_eq_false hv]),nO,mj,hN.aE⟩
 iterate 2 refine RL.ev (v:=.int .i64 ((i:Int))) rfl rfl U ?_
 refine RL.ev (v:=.int .i64 ((g.length:Int))) rfl rfl U (RL.ev rfl rfl (cm (aV rfl rfl) (by omega)) (RL.ev (v:=.bool false) rfl rfl U ?_))
 iterate 7 refine RL.off rfl rfl (by decide) rfl rfl ?_
 iterate 9 refine RL.kK rfl rfl (by decide) rfl rfl ?_
 refine RL.off rfl rfl (by decide) rfl rfl (RL.ev (v:=.bool false) rfl rfl (aH rfl) (RL.ev (v:=.int .i64 ((i:Int))) rfl rfl aa (RL.ev (v:=.bool false) rfl rfl aa (RL.nil (ag (RW.ret (aL (RV.fR rfl) ?_)))))))
 exact⟨i,(show Zr #[.int .i64 (i:Int),.bool false]=_ by rw[decide_eq_false hv]),nO,mj,hN.aE⟩
end Go.Proofs.YtngkdkbpgoddlaaGreat
namespace Go.Proofs.YtngkdkbpgoddlaaGreat
open Go.RowKit Go.Rl
open Go.Gr
theorem pC (gv:Value) (g:List Int) (v:Int) (w:World) (hg:Sl vI w gv g) (hR:sY g) (pS:g.length≤16777216):al UY 164 #[gv,.int .i64 v] w fun r w'=>r=.int .i64 (j7 (fun y=>y=v) g)∧Ext w w':=by
 refine al.start aan rfl (US rfl) ?_
 rw[cc]
 have hN:=ak.nil w none_
 refine RW.seq (RW.region (RL.ev (v:=.int .i64 (0)) rfl rfl aa (RL.nil (ag (RW.seq (RW.region (RL.ev (v:=gv) rfl rfl U (RL.ev (v:=.int .i64 (v)) rfl rfl U ?_))))))))
 refine RL.op rfl rfl (aR ab0 rfl rfl rfl rfl ((uj _ g (v) _ (hg.o.now hN) hR pS).mono ?_))
 rintro _ w1 ⟨p1,rfl,Kl,Kw,aW⟩
 replace hN:ak w none_ w1 []:=hN.ext aW
 clear aW
 refine RL.ev rfl rfl U ?_
 iterate 2 refine RL.ev rfl rfl (bg rfl rfl) ?_
 refine RL.ev (v:=.int .i64 ((p1:Int))) rfl rfl aa (RL.ev rfl rfl aa (RL.nil (ag ?_)))
 iterate 2 refine RW.seq ?_
 refine RW.region (RL.ev rfl rfl U (RL.ev rfl rfl (cM rfl) (RL.nil (ag ?_))))
 refine RW.aN _ rfl (fun eQ=>?_) (fun eQ=>?_)
 refine RW.seq (RW.region (RL.ev (v:=.int .i64 (-1)) rfl rfl aa (RL.nil (ag (RW.ret (aD (aL (RV.tmp rfl) ?_)))))))
 exact⟨congrArg (Vn .i64) (H7 hR Kl Kw eQ).symm,hN.aE⟩
 refine RW.skip (ag (RW.seq (RW.region (RL.ev (v:=.int .i64 ((p1:Int))) rfl rfl U (RL.ev (v:=.int .i64 ((p1:Int))) rfl rfl aa (RL.nil (ag (RW.ret (aL (RV.tmp rfl) ?_)))))))))
 exact⟨congrArg (Vn .i64) (Ga hR (Vi.1 eQ)).symm,hN.aE⟩
theorem sa (d least:Int) (w:World):al UY 165 #[.int .i64 d,.int .i64 least] w fun r w'=>r=.bool (decide (cG least d))∧Ext w w':=by
 refine al.start aao rfl (US rfl) ?_
 rw[cc]
 have hN:=ak.nil w none_
 refine RW.seq (RW.region (RL.ev (v:=.bool false) rfl rfl aa (RL.nil (ag (RW.seq (RW.region (RL.ev (v:=.int .i64 (d)) rfl rfl U (RL.ev (v:=.int .i64 (least)) rfl rfl U (RL.ev rfl rfl (da rfl rfl) ?_)))))))))
 refine RL.ev (v:=.bool (decide (least≤d))) rfl rfl U ?_
 by_cases jQ:least≤d
 rw[decide_eq_true jQ]
 refine RL.aI (v:=.int .i64 (d)) rfl rfl (by decide) rfl rfl U (RL.aI rfl rfl (by decide) rfl rfl (nF rfl rfl) (RL.ev (v:=.bool (decide (d≤1152921504606846976))) rfl rfl (ao rfl) (RL.ev (v:=.bool (decide (d≤1152921504606846976))) rfl rfl aa (RL.nil (ag (RW.ret (aL (RV.tmp rfl) ?_)))))))
 exact⟨congrArg Vd (decide_eq_decide.2 ⟨fun h=>⟨by omega,h⟩,fun h=>h.2⟩),hN.aE⟩
 rw[decide_eq_false jQ]
 iterate 2 refine RL.off rfl rfl (by decide) rfl rfl ?_
 refine RL.ev (v:=.bool false) rfl rfl (aH rfl) (RL.ev (v:=.bool false) rfl rfl aa (RL.nil (ag (RW.ret (aL (RV.tmp rfl) ?_)))))
 exact⟨congrArg Vd (decide_eq_false (fun h=>by have:=h.1;omega)).symm,hN.aE⟩
theorem wN (d:Int) (w:World):al UY 201 #[.int .i64 d] w fun r w'=>r=.bool (decide (¬cG (-1) d))∧Ext w w':=by
 refine al.start ab1 rfl (US rfl) ?_
 rw[bL]
 have hN:=ak.nil w none_
 refine RW.seq (RW.region (RL.ev (v:=.bool false) rfl rfl aa (RL.nil (ag (RW.seq (RW.region (RL.ev (v:=.int .i64 (d)) rfl rfl U ?_)))))))
 refine RL.op rfl rfl (aR aao rfl rfl rfl rfl ((sa (d) (-1) _).mono ?_))
 rintro _ w1 ⟨rfl,aW⟩
 replace hN:=hN.ext aW
 clear aW
 refine RL.ev rfl rfl (cM rfl) (RL.ev (v:=.bool (decide (¬(cG (-1) (d))))) rfl rfl aa (RL.nil (ag (RW.ret (aL (RV.tmp rfl) ?_)))))
 exact⟨rfl,hN.aE⟩
theorem kG (x:Int) (w:World):al UY 160 #[.int .i64 x] w fun r w'=>r=.int .i64 x∧Ext w w':=by
 refine al.start Yr rfl (US rfl) ?_
 rw[bL]
 have hN:=ak.nil w none_
 refine RW.seq (RW.region (RL.ev (v:=.int .i64 (0)) rfl rfl aa (RL.nil (ag (RW.seq (RW.region (RL.ev (v:=.int .i64 (x)) rfl rfl U (RL.ev (v:=.int .i64 (x)) rfl rfl aa (RL.nil ?_)))))))))
 refine ag (RW.ret (aL (RV.tmp rfl) ?_))
 exact⟨rfl,hN.aE⟩
theorem uQ (a:I2) (w:World):al UY 161 #[.agg #[.int .i64 a.1,.int .i64 a.2]] w fun r w'=>r=.int .i64 a.1∧Ext w w':=by
 refine al.start aap rfl (US rfl) ?_
 rw[bL]
 have hN:=ak.nil w none_
 refine RW.seq (RW.region ?_)
 refine RL.op rfl rfl (bq (cs:=[.int .i64 (a.1),.int .i64 (a.2)]) rfl rfl hN ?_)
 clear hN
 intro g1 w1 (hN:ak w none_ w1 [_])
 refine RL.ev (v:=.int .i64 (0)) rfl rfl aa (RL.nil (ag (RW.seq (RW.region (RL.ev rfl rfl (ah VE rfl bu (by decide) rfl) (RL.ev rfl rfl (aj UU rfl rfl (hN.aA 0 rfl) rfl) (RL.ev (v:=.int .i64 (a.1)) rfl rfl aa (RL.nil (ag ?_)))))))))
 refine RW.ret (aL (RV.tmp rfl) ?_)
 exact⟨rfl,hN.aE⟩
theorem yi (n:Int) (gn:Nat) (x:Int) (w:World) (hb:fV w gn [.int .i64 n] 3):al UY 162 #[.int .i64 x,.pointer (some ⟨gn,0,none⟩)] w fun r w'=>r=.bool (decide (0≤x∧x<n))∧Ext w w':=by
 refine al.start aaq rfl (US rfl) ?_
 rw[cc]
 have hN:=ak.nil w none_
 refine RW.seq (RW.region (RL.ev (v:=.bool false) rfl rfl aa (RL.nil (ag (RW.seq (RW.region (RL.ev (v:=.int .i64 (x)) rfl rfl U (RL.ev rfl rfl (da rfl rfl) (RL.ev (v:=.bool (decide (0≤x))) rfl rfl U ?_)))))))))
 by_cases yI:0≤x
 rw[decide_eq_true yI]
 refine RL.aI (v:=.int .i64 (x)) rfl rfl (by decide) rfl rfl U (RL.aI rfl rfl (by decide) rfl rfl (aj UU rfl rfl (hb.ext hN.aE) rfl) (RL.aI rfl rfl (by decide) rfl rfl (aV rfl rfl) (RL.ev (v:=.bool (decide (x<n))) rfl rfl (ao rfl) (RL.ev (v:=.bool (decide (x<n))) rfl rfl aa (RL.nil (ag (RW.ret (aL (RV.tmp rfl) ?_))))))))
 exact⟨congrArg Vd (decide_eq_decide.2 ⟨fun h=>⟨by omega,h⟩,fun h=>h.2⟩),hN.aE⟩
 rw[decide_eq_false yI]
 iterate 3 refine RL.off rfl rfl (by decide) rfl rfl ?_
 refine RL.ev (v:=.bool false) rfl rfl (aH rfl) (RL.ev (v:=.bool false) rfl rfl aa (RL.nil (ag (RW.ret (aL (RV.tmp rfl) ?_)))))
 exact⟨congrArg Vd (decide_eq_false (fun h=>by omega)).symm,hN.aE⟩
theorem vD (gt:Nat) (gv fv ov iv cD cE:Value) (g:List Int) (a:I2) (w:World) (AA:fV w gt [gv,fv,ov,iv,cD,cE] 32) (hg:Sl vI w gv g) (hR:sY g) (pS:g.length≤16777216):al UY 163 #[.agg #[.int .i64 a.1,.int .i64 a.2],.pointer (some ⟨gt,0,none⟩)] w fun r w'=>r=.bool (decide (a.1∈g∧cG 0 a.2))∧Ext w w':=by
 refine al.start ab2 rfl (US rfl) ?_
 rw[cc]
 have hN:=ak.nil w none_
 refine RW.seq (RW.region ?_)
 refine RL.op rfl rfl (bq (cs:=[.int .i64 (a.1),.int .i64 (a.2)]) rfl rfl hN ?_)
 clear hN
 intro g1 w1 (hN:ak w none_ w1 [_])
 refine RL.ev (v:=.bool false) rfl rfl aa (RL.nil (ag (RW.seq (RW.region (RL.ev rfl rfl (ah Vh rfl b7 (by decide) rfl) (RL.ev rfl rfl (aj UW rfl rfl (AA.ext hN.aE) rfl) (RL.ev rfl rfl (ah VE rfl bu (by decide) rfl) (RL.ev rfl rfl (aj UU rfl rfl (hN.aA 0 rfl) rfl) ?_))))))))
 refine RL.op rfl rfl (aR aan rfl rfl rfl rfl ((pC _ g (a.1) _ (hg.o.now hN) hR pS).mono ?_))
 rintro _ w2 ⟨rfl,aW⟩
 replace hN:=hN.ext aW
 clear aW
 refine RL.ev rfl rfl (da rfl rfl) (RL.ev (v:=.bool (decide (0≤(j7 (fun y=>y=a.1) g)))) rfl rfl U ?_)
 by_cases IL:0≤(j7 (fun y=>y=a.1) g)
 rw[decide_eq_true IL]
 refine RL.aI rfl rfl (by decide) rfl rfl (ah VE rfl bu (by decide) rfl) (RL.aI rfl rfl (by decide) rfl rfl (aj UU rfl rfl (hN.aA 0 rfl) rfl) ?_)
 refine RL.on rfl rfl (by decide) rfl rfl (aR aao rfl rfl rfl rfl ((sa (a.2) (0) _).mono ?_))
 rintro _ w3 ⟨rfl,aW⟩
 replace hN:=hN.ext aW
 clear aW
 refine RL.ev (v:=.bool (decide (cG (0) (a.2)))) rfl rfl (ao rfl) (RL.ev (v:=.bool (decide (cG (0) (a.2)))) rfl rfl aa (RL.nil (ag (RW.ret (aL (RV.tmp rfl) ?_)))))
 exact⟨congrArg Vd (decide_eq_decide.2 ⟨fun h=>⟨cA.1 (by omega),h⟩,fun h=>h.2⟩),hN.aE⟩
 rw[decide_eq_false IL]
 iterate 3 refine RL.off rfl rfl (by decide) rfl rfl ?_
 refine RL.ev (v:=.bool false) rfl rfl (aH rfl) (RL.ev (v:=.bool false) rfl rfl aa (RL.nil (ag (RW.ret (aL (RV.tmp rfl) ?_)))))
 exact⟨congrArg Vd (decide_eq_false (fun h=>absurd (cA.2 h.1) (by omega))).symm,hN.aE⟩
theorem zA (n:Int) (gn gi:Nat) (gt:Nat) (gv fv ov iv cD cE:Value) (g:List Int) (x:Int) (w:World) (Nh:fV w gn [.int .i64 n] 3) (KN:fV w gi [.func (.func 162) #[] #[.pointer (some ⟨gn,0,none⟩)]] 228) (AA:fV w gt [gv,fv,ov,iv,cD,cE] 32) (hg:Sl vI w gv g) (hR:sY g) (pS:g.length≤16777216):al UY 166 #[.int .i64 x,.pointer (some ⟨gi,0,none⟩),.pointer (some ⟨gt,0,none⟩)] w fun r w'=>r=.bool (decide ((0≤x∧x<n)∧x∉g))∧Ext w w':=by
 refine al.start ab3 rfl (US rfl) ?_
 rw[jB]
 have hN:=ak.nil w none_
 refine RW.seq (RW.region (RL.ev (v:=.bool false) rfl rfl aa (RL.nil (ag (RW.seq (RW.region (RL.ev rfl rfl (aj aar rfl rfl (KN.ext hN.aE) rfl) (RL.ev (v:=.int .i64 (x)) rfl rfl U ?_))))))))
 refine RL.op rfl rfl (bB (first:=#[]) (captured:=#[.pointer (some ⟨gn,0,none⟩)]) (v0:=.int .i64 (x)) (args:=#[.int .i64 (x),.pointer (some ⟨gn,0,none⟩)]) aaq rfl rfl (by simp) rfl rfl ((yi n gn (x) _ (Nh.ext hN.aE)).mono ?_))
 rintro _ w1 ⟨rfl,aW⟩
 replace hN:=hN.ext aW
 clear aW
 refine RL.ev (v:=.bool (decide (0≤x∧x<n))) rfl rfl U ?_
 by_cases jQ:0≤x∧x<n
 rw[decide_eq_true jQ]
 refine RL.aI rfl rfl (by decide) rfl rfl (ah Vh rfl b7 (by decide) rfl) (RL.aI rfl rfl (by decide) rfl rfl (aj UW rfl rfl (AA.ext hN.aE) rfl) (RL.aI (v:=.int .i64 (x)) rfl rfl (by decide) rfl rfl U ?_))
 refine RL.on rfl rfl (by decide) rfl rfl (aR aan rfl rfl rfl rfl ((pC _ g (x) _ (hg.o.now hN) hR pS).mono ?_))
 rintro _ w2 ⟨rfl,aW⟩
 replace hN:=hN.ext aW
 clear aW
 refine RL.aI rfl rfl (by decide) rfl rfl (aV rfl rfl) (RL.ev (v:=.bool (decide ((j7 (fun y=>y=x) g)<0))) rfl rfl (ao rfl) (RL.ev (v:=.bool (decide ((j7 (fun y=>y=x) g)<0))) rfl rfl aa (RL.nil (ag (RW.ret (aL (RV.tmp rfl) ?_))))))
 exact⟨congrArg Vd (decide_eq_decide.2 ⟨fun h=>⟨by assumption,FZ.1 h⟩,fun h=>FZ.2 h.2⟩),hN.aE⟩
 rw[decide_eq_false jQ]
 iterate 5 refine RL.off rfl rfl (by decide) rfl rfl ?_
 refine RL.ev (v:=.bool false) rfl rfl (aH rfl) (RL.ev (v:=.bool false) rfl rfl aa (RL.nil (ag (RW.ret (aL (RV.tmp rfl) ?_)))))
 exact⟨congrArg Vd (decide_eq_false (fun h=>by first|exact absurd h.1 (by assumption)|exact absurd h.2 (by assumption))).symm,hN.aE⟩
theorem wk (gv:Value) (g:List Int) (w:World) (hg:Sl vI w gv g):al UY 214 #[gv,.func (.func 201) #[] #[]] w fun r w'=>r=.int .i64 (j7 (fun d=>¬cG (-1) d) g)∧Ext w w':=by
 refine al.start ab4 rfl (US rfl) ?_
 rw[cc]
 have hN:=ak.nil w none_
 refine RW.seq (RW.region (RL.ev (v:=.int .i64 (0)) rfl rfl aa (RL.nil (ag ?_))))
 iterate 2 refine RW.seq ?_
 refine RW.region (RL.ev (v:=gv) rfl rfl U ?_)
 have iF:=(hg.o.now hN).aY
 refine RL.ev rfl rfl (aQ UW (hg.o.now hN) rfl) (RL.ev (v:=.int .i64 (0)) rfl rfl U (RL.nil (ag (RW.block ?_))))
 refine RW.loop (fun k R0 bT=>∃i:Nat,R0 0=gv∧R0 1=.func (.func 201) #[] #[]∧R0 7=.int .i64 ((g.length:Int))∧R0 8=.int .i64 ((i:Int))∧ak w none_ bT []∧(i+k=g.length)∧(∀y∈g.take i,¬¬cG (-1) y)) (g.length) ?_ ?_
 exact⟨0,rfl,rfl,rfl,rfl,hN,by omega,fun x hx=>by cases hx⟩
 clear hN
 rintro k R0 bT ⟨i,bN,bw,cd,cl,hN,eR,eQ⟩
 have bY:∃b6,R0=(aZ (aZ (aZ (aZ b6 0 _) 1 _) 7 _) 8 _):=⟨R0,by rw[ai bN,ai bw,ai cd,ai cl]⟩
 obtain⟨b6,rfl⟩:=bY
 clear bN bw cd cl
 refine RW.seq (RW.region (RL.ev rfl rfl (aV rfl rfl) (RL.nil (ag (RW.seq ?_)))))
 refine RW.aN _ rfl (fun bW=>?_) (fun bW=>?_)
 refine RW.skip (ag (RW.seq (RW.block (RW.seq (RW.region (RL.ev (v:=.int .i64 ((i:Int))) rfl rfl U (RL.ev (v:=.int .i64 ((i:Int))) rfl rfl aa (RL.nil (ag ?_)))))))))
 refine RW.seq (RW.region (RL.ev (v:=.func (.func 201) #[] #[]) rfl rfl U (RL.ev (v:=gv) rfl rfl U (RL.ev (v:=.int .i64 ((i:Int))) rfl rfl U (RL.ev rfl rfl (aB UW bu (hg.o.now hN) rfl rfl (by omega) (by omega)) ?_)))))
 have aw:∃a_,(g)[i]?=some a_:=⟨_,UT (by omega)⟩
 obtain⟨ap,bG⟩:=aw
 refine RL.ev rfl rfl (aF (m:=i) (a:=ap) UU rfl (hg.o.now hN) rfl bG) ?_
 refine RL.op rfl rfl (bB (first:=#[]) (captured:=#[]) (v0:=.int .i64 (ap)) (args:=#[.int .i64 (ap)]) ab1 rfl rfl (by simp) rfl rfl ((wN (ap) _).mono ?_))
 rintro _ w2 ⟨rfl,aW⟩
 replace hN:=hN.ext aW
 clear aW
 refine RL.nil (ag ?_)
 refine RW.aN _ rfl (fun nC=>?_) (fun nC=>?_)
 refine RW.seq (RW.region (RL.ev (v:=.int .i64 ((i:Int))) rfl rfl U (RL.ev (v:=.int .i64 ((i:Int))) rfl rfl aa (RL.nil (ag (RW.ret (aJ ?_)))))))
 iterate 2 refine aD ?_
 refine aJ (aD (aL (RV.tmp rfl) ?_))
 exact⟨congrArg (Vn .i64) (nE eQ bG nC).symm,hN.aE⟩
 refine RW.skip (a7 (ag (RW.region (RL.ev rfl rfl (an rfl rfl rfl (bc (by omega) (by omega))) (RL.ev (v:=.int .i64 ((i:Int)+1)) rfl rfl U (RL.nil (ag ?_)))))))
 exact⟨k-1,by omega,i+1,rfl,rfl,rfl,rfl,hN,by omega,fun x hx=>(cT bG hx).elim (eQ x) (fun e=>e▸nC)⟩
 refine RW.exit ?_
 iterate 2 refine bm ?_
 refine aO (ag (RW.seq (RW.region (RL.ev (v:=.int .i64 (-1)) rfl rfl aa (RL.nil (ag (RW.ret (aL (RV.tmp rfl) ?_))))))))
 rw[Vo (by omega)]at eQ
 exact⟨congrArg (Vn .i64) (pg eQ).symm,hN.aE⟩
theorem zf (gv:Value) (g:List Int) (w:World) (hg:Sl vI w gv g):al UY 200 #[gv,.func (.func 201) #[] #[]] w fun r w'=>r=.bool (decide (0≤j7 (fun d=>¬cG (-1) d) g))∧Ext w w':=by
 refine al.start ab5 rfl (US rfl) ?_
 rw[cc]
 have hN:=ak.nil w none_
 refine RW.seq (RW.region (RL.ev (v:=.bool false) rfl rfl aa (RL.nil (ag (RW.seq (RW.region (RL.ev (v:=gv) rfl rfl U (RL.ev (v:=.func (.func 201) #[] #[]) rfl rfl U ?_))))))))
 refine RL.op rfl rfl (aR ab4 rfl rfl rfl rfl ((wk _ g _ (hg.o.now hN)).mono ?_))
 rintro _ w1 ⟨rfl,aW⟩
 replace hN:=hN.ext aW
 clear aW
 refine RL.ev rfl rfl (da rfl rfl) (RL.ev (v:=.bool (decide (0≤(j7 (fun d=>¬cG (-1) d) g)))) rfl rfl aa (RL.nil (ag (RW.ret (aL (RV.tmp rfl) ?_)))))
 exact⟨rfl,hN.aE⟩
theorem Ef {l:List Int} (h:¬0≤j7 (fun d=>¬cG (-1) d) l):∀x∈l,cG (-1) x:=by
  rcases ei (fun d=>¬cG (-1) d) l with⟨_,hb⟩|⟨i,x,e,_,_,_⟩
  · exact fun x hx=>Vi.1 (hb x hx)
  · omega
theorem og {l:List Int} (h:0≤j7 (fun d=>¬cG (-1) d) l):¬∀x∈l,cG (-1) x:=by
  rcases ei (fun d=>¬cG (-1) d) l with⟨e,_⟩|⟨i,x,e,hx,hp,_⟩
  · omega
  · exact fun fU=>hp (fU x (UZ hx))
theorem zB (w:World) (ov iv cD cE gv fv:Value) (gl:List Int) (fh:List Hd) (fl:List (List Int)) (hg:Sl vI w gv gl) (hf:Sl vh w fv fh) (nP:ep none_ vI w fh fl):al UY 168 #[.agg #[gv,fv,ov,iv,cD,cE]] w fun r w'=>r=.bool (decide (oK gl fl))∧Ext w w':=by
 refine al.start ab6 rfl (US rfl) ?_
 rw[bL]
 have hN:=ak.nil w none_
 have Ct:=nP.1
 refine RW.seq (RW.region ?_)
 refine RL.op rfl rfl (bq (cs:=[gv,fv,ov,iv,cD,cE]) rfl rfl hN ?_)
 clear hN
 intro g1 w1 (hN:ak w none_ w1 [_])
 refine RL.ev (v:=.bool false) rfl rfl aa (RL.nil (ag ?_))
 iterate 2 refine RW.seq ?_
 refine RW.region (RL.ev rfl rfl (ah Vh rfl gK (by decide) rfl) (RL.ev rfl rfl (aj U7 rfl rfl (hN.aA 0 rfl) rfl) ?_))
 have jb:=(hf.o.now hN).aY
 refine RL.ev rfl rfl (aQ U7 (hf.o.now hN) rfl) (RL.ev rfl rfl (ah Vh rfl b7 (by decide) rfl) (RL.ev rfl rfl (aj UW rfl rfl (hN.aA 0 rfl) rfl) ?_))
 have mQ:=(hg.o.now hN).aY
 refine RL.ev rfl rfl (aQ UW (hg.o.now hN) rfl) (RL.ev rfl rfl (bp rfl rfl) (RL.nil (ag ?_)))
 refine RW.aN _ rfl (fun hlen=>?_) (fun hlen=>?_)
 refine RW.seq (RW.region (RL.ev (v:=.bool false) rfl rfl aa (RL.nil (ag (RW.ret (aD (aL (RV.tmp rfl) ?_)))))))
 exact⟨congrArg Vd (decide_eq_false (fun h:oK gl fl=>by
  have B8:=h.1
  first
  |omega
  | (obtain ⟨b1, b2, b3⟩ := h.2 i lp dp
     first
     |omega
     |(rw[jS]at b2;cases b2;contradiction)
     |exact absurd b3 (og (by assumption))))).symm,hN.aE⟩
 refine RW.skip (ag ?_)
 iterate 2 refine RW.seq ?_
 refine RW.region (RL.ev rfl rfl (ah Vh rfl gK (by decide) rfl) (RL.ev rfl rfl (aj U7 rfl rfl (hN.aA 0 rfl) rfl) (RL.ev rfl rfl (aQ U7 (hf.o.now hN) rfl) (RL.ev (v:=.int .i64 (0)) rfl rfl U (RL.nil (ag (RW.block ?_)))))))
 refine RW.loop (fun k R0 bT=>∃i:Nat,R0 1=.pointer (some ⟨g1,0,none⟩)∧R0 13=fv∧R0 14=.int .i64 ((fh.length:Int))∧R0 15=.int .i64 ((i:Int))∧ak w none_ bT [.aA g1 [gv,fv,ov,iv,cD,cE] 32]∧(i+k=fh.length)∧(∀m r,m<i→fl[m]?=some r→r.length=gl.length∧r[m]?=some 0∧∀x∈r,cG (-1) x)) (fh.length) ?_ ?_
 exact⟨0,rfl,rfl,rfl,rfl,hN,by omega,fun m r hm=>absurd hm (by omega)⟩
 clear hN
 rintro k R0 bT ⟨i,bw,gH,me,yz,hN,eR,FN⟩
 have bY:∃b6,R0=(aZ (aZ (aZ (aZ b6 1 _) 13 _) 14 _) 15 _):=⟨R0,by rw[ai bw,ai gH,ai me,ai yz]⟩
 obtain⟨b6,rfl⟩:=bY
 clear bw gH me yz
 refine RW.seq (RW.region (RL.ev rfl rfl (aV rfl rfl) (RL.nil (ag (RW.seq ?_)))))
 refine RW.aN _ rfl (fun bW=>?_) (fun bW=>?_)
 refine RW.skip (ag (RW.seq (RW.block (RW.seq ?_))))
 have HH:=nP.1
 have aw:∃a_,fh[i]?=some a_:=⟨_,UT (by omega)⟩
 obtain⟨ap,bG⟩:=aw
 have aw:∃a_,fl[i]?=some a_:=⟨_,UT (by omega)⟩
 obtain⟨lp,dp⟩:=aw
 have jG:=UZ dp
 refine RW.region (RL.ev (v:=.int .i64 ((i:Int))) rfl rfl U (RL.ev rfl rfl (aB U7 b7 (hf.o.now hN) rfl rfl (by omega) (by omega)) (RL.ev rfl rfl (aF (m:=i) (a:=ap) UW rfl (hf.o.now hN) rfl bG) (RL.ev (v:=.int .i64 ((i:Int))) rfl rfl aa (RL.ev (v:=(vh ap)) rfl rfl aa (RL.nil (ag (RW.seq (RW.region ?_)))))))))
 refine RL.ev (v:=(vh ap)) rfl rfl U ?_
 have pd:=((nP.fX bG dp).now hN).aY
 refine RL.ev rfl rfl (aQ UW ((nP.fX bG dp).now hN) rfl) (RL.ev rfl rfl (ah Vh rfl b7 (by decide) rfl) (RL.ev rfl rfl (aj UW rfl rfl (hN.aA 0 rfl) rfl) (RL.ev rfl rfl (aQ UW (hg.o.now hN) rfl) (RL.ev rfl rfl (bp rfl rfl) (RL.ev (v:=.bool (decide (¬(lp.length:Int)=(gl.length:Int)))) rfl rfl U ?_)))))
 by_cases IE:¬(lp.length:Int)=(gl.length:Int)
 rw[decide_eq_true IE]
 iterate 5 refine RL.off rfl rfl (by decide) rfl rfl ?_
 refine RL.ev (v:=.bool true) rfl rfl (ao rfl) (RL.ev (v:=.bool true) rfl rfl U ?_)
 iterate 2 refine RL.off rfl rfl (by decide) rfl rfl ?_
 refine RL.ev (v:=.bool true) rfl rfl (ao rfl) (RL.nil (ag (RW.bK rfl (RW.seq (RW.region (RL.ev (v:=.bool false) rfl rfl aa (RL.nil (ag (RW.ret ?_)))))))))
 refine aJ ?_
 iterate 2 refine aD ?_
 refine aJ (aD (aL (RV.tmp rfl) ?_))
 exact⟨congrArg Vd (decide_eq_false (fun h:oK gl fl=>by
  have B8:=h.1
  first
  |omega
  | (obtain ⟨b1, b2, b3⟩ := h.2 i lp dp
     first
     |omega
     |(rw[jS]at b2;cases b2;contradiction)
     |exact absurd b3 (og (by assumption))))).symm,hN.aE⟩
 rw[decide_eq_false IE]
 refine RL.aI (v:=(vh ap)) rfl rfl (by decide) rfl rfl U (RL.aI (v:=.int .i64 ((i:Int))) rfl rfl (by decide) rfl rfl U (RL.aI rfl rfl (by decide) rfl rfl (aB UW bu ((nP.fX bG dp).now hN) rfl rfl (by omega) (by omega)) ?_))
 have aw:∃a_,(lp)[i]?=some a_:=⟨_,UT (by omega)⟩
 obtain⟨az,jS⟩:=aw
 refine RL.aI rfl rfl (by decide) rfl rfl (aF (m:=i) (a:=az) UU rfl ((nP.fX bG dp).now hN) rfl jS) (RL.aI rfl rfl (by decide) rfl rfl (bp rfl rfl) (RL.ev (v:=.bool (decide (¬az=0))) rfl rfl (aH rfl) (RL.ev (v:=.bool (decide (¬az=0))) rfl rfl U ?_)))
 by_cases Fa:¬az=0
 rw[decide_eq_true Fa]
 iterate 2 refine RL.off rfl rfl (by decide) rfl rfl ?_
 refine RL.ev (v:=.bool true) rfl rfl (ao rfl) (RL.nil (ag (RW.bK rfl (RW.seq (RW.region (RL.ev (v:=.bool false) rfl rfl aa (RL.nil (ag (RW.ret ?_)))))))))
 refine aJ ?_
 iterate 2 refine aD ?_
 refine aJ (aD (aL (RV.tmp rfl) ?_))
 exact⟨congrArg Vd (decide_eq_false (fun h:oK gl fl=>by
  have B8:=h.1
  first
  |omega
  | (obtain ⟨b1, b2, b3⟩ := h.2 i lp dp
     first
     |omega
     |(rw[jS]at b2;cases b2;contradiction)
     |exact absurd b3 (og (by assumption))))).symm,hN.aE⟩
 rw[decide_eq_false Fa]
 refine RL.aI (v:=(vh ap)) rfl rfl (by decide) rfl rfl U ?_
 refine RL.on rfl rfl (by decide) rfl rfl (aR ab5 rfl rfl rfl rfl ((zf _ lp _ ((nP.fX bG dp).now hN)).mono ?_))
 rintro _ w6 ⟨rfl,aW⟩
 replace hN:=hN.ext aW
 clear aW
 refine RL.ev (v:=.bool (decide (0≤j7 (fun d=>¬cG (-1) d) lp))) rfl rfl (aH rfl) (RL.nil (ag ?_))
 refine RW.aN _ rfl (fun eQ=>?_) (fun eQ=>?_)
 refine RW.seq (RW.region (RL.ev (v:=.bool false) rfl rfl aa (RL.nil (ag (RW.ret (aJ ?_))))))
 iterate 2 refine aD ?_
 refine aJ (aD (aL (RV.tmp rfl) ?_))
 exact⟨congrArg Vd (decide_eq_false (fun h:oK gl fl=>by
  have B8:=h.1
  first
  |omega
  | (obtain ⟨b1, b2, b3⟩ := h.2 i lp dp
     first
     |omega
     |(rw[jS]at b2;cases b2;contradiction)
     |exact absurd b3 (og (by assumption))))).symm,hN.aE⟩
 refine RW.skip (a7 (ag (RW.region (RL.ev rfl rfl (an rfl rfl rfl (bc (by omega) (by omega))) (RL.ev (v:=.int .i64 ((i:Int)+1)) rfl rfl U (RL.nil (ag ?_)))))))
 exact⟨k-1,by omega,i+1,rfl,rfl,rfl,rfl,hN,by omega,fun m r hm hr=>(VH m i).elim (fun e=>FN m r e hr) (fun e=>have e2:m=i:=(by omega);have e3:r=lp:=Vq (hr.symm.trans (e2▸dp));e2▸e3▸⟨by omega,by rw[jS];exact congrArg some (by omega),Ef eQ⟩)⟩
 refine RW.exit ?_
 iterate 2 refine bm ?_
 refine aO (ag (RW.seq (RW.region (RL.ev (v:=.bool true) rfl rfl aa (RL.nil (ag (RW.ret (aL (RV.tmp rfl) ?_))))))))
 exact⟨congrArg Vd (decide_eq_true (show oK gl fl from⟨by omega,fun m r hm=>FN m r (by have:=(U5.1 hm).1;omega) hm⟩)).symm,hN.aE⟩
end Go.Proofs.YtngkdkbpgoddlaaGreat
namespace Go.Proofs.YtngkdkbpgoddlaaGreat
open Go.RowKit Go.Rl
open Go.Gr
theorem vJ (nn:Int) (n:Int) (gn:Nat) (lv:Value) (hs:List Hd) (ls:List (List Int)) (w:World) (Nh:fV w gn [.int .i64 n] 3) (hl:Sl vh w lv hs) (ef:ep none_ vI w hs ls):al UY 167 #[lv,.int .i64 nn,.func (.func 160) #[] #[],.func (.func 162) #[] #[.pointer (some ⟨gn,0,none⟩)]] w fun r w'=>r=.bool (decide (fp (fun x=>x) (fun x=>0≤x∧x<n) nn ls))∧Ext w w':=by
 refine al.start Ys rfl (US rfl) ?_
 rw[p7]
 have hN:=ak.nil w none_
 have Ct:=ef.1
 refine RW.seq (RW.region (RL.ev (v:=.bool false) rfl rfl aa (RL.nil (ag ?_))))
 iterate 2 refine RW.seq ?_
 refine RW.region (RL.ev (v:=lv) rfl rfl U ?_)
 have iF:=(hl.o.now hN).aY
 refine RL.ev rfl rfl (aQ U7 (hl.o.now hN) rfl) (RL.ev (v:=.int .i64 (nn)) rfl rfl U (RL.ev rfl rfl (bp rfl rfl) (RL.nil (ag ?_))))
 refine RW.aN _ rfl (fun hlen=>?_) (fun hlen=>?_)
 refine RW.seq (RW.region (RL.ev (v:=.bool false) rfl rfl aa (RL.nil (ag (RW.ret (aD (aL (RV.tmp rfl) ?_)))))))
 exact⟨congrArg Vd (decide_eq_false (fun h:fp (fun x=>x) (fun x=>0≤x∧x<n) nn ls=>by
  have h1:=h.1
  first
  |omega
  |exact absurd ((h.2 lp jG).1 x (UZ hx)) (by assumption)
  |exact absurd (h.2 lp jG) (iW hx (by omega) hy (by assumption)))).symm,hN.aE⟩
 refine RW.skip (ag ?_)
 iterate 2 refine RW.seq ?_
 refine RW.region (RL.ev (v:=lv) rfl rfl U (RL.ev rfl rfl (aQ U7 (hl.o.now hN) rfl) (RL.ev (v:=.int .i64 (0)) rfl rfl U (RL.nil (ag (RW.block ?_))))))
 refine RW.loop (fun k R0 bT=>∃i:Nat,R0 2=.func (.func 160) #[] #[]∧R0 3=.func (.func 162) #[] #[.pointer (some ⟨gn,0,none⟩)]∧R0 17=lv∧R0 18=.int .i64 ((hs.length:Int))∧R0 19=.int .i64 ((i:Int))∧ak w none_ bT []∧(i+k=hs.length)∧(∀m r,m<i→ls[m]?=some r→sX (fun x=>x) (fun x=>0≤x∧x<n) r)) (hs.length) ?_ ?_
 exact⟨0,rfl,rfl,rfl,rfl,rfl,hN,by omega,fun m r hm=>absurd hm (by omega)⟩
 clear hN
 rintro k R0 bT ⟨i,bF,ca,ee,ed,eC,hN,eR,qm⟩
 have bY:∃b6,R0=(aZ (aZ (aZ (aZ (aZ b6 2 _) 3 _) 17 _) 18 _) 19 _):=⟨R0,by rw[ai bF,ai ca,ai ee,ai ed,ai eC]⟩
 obtain⟨b6,rfl⟩:=bY
 clear bF ca ee ed eC
 refine RW.seq (RW.region (RL.ev rfl rfl (aV rfl rfl) (RL.nil (ag (RW.seq ?_)))))
 refine RW.aN _ rfl (fun bW=>?_) (fun bW=>?_)
 refine RW.skip (ag (RW.seq (RW.block (RW.seq ?_))))
 have HH:=ef.1
 have aw:∃a_,hs[i]?=some a_:=⟨_,UT (by omega)⟩
 obtain⟨ap,bG⟩:=aw
 have aw:∃a_,ls[i]?=some a_:=⟨_,UT (by omega)⟩
 obtain⟨lp,dp⟩:=aw
 have jG:=UZ dp
 refine RW.region (RL.ev rfl rfl (aB U7 b7 (hl.o.now hN) rfl rfl (by omega) (by omega)) (RL.ev rfl rfl (aF (m:=i) (a:=ap) UW rfl (hl.o.now hN) rfl bG) (RL.ev (v:=(vh ap)) rfl rfl aa (RL.nil (ag (RW.seq (RW.region (RL.ev (v:=(vh ap)) rfl rfl U ?_))))))))
 have mQ:=((ef.fX bG dp).now hN).aY
 refine RL.ev rfl rfl (aQ UW ((ef.fX bG dp).now hN) rfl) (RL.ev (v:=.int .i64 (0)) rfl rfl U (RL.nil (ag (RW.block ?_))))
 refine RW.loop (fun k2 R1 fI=>∃q:Nat,R1 2=.func (.func 160) #[] #[]∧R1 3=.func (.func 162) #[] #[.pointer (some ⟨gn,0,none⟩)]∧R1 10=(vh ap)∧R1 17=lv∧R1 18=.int .i64 ((hs.length:Int))∧R1 19=.int .i64 ((i:Int))∧R1 23=(vh ap)∧R1 24=.int .i64 ((lp.length:Int))∧R1 25=.int .i64 ((q:Int))∧ak w none_ fI []∧(q+k2=lp.length)∧(sX (fun x=>x) (fun x=>0≤x∧x<n) (lp.take q))) (lp.length) ?_ ?_
 exact⟨0,rfl,rfl,rfl,rfl,rfl,rfl,rfl,rfl,rfl,hN,by omega,rI _ _⟩
 clear hN
 rintro k2 R1 fI ⟨q,bF,ca,cB,ee,ed,eC,gG,pO,eO,hN,J7,l9⟩
 have bY:∃gY,R1=(aZ (aZ (aZ (aZ (aZ (aZ (aZ (aZ (aZ gY 2 _) 3 _) 10 _) 17 _) 18 _) 19 _) 23 _) 24 _) 25 _):=⟨R1,by rw[ai bF,ai ca,ai cB,ai ee,ai ed,ai eC,ai gG,ai pO,ai eO]⟩
 obtain⟨gY,rfl⟩:=bY
 clear bF ca cB ee ed eC gG pO eO
 refine RW.seq (RW.region (RL.ev rfl rfl (aV rfl rfl) (RL.nil (ag (RW.seq ?_)))))
 refine RW.aN _ rfl (fun eI=>?_) (fun eI=>?_)
 refine RW.skip (ag (RW.seq (RW.block (RW.seq ?_))))
 have aw:∃a_,lp[q]?=some a_:=⟨_,UT (by omega)⟩
 obtain⟨x,hx⟩:=aw
 obtain⟨y,hy⟩:∃y,lp[q-1]?=some y:=⟨_,UT (by omega)⟩
 refine RW.region (RL.ev (v:=.int .i64 ((q:Int))) rfl rfl U (RL.ev rfl rfl (aB UW bu ((ef.fX bG dp).now hN) rfl rfl (by omega) (by omega)) (RL.ev rfl rfl (aF (m:=q) (a:=x) UU rfl ((ef.fX bG dp).now hN) rfl hx) (RL.ev (v:=.int .i64 ((q:Int))) rfl rfl aa (RL.ev (v:=.int .i64 (x)) rfl rfl aa (RL.nil (ag (RW.seq ?_))))))))
 replace hN:=hN.ext (Ext.drew fI)
 refine RW.cb rfl (fun u=>ak w none_ u []) 21 [(0,0),(1,0),(2,1),(3,0),(4,0),(5,0),(6,0),(7,0),(8,0),(9,0),(11,0),(12,0),(13,0),(14,0),(15,0),(16,0),(10,1),(17,1),(18,0),(19,0),(20,0)] (by intro _ _ _ h;exact h) (by kernel_rfl) hN (RQ.ev (v:=.func (.func 162) #[] #[.pointer (some ⟨gn,0,none⟩)]) rfl rfl (fun w hS=>U) (RQ.ev (v:=.int .i64 (x)) rfl rfl (fun w hS=>U) ?_))
 refine RQ.do rfl rfl (bB (first:=#[]) (captured:=#[.pointer (some ⟨gn,0,none⟩)]) (v0:=.int .i64 (x)) (args:=#[.int .i64 (x),.pointer (some ⟨gn,0,none⟩)]) aaq rfl rfl (by simp) rfl rfl ((yi n gn (x) _ (Nh.ext hN.aE)).mono ?_))
 rintro _ w5 ⟨rfl,aW⟩
 replace hN:=hN.ext aW
 clear aW
 refine⟨hN,?_⟩
 refine RQ.ev rfl rfl (fun w hS=>(cM rfl)) (RQ.ev (v:=.bool (decide (¬(0≤x∧x<n)))) rfl rfl (fun w hS=>U) ?_)
 by_cases pU:¬(0≤x∧x<n)
 rw[decide_eq_true pU]
 iterate 3 refine RQ.off rfl rfl rfl rfl ?_
 iterate 11 refine RQ.kK rfl rfl rfl rfl ?_
 refine RQ.off rfl rfl rfl rfl (RQ.ev (v:=.bool true) rfl rfl (fun w hS=>(ao rfl)) (RQ.done (by kernel_rfl) (ag (RW.bK rfl (RW.seq (RW.region (RL.ev (v:=.bool false) rfl rfl aa (RL.nil (ag ?_)))))))))
 refine RW.ret (aJ ?_)
 iterate 2 refine aD ?_
 iterate 2 refine aJ ?_
 iterate 2 refine aD ?_
 refine aJ (aD (aL (RV.tmp rfl) ?_))
 exact⟨congrArg Vd (decide_eq_false (fun h:fp (fun x=>x) (fun x=>0≤x∧x<n) nn ls=>by
  have h1:=h.1
  first
  |omega
  |exact absurd ((h.2 lp jG).1 x (UZ hx)) (by assumption)
  |exact absurd (h.2 lp jG) (iW hx (by omega) hy (by assumption)))).symm,hN.aE⟩
 rw[decide_eq_false pU]
 refine RQ.on (v:=.int .i64 ((q:Int))) rfl rfl rfl rfl (fun w hS=>U) (RQ.on rfl rfl rfl rfl (fun w hS=>(cN rfl rfl)) (RQ.on (v:=.bool (decide (0<(q:Int)))) rfl rfl rfl rfl (fun w hS=>U) ?_))
 by_cases pT:0<(q:Int)
 rw[decide_eq_true pT]
 refine RQ.on (v:=.func (.func 160) #[] #[]) rfl rfl rfl rfl (fun w hS=>U) (RQ.on (v:=.int .i64 (x)) rfl rfl rfl rfl (fun w hS=>U) (RQ.on (v:=.func (.func 160) #[] #[]) rfl rfl rfl rfl (fun w hS=>U) (RQ.on (v:=(vh ap)) rfl rfl rfl rfl (fun w hS=>U) (RQ.on (v:=.int .i64 ((q:Int))) rfl rfl rfl rfl (fun w hS=>U) (RQ.on rfl rfl rfl rfl (fun w hS=>(an rfl rfl rfl (kc (by omega) (by omega)))) (RQ.on rfl rfl rfl rfl (fun w hS=>(aB UW bu ((ef.fX bG dp).now hS) rfl rfl (by omega) (by omega))) (RQ.on rfl rfl rfl rfl (fun w hS=>(aF (m:=((q:Int)-1).toNat) (a:=y) UU rfl ((ef.fX bG dp).now hS) rfl (by rw[show((q:Int)-1).toNat=q-1 by omega];exact hy))) ?_)))))))
 refine RQ.qz rfl rfl rfl rfl (bB (first:=#[]) (captured:=#[]) (v0:=.int .i64 (x)) (args:=#[.int .i64 (x)]) Yr rfl rfl (by simp) rfl rfl ((kG (x) _).mono ?_))
 rintro _ w7 ⟨rfl,aW⟩
 replace hN:=hN.ext aW
 clear aW
 refine⟨hN,?_⟩
 refine RQ.qz rfl rfl rfl rfl (bB (first:=#[]) (captured:=#[]) (v0:=.int .i64 (y)) (args:=#[.int .i64 (y)]) Yr rfl rfl (by simp) rfl rfl ((kG (y) _).mono ?_))
 rintro _ w8 ⟨rfl,aW⟩
 replace hN:=hN.ext aW
 clear aW
 refine⟨hN,?_⟩
 refine RQ.on rfl rfl rfl rfl (fun w hS=>(nF rfl rfl)) (RQ.on (v:=.bool (decide (x≤y))) rfl rfl rfl rfl (fun w hS=>(ao rfl)) (RQ.ev (v:=.bool (decide (x≤y))) rfl rfl (fun w hS=>(aH rfl)) (RQ.done (by kernel_rfl) (ag ?_))))
 refine RW.aN _ rfl (fun eQ=>?_) (fun eQ=>?_)
 refine RW.seq (RW.region (RL.ev (v:=.bool false) rfl rfl aa (RL.nil (ag (RW.ret (aJ ?_))))))
 iterate 2 refine aD ?_
 iterate 2 refine aJ ?_
 iterate 2 refine aD ?_
 refine aJ (aD (aL (RV.tmp rfl) ?_))
 exact⟨congrArg Vd (decide_eq_false (fun h:fp (fun x=>x) (fun x=>0≤x∧x<n) nn ls=>by
  have h1:=h.1
  first
  |omega
  |exact absurd ((h.2 lp jG).1 x (UZ hx)) (by assumption)
  |exact absurd (h.2 lp jG) (iW hx (by omega) hy (by assumption)))).symm,hN.aE⟩
 refine RW.skip (a7 (ag (RW.region (RL.ev rfl rfl (an rfl rfl rfl (bc (by omega) (by omega))) (RL.ev (v:=.int .i64 ((q:Int)+1)) rfl rfl U (RL.nil (ag ?_)))))))
 exact⟨k2-1,by omega,q+1,rfl,rfl,rfl,rfl,rfl,rfl,rfl,rfl,rfl,hN,by omega,jf l9 hx (Vi.1 (by assumption)) (fun z h0 hz=>by
   rw[hy]at hz;cases hz;omega)⟩
 rw[decide_eq_false pT]
 iterate 11 refine RQ.off rfl rfl rfl rfl ?_
 refine RQ.on (v:=.bool false) rfl rfl rfl rfl (fun w hS=>(aH rfl)) (RQ.ev (v:=.bool false) rfl rfl (fun w hS=>(aH rfl)) (RQ.done (by kernel_rfl) (ag (RW.dD rfl (RW.skip (a7 (ag (RW.region (RL.ev rfl rfl (an rfl rfl rfl (bc (by omega) (by omega))) ?_)))))))))
 refine RL.ev (v:=.int .i64 ((q:Int)+1)) rfl rfl U (RL.nil (ag ?_))
 exact⟨k2-1,by omega,q+1,rfl,rfl,rfl,rfl,rfl,rfl,rfl,rfl,rfl,hN,by omega,jf l9 hx (Vi.1 (by assumption)) (fun z h0 hz=>by
   rw[hy]at hz;cases hz;omega)⟩
 refine RW.exit ?_
 iterate 2 refine bm ?_
 refine aO (a7 (ag ?_))
 rw[show q=lp.length by omega,Vz]at l9
 refine RW.region (RL.ev rfl rfl (an rfl rfl rfl (bc (by omega) (by omega))) (RL.ev (v:=.int .i64 ((i:Int)+1)) rfl rfl U (RL.nil (ag ?_))))
 exact⟨k-1,by omega,i+1,rfl,rfl,rfl,rfl,rfl,hN,by omega,fun m r hm hr=>(VH m i).elim (fun e=>qm m r e hr) (fun e=>have e2:m=i:=(by omega);have e3:r=lp:=Vq (hr.symm.trans (e2▸dp));e3▸l9)⟩
 refine RW.exit ?_
 iterate 2 refine bm ?_
 refine aO (ag (RW.seq (RW.region (RL.ev (v:=.bool true) rfl rfl aa (RL.nil (ag (RW.ret (aL (RV.tmp rfl) ?_))))))))
 exact⟨congrArg Vd (decide_eq_true (show fp (fun x=>x) (fun x=>0≤x∧x<n) nn ls from⟨by omega,fun r hr=>by
  have aw:=VK hr
  obtain⟨m,hm⟩:=aw
  exact qm m r (by have:=(U5.1 hm).1;omega) hm⟩)).symm,hN.aE⟩
theorem mU (nn:Int) (n:Int) (gn gi:Nat) (gt:Nat) (gv fv ov iv cD cE:Value) (g:List Int) (lv:Value) (hs:List Hd) (ls:List (List Int)) (w:World) (Nh:fV w gn [.int .i64 n] 3) (KN:fV w gi [.func (.func 162) #[] #[.pointer (some ⟨gn,0,none⟩)]] 228) (AA:fV w gt [gv,fv,ov,iv,cD,cE] 32) (hg:Sl vI w gv g) (hR:sY g) (pS:g.length≤16777216) (hl:Sl vh w lv hs) (ef:ep none_ vI w hs ls):al UY 167 #[lv,.int .i64 nn,.func (.func 160) #[] #[],.func (.func 166) #[] #[.pointer (some ⟨gi,0,none⟩),.pointer (some ⟨gt,0,none⟩)]] w fun r w'=>r=.bool (decide (fp (fun x=>x) (fun x=>(0≤x∧x<n)∧x∉g) nn ls))∧Ext w w':=by
 refine al.start Ys rfl (US rfl) ?_
 rw[p7]
 have hN:=ak.nil w none_
 have Ct:=ef.1
 refine RW.seq (RW.region (RL.ev (v:=.bool false) rfl rfl aa (RL.nil (ag ?_))))
 iterate 2 refine RW.seq ?_
 refine RW.region (RL.ev (v:=lv) rfl rfl U ?_)
 have iF:=(hl.o.now hN).aY
 refine RL.ev rfl rfl (aQ U7 (hl.o.now hN) rfl) (RL.ev (v:=.int .i64 (nn)) rfl rfl U (RL.ev rfl rfl (bp rfl rfl) (RL.nil (ag ?_))))
 refine RW.aN _ rfl (fun hlen=>?_) (fun hlen=>?_)
 refine RW.seq (RW.region (RL.ev (v:=.bool false) rfl rfl aa (RL.nil (ag (RW.ret (aD (aL (RV.tmp rfl) ?_)))))))
 exact⟨congrArg Vd (decide_eq_false (fun h:fp (fun x=>x) (fun x=>(0≤x∧x<n)∧x∉g) nn ls=>by
  have h1:=h.1
  first
  |omega
  |exact absurd ((h.2 lp jG).1 x (UZ hx)) (by assumption)
  |exact absurd (h.2 lp jG) (iW hx (by omega) hy (by assumption)))).symm,hN.aE⟩
 refine RW.skip (ag ?_)
 iterate 2 refine RW.seq ?_
 refine RW.region (RL.ev (v:=lv) rfl rfl U (RL.ev rfl rfl (aQ U7 (hl.o.now hN) rfl) (RL.ev (v:=.int .i64 (0)) rfl rfl U (RL.nil (ag (RW.block ?_))))))
 refine RW.loop (fun k R0 bT=>∃i:Nat,R0 2=.func (.func 160) #[] #[]∧R0 3=.func (.func 166) #[] #[.pointer (some ⟨gi,0,none⟩),.pointer (some ⟨gt,0,none⟩)]∧R0 17=lv∧R0 18=.int .i64 ((hs.length:Int))∧R0 19=.int .i64 ((i:Int))∧ak w none_ bT []∧(i+k=hs.length)∧(∀m r,m<i→ls[m]?=some r→sX (fun x=>x) (fun x=>(0≤x∧x<n)∧x∉g) r)) (hs.length) ?_ ?_
 exact⟨0,rfl,rfl,rfl,rfl,rfl,hN,by omega,fun m r hm=>absurd hm (by omega)⟩
 clear hN
 rintro k R0 bT ⟨i,bF,ca,ee,ed,eC,hN,eR,qm⟩
 have bY:∃b6,R0=(aZ (aZ (aZ (aZ (aZ b6 2 _) 3 _) 17 _) 18 _) 19 _):=⟨R0,by rw[ai bF,ai ca,ai ee,ai ed,ai eC]⟩
 obtain⟨b6,rfl⟩:=bY
 clear bF ca ee ed eC
 refine RW.seq (RW.region (RL.ev rfl rfl (aV rfl rfl) (RL.nil (ag (RW.seq ?_)))))
 refine RW.aN _ rfl (fun bW=>?_) (fun bW=>?_)
 refine RW.skip (ag (RW.seq (RW.block (RW.seq ?_))))
 have HH:=ef.1
 have aw:∃a_,hs[i]?=some a_:=⟨_,UT (by omega)⟩
 obtain⟨ap,bG⟩:=aw
 have aw:∃a_,ls[i]?=some a_:=⟨_,UT (by omega)⟩
 obtain⟨lp,dp⟩:=aw
 have jG:=UZ dp
 refine RW.region (RL.ev rfl rfl (aB U7 b7 (hl.o.now hN) rfl rfl (by omega) (by omega)) (RL.ev rfl rfl (aF (m:=i) (a:=ap) UW rfl (hl.o.now hN) rfl bG) (RL.ev (v:=(vh ap)) rfl rfl aa (RL.nil (ag (RW.seq (RW.region (RL.ev (v:=(vh ap)) rfl rfl U ?_))))))))
 have mQ:=((ef.fX bG dp).now hN).aY
 refine RL.ev rfl rfl (aQ UW ((ef.fX bG dp).now hN) rfl) (RL.ev (v:=.int .i64 (0)) rfl rfl U (RL.nil (ag (RW.block ?_))))
 refine RW.loop (fun k2 R1 fI=>∃q:Nat,R1 2=.func (.func 160) #[] #[]∧R1 3=.func (.func 166) #[] #[.pointer (some ⟨gi,0,none⟩),.pointer (some ⟨gt,0,none⟩)]∧R1 10=(vh ap)∧R1 17=lv∧R1 18=.int .i64 ((hs.length:Int))∧R1 19=.int .i64 ((i:Int))∧R1 23=(vh ap)∧R1 24=.int .i64 ((lp.length:Int))∧R1 25=.int .i64 ((q:Int))∧ak w none_ fI []∧(q+k2=lp.length)∧(sX (fun x=>x) (fun x=>(0≤x∧x<n)∧x∉g) (lp.take q))) (lp.length) ?_ ?_
 exact⟨0,rfl,rfl,rfl,rfl,rfl,rfl,rfl,rfl,rfl,hN,by omega,rI _ _⟩
 clear hN
 rintro k2 R1 fI ⟨q,bF,ca,cB,ee,ed,eC,gG,pO,eO,hN,J7,l9⟩
 have bY:∃gY,R1=(aZ (aZ (aZ (aZ (aZ (aZ (aZ (aZ (aZ gY 2 _) 3 _) 10 _) 17 _) 18 _) 19 _) 23 _) 24 _) 25 _):=⟨R1,by rw[ai bF,ai ca,ai cB,ai ee,ai ed,ai eC,ai gG,ai pO,ai eO]⟩
 obtain⟨gY,rfl⟩:=bY
 clear bF ca cB ee ed eC gG pO eO
 refine RW.seq (RW.region (RL.ev rfl rfl (aV rfl rfl) (RL.nil (ag (RW.seq ?_)))))
 refine RW.aN _ rfl (fun eI=>?_) (fun eI=>?_)
 refine RW.skip (ag (RW.seq (RW.block (RW.seq ?_))))
 have aw:∃a_,lp[q]?=some a_:=⟨_,UT (by omega)⟩
 obtain⟨x,hx⟩:=aw
 obtain⟨y,hy⟩:∃y,lp[q-1]?=some y:=⟨_,UT (by omega)⟩
 refine RW.region (RL.ev (v:=.int .i64 ((q:Int))) rfl rfl U (RL.ev rfl rfl (aB UW bu ((ef.fX bG dp).now hN) rfl rfl (by omega) (by omega)) (RL.ev rfl rfl (aF (m:=q) (a:=x) UU rfl ((ef.fX bG dp).now hN) rfl hx) (RL.ev (v:=.int .i64 ((q:Int))) rfl rfl aa (RL.ev (v:=.int .i64 (x)) rfl rfl aa (RL.nil (ag (RW.seq ?_))))))))
 replace hN:=hN.ext (Ext.drew fI)
 refine RW.cb rfl (fun u=>ak w none_ u []) 21 [(0,0),(1,0),(2,1),(3,0),(4,0),(5,0),(6,0),(7,0),(8,0),(9,0),(11,0),(12,0),(13,0),(14,0),(15,0),(16,0),(10,1),(17,1),(18,0),(19,0),(20,0)] (by intro _ _ _ h;exact h) (by kernel_rfl) hN (RQ.ev (v:=.func (.func 166) #[] #[.pointer (some ⟨gi,0,none⟩),.pointer (some ⟨gt,0,none⟩)]) rfl rfl (fun w hS=>U) (RQ.ev (v:=.int .i64 (x)) rfl rfl (fun w hS=>U) ?_))
 refine RQ.do rfl rfl (bB (first:=#[]) (captured:=#[.pointer (some ⟨gi,0,none⟩),.pointer (some ⟨gt,0,none⟩)]) (v0:=.int .i64 (x)) (args:=#[.int .i64 (x),.pointer (some ⟨gi,0,none⟩),.pointer (some ⟨gt,0,none⟩)]) ab3 rfl rfl (by simp) rfl rfl ((zA n gn gi gt _ _ _ _ _ _ g (x) _ (Nh.ext hN.aE) (KN.ext hN.aE) (AA.ext hN.aE) (hg.o.now hN) hR pS).mono ?_))
 rintro _ w5 ⟨rfl,aW⟩
 replace hN:=hN.ext aW
 clear aW
 refine⟨hN,?_⟩
 refine RQ.ev rfl rfl (fun w hS=>(cM rfl)) (RQ.ev (v:=.bool (decide (¬((0≤x∧x<n)∧x∉g)))) rfl rfl (fun w hS=>U) ?_)
 by_cases pU:¬((0≤x∧x<n)∧x∉g)
 rw[decide_eq_true pU]
 iterate 3 refine RQ.off rfl rfl rfl rfl ?_
 iterate 11 refine RQ.kK rfl rfl rfl rfl ?_
 refine RQ.off rfl rfl rfl rfl (RQ.ev (v:=.bool true) rfl rfl (fun w hS=>(ao rfl)) (RQ.done (by kernel_rfl) (ag (RW.bK rfl (RW.seq (RW.region (RL.ev (v:=.bool false) rfl rfl aa (RL.nil (ag ?_)))))))))
 refine RW.ret (aJ ?_)
 iterate 2 refine aD ?_
 iterate 2 refine aJ ?_
 iterate 2 refine aD ?_
 refine aJ (aD (aL (RV.tmp rfl) ?_))
 exact⟨congrArg Vd (decide_eq_false (fun h:fp (fun x=>x) (fun x=>(0≤x∧x<n)∧x∉g) nn ls=>by
  have h1:=h.1
  first
  |omega
  |exact absurd ((h.2 lp jG).1 x (UZ hx)) (by assumption)
  |exact absurd (h.2 lp jG) (iW hx (by omega) hy (by assumption)))).symm,hN.aE⟩
 rw[decide_eq_false pU]
 refine RQ.on (v:=.int .i64 ((q:Int))) rfl rfl rfl rfl (fun w hS=>U) (RQ.on rfl rfl rfl rfl (fun w hS=>(cN rfl rfl)) (RQ.on (v:=.bool (decide (0<(q:Int)))) rfl rfl rfl rfl (fun w hS=>U) ?_))
 by_cases pT:0<(q:Int)
 rw[decide_eq_true pT]
 refine RQ.on (v:=.func (.func 160) #[] #[]) rfl rfl rfl rfl (fun w hS=>U) (RQ.on (v:=.int .i64 (x)) rfl rfl rfl rfl (fun w hS=>U) (RQ.on (v:=.func (.func 160) #[] #[]) rfl rfl rfl rfl (fun w hS=>U) (RQ.on (v:=(vh ap)) rfl rfl rfl rfl (fun w hS=>U) (RQ.on (v:=.int .i64 ((q:Int))) rfl rfl rfl rfl (fun w hS=>U) (RQ.on rfl rfl rfl rfl (fun w hS=>(an rfl rfl rfl (kc (by omega) (by omega)))) (RQ.on rfl rfl rfl rfl (fun w hS=>(aB UW bu ((ef.fX bG dp).now hS) rfl rfl (by omega) (by omega))) (RQ.on rfl rfl rfl rfl (fun w hS=>(aF (m:=((q:Int)-1).toNat) (a:=y) UU rfl ((ef.fX bG dp).now hS) rfl (by rw[show((q:Int)-1).toNat=q-1 by omega];exact hy))) ?_)))))))
 refine RQ.qz rfl rfl rfl rfl (bB (first:=#[]) (captured:=#[]) (v0:=.int .i64 (x)) (args:=#[.int .i64 (x)]) Yr rfl rfl (by simp) rfl rfl ((kG (x) _).mono ?_))
 rintro _ w7 ⟨rfl,aW⟩
 replace hN:=hN.ext aW
 clear aW
 refine⟨hN,?_⟩
 refine RQ.qz rfl rfl rfl rfl (bB (first:=#[]) (captured:=#[]) (v0:=.int .i64 (y)) (args:=#[.int .i64 (y)]) Yr rfl rfl (by simp) rfl rfl ((kG (y) _).mono ?_))
 rintro _ w8 ⟨rfl,aW⟩
 replace hN:=hN.ext aW
 clear aW
 refine⟨hN,?_⟩
 refine RQ.on rfl rfl rfl rfl (fun w hS=>(nF rfl rfl)) (RQ.on (v:=.bool (decide (x≤y))) rfl rfl rfl rfl (fun w hS=>(ao rfl)) (RQ.ev (v:=.bool (decide (x≤y))) rfl rfl (fun w hS=>(aH rfl)) (RQ.done (by kernel_rfl) (ag ?_))))
 refine RW.aN _ rfl (fun eQ=>?_) (fun eQ=>?_)
 refine RW.seq (RW.region (RL.ev (v:=.bool false) rfl rfl aa (RL.nil (ag (RW.ret (aJ ?_))))))
 iterate 2 refine aD ?_
 iterate 2 refine aJ ?_
 iterate 2 refine aD ?_
 refine aJ (aD (aL (RV.tmp rfl) ?_))
 exact⟨congrArg Vd (decide_eq_false (fun h:fp (fun x=>x) (fun x=>(0≤x∧x<n)∧x∉g) nn ls=>by
  have h1:=h.1
  first
  |omega
  |exact absurd ((h.2 lp jG).1 x (UZ hx)) (by assumption)
  |exact absurd (h.2 lp jG) (iW hx (by omega) hy (by assumption)))).symm,hN.aE⟩
 refine RW.skip (a7 (ag (RW.region (RL.ev rfl rfl (an rfl rfl rfl (bc (by omega) (by omega))) (RL.ev (v:=.int .i64 ((q:Int)+1)) rfl rfl U (RL.nil (ag ?_)))))))
 exact⟨k2-1,by omega,q+1,rfl,rfl,rfl,rfl,rfl,rfl,rfl,rfl,rfl,hN,by omega,jf l9 hx (Vi.1 (by assumption)) (fun z h0 hz=>by
   rw[hy]at hz;cases hz;omega)⟩
 rw[decide_eq_false pT]
 iterate 11 refine RQ.off rfl rfl rfl rfl ?_
 refine RQ.on (v:=.bool false) rfl rfl rfl rfl (fun w hS=>(aH rfl)) (RQ.ev (v:=.bool false) rfl rfl (fun w hS=>(aH rfl)) (RQ.done (by kernel_rfl) (ag (RW.dD rfl (RW.skip (a7 (ag (RW.region (RL.ev rfl rfl (an rfl rfl rfl (bc (by omega) (by omega))) ?_)))))))))
 refine RL.ev (v:=.int .i64 ((q:Int)+1)) rfl rfl U (RL.nil (ag ?_))
 exact⟨k2-1,by omega,q+1,rfl,rfl,rfl,rfl,rfl,rfl,rfl,rfl,rfl,hN,by omega,jf l9 hx (Vi.1 (by assumption)) (fun z h0 hz=>by
   rw[hy]at hz;cases hz;omega)⟩
 refine RW.exit ?_
 iterate 2 refine bm ?_
 refine aO (a7 (ag ?_))
 rw[show q=lp.length by omega,Vz]at l9
 refine RW.region (RL.ev rfl rfl (an rfl rfl rfl (bc (by omega) (by omega))) (RL.ev (v:=.int .i64 ((i:Int)+1)) rfl rfl U (RL.nil (ag ?_))))
 exact⟨k-1,by omega,i+1,rfl,rfl,rfl,rfl,rfl,hN,by omega,fun m r hm hr=>(VH m i).elim (fun e=>qm m r e hr) (fun e=>have e2:m=i:=(by omega);have e3:r=lp:=Vq (hr.symm.trans (e2▸dp));e3▸l9)⟩
 refine RW.exit ?_
 iterate 2 refine bm ?_
 refine aO (ag (RW.seq (RW.region (RL.ev (v:=.bool true) rfl rfl aa (RL.nil (ag (RW.ret (aL (RV.tmp rfl) ?_))))))))
 exact⟨congrArg Vd (decide_eq_true (show fp (fun x=>x) (fun x=>(0≤x∧x<n)∧x∉g) nn ls from⟨by omega,fun r hr=>by
  have aw:=VK hr
  obtain⟨m,hm⟩:=aw
  exact qm m r (by have:=(U5.1 hm).1;omega) hm⟩)).symm,hN.aE⟩
theorem kf (nn:Int) (gt:Nat) (gv fv ov iv cD cE:Value) (g:List Int) (lv:Value) (hs:List Hd) (ls:List (List I2)) (w:World) (AA:fV w gt [gv,fv,ov,iv,cD,cE] 32) (hg:Sl vI w gv g) (hR:sY g) (pS:g.length≤16777216) (hl:Sl vh w lv hs) (ef:dM none_ bk w hs ls):al UY 169 #[lv,.int .i64 nn,.func (.func 161) #[] #[],.func (.func 163) #[] #[.pointer (some ⟨gt,0,none⟩)]] w fun r w'=>r=.bool (decide (fp (fun x:I2=>x.1) (fun x:I2=>x.1∈g∧cG 0 x.2) nn ls))∧Ext w w':=by
 refine al.start aas rfl (US rfl) ?_
 rw[p7]
 have hN:=ak.nil w none_
 have Ct:=ef.1
 refine RW.seq (RW.region (RL.ev (v:=.bool false) rfl rfl aa (RL.nil (ag ?_))))
 iterate 2 refine RW.seq ?_
 refine RW.region (RL.ev (v:=lv) rfl rfl U ?_)
 have iF:=(hl.o.now hN).aY
 refine RL.ev rfl rfl (aQ Vr (hl.o.now hN) rfl) (RL.ev (v:=.int .i64 (nn)) rfl rfl U (RL.ev rfl rfl (bp rfl rfl) (RL.nil (ag ?_))))
 refine RW.aN _ rfl (fun hlen=>?_) (fun hlen=>?_)
 refine RW.seq (RW.region (RL.ev (v:=.bool false) rfl rfl aa (RL.nil (ag (RW.ret (aD (aL (RV.tmp rfl) ?_)))))))
 exact⟨congrArg Vd (decide_eq_false (fun h:fp (fun x:I2=>x.1) (fun x:I2=>x.1∈g∧cG 0 x.2) nn ls=>by
  have h1:=h.1
  first
  |omega
  |exact absurd ((h.2 lp jG).1 x (UZ hx)) (by assumption)
  |exact absurd (h.2 lp jG) (iW hx (by omega) hy (by assumption)))).symm,hN.aE⟩
 refine RW.skip (ag ?_)
 iterate 2 refine RW.seq ?_
 refine RW.region (RL.ev (v:=lv) rfl rfl U (RL.ev rfl rfl (aQ Vr (hl.o.now hN) rfl) (RL.ev (v:=.int .i64 (0)) rfl rfl U (RL.nil (ag (RW.block ?_))))))
 refine RW.loop (fun k R0 bT=>∃i:Nat,R0 2=.func (.func 161) #[] #[]∧R0 3=.func (.func 163) #[] #[.pointer (some ⟨gt,0,none⟩)]∧R0 17=lv∧R0 18=.int .i64 ((hs.length:Int))∧R0 19=.int .i64 ((i:Int))∧ak w none_ bT []∧(i+k=hs.length)∧(∀m r,m<i→ls[m]?=some r→sX (fun x:I2=>x.1) (fun x:I2=>x.1∈g∧cG 0 x.2) r)) (hs.length) ?_ ?_
 exact⟨0,rfl,rfl,rfl,rfl,rfl,hN,by omega,fun m r hm=>absurd hm (by omega)⟩
 clear hN
 rintro k R0 bT ⟨i,bF,ca,ee,ed,eC,hN,eR,qm⟩
 have bY:∃b6,R0=(aZ (aZ (aZ (aZ (aZ b6 2 _) 3 _) 17 _) 18 _) 19 _):=⟨R0,by rw[ai bF,ai ca,ai ee,ai ed,ai eC]⟩
 obtain⟨b6,rfl⟩:=bY
 clear bF ca ee ed eC
 refine RW.seq (RW.region (RL.ev rfl rfl (aV rfl rfl) (RL.nil (ag (RW.seq ?_)))))
 refine RW.aN _ rfl (fun bW=>?_) (fun bW=>?_)
 refine RW.skip (ag (RW.seq (RW.block (RW.seq ?_))))
 have HH:=ef.1
 have aw:∃a_,hs[i]?=some a_:=⟨_,UT (by omega)⟩
 obtain⟨ap,bG⟩:=aw
 have aw:∃a_,ls[i]?=some a_:=⟨_,UT (by omega)⟩
 obtain⟨lp,dp⟩:=aw
 have jG:=UZ dp
 refine RW.region (RL.ev rfl rfl (aB Vr jJ (hl.o.now hN) rfl rfl (by omega) (by omega)) (RL.ev rfl rfl (aF (m:=i) (a:=ap) Vy rfl (hl.o.now hN) rfl bG) (RL.ev (v:=(vh ap)) rfl rfl aa (RL.nil (ag (RW.seq (RW.region (RL.ev (v:=(vh ap)) rfl rfl U ?_))))))))
 have mQ:=((ef.fX bG dp).now hN).aY
 refine RL.ev rfl rfl (bQ Vy ((ef.fX bG dp).now hN) rfl) (RL.ev (v:=.int .i64 (0)) rfl rfl U (RL.nil (ag (RW.block ?_))))
 refine RW.loop (fun k2 R1 fI=>∃q:Nat,R1 2=.func (.func 161) #[] #[]∧R1 3=.func (.func 163) #[] #[.pointer (some ⟨gt,0,none⟩)]∧R1 10=(vh ap)∧R1 17=lv∧R1 18=.int .i64 ((hs.length:Int))∧R1 19=.int .i64 ((i:Int))∧R1 23=(vh ap)∧R1 24=.int .i64 ((lp.length:Int))∧R1 25=.int .i64 ((q:Int))∧ak w none_ fI []∧(q+k2=lp.length)∧(sX (fun x:I2=>x.1) (fun x:I2=>x.1∈g∧cG 0 x.2) (lp.take q))) (lp.length) ?_ ?_
 exact⟨0,rfl,rfl,rfl,rfl,rfl,rfl,rfl,rfl,rfl,hN,by omega,rI _ _⟩
 clear hN
 rintro k2 R1 fI ⟨q,bF,ca,cB,ee,ed,eC,gG,pO,eO,hN,J7,l9⟩
 have bY:∃gY,R1=(aZ (aZ (aZ (aZ (aZ (aZ (aZ (aZ (aZ gY 2 _) 3 _) 10 _) 17 _) 18 _) 19 _) 23 _) 24 _) 25 _):=⟨R1,by rw[ai bF,ai ca,ai cB,ai ee,ai ed,ai eC,ai gG,ai pO,ai eO]⟩
 obtain⟨gY,rfl⟩:=bY
 clear bF ca cB ee ed eC gG pO eO
 refine RW.seq (RW.region (RL.ev rfl rfl (aV rfl rfl) (RL.nil (ag (RW.seq ?_)))))
 refine RW.aN _ rfl (fun eI=>?_) (fun eI=>?_)
 refine RW.skip (ag (RW.seq (RW.block (RW.seq ?_))))
 have aw:∃a_,lp[q]?=some a_:=⟨_,UT (by omega)⟩
 obtain⟨x,hx⟩:=aw
 obtain⟨y,hy⟩:∃y,lp[q-1]?=some y:=⟨_,UT (by omega)⟩
 refine RW.region (RL.ev (v:=.int .i64 ((q:Int))) rfl rfl U (RL.ev rfl rfl (bn Vy eY bP (by decide) ((ef.fX bG dp).now hN) rfl rfl (by omega) (by omega)) (RL.ev rfl rfl (bU (m:=q) (a:=x) VE rfl eY bP (by decide) ((ef.fX bG dp).now hN) rfl hx (cs:=[.int .i64 (x.1),.int .i64 (x.2)]) rfl) ?_)))
 refine RL.op rfl rfl (aX (cs:=[.int .i64 (0),.int .i64 (0)]) my rfl hN ?_)
 clear hN
 intro g4 w4 (hN:ak w none_ w4 [_])
 refine RL.ev (v:=.int .i64 ((q:Int))) rfl rfl aa ?_
 refine RL.op rfl rfl (aC (vs:=[.int .i64 (x.1),.int .i64 (x.2)]) eY rfl rfl rfl (by intro u hu;simp only[U9,U2,or_false]at hu;rcases hu with rfl|rfl<;>first|rfl) hN 0 rfl rfl ?_)
 clear hN
 intro w5 (hN:ak w none_ w5 [_])
 refine RL.nil (ag (RW.seq ?_))
 replace hN:=hN.ext (Ext.drew w5)
 refine RW.cb rfl (fun u=>ak w none_ u [.aA g4 [.int .i64 (x.1),.int .i64 (x.2)] 135]) 21 [(0,0),(1,0),(2,1),(3,0),(4,0),(5,0),(6,0),(7,0),(8,0),(9,0),(11,0),(12,0),(13,0),(14,0),(15,0),(16,0),(10,1),(17,1),(18,0),(19,0),(20,0)] (by intro _ _ _ h;exact h) (by kernel_rfl) hN (RQ.ev (v:=.func (.func 163) #[] #[.pointer (some ⟨gt,0,none⟩)]) rfl rfl (fun w hS=>U) (RQ.ev rfl rfl (fun w hS=>(aG (cs:=[.int .i64 (x.1),.int .i64 (x.2)]) VE rfl eY rfl (hS.aA 0 rfl))) ?_))
 refine RQ.do rfl rfl (bB (first:=#[]) (captured:=#[.pointer (some ⟨gt,0,none⟩)]) (v0:=.agg #[.int .i64 (x.1),.int .i64 (x.2)]) (args:=#[.agg #[.int .i64 (x.1),.int .i64 (x.2)],.pointer (some ⟨gt,0,none⟩)]) ab2 rfl rfl (by simp) rfl rfl ((vD gt _ _ _ _ _ _ g (x.1,x.2) _ (AA.ext hN.aE) (hg.o.now hN) hR pS).mono ?_))
 rintro _ w6 ⟨rfl,aW⟩
 replace hN:=hN.ext aW
 clear aW
 refine⟨hN,?_⟩
 refine RQ.ev rfl rfl (fun w hS=>(cM rfl)) (RQ.ev (v:=.bool (decide (¬(x.1∈g∧cG 0 x.2)))) rfl rfl (fun w hS=>U) ?_)
 by_cases pU:¬(x.1∈g∧cG 0 x.2)
 rw[decide_eq_true pU]
 iterate 3 refine RQ.off rfl rfl rfl rfl ?_
 iterate 11 refine RQ.kK rfl rfl rfl rfl ?_
 refine RQ.off rfl rfl rfl rfl (RQ.ev (v:=.bool true) rfl rfl (fun w hS=>(ao rfl)) (RQ.done (by kernel_rfl) (ag (RW.bK rfl (RW.seq (RW.region (RL.ev (v:=.bool false) rfl rfl aa (RL.nil (ag ?_)))))))))
 refine RW.ret (aJ ?_)
 iterate 2 refine aD ?_
 iterate 2 refine aJ ?_
 iterate 2 refine aD ?_
 refine aJ (aD (aL (RV.tmp rfl) ?_))
 exact⟨congrArg Vd (decide_eq_false (fun h:fp (fun x:I2=>x.1) (fun x:I2=>x.1∈g∧cG 0 x.2) nn ls=>by
  have h1:=h.1
  first
  |omega
  |exact absurd ((h.2 lp jG).1 x (UZ hx)) (by assumption)
  |exact absurd (h.2 lp jG) (iW hx (by omega) hy (by assumption)))).symm,hN.aE⟩
 rw[decide_eq_false pU]
 refine RQ.on (v:=.int .i64 ((q:Int))) rfl rfl rfl rfl (fun w hS=>U) (RQ.on rfl rfl rfl rfl (fun w hS=>(cN rfl rfl)) (RQ.on (v:=.bool (decide (0<(q:Int)))) rfl rfl rfl rfl (fun w hS=>U) ?_))
 by_cases pT:0<(q:Int)
 rw[decide_eq_true pT]
 refine RQ.on (v:=.func (.func 161) #[] #[]) rfl rfl rfl rfl (fun w hS=>U) (RQ.on rfl rfl rfl rfl (fun w hS=>(aG (cs:=[.int .i64 (x.1),.int .i64 (x.2)]) VE rfl eY rfl (hS.aA 0 rfl))) (RQ.on (v:=.func (.func 161) #[] #[]) rfl rfl rfl rfl (fun w hS=>U) (RQ.on (v:=(vh ap)) rfl rfl rfl rfl (fun w hS=>U) (RQ.on (v:=.int .i64 ((q:Int))) rfl rfl rfl rfl (fun w hS=>U) (RQ.on rfl rfl rfl rfl (fun w hS=>(an rfl rfl rfl (kc (by omega) (by omega)))) (RQ.on rfl rfl rfl rfl (fun w hS=>(bn Vy eY bP (by decide) ((ef.fX bG dp).now hS) rfl rfl (by omega) (by omega))) (RQ.on rfl rfl rfl rfl (fun w hS=>(bU (m:=((q:Int)-1).toNat) (a:=y) VE rfl eY bP (by decide) ((ef.fX bG dp).now hS) rfl (by rw[show((q:Int)-1).toNat=q-1 by omega];exact hy) (cs:=[.int .i64 (y.1),.int .i64 (y.2)]) rfl)) ?_)))))))
 refine RQ.qz rfl rfl rfl rfl (bB (first:=#[]) (captured:=#[]) (v0:=.agg #[.int .i64 (x.1),.int .i64 (x.2)]) (args:=#[.agg #[.int .i64 (x.1),.int .i64 (x.2)]]) aap rfl rfl (by simp) rfl rfl ((uQ (x.1,x.2) _).mono ?_))
 rintro _ w7 ⟨rfl,aW⟩
 replace hN:=hN.ext aW
 clear aW
 refine⟨hN,?_⟩
 refine RQ.qz rfl rfl rfl rfl (bB (first:=#[]) (captured:=#[]) (v0:=.agg #[.int .i64 (y.1),.int .i64 (y.2)]) (args:=#[.agg #[.int .i64 (y.1),.int .i64 (y.2)]]) aap rfl rfl (by simp) rfl rfl ((uQ (y.1,y.2) _).mono ?_))
 rintro _ w8 ⟨rfl,aW⟩
 replace hN:=hN.ext aW
 clear aW
 refine⟨hN,?_⟩
 refine RQ.on rfl rfl rfl rfl (fun w hS=>(nF rfl rfl)) (RQ.on (v:=.bool (decide (x.1≤y.1))) rfl rfl rfl rfl (fun w hS=>(ao rfl)) (RQ.ev (v:=.bool (decide (x.1≤y.1))) rfl rfl (fun w hS=>(aH rfl)) (RQ.done (by kernel_rfl) (ag ?_))))
 refine RW.aN _ rfl (fun eQ=>?_) (fun eQ=>?_)
 refine RW.seq (RW.region (RL.ev (v:=.bool false) rfl rfl aa (RL.nil (ag (RW.ret (aJ ?_))))))
 iterate 2 refine aD ?_
 iterate 2 refine aJ ?_
 iterate 2 refine aD ?_
 refine aJ (aD (aL (RV.tmp rfl) ?_))
 exact⟨congrArg Vd (decide_eq_false (fun h:fp (fun x:I2=>x.1) (fun x:I2=>x.1∈g∧cG 0 x.2) nn ls=>by
  have h1:=h.1
  first
  |omega
  |exact absurd ((h.2 lp jG).1 x (UZ hx)) (by assumption)
  |exact absurd (h.2 lp jG) (iW hx (by omega) hy (by assumption)))).symm,hN.aE⟩
 refine RW.skip (a7 (ag (RW.region (RL.ev rfl rfl (an rfl rfl rfl (bc (by omega) (by omega))) (RL.ev (v:=.int .i64 ((q:Int)+1)) rfl rfl U (RL.nil (ag ?_)))))))
 exact⟨k2-1,by omega,q+1,rfl,rfl,rfl,rfl,rfl,rfl,rfl,rfl,rfl,(hN.sub [] (by decide) rfl),by omega,jf l9 hx (Vi.1 (by assumption)) (fun z h0 hz=>by
   rw[hy]at hz;cases hz;omega)⟩
 rw[decide_eq_false pT]
 iterate 11 refine RQ.off rfl rfl rfl rfl ?_
 refine RQ.on (v:=.bool false) rfl rfl rfl rfl (fun w hS=>(aH rfl)) (RQ.ev (v:=.bool false) rfl rfl (fun w hS=>(aH rfl)) (RQ.done (by kernel_rfl) (ag (RW.dD rfl (RW.skip (a7 (ag (RW.region (RL.ev rfl rfl (an rfl rfl rfl (bc (by omega) (by omega))) ?_)))))))))
 refine RL.ev (v:=.int .i64 ((q:Int)+1)) rfl rfl U (RL.nil (ag ?_))
 exact⟨k2-1,by omega,q+1,rfl,rfl,rfl,rfl,rfl,rfl,rfl,rfl,rfl,(hN.sub [] (by decide) rfl),by omega,jf l9 hx (Vi.1 (by assumption)) (fun z h0 hz=>by
   rw[hy]at hz;cases hz;omega)⟩
 refine RW.exit ?_
 iterate 2 refine bm ?_
 refine aO (a7 (ag ?_))
 rw[show q=lp.length by omega,Vz]at l9
 refine RW.region (RL.ev rfl rfl (an rfl rfl rfl (bc (by omega) (by omega))) (RL.ev (v:=.int .i64 ((i:Int)+1)) rfl rfl U (RL.nil (ag ?_))))
 exact⟨k-1,by omega,i+1,rfl,rfl,rfl,rfl,rfl,hN,by omega,fun m r hm hr=>(VH m i).elim (fun e=>qm m r e hr) (fun e=>have e2:m=i:=(by omega);have e3:r=lp:=Vq (hr.symm.trans (e2▸dp));e3▸l9)⟩
 refine RW.exit ?_
 iterate 2 refine bm ?_
 refine aO (ag (RW.seq (RW.region (RL.ev (v:=.bool true) rfl rfl aa (RL.nil (ag (RW.ret (aL (RV.tmp rfl) ?_))))))))
 exact⟨congrArg Vd (decide_eq_true (show fp (fun x:I2=>x.1) (fun x:I2=>x.1∈g∧cG 0 x.2) nn ls from⟨by omega,fun r hr=>by
  have aw:=VK hr
  obtain⟨m,hm⟩:=aw
  exact qm m r (by have:=(U5.1 hm).1;omega) hm⟩)).symm,hN.aE⟩
end Go.Proofs.YtngkdkbpgoddlaaGreat
namespace Go.Proofs.YtngkdkbpgoddlaaGreat
open Go.RowKit Go.Rl
open Go.Gr
theorem H3 {w:World} {h:Hd} {l:List Int} (hs:Sl vI w (vh h) l):ep none_ vI w [h] [l]:=by
  refine⟨rfl,fun i a b ha hb=>?_⟩
  match i,ha,hb with
  |0,ha,hb=>cases ha;cases hb;exact hs.o
  |_+1,ha,_=>cases ha
theorem BQ (n:Int) (w:World) (gh:Hd) (gl:List Int) (hg:Sl vI w (vh gh) gl) (fv:Value) (fh:List Hd) (fl:List (List Int)) (hf:Sl vh w fv fh) (nP:ep none_ vI w fh fl) (ov:Value) (oh:List Hd) (ol:List (List I2)) (ho:Sl vh w ov oh) (Dd:dM none_ bk w oh ol) (iv:Value) (ih:List Hd) (il:List (List I2)) (hi:Sl vh w iv ih) (su:dM none_ bk w ih il) (cD:Value) (qK:List Hd) (dL:List (List Int)) (gL:Sl vh w cD qK) (qj:ep none_ vI w qK dL) (cE:Value) (qL:List Hd) (dP:List (List Int)) (gF:Sl vh w cE qL) (qk:ep none_ vI w qL dP) (pS:gl.length≤16777216):al UY 107 #[.int .i64 n,.agg #[(vh gh),fv,ov,iv,cD,cE]] w fun r w'=>r=.int .i64 (cW n gl fl ol il dL dP)∧Ext w w':=by
 refine al.start ab7 rfl (US rfl) ?_
 rw[cc]
 have hN:=ak.nil w none_
 refine RW.seq (RW.region ?_)
 refine RL.op rfl rfl (bq (cs:=[.int .i64 (n)]) rfl rfl hN ?_)
 clear hN
 intro g1 w1 (hN:ak w none_ w1 [_])
 refine RL.op rfl rfl (bq (cs:=[(vh gh),fv,ov,iv,cD,cE]) rfl rfl hN ?_)
 clear hN
 intro g2 w2 (hN:ak w none_ w2 [_,_])
 refine RL.ev (v:=.int .i64 (0)) rfl rfl aa (RL.nil (ag (RW.seq (RW.region (RL.ev (v:=.func (.func 160) #[] #[]) rfl rfl aa (RL.nil (ag (RW.seq (RW.region ?_)))))))))
 refine RL.ev (v:=.func (.func 161) #[] #[]) rfl rfl aa (RL.nil (ag (RW.seq (RW.region (RL.ev rfl rfl (c8 (vs:=[.pointer (some ⟨g1,0,none⟩)]) (xs:=[.tmp 2]) rfl rfl) ?_)))))
 refine RL.op rfl rfl (aX (cs:=[.nilFunc]) GW rfl hN ?_)
 clear hN
 intro g3 w3 (hN:ak w none_ w3 [_,_,_])
 refine RL.op rfl rfl (b9 LM rfl rfl rfl rfl hN 0 rfl (US rfl) ?_)
 clear hN
 intro w4 (hN:ak w none_ w4 [_,_,_])
 refine RL.nil (ag (RW.seq (RW.region (RL.ev rfl rfl (c8 (vs:=[.pointer (some ⟨g2,0,none⟩)]) (xs:=[.tmp 3]) rfl rfl) (RL.ev (v:=.func (.func 163) #[] #[.pointer (some ⟨g2,0,none⟩)]) rfl rfl aa (RL.nil (ag (RW.seq (RW.region ?_)))))))))
 refine RL.ev rfl rfl (c8 (vs:=[.pointer (some ⟨g3,0,none⟩),.pointer (some ⟨g2,0,none⟩)]) (xs:=[.tmp 7,.tmp 3]) rfl rfl) (RL.ev (v:=.func (.func 166) #[] #[.pointer (some ⟨g3,0,none⟩),.pointer (some ⟨g2,0,none⟩)]) rfl rfl aa (RL.nil (ag (RW.seq (RW.block (RW.seq ?_))))))
 iterate 3 refine RW.block ?_
 refine RW.seq (RW.block ?_)
 iterate 3 refine RW.seq ?_
 refine RW.region (RL.ev rfl rfl (aj UU rfl rfl (hN.aA 2 rfl) rfl) (RL.ev rfl rfl (cN rfl rfl) (RL.ev (v:=.bool (decide (16777216<n))) rfl rfl aa (RL.nil (ag ?_)))))
 refine RW.aN _ rfl (fun ja=>?_) (fun ja=>?_)
 refine RW.exit ?_
 iterate 2 refine bm ?_
 refine aO (ag ?_)
 iterate 2 refine RW.seq ?_
 refine RW.region (RL.ev (v:=.int .i64 (3)) rfl rfl aa (RL.nil (ag (RW.ret (aD ?_)))))
 iterate 3 refine aJ ?_
 refine aD (aJ (aD (aL (RV.tmp rfl) ?_)))
 exact⟨congrArg (Vn .i64) (show cW n gl fl ol il dL dP=3 by
  unfold cW
  rw[if_pos (by omega)]).symm,hN.aE⟩
 refine RW.skip (ag ?_)
 iterate 3 refine RW.seq ?_
 refine RW.region (RL.ev rfl rfl (aj UU rfl rfl (hN.aA 2 rfl) rfl) (RL.ev rfl rfl (aV rfl rfl) (RL.ev (v:=.bool (decide (n<0))) rfl rfl aa (RL.nil (ag ?_)))))
 refine RW.aN _ rfl (fun nC=>?_) (fun nC=>?_)
 refine RW.skip (ag (RW.nI _ rfl nC (RW.exit ?_)))
 iterate 2 refine bm ?_
 refine dC (by decide) (bm (aO ?_))
 iterate 2 refine a7 ?_
 refine ag ?_
 iterate 2 refine RW.seq ?_
 refine RW.region (RL.ev (v:=.int .i64 (2)) rfl rfl aa (RL.nil (ag (RW.ret (aD (aJ (aD (aL (RV.tmp rfl) ?_))))))))
 exact⟨congrArg (Vn .i64) (show cW n gl fl ol il dL dP=2 by
  unfold cW
  rw[if_neg (by omega),if_neg (fun h=>by
  obtain⟨q1,q2,q3,q4,q5,q6,q7⟩:=h
  have q8:=fun x hx=>(q2.1 x hx).1
  first
  |omega
  |exact absurd (fu.2 q2) (by assumption)
  |exact absurd q3 (by assumption)
  |exact absurd ((de q8).2 q4) (by assumption)
  |exact absurd ((de q8).2 q5) (by assumption)
  |exact absurd (dR.2 q6) (by assumption)
  |exact absurd (dR.2 q7) (by assumption))]).symm,hN.aE⟩
 refine RW.seq (RW.region (RL.ev rfl rfl (ah Vh rfl b7 (by decide) rfl) (RL.ev rfl rfl (aj UW rfl rfl (hN.aA 1 rfl) rfl) ?_)))
 refine RL.op rfl rfl (bS (enc:=vh) (l:=[gh]) (xs:=[.tmp 20]) U7 b7 BJ rfl rfl (fun _=>rfl) rfl (by decide) (by decide) hN ?_)
 clear hN
 intro g5 w5 (hN:ak w none_ w5 [_,_,_,_])
 refine RL.ev (v:=.func (.func 160) #[] #[]) rfl rfl U (RL.ev rfl rfl (aj aar rfl rfl (hN.aA 1 rfl) rfl) ?_)
 refine RL.op rfl rfl (eZ Ys rfl rfl rfl rfl rfl rfl ((vJ (1) n g1 _ [gh] [gl] _ (hN.aA 3 rfl) (hN.sl 0 rfl) (H3 (hg.o.now hN))).mono ?_))
 rintro _ w6 ⟨rfl,aW⟩
 replace hN:=hN.ext aW
 clear aW
 refine RL.ev rfl rfl (cM rfl) (RL.ev (v:=.bool (decide (¬(fp (fun x=>x) (fun x=>0≤x∧x<n) (1) [gl])))) rfl rfl aa (RL.nil (ag ?_)))
 refine RW.aN _ rfl (fun nC=>?_) (fun nC=>?_)
 refine RW.skip (ag (RW.nI _ rfl nC (RW.exit ?_)))
 iterate 2 refine bm ?_
 refine dC (by decide) (bm (aO ?_))
 iterate 2 refine a7 ?_
 refine ag ?_
 iterate 2 refine RW.seq ?_
 refine RW.region (RL.ev (v:=.int .i64 (2)) rfl rfl aa (RL.nil (ag (RW.ret (aD (aJ (aD (aL (RV.tmp rfl) ?_))))))))
 exact⟨congrArg (Vn .i64) (show cW n gl fl ol il dL dP=2 by
  unfold cW
  rw[if_neg (by omega),if_neg (fun h=>by
  obtain⟨q1,q2,q3,q4,q5,q6,q7⟩:=h
  have q8:=fun x hx=>(q2.1 x hx).1
  first
  |omega
  |exact absurd (fu.2 q2) (by assumption)
  |exact absurd q3 (by assumption)
  |exact absurd ((de q8).2 q4) (by assumption)
  |exact absurd ((de q8).2 q5) (by assumption)
  |exact absurd (dR.2 q6) (by assumption)
  |exact absurd (dR.2 q7) (by assumption))]).symm,hN.aE⟩
 refine RW.region (RL.ev rfl rfl (aG (cs:=[(vh gh),fv,ov,iv,cD,cE]) Vh rfl ga rfl (hN.aA 2 rfl)) ?_)
 refine RL.op rfl rfl (aM ab6 rfl rfl rfl ((zB _ _ _ _ _ _ _ gl fh fl (hg.o.now hN) (hf.o.now hN) (nP.gR hN)).mono ?_))
 rintro _ w7 ⟨rfl,aW⟩
 replace hN:=hN.ext aW
 clear aW
 refine RL.ev rfl rfl (cM rfl) (RL.ev (v:=.bool (decide (¬(oK gl fl)))) rfl rfl aa (RL.nil (ag ?_)))
 refine RW.aN _ rfl (fun nC=>?_) (fun nC=>?_)
 refine RW.exit ?_
 iterate 2 refine bm ?_
 refine dC (by decide) (bm (aO ?_))
 iterate 2 refine a7 ?_
 refine ag ?_
 iterate 2 refine RW.seq ?_
 refine RW.region (RL.ev (v:=.int .i64 (2)) rfl rfl aa (RL.nil (ag (RW.ret (aD (aJ (aD (aL (RV.tmp rfl) ?_))))))))
 exact⟨congrArg (Vn .i64) (show cW n gl fl ol il dL dP=2 by
  unfold cW
  rw[if_neg (by omega),if_neg (fun h=>by
  obtain⟨q1,q2,q3,q4,q5,q6,q7⟩:=h
  have q8:=fun x hx=>(q2.1 x hx).1
  first
  |omega
  |exact absurd (fu.2 q2) (by assumption)
  |exact absurd q3 (by assumption)
  |exact absurd ((de q8).2 q4) (by assumption)
  |exact absurd ((de q8).2 q5) (by assumption)
  |exact absurd (dR.2 q6) (by assumption)
  |exact absurd (dR.2 q7) (by assumption))]).symm,hN.aE⟩
 refine RW.skip (ag ?_)
 iterate 3 refine RW.seq ?_
 have EI:iJ n (pH gl 2) gl:=fu.1 (Vi.1 (by assumption))
 have hR:sY gl:=EI.2
 have RM:=fun x hx=>(EI.1 x hx).1
 refine RW.region (RL.ev rfl rfl (ah Vh rfl kD (by decide) rfl) (RL.ev rfl rfl (aj Vr rfl rfl (hN.aA 2 rfl) rfl) (RL.ev rfl rfl (aj UU rfl rfl (hN.aA 3 rfl) rfl) (RL.ev (v:=.func (.func 161) #[] #[]) rfl rfl U (RL.ev (v:=.func (.func 163) #[] #[.pointer (some ⟨g2,0,none⟩)]) rfl rfl U ?_)))))
 refine RL.op rfl rfl (eZ aas rfl rfl rfl rfl rfl rfl ((kf (n) g2 _ _ _ _ _ _ gl _ oh ol _ (hN.aA 2 rfl) (hg.o.now hN) hR pS (ho.o.now hN) (Dd.ext hN.aE)).mono ?_))
 rintro _ w8 ⟨rfl,aW⟩
 replace hN:=hN.ext aW
 clear aW
 refine RL.ev rfl rfl (cM rfl) (RL.ev (v:=.bool (decide (¬(fp (fun x:I2=>x.1) (fun x=>x.1∈gl∧cG 0 x.2) (n) ol)))) rfl rfl aa (RL.nil (ag ?_)))
 refine RW.aN _ rfl (fun HP=>?_) (fun HP=>?_)
 refine RW.skip (ag (RW.nI _ rfl HP (RW.exit ?_)))
 iterate 2 refine bm ?_
 refine dC (by decide) (bm (dC (by decide) (aO (a7 (ag ?_)))))
 iterate 2 refine RW.seq ?_
 refine RW.region (RL.ev (v:=.int .i64 (2)) rfl rfl aa (RL.nil (ag (RW.ret (aD (aJ (aD (aL (RV.tmp rfl) ?_))))))))
 exact⟨congrArg (Vn .i64) (show cW n gl fl ol il dL dP=2 by
  unfold cW
  rw[if_neg (by omega),if_neg (fun h=>by
  obtain⟨q1,q2,q3,q4,q5,q6,q7⟩:=h
  have q8:=fun x hx=>(q2.1 x hx).1
  first
  |omega
  |exact absurd (fu.2 q2) (by assumption)
  |exact absurd q3 (by assumption)
  |exact absurd ((de q8).2 q4) (by assumption)
  |exact absurd ((de q8).2 q5) (by assumption)
  |exact absurd (dR.2 q6) (by assumption)
  |exact absurd (dR.2 q7) (by assumption))]).symm,hN.aE⟩
 refine RW.region (RL.ev rfl rfl (ah Vh rfl kD (by decide) rfl) (RL.ev rfl rfl (aj Vr rfl rfl (hN.aA 2 rfl) rfl) (RL.ev rfl rfl (aj UU rfl rfl (hN.aA 3 rfl) rfl) (RL.ev (v:=.func (.func 161) #[] #[]) rfl rfl U (RL.ev (v:=.func (.func 163) #[] #[.pointer (some ⟨g2,0,none⟩)]) rfl rfl U ?_)))))
 refine RL.op rfl rfl (eZ aas rfl rfl rfl rfl rfl rfl ((kf (n) g2 _ _ _ _ _ _ gl _ ih il _ (hN.aA 2 rfl) (hg.o.now hN) hR pS (hi.o.now hN) (su.ext hN.aE)).mono ?_))
 rintro _ w9 ⟨rfl,aW⟩
 replace hN:=hN.ext aW
 clear aW
 refine RL.ev rfl rfl (cM rfl) (RL.ev (v:=.bool (decide (¬(fp (fun x:I2=>x.1) (fun x=>x.1∈gl∧cG 0 x.2) (n) il)))) rfl rfl aa (RL.nil (ag ?_)))
 refine RW.aN _ rfl (fun HP=>?_) (fun HP=>?_)
 refine RW.exit ?_
 iterate 2 refine bm ?_
 refine dC (by decide) (bm (dC (by decide) (aO (a7 (ag ?_)))))
 iterate 2 refine RW.seq ?_
 refine RW.region (RL.ev (v:=.int .i64 (2)) rfl rfl aa (RL.nil (ag (RW.ret (aD (aJ (aD (aL (RV.tmp rfl) ?_))))))))
 exact⟨congrArg (Vn .i64) (show cW n gl fl ol il dL dP=2 by
  unfold cW
  rw[if_neg (by omega),if_neg (fun h=>by
  obtain⟨q1,q2,q3,q4,q5,q6,q7⟩:=h
  have q8:=fun x hx=>(q2.1 x hx).1
  first
  |omega
  |exact absurd (fu.2 q2) (by assumption)
  |exact absurd q3 (by assumption)
  |exact absurd ((de q8).2 q4) (by assumption)
  |exact absurd ((de q8).2 q5) (by assumption)
  |exact absurd (dR.2 q6) (by assumption)
  |exact absurd (dR.2 q7) (by assumption))]).symm,hN.aE⟩
 refine RW.skip (ag ?_)
 iterate 2 refine RW.seq ?_
 refine RW.region (RL.ev rfl rfl (ah Vh rfl gK (by decide) rfl) (RL.ev rfl rfl (aj U7 rfl rfl (hN.aA 2 rfl) rfl) (RL.ev rfl rfl (aj UU rfl rfl (hN.aA 3 rfl) rfl) (RL.ev (v:=.func (.func 160) #[] #[]) rfl rfl U (RL.ev (v:=.func (.func 166) #[] #[.pointer (some ⟨g3,0,none⟩),.pointer (some ⟨g2,0,none⟩)]) rfl rfl U ?_)))))
 refine RL.op rfl rfl (eZ Ys rfl rfl rfl rfl rfl rfl ((mU (n) n g1 g3 g2 _ _ _ _ _ _ gl _ qK dL _ (hN.aA 3 rfl) (hN.aA 1 rfl) (hN.aA 2 rfl) (hg.o.now hN) hR pS (gL.o.now hN) (qj.gR hN)).mono ?_))
 rintro _ jH ⟨rfl,aW⟩
 replace hN:=hN.ext aW
 clear aW
 refine RL.ev rfl rfl (cM rfl) (RL.ev (v:=.bool (decide (¬(fp (fun x=>x) (fun x=>(0≤x∧x<n)∧x∉gl) (n) dL)))) rfl rfl aa (RL.nil (ag ?_)))
 refine RW.aN _ rfl (fun HN=>?_) (fun HN=>?_)
 refine RW.skip (ag (RW.nI _ rfl HN (RW.exit (bm (dC (by decide) (bm ?_))))))
 iterate 2 refine dC (by decide) ?_
 refine aO (ag ?_)
 iterate 2 refine RW.seq ?_
 refine RW.region (RL.ev (v:=.int .i64 (2)) rfl rfl aa (RL.nil (ag (RW.ret (aD (aJ (aD (aL (RV.tmp rfl) ?_))))))))
 exact⟨congrArg (Vn .i64) (show cW n gl fl ol il dL dP=2 by
  unfold cW
  rw[if_neg (by omega),if_neg (fun h=>by
  obtain⟨q1,q2,q3,q4,q5,q6,q7⟩:=h
  have q8:=fun x hx=>(q2.1 x hx).1
  first
  |omega
  |exact absurd (fu.2 q2) (by assumption)
  |exact absurd q3 (by assumption)
  |exact absurd ((de q8).2 q4) (by assumption)
  |exact absurd ((de q8).2 q5) (by assumption)
  |exact absurd (dR.2 q6) (by assumption)
  |exact absurd (dR.2 q7) (by assumption))]).symm,hN.aE⟩
 refine RW.region (RL.ev rfl rfl (ah Vh rfl gK (by decide) rfl) (RL.ev rfl rfl (aj U7 rfl rfl (hN.aA 2 rfl) rfl) (RL.ev rfl rfl (aj UU rfl rfl (hN.aA 3 rfl) rfl) (RL.ev (v:=.func (.func 160) #[] #[]) rfl rfl U (RL.ev (v:=.func (.func 166) #[] #[.pointer (some ⟨g3,0,none⟩),.pointer (some ⟨g2,0,none⟩)]) rfl rfl U ?_)))))
 refine RL.op rfl rfl (eZ Ys rfl rfl rfl rfl rfl rfl ((mU (n) n g1 g3 g2 _ _ _ _ _ _ gl _ qL dP _ (hN.aA 3 rfl) (hN.aA 1 rfl) (hN.aA 2 rfl) (hg.o.now hN) hR pS (gF.o.now hN) (qk.gR hN)).mono ?_))
 rintro _ jj ⟨rfl,aW⟩
 replace hN:=hN.ext aW
 clear aW
 refine RL.ev rfl rfl (cM rfl) (RL.ev (v:=.bool (decide (¬(fp (fun x=>x) (fun x=>(0≤x∧x<n)∧x∉gl) (n) dP)))) rfl rfl aa (RL.nil (ag ?_)))
 refine RW.aN _ rfl (fun HN=>?_) (fun HN=>?_)
 refine RW.exit (bm (dC (by decide) (bm ?_)))
 iterate 2 refine dC (by decide) ?_
 refine aO (ag ?_)
 iterate 2 refine RW.seq ?_
 refine RW.region (RL.ev (v:=.int .i64 (2)) rfl rfl aa (RL.nil (ag (RW.ret (aD (aJ (aD (aL (RV.tmp rfl) ?_))))))))
 exact⟨congrArg (Vn .i64) (show cW n gl fl ol il dL dP=2 by
  unfold cW
  rw[if_neg (by omega),if_neg (fun h=>by
  obtain⟨q1,q2,q3,q4,q5,q6,q7⟩:=h
  have q8:=fun x hx=>(q2.1 x hx).1
  first
  |omega
  |exact absurd (fu.2 q2) (by assumption)
  |exact absurd q3 (by assumption)
  |exact absurd ((de q8).2 q4) (by assumption)
  |exact absurd ((de q8).2 q5) (by assumption)
  |exact absurd (dR.2 q6) (by assumption)
  |exact absurd (dR.2 q7) (by assumption))]).symm,hN.aE⟩
 refine RW.skip (ag (RW.exit (dC (by decide) (bm ?_))))
 iterate 3 refine dC (by decide) ?_
 refine bm (aO (ag (RW.seq (RW.region (RL.ev (v:=.int .i64 (0)) rfl rfl aa (RL.nil (ag (RW.ret (aL (RV.tmp rfl) ?_)))))))))
 exact⟨congrArg (Vn .i64) (show cW n gl fl ol il dL dP=0 by
  unfold cW
  rw[if_neg (by omega),if_pos ⟨by omega,EI,Vi.1 (by assumption),(de RM).1 (Vi.1 (by assumption)),(de RM).1 (Vi.1 (by assumption)),dR.1 (Vi.1 (by assumption)),dR.1 (Vi.1 (by assumption))⟩]).symm,hN.aE⟩
theorem vE (n:Int) (w:World) (gv:Value) (gl:List Int) (hg:Sl vI w gv gl) (fv:Value) (fh:List Hd) (fl:List (List Int)) (hf:Sl vh w fv fh) (nP:ep none_ vI w fh fl) (ov:Value) (oh:List Hd) (ol:List (List I2)) (ho:Sl vh w ov oh) (Dd:dM none_ bk w oh ol) (iv:Value) (ih:List Hd) (il:List (List I2)) (hi:Sl vh w iv ih) (su:dM none_ bk w ih il) (cD:Value) (qK:List Hd) (dL:List (List Int)) (gL:Sl vh w cD qK) (qj:ep none_ vI w qK dL) (cE:Value) (qL:List Hd) (dP:List (List Int)) (gF:Sl vh w cE qL) (qk:ep none_ vI w qL dP) (pS:gl.length≤16777216):al UY 107 #[.int .i64 n,.agg #[gv,fv,ov,iv,cD,cE]] w fun r w'=>r=.int .i64 (cW n gl fl ol il dL dP)∧Ext w w':=by
  obtain⟨gh,rfl⟩:=hg.hd
  exact BQ n w gh gl hg fv fh fl hf nP ov oh ol ho Dd iv ih il hi su cD qK dL gL qj cE qL dP gF qk pS
end Go.Proofs.YtngkdkbpgoddlaaGreat
namespace Go.Proofs.YtngkdkbpgoddlaaGreat
open Go.RowKit Go.Rl
open Go.Gr
theorem kU (rv wv:Value) (rk:List Int) (ws:List I5) (w:World) (hr:Sl vI w rv rk) (hw:Sm bC w wv ws) (u v:Int):al UY 171 #[.agg #[rv,wv],.int .i64 u,.int .i64 v] w fun r w'=>r=.int .i64 (j7 (fH u v) ws)∧Ext w w':=by
 refine al.start Xr rfl (US rfl) ?_
 rw[jB]
 have hN:=ak.nil w none_
 refine RW.seq (RW.region ?_)
 refine RL.op rfl rfl (bq (cs:=[rv,wv]) rfl rfl hN ?_)
 clear hN
 intro g1 w1 (hN:ak w none_ w1 [_])
 refine RL.ev (v:=.int .i64 (0)) rfl rfl aa (RL.nil (ag ?_))
 iterate 2 refine RW.seq ?_
 refine RW.region (RL.ev (v:=.int .i64 (0)) rfl rfl aa (RL.nil (ag (RW.block ?_))))
 refine RW.loop (fun k R0 bT=>∃i:Nat,R0 1=.int .i64 (u)∧R0 2=.int .i64 (v)∧R0 3=.pointer (some ⟨g1,0,none⟩)∧R0 7=.int .i64 ((i:Int))∧ak w none_ bT [.aA g1 [rv,wv] 28]∧(i+k=ws.length)∧(∀y∈ws.take i,¬(fH u v) y)) (ws.length) ?_ ?_
 exact⟨0,rfl,rfl,rfl,rfl,hN,by omega,fun x hx=>by cases hx⟩
 clear hN
 rintro k R0 bT ⟨i,bw,bF,ca,cd,hN,eR,eQ⟩
 have bY:∃b6,R0=(aZ (aZ (aZ (aZ b6 1 _) 2 _) 3 _) 7 _):=⟨R0,by rw[ai bw,ai bF,ai ca,ai cd]⟩
 obtain⟨b6,rfl⟩:=bY
 clear bw bF ca cd
 iterate 2 refine RW.seq ?_
 refine RW.region (RL.ev (v:=.int .i64 ((i:Int))) rfl rfl U (RL.ev rfl rfl (ah Vb rfl fJ (by decide) rfl) (RL.ev rfl rfl (aj Vg rfl rfl (hN.aA 0 rfl) rfl) ?_)))
 have jb:=(hw.o.now hN).aY
 refine RL.ev rfl rfl (bQ Vg (hw.o.now hN) rfl) (RL.ev rfl rfl (aV rfl rfl) (RL.nil (ag ?_)))
 refine RW.aN _ rfl (fun bW=>?_) (fun bW=>?_)
 refine RW.skip (ag (RW.seq (RW.block (RW.seq (RW.region (RL.ev rfl rfl (ah Vb rfl fJ (by decide) rfl) (RL.ev rfl rfl (aj Vg rfl rfl (hN.aA 0 rfl) rfl) (RL.ev (v:=.int .i64 ((i:Int))) rfl rfl U (RL.ev rfl rfl (bn Vg dj bb (by decide) (hw.o.now hN) rfl rfl (by omega) (by omega)) ?_)))))))))
 have aw:∃a_,(ws)[i]?=some a_:=⟨_,UT (by omega)⟩
 obtain⟨ap,bG⟩:=aw
 refine RL.ev rfl rfl (cH (m:=i) (b:=0) U0 rfl bu (by decide) bb (hw.o.now hN) bG rfl rfl) (RL.ev rfl rfl (c9 (m:=i) (j:=0) (a:=ap) UU rfl bb (hw.o.now hN) rfl bG rfl) (RL.ev (v:=.int .i64 (u)) rfl rfl U (RL.ev rfl rfl (cI rfl rfl) (RL.ev (v:=.bool (decide (ap.1=u))) rfl rfl U ?_))))
 by_cases yF:ap.1=u
 rw[decide_eq_true yF]
 refine RL.aI rfl rfl (by decide) rfl rfl (ah Vb rfl fJ (by decide) rfl) (RL.aI rfl rfl (by decide) rfl rfl (aj Vg rfl rfl (hN.aA 0 rfl) rfl) (RL.aI (v:=.int .i64 ((i:Int))) rfl rfl (by decide) rfl rfl U (RL.aI rfl rfl (by decide) rfl rfl (bn Vg dj bb (by decide) (hw.o.now hN) rfl rfl (by omega) (by omega)) (RL.aI rfl rfl (by decide) rfl rfl (cH (m:=i) (b:=0) U0 rfl bu (by decide) bb (hw.o.now hN) bG rfl rfl) (RL.aI rfl rfl (by decide) rfl rfl (c9 (m:=i) (j:=1) (a:=ap) UU rfl bb (hw.o.now hN) rfl bG rfl) (RL.aI (v:=.int .i64 (v)) rfl rfl (by decide) rfl rfl U (RL.aI rfl rfl (by decide) rfl rfl (cI rfl rfl) (RL.ev (v:=.bool (decide (ap.2.1=v))) rfl rfl (ao rfl) (RL.nil ?_)))))))))
 refine ag ?_
 refine RW.aN _ rfl (fun nB=>?_) (fun nB=>?_)
 refine RW.seq (RW.region (RL.ev (v:=.int .i64 ((i:Int))) rfl rfl U (RL.ev (v:=.int .i64 ((i:Int))) rfl rfl aa (RL.nil (ag (RW.ret (aJ ?_)))))))
 iterate 2 refine aD ?_
 refine aJ (aD (aL (RV.tmp rfl) ?_))
 exact⟨congrArg (Vn .i64) (nE eQ bG ⟨yF,nB⟩).symm,hN.aE⟩
 refine RW.skip (a7 (ag (RW.region (RL.ev (v:=.int .i64 ((i:Int))) rfl rfl U (RL.ev rfl rfl (an rfl rfl rfl (bc (by omega) (by omega))) (RL.ev (v:=.int .i64 ((i:Int)+1)) rfl rfl aa (RL.nil (ag ?_))))))))
 exact⟨k-1,by omega,i+1,rfl,rfl,rfl,rfl,hN,by omega,fun x hx=>(cT bG hx).elim (eQ x) (fun e=>e▸fun h=>by first|exact yF h.1|exact nB h.2)⟩
 rw[decide_eq_false yF]
 iterate 8 refine RL.off rfl rfl (by decide) rfl rfl ?_
 refine RL.ev (v:=.bool false) rfl rfl (aH rfl) (RL.nil (ag (RW.dD rfl (RW.skip (a7 (ag (RW.region (RL.ev (v:=.int .i64 ((i:Int))) rfl rfl U (RL.ev rfl rfl (an rfl rfl rfl (bc (by omega) (by omega))) ?_)))))))))
 refine RL.ev (v:=.int .i64 ((i:Int)+1)) rfl rfl aa (RL.nil (ag ?_))
 exact⟨k-1,by omega,i+1,rfl,rfl,rfl,rfl,hN,by omega,fun x hx=>(cT bG hx).elim (eQ x) (fun e=>e▸fun h=>by first|exact yF h.1|exact nB h.2)⟩
 refine RW.exit ?_
 iterate 2 refine bm ?_
 refine aO (ag (RW.seq (RW.region (RL.ev (v:=.int .i64 (-1)) rfl rfl aa (RL.nil (ag (RW.ret (aL (RV.tmp rfl) ?_))))))))
 rw[Vo (by omega)]at eQ
 exact⟨congrArg (Vn .i64) (pg eQ).symm,hN.aE⟩
theorem AP (rv wv:Value) (rk:List Int) (ws:List I5) (w:World) (hr:Sl vI w rv rk) (hw:Sm bC w wv ws) (x:Int):al UY 109 #[.agg #[rv,wv],.int .i64 x] w fun r w'=>r=.int .i64 (j7 (fun y=>y=x) rk)∧Ext w w':=by
 refine al.start ab8 rfl (US rfl) ?_
 rw[cc]
 have hN:=ak.nil w none_
 refine RW.seq (RW.region ?_)
 refine RL.op rfl rfl (bq (cs:=[rv,wv]) rfl rfl hN ?_)
 clear hN
 intro g1 w1 (hN:ak w none_ w1 [_])
 refine RL.ev (v:=.int .i64 (0)) rfl rfl aa (RL.nil (ag ?_))
 iterate 2 refine RW.seq ?_
 refine RW.region (RL.ev (v:=.int .i64 (0)) rfl rfl aa (RL.nil (ag (RW.block ?_))))
 refine RW.loop (fun k R0 bT=>∃i:Nat,R0 1=.int .i64 (x)∧R0 2=.pointer (some ⟨g1,0,none⟩)∧R0 5=.int .i64 ((i:Int))∧ak w none_ bT [.aA g1 [rv,wv] 28]∧(i+k=rk.length)∧(∀y∈rk.take i,¬(fun y=>y=x) y)) (rk.length) ?_ ?_
 exact⟨0,rfl,rfl,rfl,hN,by omega,fun x hx=>by cases hx⟩
 clear hN
 rintro k R0 bT ⟨i,bw,bF,bM,hN,eR,eQ⟩
 have bY:∃b6,R0=(aZ (aZ (aZ b6 1 _) 2 _) 5 _):=⟨R0,by rw[ai bw,ai bF,ai bM]⟩
 obtain⟨b6,rfl⟩:=bY
 clear bw bF bM
 iterate 2 refine RW.seq ?_
 refine RW.region (RL.ev (v:=.int .i64 ((i:Int))) rfl rfl U (RL.ev rfl rfl (ah Vb rfl b7 (by decide) rfl) (RL.ev rfl rfl (aj UW rfl rfl (hN.aA 0 rfl) rfl) ?_)))
 have jb:=(hr.o.now hN).aY
 refine RL.ev rfl rfl (aQ UW (hr.o.now hN) rfl) (RL.ev rfl rfl (aV rfl rfl) (RL.nil (ag ?_)))
 refine RW.aN _ rfl (fun bW=>?_) (fun bW=>?_)
 refine RW.skip (ag (RW.seq (RW.block (RW.seq (RW.region (RL.ev rfl rfl (ah Vb rfl b7 (by decide) rfl) (RL.ev rfl rfl (aj UW rfl rfl (hN.aA 0 rfl) rfl) (RL.ev (v:=.int .i64 ((i:Int))) rfl rfl U (RL.ev rfl rfl (aB UW bu (hr.o.now hN) rfl rfl (by omega) (by omega)) ?_)))))))))
 have aw:∃a_,(rk)[i]?=some a_:=⟨_,UT (by omega)⟩
 obtain⟨ap,bG⟩:=aw
 refine RL.ev rfl rfl (aF (m:=i) (a:=ap) UU rfl (hr.o.now hN) rfl bG) (RL.ev (v:=.int .i64 (x)) rfl rfl U (RL.ev rfl rfl (cI rfl rfl) (RL.nil (ag ?_))))
 refine RW.aN _ rfl (fun Az=>?_) (fun Az=>?_)
 refine RW.seq (RW.region (RL.ev (v:=.int .i64 ((i:Int))) rfl rfl U (RL.ev (v:=.int .i64 ((i:Int))) rfl rfl aa (RL.nil (ag (RW.ret (aJ ?_)))))))
 iterate 2 refine aD ?_
 refine aJ (aD (aL (RV.tmp rfl) ?_))
 exact⟨congrArg (Vn .i64) (nE eQ bG Az).symm,hN.aE⟩
 refine RW.skip (a7 (ag (RW.region (RL.ev (v:=.int .i64 ((i:Int))) rfl rfl U (RL.ev rfl rfl (an rfl rfl rfl (bc (by omega) (by omega))) (RL.ev (v:=.int .i64 ((i:Int)+1)) rfl rfl aa (RL.nil (ag ?_))))))))
 exact⟨k-1,by omega,i+1,rfl,rfl,rfl,hN,by omega,fun x hx=>(cT bG hx).elim (eQ x) (fun e=>e▸Az)⟩
 refine RW.exit ?_
 iterate 2 refine bm ?_
 refine aO (ag (RW.seq (RW.region (RL.ev (v:=.int .i64 (-1)) rfl rfl aa (RL.nil (ag (RW.ret (aL (RV.tmp rfl) ?_))))))))
 rw[Vo (by omega)]at eQ
 exact⟨congrArg (Vn .i64) (pg eQ).symm,hN.aE⟩
theorem jZ (rv wv:Value) (rk:List Int) (ws:List I5) (w:World) (hr:Sl vI w rv rk) (hw:Sm bC w wv ws) (x:Int):al UY 170 #[.agg #[rv,wv],.int .i64 x] w fun r w'=>r=.bool (decide (0≤x∧x<rk.length))∧Ext w w':=by
 refine al.start Y5 rfl (US rfl) ?_
 rw[cc]
 have hN:=ak.nil w none_
 refine RW.seq (RW.region ?_)
 refine RL.op rfl rfl (bq (cs:=[rv,wv]) rfl rfl hN ?_)
 clear hN
 intro g1 w1 (hN:ak w none_ w1 [_])
 refine RL.ev (v:=.bool false) rfl rfl aa (RL.nil (ag (RW.seq (RW.region (RL.ev (v:=.int .i64 (x)) rfl rfl U (RL.ev rfl rfl (da rfl rfl) (RL.ev (v:=.bool (decide (0≤x))) rfl rfl U ?_)))))))
 by_cases yI:0≤x
 rw[decide_eq_true yI]
 refine RL.aI (v:=.int .i64 (x)) rfl rfl (by decide) rfl rfl U (RL.aI rfl rfl (by decide) rfl rfl (ah Vb rfl b7 (by decide) rfl) (RL.aI rfl rfl (by decide) rfl rfl (aj UW rfl rfl (hN.aA 0 rfl) rfl) ?_))
 have jb:=(hr.o.now hN).aY
 refine RL.aI rfl rfl (by decide) rfl rfl (aQ UW (hr.o.now hN) rfl) (RL.aI rfl rfl (by decide) rfl rfl (aV rfl rfl) (RL.ev (v:=.bool (decide (x<(rk.length:Int)))) rfl rfl (ao rfl) (RL.ev (v:=.bool (decide (x<(rk.length:Int)))) rfl rfl aa (RL.nil (ag (RW.ret (aL (RV.tmp rfl) ?_)))))))
 exact⟨congrArg Vd (decide_eq_decide.2 ⟨fun h=>⟨by omega,h⟩,fun h=>h.2⟩),hN.aE⟩
 rw[decide_eq_false yI]
 iterate 5 refine RL.off rfl rfl (by decide) rfl rfl ?_
 refine RL.ev (v:=.bool false) rfl rfl (aH rfl) (RL.ev (v:=.bool false) rfl rfl aa (RL.nil (ag (RW.ret (aL (RV.tmp rfl) ?_)))))
 exact⟨congrArg Vd (decide_eq_false (fun h=>by omega)).symm,hN.aE⟩
end Go.Proofs.YtngkdkbpgoddlaaGreat
namespace Go.Proofs.YtngkdkbpgoddlaaGreat
open Go.RowKit Go.Rl
open Go.Gr
theorem mJ (rv wv:Value) (rk:List Int) (ws:List I5) (w:World) (hr:Sl vI w rv rk) (hw:Sm bC w wv ws) (u v z:Int) (e:j7 (fH u v) ws=z):al UY 171 #[.agg #[rv,wv],.int .i64 u,.int .i64 v] w fun r w'=>r=.int .i64 z∧Ext w w':=(kU rv wv rk ws w hr hw u v).mono fun r w' hr=>by rw[e]at hr;exact hr
theorem tA (rv wv:Value) (rk:List Int) (ws:List I5) (w:World) (hr:Sl vI w rv rk) (hw:Sm bC w wv ws) (i:Nat) (x:I5) (hx:ws[i]?=some x):al UY 110 #[.agg #[rv,wv],.int .i64 (i:Int)] w fun r w'=>r=.bool (decide (Oh rk ws i x))∧Ext w w':=by
 refine al.start ab9 rfl (US rfl) ?_
 rw[cc]
 have hN:=ak.nil w none_
 have HJ:=(U5.1 hx).1
 refine RW.seq (RW.region ?_)
 refine RL.op rfl rfl (bq (cs:=[rv,wv]) rfl rfl hN ?_)
 clear hN
 intro g1 w1 (hN:ak w none_ w1 [_])
 refine RL.ev (v:=.bool false) rfl rfl aa (RL.nil (ag (RW.seq (RW.region (RL.ev rfl rfl (ah Vb rfl fJ (by decide) rfl) (RL.ev rfl rfl (aj Vg rfl rfl (hN.aA 0 rfl) rfl) (RL.ev (v:=.int .i64 ((i:Int))) rfl rfl U (RL.ev rfl rfl (bn Vg dj bb (by decide) (hw.o.now hN) rfl rfl (by omega) (by omega)) (RL.ev rfl rfl (bU (m:=i) (a:=x) U0 rfl dj bb (by decide) (hw.o.now hN) rfl hx (cs:=[.int .i64 (x.1),.int .i64 (x.2.1),.int .i64 (x.2.2.1),.int .i64 (x.2.2.2.1),.int .i64 (x.2.2.2.2)]) rfl) ?_)))))))))
 refine RL.op rfl rfl (aX (cs:=[.int .i64 (0),.int .i64 (0),.int .i64 (0),.int .i64 (0),.int .i64 (0)]) ft rfl hN ?_)
 clear hN
 intro g2 w2 (hN:ak w none_ w2 [_,_])
 refine RL.op rfl rfl (aC (vs:=[.int .i64 (x.1),.int .i64 (x.2.1),.int .i64 (x.2.2.1),.int .i64 (x.2.2.2.1),.int .i64 (x.2.2.2.2)]) dj rfl rfl rfl (by intro u hu;simp only[U9,U2,or_false]at hu;rcases hu with rfl|rfl|rfl|rfl|rfl<;>first|rfl) hN 0 rfl rfl ?_)
 clear hN
 intro w3 (hN:ak w none_ w3 [_,_])
 refine RL.nil (ag ?_)
 iterate 2 refine RW.seq ?_
 refine RW.region (RL.ev rfl rfl (aG (cs:=[rv,wv]) Vb rfl dr rfl (hN.aA 1 rfl)) (RL.ev rfl rfl (ah U0 rfl bu (by decide) rfl) (RL.ev rfl rfl (aj UU rfl rfl (hN.aA 0 rfl) rfl) ?_)))
 refine RL.op rfl rfl (aR Y5 rfl rfl rfl rfl ((jZ _ _ rk ws _ (hr.o.now hN) (hw.o.now hN) (x.1)).mono ?_))
 rintro _ w4 ⟨rfl,aW⟩
 replace hN:=hN.ext aW
 clear aW
 refine RL.ev rfl rfl (cM rfl) (RL.ev (v:=.bool (decide (¬(0≤x.1∧x.1<rk.length)))) rfl rfl U ?_)
 by_cases IJ:¬(0≤x.1∧x.1<rk.length)
 rw[decide_eq_true IJ]
 iterate 5 refine RL.off rfl rfl (by decide) rfl rfl ?_
 refine RL.ev (v:=.bool true) rfl rfl (ao rfl) (RL.ev (v:=.bool true) rfl rfl U ?_)
 iterate 5 refine RL.off rfl rfl (by decide) rfl rfl ?_
 refine RL.ev (v:=.bool true) rfl rfl (ao rfl) (RL.ev (v:=.bool true) rfl rfl U ?_)
 iterate 4 refine RL.off rfl rfl (by decide) rfl rfl ?_
 refine RL.ev (v:=.bool true) rfl rfl (ao rfl) (RL.ev (v:=.bool true) rfl rfl U ?_)
 iterate 4 refine RL.off rfl rfl (by decide) rfl rfl ?_
 refine RL.ev (v:=.bool true) rfl rfl (ao rfl) (RL.ev (v:=.bool true) rfl rfl U ?_)
 iterate 8 refine RL.off rfl rfl (by decide) rfl rfl ?_
 refine RL.ev (v:=.bool true) rfl rfl (ao rfl) (RL.nil (ag (RW.bK rfl (RW.seq (RW.region (RL.ev (v:=.bool false) rfl rfl aa (RL.nil (ag (RW.ret ?_)))))))))
 refine aD (aL (RV.tmp rfl) ?_)
 exact⟨congrArg Vd (decide_eq_false (fun h=>by
  obtain⟨⟨⟨e1,e2⟩,⟨e3,e4⟩,e5,e6,e7,e8⟩,e9⟩:=h
  first
  |omega
  |(rw[if_pos gU]at e9;omega)
  |(rw[if_neg gU]at e9;obtain⟨m1,⟨m2,m3⟩,m4,m5,_⟩:=e9;first|omega|(have:=m4 _ _ (by assumption) (by assumption);omega)|(have:=m5 _ _ (by assumption) (by assumption);omega))
  )).symm,hN.aE⟩
 rw[decide_eq_false IJ]
 refine RL.aI rfl rfl (by decide) rfl rfl (aG (cs:=[rv,wv]) Vb rfl dr rfl (hN.aA 1 rfl)) (RL.aI rfl rfl (by decide) rfl rfl (ah U0 rfl bu (by decide) rfl) (RL.aI rfl rfl (by decide) rfl rfl (aj UU rfl rfl (hN.aA 0 rfl) rfl) ?_))
 refine RL.on rfl rfl (by decide) rfl rfl (aR Y5 rfl rfl rfl rfl ((jZ _ _ rk ws _ (hr.o.now hN) (hw.o.now hN) (x.2.1)).mono ?_))
 rintro _ w5 ⟨rfl,aW⟩
 replace hN:=hN.ext aW
 clear aW
 refine RL.aI rfl rfl (by decide) rfl rfl (cM rfl) (RL.ev (v:=.bool (decide (¬(0≤x.2.1∧x.2.1<rk.length)))) rfl rfl (aH rfl) (RL.ev (v:=.bool (decide (¬(0≤x.2.1∧x.2.1<rk.length)))) rfl rfl U ?_))
 by_cases Fh:¬(0≤x.2.1∧x.2.1<rk.length)
 rw[decide_eq_true Fh]
 iterate 5 refine RL.off rfl rfl (by decide) rfl rfl ?_
 refine RL.ev (v:=.bool true) rfl rfl (ao rfl) (RL.ev (v:=.bool true) rfl rfl U ?_)
 iterate 4 refine RL.off rfl rfl (by decide) rfl rfl ?_
 refine RL.ev (v:=.bool true) rfl rfl (ao rfl) (RL.ev (v:=.bool true) rfl rfl U ?_)
 iterate 4 refine RL.off rfl rfl (by decide) rfl rfl ?_
 refine RL.ev (v:=.bool true) rfl rfl (ao rfl) (RL.ev (v:=.bool true) rfl rfl U ?_)
 iterate 8 refine RL.off rfl rfl (by decide) rfl rfl ?_
 refine RL.ev (v:=.bool true) rfl rfl (ao rfl) (RL.nil (ag (RW.bK rfl (RW.seq (RW.region (RL.ev (v:=.bool false) rfl rfl aa (RL.nil (ag (RW.ret ?_)))))))))
 refine aD (aL (RV.tmp rfl) ?_)
 exact⟨congrArg Vd (decide_eq_false (fun h=>by
  obtain⟨⟨⟨e1,e2⟩,⟨e3,e4⟩,e5,e6,e7,e8⟩,e9⟩:=h
  first
  |omega
  |(rw[if_pos gU]at e9;omega)
  |(rw[if_neg gU]at e9;obtain⟨m1,⟨m2,m3⟩,m4,m5,_⟩:=e9;first|omega|(have:=m4 _ _ (by assumption) (by assumption);omega)|(have:=m5 _ _ (by assumption) (by assumption);omega))
  )).symm,hN.aE⟩
 rw[decide_eq_false Fh]
 refine RL.aI rfl rfl (by decide) rfl rfl (ah U0 rfl bu (by decide) rfl) (RL.aI rfl rfl (by decide) rfl rfl (aj UU rfl rfl (hN.aA 0 rfl) rfl) (RL.aI rfl rfl (by decide) rfl rfl (ah U0 rfl bu (by decide) rfl) (RL.aI rfl rfl (by decide) rfl rfl (aj UU rfl rfl (hN.aA 0 rfl) rfl) (RL.aI rfl rfl (by decide) rfl rfl (cI rfl rfl) (RL.ev (v:=.bool (decide (x.1=x.2.1))) rfl rfl (aH rfl) (RL.ev (v:=.bool (decide (x.1=x.2.1))) rfl rfl U ?_))))))
 by_cases Fg:x.1=x.2.1
 rw[decide_eq_true Fg]
 iterate 4 refine RL.off rfl rfl (by decide) rfl rfl ?_
 refine RL.ev (v:=.bool true) rfl rfl (ao rfl) (RL.ev (v:=.bool true) rfl rfl U ?_)
 iterate 4 refine RL.off rfl rfl (by decide) rfl rfl ?_
 refine RL.ev (v:=.bool true) rfl rfl (ao rfl) (RL.ev (v:=.bool true) rfl rfl U ?_)
 iterate 8 refine RL.off rfl rfl (by decide) rfl rfl ?_
 refine RL.ev (v:=.bool true) rfl rfl (ao rfl) (RL.nil (ag (RW.bK rfl (RW.seq (RW.region (RL.ev (v:=.bool false) rfl rfl aa (RL.nil (ag (RW.ret ?_)))))))))
 refine aD (aL (RV.tmp rfl) ?_)
 exact⟨congrArg Vd (decide_eq_false (fun h=>by
  obtain⟨⟨⟨e1,e2⟩,⟨e3,e4⟩,e5,e6,e7,e8⟩,e9⟩:=h
  first
  |omega
  |(rw[if_pos gU]at e9;omega)
  |(rw[if_neg gU]at e9;obtain⟨m1,⟨m2,m3⟩,m4,m5,_⟩:=e9;first|omega|(have:=m4 _ _ (by assumption) (by assumption);omega)|(have:=m5 _ _ (by assumption) (by assumption);omega))
  )).symm,hN.aE⟩
 rw[decide_eq_false Fg]
 refine RL.aI rfl rfl (by decide) rfl rfl (ah U0 rfl dk (by decide) rfl) (RL.aI rfl rfl (by decide) rfl rfl (ah Vj rfl bu (by decide) rfl) (RL.aI rfl rfl (by decide) rfl rfl (aj UU rfl rfl (hN.aA 0 rfl) rfl) (RL.aI rfl rfl (by decide) rfl rfl (aV rfl rfl) (RL.ev (v:=.bool (decide (x.2.2.1<0))) rfl rfl (aH rfl) (RL.ev (v:=.bool (decide (x.2.2.1<0))) rfl rfl U ?_)))))
 by_cases Ff:x.2.2.1<0
 rw[decide_eq_true Ff]
 iterate 4 refine RL.off rfl rfl (by decide) rfl rfl ?_
 refine RL.ev (v:=.bool true) rfl rfl (ao rfl) (RL.ev (v:=.bool true) rfl rfl U ?_)
 iterate 8 refine RL.off rfl rfl (by decide) rfl rfl ?_
 refine RL.ev (v:=.bool true) rfl rfl (ao rfl) (RL.nil (ag (RW.bK rfl (RW.seq (RW.region (RL.ev (v:=.bool false) rfl rfl aa (RL.nil (ag (RW.ret ?_)))))))))
 refine aD (aL (RV.tmp rfl) ?_)
 exact⟨congrArg Vd (decide_eq_false (fun h=>by
  obtain⟨⟨⟨e1,e2⟩,⟨e3,e4⟩,e5,e6,e7,e8⟩,e9⟩:=h
  first
  |omega
  |(rw[if_pos gU]at e9;omega)
  |(rw[if_neg gU]at e9;obtain⟨m1,⟨m2,m3⟩,m4,m5,_⟩:=e9;first|omega|(have:=m4 _ _ (by assumption) (by assumption);omega)|(have:=m5 _ _ (by assumption) (by assumption);omega))
  )).symm,hN.aE⟩
 rw[decide_eq_false Ff]
 refine RL.aI rfl rfl (by decide) rfl rfl (ah U0 rfl dk (by decide) rfl) (RL.aI rfl rfl (by decide) rfl rfl (ah Vj rfl bu (by decide) rfl) (RL.aI rfl rfl (by decide) rfl rfl (aj UU rfl rfl (hN.aA 0 rfl) rfl) (RL.aI rfl rfl (by decide) rfl rfl (cN rfl rfl) (RL.ev (v:=.bool (decide (1152921504606846976<x.2.2.1))) rfl rfl (aH rfl) (RL.ev (v:=.bool (decide (1152921504606846976<x.2.2.1))) rfl rfl U ?_)))))
 by_cases Fe:1152921504606846976<x.2.2.1
 rw[decide_eq_true Fe]
 iterate 8 refine RL.off rfl rfl (by decide) rfl rfl ?_
 refine RL.ev (v:=.bool true) rfl rfl (ao rfl) (RL.nil (ag (RW.bK rfl (RW.seq (RW.region (RL.ev (v:=.bool false) rfl rfl aa (RL.nil (ag (RW.ret ?_)))))))))
 refine aD (aL (RV.tmp rfl) ?_)
 exact⟨congrArg Vd (decide_eq_false (fun h=>by
  obtain⟨⟨⟨e1,e2⟩,⟨e3,e4⟩,e5,e6,e7,e8⟩,e9⟩:=h
  first
  |omega
  |(rw[if_pos gU]at e9;omega)
  |(rw[if_neg gU]at e9;obtain⟨m1,⟨m2,m3⟩,m4,m5,_⟩:=e9;first|omega|(have:=m4 _ _ (by assumption) (by assumption);omega)|(have:=m5 _ _ (by assumption) (by assumption);omega))
  )).symm,hN.aE⟩
 rw[decide_eq_false Fe]
 refine RL.aI rfl rfl (by decide) rfl rfl (aG (cs:=[rv,wv]) Vb rfl dr rfl (hN.aA 1 rfl)) (RL.aI rfl rfl (by decide) rfl rfl (ah U0 rfl bu (by decide) rfl) (RL.aI rfl rfl (by decide) rfl rfl (aj UU rfl rfl (hN.aA 0 rfl) rfl) (RL.aI rfl rfl (by decide) rfl rfl (ah U0 rfl bu (by decide) rfl) (RL.aI rfl rfl (by decide) rfl rfl (aj UU rfl rfl (hN.aA 0 rfl) rfl) ?_))))
 refine RL.on rfl rfl (by decide) rfl rfl (cF Xr rfl rfl rfl rfl rfl ((kU _ _ rk ws _ (hr.o.now hN) (hw.o.now hN) (x.1) (x.2.1)).mono ?_))
 rintro _ w6 ⟨rfl,aW⟩
 replace hN:=hN.ext aW
 clear aW
 refine RL.aI (v:=.int .i64 ((i:Int))) rfl rfl (by decide) rfl rfl U (RL.aI rfl rfl (by decide) rfl rfl (bp rfl rfl) (RL.ev (v:=.bool (decide (¬(j7 (fH (x.1) (x.2.1)) ws)=(i:Int)))) rfl rfl (aH rfl) (RL.nil (ag ?_))))
 refine RW.aN _ rfl (fun P8=>?_) (fun P8=>?_)
 refine RW.seq (RW.region (RL.ev (v:=.bool false) rfl rfl aa (RL.nil (ag (RW.ret (aD (aL (RV.tmp rfl) ?_)))))))
 exact⟨congrArg Vd (decide_eq_false (fun h=>by
  obtain⟨⟨⟨e1,e2⟩,⟨e3,e4⟩,e5,e6,e7,e8⟩,e9⟩:=h
  first
  |omega
  |(rw[if_pos gU]at e9;omega)
  |(rw[if_neg gU]at e9;obtain⟨m1,⟨m2,m3⟩,m4,m5,_⟩:=e9;first|omega|(have:=m4 _ _ (by assumption) (by assumption);omega)|(have:=m5 _ _ (by assumption) (by assumption);omega))
  )).symm,hN.aE⟩
 refine RW.skip (ag ?_)
 iterate 2 refine RW.seq ?_
 refine RW.region (RL.ev rfl rfl (ah U0 rfl dk (by decide) rfl) (RL.ev rfl rfl (ah Vj rfl bu (by decide) rfl) (RL.ev rfl rfl (aj UU rfl rfl (hN.aA 0 rfl) rfl) (RL.ev rfl rfl (cI rfl rfl) (RL.nil (ag ?_))))))
 refine RW.aN _ rfl (fun gU=>?_) (fun gU=>?_)
 refine RW.seq (RW.region (RL.ev rfl rfl (ah U0 rfl dk (by decide) rfl) (RL.ev rfl rfl (ah Vj rfl bu (by decide) rfl) (RL.ev rfl rfl (aj UU rfl rfl (hN.aA 0 rfl) rfl) (RL.ev rfl rfl (da rfl rfl) (RL.ev (v:=.bool (decide (0≤x.2.2.2.2))) rfl rfl U ?_))))))
 by_cases IG:0≤x.2.2.2.2
 rw[decide_eq_true IG]
 refine RL.aI rfl rfl (by decide) rfl rfl (ah U0 rfl dk (by decide) rfl) (RL.aI rfl rfl (by decide) rfl rfl (ah Vj rfl bu (by decide) rfl) (RL.aI rfl rfl (by decide) rfl rfl (aj UU rfl rfl (hN.aA 0 rfl) rfl) (RL.aI rfl rfl (by decide) rfl rfl (aV rfl rfl) (RL.ev (v:=.bool (decide (x.2.2.2.2<67108864))) rfl rfl (ao rfl) (RL.ev (v:=.bool (decide (x.2.2.2.2<67108864))) rfl rfl aa (RL.nil (ag (RW.ret (aD ?_)))))))))
 refine aL (RV.tmp rfl) ?_
 exact⟨congrArg Vd (decide_eq_decide.2 ⟨fun h=>⟨⟨⟨by omega,by omega⟩,⟨by omega,by omega⟩,by omega,by omega,by omega,by omega⟩,by rw[if_pos gU];omega⟩,fun h=>by
  obtain⟨⟨⟨e1,e2⟩,⟨e3,e4⟩,e5,e6,e7,e8⟩,e9⟩:=h
  rw[if_pos gU]at e9
  omega⟩),hN.aE⟩
 rw[decide_eq_false IG]
 iterate 4 refine RL.off rfl rfl (by decide) rfl rfl ?_
 refine RL.ev (v:=.bool false) rfl rfl (aH rfl) (RL.ev (v:=.bool false) rfl rfl aa (RL.nil (ag (RW.ret (aD (aL (RV.tmp rfl) ?_))))))
 exact⟨congrArg Vd (decide_eq_false (fun h=>by
  obtain⟨⟨⟨e1,e2⟩,⟨e3,e4⟩,e5,e6,e7,e8⟩,e9⟩:=h
  first
  |omega
  |(rw[if_pos gU]at e9;omega)
  |(rw[if_neg gU]at e9;obtain⟨m1,⟨m2,m3⟩,m4,m5,_⟩:=e9;first|omega|(have:=m4 _ _ (by assumption) (by assumption);omega)|(have:=m5 _ _ (by assumption) (by assumption);omega))
  )).symm,hN.aE⟩
 refine RW.skip (ag ?_)
 iterate 2 refine RW.seq ?_
 replace hN:=hN.ext (Ext.drew w6)
 refine RW.cb rfl (fun u=>ak w none_ u [.aA g2 [.int .i64 (x.1),.int .i64 (x.2.1),.int .i64 (x.2.2.1),.int .i64 (x.2.2.2.1),.int .i64 (x.2.2.2.2)] 98,.aA g1 [rv,wv] 28]) 44 [(0,0),(1,0),(2,0),(3,0),(4,0),(5,0),(6,0),(7,0),(8,0),(9,1),(10,0),(11,0),(12,0),(13,0),(14,0),(15,0),(16,0),(17,0),(18,0),(19,0),(20,0),(21,0),(22,0),(23,0),(24,0),(25,0),(26,0),(27,0),(28,0),(29,0),(30,0),(31,0),(32,0),(33,0),(34,0),(35,0),(36,0),(37,0),(38,0),(39,0),(40,0),(41,0),(42,0),(43,0)] (by intro _ _ _ h;exact h) (by kernel_rfl) hN (RQ.ev rfl rfl (fun w hS=>(ah U0 rfl dk (by decide) rfl)) (RQ.ev rfl rfl (fun w hS=>(ah Vj rfl bu (by decide) rfl)) (RQ.ev rfl rfl (fun w hS=>(aj UU rfl rfl (hS.aA 0 rfl) rfl)) (RQ.ev rfl rfl (fun w hS=>(bp rfl rfl)) (RQ.ev (v:=.bool (decide (¬x.2.2.2.2= -1))) rfl rfl (fun w hS=>U) ?_)))))
 by_cases IF:¬x.2.2.2.2= -1
 rw[decide_eq_true IF]
 iterate 6 refine RQ.off rfl rfl rfl rfl ?_
 refine RQ.ev (v:=.bool true) rfl rfl (fun w hS=>(ao rfl)) (RQ.ev (v:=.bool true) rfl rfl (fun w hS=>U) ?_)
 iterate 14 refine RQ.off rfl rfl rfl rfl ?_
 refine RQ.ev (v:=.bool true) rfl rfl (fun w hS=>(ao rfl)) (RQ.ev (v:=.bool true) rfl rfl (fun w hS=>U) ?_)
 iterate 14 refine RQ.off rfl rfl rfl rfl ?_
 refine RQ.ev (v:=.bool true) rfl rfl (fun w hS=>(ao rfl)) (RQ.done (by kernel_rfl) (ag (RW.bK rfl (RW.seq (RW.region (RL.ev (v:=.bool false) rfl rfl aa (RL.nil (ag (RW.ret ?_)))))))))
 refine aD (aL (RV.tmp rfl) ?_)
 exact⟨congrArg Vd (decide_eq_false (fun h=>by
  obtain⟨⟨⟨e1,e2⟩,⟨e3,e4⟩,e5,e6,e7,e8⟩,e9⟩:=h
  first
  |omega
  |(rw[if_pos gU]at e9;omega)
  |(rw[if_neg gU]at e9;obtain⟨m1,⟨m2,m3⟩,m4,m5,_⟩:=e9;first|omega|(have:=m4 _ _ (by assumption) (by assumption);omega)|(have:=m5 _ _ (by assumption) (by assumption);omega))
  )).symm,hN.aE⟩
 rw[decide_eq_false IF]
 refine RQ.on rfl rfl rfl rfl (fun w hS=>(aG (cs:=[rv,wv]) Vb rfl dr rfl (hS.aA 1 rfl))) (RQ.on rfl rfl rfl rfl (fun w hS=>(ah U0 rfl dk (by decide) rfl)) (RQ.on rfl rfl rfl rfl (fun w hS=>(ah Vj rfl bu (by decide) rfl)) (RQ.on rfl rfl rfl rfl (fun w hS=>(aj UU rfl rfl (hS.aA 0 rfl) rfl)) ?_)))
 refine RQ.qz rfl rfl rfl rfl (aR Y5 rfl rfl rfl rfl ((jZ _ _ rk ws _ (hr.o.now hN) (hw.o.now hN) (x.2.2.2.1)).mono ?_))
 rintro _ w7 ⟨rfl,aW⟩
 replace hN:=hN.ext aW
 clear aW
 refine⟨hN,?_⟩
 refine RQ.on rfl rfl rfl rfl (fun w hS=>(cM rfl)) (RQ.ev (v:=.bool (decide (¬(0≤x.2.2.2.1∧x.2.2.2.1<rk.length)))) rfl rfl (fun w hS=>(aH rfl)) (RQ.ev (v:=.bool (decide (¬(0≤x.2.2.2.1∧x.2.2.2.1<rk.length)))) rfl rfl (fun w hS=>U) ?_))
 by_cases Fb:¬(0≤x.2.2.2.1∧x.2.2.2.1<rk.length)
 rw[decide_eq_true Fb]
 iterate 14 refine RQ.off rfl rfl rfl rfl ?_
 refine RQ.ev (v:=.bool true) rfl rfl (fun w hS=>(ao rfl)) (RQ.ev (v:=.bool true) rfl rfl (fun w hS=>U) ?_)
 iterate 14 refine RQ.off rfl rfl rfl rfl ?_
 refine RQ.ev (v:=.bool true) rfl rfl (fun w hS=>(ao rfl)) (RQ.done (by kernel_rfl) (ag (RW.bK rfl (RW.seq (RW.region (RL.ev (v:=.bool false) rfl rfl aa (RL.nil (ag (RW.ret ?_)))))))))
 refine aD (aL (RV.tmp rfl) ?_)
 exact⟨congrArg Vd (decide_eq_false (fun h=>by
  obtain⟨⟨⟨e1,e2⟩,⟨e3,e4⟩,e5,e6,e7,e8⟩,e9⟩:=h
  first
  |omega
  |(rw[if_pos gU]at e9;omega)
  |(rw[if_neg gU]at e9;obtain⟨m1,⟨m2,m3⟩,m4,m5,_⟩:=e9;first|omega|(have:=m4 _ _ (by assumption) (by assumption);omega)|(have:=m5 _ _ (by assumption) (by assumption);omega))
  )).symm,hN.aE⟩
 rw[decide_eq_false Fb]
 refine RQ.on rfl rfl rfl rfl (fun w hS=>(ah Vb rfl b7 (by decide) rfl)) (RQ.on rfl rfl rfl rfl (fun w hS=>(aj UW rfl rfl (hS.aA 1 rfl) rfl)) (RQ.on rfl rfl rfl rfl (fun w hS=>(ah U0 rfl dk (by decide) rfl)) (RQ.on rfl rfl rfl rfl (fun w hS=>(ah Vj rfl bu (by decide) rfl)) (RQ.on rfl rfl rfl rfl (fun w hS=>(aj UU rfl rfl (hS.aA 0 rfl) rfl)) (RQ.on rfl rfl rfl rfl (fun w hS=>(aB UW bu (hr.o.now hS) rfl rfl (by omega) (by omega))) ?_)))))
 have aw:∃a_,(rk)[(x.2.2.2.1).toNat]?=some a_:=⟨_,UT (by omega)⟩
 obtain⟨a8,TX⟩:=aw
 refine RQ.on rfl rfl rfl rfl (fun w hS=>(aF (m:=(x.2.2.2.1).toNat) (a:=a8) UU rfl (hr.o.now hS) rfl TX)) (RQ.on rfl rfl rfl rfl (fun w hS=>(ah Vb rfl b7 (by decide) rfl)) (RQ.on rfl rfl rfl rfl (fun w hS=>(aj UW rfl rfl (hS.aA 1 rfl) rfl)) (RQ.on rfl rfl rfl rfl (fun w hS=>(ah U0 rfl bu (by decide) rfl)) (RQ.on rfl rfl rfl rfl (fun w hS=>(aj UU rfl rfl (hS.aA 0 rfl) rfl)) (RQ.on rfl rfl rfl rfl (fun w hS=>(aB UW bu (hr.o.now hS) rfl rfl (by omega) (by omega))) ?_)))))
 have aw:∃a_,(rk)[(x.1).toNat]?=some a_:=⟨_,UT (by omega)⟩
 obtain⟨a9,TW⟩:=aw
 refine RQ.on rfl rfl rfl rfl (fun w hS=>(aF (m:=(x.1).toNat) (a:=a9) UU rfl (hr.o.now hS) rfl TW)) (RQ.on rfl rfl rfl rfl (fun w hS=>(da rfl rfl)) (RQ.ev (v:=.bool (decide (a9≤a8))) rfl rfl (fun w hS=>(aH rfl)) (RQ.ev (v:=.bool (decide (a9≤a8))) rfl rfl (fun w hS=>U) ?_)))
 by_cases E9:a9≤a8
 rw[decide_eq_true E9]
 iterate 14 refine RQ.off rfl rfl rfl rfl ?_
 refine RQ.ev (v:=.bool true) rfl rfl (fun w hS=>(ao rfl)) (RQ.done (by kernel_rfl) (ag (RW.bK rfl (RW.seq (RW.region (RL.ev (v:=.bool false) rfl rfl aa (RL.nil (ag (RW.ret ?_)))))))))
 refine aD (aL (RV.tmp rfl) ?_)
 exact⟨congrArg Vd (decide_eq_false (fun h=>by
  obtain⟨⟨⟨e1,e2⟩,⟨e3,e4⟩,e5,e6,e7,e8⟩,e9⟩:=h
  first
  |omega
  |(rw[if_pos gU]at e9;omega)
  |(rw[if_neg gU]at e9;obtain⟨m1,⟨m2,m3⟩,m4,m5,_⟩:=e9;first|omega|(have:=m4 _ _ (by assumption) (by assumption);omega)|(have:=m5 _ _ (by assumption) (by assumption);omega))
  )).symm,hN.aE⟩
 rw[decide_eq_false E9]
 refine RQ.on rfl rfl rfl rfl (fun w hS=>(ah Vb rfl b7 (by decide) rfl)) (RQ.on rfl rfl rfl rfl (fun w hS=>(aj UW rfl rfl (hS.aA 1 rfl) rfl)) (RQ.on rfl rfl rfl rfl (fun w hS=>(ah U0 rfl dk (by decide) rfl)) (RQ.on rfl rfl rfl rfl (fun w hS=>(ah Vj rfl bu (by decide) rfl)) (RQ.on rfl rfl rfl rfl (fun w hS=>(aj UU rfl rfl (hS.aA 0 rfl) rfl)) (RQ.on rfl rfl rfl rfl (fun w hS=>(aB UW bu (hr.o.now hS) rfl rfl (by omega) (by omega))) ?_)))))
 have aw:∃a_,(rk)[(x.2.2.2.1).toNat]?=some a_:=⟨_,UT (by omega)⟩
 obtain⟨Sw,Qo⟩:=aw
 refine RQ.on rfl rfl rfl rfl (fun w hS=>(aF (m:=(x.2.2.2.1).toNat) (a:=Sw) UU rfl (hr.o.now hS) rfl Qo)) (RQ.on rfl rfl rfl rfl (fun w hS=>(ah Vb rfl b7 (by decide) rfl)) (RQ.on rfl rfl rfl rfl (fun w hS=>(aj UW rfl rfl (hS.aA 1 rfl) rfl)) (RQ.on rfl rfl rfl rfl (fun w hS=>(ah U0 rfl bu (by decide) rfl)) (RQ.on rfl rfl rfl rfl (fun w hS=>(aj UU rfl rfl (hS.aA 0 rfl) rfl)) (RQ.on rfl rfl rfl rfl (fun w hS=>(aB UW bu (hr.o.now hS) rfl rfl (by omega) (by omega))) ?_)))))
 have aw:∃a_,(rk)[(x.2.1).toNat]?=some a_:=⟨_,UT (by omega)⟩
 obtain⟨Sv,Qn⟩:=aw
 refine RQ.on rfl rfl rfl rfl (fun w hS=>(aF (m:=(x.2.1).toNat) (a:=Sv) UU rfl (hr.o.now hS) rfl Qn)) (RQ.on rfl rfl rfl rfl (fun w hS=>(da rfl rfl)) (RQ.ev (v:=.bool (decide (Sv≤Sw))) rfl rfl (fun w hS=>(aH rfl)) (RQ.done (by kernel_rfl) (ag ?_))))
 refine RW.aN _ rfl (fun Nf=>?_) (fun Nf=>?_)
 refine RW.seq (RW.region (RL.ev (v:=.bool false) rfl rfl aa (RL.nil (ag (RW.ret (aD (aL (RV.tmp rfl) ?_)))))))
 exact⟨congrArg Vd (decide_eq_false (fun h=>by
  obtain⟨⟨⟨e1,e2⟩,⟨e3,e4⟩,e5,e6,e7,e8⟩,e9⟩:=h
  first
  |omega
  |(rw[if_pos gU]at e9;omega)
  |(rw[if_neg gU]at e9;obtain⟨m1,⟨m2,m3⟩,m4,m5,_⟩:=e9;first|omega|(have:=m4 _ _ (by assumption) (by assumption);omega)|(have:=m5 _ _ (by assumption) (by assumption);omega))
  )).symm,hN.aE⟩
 refine RW.skip (ag (RW.seq ?_))
 rcases ei (fH x.1 x.2.2.2.1) ws with⟨ea,_⟩|⟨a,y,ea,Ae,_⟩
 refine RW.region (RL.ev rfl rfl (aG (cs:=[rv,wv]) Vb rfl dr rfl (hN.aA 1 rfl)) (RL.ev rfl rfl (ah U0 rfl bu (by decide) rfl) (RL.ev rfl rfl (aj UU rfl rfl (hN.aA 0 rfl) rfl) (RL.ev rfl rfl (ah U0 rfl dk (by decide) rfl) (RL.ev rfl rfl (ah Vj rfl bu (by decide) rfl) (RL.ev rfl rfl (aj UU rfl rfl (hN.aA 0 rfl) rfl) ?_))))))
 refine RL.op rfl rfl (cF Xr rfl rfl rfl rfl rfl ((mJ _ _ rk ws _ (hr.o.now hN) (hw.o.now hN) (x.1) (x.2.2.2.1) (-1) ea).mono ?_))
 rintro _ iP ⟨rfl,aW⟩
 replace hN:=hN.ext aW
 clear aW
 refine RL.ev (v:=.int .i64 (-1)) rfl rfl aa (RL.nil (ag (RW.seq (RW.region (RL.ev rfl rfl (aG (cs:=[rv,wv]) Vb rfl dr rfl (hN.aA 1 rfl)) (RL.ev rfl rfl (ah U0 rfl dk (by decide) rfl) (RL.ev rfl rfl (ah Vj rfl bu (by decide) rfl) (RL.ev rfl rfl (aj UU rfl rfl (hN.aA 0 rfl) rfl) (RL.ev rfl rfl (ah U0 rfl bu (by decide) rfl) ?_)))))))))
 refine RL.ev rfl rfl (aj UU rfl rfl (hN.aA 0 rfl) rfl) ?_
 refine RL.op rfl rfl (cF Xr rfl rfl rfl rfl rfl ((kU _ _ rk ws _ (hr.o.now hN) (hw.o.now hN) (x.2.2.2.1) (x.2.1)).mono ?_))
 rintro _ kC ⟨rfl,aW⟩
 replace hN:=hN.ext aW
 clear aW
 refine RL.ev (v:=.int .i64 ((j7 (fH (x.2.2.2.1) (x.2.1)) ws))) rfl rfl aa (RL.nil (ag (RW.seq ?_)))
 replace hN:=hN.ext (Ext.drew kC)
 refine RW.cb rfl (fun u=>ak w none_ u [.aA g2 [.int .i64 (x.1),.int .i64 (x.2.1),.int .i64 (x.2.2.1),.int .i64 (x.2.2.2.1),.int .i64 (x.2.2.2.2)] 98,.aA g1 [rv,wv] 28]) 28 [(0,0),(1,0),(2,0),(3,0),(4,0),(5,0),(6,0),(7,0),(8,0),(9,0),(10,0),(11,0),(12,0),(13,0),(14,0),(15,0),(16,0),(17,0),(18,0),(19,0),(20,0),(21,0),(22,0),(23,0),(24,0),(25,0),(26,0),(27,0)] (by intro _ _ _ h;exact h) (by kernel_rfl) hN (RQ.ev (v:=.int .i64 (-1)) rfl rfl (fun w hS=>U) (RQ.ev rfl rfl (fun w hS=>(cm (da rfl rfl) (by decide))) (RQ.ev (v:=.bool false) rfl rfl (fun w hS=>U) ?_)))
 iterate 2 refine RQ.off rfl rfl rfl rfl ?_
 refine RQ.ev (v:=.bool false) rfl rfl (fun w hS=>(aH rfl)) (RQ.ev (v:=.bool false) rfl rfl (fun w hS=>U) ?_)
 iterate 19 refine RQ.off rfl rfl rfl rfl ?_
 refine RQ.ev (v:=.bool false) rfl rfl (fun w hS=>(aH rfl)) (RQ.ev (v:=.bool false) rfl rfl (fun w hS=>aa) (RQ.done (by kernel_rfl) (ag (RW.ret (aL (RV.tmp rfl) ?_)))))
 exact⟨congrArg Vd (decide_eq_false (fun h=>by
  obtain⟨⟨⟨e1,e2⟩,⟨e3,e4⟩,e5,e6,e7,e8⟩,e9⟩:=h
  rw[if_neg gU]at e9
  obtain⟨m1,⟨m2,m3⟩,m4,m5,a_,b_,y_,z_,m6,m7,m8,m9,Co⟩:=e9
  omega)).symm,hN.aE⟩
 have fG:=(U5.1 Ae).1
 refine RW.region (RL.ev rfl rfl (aG (cs:=[rv,wv]) Vb rfl dr rfl (hN.aA 1 rfl)) (RL.ev rfl rfl (ah U0 rfl bu (by decide) rfl) (RL.ev rfl rfl (aj UU rfl rfl (hN.aA 0 rfl) rfl) (RL.ev rfl rfl (ah U0 rfl dk (by decide) rfl) (RL.ev rfl rfl (ah Vj rfl bu (by decide) rfl) (RL.ev rfl rfl (aj UU rfl rfl (hN.aA 0 rfl) rfl) ?_))))))
 refine RL.op rfl rfl (cF Xr rfl rfl rfl rfl rfl ((mJ _ _ rk ws _ (hr.o.now hN) (hw.o.now hN) (x.1) (x.2.2.2.1) ((a:Int)) ea).mono ?_))
 rintro _ lF ⟨rfl,aW⟩
 replace hN:=hN.ext aW
 clear aW
 refine RL.ev (v:=.int .i64 ((a:Int))) rfl rfl aa (RL.nil (ag (RW.seq ?_)))
 rcases ei (fH x.2.2.2.1 x.2.1) ws with⟨eb,_⟩|⟨b,z,eb,xh,_⟩
 refine RW.region (RL.ev rfl rfl (aG (cs:=[rv,wv]) Vb rfl dr rfl (hN.aA 1 rfl)) (RL.ev rfl rfl (ah U0 rfl dk (by decide) rfl) (RL.ev rfl rfl (ah Vj rfl bu (by decide) rfl) (RL.ev rfl rfl (aj UU rfl rfl (hN.aA 0 rfl) rfl) (RL.ev rfl rfl (ah U0 rfl bu (by decide) rfl) (RL.ev rfl rfl (aj UU rfl rfl (hN.aA 0 rfl) rfl) ?_))))))
 refine RL.op rfl rfl (cF Xr rfl rfl rfl rfl rfl ((mJ _ _ rk ws _ (hr.o.now hN) (hw.o.now hN) (x.2.2.2.1) (x.2.1) (-1) eb).mono ?_))
 rintro _ k9 ⟨rfl,aW⟩
 replace hN:=hN.ext aW
 clear aW
 refine RL.ev (v:=.int .i64 (-1)) rfl rfl aa (RL.nil (ag (RW.seq ?_)))
 replace hN:=hN.ext (Ext.drew k9)
 refine RW.cb rfl (fun u=>ak w none_ u [.aA g2 [.int .i64 (x.1),.int .i64 (x.2.1),.int .i64 (x.2.2.1),.int .i64 (x.2.2.2.1),.int .i64 (x.2.2.2.2)] 98,.aA g1 [rv,wv] 28]) 28 [(0,0),(1,0),(2,0),(3,0),(4,0),(5,0),(6,0),(7,0),(8,0),(9,0),(10,0),(11,0),(12,0),(13,0),(14,0),(15,0),(16,0),(17,0),(18,0),(19,0),(20,0),(21,0),(22,0),(23,0),(24,0),(25,0),(26,0),(27,0)] (by intro _ _ _ h;exact h) (by kernel_rfl) hN (RQ.ev (v:=.int .i64 ((a:Int))) rfl rfl (fun w hS=>U) (RQ.ev rfl rfl (fun w hS=>(cS (da rfl rfl) (by omega))) (RQ.ev (v:=.bool true) rfl rfl (fun w hS=>U) (RQ.on (v:=.int .i64 (-1)) rfl rfl rfl rfl (fun w hS=>U) (RQ.on rfl rfl rfl rfl (fun w hS=>(cm (da rfl rfl) (by decide))) (RQ.ev (v:=.bool false) rfl rfl (fun w hS=>(ao rfl)) (RQ.ev (v:=.bool false) rfl rfl (fun w hS=>U) ?_)))))))
 iterate 19 refine RQ.off rfl rfl rfl rfl ?_
 refine RQ.ev (v:=.bool false) rfl rfl (fun w hS=>(aH rfl)) (RQ.ev (v:=.bool false) rfl rfl (fun w hS=>aa) (RQ.done (by kernel_rfl) (ag (RW.ret (aL (RV.tmp rfl) ?_)))))
 exact⟨congrArg Vd (decide_eq_false (fun h=>by
  obtain⟨⟨⟨e1,e2⟩,⟨e3,e4⟩,e5,e6,e7,e8⟩,e9⟩:=h
  rw[if_neg gU]at e9
  obtain⟨m1,⟨m2,m3⟩,m4,m5,a_,b_,y_,z_,m6,m7,m8,m9,Co⟩:=e9
  omega)).symm,hN.aE⟩
 have HQ:=(U5.1 xh).1
 refine RW.region (RL.ev rfl rfl (aG (cs:=[rv,wv]) Vb rfl dr rfl (hN.aA 1 rfl)) (RL.ev rfl rfl (ah U0 rfl dk (by decide) rfl) (RL.ev rfl rfl (ah Vj rfl bu (by decide) rfl) (RL.ev rfl rfl (aj UU rfl rfl (hN.aA 0 rfl) rfl) (RL.ev rfl rfl (ah U0 rfl bu (by decide) rfl) (RL.ev rfl rfl (aj UU rfl rfl (hN.aA 0 rfl) rfl) ?_))))))
 refine RL.op rfl rfl (cF Xr rfl rfl rfl rfl rfl ((mJ _ _ rk ws _ (hr.o.now hN) (hw.o.now hN) (x.2.2.2.1) (x.2.1) ((b:Int)) eb).mono ?_))
 rintro _ oL ⟨rfl,aW⟩
 replace hN:=hN.ext aW
 clear aW
 refine RL.ev (v:=.int .i64 ((b:Int))) rfl rfl aa (RL.nil (ag (RW.seq ?_)))
 replace hN:=hN.ext (Ext.drew oL)
 refine RW.cb rfl (fun u=>ak w none_ u [.aA g2 [.int .i64 (x.1),.int .i64 (x.2.1),.int .i64 (x.2.2.1),.int .i64 (x.2.2.2.1),.int .i64 (x.2.2.2.2)] 98,.aA g1 [rv,wv] 28]) 28 [(0,0),(1,0),(2,0),(3,0),(4,0),(5,0),(6,0),(7,0),(8,0),(9,0),(10,0),(11,0),(12,0),(13,0),(14,0),(15,0),(16,0),(17,0),(18,0),(19,0),(20,0),(21,0),(22,0),(23,0),(24,0),(25,0),(26,0),(27,0)] (by intro _ _ _ h;exact h) (by kernel_rfl) hN (RQ.ev (v:=.int .i64 ((a:Int))) rfl rfl (fun w hS=>U) (RQ.ev rfl rfl (fun w hS=>(cS (da rfl rfl) (by omega))) (RQ.ev (v:=.bool true) rfl rfl (fun w hS=>U) (RQ.on (v:=.int .i64 ((b:Int))) rfl rfl rfl rfl (fun w hS=>U) (RQ.on rfl rfl rfl rfl (fun w hS=>(cS (da rfl rfl) (by omega))) (RQ.ev (v:=.bool true) rfl rfl (fun w hS=>(ao rfl)) (RQ.ev (v:=.bool true) rfl rfl (fun w hS=>U) (RQ.on rfl rfl rfl rfl (fun w hS=>(ah Vb rfl fJ (by decide) rfl)) (RQ.on rfl rfl rfl rfl (fun w hS=>(aj Vg rfl rfl (hS.aA 1 rfl) rfl)) ?_)))))))))
 refine RQ.on (v:=.int .i64 ((a:Int))) rfl rfl rfl rfl (fun w hS=>U) (RQ.on rfl rfl rfl rfl (fun w hS=>(bn Vg dj bb (by decide) (hw.o.now hS) rfl rfl (by omega) (by omega))) (RQ.on rfl rfl rfl rfl (fun w hS=>(cH (m:=a) (b:=0) U0 rfl dk (by decide) bb (hw.o.now hS) Ae rfl rfl)) (RQ.on rfl rfl rfl rfl (fun w hS=>(cH (m:=a) (b:=2) Vj rfl bu (by decide) bb (hw.o.now hS) Ae rfl rfl)) (RQ.on rfl rfl rfl rfl (fun w hS=>(c9 (m:=a) (j:=2) (a:=y) UU rfl bb (hw.o.now hS) rfl Ae rfl)) (RQ.on rfl rfl rfl rfl (fun w hS=>(ah Vb rfl fJ (by decide) rfl)) (RQ.on rfl rfl rfl rfl (fun w hS=>(aj Vg rfl rfl (hS.aA 1 rfl) rfl)) (RQ.on (v:=.int .i64 ((b:Int))) rfl rfl rfl rfl (fun w hS=>U) (RQ.on rfl rfl rfl rfl (fun w hS=>(bn Vg dj bb (by decide) (hw.o.now hS) rfl rfl (by omega) (by omega))) (RQ.on rfl rfl rfl rfl (fun w hS=>(cH (m:=b) (b:=0) U0 rfl dk (by decide) bb (hw.o.now hS) xh rfl rfl)) ?_)))))))))
 refine RQ.on rfl rfl rfl rfl (fun w hS=>(cH (m:=b) (b:=2) Vj rfl bu (by decide) bb (hw.o.now hS) xh rfl rfl)) (RQ.on rfl rfl rfl rfl (fun w hS=>(c9 (m:=b) (j:=2) (a:=z) UU rfl bb (hw.o.now hS) rfl xh rfl)) (RQ.on rfl rfl rfl rfl (fun w hS=>(an rfl rfl rfl rfl)) (RQ.on rfl rfl rfl rfl (fun w hS=>(ah U0 rfl dk (by decide) rfl)) (RQ.on rfl rfl rfl rfl (fun w hS=>(ah Vj rfl bu (by decide) rfl)) (RQ.on rfl rfl rfl rfl (fun w hS=>(aj UU rfl rfl (hS.aA 0 rfl) rfl)) (RQ.on rfl rfl rfl rfl (fun w hS=>(cI rfl rfl)) (RQ.ev (v:=.bool (decide ((Xb.wrap (y.2.2.1+z.2.2.1))=x.2.2.1))) rfl rfl (fun w hS=>(ao rfl)) (RQ.ev (v:=.bool (decide ((Xb.wrap (y.2.2.1+z.2.2.1))=x.2.2.1))) rfl rfl (fun w hS=>aa) (RQ.done (by kernel_rfl) ?_)))))))))
 refine ag (RW.ret (aL (RV.tmp rfl) ?_))
 exact⟨congrArg Vd (decide_eq_decide.2 ⟨fun h=>⟨⟨⟨by omega,by omega⟩,⟨by omega,by omega⟩,by omega,by omega,by omega,by omega⟩,by rw[if_neg gU];exact⟨by omega,⟨by omega,by omega⟩,fun p q hp hq=>by simp_all<;>omega,fun p q hp hq=>by simp_all<;>omega,a,b,y,z,ea,Ae,eb,xh,h⟩⟩,fun h=>by
  obtain⟨⟨⟨e1,e2⟩,⟨e3,e4⟩,e5,e6,e7,e8⟩,e9⟩:=h
  rw[if_neg gU]at e9
  obtain⟨m1,⟨m2,m3⟩,m4,m5,a_,b_,y_,z_,m6,m7,m8,m9,Co⟩:=e9
  have ia:a=a_:=by omega
  have ib:b=b_:=by omega
  subst ia ib
  rw[Ae]at m7
  rw[xh]at m9
  cases m7
  cases m9
  exact Co⟩),hN.aE⟩
theorem uh (rv wv:Value) (rk:List Int) (ws:List I5) (w:World) (hr:Sl vI w rv rk) (hw:Sm bC w wv ws):al UY 50 #[.agg #[rv,wv]] w fun r w'=>r=.int .i64 (dm rk ws)∧Ext w w':=by
 refine al.start Tryz.func50 rfl (US rfl) ?_
 rw[bL]
 have hN:=ak.nil w none_
 refine RW.seq (RW.region ?_)
 refine RL.op rfl rfl (bq (cs:=[rv,wv]) rfl rfl hN ?_)
 clear hN
 intro g1 w1 (hN:ak w none_ w1 [_])
 refine RL.ev (v:=.int .i64 (0)) rfl rfl aa (RL.nil (ag ?_))
 iterate 2 refine RW.seq ?_
 refine RW.region (RL.ev rfl rfl (ah Vb rfl b7 (by decide) rfl) (RL.ev rfl rfl (aj UW rfl rfl (hN.aA 0 rfl) rfl) ?_))
 have jb:=(hr.o.now hN).aY
 refine RL.ev rfl rfl (aQ UW (hr.o.now hN) rfl) (RL.ev rfl rfl (cN rfl rfl) (RL.ev (v:=.bool (decide (16777216<(rk.length:Int)))) rfl rfl U ?_))
 by_cases yH:16777216<(rk.length:Int)
 rw[decide_eq_true yH]
 iterate 4 refine RL.off rfl rfl (by decide) rfl rfl ?_
 refine RL.ev (v:=.bool true) rfl rfl (ao rfl) (RL.nil (ag (RW.bK rfl (RW.seq (RW.region (RL.ev (v:=.int .i64 (3)) rfl rfl aa (RL.nil (ag (RW.ret ?_)))))))))
 refine aD (aL (RV.tmp rfl) ?_)
 exact⟨congrArg (Vn .i64) (show dm rk ws=3 by unfold dm;rw[if_pos (by omega)]).symm,hN.aE⟩
 rw[decide_eq_false yH]
 refine RL.aI rfl rfl (by decide) rfl rfl (ah Vb rfl fJ (by decide) rfl) (RL.aI rfl rfl (by decide) rfl rfl (aj Vg rfl rfl (hN.aA 0 rfl) rfl) ?_)
 have mQ:=(hw.o.now hN).aY
 refine RL.aI rfl rfl (by decide) rfl rfl (bQ Vg (hw.o.now hN) rfl) (RL.aI rfl rfl (by decide) rfl rfl (cN rfl rfl) (RL.ev (v:=.bool (decide (67108864<(ws.length:Int)))) rfl rfl (aH rfl) (RL.nil (ag ?_))))
 refine RW.aN _ rfl (fun Qg=>?_) (fun Qg=>?_)
 refine RW.seq (RW.region (RL.ev (v:=.int .i64 (3)) rfl rfl aa (RL.nil (ag (RW.ret (aD (aL (RV.tmp rfl) ?_)))))))
 exact⟨congrArg (Vn .i64) (show dm rk ws=3 by unfold dm;rw[if_pos (by omega)]).symm,hN.aE⟩
 refine RW.skip (ag ?_)
 iterate 2 refine RW.seq ?_
 refine RW.region (RL.ev (v:=.int .i64 (0)) rfl rfl aa (RL.nil (ag (RW.block ?_))))
 refine RW.loop (fun k R0 bT=>∃q:Nat,R0 1=.pointer (some ⟨g1,0,none⟩)∧R0 3=.int .i64 ((q:Int))∧ak w none_ bT [.aA g1 [rv,wv] 28]∧(q+k=rk.length)∧(∀m:Nat,m<q→(m:Int)∈rk)) (rk.length) ?_ ?_
 exact⟨0,rfl,rfl,hN,by omega,fun m hm=>absurd hm (by omega)⟩
 clear hN
 rintro k R0 bT ⟨q,bw,ca,hN,eR,Oc⟩
 have bY:∃b6,R0=(aZ (aZ b6 1 _) 3 _):=⟨R0,by rw[ai bw,ai ca]⟩
 obtain⟨b6,rfl⟩:=bY
 clear bw ca
 iterate 2 refine RW.seq ?_
 refine RW.region (RL.ev (v:=.int .i64 ((q:Int))) rfl rfl U (RL.ev rfl rfl (ah Vb rfl b7 (by decide) rfl) (RL.ev rfl rfl (aj UW rfl rfl (hN.aA 0 rfl) rfl) (RL.ev rfl rfl (aQ UW (hr.o.now hN) rfl) (RL.ev rfl rfl (aV rfl rfl) (RL.nil (ag ?_)))))))
 refine RW.aN _ rfl (fun bW=>?_) (fun bW=>?_)
 refine RW.skip (ag (RW.seq (RW.block (RW.seq (RW.region (RL.ev rfl rfl (aG (cs:=[rv,wv]) Vb rfl dr rfl (hN.aA 0 rfl)) (RL.ev (v:=.int .i64 ((q:Int))) rfl rfl U ?_)))))))
 refine RL.op rfl rfl (aR ab8 rfl rfl rfl rfl ((AP _ _ rk ws _ (hr.o.now hN) (hw.o.now hN) ((q:Int))).mono ?_))
 rintro _ w4 ⟨rfl,aW⟩
 replace hN:=hN.ext aW
 clear aW
 refine RL.ev rfl rfl (aV rfl rfl) (RL.nil (ag ?_))
 refine RW.aN _ rfl (fun eQ=>?_) (fun eQ=>?_)
 refine RW.seq (RW.region (RL.ev (v:=.int .i64 (2)) rfl rfl aa (RL.nil (ag (RW.ret (aJ ?_))))))
 iterate 2 refine aD ?_
 refine aJ (aD (aL (RV.tmp rfl) ?_))
 exact⟨congrArg (Vn .i64) (show dm rk ws=2 by unfold dm;rw[if_neg (by omega),if_neg (fun h=>by first|exact absurd (cA.2 (h.1 q (by omega))) (by omega)|exact absurd (h.2 i x hx) (by assumption))]).symm,hN.aE⟩
 refine RW.skip (a7 (ag (RW.region (RL.ev (v:=.int .i64 ((q:Int))) rfl rfl U (RL.ev rfl rfl (an rfl rfl rfl (bc (by omega) (by omega))) (RL.ev (v:=.int .i64 ((q:Int)+1)) rfl rfl aa (RL.nil (ag ?_))))))))
 exact⟨k-1,by omega,q+1,rfl,rfl,hN,by omega,fun m hm=>(VH m q).elim (Oc m) (fun e=>(show m=q from by omega)▸cA.1 (by omega))⟩
 refine RW.exit ?_
 iterate 2 refine bm ?_
 refine aO (ag ?_)
 iterate 2 refine RW.seq ?_
 refine RW.region (RL.ev (v:=.int .i64 (0)) rfl rfl aa (RL.nil (ag (RW.block ?_))))
 refine RW.loop (fun k2 R1 fI=>∃i:Nat,R1 1=.pointer (some ⟨g1,0,none⟩)∧R1 4=.int .i64 ((i:Int))∧ak w none_ fI [.aA g1 [rv,wv] 28]∧(i+k2=ws.length)∧(∀m:Nat,m<rk.length→(m:Int)∈rk)∧(∀(m:Nat) (y:I5),m<i→ws[m]?=some y→Oh rk ws m y)) (ws.length) ?_ ?_
 exact⟨0,rfl,rfl,hN,by omega,fun m hm=>Oc m (by omega),fun m y hm=>absurd hm (by omega)⟩
 clear hN
 rintro k2 R1 fI ⟨i,bw,cg,hN,TE,Oc,RP⟩
 have bY:∃gY,R1=(aZ (aZ gY 1 _) 4 _):=⟨R1,by rw[ai bw,ai cg]⟩
 obtain⟨gY,rfl⟩:=bY
 clear bw cg
 iterate 2 refine RW.seq ?_
 refine RW.region (RL.ev (v:=.int .i64 ((i:Int))) rfl rfl U (RL.ev rfl rfl (ah Vb rfl fJ (by decide) rfl) (RL.ev rfl rfl (aj Vg rfl rfl (hN.aA 0 rfl) rfl) (RL.ev rfl rfl (bQ Vg (hw.o.now hN) rfl) (RL.ev rfl rfl (aV rfl rfl) (RL.nil (ag ?_)))))))
 refine RW.aN _ rfl (fun eI=>?_) (fun eI=>?_)
 refine RW.skip (ag (RW.seq (RW.block (RW.seq ?_))))
 obtain⟨x,hx⟩:∃x,ws[i]?=some x:=⟨_,UT (by omega)⟩
 refine RW.region (RL.ev rfl rfl (aG (cs:=[rv,wv]) Vb rfl dr rfl (hN.aA 0 rfl)) (RL.ev (v:=.int .i64 ((i:Int))) rfl rfl U ?_))
 refine RL.op rfl rfl (aR ab9 rfl rfl rfl rfl ((tA _ _ rk ws _ (hr.o.now hN) (hw.o.now hN) i x hx).mono ?_))
 rintro _ w5 ⟨rfl,aW⟩
 replace hN:=hN.ext aW
 clear aW
 refine RL.ev rfl rfl (cM rfl) (RL.nil (ag ?_))
 refine RW.aN _ rfl (fun tS=>?_) (fun tS=>?_)
 refine RW.seq (RW.region (RL.ev (v:=.int .i64 (2)) rfl rfl aa (RL.nil (ag (RW.ret (aJ ?_))))))
 iterate 2 refine aD ?_
 refine aJ (aD (aL (RV.tmp rfl) ?_))
 exact⟨congrArg (Vn .i64) (show dm rk ws=2 by unfold dm;rw[if_neg (by omega),if_neg (fun h=>by first|exact absurd (cA.2 (h.1 q (by omega))) (by omega)|exact absurd (h.2 i x hx) (by assumption))]).symm,hN.aE⟩
 refine RW.skip (a7 (ag (RW.region (RL.ev (v:=.int .i64 ((i:Int))) rfl rfl U (RL.ev rfl rfl (an rfl rfl rfl (bc (by omega) (by omega))) (RL.ev (v:=.int .i64 ((i:Int)+1)) rfl rfl aa (RL.nil (ag ?_))))))))
 exact⟨k2-1,by omega,i+1,rfl,rfl,hN,by omega,by omega,fun m y hm hy=>(VH m i).elim (fun e=>RP m y e hy) (fun e=>have e2:m=i:=(by omega);have e3:y=x:=Vq (hy.symm.trans (e2▸hx));e2▸e3▸Vi.1 tS)⟩
 refine RW.exit ?_
 iterate 2 refine bm ?_
 refine aO (ag (RW.seq (RW.region (RL.ev (v:=.int .i64 (0)) rfl rfl aa (RL.nil (ag (RW.ret (aL (RV.tmp rfl) ?_))))))))
 have fk:i=ws.length:=by omega
 subst fk
 exact⟨congrArg (Vn .i64) (show dm rk ws=0 by unfold dm;rw[if_neg (by omega),if_pos ⟨fun m hm=>Oc m (by omega),fun m y hy=>RP m y ((U5.1 hy).1) hy⟩]).symm,hN.aE⟩
end Go.Proofs.YtngkdkbpgoddlaaGreat
