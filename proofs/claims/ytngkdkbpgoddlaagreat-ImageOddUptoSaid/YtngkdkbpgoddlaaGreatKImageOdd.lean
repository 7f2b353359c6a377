/- The law ImageOdd, for every input of a bulk that the statement bounds: its row, out of the walks. -/
import Derived.Test.YtngkdkbpgoddlaaGreatKImageOdd6
set_option linter.unusedVariables false
set_option linter.unusedSimpArgs false
set_option linter.unusedSectionVars false
set_option maxHeartbeats 4000000
set_option maxRecDepth 100000
open Go.Calls renaming mono → ahM
open Go.DataW renaming weightsEach → aeB, trod_lt → agN
open Go.Proofs.Tryz renaming underlying3 → acs, underlying25 → acu, prog → acx, underlying28 → acz, underlying98 → acB, underlying194 → acD, underlying26 → acG, underlying96 → acH, underlying24 → acI, underlying34 → acL, underlying22 → acM, underlying38 → acQ, underlying5 → adr, underlying45 → adA, underlying111 → adB, func137 → ad1, underlying4 → aek, func18 → aeG, func15 → ae9, func13 → afa, func14 → agC, func12 → agD, func136 → ahc, func138 → ahd, func24 → ahs, func10 → ahB, f5 → ahL, func135 → aiy, checked → aiA, func11 → aiN, func19 → aiT, func5 → aja, func139 → akl, func132 → akm, func133 → akn, func134 → ako
open Go.Proofs.YtngkdkbpgoddlaaGreat.Rows renaming imageOddSpec → ae2, uptoBulk → afk, uptoBulkAll → afC, imageOddUptoRow → ahW, uptoSmall → aji
open Go.Proofs.YtngkdkbpgoddlaaGreat.Rows.OpenSpec renaming upto → afn
open Go.Value renaming okWide → aif
open Int renaming le_trans → afw
open List renaming length_append → acw, mem_of_getElem? → acy, getElem?_eq_some_iff → acA, length_singleton → acC, getElem?_eq_getElem → acE, length_cons → acF, length_nil → acN, not_mem_nil → acV, replicate → acY, mem_cons → ac1, length_map → ac4, length_take → ac5, flatten_cons → ac6, map_cons → adb, getElem?_set → adi, append_nil → adj, append_assoc → adk, take_length → adn, length_set → adG, sum_cons → ad4, map_map → aem, flatten_nil → aew, flatten_flatten → ae5, flatMap_def → afE, ext_getElem? → afU, replicate_succ' → ahV
open Nat renaming le_of_ble_eq_true → acv, le_trans → acR, le_refl → ac3
open Option.some renaming inj → ac2
namespace Go.Proofs.YtngkdkbpgoddlaaGreat
open Go.RowKit Go.Rl
open Go.Gr
theorem Ba (n:Nat) (v:Value) (l:List I3) (kv:Value) (ks:List Int) (w:World) (hv:Sm bJ w v l) (hk:Sl vI w kv ks) (hlen:ks.length=l.length) (hl:l.length≤40) (hn:n≤12) (E0:∀a∈l,FQ n a) (Va:ks=kept l):aM acx 60 #[.agg #[.int .i64 (n:Int),v,kv]] w fun r w'=>∃rv wv rk ways ins ls,r=.agg #[rv,wv]∧aI w none_ w' [.own vI 3 rv rk,.cp aV 5 98 wv ways]∧ze n l n rk ways ins ls:=by
 refine aM.aZ Tryz.func60 ?_
 rw[cM]
 have hN:=aI.nil w none_
 refine RW.aN ?_
 refine RL.aK (bL (cs:=[vJ n,v,kv]) rfl rfl hN ?_)
 clear hN
 intro g1 w1 (hN:aI w none_ w1 [_])
 refine RL.aK (bz (cs:=[vN,vN]) oz rfl hN ?_)
 clear hN
 intro g2 w2 (hN:aI w none_ w2 [_,_])
 refine RL.b6 (RL.ag (aE (cs:=[vJ n,v,kv]) adB qS (hN.aJ 1 rfl)) ?_)
 refine RL.aK (bo akm rfl rfl rfl ((Bv n _ l _ ks _ (hv.o.now hN) (hk.o.now hN) hlen hl hn).mono ?_))
 rintro _ w3 ⟨iv,lv,ov,ls,lost,rfl,Qw,TU,Qv,ZN,mR,hls,bn⟩
 have X2:=eG.Ko Qw (F:=b7 [.aJ g2 [vN,vN] 28,.aJ g1 [vJ n,v,kv] 111]) (fun k hk=>hN.qH hk)
 have X1:=fR.Kn TU (F:=b7 [.aJ g2 [vN,vN] 28,.aJ g1 [vJ n,v,kv] 111]) (fun k hk=>hN.qH hk)
 have X0:=eG.Ko Qv (F:=b7 [.aJ g2 [vN,vN] 28,.aJ g1 [vJ n,v,kv] 111]) (fun k hk=>hN.qH hk)
 replace hN:=hN.ext bn
 clear Qw TU Qv bn
 have Ym:=hN
 clear hN
 have hN:=Ym.here
 replace hN:aI w3 _ w3 [.aJ g2 [vN,vN] 28,.aJ g1 [vJ n,v,kv] 111]:=hN
 refine RL.aK (bz (cs:=[.int .i64 (0),vN,vN,vN]) jc rfl hN ?_)
 clear hN
 intro g5 w5 (hN:aI w3 _ w5 [_,_,_])
 refine RL.aK (aR (vs:=[vJ n,iv,lv,ov]) cK rfl rfl rfl (by intro u hu;simp only[ac1,acV,or_false]at hu;rcases hu with rfl|rfl|rfl|rfl<;>first|rfl|exact(X2.now hN).bW|exact(X1.now hN).bW|exact(X0.now hN).bW) hN 0 rfl rfl ?_)
 clear hN
 intro w6 (hN:aI w3 _ w6 [_,_,_])
 refine RL.b6 (RL.ag (bT (cs:=[vN,vN]) acz oz (places:=#[(0,1),(1,1)]) (by intro w;kernel_rfl) (pl:=[]) rfl (ps:=[]) rfl (zc:=[vN,vN]) rfl rfl) ?_)
 refine RL.aK (bz (cs:=[vN,vN]) oz rfl hN ?_)
 clear hN
 intro g7 w7 (hN:aI w3 _ w7 [_,_,_,_])
 refine RL.aK (aR (vs:=[vN,vN]) dy rfl rfl rfl (aW (aW cZ)) hN 0 rfl rfl ?_)
 clear hN
 intro w8 (hN:aI w3 _ w8 [_,_,_,_])
 refine RL.ak ?_
 iterate 2 refine RW.seq ?_
 replace hN:=hN.eK aV 5 98
 replace hN:=hN.dD vI 3
 replace hN:aI w3 _ w8 [.own vI 3 (vN) ([]),.cp aV 5 98 (vN) ([]),.aJ g7 [vN,vN] 28,.aJ g5 [vJ n,iv,lv,ov] 194,.aJ g2 [vN,vN] 28,.aJ g1 [vJ n,v,kv] 111]:=hN
 refine RW.region (RL.ag (v:=.int .i64 (0)) ai (RL.ak (RW.block ?_)))
 refine RW.loop (fun k R0 cz=>∃v0:Value,∃a0:List Int,∃i:Nat,R0 1=vP g1∧R0 2=vP g2∧R0 3=vP g5∧R0 4=vP g7∧R0 5=vJ i∧aI w3 (b7 [.aJ g2 [vN,vN] 28,.aJ g1 [vJ n,v,kv] 111]) cz [.own vI 3 (v0) (a0),.cp aV 5 98 (vN) ([]),.aJ g7 [v0,vN] 28,.aJ g5 [vJ n,iv,lv,ov] 194,.aJ g2 [vN,vN] 28,.aJ g1 [vJ n,v,kv] 111]∧(i+k=n)∧(a0=acY i 0)∧(a0.length=i)) (n) ?_ ?_
 exact⟨vN,[],0,rfl,rfl,rfl,rfl,rfl,hN,by omega,rfl,rfl⟩
 clear hN
 rintro k R0 cz ⟨v0,a0,i,bP,bV,cd,cA,cx,hN,gk,h0,Pn⟩
 have cB:=iw bP bV cd cA cx
 obtain⟨gF,rfl⟩:=cB
 clear bP bV cd cA cx
 iterate 2 refine RW.seq ?_
 refine RW.region (RL.ag (v:=vJ i) U (RL.ag (ah adB rfl dN) (RL.ag (ah acI rfl bK) (RL.ag (aj acs (hN.aJ 5 rfl)) (RL.ag (aL) (RL.ak ?_))))))
 refine RW.aG _ (fun cD=>?_) (fun cD=>?_)
 refine RW.skip (aw (RW.seq (RW.block (RW.region (RL.ag (ah acz rfl cj) (RL.ag (aj acu (hN.aJ 2 rfl)) ?_))))))
 refine RL.aK (cw (enc:=vI) (l:=[0]) (xs:=[.const (.int .i64 (0))]) acu bK mU rfl rfl (fun _=>rfl) rfl (by decide) (by decide) hN ?_)
 clear hN
 intro g9 w9 (hN:aI w3 _ w9 [_,_,_,_,_,_,_])
 refine RL.aK (b9 acu gz rfl (fun _=>rfl) hN 1 rfl rfl (hN.sl 0 rfl) rfl (by rw[Pn];simp only[acC,acF,acN];omega) (by decide) ?_)
 clear hN
 intro v10 lW (hN:aI w3 _ lW [_,_,_,_,_,_,_])
 refine RL.ag (ah acz rfl cj) ?_
 refine RL.aK (ca cj rfl rfl (hN.sl 1 rfl).cN (hN.sl 1 rfl).bW hN 3 rfl (acv rfl) ?_)
 clear hN
 intro lR (hN:aI w3 _ lR [_,_,_,_,_,_,_])
 refine RL.nil (aY (aw (RW.region (RL.ag (v:=vJ i) U (RL.ag (aD rfl rfl rfl (bh (by omega) (by omega))) (RL.ag (v:=.int .i64 ((i:Int)+1)) ai (RL.ak ?_)))))))
 exact⟨k-1,by omega,v10,a0++[0],i+1,rfl,rfl,rfl,rfl,rfl,(hN.sb [1,2,3,4,5,6]),by omega,by rw[ahV,h0],by rw[acw,Pn];rfl⟩
 refine RW.exit ?_
 iterate 2 refine bS ?_
 refine ba (aw ?_)
 iterate 2 refine RW.seq ?_
 refine RW.region (RL.ag (v:=.int .i64 (0)) ai (RL.ak (RW.block ?_)))
 refine RW.loop (fun k1 R1 eW=>∃vr:Value,∃rk:List Int,∃vw:Value,∃ways:List I5,∃iH:Value,∃bY:List Int,∃Hl:Value,∃cO:List I5,∃iG:Value,∃kL:List Int,∃r:Nat,R1 1=vP g1∧R1 2=vP g2∧R1 3=vP g5∧R1 4=vP g7∧R1 6=vJ r∧aI w3 (b7 [.aJ g2 [vN,vN] 28,.aJ g1 [vJ n,v,kv] 111]) eW [.own vI 3 (vr) (rk),.cp aV 5 98 (vw) (ways),.aJ g7 [vr,vw] 28,.aJ g5 [vJ n,iH,Hl,iG] 194,.aJ g2 [vN,vN] 28,.aJ g1 [vJ n,v,kv] 111]∧(r+k1=n)∧(ze n l r rk ways bY cO)∧(kL.length=n)∧(cO.length≤480+144*r)∧(nO (b7 [.own vI 3 (vr) (rk),.cp aV 5 98 (vw) (ways),.aJ g7 [vr,vw] 28,.aJ g5 [vJ n,iH,Hl,iG] 194,.aJ g2 [vN,vN] 28,.aJ g1 [vJ n,v,kv] 111]) vI eW iH bY)∧(mG (b7 [.own vI 3 (vr) (rk),.cp aV 5 98 (vw) (ways),.aJ g7 [vr,vw] 28,.aJ g5 [vJ n,iH,Hl,iG] 194,.aJ g2 [vN,vN] 28,.aJ g1 [vJ n,v,kv] 111]) aV eW Hl cO)∧(nO (b7 [.own vI 3 (vr) (rk),.cp aV 5 98 (vw) (ways),.aJ g7 [vr,vw] 28,.aJ g5 [vJ n,iH,Hl,iG] 194,.aJ g2 [vN,vN] 28,.aJ g1 [vJ n,v,kv] 111]) vI eW iG kL)) (n) ?_ ?_
 exact⟨v0,a0,vN,[],iv,(acY n 1),lv,ls,ov,lost,0,rfl,rfl,rfl,rfl,rfl,hN,by omega,ze.start E0 Va ZN (by rw[h0,show i=n by omega]),mR,by omega,X2.step hN,mG.step fN X1 hN,X0.step hN⟩
 clear hN
 rintro k1 R1 eW ⟨vr,rk,vw,ways,iH,bY,Hl,cO,iG,kL,r,bP,bV,cd,cA,cW,hN,Qj,hB,Lb,Ct,CD,Wf,CC⟩
 have cB:=iw bP bV cd cA cW
 obtain⟨sk,rfl⟩:=cB
 clear bP bV cd cA cW
 have Pm:=hN
 clear hN
 have hN:=Pm.here
 replace hN:aI eW _ eW [.own vI 3 (vr) (rk),.cp aV 5 98 (vw) (ways),.aJ g7 [vr,vw] 28,.aJ g5 [vJ n,iH,Hl,iG] 194,.aJ g2 [vN,vN] 28,.aJ g1 [vJ n,v,kv] 111]:=hN
 iterate 2 refine RW.seq ?_
 refine RW.region (RL.ag (v:=vJ r) U (RL.ag (ah adB rfl dN) (RL.ag (ah acI rfl bK) (RL.ag (aj acs (hN.aJ 5 rfl)) (RL.ag (aL) (RL.ak ?_))))))
 refine RW.aG _ (fun vT=>?_) (fun vT=>?_)
 refine RW.skip (aw (RW.seq (RW.block (RW.aN (RL.ag (aE (cs:=[vJ n,iH,Hl,iG]) acD cK (hN.aJ 3 rfl)) ?_)))))
 refine RL.aK (bo akn rfl rfl rfl ((B2 n _ _ _ bY cO kL _ (CD.now hN) (Wf.now hN) (CC.now hN) hB.tok.ins Lb (by omega)).mono ?_))
 rintro _ nR ⟨cy,rfl,Uu,bn⟩
 replace hN:=hN.ext bn
 clear bn
 have u5:=Uu (hB.left (by omega))
 have aan:=u5.1
 have aam:=u5.2.1
 refine RL.ag (v:=.int .i64 (cy)) ai (RL.ak (RW.seq ?_))
 have Ai:=hB.BN
 refine RW.region (RL.ag (ah acz rfl cj) (RL.ag (aj acu (hN.aJ 2 rfl)) (RL.ag (v:=.int .i64 (cy)) U (RL.ag (v:=vJ r) U (RL.ag (aC acu bK (hN.sl 0 rfl)) ?_)))))
 refine RL.aK (cu (m:=(cy).toNat) (a:=(r:Int)) bK hN 0 rfl rfl (by omega) rfl rfl rfl rfl ?_)
 clear hN
 intro o7 (hN:aI eW _ o7 [_,_,_,_,_,_])
 refine RL.b6 (RL.ag (aE (cs:=[vJ n,iH,Hl,iG]) acD cK (hN.aJ 3 rfl)) (RL.ag (v:=.int .i64 (cy)) U ?_))
 refine RL.aK (bu ako rfl rfl rfl rfl ((ye n _ _ _ bY cO kL _ (CD.now hN) (Wf.now hN) (CC.now hN) cy (iY r) hB.tok (gC r) (sM (by omega) hn) (afw (o6 (by omega)) (by decide)) hn).mono ?_))
 rintro kH qf ⟨out,cL,fJ,Oj,bn⟩
 replace hN:aI eW _ qf [_,_,_,_,_,_,_]:=hN.fF cL bn
 clear cL bn
 refine RL.ag (v:=kH) ai (RL.ak ?_)
 iterate 2 refine RW.seq ?_
 refine RW.region (RL.ag (v:=.int .i64 (0)) ai (RL.ak (RW.block ?_)))
 refine RW.loop (fun k2 R2 ij=>∃nc:Value,∃q:Nat,R2 1=vP g1∧R2 2=vP g2∧R2 3=vP g5∧R2 4=vP g7∧R2 6=vJ r∧R2 7=.int .i64 (cy)∧R2 8=kH∧R2 9=vJ q∧aI eW (b7 [.own vI 3 (vr) (rk),.cp aV 5 98 (vw) (ways),.aJ g7 [vr,vw] 28,.aJ g5 [vJ n,iH,Hl,iG] 194,.aJ g2 [vN,vN] 28,.aJ g1 [vJ n,v,kv] 111]) ij [.cp aV 5 98 (kH) (out),.own vI 3 (vr) ((rk).set (cy).toNat ((r:Int))),.cp aV 5 98 (vw) (ways),.aJ g7 [vr,vw] 28,.aJ g5 [vJ n,iH,nc,iG] 194,.aJ g2 [vN,vN] 28,.aJ g1 [vJ n,v,kv] 111]∧(q+k2=out.length)∧((bg n bY cO (out.take q)).length≤cO.length+q)∧(mG (b7 [.cp aV 5 98 (kH) (out),.own vI 3 (vr) ((rk).set (cy).toNat ((r:Int))),.cp aV 5 98 (vw) (ways),.aJ g7 [vr,vw] 28,.aJ g5 [vJ n,iH,nc,iG] 194,.aJ g2 [vN,vN] 28,.aJ g1 [vJ n,v,kv] 111]) aV ij nc (bg n bY cO (out.take q)))) (out.length) ?_ ?_
 exact⟨Hl,0,rfl,rfl,rfl,rfl,rfl,rfl,rfl,rfl,hN,by omega,ac3 _,(mG.step fN Wf hN)⟩
 clear hN
 rintro k2 R2 ij ⟨nc,q,bP,bV,cd,cA,cW,cF,cR,eg,hN,yq,OB,vY⟩
 have cB:=sR bP bV cd cA cW cF cR eg
 obtain⟨PR,rfl⟩:=cB
 clear bP bV cd cA cW cF cR eg
 have ja:=hN
 clear hN
 have hN:=ja.here
 replace hN:aI ij _ ij [.cp aV 5 98 (kH) (out),.own vI 3 (vr) ((rk).set (cy).toNat ((r:Int))),.cp aV 5 98 (vw) (ways),.aJ g7 [vr,vw] 28,.aJ g5 [vJ n,iH,nc,iG] 194,.aJ g2 [vN,vN] 28,.aJ g1 [vJ n,v,kv] 111]:=hN
 iterate 2 refine RW.seq ?_
 refine RW.region (RL.ag (v:=vJ q) U (RL.ag (v:=kH) U ?_))
 have Yf:=(hN.sm 0 rfl).bw
 refine RL.ag (bO acG (hN.sm 0 rfl)) (RL.ag (aL) (RL.ak ?_))
 refine RW.aG _ (fun eD=>?_) (fun eD=>?_)
 refine RW.skip (aw (RW.seq (RW.block (RW.seq ?_))))
 replace hN:=hN.ext (Ext.drew ij)
 refine RW.bD (fun u=>aI ij (b7 [.cp aV 5 98 (kH) (out),.own vI 3 (vr) ((rk).set (cy).toNat ((r:Int))),.cp aV 5 98 (vw) (ways),.aJ g7 [vr,vw] 28,.aJ g5 [vJ n,iH,nc,iG] 194,.aJ g2 [vN,vN] 28,.aJ g1 [vJ n,v,kv] 111]) u [.cp aV 5 98 (kH) (out),.own vI 3 (vr) ((rk).set (cy).toNat ((r:Int))),.cp aV 5 98 (vw) (ways),.aJ g7 [vr,vw] 28,.aJ g5 [vJ n,iH,nc,iG] 194,.aJ g2 [vN,vN] 28,.aJ g1 [vJ n,v,kv] 111]) 30 [(0,0),(1,0),(2,0),(3,0),(4,0),(5,0),(6,0),(7,0),(8,0),(9,0),(10,0),(11,0),(12,0),(13,0),(14,0),(15,0),(16,0),(17,0),(18,0),(19,0),(20,0),(21,0),(22,0)] (by intro _ _ _ h;exact h) hN (RQ.aA rfl (fun w hS=>(aE (cs:=[vJ n,iH,nc,iG]) acD cK (hS.aJ 4 rfl))) (RQ.aA (v:=kH) rfl (fun w hS=>U) (RQ.aA (v:=vJ q) rfl (fun w hS=>U) (RQ.aA rfl (fun w hS=>(aU acG er aH (hS.sm 0 rfl))) ?_))))
 have aO:=da (out) q
 obtain⟨ap,bX⟩:=aO
 refine RQ.aA rfl (fun w hS=>(bl (m:=q) (b:=0) acB rfl bK aH (hS.sm 0 rfl) bX)) (RQ.aA rfl (fun w hS=>(bB (m:=q) (j:=0) (a:=ap) acs aH (hS.sm 0 rfl) bX)) (RQ.aA (v:=kH) rfl (fun w hS=>U) (RQ.aA (v:=vJ q) rfl (fun w hS=>U) (RQ.aA rfl (fun w hS=>(aU acG er aH (hS.sm 0 rfl))) (RQ.aA rfl (fun w hS=>(bl (m:=q) (b:=0) acB rfl bK aH (hS.sm 0 rfl) bX)) (RQ.aA rfl (fun w hS=>(bB (m:=q) (j:=1) (a:=ap) acs aH (hS.sm 0 rfl) bX)) (RQ.aA (v:=kH) rfl (fun w hS=>U) (RQ.aA (v:=vJ q) rfl (fun w hS=>U) (RQ.aA rfl (fun w hS=>(aU acG er aH (hS.sm 0 rfl))) ?_)))))))))
 refine RQ.aA rfl (fun w hS=>(bl (m:=q) (b:=0) acB rfl cU aH (hS.sm 0 rfl) bX)) (RQ.aA rfl (fun w hS=>(bl (m:=q) (b:=2) acH rfl bK aH (hS.sm 0 rfl) bX)) (RQ.aA rfl (fun w hS=>(bB (m:=q) (j:=2) (a:=ap) acs aH (hS.sm 0 rfl) bX)) (RQ.aA (v:=kH) rfl (fun w hS=>U) (RQ.aA (v:=vJ q) rfl (fun w hS=>U) (RQ.aA rfl (fun w hS=>(aU acG er aH (hS.sm 0 rfl))) (RQ.aA rfl (fun w hS=>(bl (m:=q) (b:=0) acB rfl cU aH (hS.sm 0 rfl) bX)) (RQ.aA rfl (fun w hS=>(bl (m:=q) (b:=2) acH rfl bK aH (hS.sm 0 rfl) bX)) (RQ.aA rfl (fun w hS=>(bB (m:=q) (j:=3) (a:=ap) acs aH (hS.sm 0 rfl) bX)) ?_))))))))
 refine RQ.two (i:=23) (j:=27) [(24,0),(25,0),(26,0),(27,1),(28,1),(29,0)] [(23,1),(24,0),(25,0),(26,0),(28,1),(29,0)] (by kernel_rfl) rfl rfl rfl rfl (by kernel_rfl) ?_ ?_
 refine(lF aiy rfl rfl rfl rfl rfl rfl rfl ((tE (b7 [.cp aV 5 98 (kH) (out),.own vI 3 (vr) ((rk).set (cy).toNat ((r:Int))),.cp aV 5 98 (vw) (ways),.aJ g7 [vr,vw] 28,.aJ g5 [vJ n,iH,nc,iG] 194,.aJ g2 [vN,vN] 28,.aJ g1 [vJ n,v,kv] 111]) (fun k hk=>hN.qH hk) n _ _ _ bY (bg n bY cO (out.take q)) kL ap.1 ap.2.1 ap.2.2.1 ap.2.2.2.1 ((CD.step ja).step hN) (mG.step fN vY hN) ((CC.step ja).step hN) hB.tok.ins (by omega)).mono ?_))
 rintro _ u0 ⟨Hm,JC,rfl,Pc,bn⟩
 replace hN:=hN.ext bn
 clear bn
 have yz:=hN
 clear hN
 have hN:=yz.here
 replace hN:aI u0 _ u0 [.cp aV 5 98 (kH) (out),.own vI 3 (vr) ((rk).set (cy).toNat ((r:Int))),.cp aV 5 98 (vw) (ways),.aJ g7 [vr,vw] 28,.aJ g5 [vJ n,iH,nc,iG] 194,.aJ g2 [vN,vN] 28,.aJ g1 [vJ n,v,kv] 111]:=hN
 refine⟨(yz.back hN),?_⟩
 refine RQ.aA (v:=.tuple #[.agg #[vJ n,iH,Hm,iG],.bool JC]) rfl (fun w hS=>U) ?_
 iterate 2 refine RQ.aA rfl (fun w hS=>(bA)) ?_
 refine RQ.b0 rfl (bz (cs:=[.int .i64 (0),vN,vN,vN]) jc rfl hN ?_)
 clear hN
 intro g20 DY (hN:aI u0 _ DY [_,_,_,_,_,_,_,_])
 refine⟨((yz.back hN).sb [1,2,3,4,5,6,7]),?_⟩
 refine RQ.b0 rfl (aR (vs:=[vJ n,iH,Hm,iG]) cK rfl rfl rfl (by intro u hu;simp only[ac1,acV,or_false]at hu;rcases hu with rfl|rfl|rfl|rfl<;>first|rfl|exact(((CD.step ja).step yz).now hN).bW|exact(((CC.step ja).step yz).now hN).bW|exact(Pc.now hN).bW) hN 0 rfl rfl ?_)
 clear hN
 intro C4 (hN:aI u0 _ C4 [_,_,_,_,_,_,_,_])
 refine⟨((yz.back hN).sb [1,2,3,4,5,6,7]),?_⟩
 refine RQ.aA (v:=.bool JC) rfl (fun w hS=>ai) (RQ.bq (aw (RW.region (RL.ag (aE (cs:=[vJ n,iH,Hm,iG]) acD cK (hN.aJ 0 rfl)) ?_))))
 refine RL.aK (aR (vs:=[vJ n,iH,Hm,iG]) cK rfl rfl rfl (by intro u hu;simp only[ac1,acV,or_false]at hu;rcases hu with rfl|rfl|rfl|rfl<;>first|rfl|exact(((CD.step ja).step yz).now hN).bW|exact(((CC.step ja).step yz).now hN).bW|exact(Pc.now hN).bW) hN 5 rfl rfl ?_)
 clear hN
 intro y1 (hN:aI u0 _ y1 [_,_,_,_,_,_,_,_])
 refine RL.nil (aY (aw (RW.region (RL.ag (v:=vJ q) U (RL.ag (aD rfl rfl rfl (bh (by omega) (by omega))) (RL.ag (v:=.int .i64 ((q:Int)+1)) ai (RL.ak ?_)))))))
 exact⟨k2-1,by omega,Hm,q+1,rfl,rfl,rfl,rfl,rfl,rfl,rfl,rfl,(ja.back (yz.back (hN.sb [1,2,3,4,5,6,7]))),by omega,by rw[kJ bX];have:=tD n bY (bg n bY cO (out.take q)) ap.1 ap.2.1 ap.2.2.1 ap.2.2.2.1;omega,by rw[kJ bX];exact mG.step fN Pc (hN.sb [1,2,3,4,5,6,7])⟩
 refine(bz (cs:=[.int .i64 (0),vN,vN,vN]) jc rfl hN ?_)
 clear hN
 intro Yy zk (hN:aI ij _ zk [_,_,_,_,_,_,_,_])
 refine⟨(hN.sb [1,2,3,4,5,6,7]),?_⟩
 refine RQ.b0 rfl (lF aiy rfl rfl rfl rfl rfl rfl rfl ((tE (b7 [.aJ Yy [.int .i64 (0),vN,vN,vN] 194,.cp aV 5 98 (kH) (out),.own vI 3 (vr) ((rk).set (cy).toNat ((r:Int))),.cp aV 5 98 (vw) (ways),.aJ g7 [vr,vw] 28,.aJ g5 [vJ n,iH,nc,iG] 194,.aJ g2 [vN,vN] 28,.aJ g1 [vJ n,v,kv] 111]) (fun k hk=>hN.qH hk) n _ _ _ bY (bg n bY cO (out.take q)) kL ap.1 ap.2.1 ap.2.2.1 ap.2.2.2.1 ((CD.step ja).step hN) (mG.step fN vY hN) ((CC.step ja).step hN) hB.tok.ins (by omega)).mono ?_))
 rintro _ C3 ⟨Hk,J2,rfl,Pb,bn⟩
 replace hN:=hN.ext bn
 clear bn
 have AE:=hN
 clear hN
 have hN:=AE.here
 replace hN:aI C3 _ C3 [.aJ Yy [.int .i64 (0),vN,vN,vN] 194,.cp aV 5 98 (kH) (out),.own vI 3 (vr) ((rk).set (cy).toNat ((r:Int))),.cp aV 5 98 (vw) (ways),.aJ g7 [vr,vw] 28,.aJ g5 [vJ n,iH,nc,iG] 194,.aJ g2 [vN,vN] 28,.aJ g1 [vJ n,v,kv] 111]:=hN
 refine⟨((AE.back hN).sb [1,2,3,4,5,6,7]),?_⟩
 refine RQ.aA (v:=.tuple #[.agg #[vJ n,iH,Hk,iG],.bool J2]) rfl (fun w hS=>U) ?_
 iterate 2 refine RQ.aA rfl (fun w hS=>(bA)) ?_
 refine RQ.b0 rfl (aR (vs:=[vJ n,iH,Hk,iG]) cK rfl rfl rfl (by intro u hu;simp only[ac1,acV,or_false]at hu;rcases hu with rfl|rfl|rfl|rfl<;>first|rfl|exact(((CD.step ja).step AE).now hN).bW|exact(((CC.step ja).step AE).now hN).bW|exact(Pb.now hN).bW) hN 0 rfl rfl ?_)
 clear hN
 intro DX (hN:aI C3 _ DX [_,_,_,_,_,_,_,_])
 refine⟨((AE.back hN).sb [1,2,3,4,5,6,7]),?_⟩
 refine RQ.aA (v:=.bool J2) rfl (fun w hS=>ai) (RQ.bq (aw (RW.region (RL.ag (aE (cs:=[vJ n,iH,Hk,iG]) acD cK (hN.aJ 0 rfl)) ?_))))
 refine RL.aK (aR (vs:=[vJ n,iH,Hk,iG]) cK rfl rfl rfl (by intro u hu;simp only[ac1,acV,or_false]at hu;rcases hu with rfl|rfl|rfl|rfl<;>first|rfl|exact(((CD.step ja).step AE).now hN).bW|exact(((CC.step ja).step AE).now hN).bW|exact(Pb.now hN).bW) hN 5 rfl rfl ?_)
 clear hN
 intro Gb (hN:aI C3 _ Gb [_,_,_,_,_,_,_,_])
 refine RL.nil (aY (aw (RW.region (RL.ag (v:=vJ q) U (RL.ag (aD rfl rfl rfl (bh (by omega) (by omega))) (RL.ag (v:=.int .i64 ((q:Int)+1)) ai (RL.ak ?_)))))))
 exact⟨k2-1,by omega,Hk,q+1,rfl,rfl,rfl,rfl,rfl,rfl,rfl,rfl,(ja.back (AE.back (hN.sb [1,2,3,4,5,6,7]))),by omega,by rw[kJ bX];have:=tD n bY (bg n bY cO (out.take q)) ap.1 ap.2.1 ap.2.2.1 ap.2.2.2.1;omega,by rw[kJ bX];exact mG.step fN Pb (hN.sb [1,2,3,4,5,6,7])⟩
 refine RW.exit ?_
 iterate 2 refine bS ?_
 refine ba (aw (RW.seq ?_))
 have fO:q=out.length:=by omega
 rw[fO,adn]at vY OB
 replace hN:aI ij _ ij [.cp aV 5 98 (kH) (out),.own vI 3 (vr) ((rk).set (cy).toNat ((r:Int))),.cp aV 5 98 (vw) (ways),.aJ g7 [vr,vw] 28,.aJ g5 [vJ n,iH,nc,iG] 194,.aJ g2 [vN,vN] 28,.aJ g1 [vJ n,v,kv] 111]:=hN
 have Zs:=hB.Tu
 have US:(cv (bg n bY cO out) cy n).length≤n:=eh _ n
 have aao:(dj (bg n bY cO out) cy n).length≤n:=eh _ n
 refine RW.region (RL.ag (aE (cs:=[vJ n,iH,nc,iG]) acD cK (hN.aJ 4 rfl)) (RL.ag (v:=.int .i64 (cy)) U ?_))
 refine RL.aK (bu ahc rfl rfl rfl rfl ((oI n _ _ _ bY (bg n bY cO out) kL _ ((CD.step ja).now hN) (vY.now hN) ((CC.step ja).now hN) cy (by omega)).mono ?_))
 rintro y5 FG ⟨cL,bn⟩
 replace hN:aI ij _ FG [_,_,_,_,_,_,_,_]:=hN.cc (l:=cv (bg n bY cO out) cy n) cL bn
 clear cL bn
 refine RL.ag (v:=y5) ai (RL.ak ?_)
 iterate 2 refine RW.seq ?_
 refine RW.region (RL.ag (v:=.int .i64 (0)) ai (RL.ak (RW.block ?_)))
 refine RW.loop (fun k3 R3 P2=>∃LX:Value,∃cJ:List I5,∃i3:Nat,R3 1=vP g1∧R3 2=vP g2∧R3 3=vP g5∧R3 4=vP g7∧R3 6=vJ r∧R3 7=.int .i64 (cy)∧R3 12=y5∧R3 13=vJ i3∧aI ij (b7 [.cp aV 5 98 (kH) (out),.own vI 3 (vr) ((rk).set (cy).toNat ((r:Int))),.cp aV 5 98 (vw) (ways),.aJ g7 [vr,vw] 28,.aJ g5 [vJ n,iH,nc,iG] 194,.aJ g2 [vN,vN] 28,.aJ g1 [vJ n,v,kv] 111]) P2 [.own vI 3 (y5) (cv (bg n bY cO out) cy n),.cp aV 5 98 (kH) (out),.own vI 3 (vr) ((rk).set (cy).toNat ((r:Int))),.cp aV 5 98 (LX) (cJ),.aJ g7 [vr,LX] 28,.aJ g5 [vJ n,iH,nc,iG] 194,.aJ g2 [vN,vN] 28,.aJ g1 [vJ n,v,kv] 111]∧(i3+k3=(cv (bg n bY cO out) cy n).length)∧(cJ=ways++((cv (bg n bY cO out) cy n).take i3).map (sP (bg n bY cO out) cy))∧(cJ.length≤ways.length+i3)) ((cv (bg n bY cO out) cy n).length) ?_ ?_
 exact⟨vw,ways,0,rfl,rfl,rfl,rfl,rfl,rfl,rfl,rfl,hN,by omega,by simp,ac3 _⟩
 clear hN
 rintro k3 R3 P2 ⟨LX,cJ,i3,bP,bV,cd,cA,cW,cF,eP,ft,hN,hk3,Cn,TH⟩
 have cB:=sR bP bV cd cA cW cF eP ft
 obtain⟨R3_,rfl⟩:=cB
 clear bP bV cd cA cW cF eP ft
 iterate 2 refine RW.seq ?_
 refine RW.region (RL.ag (v:=vJ i3) U (RL.ag (v:=y5) U ?_))
 have X9:=(hN.sl 0 rfl).bw
 refine RL.ag (aQ acu (hN.sl 0 rfl)) (RL.ag (aL) (RL.ak ?_))
 refine RW.aG _ (fun yu=>?_) (fun yu=>?_)
 refine RW.skip (aw (RW.seq (RW.block (RW.seq ?_))))
 replace hN:=hN.ext (Ext.drew P2)
 refine RW.bD (fun u=>aI ij (b7 [.cp aV 5 98 (kH) (out),.own vI 3 (vr) ((rk).set (cy).toNat ((r:Int))),.cp aV 5 98 (vw) (ways),.aJ g7 [vr,vw] 28,.aJ g5 [vJ n,iH,nc,iG] 194,.aJ g2 [vN,vN] 28,.aJ g1 [vJ n,v,kv] 111]) u [.own vI 3 (y5) (cv (bg n bY cO out) cy n),.cp aV 5 98 (kH) (out),.own vI 3 (vr) ((rk).set (cy).toNat ((r:Int))),.cp aV 5 98 (LX) (cJ),.aJ g7 [vr,LX] 28,.aJ g5 [vJ n,iH,nc,iG] 194,.aJ g2 [vN,vN] 28,.aJ g1 [vJ n,v,kv] 111]) 13 [(0,0),(1,0),(2,0),(3,0),(4,0),(5,0)] (by intro _ _ _ h;exact h) hN (RQ.aA rfl (fun w hS=>(aE (cs:=[vJ n,iH,nc,iG]) acD cK (hS.aJ 5 rfl))) (RQ.aA (v:=.int .i64 (cy)) rfl (fun w hS=>U) (RQ.aA (v:=y5) rfl (fun w hS=>U) (RQ.aA (v:=vJ i3) rfl (fun w hS=>U) (RQ.aA rfl (fun w hS=>(aC acu bK (hS.sl 0 rfl))) ?_)))))
 have aO:=da ((cv (bg n bY cO out) cy n)) i3
 obtain⟨ac,jG⟩:=aO
 refine RQ.aA rfl (fun w hS=>(aF (m:=i3) (a:=ac) acs (hS.sl 0 rfl) jG)) ?_
 refine RQ.two (i:=6) (j:=10) [(7,0),(8,0),(9,0),(10,1),(11,1),(12,0)] [(6,1),(7,0),(8,0),(9,0),(11,1),(12,0)] (by kernel_rfl) rfl rfl rfl rfl (by kernel_rfl) ?_ ?_
 refine(cq ad1 rfl rfl rfl rfl rfl ((gG n _ _ _ bY (bg n bY cO out) kL _ ((CD.step ja).now hN) (vY.now hN) ((CC.step ja).now hN) cy ac).mono ?_))
 rintro _ Ny ⟨rfl,bn⟩
 replace hN:=hN.ext bn
 clear bn
 refine⟨hN,?_⟩
 refine RQ.aA (v:=.tuple #[.agg #[.int .i64 (((bC (bg n bY cO out) cy ac).getD (0,0,0)).1),.int .i64 (((bC (bg n bY cO out) cy ac).getD (0,0,0)).2.1),.int .i64 (((bC (bg n bY cO out) cy ac).getD (0,0,0)).2.2)],.bool (decide (cQ (bg n bY cO out) cy ac))]) rfl (fun w hS=>U) ?_
 iterate 2 refine RQ.aA rfl (fun w hS=>(bA)) ?_
 refine RQ.b0 rfl (bz (cs:=[.int .i64 (0),.int .i64 (0),.int .i64 (0)]) eV rfl hN ?_)
 clear hN
 intro Wn Kd (hN:aI ij _ Kd [_,_,_,_,_,_,_,_,_])
 refine⟨(hN.sb [1,2,3,4,5,6,7,8]),?_⟩
 refine RQ.b0 rfl (aR (vs:=[.int .i64 (((bC (bg n bY cO out) cy ac).getD (0,0,0)).1),.int .i64 (((bC (bg n bY cO out) cy ac).getD (0,0,0)).2.1),.int .i64 (((bC (bg n bY cO out) cy ac).getD (0,0,0)).2.2)]) cU rfl rfl rfl (aW (aW (aW cZ))) hN 0 rfl rfl ?_)
 clear hN
 intro FE (hN:aI ij _ FE [_,_,_,_,_,_,_,_,_])
 refine⟨(hN.sb [1,2,3,4,5,6,7,8]),?_⟩
 refine RQ.aA (v:=.bool (decide (cQ (bg n bY cO out) cy ac))) rfl (fun w hS=>ai) (RQ.bq (aw ?_))
 replace hN:=hN.ext (Ext.drew FE)
 refine RW.bD (fun u=>aI ij (b7 [.cp aV 5 98 (kH) (out),.own vI 3 (vr) ((rk).set (cy).toNat ((r:Int))),.cp aV 5 98 (vw) (ways),.aJ g7 [vr,vw] 28,.aJ g5 [vJ n,iH,nc,iG] 194,.aJ g2 [vN,vN] 28,.aJ g1 [vJ n,v,kv] 111]) u [.aJ Wn [.int .i64 (((bC (bg n bY cO out) cy ac).getD (0,0,0)).1),.int .i64 (((bC (bg n bY cO out) cy ac).getD (0,0,0)).2.1),.int .i64 (((bC (bg n bY cO out) cy ac).getD (0,0,0)).2.2)] 96,.own vI 3 (y5) (cv (bg n bY cO out) cy n),.cp aV 5 98 (kH) (out),.own vI 3 (vr) ((rk).set (cy).toNat ((r:Int))),.aJ g7 [vr,LX] 28,.aJ g5 [vJ n,iH,nc,iG] 194,.aJ g2 [vN,vN] 28,.aJ g1 [vJ n,v,kv] 111]) 12 [(0,0),(1,0),(2,0),(3,0),(4,0),(5,0),(6,0),(7,0),(8,0),(9,1),(10,1),(11,0),(12,2)] (by intro _ _ _ h;exact h) (hN.sb [0,1,2,3,5,6,7,8]) (RQ.aA rfl (fun w hS=>(ah acz rfl eM)) (RQ.aA rfl (fun w hS=>(aj acG (hS.aJ 4 rfl))) (RQ.aA (v:=.int .i64 (cy)) rfl (fun w hS=>U) (RQ.aA (v:=y5) rfl (fun w hS=>U) (RQ.aA (v:=vJ i3) rfl (fun w hS=>U) (RQ.aA rfl (fun w hS=>(aC acu bK (hS.sl 1 rfl))) (RQ.aA rfl (fun w hS=>(aF (m:=i3) (a:=ac) acs (hS.sl 1 rfl) jG)) ?_)))))))
 refine RQ.aA rfl (fun w hS=>(aE (cs:=[.int .i64 (((bC (bg n bY cO out) cy ac).getD (0,0,0)).1),.int .i64 (((bC (bg n bY cO out) cy ac).getD (0,0,0)).2.1),.int .i64 (((bC (bg n bY cO out) cy ac).getD (0,0,0)).2.2)]) acH cU (hS.aJ 0 rfl))) (RQ.aA rfl (fun w hS=>(bT (cs:=[.int .i64 (cy),.int .i64 (ac),.int .i64 (((bC (bg n bY cO out) cy ac).getD (0,0,0)).1),.int .i64 (((bC (bg n bY cO out) cy ac).getD (0,0,0)).2.1),.int .i64 (((bC (bg n bY cO out) cy ac).getD (0,0,0)).2.2)]) acB gu (places:=#[(0,1),(1,1),(2,3)]) (by intro w;kernel_rfl) (pl:=[(0,.tmp 109),(1,.tmp 113),(2,.tmp 114)]) rfl (ps:=[(0,.int .i64 (cy)),(1,.int .i64 (ac)),(2,.agg #[.int .i64 (((bC (bg n bY cO out) cy ac).getD (0,0,0)).1),.int .i64 (((bC (bg n bY cO out) cy ac).getD (0,0,0)).2.1),.int .i64 (((bC (bg n bY cO out) cy ac).getD (0,0,0)).2.2)])]) rfl (zc:=[.int .i64 (0),.int .i64 (0),.int .i64 (0),.int .i64 (0),.int .i64 (0)]) rfl (aP (vs:=[.int .i64 (cy)]) rfl rfl (acv rfl) (aP (vs:=[.int .i64 (ac)]) rfl rfl (acv rfl) (aP (vs:=[.int .i64 (((bC (bg n bY cO out) cy ac).getD (0,0,0)).1),.int .i64 (((bC (bg n bY cO out) cy ac).getD (0,0,0)).2.1),.int .i64 (((bC (bg n bY cO out) cy ac).getD (0,0,0)).2.2)]) rfl rfl (acv rfl) rfl))))) ?_)
 refine RQ.b0 rfl (dB (cf:=aV) (s:=5) (pl:=[(0,.tmp 115)]) (ps:=[(0,.agg #[.int .i64 (cy),.int .i64 (ac),.int .i64 (((bC (bg n bY cO out) cy ac).getD (0,0,0)).1),.int .i64 (((bC (bg n bY cO out) cy ac).getD (0,0,0)).2.1),.int .i64 (((bC (bg n bY cO out) cy ac).getD (0,0,0)).2.2)])]) (zc:=[.int .i64 (0),.int .i64 (0),.int .i64 (0),.int .i64 (0),.int .i64 (0)]) (l:=[(cy,ac,((bC (bg n bY cO out) cy ac).getD (0,0,0)).1,((bC (bg n bY cO out) cy ac).getD (0,0,0)).2.1,((bC (bg n bY cO out) cy ac).getD (0,0,0)).2.2)]) acG jx (by kernel_rfl) rfl rfl (aP (vs:=[.int .i64 (cy),.int .i64 (ac),.int .i64 (((bC (bg n bY cO out) cy ac).getD (0,0,0)).1),.int .i64 (((bC (bg n bY cO out) cy ac).getD (0,0,0)).2.1),.int .i64 (((bC (bg n bY cO out) cy ac).getD (0,0,0)).2.2)]) rfl rfl (acv rfl) rfl) aH rfl (by decide) (by decide) (by decide) hN ?_)
 clear hN
 intro g34 LU (hN:aI ij _ LU [_,_,_,_,_,_,_,_,_,_])
 refine⟨(hN.sb [1,2,3,4,6,7,8,9]),?_⟩
 refine RQ.b0 rfl (ct acG jx rfl (by decide) dx aH hN 5 rfl rfl (hN.sm 0 rfl) rfl (by(try simp only[acw,acC,acF,acN,ac4,ac5]);omega) (by decide) ?_)
 clear hN
 intro QJ Kc (hN:aI ij _ Kc [_,_,_,_,_,_,_,_,_,_])
 refine⟨(hN.sb [1,2,3,4,6,7,8,9]),?_⟩
 refine RQ.aA rfl (fun w hS=>(ah acz rfl eM)) ?_
 refine RQ.last rfl rfl (ca eM rfl rfl (hN.sm 5 rfl).cN (hN.sm 5 rfl).bW hN 6 rfl (acv rfl) ?_)
 clear hN
 intro Nx (hN:aI ij _ Nx [_,_,_,_,_,_,_,_,_,_])
 refine RZ.eJ (aY (aw (RW.region (RL.ag (v:=vJ i3) U (RL.ag (aD rfl rfl rfl (bh (by omega) (by omega))) (RL.ag (v:=.int .i64 ((i3:Int)+1)) ai (RL.ak ?_)))))))
 exact⟨k3-1,by omega,QJ,cJ++[(cy,ac,((bC (bg n bY cO out) cy ac).getD (0,0,0)).1,((bC (bg n bY cO out) cy ac).getD (0,0,0)).2.1,((bC (bg n bY cO out) cy ac).getD (0,0,0)).2.2)],i3+1,rfl,rfl,rfl,rfl,rfl,rfl,rfl,rfl,(hN.sb [2,3,4,5,6,7,8,9]),by omega,by rw[eI _ jG,Cn,adk];rfl,by(try simp only[acw,acC]);omega⟩
 refine(bz (cs:=[.int .i64 (0),.int .i64 (0),.int .i64 (0)]) eV rfl hN ?_)
 clear hN
 intro g37 LS (hN:aI ij _ LS [_,_,_,_,_,_,_,_,_])
 refine⟨(hN.sb [1,2,3,4,5,6,7,8]),?_⟩
 refine RQ.b0 rfl (cq ad1 rfl rfl rfl rfl rfl ((gG n _ _ _ bY (bg n bY cO out) kL _ ((CD.step ja).now hN) (vY.now hN) ((CC.step ja).now hN) cy ac).mono ?_))
 rintro _ LR ⟨rfl,bn⟩
 replace hN:=hN.ext bn
 clear bn
 refine⟨(hN.sb [1,2,3,4,5,6,7,8]),?_⟩
 refine RQ.aA (v:=.tuple #[.agg #[.int .i64 (((bC (bg n bY cO out) cy ac).getD (0,0,0)).1),.int .i64 (((bC (bg n bY cO out) cy ac).getD (0,0,0)).2.1),.int .i64 (((bC (bg n bY cO out) cy ac).getD (0,0,0)).2.2)],.bool (decide (cQ (bg n bY cO out) cy ac))]) rfl (fun w hS=>U) ?_
 iterate 2 refine RQ.aA rfl (fun w hS=>(bA)) ?_
 refine RQ.b0 rfl (aR (vs:=[.int .i64 (((bC (bg n bY cO out) cy ac).getD (0,0,0)).1),.int .i64 (((bC (bg n bY cO out) cy ac).getD (0,0,0)).2.1),.int .i64 (((bC (bg n bY cO out) cy ac).getD (0,0,0)).2.2)]) cU rfl rfl rfl (aW (aW (aW cZ))) hN 0 rfl rfl ?_)
 clear hN
 intro JJ (hN:aI ij _ JJ [_,_,_,_,_,_,_,_,_])
 refine⟨(hN.sb [1,2,3,4,5,6,7,8]),?_⟩
 refine RQ.aA (v:=.bool (decide (cQ (bg n bY cO out) cy ac))) rfl (fun w hS=>ai) (RQ.bq (aw ?_))
 replace hN:=hN.ext (Ext.drew JJ)
 refine RW.bD (fun u=>aI ij (b7 [.cp aV 5 98 (kH) (out),.own vI 3 (vr) ((rk).set (cy).toNat ((r:Int))),.cp aV 5 98 (vw) (ways),.aJ g7 [vr,vw] 28,.aJ g5 [vJ n,iH,nc,iG] 194,.aJ g2 [vN,vN] 28,.aJ g1 [vJ n,v,kv] 111]) u [.aJ g37 [.int .i64 (((bC (bg n bY cO out) cy ac).getD (0,0,0)).1),.int .i64 (((bC (bg n bY cO out) cy ac).getD (0,0,0)).2.1),.int .i64 (((bC (bg n bY cO out) cy ac).getD (0,0,0)).2.2)] 96,.own vI 3 (y5) (cv (bg n bY cO out) cy n),.cp aV 5 98 (kH) (out),.own vI 3 (vr) ((rk).set (cy).toNat ((r:Int))),.aJ g7 [vr,LX] 28,.aJ g5 [vJ n,iH,nc,iG] 194,.aJ g2 [vN,vN] 28,.aJ g1 [vJ n,v,kv] 111]) 12 [(0,0),(1,0),(2,0),(3,0),(4,0),(5,0),(6,0),(7,0),(8,0),(9,1),(10,1),(11,0),(12,2)] (by intro _ _ _ h;exact h) (hN.sb [0,1,2,3,5,6,7,8]) (RQ.aA rfl (fun w hS=>(ah acz rfl eM)) (RQ.aA rfl (fun w hS=>(aj acG (hS.aJ 4 rfl))) (RQ.aA (v:=.int .i64 (cy)) rfl (fun w hS=>U) (RQ.aA (v:=y5) rfl (fun w hS=>U) (RQ.aA (v:=vJ i3) rfl (fun w hS=>U) (RQ.aA rfl (fun w hS=>(aC acu bK (hS.sl 1 rfl))) (RQ.aA rfl (fun w hS=>(aF (m:=i3) (a:=ac) acs (hS.sl 1 rfl) jG)) ?_)))))))
 refine RQ.aA rfl (fun w hS=>(aE (cs:=[.int .i64 (((bC (bg n bY cO out) cy ac).getD (0,0,0)).1),.int .i64 (((bC (bg n bY cO out) cy ac).getD (0,0,0)).2.1),.int .i64 (((bC (bg n bY cO out) cy ac).getD (0,0,0)).2.2)]) acH cU (hS.aJ 0 rfl))) (RQ.aA rfl (fun w hS=>(bT (cs:=[.int .i64 (cy),.int .i64 (ac),.int .i64 (((bC (bg n bY cO out) cy ac).getD (0,0,0)).1),.int .i64 (((bC (bg n bY cO out) cy ac).getD (0,0,0)).2.1),.int .i64 (((bC (bg n bY cO out) cy ac).getD (0,0,0)).2.2)]) acB gu (places:=#[(0,1),(1,1),(2,3)]) (by intro w;kernel_rfl) (pl:=[(0,.tmp 109),(1,.tmp 113),(2,.tmp 114)]) rfl (ps:=[(0,.int .i64 (cy)),(1,.int .i64 (ac)),(2,.agg #[.int .i64 (((bC (bg n bY cO out) cy ac).getD (0,0,0)).1),.int .i64 (((bC (bg n bY cO out) cy ac).getD (0,0,0)).2.1),.int .i64 (((bC (bg n bY cO out) cy ac).getD (0,0,0)).2.2)])]) rfl (zc:=[.int .i64 (0),.int .i64 (0),.int .i64 (0),.int .i64 (0),.int .i64 (0)]) rfl (aP (vs:=[.int .i64 (cy)]) rfl rfl (acv rfl) (aP (vs:=[.int .i64 (ac)]) rfl rfl (acv rfl) (aP (vs:=[.int .i64 (((bC (bg n bY cO out) cy ac).getD (0,0,0)).1),.int .i64 (((bC (bg n bY cO out) cy ac).getD (0,0,0)).2.1),.int .i64 (((bC (bg n bY cO out) cy ac).getD (0,0,0)).2.2)]) rfl rfl (acv rfl) rfl))))) ?_)
 refine RQ.b0 rfl (dB (cf:=aV) (s:=5) (pl:=[(0,.tmp 115)]) (ps:=[(0,.agg #[.int .i64 (cy),.int .i64 (ac),.int .i64 (((bC (bg n bY cO out) cy ac).getD (0,0,0)).1),.int .i64 (((bC (bg n bY cO out) cy ac).getD (0,0,0)).2.1),.int .i64 (((bC (bg n bY cO out) cy ac).getD (0,0,0)).2.2)])]) (zc:=[.int .i64 (0),.int .i64 (0),.int .i64 (0),.int .i64 (0),.int .i64 (0)]) (l:=[(cy,ac,((bC (bg n bY cO out) cy ac).getD (0,0,0)).1,((bC (bg n bY cO out) cy ac).getD (0,0,0)).2.1,((bC (bg n bY cO out) cy ac).getD (0,0,0)).2.2)]) acG jx (by kernel_rfl) rfl rfl (aP (vs:=[.int .i64 (cy),.int .i64 (ac),.int .i64 (((bC (bg n bY cO out) cy ac).getD (0,0,0)).1),.int .i64 (((bC (bg n bY cO out) cy ac).getD (0,0,0)).2.1),.int .i64 (((bC (bg n bY cO out) cy ac).getD (0,0,0)).2.2)]) rfl rfl (acv rfl) rfl) aH rfl (by decide) (by decide) (by decide) hN ?_)
 clear hN
 intro g41 P0 (hN:aI ij _ P0 [_,_,_,_,_,_,_,_,_,_])
 refine⟨(hN.sb [1,2,3,4,6,7,8,9]),?_⟩
 refine RQ.b0 rfl (ct acG jx rfl (by decide) dx aH hN 5 rfl rfl (hN.sm 0 rfl) rfl (by(try simp only[acw,acC,acF,acN,ac4,ac5]);omega) (by decide) ?_)
 clear hN
 intro YP Nw (hN:aI ij _ Nw [_,_,_,_,_,_,_,_,_,_])
 refine⟨(hN.sb [1,2,3,4,6,7,8,9]),?_⟩
 refine RQ.aA rfl (fun w hS=>(ah acz rfl eM)) ?_
 refine RQ.last rfl rfl (ca eM rfl rfl (hN.sm 5 rfl).cN (hN.sm 5 rfl).bW hN 6 rfl (acv rfl) ?_)
 clear hN
 intro Nv (hN:aI ij _ Nv [_,_,_,_,_,_,_,_,_,_])
 refine RZ.eJ (aY (aw (RW.region (RL.ag (v:=vJ i3) U (RL.ag (aD rfl rfl rfl (bh (by omega) (by omega))) (RL.ag (v:=.int .i64 ((i3:Int)+1)) ai (RL.ak ?_)))))))
 exact⟨k3-1,by omega,YP,cJ++[(cy,ac,((bC (bg n bY cO out) cy ac).getD (0,0,0)).1,((bC (bg n bY cO out) cy ac).getD (0,0,0)).2.1,((bC (bg n bY cO out) cy ac).getD (0,0,0)).2.2)],i3+1,rfl,rfl,rfl,rfl,rfl,rfl,rfl,rfl,(hN.sb [2,3,4,5,6,7,8,9]),by omega,by rw[eI _ jG,Cn,adk];rfl,by(try simp only[acw,acC]);omega⟩
 refine RW.exit ?_
 iterate 2 refine bS ?_
 refine ba (aw (RW.aN (RL.ag (aE (cs:=[vJ n,iH,nc,iG]) acD cK (hN.aJ 5 rfl)) (RL.ag (v:=.int .i64 (cy)) U ?_))))
 refine RL.aK (bu ahd rfl rfl rfl rfl ((qv n _ _ _ bY (bg n bY cO out) kL _ ((CD.step ja).now hN) (vY.now hN) ((CC.step ja).now hN) cy (by omega)).mono ?_))
 rintro FI Nu ⟨cL,bn⟩
 replace hN:aI ij _ Nu [_,_,_,_,_,_,_,_,_]:=hN.cc (l:=dj (bg n bY cO out) cy n) cL bn
 clear cL bn
 refine RL.ag (v:=FI) ai (RL.ak ?_)
 iterate 2 refine RW.seq ?_
 refine RW.region (RL.ag (v:=.int .i64 (0)) ai (RL.ak (RW.block ?_)))
 refine RW.loop (fun k4 R4 P1=>∃FH:Value,∃nh:List I5,∃i4:Nat,R4 1=vP g1∧R4 2=vP g2∧R4 3=vP g5∧R4 4=vP g7∧R4 6=vJ r∧R4 7=.int .i64 (cy)∧R4 16=FI∧R4 17=vJ i4∧aI ij (b7 [.cp aV 5 98 (kH) (out),.own vI 3 (vr) ((rk).set (cy).toNat ((r:Int))),.cp aV 5 98 (vw) (ways),.aJ g7 [vr,vw] 28,.aJ g5 [vJ n,iH,nc,iG] 194,.aJ g2 [vN,vN] 28,.aJ g1 [vJ n,v,kv] 111]) P1 [.own vI 3 (FI) (dj (bg n bY cO out) cy n),.own vI 3 (y5) (cv (bg n bY cO out) cy n),.cp aV 5 98 (kH) (out),.own vI 3 (vr) ((rk).set (cy).toNat ((r:Int))),.cp aV 5 98 (FH) (nh),.aJ g7 [vr,FH] 28,.aJ g5 [vJ n,iH,nc,iG] 194,.aJ g2 [vN,vN] 28,.aJ g1 [vJ n,v,kv] 111]∧(i4+k4=(dj (bg n bY cO out) cy n).length)∧(nh=cJ++((dj (bg n bY cO out) cy n).take i4).map (JI (bg n bY cO out) cy))∧(nh.length≤cJ.length+i4)) ((dj (bg n bY cO out) cy n).length) ?_ ?_
 exact⟨LX,cJ,0,rfl,rfl,rfl,rfl,rfl,rfl,rfl,rfl,hN,by omega,by simp,ac3 _⟩
 clear hN
 rintro k4 R4 P1 ⟨FH,nh,i4,bP,bV,cd,cA,cW,cF,Ap,fq,hN,XG,Cm,TG⟩
 have cB:=sR bP bV cd cA cW cF Ap fq
 obtain⟨R4_,rfl⟩:=cB
 clear bP bV cd cA cW cF Ap fq
 iterate 2 refine RW.seq ?_
 refine RW.region (RL.ag (v:=vJ i4) U (RL.ag (v:=FI) U ?_))
 have X6:=(hN.sl 0 rfl).bw
 refine RL.ag (aQ acu (hN.sl 0 rfl)) (RL.ag (aL) (RL.ak ?_))
 refine RW.aG _ (fun Ow=>?_) (fun Ow=>?_)
 refine RW.skip (aw (RW.seq (RW.block (RW.seq ?_))))
 replace hN:=hN.ext (Ext.drew P1)
 refine RW.bD (fun u=>aI ij (b7 [.cp aV 5 98 (kH) (out),.own vI 3 (vr) ((rk).set (cy).toNat ((r:Int))),.cp aV 5 98 (vw) (ways),.aJ g7 [vr,vw] 28,.aJ g5 [vJ n,iH,nc,iG] 194,.aJ g2 [vN,vN] 28,.aJ g1 [vJ n,v,kv] 111]) u [.own vI 3 (FI) (dj (bg n bY cO out) cy n),.own vI 3 (y5) (cv (bg n bY cO out) cy n),.cp aV 5 98 (kH) (out),.own vI 3 (vr) ((rk).set (cy).toNat ((r:Int))),.cp aV 5 98 (FH) (nh),.aJ g7 [vr,FH] 28,.aJ g5 [vJ n,iH,nc,iG] 194,.aJ g2 [vN,vN] 28,.aJ g1 [vJ n,v,kv] 111]) 13 [(0,0),(1,0),(2,0),(3,0),(4,0),(5,0)] (by intro _ _ _ h;exact h) hN (RQ.aA rfl (fun w hS=>(aE (cs:=[vJ n,iH,nc,iG]) acD cK (hS.aJ 6 rfl))) (RQ.aA (v:=FI) rfl (fun w hS=>U) (RQ.aA (v:=vJ i4) rfl (fun w hS=>U) (RQ.aA rfl (fun w hS=>(aC acu bK (hS.sl 0 rfl))) ?_))))
 have aO:=da ((dj (bg n bY cO out) cy n)) i4
 obtain⟨ad,DC⟩:=aO
 refine RQ.aA rfl (fun w hS=>(aF (m:=i4) (a:=ad) acs (hS.sl 0 rfl) DC)) (RQ.aA (v:=.int .i64 (cy)) rfl (fun w hS=>U) ?_)
 refine RQ.two (i:=6) (j:=10) [(7,0),(8,0),(9,0),(10,1),(11,1),(12,0)] [(6,1),(7,0),(8,0),(9,0),(11,1),(12,0)] (by kernel_rfl) rfl rfl rfl rfl (by kernel_rfl) ?_ ?_
 refine(cq ad1 rfl rfl rfl rfl rfl ((gG n _ _ _ bY (bg n bY cO out) kL _ ((CD.step ja).now hN) (vY.now hN) ((CC.step ja).now hN) ad cy).mono ?_))
 rintro _ WN ⟨rfl,bn⟩
 replace hN:=hN.ext bn
 clear bn
 refine⟨hN,?_⟩
 refine RQ.aA (v:=.tuple #[.agg #[.int .i64 (((bC (bg n bY cO out) ad cy).getD (0,0,0)).1),.int .i64 (((bC (bg n bY cO out) ad cy).getD (0,0,0)).2.1),.int .i64 (((bC (bg n bY cO out) ad cy).getD (0,0,0)).2.2)],.bool (decide (cQ (bg n bY cO out) ad cy))]) rfl (fun w hS=>U) ?_
 iterate 2 refine RQ.aA rfl (fun w hS=>(bA)) ?_
 refine RQ.b0 rfl (bz (cs:=[.int .i64 (0),.int .i64 (0),.int .i64 (0)]) eV rfl hN ?_)
 clear hN
 intro Yu Nt (hN:aI ij _ Nt [_,_,_,_,_,_,_,_,_,_])
 refine⟨(hN.sb [1,2,3,4,5,6,7,8,9]),?_⟩
 refine RQ.b0 rfl (aR (vs:=[.int .i64 (((bC (bg n bY cO out) ad cy).getD (0,0,0)).1),.int .i64 (((bC (bg n bY cO out) ad cy).getD (0,0,0)).2.1),.int .i64 (((bC (bg n bY cO out) ad cy).getD (0,0,0)).2.2)]) cU rfl rfl rfl (aW (aW (aW cZ))) hN 0 rfl rfl ?_)
 clear hN
 intro PZ (hN:aI ij _ PZ [_,_,_,_,_,_,_,_,_,_])
 refine⟨(hN.sb [1,2,3,4,5,6,7,8,9]),?_⟩
 refine RQ.aA (v:=.bool (decide (cQ (bg n bY cO out) ad cy))) rfl (fun w hS=>ai) (RQ.bq (aw ?_))
 replace hN:=hN.ext (Ext.drew PZ)
 refine RW.bD (fun u=>aI ij (b7 [.cp aV 5 98 (kH) (out),.own vI 3 (vr) ((rk).set (cy).toNat ((r:Int))),.cp aV 5 98 (vw) (ways),.aJ g7 [vr,vw] 28,.aJ g5 [vJ n,iH,nc,iG] 194,.aJ g2 [vN,vN] 28,.aJ g1 [vJ n,v,kv] 111]) u [.aJ Yu [.int .i64 (((bC (bg n bY cO out) ad cy).getD (0,0,0)).1),.int .i64 (((bC (bg n bY cO out) ad cy).getD (0,0,0)).2.1),.int .i64 (((bC (bg n bY cO out) ad cy).getD (0,0,0)).2.2)] 96,.own vI 3 (FI) (dj (bg n bY cO out) cy n),.own vI 3 (y5) (cv (bg n bY cO out) cy n),.cp aV 5 98 (kH) (out),.own vI 3 (vr) ((rk).set (cy).toNat ((r:Int))),.aJ g7 [vr,FH] 28,.aJ g5 [vJ n,iH,nc,iG] 194,.aJ g2 [vN,vN] 28,.aJ g1 [vJ n,v,kv] 111]) 12 [(0,0),(1,0),(2,0),(3,0),(4,0),(5,0),(6,0),(7,0),(8,0),(9,1),(10,1),(11,0),(12,2)] (by intro _ _ _ h;exact h) (hN.sb [0,1,2,3,4,6,7,8,9]) (RQ.aA rfl (fun w hS=>(ah acz rfl eM)) (RQ.aA rfl (fun w hS=>(aj acG (hS.aJ 5 rfl))) (RQ.aA (v:=FI) rfl (fun w hS=>U) (RQ.aA (v:=vJ i4) rfl (fun w hS=>U) (RQ.aA rfl (fun w hS=>(aC acu bK (hS.sl 1 rfl))) (RQ.aA rfl (fun w hS=>(aF (m:=i4) (a:=ad) acs (hS.sl 1 rfl) DC)) ?_))))))
 refine RQ.aA (v:=.int .i64 (cy)) rfl (fun w hS=>U) (RQ.aA rfl (fun w hS=>(aE (cs:=[.int .i64 (((bC (bg n bY cO out) ad cy).getD (0,0,0)).1),.int .i64 (((bC (bg n bY cO out) ad cy).getD (0,0,0)).2.1),.int .i64 (((bC (bg n bY cO out) ad cy).getD (0,0,0)).2.2)]) acH cU (hS.aJ 0 rfl))) (RQ.aA rfl (fun w hS=>(bT (cs:=[.int .i64 (ad),.int .i64 (cy),.int .i64 (((bC (bg n bY cO out) ad cy).getD (0,0,0)).1),.int .i64 (((bC (bg n bY cO out) ad cy).getD (0,0,0)).2.1),.int .i64 (((bC (bg n bY cO out) ad cy).getD (0,0,0)).2.2)]) acB gu (places:=#[(0,1),(1,1),(2,3)]) (by intro w;kernel_rfl) (pl:=[(0,.tmp 143),(1,.tmp 144),(2,.tmp 145)]) rfl (ps:=[(0,.int .i64 (ad)),(1,.int .i64 (cy)),(2,.agg #[.int .i64 (((bC (bg n bY cO out) ad cy).getD (0,0,0)).1),.int .i64 (((bC (bg n bY cO out) ad cy).getD (0,0,0)).2.1),.int .i64 (((bC (bg n bY cO out) ad cy).getD (0,0,0)).2.2)])]) rfl (zc:=[.int .i64 (0),.int .i64 (0),.int .i64 (0),.int .i64 (0),.int .i64 (0)]) rfl (aP (vs:=[.int .i64 (ad)]) rfl rfl (acv rfl) (aP (vs:=[.int .i64 (cy)]) rfl rfl (acv rfl) (aP (vs:=[.int .i64 (((bC (bg n bY cO out) ad cy).getD (0,0,0)).1),.int .i64 (((bC (bg n bY cO out) ad cy).getD (0,0,0)).2.1),.int .i64 (((bC (bg n bY cO out) ad cy).getD (0,0,0)).2.2)]) rfl rfl (acv rfl) rfl))))) ?_))
 refine RQ.b0 rfl (dB (cf:=aV) (s:=5) (pl:=[(0,.tmp 146)]) (ps:=[(0,.agg #[.int .i64 (ad),.int .i64 (cy),.int .i64 (((bC (bg n bY cO out) ad cy).getD (0,0,0)).1),.int .i64 (((bC (bg n bY cO out) ad cy).getD (0,0,0)).2.1),.int .i64 (((bC (bg n bY cO out) ad cy).getD (0,0,0)).2.2)])]) (zc:=[.int .i64 (0),.int .i64 (0),.int .i64 (0),.int .i64 (0),.int .i64 (0)]) (l:=[(ad,cy,((bC (bg n bY cO out) ad cy).getD (0,0,0)).1,((bC (bg n bY cO out) ad cy).getD (0,0,0)).2.1,((bC (bg n bY cO out) ad cy).getD (0,0,0)).2.2)]) acG jx (by kernel_rfl) rfl rfl (aP (vs:=[.int .i64 (ad),.int .i64 (cy),.int .i64 (((bC (bg n bY cO out) ad cy).getD (0,0,0)).1),.int .i64 (((bC (bg n bY cO out) ad cy).getD (0,0,0)).2.1),.int .i64 (((bC (bg n bY cO out) ad cy).getD (0,0,0)).2.2)]) rfl rfl (acv rfl) rfl) aH rfl (by decide) (by decide) (by decide) hN ?_)
 clear hN
 intro g50 PY (hN:aI ij _ PY [_,_,_,_,_,_,_,_,_,_,_])
 refine⟨(hN.sb [1,2,3,4,5,7,8,9,10]),?_⟩
 refine RQ.b0 rfl (ct acG jx rfl (by decide) dx aH hN 6 rfl rfl (hN.sm 0 rfl) rfl (by(try simp only[acw,acC,acF,acN,ac4,ac5]);omega) (by decide) ?_)
 clear hN
 intro YL LQ (hN:aI ij _ LQ [_,_,_,_,_,_,_,_,_,_,_])
 refine⟨(hN.sb [1,2,3,4,5,7,8,9,10]),?_⟩
 refine RQ.aA rfl (fun w hS=>(ah acz rfl eM)) ?_
 refine RQ.last rfl rfl (ca eM rfl rfl (hN.sm 6 rfl).cN (hN.sm 6 rfl).bW hN 7 rfl (acv rfl) ?_)
 clear hN
 intro Tw (hN:aI ij _ Tw [_,_,_,_,_,_,_,_,_,_,_])
 refine RZ.eJ (aY (aw (RW.region (RL.ag (v:=vJ i4) U (RL.ag (aD rfl rfl rfl (bh (by omega) (by omega))) (RL.ag (v:=.int .i64 ((i4:Int)+1)) ai (RL.ak ?_)))))))
 exact⟨k4-1,by omega,YL,nh++[(ad,cy,((bC (bg n bY cO out) ad cy).getD (0,0,0)).1,((bC (bg n bY cO out) ad cy).getD (0,0,0)).2.1,((bC (bg n bY cO out) ad cy).getD (0,0,0)).2.2)],i4+1,rfl,rfl,rfl,rfl,rfl,rfl,rfl,rfl,(hN.sb [2,3,4,5,6,7,8,9,10]),by omega,by rw[eI _ DC,Cm,adk];rfl,by(try simp only[acw,acC]);omega⟩
 refine(bz (cs:=[.int .i64 (0),.int .i64 (0),.int .i64 (0)]) eV rfl hN ?_)
 clear hN
 intro g53 WM (hN:aI ij _ WM [_,_,_,_,_,_,_,_,_,_])
 refine⟨(hN.sb [1,2,3,4,5,6,7,8,9]),?_⟩
 refine RQ.b0 rfl (cq ad1 rfl rfl rfl rfl rfl ((gG n _ _ _ bY (bg n bY cO out) kL _ ((CD.step ja).now hN) (vY.now hN) ((CC.step ja).now hN) ad cy).mono ?_))
 rintro _ WL ⟨rfl,bn⟩
 replace hN:=hN.ext bn
 clear bn
 refine⟨(hN.sb [1,2,3,4,5,6,7,8,9]),?_⟩
 refine RQ.aA (v:=.tuple #[.agg #[.int .i64 (((bC (bg n bY cO out) ad cy).getD (0,0,0)).1),.int .i64 (((bC (bg n bY cO out) ad cy).getD (0,0,0)).2.1),.int .i64 (((bC (bg n bY cO out) ad cy).getD (0,0,0)).2.2)],.bool (decide (cQ (bg n bY cO out) ad cy))]) rfl (fun w hS=>U) ?_
 iterate 2 refine RQ.aA rfl (fun w hS=>(bA)) ?_
 refine RQ.b0 rfl (aR (vs:=[.int .i64 (((bC (bg n bY cO out) ad cy).getD (0,0,0)).1),.int .i64 (((bC (bg n bY cO out) ad cy).getD (0,0,0)).2.1),.int .i64 (((bC (bg n bY cO out) ad cy).getD (0,0,0)).2.2)]) cU rfl rfl rfl (aW (aW (aW cZ))) hN 0 rfl rfl ?_)
 clear hN
 intro T6 (hN:aI ij _ T6 [_,_,_,_,_,_,_,_,_,_])
 refine⟨(hN.sb [1,2,3,4,5,6,7,8,9]),?_⟩
 refine RQ.aA (v:=.bool (decide (cQ (bg n bY cO out) ad cy))) rfl (fun w hS=>ai) (RQ.bq (aw ?_))
 replace hN:=hN.ext (Ext.drew T6)
 refine RW.bD (fun u=>aI ij (b7 [.cp aV 5 98 (kH) (out),.own vI 3 (vr) ((rk).set (cy).toNat ((r:Int))),.cp aV 5 98 (vw) (ways),.aJ g7 [vr,vw] 28,.aJ g5 [vJ n,iH,nc,iG] 194,.aJ g2 [vN,vN] 28,.aJ g1 [vJ n,v,kv] 111]) u [.aJ g53 [.int .i64 (((bC (bg n bY cO out) ad cy).getD (0,0,0)).1),.int .i64 (((bC (bg n bY cO out) ad cy).getD (0,0,0)).2.1),.int .i64 (((bC (bg n bY cO out) ad cy).getD (0,0,0)).2.2)] 96,.own vI 3 (FI) (dj (bg n bY cO out) cy n),.own vI 3 (y5) (cv (bg n bY cO out) cy n),.cp aV 5 98 (kH) (out),.own vI 3 (vr) ((rk).set (cy).toNat ((r:Int))),.aJ g7 [vr,FH] 28,.aJ g5 [vJ n,iH,nc,iG] 194,.aJ g2 [vN,vN] 28,.aJ g1 [vJ n,v,kv] 111]) 12 [(0,0),(1,0),(2,0),(3,0),(4,0),(5,0),(6,0),(7,0),(8,0),(9,1),(10,1),(11,0),(12,2)] (by intro _ _ _ h;exact h) (hN.sb [0,1,2,3,4,6,7,8,9]) (RQ.aA rfl (fun w hS=>(ah acz rfl eM)) (RQ.aA rfl (fun w hS=>(aj acG (hS.aJ 5 rfl))) (RQ.aA (v:=FI) rfl (fun w hS=>U) (RQ.aA (v:=vJ i4) rfl (fun w hS=>U) (RQ.aA rfl (fun w hS=>(aC acu bK (hS.sl 1 rfl))) (RQ.aA rfl (fun w hS=>(aF (m:=i4) (a:=ad) acs (hS.sl 1 rfl) DC)) ?_))))))
 refine RQ.aA (v:=.int .i64 (cy)) rfl (fun w hS=>U) (RQ.aA rfl (fun w hS=>(aE (cs:=[.int .i64 (((bC (bg n bY cO out) ad cy).getD (0,0,0)).1),.int .i64 (((bC (bg n bY cO out) ad cy).getD (0,0,0)).2.1),.int .i64 (((bC (bg n bY cO out) ad cy).getD (0,0,0)).2.2)]) acH cU (hS.aJ 0 rfl))) (RQ.aA rfl (fun w hS=>(bT (cs:=[.int .i64 (ad),.int .i64 (cy),.int .i64 (((bC (bg n bY cO out) ad cy).getD (0,0,0)).1),.int .i64 (((bC (bg n bY cO out) ad cy).getD (0,0,0)).2.1),.int .i64 (((bC (bg n bY cO out) ad cy).getD (0,0,0)).2.2)]) acB gu (places:=#[(0,1),(1,1),(2,3)]) (by intro w;kernel_rfl) (pl:=[(0,.tmp 143),(1,.tmp 144),(2,.tmp 145)]) rfl (ps:=[(0,.int .i64 (ad)),(1,.int .i64 (cy)),(2,.agg #[.int .i64 (((bC (bg n bY cO out) ad cy).getD (0,0,0)).1),.int .i64 (((bC (bg n bY cO out) ad cy).getD (0,0,0)).2.1),.int .i64 (((bC (bg n bY cO out) ad cy).getD (0,0,0)).2.2)])]) rfl (zc:=[.int .i64 (0),.int .i64 (0),.int .i64 (0),.int .i64 (0),.int .i64 (0)]) rfl (aP (vs:=[.int .i64 (ad)]) rfl rfl (acv rfl) (aP (vs:=[.int .i64 (cy)]) rfl rfl (acv rfl) (aP (vs:=[.int .i64 (((bC (bg n bY cO out) ad cy).getD (0,0,0)).1),.int .i64 (((bC (bg n bY cO out) ad cy).getD (0,0,0)).2.1),.int .i64 (((bC (bg n bY cO out) ad cy).getD (0,0,0)).2.2)]) rfl rfl (acv rfl) rfl))))) ?_))
 refine RQ.b0 rfl (dB (cf:=aV) (s:=5) (pl:=[(0,.tmp 146)]) (ps:=[(0,.agg #[.int .i64 (ad),.int .i64 (cy),.int .i64 (((bC (bg n bY cO out) ad cy).getD (0,0,0)).1),.int .i64 (((bC (bg n bY cO out) ad cy).getD (0,0,0)).2.1),.int .i64 (((bC (bg n bY cO out) ad cy).getD (0,0,0)).2.2)])]) (zc:=[.int .i64 (0),.int .i64 (0),.int .i64 (0),.int .i64 (0),.int .i64 (0)]) (l:=[(ad,cy,((bC (bg n bY cO out) ad cy).getD (0,0,0)).1,((bC (bg n bY cO out) ad cy).getD (0,0,0)).2.1,((bC (bg n bY cO out) ad cy).getD (0,0,0)).2.2)]) acG jx (by kernel_rfl) rfl rfl (aP (vs:=[.int .i64 (ad),.int .i64 (cy),.int .i64 (((bC (bg n bY cO out) ad cy).getD (0,0,0)).1),.int .i64 (((bC (bg n bY cO out) ad cy).getD (0,0,0)).2.1),.int .i64 (((bC (bg n bY cO out) ad cy).getD (0,0,0)).2.2)]) rfl rfl (acv rfl) rfl) aH rfl (by decide) (by decide) (by decide) hN ?_)
 clear hN
 intro g57 T4 (hN:aI ij _ T4 [_,_,_,_,_,_,_,_,_,_,_])
 refine⟨(hN.sb [1,2,3,4,5,7,8,9,10]),?_⟩
 refine RQ.b0 rfl (ct acG jx rfl (by decide) dx aH hN 6 rfl rfl (hN.sm 0 rfl) rfl (by(try simp only[acw,acC,acF,acN,ac4,ac5]);omega) (by decide) ?_)
 clear hN
 intro YK WK (hN:aI ij _ WK [_,_,_,_,_,_,_,_,_,_,_])
 refine⟨(hN.sb [1,2,3,4,5,7,8,9,10]),?_⟩
 refine RQ.aA rfl (fun w hS=>(ah acz rfl eM)) ?_
 refine RQ.last rfl rfl (ca eM rfl rfl (hN.sm 6 rfl).cN (hN.sm 6 rfl).bW hN 7 rfl (acv rfl) ?_)
 clear hN
 intro QG (hN:aI ij _ QG [_,_,_,_,_,_,_,_,_,_,_])
 refine RZ.eJ (aY (aw (RW.region (RL.ag (v:=vJ i4) U (RL.ag (aD rfl rfl rfl (bh (by omega) (by omega))) (RL.ag (v:=.int .i64 ((i4:Int)+1)) ai (RL.ak ?_)))))))
 exact⟨k4-1,by omega,YK,nh++[(ad,cy,((bC (bg n bY cO out) ad cy).getD (0,0,0)).1,((bC (bg n bY cO out) ad cy).getD (0,0,0)).2.1,((bC (bg n bY cO out) ad cy).getD (0,0,0)).2.2)],i4+1,rfl,rfl,rfl,rfl,rfl,rfl,rfl,rfl,(hN.sb [2,3,4,5,6,7,8,9,10]),by omega,by rw[eI _ DC,Cm,adk];rfl,by(try simp only[acw,acC]);omega⟩
 refine RW.exit ?_
 iterate 2 refine bS ?_
 refine ba (aw (RW.seq ?_))
 have Uz:cJ=ways++(cv (bg n bY cO out) cy n).map (sP (bg n bY cO out) cy):=by rw[Cn,show i3=(cv (bg n bY cO out) cy n).length by omega,adn]
 have Uy:nh=qT n (bg n bY cO out) cy ways:=by rw[Cm,show i4=(dj (bg n bY cO out) cy n).length by omega,adn,Uz];rfl
 have aad:=BR n bY out cO
 refine RW.region (RL.ag (aE (cs:=[vJ n,iH,nc,iG]) acD cK (hN.aJ 6 rfl)) (RL.ag (v:=.int .i64 (cy)) U ?_))
 refine RL.aK (bu akl rfl rfl rfl rfl ((zn (b7 [.own vI 3 (FI) (dj (bg n bY cO out) cy n),.own vI 3 (y5) (cv (bg n bY cO out) cy n),.cp aV 5 98 (kH) (out),.own vI 3 (vr) ((rk).set (cy).toNat ((r:Int))),.cp aV 5 98 (FH) (nh),.aJ g7 [vr,FH] 28,.aJ g5 [vJ n,iH,nc,iG] 194,.aJ g2 [vN,vN] 28,.aJ g1 [vJ n,v,kv] 111]) (fun k hk=>hN.qH hk) n _ _ _ bY (bg n bY cO out) kL cy ((CD.step ja).step hN) (mG.step fN vY hN) ((CC.step ja).step hN) u5 hB.tok.ins Lb (by omega) (by omega)).mono ?_))
 rintro _ Kb ⟨yj,Hj,xV,N1,YB,rfl,I0,IZ,IY,Sc,bn⟩
 replace hN:=hN.ext bn
 clear bn
 have S6:=hN
 clear hN
 have hN:=S6.here
 replace hN:aI Kb _ Kb [.own vI 3 (FI) (dj (bg n bY cO out) cy n),.own vI 3 (y5) (cv (bg n bY cO out) cy n),.cp aV 5 98 (kH) (out),.own vI 3 (vr) ((rk).set (cy).toNat ((r:Int))),.cp aV 5 98 (FH) (nh),.aJ g7 [vr,FH] 28,.aJ g5 [vJ n,iH,nc,iG] 194,.aJ g2 [vN,vN] 28,.aJ g1 [vJ n,v,kv] 111]:=hN
 refine RL.ag (v:=.tuple #[.agg #[vJ n,yj,Hj,xV],.bool YB]) U ?_
 iterate 2 refine RL.ag (bA) ?_
 refine RL.aK (bz (cs:=[.int .i64 (0),vN,vN,vN]) jc rfl hN ?_)
 clear hN
 intro g62 T3 (hN:aI Kb _ T3 [_,_,_,_,_,_,_,_,_,_])
 refine RL.aK (aR (vs:=[vJ n,yj,Hj,xV]) cK rfl rfl rfl (by intro u hu;simp only[ac1,acV,or_false]at hu;rcases hu with rfl|rfl|rfl|rfl<;>first|rfl|exact(I0.now hN).bW|exact(IZ.now hN).bW|exact(IY.now hN).bW) hN 0 rfl rfl ?_)
 clear hN
 intro WJ (hN:aI Kb _ WJ [_,_,_,_,_,_,_,_,_,_])
 refine RL.ag (v:=.bool YB) ai (RL.ak (RW.region (RL.ag (aE (cs:=[vJ n,yj,Hj,xV]) acD cK (hN.aJ 0 rfl)) ?_)))
 refine RL.aK (aR (vs:=[vJ n,yj,Hj,xV]) cK rfl rfl rfl (by intro u hu;simp only[ac1,acV,or_false]at hu;rcases hu with rfl|rfl|rfl|rfl<;>first|rfl|exact(I0.now hN).bW|exact(IZ.now hN).bW|exact(IY.now hN).bW) hN 7 rfl rfl ?_)
 clear hN
 intro WI (hN:aI Kb _ WI [_,_,_,_,_,_,_,_,_,_])
 refine RL.nil (aY (aw (RW.region (RL.ag (v:=vJ r) U (RL.ag (aD rfl rfl rfl (bh (by omega) (by omega))) (RL.ag (v:=.int .i64 ((r:Int)+1)) ai (RL.ak ?_)))))))
 exact⟨k1-1,by omega,vr,(rk).set (cy).toNat ((r:Int)),FH,nh,yj,(bY.set (cy).toNat 0),Hj,(wz (bg n bY cO out) cy),xV,N1,r+1,rfl,rfl,rfl,rfl,rfl,(Pm.back (ja.back (S6.back (hN.sb [4,5,6,7,8,9])))),by omega,by rw[Uy];exact hB.step (by omega) hn u5 fJ,Sc,by have:=D4 (bg n bY cO out) cy;omega,I0.step (hN.sb [4,5,6,7,8,9]),mG.step fN IZ (hN.sb [4,5,6,7,8,9]),IY.step (hN.sb [4,5,6,7,8,9])⟩
 refine RW.exit ?_
 iterate 2 refine bS ?_
 refine ba (aw (RW.aN (RL.ag (aE (cs:=[vr,vw]) acz dy (hN.aJ 2 rfl)) ?_)))
 refine RL.aK (aR (vs:=[vr,vw]) dy rfl rfl rfl (by intro u hu;simp only[ac1,acV,or_false]at hu;rcases hu with rfl|rfl<;>first|rfl|exact(hN.sl 0 rfl).bW|exact(hN.sm 1 rfl).bW) hN 4 rfl rfl ?_)
 clear hN
 intro YH (hN:aI eW _ YH [_,_,_,_,_,_])
 refine RL.ak (RW.ret (bb (RV.cell rfl rfl (hN.aJ 4 rfl) acz rfl dy) ?_))
 have nY:r=n:=by omega
 subst nY
 exact⟨_,_,_,_,_,_,rfl,(Ym.back (Pm.back hN)).sb [0,1],hB⟩
end Go.Proofs.YtngkdkbpgoddlaaGreat
namespace Go.Proofs.YtngkdkbpgoddlaaGreat
open Go.RowKit Go.Rl
open Go.Gr
theorem EX (n:Nat) (v:Value) (l:List I3) (w:World) (hv:Sm bJ w v l) (fU:ee (n:Int) l=0) (hl:l.length≤40) (hn:n≤12):aM acx 25 #[.agg #[.int .i64 (n:Int),v]] w fun r w'=>∃rv wv rk ways ins ls,r=.agg #[rv,wv]∧aI w none_ w' [.own vI 3 rv rk,.cp aV 5 98 wv ways]∧ze n l n rk ways ins ls:=by
 refine aM.aZ Tryz.func25 ?_
 rw[cM]
 have hN:=aI.nil w none_
 have E0:=(nV fU).2.2.2
 refine RW.aN ?_
 refine RL.aK (bL (cs:=[vJ n,v]) rfl rfl hN ?_)
 clear hN
 intro g1 w1 (hN:aI w none_ w1 [_])
 refine RL.aK (bz (cs:=[vN,vN]) oz rfl hN ?_)
 clear hN
 intro g2 w2 (hN:aI w none_ w2 [_,_])
 refine RL.b6 (RL.ag (aE (cs:=[vJ n,v]) acI dN (hN.aJ 1 rfl)) ?_)
 refine RL.aK (bo Tryz.func58 rfl rfl rfl ((CG ((n:Int)) _ l _ (hv.o.now hN) fU).mono ?_))
 rintro _ w3 ⟨Um,rfl,cL,bn⟩
 replace hN:aI w none_ w3 [_,_,_]:=hN.cc cL bn
 clear cL bn
 refine RL.ag (v:=.tuple #[.agg #[vJ n,v,Um],.bool true]) U ?_
 iterate 2 refine RL.ag (bA) ?_
 refine RL.aK (bz (cs:=[.int .i64 (0),vN,vN]) sr rfl hN ?_)
 clear hN
 intro g4 w4 (hN:aI w none_ w4 [_,_,_,_])
 refine RL.aK (aR (vs:=[vJ n,v,Um]) qS rfl rfl rfl (by intro u hu;simp only[ac1,acV,or_false]at hu;rcases hu with rfl|rfl|rfl<;>first|rfl|exact(hN.sl 1 rfl).bW|exact(hv.o.now hN).bW) hN 0 rfl rfl ?_)
 clear hN
 intro w5 (hN:aI w none_ w5 [_,_,_,_])
 refine RL.ag (v:=.bool true) ai (RL.b6 (RL.ag (aE (cs:=[vJ n,v,Um]) adB qS (hN.aJ 0 rfl)) ?_))
 refine RL.aK (bo Tryz.func60 rfl rfl rfl ((Ba n _ l _ (kept l) _ (hv.o.now hN) (hN.sl 1 rfl) (Hq _) hl hn E0 rfl).mono ?_))
 rintro _ w6 ⟨rv,wv,rk,ways,ins,ls,rfl,cE,hB⟩
 replace hN:aI w none_ w6 [_,_,_,_,_,_]:=hN.fV cE
 clear cE
 refine RL.aK (aR (vs:=[rv,wv]) dy rfl rfl rfl (by intro u hu;simp only[ac1,acV,or_false]at hu;rcases hu with rfl|rfl<;>first|rfl|exact(hN.sl 0 rfl).bW|exact(hN.sm 1 rfl).bW) hN 4 rfl rfl ?_)
 clear hN
 intro w7 (hN:aI w none_ w7 [_,_,_,_,_,_])
 refine RL.ak (RW.ret (bb (RV.cell rfl rfl (hN.aJ 4 rfl) acz rfl dy) ?_))
 exact⟨_,_,_,_,_,_,rfl,hN.sb [0,1],hB⟩
theorem Cb (n:Nat) (v:Value) (l:List I3) (kk:Int) (w:World) (hv:Sm bJ w v l) (fU:ee (n:Int) l=0) (hl:l.length≤40) (hn:n≤12):aM acx 8 #[.agg #[.int .i64 (n:Int),v],.int .i64 kk] w fun r w'=>∃rv wv rk ways ins ls gv fv ov iv db dc Qi far gV outs gQ jA ER so ES si,r=.tuple #[.agg #[.int .i64 (n:Int),v,rv,wv,gv,fv,ov,iv,db,dc],.int .i64 0]∧aI w none_ w' [.own vI 3 rv rk,.cp aV 5 98 wv ways,.own vI 3 gv (bN rk (cb (rk.length:Int) kk) rk.length),.own vh 25 fv Qi,.eE vI Qi far,.own vh 118 ov gV,.ez bG gV outs,.own vh 118 iv gQ,.ez bG gQ jA,.own vh 25 db ER,.eE vI ER so,.own vh 25 dc ES,.eE vI ES si]∧ze n l n rk ways ins ls∧mI n rk (cb (rk.length:Int) kk) (bN rk (cb (rk.length:Int) kk) rk.length) far outs jA so si:=by
 refine aM.aZ Tryz.func8 ?_
 rw[cT]
 have hN:=aI.nil w none_
 refine RW.aN ?_
 refine RL.aK (bL (cs:=[vJ n,v]) rfl rfl hN ?_)
 clear hN
 intro g1 w1 (hN:aI w none_ w1 [_])
 refine RL.aK (bz (cs:=[.int .i64 (0),vN,vN,vN,vN,vN,vN,vN,vN,vN]) fx rfl hN ?_)
 clear hN
 intro g2 w2 (hN:aI w none_ w2 [_,_])
 refine RL.ag (v:=.int .i64 (0)) ai (RL.b6 (RL.ag (aE (cs:=[vJ n,v]) acI dN (hN.aJ 1 rfl)) ?_))
 refine RL.aK (bo ahs rfl rfl rfl ((wZ ((n:Int)) _ l _ (hv.o.now hN) fU).mono ?_))
 rintro _ w3 ⟨rfl,bn⟩
 replace hN:=hN.ext bn
 clear bn
 refine RL.ag (v:=.int .i64 (0)) ai (RL.ak ?_)
 iterate 2 refine RW.seq ?_
 refine RW.region (RL.ag (v:=.int .i64 (0)) U (RL.ag (cI (bj) (fun h=>h rfl)) (RL.ak (RW.cg (RW.skip (aw (RW.aN ?_)))))))
 refine RL.ag (aE (cs:=[vJ n,v]) acI dN (hN.aJ 1 rfl)) ?_
 refine RL.aK (bo Tryz.func25 rfl rfl rfl ((EX n _ l _ (hv.o.now hN) fU hl hn).mono ?_))
 rintro _ w4 ⟨rv,wv,rk,ways,ins,ls,rfl,cE,hB⟩
 replace hN:aI w none_ w4 [_,_,_,_]:=hN.fV cE
 clear cE
 have hH:=hB.fU
 refine RL.aK (bz (cs:=[vN,vN]) oz rfl hN ?_)
 clear hN
 intro g5 w5 (hN:aI w none_ w5 [_,_,_,_,_])
 refine RL.aK (aR (vs:=[rv,wv]) dy rfl rfl rfl (by intro u hu;simp only[ac1,acV,or_false]at hu;rcases hu with rfl|rfl<;>first|rfl|exact(hN.sl 1 rfl).bW|exact(hN.sm 2 rfl).bW) hN 0 rfl rfl ?_)
 clear hN
 intro w6 (hN:aI w none_ w6 [_,_,_,_,_])
 refine RL.ak (RW.seq ?_)
 replace hN:=hN.ext (Ext.drew w6)
 refine RW.bD (fun u=>aI w none_ u [.aJ g5 [rv,wv] 28,.own vI 3 (rv) (rk),.cp aV 5 98 (wv) (ways),.aJ g1 [vJ n,v] 24]) 8 [(0,0),(1,0),(2,0),(3,0),(4,1),(5,0),(6,1),(7,0)] (by intro _ _ _ h;exact h) (hN.sb [0,1,2,4]) (RQ.aA rfl (fun w hS=>(aE (cs:=[vJ n,v]) acI dN (hS.aJ 3 rfl))) ?_)
 iterate 2 refine RQ.aA rfl (fun w hS=>(aE (cs:=[rv,wv]) acz dy (hS.aJ 0 rfl))) ?_
 refine RQ.aA (v:=.int .i64 (kk)) rfl (fun w hS=>U) ?_
 refine RQ.b0 rfl (bu Tryz.func26 rfl rfl rfl rfl ((D7 n _ _ rk ways _ (hN.sl 1 rfl) (hN.sm 2 rfl) hH kk hn).mono ?_))
 rintro _ w7 ⟨gv,fv,ov,iv,db,dc,Qi,far,gV,outs,gQ,jA,ER,so,ES,si,rfl,cE,hGT⟩
 replace hN:aI w none_ w7 [_,_,_,_,_,_,_,_,_,_,_,_,_,_,_,_]:=hN.fV cE
 clear cE
 refine⟨(hN.sb [11,12,13,15]),?_⟩
 refine RQ.aA rfl (fun w hS=>(bT (cs:=[vJ n,v,rv,wv,gv,fv,ov,iv,db,dc]) acL fx (places:=#[(0,2),(2,2),(4,6)]) (by intro w;kernel_rfl) (pl:=[(0,.tmp 16),(1,.tmp 17),(2,.tmp 20)]) rfl (ps:=[(0,.agg #[vJ n,v]),(1,.agg #[rv,wv]),(2,.agg #[gv,fv,ov,iv,db,dc])]) rfl (zc:=[.int .i64 (0),vN,vN,vN,vN,vN,vN,vN,vN,vN]) rfl (aP (vs:=[vJ n,v]) rfl rfl (acv rfl) (aP (vs:=[rv,wv]) rfl rfl (acv rfl) (aP (vs:=[gv,fv,ov,iv,db,dc]) rfl rfl (acv rfl) rfl))))) ?_
 refine RQ.b0 rfl (aR (vs:=[vJ n,v,rv,wv,gv,fv,ov,iv,db,dc]) fg rfl rfl rfl (by intro u hu;simp only[ac1,acV,or_false]at hu;rcases hu with rfl|rfl|rfl|rfl|rfl|rfl|rfl|rfl|rfl|rfl<;>first|rfl|exact(hN.sl 0 rfl).bW|exact(hN.sl 1 rfl).bW|exact(hN.sl 12 rfl).bW|exact(hN.sl 3 rfl).bW|exact(hN.sl 5 rfl).bW|exact(hN.sl 7 rfl).bW|exact(hN.sl 9 rfl).bW|exact(hN.sm 13 rfl).bW|exact(hv.o.now hN).bW) hN 14 rfl rfl ?_)
 clear hN
 intro w8 (hN:aI w none_ w8 [_,_,_,_,_,_,_,_,_,_,_,_,_,_,_,_])
 refine⟨(hN.sb [11,12,13,15]),?_⟩
 refine RQ.aA (v:=.int .i64 (0)) rfl (fun w hS=>ai) (RQ.bq (aw (RW.ret (bb (RV.eB rfl rfl (dJ (hN.aJ 14 rfl) acL rfl fg)) ?_))))
 exact⟨_,_,_,_,_,_,_,_,_,_,_,_,_,_,_,_,_,_,_,_,_,_,rfl,hN.sb [12,13,0,1,2,3,4,5,6,7,8,9,10],hB,hGT⟩
end Go.Proofs.YtngkdkbpgoddlaaGreat
namespace Go.Proofs.YtngkdkbpgoddlaaGreat
open Go.RowKit Go.Rl
open Go.Gr Go.dn Go.jJ
theorem ga (w:World):aM acx 13 #[] w fun r w'=>r=.bool true∧Ext w w':=by
 refine aM.aZ afa ?_
 rw[Na]
 have hN:=aI.nil w none_
 refine RW.aN (RL.ag (v:=.bool false) ai (RL.ak (RW.aN ?_)))
 refine RL.aK (G4 vb acQ vd rfl hN ?_)
 clear hN
 intro v1 w1 (hN:aI w none_ w1 [_])
 have aO:=(hN.QQ 0 rfl).hd
 obtain⟨h3,fO⟩:=aO
 subst fO
 refine RL.aK (cw (enc:=vh) (l:=[h3]) (xs:=[.tmp 2]) adA jK Nf rfl rfl (fun _=>rfl) rfl (by decide) (by decide) hN ?_)
 clear hN
 intro g2 w2 (hN:aI w none_ w2 [_,_])
 refine RL.aK (bo aeG rfl rfl rfl ((fy _ ([h3]) [[]] _ (hN.sl 0 rfl) (fW.cons (hN.QQ 1 rfl) (oW.none _ _) (fW.nil _ _ _)) (by decide)).mono ?_))
 rintro v4 w4 ⟨cL,bn⟩
 replace hN:aI w none_ w4 [_,_,_]:=hN.cc (l:=cP [[]]) cL bn
 clear cL bn
 replace hN:=hN.l0 0 rfl (show _=[4,0,0,0,0,0,0,0]from xf)
 replace hN:aI w none_ w4 [_,_,_]:=hN
 refine RL.ag (v:=v4) ai (RL.ak (RW.aN ?_))
 refine RL.aK (bo aeG rfl rfl rfl ((fy _ [] [] _ (Sl.nil _ _) (fW.nil _ _ _) (by decide)).mono ?_))
 rintro v5 w5 ⟨cL,bn⟩
 replace hN:aI w none_ w5 [_,_,_,_]:=hN.cc (l:=cP []) cL bn
 clear cL bn
 have AD:=(hN.sl 0 rfl).bw
 refine RL.ag (aQ acQ (hN.sl 0 rfl)) (RL.ag (dm (bZ) rfl) (RL.ag (v:=.bool true) U (RL.an (v:=v4) U ?_)))
 have Fb:=(hN.sl 1 rfl).bw
 refine RL.an (aQ acQ (hN.sl 1 rfl)) (RL.an (dm (bZ) rfl) (RL.ag (v:=.bool true) (al) (RL.ag (v:=.bool true) U (RL.an (v:=v4) U (RL.an (jR acQ vd (hN.sl 1 rfl) rfl rfl (by decide) (by decide)) (RL.an (kz (m:=0) (a:=4) adr rfl (hN.sl 1 rfl) rfl rfl) (RL.an (dm (bZ) rfl) (RL.ag (v:=.bool true) (al) (RL.ag (v:=.bool true) U ?_)))))))))
 refine RL.an (v:=v4) U (RL.an (jR acQ vd (hN.sl 1 rfl) rfl rfl (by decide) (by decide)) (RL.an (kz (m:=7) (a:=0) adr rfl (hN.sl 1 rfl) rfl rfl) (RL.an (dm (bZ) rfl) (RL.ag (v:=.bool true) (al) (RL.ag (v:=.bool true) U (RL.an (v:=v4) U ?_))))))
 refine RL.ed (bo agC rfl rfl rfl ((kK _ ([4,0,0,0,0,0,0,0]) _ (hN.sl 1 rfl) (by decide)).mono ?_))
 rintro v10 lW ⟨vQ,cE⟩
 replace hN:aI w none_ lW [_,_,_,_,_,_]:=hN.fV cE
 clear cE
 have Xs:=gP [[]] (by decide)
 rw[xf]at Xs
 have SL:=(hN.fm 1 rfl).1
 rw[Xs]at SL
 have S5:=(hN.sl 0 rfl).bw
 refine RL.an (aQ adA (hN.sl 0 rfl)) (RL.an (dm (bZ) (by rw[SL];rfl)) (RL.ag (v:=.bool true) (al) (RL.ag (v:=.bool true) ai (RL.ak (RW.ret (bb (RV.tmp rfl) ?_))))))
 exact⟨rfl,hN.bc⟩
theorem EA (n:Int) (v:Value) (l:List I3) (w:World) (hv:Sm bJ w v l):aM acx 9 #[.int .i64 n,v] w fun r w'=>∃v',r=.agg #[.int .i64 (jj n),v']∧fR bJ 3 100 w' w.heap.size v' (cn (jj n) l)∧Ext w w':=by
 refine aM.aZ Tryz.func9 ?_
 rw[cT]
 have hN:=aI.nil w none_
 refine RW.aN ?_
 refine RL.aK (bz (cs:=[.int .i64 (0),vN]) oA rfl hN ?_)
 clear hN
 intro g1 w1 (hN:aI w none_ w1 [_])
 refine RL.b6 (RL.ag (v:=.int .i64 (n)) U (RL.ag (v:=v) U ?_))
 refine RL.aK (bu Tryz.func27 rfl rfl rfl rfl ((G7 (n) _ l _ (hv.o.now hN)).mono ?_))
 rintro _ w2 ⟨v2,rfl,cL,bn⟩
 replace hN:aI w none_ w2 [_,_]:=hN.fF cL bn
 clear cL bn
 refine RL.aK (aR (vs:=[.int .i64 ((jj (n))),v2]) dN rfl rfl rfl (by intro u hu;simp only[ac1,acV,or_false]at hu;rcases hu with rfl|rfl<;>first|rfl|exact(hN.sm 0 rfl).bW) hN 1 rfl rfl ?_)
 clear hN
 intro w3 (hN:aI w none_ w3 [_,_])
 refine RL.ak (RW.ret (bb (RV.cell rfl rfl (hN.aJ 1 rfl) acI rfl dN) ?_))
 exact⟨_,rfl,hN.fT 0 rfl,hN.bc⟩
theorem Ey (n:Int) (v:Value) (l:List I3) (w:World) (hv:Sm bJ w v l):aM acx 9 #[.int .i64 n,v] w fun r w'=>∃(q:Nat) (v':Value),r=.agg #[.int .i64 (q:Int),v']∧((q:Int)=jj n∧1≤q∧q≤12∧ee (q:Int) (cn (q:Int) l)=0∧(cn (q:Int) l).length≤40)∧fR bJ 3 100 w' w.heap.size v' (cn (q:Int) l)∧Ext w w':=by
  refine(EA n v l w hv).mono ?_
  rintro r w' ⟨v',rfl,ho,he⟩
  have h1:=sA n
  have e:((jj n).toNat:Int)=jj n:=by omega
  refine⟨(jj n).toNat,v',by rw[e],⟨e,by omega,by omega,by rw[e];exact KN n l,tK _ l⟩,by rw[e];exact ho,he⟩
end Go.Proofs.YtngkdkbpgoddlaaGreat
namespace Go.Proofs.YtngkdkbpgoddlaaGreat
open Go.RowKit Go.Rl
open Go.Gr Go.dn Go.jJ
theorem jo (v:Value) (l:List UInt8) (w:World) (hv:Sl vb w v l) (hl:l.length≤1048576) (hd:mB l=none):aM acx 15 #[v] w fun r w'=>r=.tuple #[.agg #[.int .i64 (0),vN,vN,vN,vN,vN,vN,vN,vN,vN],.int .i64 5]∧Ext w w':=
  (pV v l w hv hl).mono fun _ _ h=>by rw[hd]at h;exact h
theorem fI {x:nf} (v:Value) (l:List UInt8) (w:World) (hv:Sl vb w v l) (hl:l.length≤1048576) (hd:mB l=some x):aM acx 15 #[v] w fun r w'=>∃v rv wv gv fv ov iv db dc hf ho iy gV gQ,r=.tuple #[.agg #[.int .i64 x.n,v,rv,wv,gv,fv,ov,iv,db,dc],.int .i64 0]∧aI w none_ w' [.cp bJ 3 100 v x.ar,.own vI 3 rv x.rk,.cp aV 5 98 wv x.ws,.own vI 3 gv x.g,.own vh 25 fv hf,.eE vI hf x.far,.own vh 118 ov ho,.ez bG ho x.outs,.own vh 118 iv iy,.ez bG iy x.ins,.own vh 25 db gV,.eE vI gV x.so,.own vh 25 dc gQ,.eE vI gQ x.si]:=
  (pV v l w hv hl).mono fun _ _ h=>by rw[hd]at h;exact h
end Go.Proofs.YtngkdkbpgoddlaaGreat
namespace Go.Gr
open Go.Rl Go.dn Go.jJ
theorem ql (ls:List (List Int)):(dW ls).flatten.length=12+4*ls.length+8*bQ ls:=by
  have h:((ls.map bE).flatten).length=4*ls.length+8*bQ ls:=by
    unfold bQ
    induction ls with
    |nil=>rfl
    |cons a r ih=>simp only[adb,ac6,acw,acF,ad4,ck,ih];omega
  unfold dW
  simp only[ac6,acw,ck,acF,acN,h];omega
theorem tt (ls:List (List I2)):(eC ls).flatten.length=12+8*ls.length+16*bQ ls:=by
  have e:(ls.flatMap eN).flatten=(ls.map fun r=>(eN r).flatten).flatten:=by
    rw[afE,ae5,aem];rfl
  have hl:∀r:List I2,(eN r).flatten.length=8+16*r.length:=fun r=>by simp only[eN,ac6,aew,acw,acN,ck,ac4];omega
  have h:((ls.map fun r=>(eN r).flatten).flatten).length=8*ls.length+16*bQ ls:=by
    clear e
    unfold bQ
    induction ls with
    |nil=>rfl
    |cons a r ih=>simp only[adb,ac6,acw,acF,ad4,hl,ih];omega
  unfold eC
  simp only[ac6,acw,ck,acF,acN,e,h];omega
theorem EE (x:nf):dX (dR x)≤155+24*x.ar.length+8*x.rk.length+40*x.ws.length+16*kj x:=by
  have e:=Dm x
  rw[ql,tt,tt,ql,ql]at e
  unfold kj
  omega
theorem K4 {x y:nf} (hx:CK x) (hy:CK y) (mx:dX (dR x)<4294967296) (my:dX (dR y)<4294967296) (h:cP (dR x)=cP (dR y)):x=y:=by
  have h1:=(LC hx hy mx my).1 h
  obtain⟨⟨e1,e2⟩,⟨e3,e4⟩,e5,e6,e7,e8,e9,Tf⟩:=h1
  cases x;cases y
  simp only at e1 e2 e3 e4 e5 e6 e7 e8 e9 Tf
  subst e1 e2 e3 e4 e5 e6 e7 e8 e9 Tf
  rfl
theorem LH {x:nf} (hx:CK x) (hm:dX (dR x)≤4000000000):mB (cP (dR x))=if mP x=0 then some x else none:=by
  by_cases h:mP x=0
  · rw[if_pos h];exact A7 hx (by omega) h
  · rw [if_neg h]
    cases hq:mB (cP (dR x))with
    |none=>rfl
    |some z=>
      obtain⟨h1,h2⟩:=xx hq
      have ZY:dX (dR z)≤4000000000:=by rw[←dZ,h2,dZ];exact hm
      have hz:=DK h1 (wG ZY) (by decide)
      have e:=K4 hz hx (by omega) (by omega) h2
      rw[e]at h1
      exact absurd h1 h
theorem zX {x y:nf} {k:Nat} {p:List UInt8} (ha:(dR x)[k]?=some p) (hb:(dR y)[k]?=some p):(dR y).set k p=dR y:=by
  refine afU fun i=>?_
  rw[adi]
  split
  · rename_i e; subst e
    rw[hb];split
    · rfl
    · rename_i hl;exact absurd (acA.1 hb).1 hl
  · rfl
theorem wV {y z:nf} {k:Nat} {p q:List UInt8} (hb:(dR y)[k]?=some q) (dY:¬p=q) (hm:dX ((dR y).set k p)<4294967296) (hd:mB (cP ((dR y).set k p))=some z):¬z=y:=by
  rintro rfl
  obtain⟨_,h2⟩:=xx hd
  have e1:=gP ((dR z).set k p) (by rw[dZ];exact hm)
  have e2:=gP (dR z) (by rw[h2,dZ];exact hm)
  rw[h2,e1]at e2
  have h3:((dR z).set k p)[k]?=some q:=by rw[e2];exact hb
  rw[adi,if_pos rfl,if_pos (acA.1 hb).1]at h3
  exact dY (ac2 h3)
theorem Hu {y z:nf} (h:¬z=y):¬((z.n=y.n∧z.ar=y.ar)∧(z.rk=y.rk∧z.ws=y.ws)∧z.g=y.g∧z.far=y.far∧z.outs=y.outs∧z.ins=y.ins∧z.so=y.so∧z.si=y.si):=by
  rintro⟨⟨e1,e2⟩,⟨e3,e4⟩,e5,e6,e7,e8,e9,Tf⟩
  apply h
  cases z;cases y
  simp only at e1 e2 e3 e4 e5 e6 e7 e8 e9 Tf
  subst e1 e2 e3 e4 e5 e6 e7 e8 e9 Tf
  rfl
theorem z1 {ls:List (List UInt8)} {k:Nat} {p:List UInt8} {A B:Nat} (h:dX ls≤A) (hp:p.length≤B):dX (ls.set k p)≤A+B+8:=by
  unfold dX at*
  induction ls generalizing k A with
  |nil=>simp at*
  |cons a r ih=>
    cases k with
    |zero=>
      simp only[List.set_cons_zero,adb,ad4]at*
      omega
    |succ k=>
      simp only[List.set_cons_succ,adb,ad4]at*
      have:=ih (k:=k) (A:=A-(a.length+8)) (by omega)
      omega
theorem z3 {ls:List (List UInt8)} {p:List UInt8} (h:p∈ls):p.length≤dX ls:=by
  unfold dX
  induction ls with
  |nil=>cases h
  |cons a r ih=>
    simp only[adb,ad4]
    rcases ac1.1 h with rfl|h
    · omega
    · have:=ih h;omega
end Go.Gr
namespace Go.Proofs.YtngkdkbpgoddlaaGreat
open Go.RowKit Go.Rl
open Go.Gr Go.dn Go.jJ
theorem YG {x:nf} (h:x.ar.length+x.rk.length+x.ws.length+kj x≤1048576):wr (kj x:Int)=kj x:=QF (by omega) (by omega)
theorem fW.set {F:Nat→Prop} {w:World} {hs:List Hd} {ls:List (List UInt8)} (h:fW F vb w hs ls) {k:Nat} {hd:Hd} {l:List UInt8} (h1:Sl vb w (vh hd) l) (h2:oW F (vh hd) l):fW F vb w (hs.set k hd) (ls.set k l):=by
  refine⟨by rw[adG,adG];exact h.1,fun i a b hi hl=>?_⟩
  rw[adi]at hi hl
  split at hi
  · rename_i e
    rw[if_pos e]at hl
    split at hi
    · split at hl
      · cases hi;cases hl;exact⟨h1,h2⟩
      · cases hl
    · cases hi
  · rename_i e
    rw[if_neg e]at hl
    exact h.2 i a b hi hl
theorem QW {k m:Int} (h0:0≤k):k.tmod m=k%m:=Int.tmod_eq_emod_of_nonneg h0
theorem tY (x:nf) (v rv wv gv fv ov iv db dc:Value) (hf ho hi gV gQ:List Hd) (n:Int) (av:Value) (l:List I3) (a:Int) (w:World) (hv:Sm bJ w v x.ar) (hr:Sl vI w rv x.rk) (hw:Sm aV w wv x.ws) (hT:pZ none_ w gv x.g fv hf x.far ov ho x.outs iv hi x.ins db gV x.so dc gQ x.si) (ha:Sm bJ w av l) (Vx:JH x) (IJ:x.ar.length+x.rk.length+x.ws.length+kj x≤1048576) (S1:0≤a) (Lo:a<256):aM acx 5 #[.agg #[.int .i64 x.n,v,rv,wv,gv,fv,ov,iv,db,dc],.int .i64 n,av,.int .u8 a] w fun r w'=>r=.bool true∧Ext w w':=by
 refine aM.aZ aja ?_
 rw[kX]
 have hN:=aI.nil w none_
 refine RW.aN ?_
 refine RL.aK (bL (cs:=[.int .i64 (x.n),v,rv,wv,gv,fv,ov,iv,db,dc]) rfl rfl hN ?_)
 clear hN
 intro g1 w1 (hN:aI w none_ w1 [_])
 refine RL.ag (v:=.bool false) ai (RL.b6 (RL.ag (v:=.int .i64 (n)) U (RL.ag (v:=av) U ?_)))
 refine RL.aK (bu Tryz.func9 rfl rfl rfl rfl ((Ey (n) _ l _ (ha.o.now hN)).mono ?_))
 rintro _ w2 ⟨q2,v2,rfl,Aq,cL,bn⟩
 obtain⟨ZH,ZK,Xl,mY,Pa⟩:=Aq
 replace hN:aI w none_ w2 [_,_]:=hN.fF cL bn
 clear cL bn
 refine RL.aK (bu Tryz.func8 rfl rfl rfl rfl ((Cb q2 _ (cn (q2:Int) l) (2) _ (hN.sm 0 rfl) mY Pa (by omega)).mono ?_))
 rintro _ w3 ⟨GM,F5,cC,cJ,Zg,ls_,I9,Jg,GY,Hr,sV,sW,Ah,ei,Ad,cX,Af,cY,qY,iN,qZ,iO,rfl,cE,Wj,Pk⟩
 generalize aai:(2:Int)=iT at cE Pk
 replace hN:aI w none_ w3 [_,_,_,_,_,_,_,_,_,_,_,_,_,_,_]:=hN.fV cE
 clear cE
 have mX:=Pk.size (l:=(cn (q2:Int) l)) (ways:=cJ) (by omega) (by rw[Wj.BN];omega) (by have:=Wj.Tu;omega) (by omega)
 have Z1:=mX.fX (n:=(q2:Int))
 refine RL.ag (v:=.tuple #[.agg #[vJ q2,v2,GM,F5,I9,Jg,GY,Hr,sV,sW],.int .i64 (0)]) U ?_
 iterate 2 refine RL.ag (bA) ?_
 refine RL.aK (bz (cs:=[.int .i64 (0),vN,vN,vN,vN,vN,vN,vN,vN,vN]) fx rfl hN ?_)
 clear hN
 intro g4 w4 (hN:aI w none_ w4 [_,_,_,_,_,_,_,_,_,_,_,_,_,_,_,_])
 refine RL.aK (aR (vs:=[vJ q2,v2,GM,F5,I9,Jg,GY,Hr,sV,sW]) fg rfl rfl rfl (by intro u hu;simp only[ac1,acV,or_false]at hu;rcases hu with rfl|rfl|rfl|rfl|rfl|rfl|rfl|rfl|rfl|rfl<;>first|rfl|exact(hN.sl 1 rfl).bW|exact(hN.sl 10 rfl).bW|exact(hN.sl 12 rfl).bW|exact(hN.sl 3 rfl).bW|exact(hN.sl 4 rfl).bW|exact(hN.sl 6 rfl).bW|exact(hN.sl 8 rfl).bW|exact(hN.sm 14 rfl).bW|exact(hN.sm 2 rfl).bW) hN 0 rfl rfl ?_)
 clear hN
 intro w5 (hN:aI w none_ w5 [_,_,_,_,_,_,_,_,_,_,_,_,_,_,_,_])
 refine RL.ag (v:=.int .i64 (0)) ai (RL.ak ?_)
 iterate 2 refine RW.seq ?_
 refine RW.region (RL.ag (aE (cs:=[.int .i64 (x.n),v,rv,wv,gv,fv,ov,iv,db,dc]) acL fg (hN.aJ 15 rfl)) ?_)
 refine RL.aK (bo Tryz.func17 rfl rfl rfl ((yh x _ _ _ _ _ _ _ _ _ _ _ _ _ _ _ (hv.o.now hN) (hr.o.now hN) (hw.o.now hN) (hT.ext hN.bc)).mono ?_))
 rintro _ w6 ⟨rfl,bn⟩
 replace hN:=hN.ext bn
 clear bn
 refine RL.ag (v:=.bool (decide (uY x))) U ?_
 by_cases Au:uY x
 rw[decide_eq_true Au]
 iterate 4 refine RL.bH ?_
 refine RL.ag (v:=.bool true) (al) (RL.ak (RW.bF (RW.aN ?_)))
 refine RL.aK (ji afa rfl rfl ((ga _).mono ?_))
 rintro _ w7 ⟨rfl,bn⟩
 replace hN:=hN.ext bn
 clear bn
 refine RL.ag (v:=.bool true) ai (RL.ak (RW.ret (aT (bb (RV.tmp rfl) ?_))))
 exact⟨rfl,hN.bc⟩
 rw[decide_eq_false Au]
 refine RL.an (ah acL rfl dN) (RL.an (ah acI rfl bK) (RL.an (aj acs (hN.aJ 15 rfl)) (RL.an (cr) (RL.ag (v:=.bool (decide (14<x.n))) (aB) (RL.ak ?_)))))
 refine RW.aG _ (fun UZ=>?_) (fun UZ=>?_)
 refine RW.aN ?_
 refine RL.aK (ji afa rfl rfl ((ga _).mono ?_))
 rintro _ w8 ⟨rfl,bn⟩
 replace hN:=hN.ext bn
 clear bn
 refine RL.ag (v:=.bool true) ai (RL.ak (RW.ret (aT (bb (RV.tmp rfl) ?_))))
 exact⟨rfl,hN.bc⟩
 refine RW.skip (aw (RW.seq ?_))
 have Qe:=YG IJ
 have RU:=Au
 unfold uY at RU
 rw[Qe]at RU
 have mn:=Ed (x:=x) (A:=90) (R:=14) (K:=900) (by omega) (by omega) (by omega) (by omega)
 have Qm:=EE x
 have ZZ:dX (dA x.n x.ar x.rk x.ws x.g x.far x.outs x.ins x.so x.si)=dX (dR x):=rfl
 have DA:=Vx.fit mn (by decide) (by decide) (by decide)
 have hjx:=dZ (dA x.n x.ar x.rk x.ws x.g x.far x.outs x.ins x.so x.si)
 have VL:=EK mY (by omega) Wj Pk
 have SN:=Jv (x:=⟨(q2:Int),(cn (q2:Int) l),cC,cJ,(bN cC (cb (cC.length:Int) iT) cC.length),ei,cX,cY,iN,iO⟩) VL mX (by decide) (by decide) (by decide)
 have aak:=dZ (dA (q2:Int) (cn (q2:Int) l) cC cJ (bN cC (cb (cC.length:Int) iT) cC.length) ei cX cY iN iO)
 refine RW.region (RL.ag (aE (cs:=[.int .i64 (x.n),v,rv,wv,gv,fv,ov,iv,db,dc]) acL fg (hN.aJ 15 rfl)) ?_)
 refine RL.aK (bo ahB rfl rfl rfl ((mA x.n x.ar x.rk x.ws x.g x.far x.outs x.ins x.so x.si _ _ _ _ _ _ _ _ _ _ _ _ _ _ _ (hv.o.now hN) (hr.o.now hN) (hw.o.now hN) ⟨(hT.tg.now hN).o,(hT.tf.now hN).o,(hT.JN.gD hN),(hT.to.now hN).o,(hT.D0.ext hN.bc),(hT.ti.now hN).o,(hT.tie.ext hN.bc),(hT.Gf.now hN).o,(hT.u7.gD hN),(hT.Gg.now hN).o,(hT.u9.gD hN)⟩ (acR mn.ar (by omega)) (acR mn.rk (by omega)) (acR mn.ws (by omega)) (acR mn.g (by omega)) ⟨acR mn.far.1 (by omega),fun r hr=>acR (mn.far.2 r hr) (by omega)⟩ ⟨acR mn.outs.1 (by omega),fun r hr=>acR (mn.outs.2 r hr) (by omega)⟩ ⟨acR mn.ins.1 (by omega),fun r hr=>acR (mn.ins.2 r hr) (by omega)⟩ ⟨acR mn.so.1 (by omega),fun r hr=>acR (mn.so.2 r hr) (by omega)⟩ ⟨acR mn.si.1 (by omega),fun r hr=>acR (mn.si.2 r hr) (by omega)⟩ (by omega)).mono ?_))
 rintro v9 w9 ⟨cL,bn⟩
 replace hN:aI w none_ w9 [_,_,_,_,_,_,_,_,_,_,_,_,_,_,_,_,_]:=hN.cc (l:=cP (dA x.n x.ar x.rk x.ws x.g x.far x.outs x.ins x.so x.si)) cL bn
 clear cL bn
 have ZM:=gP (dA x.n x.ar x.rk x.ws x.g x.far x.outs x.ins x.so x.si) (by omega)
 refine RL.aK (bo agC rfl rfl rfl ((kK _ (cP (dA x.n x.ar x.rk x.ws x.g x.far x.outs x.ins x.so x.si)) _ (hN.sl 0 rfl) (by omega)).mono ?_))
 rintro v10 lW ⟨vQ,cE⟩
 rw[ZM]at cE
 replace hN:aI w none_ lW [_,_,_,_,_,_,_,_,_,_,_,_,_,_,_,_,_,_,_]:=hN.fV cE
 clear cE
 refine RL.ag (v:=v10) ai (RL.b6 (RL.ag (aE (cs:=[vJ q2,v2,GM,F5,I9,Jg,GY,Hr,sV,sW]) acL fg (hN.aJ 3 rfl)) ?_))
 refine RL.aK (bo ahB rfl rfl rfl ((mA (q2:Int) (cn (q2:Int) l) cC cJ (bN cC (cb (cC.length:Int) iT) cC.length) ei cX cY iN iO _ _ _ _ _ _ _ _ _ _ _ _ _ _ _ (hN.sm 17 rfl) (hN.sl 4 rfl) (hN.sm 5 rfl) ⟨(hN.sl 6 rfl).o,(hN.sl 7 rfl).o,(hN.fm 8 rfl),(hN.sl 9 rfl).o,(hN.kF 10 rfl),(hN.sl 11 rfl).o,(hN.kF 12 rfl),(hN.sl 13 rfl).o,(hN.fm 14 rfl),(hN.sl 15 rfl).o,(hN.fm 16 rfl)⟩ (acR mX.ar (by omega)) (acR mX.rk (by omega)) (acR mX.ws (by omega)) (acR mX.g (by omega)) ⟨acR mX.far.1 (by omega),fun r hr=>acR (mX.far.2 r hr) (by omega)⟩ ⟨acR mX.outs.1 (by omega),fun r hr=>acR (mX.outs.2 r hr) (by omega)⟩ ⟨acR mX.ins.1 (by omega),fun r hr=>acR (mX.ins.2 r hr) (by omega)⟩ ⟨acR mX.so.1 (by omega),fun r hr=>acR (mX.so.2 r hr) (by omega)⟩ ⟨acR mX.si.1 (by omega),fun r hr=>acR (mX.si.2 r hr) (by omega)⟩ (by omega)).mono ?_))
 rintro v11 lR ⟨cL,bn⟩
 replace hN:aI w none_ lR [_,_,_,_,_,_,_,_,_,_,_,_,_,_,_,_,_,_,_,_]:=hN.cc (l:=cP (dA (q2:Int) (cn (q2:Int) l) cC cJ (bN cC (cb (cC.length:Int) iT) cC.length) ei cX cY iN iO)) cL bn
 clear cL bn
 have ZL:=gP (dA (q2:Int) (cn (q2:Int) l) cC cJ (bN cC (cb (cC.length:Int) iT) cC.length) ei cX cY iN iO) (by omega)
 refine RL.aK (bo agC rfl rfl rfl ((kK _ (cP (dA (q2:Int) (cn (q2:Int) l) cC cJ (bN cC (cb (cC.length:Int) iT) cC.length) ei cX cY iN iO)) _ (hN.sl 0 rfl) (by omega)).mono ?_))
 rintro mV ll ⟨qx,cE⟩
 rw[ZL]at cE
 replace hN:aI w none_ ll [_,_,_,_,_,_,_,_,_,_,_,_,_,_,_,_,_,_,_,_,_,_]:=hN.fV cE
 clear cE
 refine RL.ag (v:=mV) ai (RL.ak ?_)
 iterate 2 refine RW.seq ?_
 have h4x:=(hN.fm 4 rfl).1
 have h4y:=(hN.fm 1 rfl).1
 refine RW.region (RL.ag (v:=v10) U ?_)
 have MY:=(hN.sl 3 rfl).bw
 refine RL.ag (aQ adA (hN.sl 3 rfl)) (RL.ag (cI (bj) (fun h=>h (by rw[h4x];rfl))) (RL.ag (v:=.bool false) U (RL.an (v:=mV) U ?_)))
 have Yi:=(hN.sl 0 rfl).bw
 refine RL.an (aQ adA (hN.sl 0 rfl)) (RL.an (cI (bj) (fun h=>h (by rw[h4y];rfl))) (RL.ag (v:=.bool false) (aB) ?_))
 have TK:=LH DA (by omega)
 refine RL.ak (RW.cg (RW.skip (aw (RW.seq ?_))))
 by_cases rP:mP x=0
 rw[if_pos rP]at TK
 refine RW.region (RL.ag (v:=v10) U ?_)
 refine RL.aK (bo aeG rfl rfl rfl ((fy _ vQ (dA x.n x.ar x.rk x.ws x.g x.far x.outs x.ins x.so x.si) _ (hN.sl 3 rfl) (hN.fm 4 rfl) (by omega)).mono ?_))
 rintro kH qf ⟨cL,bn⟩
 replace hN:aI w none_ qf [_,_,_,_,_,_,_,_,_,_,_,_,_,_,_,_,_,_,_,_,_,_,_]:=hN.cc (l:=cP (dA x.n x.ar x.rk x.ws x.g x.far x.outs x.ins x.so x.si)) cL bn
 clear cL bn
 refine RL.aK (bo ae9 rfl rfl rfl ((fI _ (cP (dA x.n x.ar x.rk x.ws x.g x.far x.outs x.ins x.so x.si)) _ (hN.sl 0 rfl) (by omega) TK).mono ?_))
 rintro _ qe ⟨qh,Ks,Ka,Lu,Ly,KC,KZ,C8,C9,SK,RR,SD,Mf,Mg,rfl,cE⟩
 replace hN:aI w none_ qe [_,_,_,_,_,_,_,_,_,_,_,_,_,_,_,_,_,_,_,_,_,_,_,_,_,_,_,_,_,_,_,_,_,_,_,_,_]:=hN.fV cE
 clear cE
 refine RL.ag (v:=.tuple #[.agg #[.int .i64 (x.n),qh,Ks,Ka,Lu,Ly,KC,KZ,C8,C9],.int .i64 (0)]) U ?_
 iterate 2 refine RL.ag (bA) ?_
 refine RL.aK (bz (cs:=[.int .i64 (0),vN,vN,vN,vN,vN,vN,vN,vN,vN]) fx rfl hN ?_)
 clear hN
 intro Yz sQ (hN:aI w none_ sQ [_,_,_,_,_,_,_,_,_,_,_,_,_,_,_,_,_,_,_,_,_,_,_,_,_,_,_,_,_,_,_,_,_,_,_,_,_,_])
 refine RL.aK (aR (vs:=[.int .i64 (x.n),qh,Ks,Ka,Lu,Ly,KC,KZ,C8,C9]) fg rfl rfl rfl (by intro u hu;simp only[ac1,acV,or_false]at hu;rcases hu with rfl|rfl|rfl|rfl|rfl|rfl|rfl|rfl|rfl|rfl<;>first|rfl|exact(hN.sl 11 rfl).bW|exact(hN.sl 13 rfl).bW|exact(hN.sl 2 rfl).bW|exact(hN.sl 4 rfl).bW|exact(hN.sl 5 rfl).bW|exact(hN.sl 7 rfl).bW|exact(hN.sl 9 rfl).bW|exact(hN.sm 1 rfl).bW|exact(hN.sm 3 rfl).bW) hN 0 rfl rfl ?_)
 clear hN
 intro u0 (hN:aI w none_ u0 [_,_,_,_,_,_,_,_,_,_,_,_,_,_,_,_,_,_,_,_,_,_,_,_,_,_,_,_,_,_,_,_,_,_,_,_,_,_])
 refine RL.ag (v:=.int .i64 (0)) ai (RL.ak ?_)
 iterate 2 refine RW.seq ?_
 refine RW.region (RL.ag (v:=.int .i64 (0)) U (RL.ag (dm (bZ) rfl) (RL.ag (aE (cs:=[.int .i64 (x.n),v,rv,wv,gv,fv,ov,iv,db,dc]) acL fg (hN.aJ 37 rfl)) ?_)))
 refine RL.aK (bo aiT rfl rfl rfl ((ot (x.n) _ _ _ x.ar x.rk x.ws _ (hv.o.now hN) (hr.o.now hN) (hw.o.now hN) _ x.g (hT.tg.now hN) _ hf x.far (hT.tf.now hN) (hT.JN.gD hN) _ ho x.outs (hT.to.now hN) (hT.D0.ext hN.bc) _ hi x.ins (hT.ti.now hN) (hT.tie.ext hN.bc) _ gV x.so (hT.Gf.now hN) (hT.u7.gD hN) _ gQ x.si (hT.Gg.now hN) (hT.u9.gD hN) (fun r hr=>acR (mn.outs.2 r hr) (by decide)) (fun r hr=>acR (mn.ins.2 r hr) (by decide))).mono ?_))
 rintro _ Bk ⟨rfl,bn⟩
 replace hN:=hN.ext bn
 clear bn
 refine RL.ag (dm (bZ) rP) (RL.ag (xw aek rfl rfl) (RL.ak (RW.cg (RW.skip (aw (RW.aN (RL.ag (v:=.int .u8 (a)) U ?_)))))))
 refine RL.ag (eA adr acs rfl (sJ (by omega) (by omega))) (RL.ag (show Ev _ _ _ _ (.int .i64 (a%4))from CM rfl rfl (by decide) (QW S1)) (RL.ag (v:=.int .i64 ((a%4))) ai (RL.ak (RW.seq ?_))))
 have U5:(dA x.n x.ar x.rk x.ws x.g x.far x.outs x.ins x.so x.si).length=4:=rfl
 have U4:(dA (q2:Int) (cn (q2:Int) l) cC cJ (bN cC (cb (cC.length:Int) iT) cC.length) ei cX cY iN iO).length=4:=rfl
 replace hN:=hN.ext (Ext.drew Bk)
 refine RW.bD (fun u=>aI w none_ u [.aJ Yz [.int .i64 (x.n),qh,Ks,Ka,Lu,Ly,KC,KZ,C8,C9] 34,.cp bJ 3 100 (qh) (x.ar),.own vI 3 (Ks) (x.rk),.cp aV 5 98 (Ka) (x.ws),.own vI 3 (Lu) (x.g),.own vh 25 (Ly) (SK),.eE vI (SK) (x.far),.own vh 118 (KC) (RR),.ez bG (RR) (x.outs),.own vh 118 (KZ) (SD),.ez bG (SD) (x.ins),.own vh 25 (C8) (Mf),.eE vI (Mf) (x.so),.own vh 25 (C9) (Mg),.eE vI (Mg) (x.si),.own vb 5 (kH) (cP (dA x.n x.ar x.rk x.ws x.g x.far x.outs x.ins x.so x.si)),.own vh 38 (mV) (qx),.eE vb (qx) ((dA (q2:Int) (cn (q2:Int) l) cC cJ (bN cC (cb (cC.length:Int) iT) cC.length) ei cX cY iN iO)),.own vb 5 (v11) (cP (dA (q2:Int) (cn (q2:Int) l) cC cJ (bN cC (cb (cC.length:Int) iT) cC.length) ei cX cY iN iO)),.own vh 38 (v10) (vQ),.eE vb (vQ) ((dA x.n x.ar x.rk x.ws x.g x.far x.outs x.ins x.so x.si)),.own vb 5 (v9) (cP (dA x.n x.ar x.rk x.ws x.g x.far x.outs x.ins x.so x.si)),.aJ g4 [vJ q2,v2,GM,F5,I9,Jg,GY,Hr,sV,sW] 34,.own vI 3 (GM) (cC),.cp aV 5 98 (F5) (cJ),.own vI 3 (I9) ((bN cC (cb (cC.length:Int) iT) cC.length)),.own vh 25 (Jg) (Ah),.eE vI (Ah) (ei),.own vh 118 (GY) (Ad),.ez bG (Ad) (cX),.own vh 118 (Hr) (Af),.ez bG (Af) (cY),.own vh 25 (sV) (qY),.eE vI (qY) (iN),.own vh 25 (sW) (qZ),.eE vI (qZ) (iO),.cp bJ 3 100 (v2) ((cn (q2:Int) l)),.aJ g1 [.int .i64 (x.n),v,rv,wv,gv,fv,ov,iv,db,dc] 34]) 10 [(0,0),(1,0),(2,0),(3,0),(4,0),(5,0),(6,0),(7,0),(8,1),(9,0)] (by intro _ _ _ h;exact h) hN ?_
 refine RQ.aA (v:=v10) rfl (fun w hS=>U) (RQ.aA (v:=.int .i64 ((a%4))) rfl (fun w hS=>U) (RQ.aA rfl (fun w hS=>(aC adA jK (hS.sl 19 rfl))) ?_))
 have aO:=da (vQ) (((a%4)).toNat)
 obtain⟨ap,bX⟩:=aO
 have aO:∃l_,((dA x.n x.ar x.rk x.ws x.g x.far x.outs x.ins x.so x.si))[((a%4)).toNat]?=some l_:=⟨_,acE (by have:=(hN.fm 20 rfl).1;omega)⟩
 obtain⟨lp,ey⟩:=aO
 refine RQ.aA rfl (fun w hS=>(aF (m:=((a%4)).toNat) (a:=ap) acQ (hS.sl 19 rfl) bX)) (RQ.aA (v:=mV) rfl (fun w hS=>U) (RQ.aA (v:=.int .i64 ((a%4))) rfl (fun w hS=>U) (RQ.aA rfl (fun w hS=>(aC adA jK (hS.sl 16 rfl))) ?_)))
 have aO:=da (qx) (((a%4)).toNat)
 obtain⟨aq,iB⟩:=aO
 have aO:∃l_,((dA (q2:Int) (cn (q2:Int) l) cC cJ (bN cC (cb (cC.length:Int) iT) cC.length) ei cX cY iN iO))[((a%4)).toNat]?=some l_:=⟨_,acE (by have:=(hN.fm 17 rfl).1;omega)⟩
 obtain⟨lq,u4⟩:=aO
 refine RQ.aA rfl (fun w hS=>(aF (m:=((a%4)).toNat) (a:=aq) acQ (hS.sl 16 rfl) iB)) ?_
 refine RQ.b0 rfl (bu aiN rfl rfl rfl rfl ((tb _ _ lp lq _ ((hN.fm 20 rfl).2 _ _ _ bX ey).1 ((hN.fm 17 rfl).2 _ _ _ iB u4).1).mono ?_))
 rintro _ _ ⟨rfl,rfl⟩
 refine⟨hN,?_⟩
 refine RQ.aA (v:=.bool (decide (lp=lq))) rfl (fun w hS=>ai) (RQ.bq (aw (RW.aN (RL.ag (v:=mV) U (RL.ag (v:=.int .i64 ((a%4))) U (RL.ag (v:=v10) U (RL.ag (v:=.int .i64 ((a%4))) U (RL.ag (aC adA jK (hN.sl 19 rfl)) ?_))))))))
 refine RL.ag (aF (m:=((a%4)).toNat) (a:=ap) acQ (hN.sl 19 rfl) bX) (RL.ag (aC adA jK (hN.sl 16 rfl)) ?_)
 refine RL.aK (cu (m:=((a%4)).toNat) (a:=ap) jK hN 16 rfl rfl (by omega) rfl rfl rfl rfl ?_)
 clear hN
 intro y1 (hN:aI w none_ y1 [_,_,_,_,_,_,_,_,_,_,_,_,_,_,_,_,_,_,_,_,_,_,_,_,_,_,_,_,_,_,_,_,_,_,_,_,_,_])
 have Ou:dX (dA (q2:Int) (cn (q2:Int) l) cC cJ (bN cC (cb (cC.length:Int) iT) cC.length) ei cX cY iN iO)≤1000000:=by omega
 have R6:=z1 (k:=((a%4)).toNat) (p:=lp) Ou (z3 (acy ey))
 have Vg:=dZ ((dA (q2:Int) (cn (q2:Int) l) cC cJ (bN cC (cb (cC.length:Int) iT) cC.length) ei cX cY iN iO).set ((a%4)).toNat lp)
 refine RL.ak (RW.seq ?_)
 by_cases EU:lp=lq
 refine RW.region (RL.ag (v:=mV) U ?_)
 refine RL.aK (bo aeG rfl rfl rfl ((fy _ ((qx).set ((a%4)).toNat (ap)) ((dA (q2:Int) (cn (q2:Int) l) cC cJ (bN cC (cb (cC.length:Int) iT) cC.length) ei cX cY iN iO).set ((a%4)).toNat lp) _ (hN.sl 16 rfl) (fW.set (hN.fm 17 rfl) ((hN.fm 20 rfl).2 _ _ _ bX ey).1 (oW.none _ _)) (by omega)).mono ?_))
 rintro YS zk ⟨cL,bn⟩
 replace hN:aI w none_ zk [_,_,_,_,_,_,_,_,_,_,_,_,_,_,_,_,_,_,_,_,_,_,_,_,_,_,_,_,_,_,_,_,_,_,_,_,_,_,_]:=hN.cc (l:=cP ((dA (q2:Int) (cn (q2:Int) l) cC cJ (bN cC (cb (cC.length:Int) iT) cC.length) ei cX cY iN iO).set ((a%4)).toNat lp)) cL bn
 clear cL bn
 refine RL.aK (bo ae9 rfl rfl rfl ((fI _ (cP ((dA (q2:Int) (cn (q2:Int) l) cC cJ (bN cC (cb (cC.length:Int) iT) cC.length) ei cX cY iN iO).set ((a%4)).toNat lp)) _ (hN.sl 0 rfl) (by omega) (by rw[show(dA (q2:Int) (cn (q2:Int) l) cC cJ (bN cC (cb (cC.length:Int) iT) cC.length) ei cX cY iN iO).set ((a%4)).toNat lp=dA (q2:Int) (cn (q2:Int) l) cC cJ (bN cC (cb (cC.length:Int) iT) cC.length) ei cX cY iN iO from zX (x:=x) (y:=⟨(q2:Int),(cn (q2:Int) l),cC,cJ,(bN cC (cb (cC.length:Int) iT) cC.length),ei,cX,cY,iN,iO⟩) ey (by rw[EU];exact u4)];exact SN)).mono ?_))
 rintro _ C3 ⟨Tx,NL,Nq,Ps,Pw,NT,N4,Gz,GF,VB,UY,Vq,Ry,RD,rfl,cE⟩
 replace hN:aI w none_ C3 [_,_,_,_,_,_,_,_,_,_,_,_,_,_,_,_,_,_,_,_,_,_,_,_,_,_,_,_,_,_,_,_,_,_,_,_,_,_,_,_,_,_,_,_,_,_,_,_,_,_,_,_,_]:=hN.fV cE
 clear cE
 refine RL.ag (v:=.tuple #[.agg #[vJ q2,Tx,NL,Nq,Ps,Pw,NT,N4,Gz,GF],.int .i64 (0)]) U ?_
 iterate 2 refine RL.ag (bA) ?_
 refine RL.aK (bz (cs:=[.int .i64 (0),vN,vN,vN,vN,vN,vN,vN,vN,vN]) fx rfl hN ?_)
 clear hN
 intro g25 LW (hN:aI w none_ LW [_,_,_,_,_,_,_,_,_,_,_,_,_,_,_,_,_,_,_,_,_,_,_,_,_,_,_,_,_,_,_,_,_,_,_,_,_,_,_,_,_,_,_,_,_,_,_,_,_,_,_,_,_,_])
 refine RL.aK (aR (vs:=[vJ q2,Tx,NL,Nq,Ps,Pw,NT,N4,Gz,GF]) fg rfl rfl rfl (by intro u hu;simp only[ac1,acV,or_false]at hu;rcases hu with rfl|rfl|rfl|rfl|rfl|rfl|rfl|rfl|rfl|rfl<;>first|rfl|exact(hN.sl 11 rfl).bW|exact(hN.sl 13 rfl).bW|exact(hN.sl 2 rfl).bW|exact(hN.sl 4 rfl).bW|exact(hN.sl 5 rfl).bW|exact(hN.sl 7 rfl).bW|exact(hN.sl 9 rfl).bW|exact(hN.sm 1 rfl).bW|exact(hN.sm 3 rfl).bW) hN 0 rfl rfl ?_)
 clear hN
 intro DX (hN:aI w none_ DX [_,_,_,_,_,_,_,_,_,_,_,_,_,_,_,_,_,_,_,_,_,_,_,_,_,_,_,_,_,_,_,_,_,_,_,_,_,_,_,_,_,_,_,_,_,_,_,_,_,_,_,_,_,_])
 refine RL.ag (v:=.int .i64 (0)) ai (RL.ak ?_)
 iterate 2 refine RW.seq ?_
 refine RW.region (RL.ag (v:=.bool (decide (lp=lq))) U (RL.ak (RW.mD _ rfl EU (RW.aN (RL.ag (v:=.int .i64 (0)) U (RL.ag (dm (bZ) rfl) (RL.ag (v:=.bool true) U ?_)))))))
 refine RL.an (aE (cs:=[vJ q2,Tx,NL,Nq,Ps,Pw,NT,N4,Gz,GF]) acL fg (hN.aJ 0 rfl)) (RL.an (aE (cs:=[vJ q2,v2,GM,F5,I9,Jg,GY,Hr,sV,sW]) acL fg (hN.aJ 38 rfl)) ?_)
 refine RL.ed (bu agD rfl rfl rfl rfl ((jD _ ((q2:Int)) _ _ _ (cn (q2:Int) l) cC cJ (hN.sm 1 rfl) (hN.sl 2 rfl) (hN.sm 3 rfl) _ (bN cC (cb (cC.length:Int) iT) cC.length) (hN.sl 4 rfl) _ VB ei (hN.sl 5 rfl) (hN.fm 6 rfl) _ UY cX (hN.sl 7 rfl) (hN.kF 8 rfl) _ Vq cY (hN.sl 9 rfl) (hN.kF 10 rfl) _ Ry iN (hN.sl 11 rfl) (hN.fm 12 rfl) _ RD iO (hN.sl 13 rfl) (hN.fm 14 rfl) ((q2:Int)) _ _ _ (cn (q2:Int) l) cC cJ (hN.sm 52 rfl) (hN.sl 39 rfl) (hN.sm 40 rfl) _ (bN cC (cb (cC.length:Int) iT) cC.length) (hN.sl 41 rfl) _ Ah ei (hN.sl 42 rfl) (hN.fm 43 rfl) _ Ad cX (hN.sl 44 rfl) (hN.kF 45 rfl) _ Af cY (hN.sl 46 rfl) (hN.kF 47 rfl) _ qY iN (hN.sl 48 rfl) (hN.fm 49 rfl) _ qZ iO (hN.sl 50 rfl) (hN.fm 51 rfl)).mono ?_))
 rintro _ Gb ⟨rfl,bn⟩
 rw[decide_eq_true (show(((q2:Int):Int)=(q2:Int)∧((cn (q2:Int) l):List I3)=(cn (q2:Int) l))∧((cC:List Int)=cC∧(cJ:List I5)=cJ)∧((bN cC (cb (cC.length:Int) iT) cC.length):List Int)=(bN cC (cb (cC.length:Int) iT) cC.length)∧(ei:List (List Int))=ei∧(cX:List (List I2))=cX∧(cY:List (List I2))=cY∧(iN:List (List Int))=iN∧(iO:List (List Int))=iO from⟨⟨rfl,rfl⟩,⟨rfl,rfl⟩,rfl,rfl,rfl,rfl,rfl,rfl⟩)]
 replace hN:=hN.ext bn
 clear bn
 refine RL.ag (v:=.bool true) (al) (RL.ag (v:=.bool true) U ?_)
 refine RL.ed (ji afa rfl rfl ((ga _).mono ?_))
 rintro _ FG ⟨rfl,bn⟩
 replace hN:=hN.ext bn
 clear bn
 refine RL.ag (v:=.bool true) (al) (RL.ag (v:=.bool true) ai (RL.ak (RW.ret (aT (bb (RV.tmp rfl) ?_)))))
 exact⟨rfl,hN.bc⟩
 rcases OV:mB (cP ((dA (q2:Int) (cn (q2:Int) l) cC cJ (bN cC (cb (cC.length:Int) iT) cC.length) ei cX cY iN iO).set ((a%4)).toNat lp))with _|z
 refine RW.region (RL.ag (v:=mV) U ?_)
 refine RL.aK (bo aeG rfl rfl rfl ((fy _ ((qx).set ((a%4)).toNat (ap)) ((dA (q2:Int) (cn (q2:Int) l) cC cJ (bN cC (cb (cC.length:Int) iT) cC.length) ei cX cY iN iO).set ((a%4)).toNat lp) _ (hN.sl 16 rfl) (fW.set (hN.fm 17 rfl) ((hN.fm 20 rfl).2 _ _ _ bX ey).1 (oW.none _ _)) (by omega)).mono ?_))
 rintro Ub LV ⟨cL,bn⟩
 replace hN:aI w none_ LV [_,_,_,_,_,_,_,_,_,_,_,_,_,_,_,_,_,_,_,_,_,_,_,_,_,_,_,_,_,_,_,_,_,_,_,_,_,_,_]:=hN.cc (l:=cP ((dA (q2:Int) (cn (q2:Int) l) cC cJ (bN cC (cb (cC.length:Int) iT) cC.length) ei cX cY iN iO).set ((a%4)).toNat lp)) cL bn
 clear cL bn
 refine RL.aK (bo ae9 rfl rfl rfl ((jo _ (cP ((dA (q2:Int) (cn (q2:Int) l) cC cJ (bN cC (cb (cC.length:Int) iT) cC.length) ei cX cY iN iO).set ((a%4)).toNat lp)) _ (hN.sl 0 rfl) (by omega) OV).mono ?_))
 rintro _ Ny ⟨rfl,bn⟩
 replace hN:=hN.ext bn
 clear bn
 refine RL.ag (v:=.tuple #[.agg #[.int .i64 (0),vN,vN,vN,vN,vN,vN,vN,vN,vN],.int .i64 (5)]) U ?_
 iterate 2 refine RL.ag (bA) ?_
 refine RL.aK (bz (cs:=[.int .i64 (0),vN,vN,vN,vN,vN,vN,vN,vN,vN]) fx rfl hN ?_)
 clear hN
 intro Wn Kd (hN:aI w none_ Kd [_,_,_,_,_,_,_,_,_,_,_,_,_,_,_,_,_,_,_,_,_,_,_,_,_,_,_,_,_,_,_,_,_,_,_,_,_,_,_,_])
 refine RL.aK (aR (vs:=[.int .i64 (0),vN,vN,vN,vN,vN,vN,vN,vN,vN]) fg rfl rfl rfl (aW (aW (aW (aW (aW (aW (aW (aW (aW (aW cZ)))))))))) hN 0 rfl rfl ?_)
 clear hN
 intro FE (hN:aI w none_ FE [_,_,_,_,_,_,_,_,_,_,_,_,_,_,_,_,_,_,_,_,_,_,_,_,_,_,_,_,_,_,_,_,_,_,_,_,_,_,_,_])
 refine RL.ag (v:=.int .i64 (5)) ai (RL.ak ?_)
 iterate 2 refine RW.seq ?_
 refine RW.region (RL.ag (v:=.bool (decide (lp=lq))) U (RL.ak (RW.yL _ rfl EU (RW.skip (aw (RW.aN (RL.ag (v:=.int .i64 (5)) U ?_)))))))
 refine RL.ag (dm (bj) (by decide)) (RL.ag (v:=.bool true) U ?_)
 iterate 4 refine RL.bH ?_
 refine RL.ag (v:=.bool true) (al) (RL.ag (v:=.bool true) U ?_)
 refine RL.ed (ji afa rfl rfl ((ga _).mono ?_))
 rintro _ JK ⟨rfl,bn⟩
 replace hN:=hN.ext bn
 clear bn
 refine RL.ag (v:=.bool true) (al) (RL.ag (v:=.bool true) ai (RL.ak (RW.ret (bb (RV.tmp rfl) ?_))))
 exact⟨rfl,hN.bc⟩
 refine RW.region (RL.ag (v:=mV) U ?_)
 refine RL.aK (bo aeG rfl rfl rfl ((fy _ ((qx).set ((a%4)).toNat (ap)) ((dA (q2:Int) (cn (q2:Int) l) cC cJ (bN cC (cb (cC.length:Int) iT) cC.length) ei cX cY iN iO).set ((a%4)).toNat lp) _ (hN.sl 16 rfl) (fW.set (hN.fm 17 rfl) ((hN.fm 20 rfl).2 _ _ _ bX ey).1 (oW.none _ _)) (by omega)).mono ?_))
 rintro WO LU ⟨cL,bn⟩
 replace hN:aI w none_ LU [_,_,_,_,_,_,_,_,_,_,_,_,_,_,_,_,_,_,_,_,_,_,_,_,_,_,_,_,_,_,_,_,_,_,_,_,_,_,_]:=hN.cc (l:=cP ((dA (q2:Int) (cn (q2:Int) l) cC cJ (bN cC (cb (cC.length:Int) iT) cC.length) ei cX cY iN iO).set ((a%4)).toNat lp)) cL bn
 clear cL bn
 refine RL.aK (bo ae9 rfl rfl rfl ((fI _ (cP ((dA (q2:Int) (cn (q2:Int) l) cC cJ (bN cC (cb (cC.length:Int) iT) cC.length) ei cX cY iN iO).set ((a%4)).toNat lp)) _ (hN.sl 0 rfl) (by omega) OV).mono ?_))
 rintro _ Kc ⟨QJ,NK,Np,Pq,Pv,NS,N3,Gy,GD,VA,UX,Vp,Rx,RC,rfl,cE⟩
 replace hN:aI w none_ Kc [_,_,_,_,_,_,_,_,_,_,_,_,_,_,_,_,_,_,_,_,_,_,_,_,_,_,_,_,_,_,_,_,_,_,_,_,_,_,_,_,_,_,_,_,_,_,_,_,_,_,_,_,_]:=hN.fV cE
 clear cE
 refine RL.ag (v:=.tuple #[.agg #[.int .i64 (z.n),QJ,NK,Np,Pq,Pv,NS,N3,Gy,GD],.int .i64 (0)]) U ?_
 iterate 2 refine RL.ag (bA) ?_
 refine RL.aK (bz (cs:=[.int .i64 (0),vN,vN,vN,vN,vN,vN,vN,vN,vN]) fx rfl hN ?_)
 clear hN
 intro g36 Nx (hN:aI w none_ Nx [_,_,_,_,_,_,_,_,_,_,_,_,_,_,_,_,_,_,_,_,_,_,_,_,_,_,_,_,_,_,_,_,_,_,_,_,_,_,_,_,_,_,_,_,_,_,_,_,_,_,_,_,_,_])
 refine RL.aK (aR (vs:=[.int .i64 (z.n),QJ,NK,Np,Pq,Pv,NS,N3,Gy,GD]) fg rfl rfl rfl (by intro u hu;simp only[ac1,acV,or_false]at hu;rcases hu with rfl|rfl|rfl|rfl|rfl|rfl|rfl|rfl|rfl|rfl<;>first|rfl|exact(hN.sl 11 rfl).bW|exact(hN.sl 13 rfl).bW|exact(hN.sl 2 rfl).bW|exact(hN.sl 4 rfl).bW|exact(hN.sl 5 rfl).bW|exact(hN.sl 7 rfl).bW|exact(hN.sl 9 rfl).bW|exact(hN.sm 1 rfl).bW|exact(hN.sm 3 rfl).bW) hN 0 rfl rfl ?_)
 clear hN
 intro LS (hN:aI w none_ LS [_,_,_,_,_,_,_,_,_,_,_,_,_,_,_,_,_,_,_,_,_,_,_,_,_,_,_,_,_,_,_,_,_,_,_,_,_,_,_,_,_,_,_,_,_,_,_,_,_,_,_,_,_,_])
 refine RL.ag (v:=.int .i64 (0)) ai (RL.ak ?_)
 iterate 2 refine RW.seq ?_
 refine RW.region (RL.ag (v:=.bool (decide (lp=lq))) U (RL.ak (RW.yL _ rfl EU (RW.skip (aw (RW.aN (RL.ag (v:=.int .i64 (0)) U ?_)))))))
 refine RL.ag (cI (bj) (fun h=>h rfl)) (RL.ag (v:=.bool false) U (RL.an (aE (cs:=[.int .i64 (z.n),QJ,NK,Np,Pq,Pv,NS,N3,Gy,GD]) acL fg (hN.aJ 0 rfl)) (RL.an (aE (cs:=[vJ q2,v2,GM,F5,I9,Jg,GY,Hr,sV,sW]) acL fg (hN.aJ 38 rfl)) ?_)))
 refine RL.ed (bu agD rfl rfl rfl rfl ((jD _ (z.n) _ _ _ z.ar z.rk z.ws (hN.sm 1 rfl) (hN.sl 2 rfl) (hN.sm 3 rfl) _ z.g (hN.sl 4 rfl) _ VA z.far (hN.sl 5 rfl) (hN.fm 6 rfl) _ UX z.outs (hN.sl 7 rfl) (hN.kF 8 rfl) _ Vp z.ins (hN.sl 9 rfl) (hN.kF 10 rfl) _ Rx z.so (hN.sl 11 rfl) (hN.fm 12 rfl) _ RC z.si (hN.sl 13 rfl) (hN.fm 14 rfl) ((q2:Int)) _ _ _ (cn (q2:Int) l) cC cJ (hN.sm 52 rfl) (hN.sl 39 rfl) (hN.sm 40 rfl) _ (bN cC (cb (cC.length:Int) iT) cC.length) (hN.sl 41 rfl) _ Ah ei (hN.sl 42 rfl) (hN.fm 43 rfl) _ Ad cX (hN.sl 44 rfl) (hN.kF 45 rfl) _ Af cY (hN.sl 46 rfl) (hN.kF 47 rfl) _ qY iN (hN.sl 48 rfl) (hN.fm 49 rfl) _ qZ iO (hN.sl 50 rfl) (hN.fm 51 rfl)).mono ?_))
 rintro _ LR ⟨rfl,bn⟩
 replace hN:=hN.ext bn
 clear bn
 have Ar:¬(((z.n:Int)=(q2:Int)∧(z.ar:List I3)=(cn (q2:Int) l))∧((z.rk:List Int)=cC∧(z.ws:List I5)=cJ)∧(z.g:List Int)=(bN cC (cb (cC.length:Int) iT) cC.length)∧(z.far:List (List Int))=ei∧(z.outs:List (List I2))=cX∧(z.ins:List (List I2))=cY∧(z.so:List (List Int))=iN∧(z.si:List (List Int))=iO):=Hu (wV (y:=⟨(q2:Int),(cn (q2:Int) l),cC,cJ,(bN cC (cb (cC.length:Int) iT) cC.length),ei,cX,cY,iN,iO⟩) u4 EU (by show dX ((dA (q2:Int) (cn (q2:Int) l) cC cJ (bN cC (cb (cC.length:Int) iT) cC.length) ei cX cY iN iO).set ((a%4)).toNat lp)<4294967296;omega) OV)
 rw[decide_eq_false Ar]
 refine RL.an (jY rfl) (RL.ag (v:=.bool true) (aB) (RL.ag (v:=.bool true) U ?_))
 refine RL.ed (ji afa rfl rfl ((ga _).mono ?_))
 rintro _ JJ ⟨rfl,bn⟩
 replace hN:=hN.ext bn
 clear bn
 refine RL.ag (v:=.bool true) (al) (RL.ag (v:=.bool true) ai (RL.ak (RW.ret (bb (RV.tmp rfl) ?_))))
 exact⟨rfl,hN.bc⟩
 rw[if_neg rP]at TK
 refine RW.region (RL.ag (v:=v10) U ?_)
 refine RL.aK (bo aeG rfl rfl rfl ((fy _ vQ (dA x.n x.ar x.rk x.ws x.g x.far x.outs x.ins x.so x.si) _ (hN.sl 3 rfl) (hN.fm 4 rfl) (by omega)).mono ?_))
 rintro T9 QI ⟨cL,bn⟩
 replace hN:aI w none_ QI [_,_,_,_,_,_,_,_,_,_,_,_,_,_,_,_,_,_,_,_,_,_,_]:=hN.cc (l:=cP (dA x.n x.ar x.rk x.ws x.g x.far x.outs x.ins x.so x.si)) cL bn
 clear cL bn
 refine RL.aK (bo ae9 rfl rfl rfl ((jo _ (cP (dA x.n x.ar x.rk x.ws x.g x.far x.outs x.ins x.so x.si)) _ (hN.sl 0 rfl) (by omega) TK).mono ?_))
 rintro _ P0 ⟨rfl,bn⟩
 replace hN:=hN.ext bn
 clear bn
 refine RL.ag (v:=.tuple #[.agg #[.int .i64 (0),vN,vN,vN,vN,vN,vN,vN,vN,vN],.int .i64 (5)]) U ?_
 iterate 2 refine RL.ag (bA) ?_
 refine RL.aK (bz (cs:=[.int .i64 (0),vN,vN,vN,vN,vN,vN,vN,vN,vN]) fx rfl hN ?_)
 clear hN
 intro Yv Nw (hN:aI w none_ Nw [_,_,_,_,_,_,_,_,_,_,_,_,_,_,_,_,_,_,_,_,_,_,_,_])
 refine RL.aK (aR (vs:=[.int .i64 (0),vN,vN,vN,vN,vN,vN,vN,vN,vN]) fg rfl rfl rfl (aW (aW (aW (aW (aW (aW (aW (aW (aW (aW cZ)))))))))) hN 0 rfl rfl ?_)
 clear hN
 intro Nv (hN:aI w none_ Nv [_,_,_,_,_,_,_,_,_,_,_,_,_,_,_,_,_,_,_,_,_,_,_,_])
 refine RL.ag (v:=.int .i64 (5)) ai (RL.ak ?_)
 iterate 2 refine RW.seq ?_
 refine RW.region (RL.ag (v:=.int .i64 (5)) U (RL.ag (cI (bZ) (by decide)) (RL.ag (aE (cs:=[.int .i64 (x.n),v,rv,wv,gv,fv,ov,iv,db,dc]) acL fg (hN.aJ 23 rfl)) ?_)))
 refine RL.aK (bo aiT rfl rfl rfl ((ot (x.n) _ _ _ x.ar x.rk x.ws _ (hv.o.now hN) (hr.o.now hN) (hw.o.now hN) _ x.g (hT.tg.now hN) _ hf x.far (hT.tf.now hN) (hT.JN.gD hN) _ ho x.outs (hT.to.now hN) (hT.D0.ext hN.bc) _ hi x.ins (hT.ti.now hN) (hT.tie.ext hN.bc) _ gV x.so (hT.Gf.now hN) (hT.u7.gD hN) _ gQ x.si (hT.Gg.now hN) (hT.u9.gD hN) (fun r hr=>acR (mn.outs.2 r hr) (by decide)) (fun r hr=>acR (mn.ins.2 r hr) (by decide))).mono ?_))
 rintro _ Nu ⟨rfl,bn⟩
 replace hN:=hN.ext bn
 clear bn
 refine RL.ag (cI (bZ) rP) (RL.ag (xw aek rfl rfl) (RL.ak (RW.cg (RW.skip (aw (RW.aN (RL.ag (v:=.int .u8 (a)) U ?_)))))))
 refine RL.ag (eA adr acs rfl (sJ (by omega) (by omega))) (RL.ag (show Ev _ _ _ _ (.int .i64 (a%4))from CM rfl rfl (by decide) (QW S1)) (RL.ag (v:=.int .i64 ((a%4))) ai (RL.ak (RW.seq ?_))))
 have U5:(dA x.n x.ar x.rk x.ws x.g x.far x.outs x.ins x.so x.si).length=4:=rfl
 have U4:(dA (q2:Int) (cn (q2:Int) l) cC cJ (bN cC (cb (cC.length:Int) iT) cC.length) ei cX cY iN iO).length=4:=rfl
 replace hN:=hN.ext (Ext.drew Nu)
 refine RW.bD (fun u=>aI w none_ u [.aJ Yv [.int .i64 (0),vN,vN,vN,vN,vN,vN,vN,vN,vN] 34,.own vb 5 (T9) (cP (dA x.n x.ar x.rk x.ws x.g x.far x.outs x.ins x.so x.si)),.own vh 38 (mV) (qx),.eE vb (qx) ((dA (q2:Int) (cn (q2:Int) l) cC cJ (bN cC (cb (cC.length:Int) iT) cC.length) ei cX cY iN iO)),.own vb 5 (v11) (cP (dA (q2:Int) (cn (q2:Int) l) cC cJ (bN cC (cb (cC.length:Int) iT) cC.length) ei cX cY iN iO)),.own vh 38 (v10) (vQ),.eE vb (vQ) ((dA x.n x.ar x.rk x.ws x.g x.far x.outs x.ins x.so x.si)),.own vb 5 (v9) (cP (dA x.n x.ar x.rk x.ws x.g x.far x.outs x.ins x.so x.si)),.aJ g4 [vJ q2,v2,GM,F5,I9,Jg,GY,Hr,sV,sW] 34,.own vI 3 (GM) (cC),.cp aV 5 98 (F5) (cJ),.own vI 3 (I9) ((bN cC (cb (cC.length:Int) iT) cC.length)),.own vh 25 (Jg) (Ah),.eE vI (Ah) (ei),.own vh 118 (GY) (Ad),.ez bG (Ad) (cX),.own vh 118 (Hr) (Af),.ez bG (Af) (cY),.own vh 25 (sV) (qY),.eE vI (qY) (iN),.own vh 25 (sW) (qZ),.eE vI (qZ) (iO),.cp bJ 3 100 (v2) ((cn (q2:Int) l)),.aJ g1 [.int .i64 (x.n),v,rv,wv,gv,fv,ov,iv,db,dc] 34]) 10 [(0,0),(1,0),(2,0),(3,0),(4,0),(5,0),(6,0),(7,0),(8,1),(9,0)] (by intro _ _ _ h;exact h) hN ?_
 refine RQ.aA (v:=v10) rfl (fun w hS=>U) (RQ.aA (v:=.int .i64 ((a%4))) rfl (fun w hS=>U) (RQ.aA rfl (fun w hS=>(aC adA jK (hS.sl 5 rfl))) ?_))
 have aO:=da (vQ) (((a%4)).toNat)
 obtain⟨ap,bX⟩:=aO
 have aO:∃l_,((dA x.n x.ar x.rk x.ws x.g x.far x.outs x.ins x.so x.si))[((a%4)).toNat]?=some l_:=⟨_,acE (by have:=(hN.fm 6 rfl).1;omega)⟩
 obtain⟨lp,ey⟩:=aO
 refine RQ.aA rfl (fun w hS=>(aF (m:=((a%4)).toNat) (a:=ap) acQ (hS.sl 5 rfl) bX)) (RQ.aA (v:=mV) rfl (fun w hS=>U) (RQ.aA (v:=.int .i64 ((a%4))) rfl (fun w hS=>U) (RQ.aA rfl (fun w hS=>(aC adA jK (hS.sl 2 rfl))) ?_)))
 have aO:=da (qx) (((a%4)).toNat)
 obtain⟨aq,iB⟩:=aO
 have aO:∃l_,((dA (q2:Int) (cn (q2:Int) l) cC cJ (bN cC (cb (cC.length:Int) iT) cC.length) ei cX cY iN iO))[((a%4)).toNat]?=some l_:=⟨_,acE (by have:=(hN.fm 3 rfl).1;omega)⟩
 obtain⟨lq,u4⟩:=aO
 refine RQ.aA rfl (fun w hS=>(aF (m:=((a%4)).toNat) (a:=aq) acQ (hS.sl 2 rfl) iB)) ?_
 refine RQ.b0 rfl (bu aiN rfl rfl rfl rfl ((tb _ _ lp lq _ ((hN.fm 6 rfl).2 _ _ _ bX ey).1 ((hN.fm 3 rfl).2 _ _ _ iB u4).1).mono ?_))
 rintro _ _ ⟨rfl,rfl⟩
 refine⟨hN,?_⟩
 refine RQ.aA (v:=.bool (decide (lp=lq))) rfl (fun w hS=>ai) (RQ.bq (aw (RW.aN (RL.ag (v:=mV) U (RL.ag (v:=.int .i64 ((a%4))) U (RL.ag (v:=v10) U (RL.ag (v:=.int .i64 ((a%4))) U (RL.ag (aC adA jK (hN.sl 5 rfl)) ?_))))))))
 refine RL.ag (aF (m:=((a%4)).toNat) (a:=ap) acQ (hN.sl 5 rfl) bX) (RL.ag (aC adA jK (hN.sl 2 rfl)) ?_)
 refine RL.aK (cu (m:=((a%4)).toNat) (a:=ap) jK hN 2 rfl rfl (by omega) rfl rfl rfl rfl ?_)
 clear hN
 intro Nt (hN:aI w none_ Nt [_,_,_,_,_,_,_,_,_,_,_,_,_,_,_,_,_,_,_,_,_,_,_,_])
 have Ou:dX (dA (q2:Int) (cn (q2:Int) l) cC cJ (bN cC (cb (cC.length:Int) iT) cC.length) ei cX cY iN iO)≤1000000:=by omega
 have R6:=z1 (k:=((a%4)).toNat) (p:=lp) Ou (z3 (acy ey))
 have Vg:=dZ ((dA (q2:Int) (cn (q2:Int) l) cC cJ (bN cC (cb (cC.length:Int) iT) cC.length) ei cX cY iN iO).set ((a%4)).toNat lp)
 refine RL.ak (RW.seq ?_)
 by_cases EU:lp=lq
 refine RW.region (RL.ag (v:=mV) U ?_)
 refine RL.aK (bo aeG rfl rfl rfl ((fy _ ((qx).set ((a%4)).toNat (ap)) ((dA (q2:Int) (cn (q2:Int) l) cC cJ (bN cC (cb (cC.length:Int) iT) cC.length) ei cX cY iN iO).set ((a%4)).toNat lp) _ (hN.sl 2 rfl) (fW.set (hN.fm 3 rfl) ((hN.fm 6 rfl).2 _ _ _ bX ey).1 (oW.none _ _)) (by omega)).mono ?_))
 rintro T8 PZ ⟨cL,bn⟩
 replace hN:aI w none_ PZ [_,_,_,_,_,_,_,_,_,_,_,_,_,_,_,_,_,_,_,_,_,_,_,_,_]:=hN.cc (l:=cP ((dA (q2:Int) (cn (q2:Int) l) cC cJ (bN cC (cb (cC.length:Int) iT) cC.length) ei cX cY iN iO).set ((a%4)).toNat lp)) cL bn
 clear cL bn
 refine RL.aK (bo ae9 rfl rfl rfl ((fI _ (cP ((dA (q2:Int) (cn (q2:Int) l) cC cJ (bN cC (cb (cC.length:Int) iT) cC.length) ei cX cY iN iO).set ((a%4)).toNat lp)) _ (hN.sl 0 rfl) (by omega) (by rw[show(dA (q2:Int) (cn (q2:Int) l) cC cJ (bN cC (cb (cC.length:Int) iT) cC.length) ei cX cY iN iO).set ((a%4)).toNat lp=dA (q2:Int) (cn (q2:Int) l) cC cJ (bN cC (cb (cC.length:Int) iT) cC.length) ei cX cY iN iO from zX (x:=x) (y:=⟨(q2:Int),(cn (q2:Int) l),cC,cJ,(bN cC (cb (cC.length:Int) iT) cC.length),ei,cX,cY,iN,iO⟩) ey (by rw[EU];exact u4)];exact SN)).mono ?_))
 rintro _ QH ⟨T7,NJ,Nn,Pp,Pu,NR,N2,Gx,GC,Vz,UW,Vo,Rw,RB,rfl,cE⟩
 replace hN:aI w none_ QH [_,_,_,_,_,_,_,_,_,_,_,_,_,_,_,_,_,_,_,_,_,_,_,_,_,_,_,_,_,_,_,_,_,_,_,_,_,_,_]:=hN.fV cE
 clear cE
 refine RL.ag (v:=.tuple #[.agg #[vJ q2,T7,NJ,Nn,Pp,Pu,NR,N2,Gx,GC],.int .i64 (0)]) U ?_
 iterate 2 refine RL.ag (bA) ?_
 refine RL.aK (bz (cs:=[.int .i64 (0),vN,vN,vN,vN,vN,vN,vN,vN,vN]) fx rfl hN ?_)
 clear hN
 intro g50 PY (hN:aI w none_ PY [_,_,_,_,_,_,_,_,_,_,_,_,_,_,_,_,_,_,_,_,_,_,_,_,_,_,_,_,_,_,_,_,_,_,_,_,_,_,_,_])
 refine RL.aK (aR (vs:=[vJ q2,T7,NJ,Nn,Pp,Pu,NR,N2,Gx,GC]) fg rfl rfl rfl (by intro u hu;simp only[ac1,acV,or_false]at hu;rcases hu with rfl|rfl|rfl|rfl|rfl|rfl|rfl|rfl|rfl|rfl<;>first|rfl|exact(hN.sl 11 rfl).bW|exact(hN.sl 13 rfl).bW|exact(hN.sl 2 rfl).bW|exact(hN.sl 4 rfl).bW|exact(hN.sl 5 rfl).bW|exact(hN.sl 7 rfl).bW|exact(hN.sl 9 rfl).bW|exact(hN.sm 1 rfl).bW|exact(hN.sm 3 rfl).bW) hN 0 rfl rfl ?_)
 clear hN
 intro LQ (hN:aI w none_ LQ [_,_,_,_,_,_,_,_,_,_,_,_,_,_,_,_,_,_,_,_,_,_,_,_,_,_,_,_,_,_,_,_,_,_,_,_,_,_,_,_])
 refine RL.ag (v:=.int .i64 (0)) ai (RL.ak ?_)
 iterate 2 refine RW.seq ?_
 refine RW.region (RL.ag (v:=.bool (decide (lp=lq))) U (RL.ak (RW.mD _ rfl EU (RW.aN (RL.ag (v:=.int .i64 (0)) U (RL.ag (dm (bZ) rfl) (RL.ag (v:=.bool true) U ?_)))))))
 refine RL.an (aE (cs:=[vJ q2,T7,NJ,Nn,Pp,Pu,NR,N2,Gx,GC]) acL fg (hN.aJ 0 rfl)) (RL.an (aE (cs:=[vJ q2,v2,GM,F5,I9,Jg,GY,Hr,sV,sW]) acL fg (hN.aJ 24 rfl)) ?_)
 refine RL.ed (bu agD rfl rfl rfl rfl ((jD _ ((q2:Int)) _ _ _ (cn (q2:Int) l) cC cJ (hN.sm 1 rfl) (hN.sl 2 rfl) (hN.sm 3 rfl) _ (bN cC (cb (cC.length:Int) iT) cC.length) (hN.sl 4 rfl) _ Vz ei (hN.sl 5 rfl) (hN.fm 6 rfl) _ UW cX (hN.sl 7 rfl) (hN.kF 8 rfl) _ Vo cY (hN.sl 9 rfl) (hN.kF 10 rfl) _ Rw iN (hN.sl 11 rfl) (hN.fm 12 rfl) _ RB iO (hN.sl 13 rfl) (hN.fm 14 rfl) ((q2:Int)) _ _ _ (cn (q2:Int) l) cC cJ (hN.sm 38 rfl) (hN.sl 25 rfl) (hN.sm 26 rfl) _ (bN cC (cb (cC.length:Int) iT) cC.length) (hN.sl 27 rfl) _ Ah ei (hN.sl 28 rfl) (hN.fm 29 rfl) _ Ad cX (hN.sl 30 rfl) (hN.kF 31 rfl) _ Af cY (hN.sl 32 rfl) (hN.kF 33 rfl) _ qY iN (hN.sl 34 rfl) (hN.fm 35 rfl) _ qZ iO (hN.sl 36 rfl) (hN.fm 37 rfl)).mono ?_))
 rintro _ Tw ⟨rfl,bn⟩
 rw[decide_eq_true (show(((q2:Int):Int)=(q2:Int)∧((cn (q2:Int) l):List I3)=(cn (q2:Int) l))∧((cC:List Int)=cC∧(cJ:List I5)=cJ)∧((bN cC (cb (cC.length:Int) iT) cC.length):List Int)=(bN cC (cb (cC.length:Int) iT) cC.length)∧(ei:List (List Int))=ei∧(cX:List (List I2))=cX∧(cY:List (List I2))=cY∧(iN:List (List Int))=iN∧(iO:List (List Int))=iO from⟨⟨rfl,rfl⟩,⟨rfl,rfl⟩,rfl,rfl,rfl,rfl,rfl,rfl⟩)]
 replace hN:=hN.ext bn
 clear bn
 refine RL.ag (v:=.bool true) (al) (RL.ag (v:=.bool true) U ?_)
 refine RL.ed (ji afa rfl rfl ((ga _).mono ?_))
 rintro _ WM ⟨rfl,bn⟩
 replace hN:=hN.ext bn
 clear bn
 refine RL.ag (v:=.bool true) (al) (RL.ag (v:=.bool true) ai (RL.ak (RW.ret (aT (bb (RV.tmp rfl) ?_)))))
 exact⟨rfl,hN.bc⟩
 rcases OV:mB (cP ((dA (q2:Int) (cn (q2:Int) l) cC cJ (bN cC (cb (cC.length:Int) iT) cC.length) ei cX cY iN iO).set ((a%4)).toNat lp))with _|z
 refine RW.region (RL.ag (v:=mV) U ?_)
 refine RL.aK (bo aeG rfl rfl rfl ((fy _ ((qx).set ((a%4)).toNat (ap)) ((dA (q2:Int) (cn (q2:Int) l) cC cJ (bN cC (cb (cC.length:Int) iT) cC.length) ei cX cY iN iO).set ((a%4)).toNat lp) _ (hN.sl 2 rfl) (fW.set (hN.fm 3 rfl) ((hN.fm 6 rfl).2 _ _ _ bX ey).1 (oW.none _ _)) (by omega)).mono ?_))
 rintro v54 WL ⟨cL,bn⟩
 replace hN:aI w none_ WL [_,_,_,_,_,_,_,_,_,_,_,_,_,_,_,_,_,_,_,_,_,_,_,_,_]:=hN.cc (l:=cP ((dA (q2:Int) (cn (q2:Int) l) cC cJ (bN cC (cb (cC.length:Int) iT) cC.length) ei cX cY iN iO).set ((a%4)).toNat lp)) cL bn
 clear cL bn
 refine RL.aK (bo ae9 rfl rfl rfl ((jo _ (cP ((dA (q2:Int) (cn (q2:Int) l) cC cJ (bN cC (cb (cC.length:Int) iT) cC.length) ei cX cY iN iO).set ((a%4)).toNat lp)) _ (hN.sl 0 rfl) (by omega) OV).mono ?_))
 rintro _ T6 ⟨rfl,bn⟩
 replace hN:=hN.ext bn
 clear bn
 refine RL.ag (v:=.tuple #[.agg #[.int .i64 (0),vN,vN,vN,vN,vN,vN,vN,vN,vN],.int .i64 (5)]) U ?_
 iterate 2 refine RL.ag (bA) ?_
 refine RL.aK (bz (cs:=[.int .i64 (0),vN,vN,vN,vN,vN,vN,vN,vN,vN]) fx rfl hN ?_)
 clear hN
 intro g56 T5 (hN:aI w none_ T5 [_,_,_,_,_,_,_,_,_,_,_,_,_,_,_,_,_,_,_,_,_,_,_,_,_,_])
 refine RL.aK (aR (vs:=[.int .i64 (0),vN,vN,vN,vN,vN,vN,vN,vN,vN]) fg rfl rfl rfl (aW (aW (aW (aW (aW (aW (aW (aW (aW (aW cZ)))))))))) hN 0 rfl rfl ?_)
 clear hN
 intro T4 (hN:aI w none_ T4 [_,_,_,_,_,_,_,_,_,_,_,_,_,_,_,_,_,_,_,_,_,_,_,_,_,_])
 refine RL.ag (v:=.int .i64 (5)) ai (RL.ak ?_)
 iterate 2 refine RW.seq ?_
 refine RW.region (RL.ag (v:=.bool (decide (lp=lq))) U (RL.ak (RW.yL _ rfl EU (RW.skip (aw (RW.aN (RL.ag (v:=.int .i64 (5)) U ?_)))))))
 refine RL.ag (dm (bj) (by decide)) (RL.ag (v:=.bool true) U ?_)
 iterate 4 refine RL.bH ?_
 refine RL.ag (v:=.bool true) (al) (RL.ag (v:=.bool true) U ?_)
 refine RL.ed (ji afa rfl rfl ((ga _).mono ?_))
 rintro _ WK ⟨rfl,bn⟩
 replace hN:=hN.ext bn
 clear bn
 refine RL.ag (v:=.bool true) (al) (RL.ag (v:=.bool true) ai (RL.ak (RW.ret (bb (RV.tmp rfl) ?_))))
 exact⟨rfl,hN.bc⟩
 refine RW.region (RL.ag (v:=mV) U ?_)
 refine RL.aK (bo aeG rfl rfl rfl ((fy _ ((qx).set ((a%4)).toNat (ap)) ((dA (q2:Int) (cn (q2:Int) l) cC cJ (bN cC (cb (cC.length:Int) iT) cC.length) ei cX cY iN iO).set ((a%4)).toNat lp) _ (hN.sl 2 rfl) (fW.set (hN.fm 3 rfl) ((hN.fm 6 rfl).2 _ _ _ bX ey).1 (oW.none _ _)) (by omega)).mono ?_))
 rintro v59 QG ⟨cL,bn⟩
 replace hN:aI w none_ QG [_,_,_,_,_,_,_,_,_,_,_,_,_,_,_,_,_,_,_,_,_,_,_,_,_]:=hN.cc (l:=cP ((dA (q2:Int) (cn (q2:Int) l) cC cJ (bN cC (cb (cC.length:Int) iT) cC.length) ei cX cY iN iO).set ((a%4)).toNat lp)) cL bn
 clear cL bn
 refine RL.aK (bo ae9 rfl rfl rfl ((fI _ (cP ((dA (q2:Int) (cn (q2:Int) l) cC cJ (bN cC (cb (cC.length:Int) iT) cC.length) ei cX cY iN iO).set ((a%4)).toNat lp)) _ (hN.sl 0 rfl) (by omega) OV).mono ?_))
 rintro _ Kb ⟨P4,NI,Nm,Po,Pt,xV,yj,Gw,GB,Vy,UU,Vl,Rv,Rz,rfl,cE⟩
 replace hN:aI w none_ Kb [_,_,_,_,_,_,_,_,_,_,_,_,_,_,_,_,_,_,_,_,_,_,_,_,_,_,_,_,_,_,_,_,_,_,_,_,_,_,_]:=hN.fV cE
 clear cE
 refine RL.ag (v:=.tuple #[.agg #[.int .i64 (z.n),P4,NI,Nm,Po,Pt,xV,yj,Gw,GB],.int .i64 (0)]) U ?_
 iterate 2 refine RL.ag (bA) ?_
 refine RL.aK (bz (cs:=[.int .i64 (0),vN,vN,vN,vN,vN,vN,vN,vN,vN]) fx rfl hN ?_)
 clear hN
 intro g61 YI (hN:aI w none_ YI [_,_,_,_,_,_,_,_,_,_,_,_,_,_,_,_,_,_,_,_,_,_,_,_,_,_,_,_,_,_,_,_,_,_,_,_,_,_,_,_])
 refine RL.aK (aR (vs:=[.int .i64 (z.n),P4,NI,Nm,Po,Pt,xV,yj,Gw,GB]) fg rfl rfl rfl (by intro u hu;simp only[ac1,acV,or_false]at hu;rcases hu with rfl|rfl|rfl|rfl|rfl|rfl|rfl|rfl|rfl|rfl<;>first|rfl|exact(hN.sl 11 rfl).bW|exact(hN.sl 13 rfl).bW|exact(hN.sl 2 rfl).bW|exact(hN.sl 4 rfl).bW|exact(hN.sl 5 rfl).bW|exact(hN.sl 7 rfl).bW|exact(hN.sl 9 rfl).bW|exact(hN.sm 1 rfl).bW|exact(hN.sm 3 rfl).bW) hN 0 rfl rfl ?_)
 clear hN
 intro T3 (hN:aI w none_ T3 [_,_,_,_,_,_,_,_,_,_,_,_,_,_,_,_,_,_,_,_,_,_,_,_,_,_,_,_,_,_,_,_,_,_,_,_,_,_,_,_])
 refine RL.ag (v:=.int .i64 (0)) ai (RL.ak ?_)
 iterate 2 refine RW.seq ?_
 refine RW.region (RL.ag (v:=.bool (decide (lp=lq))) U (RL.ak (RW.yL _ rfl EU (RW.skip (aw (RW.aN (RL.ag (v:=.int .i64 (0)) U ?_)))))))
 refine RL.ag (cI (bj) (fun h=>h rfl)) (RL.ag (v:=.bool false) U (RL.an (aE (cs:=[.int .i64 (z.n),P4,NI,Nm,Po,Pt,xV,yj,Gw,GB]) acL fg (hN.aJ 0 rfl)) (RL.an (aE (cs:=[vJ q2,v2,GM,F5,I9,Jg,GY,Hr,sV,sW]) acL fg (hN.aJ 24 rfl)) ?_)))
 refine RL.ed (bu agD rfl rfl rfl rfl ((jD _ (z.n) _ _ _ z.ar z.rk z.ws (hN.sm 1 rfl) (hN.sl 2 rfl) (hN.sm 3 rfl) _ z.g (hN.sl 4 rfl) _ Vy z.far (hN.sl 5 rfl) (hN.fm 6 rfl) _ UU z.outs (hN.sl 7 rfl) (hN.kF 8 rfl) _ Vl z.ins (hN.sl 9 rfl) (hN.kF 10 rfl) _ Rv z.so (hN.sl 11 rfl) (hN.fm 12 rfl) _ Rz z.si (hN.sl 13 rfl) (hN.fm 14 rfl) ((q2:Int)) _ _ _ (cn (q2:Int) l) cC cJ (hN.sm 38 rfl) (hN.sl 25 rfl) (hN.sm 26 rfl) _ (bN cC (cb (cC.length:Int) iT) cC.length) (hN.sl 27 rfl) _ Ah ei (hN.sl 28 rfl) (hN.fm 29 rfl) _ Ad cX (hN.sl 30 rfl) (hN.kF 31 rfl) _ Af cY (hN.sl 32 rfl) (hN.kF 33 rfl) _ qY iN (hN.sl 34 rfl) (hN.fm 35 rfl) _ qZ iO (hN.sl 36 rfl) (hN.fm 37 rfl)).mono ?_))
 rintro _ WJ ⟨rfl,bn⟩
 replace hN:=hN.ext bn
 clear bn
 have Ar:¬(((z.n:Int)=(q2:Int)∧(z.ar:List I3)=(cn (q2:Int) l))∧((z.rk:List Int)=cC∧(z.ws:List I5)=cJ)∧(z.g:List Int)=(bN cC (cb (cC.length:Int) iT) cC.length)∧(z.far:List (List Int))=ei∧(z.outs:List (List I2))=cX∧(z.ins:List (List I2))=cY∧(z.so:List (List Int))=iN∧(z.si:List (List Int))=iO):=Hu (wV (y:=⟨(q2:Int),(cn (q2:Int) l),cC,cJ,(bN cC (cb (cC.length:Int) iT) cC.length),ei,cX,cY,iN,iO⟩) u4 EU (by show dX ((dA (q2:Int) (cn (q2:Int) l) cC cJ (bN cC (cb (cC.length:Int) iT) cC.length) ei cX cY iN iO).set ((a%4)).toNat lp)<4294967296;omega) OV)
 rw[decide_eq_false Ar]
 refine RL.an (jY rfl) (RL.ag (v:=.bool true) (aB) (RL.ag (v:=.bool true) U ?_))
 refine RL.ed (ji afa rfl rfl ((ga _).mono ?_))
 rintro _ WI ⟨rfl,bn⟩
 replace hN:=hN.ext bn
 clear bn
 refine RL.ag (v:=.bool true) (al) (RL.ag (v:=.bool true) ai (RL.ak (RW.ret (bb (RV.tmp rfl) ?_))))
 exact⟨rfl,hN.bc⟩
end Go.Proofs.YtngkdkbpgoddlaaGreat
namespace Go.Proofs.YtngkdkbpgoddlaaGreat.imageOdd
open Go.ChangeShapes Go.WideShapes Go.ChangeAt Go.RowKit Go.Rl
open Go.ChangeMaps (open_string shut_string)
open Go.Gr
theorem own:ownKnob acx.godebug=none:=by kernel_rfl
theorem laidOut:laidOutB acx=true:=by kernel_rfl
theorem lifted (os:Os) (started:os.Started) (H:Type) (enc:TypeId×Value→H) (F:Stop.Interp):
    ReturnsInHanded {} aiA os 5 .any ((afn ae2).pre6 enc acx ahL ahW.domain false) (((afn ae2).at F).post enc acx ahL false true false false):=by
  refine returnsInHanded_of_cond_sized (C := aiA) (s := afn ae2) (k := aji) rfl own started (by kernel_rfl) aja
    (OpenSpec.witness (enc := enc) (C := aiA) (s := afn ae2) (k := aji) rfl false ⟨#[], #[.agg #[.int .i64 (0), vN, vN, vN, vN, vN, vN, vN, vN, vN], .int .i64 0, vN, .int .u8 0], []⟩ 8 (by kernel_rfl) (by kernel_rfl) (by kernel_rfl)
      (x:=([.agg [.agg [.lit (.int .i64 0),.nil],.agg [.nil,.nil],.agg [.nil,.nil,.nil,.nil,.nil,.nil]],.lit (.int .i64 0),.nil,.lit (.int .u8 0)],[],[])) (by kernel_rfl) rfl (by kernel_rfl) (by kernel_rfl)) ?_
  intro W base args ds gs before Me hW n9 hk Rs _
  have IJ:afC (ds++gs)≤1048576:=of_decide_eq_true hk
  have fb:(aeB acx (ahL.params.toList++ae2.plain.varTypes acx) (ds++gs)).all (·≤reachBytes)=true:=Rs
  have HD:∀(j:Nat) t v,ahL.params[j]?=some t→args[j]?=some v→aif acx W .any base t v:=Me
  have hW':=hW
  obtain⟨p,q,TT,hV,rfl,hfz,om⟩:=hW
  have hA:DataW.TrodAll enc acx W 0 (fun _=>true) true ahL.params.toList args.toList ds p:=TT
  rw[Tryz.params5]at hA HD fb
  obtain⟨v0,vs0,d0,ds0,p0,q0,xn,rfl,rfl,h0,r0⟩:=trodAll_cons hA
  obtain⟨v1,vs1,d1,ds1,p1,q1,rfl,rfl,rfl,h1,r1⟩:=trodAll_cons r0
  obtain⟨v2,vs2,d2,ds2,p2,q2,rfl,rfl,rfl,h2,r2⟩:=trodAll_cons r1
  obtain⟨v3,vs3,d3,ds3,p3,q3,rfl,rfl,rfl,h3,r3⟩:=trodAll_cons r2
  obtain⟨rfl,rfl,rfl⟩:=trodAll_nil r3
  obtain rfl:args=#[v0,v1,v2,v3]:=by cases args;simp_all
  obtain⟨rfl,rfl⟩:=trodVars_none hV
  simp only[adj,afC]at IJ
  have k0:=h0
  have Y6:∀x∈p0,x.block<W.heap.size:=by obtain⟨m,hm⟩:=k0;exact agN m _ _ _ hm
  obtain⟨YF,ci0,rfl,Ze,Zh,Zf⟩:=Hw (bulk H) acL (by kernel_rfl) (HD 0 34 v0 rfl rfl) h0
  change _≤afk d0 at Zf
  obtain⟨_,_,_,_,_,_,_,_,_,_,_,_,_,_,rfl,Zl,Zk,Zj,Zi⟩:=Ze
  have k1:=h1
  have Y5:∀x∈p1,x.block<W.heap.size:=by obtain⟨m,hm⟩:=k1;exact agN m _ _ _ hm
  obtain⟨a1,rfl,rfl,rfl,w1⟩:=open_int acs (HD 1 3 v1 rfl rfl) h1
  have w1:=wf_i64 w1
  have k2:=h2
  have Y4:∀x∈p2,x.block<W.heap.size:=by obtain⟨m,hm⟩:=k2;exact agN m _ _ _ hm
  obtain⟨l2,s2,b2⟩:=JD fb (j:=2) rfl rfl acM (by kernel_rfl) (by kernel_rfl) (HD 2 22 v2 rfl rfl) h2
  have k3:=h3
  have Y3:∀x∈p3,x.block<W.heap.size:=by obtain⟨m,hm⟩:=k3;exact agN m _ _ _ hm
  obtain⟨a3,rfl,rfl,rfl,w3⟩:=open_int adr (HD 3 5 v3 rfl rfl) h3
  have w3:=wf_u8 w3
  clear TT Me Rs fb
  refine ahM (tY YF _ _ _ _ _ _ _ _ _ _ _ _ _ _ a1 _ _ a3 W Zl Zk Zj Zi s2 Zh (by omega) w3.1 w3.2) fun e W' hx=>?_
  obtain⟨r,rfl,rfl,iZ⟩:=hx
  have Ti:=iZ.below
  exact⟨_,rfl,_,_,_,[],_,[],hW',trodAll_mk1 (shut_bool aek _),(trodAll_cons_mk (Below.trod laidOut (by kernel_rfl) (of_decide_eq_true (by kernel_rfl)) k0 Ti Y6) (trodAll_cons_mk (Below.trod laidOut (by kernel_rfl) (of_decide_eq_true (by kernel_rfl)) k1 Ti Y5) (trodAll_cons_mk (Below.trod laidOut (by kernel_rfl) (of_decide_eq_true (by kernel_rfl)) k2 Ti Y4) (trodAll_cons_mk (Below.trod laidOut (by kernel_rfl) (of_decide_eq_true (by kernel_rfl)) k3 Ti Y3) trodAll_mk0)))),rfl,Ti.frame _,fun h=>by cases h⟩
theorem over:ahW.holds Tryz.pinned (afn ae2):=
  OpenClaim.holds_of_cond 5 ahL rfl rfl rfl rfl rfl rfl rfl ⟨rfl, rfl, rfl, rfl, rfl⟩ rfl rfl rfl rfl rfl (by kernel_rfl) aja (by kernel_rfl)
    (of_decide_eq_true (by kernel_rfl)) (by unfold Func.isWrapper;first|(rw[if_pos (by decide+kernel)];kernel_rfl)|(rw[if_neg (by decide+kernel)];exact⟨rfl,rfl⟩))
    (fun os started H enc _ F=>lifted os started H enc F)
end Go.Proofs.YtngkdkbpgoddlaaGreat.imageOdd
namespace Go.Proofs.YtngkdkbpgoddlaaGreat
theorem imageOddUpto_holds:Rows.ImageOddUptoSaid:=imageOdd.over
end Go.Proofs.YtngkdkbpgoddlaaGreat
