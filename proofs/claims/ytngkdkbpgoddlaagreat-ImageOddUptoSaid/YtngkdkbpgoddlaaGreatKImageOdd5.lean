/- The law ImageOdd: texts that its row leans on (5). -/
import Derived.Test.YtngkdkbpgoddlaaGreatKImageOdd4
set_option linter.unusedVariables false
set_option linter.unusedSimpArgs false
set_option linter.unusedSectionVars false
set_option maxHeartbeats 4000000
set_option maxRecDepth 100000
open Bool renaming and_eq_true → adm
open Decidable renaming not_not → acU
open Go.IntKind renaming i64 → adC
open Go.Proofs.Tryz renaming underlying3 → acs, underlying25 → acu, prog → acx, underlying28 → acz, underlying98 → acB, underlying26 → acG, underlying96 → acH, underlying24 → acI, underlying29 → acJ, underlying32 → acK, underlying34 → acL, underlying22 → acM, underlying100 → acP, underlying38 → acQ, underlying135 → acS, underlying118 → acW, underlying30 → ac0, underlying5 → adr, underlying89 → adx, underlying45 → adA, underlying282 → adD, underlying75 → ad3, underlying9 → aed, underlying82 → aef, underlying263 → aej, underlying4 → aek, underlying47 → aeS, func15 → ae9, underlying161 → afP, underlying87 → afX, func197 → agr, func211 → ags, func14 → agC, func12 → agD, func105 → ag4, func144 → ag9, func187 → aha, func24 → ahs, func45 → ahw, func10 → ahB, func41 → ahC, func89 → ahD, func196 → aiv, func189 → aiw, func217 → aix, func51 → aiS, func19 → aiT, func90 → aiU, func107 → aj5, func198 → aj9, func159 → aka, func106 → akb, func108 → akc, func154 → akd, func216 → ake, func208 → akf, func141 → akg
open Go.Value renaming bool → acO, int → acZ
open Int renaming toNat_natCast → aee
open List renaming length_append → acw, mem_of_getElem? → acy, getElem?_eq_some_iff → acA, length_singleton → acC, getElem?_eq_getElem → acE, length_cons → acF, length_nil → acN, not_mem_nil → acV, take_of_length_le → acX, replicate → acY, mem_cons → ac1, length_replicate → ac7, getElem?_of_mem → ac9, mem_singleton → ade, length → adg, getElem?_set → adi, append_nil → adj, mem_append → adl, take_length → adn, length_set → adG
open Nat renaming le_of_ble_eq_true → acv, le_trans → acR, le_refl → ac3, lt_or_ge → adh, zero_add → aeQ
open Option.some renaming inj → ac2
open Prod renaming ext → adL
namespace Go.Proofs.YtngkdkbpgoddlaaGreat
open Go.RowKit Go.Rl
open Go.Gr
theorem pN {rk:List Int} {ws:List I5} (h:ec rk ws=0):ld rk ws:=by
  unfold ec at h
  split at h
  · omega
  · split at h
    · assumption
    · omega
theorem ot (n:Int) (av rv wv:Value) (l:List I3) (rk:List Int) (ws:List I5) (w:World) (ha:Sm bJ w av l) (hr:Sl vI w rv rk) (hw:Sm aV w wv ws) (gv:Value) (gl:List Int) (hg:Sl vI w gv gl) (fv:Value) (fh:List Hd) (fl:List (List Int)) (hf:Sl vh w fv fh) (o0:fW none_ vI w fh fl) (ov:Value) (oh:List Hd) (ol:List (List I2)) (ho:Sl vh w ov oh) (FU:gN none_ bG w oh ol) (iv:Value) (ih:List Hd) (il:List (List I2)) (hi:Sl vh w iv ih) (ui:gN none_ bG w ih il) (db:Value) (su:List Hd) (eS:List (List Int)) (gV:Sl vh w db su) (rM:fW none_ vI w su eS) (dc:Value) (sx:List Hd) (eX:List (List Int)) (gQ:Sl vh w dc sx) (rN:fW none_ vI w sx eX) (V0:∀r∈ol,r.length≤8796093021952) (O4:∀r∈il,r.length≤8796093021952):aM acx 19 #[.agg #[.int .i64 n,av,rv,wv,gv,fv,ov,iv,db,dc]] w fun r w'=>r=.int .i64 (dC n l rk ws gl fl ol il eS eX)∧Ext w w':=by
 refine aM.aZ aiT ?_
 rw[cM]
 have hN:=aI.nil w none_
 refine RW.aN ?_
 refine RL.aK (bL (cs:=[.int .i64 (n),av,rv,wv,gv,fv,ov,iv,db,dc]) rfl rfl hN ?_)
 clear hN
 intro g1 w1 (hN:aI w none_ w1 [_])
 refine RL.ag (v:=.int .i64 (0)) ai (RL.b6 (RL.ag (ah acL rfl dN) (RL.ag (dG (cs:=[.int .i64 (n),av,rv,wv,gv,fv,ov,iv,db,dc]) (j:=0) (m:=2) acI rfl dN rfl (hN.aJ 0 rfl) (acv rfl)) ?_)))
 refine RL.aK (bo ahs rfl rfl rfl ((tN (n) _ l _ (ha.o.now hN)).mono ?_))
 rintro _ w2 ⟨rfl,bn⟩
 replace hN:=hN.ext bn
 clear bn
 refine RL.ag (v:=.int .i64 ((ee (n) l))) ai (RL.ak ?_)
 iterate 2 refine RW.seq ?_
 refine RW.region (RL.ag (v:=.int .i64 ((ee (n) l))) U (RL.ag (bZ) (RL.ak ?_)))
 refine RW.aG _ (fun kD=>?_) (fun kD=>?_)
 refine RW.region (RL.ag (ah acL rfl dy) (RL.ag (dG (cs:=[.int .i64 (n),av,rv,wv,gv,fv,ov,iv,db,dc]) (j:=2) (m:=2) acz rfl dy rfl (hN.aJ 0 rfl) (acv rfl)) ?_))
 refine RL.aK (bo Tryz.func50 rfl rfl rfl ((wj _ _ rk ws _ (hr.o.now hN) (hw.o.now hN)).mono ?_))
 rintro _ w3 ⟨rfl,bn⟩
 replace hN:=hN.ext bn
 clear bn
 refine RL.ag (v:=.int .i64 ((ec rk ws))) ai (RL.ak ?_)
 iterate 2 refine RW.seq ?_
 refine RW.region (RL.ag (v:=.int .i64 ((ec rk ws))) U (RL.ag (bZ) (RL.ak ?_)))
 refine RW.aG _ (fun Vt=>?_) (fun Vt=>?_)
 refine RW.region (RL.ag (ah acL rfl dN) (RL.ag (ah acI rfl bK) (RL.ag (aj acs (hN.aJ 0 rfl)) (RL.ag (ah acL rfl iD) (RL.ag (dG (cs:=[.int .i64 (n),av,rv,wv,gv,fv,ov,iv,db,dc]) (j:=4) (m:=6) acK rfl iD rfl (hN.aJ 0 rfl) (acv rfl)) ?_)))))
 refine RL.aK (bu aiS rfl rfl rfl rfl ((ou (n) _ _ gl (hg.o.now hN) _ fh fl (hf.o.now hN) (o0.gD hN) _ oh ol (ho.o.now hN) (FU.ext hN.bc) _ ih il (hi.o.now hN) (ui.ext hN.bc) _ su eS (gV.o.now hN) (rM.gD hN) _ sx eX (gQ.o.now hN) (rN.gD hN) V0 O4).mono ?_))
 rintro _ w4 ⟨rfl,bn⟩
 replace hN:=hN.ext bn
 clear bn
 refine RL.ag (v:=.int .i64 ((dH (n) gl fl ol il eS eX))) ai (RL.ak ?_)
 iterate 2 refine RW.seq ?_
 refine RW.region (RL.ag (v:=.int .i64 ((dH (n) gl fl ol il eS eX))) U (RL.ag (bj) (RL.ak ?_)))
 refine RW.aG _ (fun he=>?_) (fun he=>?_)
 refine RW.aN (RL.ag (v:=.int .i64 ((dH (n) gl fl ol il eS eX))) U (RL.ag (v:=.int .i64 ((dH (n) gl fl ol il eS eX))) ai (RL.ak (RW.ret (aT (bb (RV.tmp rfl) ?_))))))
 exact⟨congrArg (acZ .i64) (show dC n l rk ws gl fl ol il eS eX=(dH (n) gl fl ol il eS eX) by
  unfold dC
  rw[if_neg (by omega),if_neg (by omega),if_pos (by omega)]).symm,hN.bc⟩
 refine RW.skip (aw ?_)
 iterate 2 refine RW.seq ?_
 have hm:ee n l=0:=by omega
 have hh:ec rk ws=0:=by omega
 refine RW.region (RL.ag (ah acL rfl dy) (RL.ag (ah acz rfl cj) (RL.ag (aj acu (hN.aJ 0 rfl)) ?_)))
 have qG:=(hr.o.now hN).bw
 refine RL.ag (aQ acu (hr.o.now hN)) (RL.ag (ah acL rfl dN) (RL.ag (ah acI rfl bK) (RL.ag (aj acs (hN.aJ 0 rfl)) (RL.ag (bj) (RL.ak ?_)))))
 refine RW.aG _ (fun hlen=>?_) (fun hlen=>?_)
 refine RW.aN (RL.ag (v:=.int .i64 (2)) ai (RL.ak (RW.ret (aT (bb (RV.tmp rfl) ?_)))))
 exact⟨congrArg (acZ .i64) (show dC n l rk ws gl fl ol il eS eX=2 by
  unfold dC
  rw[if_neg (by omega),if_neg (by omega),if_neg (by omega),if_neg (fun h=>by
  first
  |omega
  | (have h2 := h.2 x (acy hx) (by omega)
     first
     |(have:=(acA.1 h2).1;omega)
     |(rw[hy]at h2;cases h2;omega)
     |(rw[hy]at h2;cases h2;simp_all)))]).symm,hN.bc⟩
 refine RW.skip (aw ?_)
 iterate 2 refine RW.seq ?_
 refine RW.region (RL.ag (v:=.int .i64 (0)) ai (RL.ak (RW.block ?_)))
 refine RW.loop (fun k R0 cz=>∃i:Nat,R0 1=vP g1∧R0 4=vJ i∧aI w none_ cz [.aJ g1 [.int .i64 (n),av,rv,wv,gv,fv,ov,iv,db,dc] 34]∧(i+k=ws.length)∧(∀(m:Nat) (y:I5),m<i→ws[m]?=some y→y.2.2.2.1= -1→l[y.2.2.2.2.toNat]?=some (y.1,y.2.1,y.2.2.1))) (ws.length) ?_ ?_
 exact⟨0,rfl,rfl,hN,by omega,fun m r hm=>absurd hm (by omega)⟩
 clear hN
 rintro k R0 cz ⟨i,bP,cA,hN,gk,yB⟩
 have cB:=Bu bP cA
 obtain⟨gF,rfl⟩:=cB
 clear bP cA
 iterate 2 refine RW.seq ?_
 refine RW.region (RL.ag (v:=vJ i) U (RL.ag (ah acL rfl dy) (RL.ag (ah acz rfl eM) (RL.ag (aj acG (hN.aJ 0 rfl)) ?_))))
 have AD:=(hw.o.now hN).bw
 refine RL.ag (bO acG (hw.o.now hN)) (RL.ag (aL) (RL.ak ?_))
 refine RW.aG _ (fun cD=>?_) (fun cD=>?_)
 refine RW.skip (aw (RW.seq (RW.block (RW.seq ?_))))
 have aO:=da ws i
 obtain⟨x,hx⟩:=aO
 have JS:=(pN hh).2 i x hx
 refine RW.region (RL.ag (ah acL rfl dy) (RL.ag (ah acz rfl eM) (RL.ag (aj acG (hN.aJ 0 rfl)) (RL.ag (v:=vJ i) U (RL.ag (aU acG er aH (hw.o.now hN)) (RL.ag (b8 (m:=i) (a:=x) acB er aH (hw.o.now hN) hx (cs:=[.int .i64 (x.1),.int .i64 (x.2.1),.int .i64 (x.2.2.1),.int .i64 (x.2.2.2.1),.int .i64 (x.2.2.2.2)])) ?_))))))
 refine RL.aK (bz (cs:=[.int .i64 (0),.int .i64 (0),.int .i64 (0),.int .i64 (0),.int .i64 (0)]) gu rfl hN ?_)
 clear hN
 intro g7 w7 (hN:aI w none_ w7 [_,_])
 refine RL.aK (aR (vs:=[.int .i64 (x.1),.int .i64 (x.2.1),.int .i64 (x.2.2.1),.int .i64 (x.2.2.2.1),.int .i64 (x.2.2.2.2)]) er rfl rfl rfl (aW (aW (aW (aW (aW cZ))))) hN 0 rfl rfl ?_)
 clear hN
 intro w8 (hN:aI w none_ w8 [_,_])
 refine RL.ak ?_
 iterate 2 refine RW.seq ?_
 refine RW.region (RL.ag (ah acB rfl cU) (RL.ag (ah acH rfl bK) (RL.ag (aj acs (hN.aJ 0 rfl)) (RL.ag (bj) (RL.ak ?_)))))
 refine RW.aG _ (fun k8=>?_) (fun k8=>?_)
 refine RW.exit (bS (ba (aw (RW.region (RL.ag (v:=vJ i) U (RL.ag (aD rfl rfl rfl (bh (by omega) (by omega))) (RL.ag (v:=.int .i64 ((i:Int)+1)) ai (RL.ak ?_))))))))
 exact⟨k-1,by omega,i+1,rfl,rfl,(hN.sb [1]),by omega,fun m z hm hz=>(adh m i).elim (fun e=>yB m z e hz) (fun e=>have e2:m=i:=(by omega);have e3:z=x:=ac2 (hz.symm.trans (e2▸hx));e3▸fun h0=>by first|exact absurd h0 k8|exact hy.trans (congrArg some (adL (by show y.1=x.1;omega) (adL (by show y.2.1=x.2.1;omega) (by show y.2.2=x.2.2.1;omega)))))⟩
 refine RW.skip (aw ?_)
 iterate 2 refine RW.seq ?_
 refine RW.region (RL.ag (ah acB rfl cU) (RL.ag (ah acH rfl bK) (RL.ag (aj acs (hN.aJ 0 rfl)) (RL.ag (ah acL rfl dN) (RL.ag (ah acI rfl fz) (RL.ag (aj acM (hN.aJ 1 rfl)) ?_))))))
 have I4:=(ha.o.now hN).bw
 refine RL.ag (bO acM (ha.o.now hN)) (RL.ag (cm) (RL.ak ?_))
 refine RW.aG _ (fun ir=>?_) (fun ir=>?_)
 refine RW.aN (RL.ag (v:=.int .i64 (2)) ai (RL.ak (RW.ret (aT (aX ?_)))))
 iterate 2 refine aT ?_
 refine aX (aT (bb (RV.tmp rfl) ?_))
 exact⟨congrArg (acZ .i64) (show dC n l rk ws gl fl ol il eS eX=2 by
  unfold dC
  rw[if_neg (by omega),if_neg (by omega),if_neg (by omega),if_neg (fun h=>by
  first
  |omega
  | (have h2 := h.2 x (acy hx) (by omega)
     first
     |(have:=(acA.1 h2).1;omega)
     |(rw[hy]at h2;cases h2;omega)
     |(rw[hy]at h2;cases h2;simp_all)))]).symm,hN.bc⟩
 refine RW.skip (aw (RW.seq ?_))
 have jS:=JS.2
 rw[if_pos (by omega)]at jS
 have aO:=da l (x.2.2.2.2.toNat)
 obtain⟨y,hy⟩:=aO
 refine RW.region (RL.ag (ah acL rfl dN) (RL.ag (ah acI rfl fz) (RL.ag (aj acM (hN.aJ 1 rfl)) (RL.ag (ah acB rfl cU) (RL.ag (ah acH rfl bK) (RL.ag (aj acs (hN.aJ 0 rfl)) (RL.ag (aU acM dr bf (ha.o.now hN)) (RL.ag (b8 (m:=(x.2.2.2.2).toNat) (a:=y) acP dr bf (ha.o.now hN) hy (cs:=[.int .i64 (y.1),.int .i64 (y.2.1),.int .i64 (y.2.2)])) ?_))))))))
 refine RL.aK (bz (cs:=[.int .i64 (0),.int .i64 (0),.int .i64 (0)]) fS rfl hN ?_)
 clear hN
 intro CH lW (hN:aI w none_ lW [_,_,_])
 refine RL.aK (aR (vs:=[.int .i64 (y.1),.int .i64 (y.2.1),.int .i64 (y.2.2)]) dr rfl rfl rfl (aW (aW (aW cZ))) hN 0 rfl rfl ?_)
 clear hN
 intro lR (hN:aI w none_ lR [_,_,_])
 refine RL.b6 (RL.ag (ah acP rfl bK) (RL.ag (aj acs (hN.aJ 0 rfl)) (RL.ag (ah acB rfl bK) (RL.ag (aj acs (hN.aJ 1 rfl)) (RL.ag (bj) (RL.ag (v:=.bool (decide (¬y.1=x.1))) U ?_))))))
 by_cases ku:¬y.1=x.1
 rw[decide_eq_true ku]
 iterate 5 refine RL.bH ?_
 refine RL.ag (v:=.bool true) (al) (RL.ag (v:=.bool true) U ?_)
 iterate 6 refine RL.bH ?_
 refine RL.ag (v:=.bool true) (al) (RL.ak (RW.bF (RW.aN (RL.ag (v:=.int .i64 (2)) ai (RL.ak (RW.ret ?_))))))
 refine aX ?_
 iterate 2 refine aT ?_
 refine aX (aT (bb (RV.tmp rfl) ?_))
 exact⟨congrArg (acZ .i64) (show dC n l rk ws gl fl ol il eS eX=2 by
  unfold dC
  rw[if_neg (by omega),if_neg (by omega),if_neg (by omega),if_neg (fun h=>by
  first
  |omega
  | (have h2 := h.2 x (acy hx) (by omega)
     first
     |(have:=(acA.1 h2).1;omega)
     |(rw[hy]at h2;cases h2;omega)
     |(rw[hy]at h2;cases h2;simp_all)))]).symm,hN.bc⟩
 rw[decide_eq_false ku]
 refine RL.an (ah acP rfl bK) (RL.an (aj acs (hN.aJ 0 rfl)) (RL.an (ah acB rfl bK) (RL.an (aj acs (hN.aJ 1 rfl)) (RL.an (bj) (RL.ag (v:=.bool (decide (¬y.2.1=x.2.1))) (aB) (RL.ag (v:=.bool (decide (¬y.2.1=x.2.1))) U ?_))))))
 by_cases jk:¬y.2.1=x.2.1
 rw[decide_eq_true jk]
 iterate 6 refine RL.bH ?_
 refine RL.ag (v:=.bool true) (al) (RL.ak (RW.bF (RW.aN (RL.ag (v:=.int .i64 (2)) ai (RL.ak (RW.ret ?_))))))
 refine aX ?_
 iterate 2 refine aT ?_
 refine aX (aT (bb (RV.tmp rfl) ?_))
 exact⟨congrArg (acZ .i64) (show dC n l rk ws gl fl ol il eS eX=2 by
  unfold dC
  rw[if_neg (by omega),if_neg (by omega),if_neg (by omega),if_neg (fun h=>by
  first
  |omega
  | (have h2 := h.2 x (acy hx) (by omega)
     first
     |(have:=(acA.1 h2).1;omega)
     |(rw[hy]at h2;cases h2;omega)
     |(rw[hy]at h2;cases h2;simp_all)))]).symm,hN.bc⟩
 rw[decide_eq_false jk]
 refine RL.an (ah acP rfl bK) (RL.an (aj acs (hN.aJ 0 rfl)) (RL.an (ah acB rfl cU) (RL.an (ah acH rfl bK) (RL.an (aj acs (hN.aJ 1 rfl)) (RL.an (bj) (RL.ag (v:=.bool (decide (¬y.2.2=x.2.2.1))) (aB) (RL.ak ?_)))))))
 refine RW.aG _ (fun fJ=>?_) (fun fJ=>?_)
 refine RW.aN (RL.ag (v:=.int .i64 (2)) ai (RL.ak (RW.ret (aX ?_))))
 iterate 2 refine aT ?_
 refine aX (aT (bb (RV.tmp rfl) ?_))
 exact⟨congrArg (acZ .i64) (show dC n l rk ws gl fl ol il eS eX=2 by
  unfold dC
  rw[if_neg (by omega),if_neg (by omega),if_neg (by omega),if_neg (fun h=>by
  first
  |omega
  | (have h2 := h.2 x (acy hx) (by omega)
     first
     |(have:=(acA.1 h2).1;omega)
     |(rw[hy]at h2;cases h2;omega)
     |(rw[hy]at h2;cases h2;simp_all)))]).symm,hN.bc⟩
 refine RW.skip (aY (aw (RW.region (RL.ag (v:=vJ i) U (RL.ag (aD rfl rfl rfl (bh (by omega) (by omega))) (RL.ag (v:=.int .i64 ((i:Int)+1)) ai (RL.ak ?_)))))))
 exact⟨k-1,by omega,i+1,rfl,rfl,(hN.sb [2]),by omega,fun m z hm hz=>(adh m i).elim (fun e=>yB m z e hz) (fun e=>have e2:m=i:=(by omega);have e3:z=x:=ac2 (hz.symm.trans (e2▸hx));e3▸fun h0=>by first|exact absurd h0 k8|exact hy.trans (congrArg some (adL (by show y.1=x.1;omega) (adL (by show y.2.1=x.2.1;omega) (by show y.2.2=x.2.2.1;omega)))))⟩
 refine RW.exit ?_
 iterate 2 refine bS ?_
 refine ba (aw (RW.aN (RL.ag (v:=.int .i64 (0)) ai (RL.ak (RW.ret (bb (RV.tmp rfl) ?_))))))
 exact⟨congrArg (acZ .i64) (show dC n l rk ws gl fl ol il eS eX=0 by
  unfold dC
  rw[if_neg (by omega),if_neg (by omega),if_neg (by omega),if_pos ⟨by omega,fun x hx=>by
  have aO:=ac9 hx
  obtain⟨m,hm⟩:=aO
  exact yB m x (by have:=(acA.1 hm).1;omega) hm⟩]).symm,hN.bc⟩
 refine RW.skip (aw ?_)
 iterate 2 refine RW.seq ?_
 refine RW.region (RL.ag (v:=.int .i64 ((ec rk ws))) U (RL.ag (bj) (RL.ak ?_)))
 refine RW.aG _ (fun he=>?_) (fun he=>?_)
 refine RW.aN (RL.ag (v:=.int .i64 ((ec rk ws))) U (RL.ag (v:=.int .i64 ((ec rk ws))) ai (RL.ak (RW.ret (aT (bb (RV.tmp rfl) ?_))))))
 exact⟨congrArg (acZ .i64) (show dC n l rk ws gl fl ol il eS eX=(ec rk ws) by
  unfold dC
  rw[if_neg (by omega),if_pos (by omega)]).symm,hN.bc⟩
 refine RW.skip (aw ?_)
 iterate 2 refine RW.seq ?_
 have hm:ee n l=0:=by omega
 have hh:ec rk ws=0:=by omega
 refine RW.region (RL.ag (ah acL rfl dy) (RL.ag (ah acz rfl cj) (RL.ag (aj acu (hN.aJ 0 rfl)) ?_)))
 have MZ:=(hr.o.now hN).bw
 refine RL.ag (aQ acu (hr.o.now hN)) (RL.ag (ah acL rfl dN) (RL.ag (ah acI rfl bK) (RL.ag (aj acs (hN.aJ 0 rfl)) (RL.ag (bj) (RL.ak ?_)))))
 refine RW.aG _ (fun hlen=>?_) (fun hlen=>?_)
 refine RW.aN (RL.ag (v:=.int .i64 (2)) ai (RL.ak (RW.ret (aT (bb (RV.tmp rfl) ?_)))))
 exact⟨congrArg (acZ .i64) (show dC n l rk ws gl fl ol il eS eX=2 by
  unfold dC
  rw[if_neg (by omega),if_neg (by omega),if_neg (by omega),if_neg (fun h=>by
  first
  |omega
  | (have h2 := h.2 x (acy hx) (by omega)
     first
     |(have:=(acA.1 h2).1;omega)
     |(rw[hy]at h2;cases h2;omega)
     |(rw[hy]at h2;cases h2;simp_all)))]).symm,hN.bc⟩
 refine RW.skip (aw ?_)
 iterate 2 refine RW.seq ?_
 refine RW.region (RL.ag (v:=.int .i64 (0)) ai (RL.ak (RW.block ?_)))
 refine RW.loop (fun k R0 cz=>∃i:Nat,R0 1=vP g1∧R0 4=vJ i∧aI w none_ cz [.aJ g1 [.int .i64 (n),av,rv,wv,gv,fv,ov,iv,db,dc] 34]∧(i+k=ws.length)∧(∀(m:Nat) (y:I5),m<i→ws[m]?=some y→y.2.2.2.1= -1→l[y.2.2.2.2.toNat]?=some (y.1,y.2.1,y.2.2.1))) (ws.length) ?_ ?_
 exact⟨0,rfl,rfl,hN,by omega,fun m r hm=>absurd hm (by omega)⟩
 clear hN
 rintro k R0 cz ⟨i,bP,cA,hN,gk,yB⟩
 have cB:=Bu bP cA
 obtain⟨gF,rfl⟩:=cB
 clear bP cA
 iterate 2 refine RW.seq ?_
 refine RW.region (RL.ag (v:=vJ i) U (RL.ag (ah acL rfl dy) (RL.ag (ah acz rfl eM) (RL.ag (aj acG (hN.aJ 0 rfl)) ?_))))
 have MY:=(hw.o.now hN).bw
 refine RL.ag (bO acG (hw.o.now hN)) (RL.ag (aL) (RL.ak ?_))
 refine RW.aG _ (fun cD=>?_) (fun cD=>?_)
 refine RW.skip (aw (RW.seq (RW.block (RW.seq ?_))))
 have aO:=da ws i
 obtain⟨x,hx⟩:=aO
 have JS:=(pN hh).2 i x hx
 refine RW.region (RL.ag (ah acL rfl dy) (RL.ag (ah acz rfl eM) (RL.ag (aj acG (hN.aJ 0 rfl)) (RL.ag (v:=vJ i) U (RL.ag (aU acG er aH (hw.o.now hN)) (RL.ag (b8 (m:=i) (a:=x) acB er aH (hw.o.now hN) hx (cs:=[.int .i64 (x.1),.int .i64 (x.2.1),.int .i64 (x.2.2.1),.int .i64 (x.2.2.2.1),.int .i64 (x.2.2.2.2)])) ?_))))))
 refine RL.aK (bz (cs:=[.int .i64 (0),.int .i64 (0),.int .i64 (0),.int .i64 (0),.int .i64 (0)]) gu rfl hN ?_)
 clear hN
 intro M4 o7 (hN:aI w none_ o7 [_,_])
 refine RL.aK (aR (vs:=[.int .i64 (x.1),.int .i64 (x.2.1),.int .i64 (x.2.2.1),.int .i64 (x.2.2.2.1),.int .i64 (x.2.2.2.2)]) er rfl rfl rfl (aW (aW (aW (aW (aW cZ))))) hN 0 rfl rfl ?_)
 clear hN
 intro qf (hN:aI w none_ qf [_,_])
 refine RL.ak ?_
 iterate 2 refine RW.seq ?_
 refine RW.region (RL.ag (ah acB rfl cU) (RL.ag (ah acH rfl bK) (RL.ag (aj acs (hN.aJ 0 rfl)) (RL.ag (bj) (RL.ak ?_)))))
 refine RW.aG _ (fun k8=>?_) (fun k8=>?_)
 refine RW.exit (bS (ba (aw (RW.region (RL.ag (v:=vJ i) U (RL.ag (aD rfl rfl rfl (bh (by omega) (by omega))) (RL.ag (v:=.int .i64 ((i:Int)+1)) ai (RL.ak ?_))))))))
 exact⟨k-1,by omega,i+1,rfl,rfl,(hN.sb [1]),by omega,fun m z hm hz=>(adh m i).elim (fun e=>yB m z e hz) (fun e=>have e2:m=i:=(by omega);have e3:z=x:=ac2 (hz.symm.trans (e2▸hx));e3▸fun h0=>by first|exact absurd h0 k8|exact hy.trans (congrArg some (adL (by show y.1=x.1;omega) (adL (by show y.2.1=x.2.1;omega) (by show y.2.2=x.2.2.1;omega)))))⟩
 refine RW.skip (aw ?_)
 iterate 2 refine RW.seq ?_
 refine RW.region (RL.ag (ah acB rfl cU) (RL.ag (ah acH rfl bK) (RL.ag (aj acs (hN.aJ 0 rfl)) (RL.ag (ah acL rfl dN) (RL.ag (ah acI rfl fz) (RL.ag (aj acM (hN.aJ 1 rfl)) ?_))))))
 have Yg:=(ha.o.now hN).bw
 refine RL.ag (bO acM (ha.o.now hN)) (RL.ag (cm) (RL.ak ?_))
 refine RW.aG _ (fun ir=>?_) (fun ir=>?_)
 refine RW.aN (RL.ag (v:=.int .i64 (2)) ai (RL.ak (RW.ret (aT (aX ?_)))))
 iterate 2 refine aT ?_
 refine aX (aT (bb (RV.tmp rfl) ?_))
 exact⟨congrArg (acZ .i64) (show dC n l rk ws gl fl ol il eS eX=2 by
  unfold dC
  rw[if_neg (by omega),if_neg (by omega),if_neg (by omega),if_neg (fun h=>by
  first
  |omega
  | (have h2 := h.2 x (acy hx) (by omega)
     first
     |(have:=(acA.1 h2).1;omega)
     |(rw[hy]at h2;cases h2;omega)
     |(rw[hy]at h2;cases h2;simp_all)))]).symm,hN.bc⟩
 refine RW.skip (aw (RW.seq ?_))
 have jS:=JS.2
 rw[if_pos (by omega)]at jS
 have aO:=da l (x.2.2.2.2.toNat)
 obtain⟨y,hy⟩:=aO
 refine RW.region (RL.ag (ah acL rfl dN) (RL.ag (ah acI rfl fz) (RL.ag (aj acM (hN.aJ 1 rfl)) (RL.ag (ah acB rfl cU) (RL.ag (ah acH rfl bK) (RL.ag (aj acs (hN.aJ 0 rfl)) (RL.ag (aU acM dr bf (ha.o.now hN)) (RL.ag (b8 (m:=(x.2.2.2.2).toNat) (a:=y) acP dr bf (ha.o.now hN) hy (cs:=[.int .i64 (y.1),.int .i64 (y.2.1),.int .i64 (y.2.2)])) ?_))))))))
 refine RL.aK (bz (cs:=[.int .i64 (0),.int .i64 (0),.int .i64 (0)]) fS rfl hN ?_)
 clear hN
 intro Yz sQ (hN:aI w none_ sQ [_,_,_])
 refine RL.aK (aR (vs:=[.int .i64 (y.1),.int .i64 (y.2.1),.int .i64 (y.2.2)]) dr rfl rfl rfl (aW (aW (aW cZ))) hN 0 rfl rfl ?_)
 clear hN
 intro u0 (hN:aI w none_ u0 [_,_,_])
 refine RL.b6 (RL.ag (ah acP rfl bK) (RL.ag (aj acs (hN.aJ 0 rfl)) (RL.ag (ah acB rfl bK) (RL.ag (aj acs (hN.aJ 1 rfl)) (RL.ag (bj) (RL.ag (v:=.bool (decide (¬y.1=x.1))) U ?_))))))
 by_cases ku:¬y.1=x.1
 rw[decide_eq_true ku]
 iterate 5 refine RL.bH ?_
 refine RL.ag (v:=.bool true) (al) (RL.ag (v:=.bool true) U ?_)
 iterate 6 refine RL.bH ?_
 refine RL.ag (v:=.bool true) (al) (RL.ak (RW.bF (RW.aN (RL.ag (v:=.int .i64 (2)) ai (RL.ak (RW.ret ?_))))))
 refine aX ?_
 iterate 2 refine aT ?_
 refine aX (aT (bb (RV.tmp rfl) ?_))
 exact⟨congrArg (acZ .i64) (show dC n l rk ws gl fl ol il eS eX=2 by
  unfold dC
  rw[if_neg (by omega),if_neg (by omega),if_neg (by omega),if_neg (fun h=>by
  first
  |omega
  | (have h2 := h.2 x (acy hx) (by omega)
     first
     |(have:=(acA.1 h2).1;omega)
     |(rw[hy]at h2;cases h2;omega)
     |(rw[hy]at h2;cases h2;simp_all)))]).symm,hN.bc⟩
 rw[decide_eq_false ku]
 refine RL.an (ah acP rfl bK) (RL.an (aj acs (hN.aJ 0 rfl)) (RL.an (ah acB rfl bK) (RL.an (aj acs (hN.aJ 1 rfl)) (RL.an (bj) (RL.ag (v:=.bool (decide (¬y.2.1=x.2.1))) (aB) (RL.ag (v:=.bool (decide (¬y.2.1=x.2.1))) U ?_))))))
 by_cases jk:¬y.2.1=x.2.1
 rw[decide_eq_true jk]
 iterate 6 refine RL.bH ?_
 refine RL.ag (v:=.bool true) (al) (RL.ak (RW.bF (RW.aN (RL.ag (v:=.int .i64 (2)) ai (RL.ak (RW.ret ?_))))))
 refine aX ?_
 iterate 2 refine aT ?_
 refine aX (aT (bb (RV.tmp rfl) ?_))
 exact⟨congrArg (acZ .i64) (show dC n l rk ws gl fl ol il eS eX=2 by
  unfold dC
  rw[if_neg (by omega),if_neg (by omega),if_neg (by omega),if_neg (fun h=>by
  first
  |omega
  | (have h2 := h.2 x (acy hx) (by omega)
     first
     |(have:=(acA.1 h2).1;omega)
     |(rw[hy]at h2;cases h2;omega)
     |(rw[hy]at h2;cases h2;simp_all)))]).symm,hN.bc⟩
 rw[decide_eq_false jk]
 refine RL.an (ah acP rfl bK) (RL.an (aj acs (hN.aJ 0 rfl)) (RL.an (ah acB rfl cU) (RL.an (ah acH rfl bK) (RL.an (aj acs (hN.aJ 1 rfl)) (RL.an (bj) (RL.ag (v:=.bool (decide (¬y.2.2=x.2.2.1))) (aB) (RL.ak ?_)))))))
 refine RW.aG _ (fun fJ=>?_) (fun fJ=>?_)
 refine RW.aN (RL.ag (v:=.int .i64 (2)) ai (RL.ak (RW.ret (aX ?_))))
 iterate 2 refine aT ?_
 refine aX (aT (bb (RV.tmp rfl) ?_))
 exact⟨congrArg (acZ .i64) (show dC n l rk ws gl fl ol il eS eX=2 by
  unfold dC
  rw[if_neg (by omega),if_neg (by omega),if_neg (by omega),if_neg (fun h=>by
  first
  |omega
  | (have h2 := h.2 x (acy hx) (by omega)
     first
     |(have:=(acA.1 h2).1;omega)
     |(rw[hy]at h2;cases h2;omega)
     |(rw[hy]at h2;cases h2;simp_all)))]).symm,hN.bc⟩
 refine RW.skip (aY (aw (RW.region (RL.ag (v:=vJ i) U (RL.ag (aD rfl rfl rfl (bh (by omega) (by omega))) (RL.ag (v:=.int .i64 ((i:Int)+1)) ai (RL.ak ?_)))))))
 exact⟨k-1,by omega,i+1,rfl,rfl,(hN.sb [2]),by omega,fun m z hm hz=>(adh m i).elim (fun e=>yB m z e hz) (fun e=>have e2:m=i:=(by omega);have e3:z=x:=ac2 (hz.symm.trans (e2▸hx));e3▸fun h0=>by first|exact absurd h0 k8|exact hy.trans (congrArg some (adL (by show y.1=x.1;omega) (adL (by show y.2.1=x.2.1;omega) (by show y.2.2=x.2.2.1;omega)))))⟩
 refine RW.exit ?_
 iterate 2 refine bS ?_
 refine ba (aw (RW.aN (RL.ag (v:=.int .i64 (0)) ai (RL.ak (RW.ret (bb (RV.tmp rfl) ?_))))))
 exact⟨congrArg (acZ .i64) (show dC n l rk ws gl fl ol il eS eX=0 by
  unfold dC
  rw[if_neg (by omega),if_neg (by omega),if_neg (by omega),if_pos ⟨by omega,fun x hx=>by
  have aO:=ac9 hx
  obtain⟨m,hm⟩:=aO
  exact yB m x (by have:=(acA.1 hm).1;omega) hm⟩]).symm,hN.bc⟩
 refine RW.skip (aw ?_)
 iterate 2 refine RW.seq ?_
 refine RW.region (RL.ag (v:=.int .i64 ((ee (n) l))) U (RL.ag (bZ) (RL.ak ?_)))
 refine RW.aG _ (fun Vt=>?_) (fun Vt=>?_)
 refine RW.region (RL.ag (ah acL rfl dN) (RL.ag (ah acI rfl bK) (RL.ag (aj acs (hN.aJ 0 rfl)) (RL.ag (ah acL rfl iD) (RL.ag (dG (cs:=[.int .i64 (n),av,rv,wv,gv,fv,ov,iv,db,dc]) (j:=4) (m:=6) acK rfl iD rfl (hN.aJ 0 rfl) (acv rfl)) ?_)))))
 refine RL.aK (bu aiS rfl rfl rfl rfl ((ou (n) _ _ gl (hg.o.now hN) _ fh fl (hf.o.now hN) (o0.gD hN) _ oh ol (ho.o.now hN) (FU.ext hN.bc) _ ih il (hi.o.now hN) (ui.ext hN.bc) _ su eS (gV.o.now hN) (rM.gD hN) _ sx eX (gQ.o.now hN) (rN.gD hN) V0 O4).mono ?_))
 rintro _ Bk ⟨rfl,bn⟩
 replace hN:=hN.ext bn
 clear bn
 refine RL.ag (v:=.int .i64 ((dH (n) gl fl ol il eS eX))) ai (RL.ak ?_)
 iterate 2 refine RW.seq ?_
 refine RW.region (RL.ag (v:=.int .i64 ((dH (n) gl fl ol il eS eX))) U (RL.ag (bj) (RL.ak ?_)))
 refine RW.aG _ (fun he=>?_) (fun he=>?_)
 refine RW.aN (RL.ag (v:=.int .i64 ((dH (n) gl fl ol il eS eX))) U (RL.ag (v:=.int .i64 ((dH (n) gl fl ol il eS eX))) ai (RL.ak (RW.ret (aT (bb (RV.tmp rfl) ?_))))))
 exact⟨congrArg (acZ .i64) (show dC n l rk ws gl fl ol il eS eX=(dH (n) gl fl ol il eS eX) by
  unfold dC
  rw[if_neg (by omega),if_neg (by omega),if_pos (by omega)]).symm,hN.bc⟩
 refine RW.skip (aw ?_)
 iterate 2 refine RW.seq ?_
 have hm:ee n l=0:=by omega
 have hh:ec rk ws=0:=by omega
 refine RW.region (RL.ag (ah acL rfl dy) (RL.ag (ah acz rfl cj) (RL.ag (aj acu (hN.aJ 0 rfl)) ?_)))
 have S4:=(hr.o.now hN).bw
 refine RL.ag (aQ acu (hr.o.now hN)) (RL.ag (ah acL rfl dN) (RL.ag (ah acI rfl bK) (RL.ag (aj acs (hN.aJ 0 rfl)) (RL.ag (bj) (RL.ak ?_)))))
 refine RW.aG _ (fun hlen=>?_) (fun hlen=>?_)
 refine RW.aN (RL.ag (v:=.int .i64 (2)) ai (RL.ak (RW.ret (aT (bb (RV.tmp rfl) ?_)))))
 exact⟨congrArg (acZ .i64) (show dC n l rk ws gl fl ol il eS eX=2 by
  unfold dC
  rw[if_neg (by omega),if_neg (by omega),if_neg (by omega),if_neg (fun h=>by
  first
  |omega
  | (have h2 := h.2 x (acy hx) (by omega)
     first
     |(have:=(acA.1 h2).1;omega)
     |(rw[hy]at h2;cases h2;omega)
     |(rw[hy]at h2;cases h2;simp_all)))]).symm,hN.bc⟩
 refine RW.skip (aw ?_)
 iterate 2 refine RW.seq ?_
 refine RW.region (RL.ag (v:=.int .i64 (0)) ai (RL.ak (RW.block ?_)))
 refine RW.loop (fun k R0 cz=>∃i:Nat,R0 1=vP g1∧R0 4=vJ i∧aI w none_ cz [.aJ g1 [.int .i64 (n),av,rv,wv,gv,fv,ov,iv,db,dc] 34]∧(i+k=ws.length)∧(∀(m:Nat) (y:I5),m<i→ws[m]?=some y→y.2.2.2.1= -1→l[y.2.2.2.2.toNat]?=some (y.1,y.2.1,y.2.2.1))) (ws.length) ?_ ?_
 exact⟨0,rfl,rfl,hN,by omega,fun m r hm=>absurd hm (by omega)⟩
 clear hN
 rintro k R0 cz ⟨i,bP,cA,hN,gk,yB⟩
 have cB:=Bu bP cA
 obtain⟨gF,rfl⟩:=cB
 clear bP cA
 iterate 2 refine RW.seq ?_
 refine RW.region (RL.ag (v:=vJ i) U (RL.ag (ah acL rfl dy) (RL.ag (ah acz rfl eM) (RL.ag (aj acG (hN.aJ 0 rfl)) ?_))))
 have Ye:=(hw.o.now hN).bw
 refine RL.ag (bO acG (hw.o.now hN)) (RL.ag (aL) (RL.ak ?_))
 refine RW.aG _ (fun cD=>?_) (fun cD=>?_)
 refine RW.skip (aw (RW.seq (RW.block (RW.seq ?_))))
 have aO:=da ws i
 obtain⟨x,hx⟩:=aO
 have JS:=(pN hh).2 i x hx
 refine RW.region (RL.ag (ah acL rfl dy) (RL.ag (ah acz rfl eM) (RL.ag (aj acG (hN.aJ 0 rfl)) (RL.ag (v:=vJ i) U (RL.ag (aU acG er aH (hw.o.now hN)) (RL.ag (b8 (m:=i) (a:=x) acB er aH (hw.o.now hN) hx (cs:=[.int .i64 (x.1),.int .i64 (x.2.1),.int .i64 (x.2.2.1),.int .i64 (x.2.2.2.1),.int .i64 (x.2.2.2.2)])) ?_))))))
 refine RL.aK (bz (cs:=[.int .i64 (0),.int .i64 (0),.int .i64 (0),.int .i64 (0),.int .i64 (0)]) gu rfl hN ?_)
 clear hN
 intro g22 y1 (hN:aI w none_ y1 [_,_])
 refine RL.aK (aR (vs:=[.int .i64 (x.1),.int .i64 (x.2.1),.int .i64 (x.2.2.1),.int .i64 (x.2.2.2.1),.int .i64 (x.2.2.2.2)]) er rfl rfl rfl (aW (aW (aW (aW (aW cZ))))) hN 0 rfl rfl ?_)
 clear hN
 intro zk (hN:aI w none_ zk [_,_])
 refine RL.ak ?_
 iterate 2 refine RW.seq ?_
 refine RW.region (RL.ag (ah acB rfl cU) (RL.ag (ah acH rfl bK) (RL.ag (aj acs (hN.aJ 0 rfl)) (RL.ag (bj) (RL.ak ?_)))))
 refine RW.aG _ (fun k8=>?_) (fun k8=>?_)
 refine RW.exit (bS (ba (aw (RW.region (RL.ag (v:=vJ i) U (RL.ag (aD rfl rfl rfl (bh (by omega) (by omega))) (RL.ag (v:=.int .i64 ((i:Int)+1)) ai (RL.ak ?_))))))))
 exact⟨k-1,by omega,i+1,rfl,rfl,(hN.sb [1]),by omega,fun m z hm hz=>(adh m i).elim (fun e=>yB m z e hz) (fun e=>have e2:m=i:=(by omega);have e3:z=x:=ac2 (hz.symm.trans (e2▸hx));e3▸fun h0=>by first|exact absurd h0 k8|exact hy.trans (congrArg some (adL (by show y.1=x.1;omega) (adL (by show y.2.1=x.2.1;omega) (by show y.2.2=x.2.2.1;omega)))))⟩
 refine RW.skip (aw ?_)
 iterate 2 refine RW.seq ?_
 refine RW.region (RL.ag (ah acB rfl cU) (RL.ag (ah acH rfl bK) (RL.ag (aj acs (hN.aJ 0 rfl)) (RL.ag (ah acL rfl dN) (RL.ag (ah acI rfl fz) (RL.ag (aj acM (hN.aJ 1 rfl)) ?_))))))
 have Yd:=(ha.o.now hN).bw
 refine RL.ag (bO acM (ha.o.now hN)) (RL.ag (cm) (RL.ak ?_))
 refine RW.aG _ (fun ir=>?_) (fun ir=>?_)
 refine RW.aN (RL.ag (v:=.int .i64 (2)) ai (RL.ak (RW.ret (aT (aX ?_)))))
 iterate 2 refine aT ?_
 refine aX (aT (bb (RV.tmp rfl) ?_))
 exact⟨congrArg (acZ .i64) (show dC n l rk ws gl fl ol il eS eX=2 by
  unfold dC
  rw[if_neg (by omega),if_neg (by omega),if_neg (by omega),if_neg (fun h=>by
  first
  |omega
  | (have h2 := h.2 x (acy hx) (by omega)
     first
     |(have:=(acA.1 h2).1;omega)
     |(rw[hy]at h2;cases h2;omega)
     |(rw[hy]at h2;cases h2;simp_all)))]).symm,hN.bc⟩
 refine RW.skip (aw (RW.seq ?_))
 have jS:=JS.2
 rw[if_pos (by omega)]at jS
 have aO:=da l (x.2.2.2.2.toNat)
 obtain⟨y,hy⟩:=aO
 refine RW.region (RL.ag (ah acL rfl dN) (RL.ag (ah acI rfl fz) (RL.ag (aj acM (hN.aJ 1 rfl)) (RL.ag (ah acB rfl cU) (RL.ag (ah acH rfl bK) (RL.ag (aj acs (hN.aJ 0 rfl)) (RL.ag (aU acM dr bf (ha.o.now hN)) (RL.ag (b8 (m:=(x.2.2.2.2).toNat) (a:=y) acP dr bf (ha.o.now hN) hy (cs:=[.int .i64 (y.1),.int .i64 (y.2.1),.int .i64 (y.2.2)])) ?_))))))))
 refine RL.aK (bz (cs:=[.int .i64 (0),.int .i64 (0),.int .i64 (0)]) fS rfl hN ?_)
 clear hN
 intro g25 LW (hN:aI w none_ LW [_,_,_])
 refine RL.aK (aR (vs:=[.int .i64 (y.1),.int .i64 (y.2.1),.int .i64 (y.2.2)]) dr rfl rfl rfl (aW (aW (aW cZ))) hN 0 rfl rfl ?_)
 clear hN
 intro DX (hN:aI w none_ DX [_,_,_])
 refine RL.b6 (RL.ag (ah acP rfl bK) (RL.ag (aj acs (hN.aJ 0 rfl)) (RL.ag (ah acB rfl bK) (RL.ag (aj acs (hN.aJ 1 rfl)) (RL.ag (bj) (RL.ag (v:=.bool (decide (¬y.1=x.1))) U ?_))))))
 by_cases ku:¬y.1=x.1
 rw[decide_eq_true ku]
 iterate 5 refine RL.bH ?_
 refine RL.ag (v:=.bool true) (al) (RL.ag (v:=.bool true) U ?_)
 iterate 6 refine RL.bH ?_
 refine RL.ag (v:=.bool true) (al) (RL.ak (RW.bF (RW.aN (RL.ag (v:=.int .i64 (2)) ai (RL.ak (RW.ret ?_))))))
 refine aX ?_
 iterate 2 refine aT ?_
 refine aX (aT (bb (RV.tmp rfl) ?_))
 exact⟨congrArg (acZ .i64) (show dC n l rk ws gl fl ol il eS eX=2 by
  unfold dC
  rw[if_neg (by omega),if_neg (by omega),if_neg (by omega),if_neg (fun h=>by
  first
  |omega
  | (have h2 := h.2 x (acy hx) (by omega)
     first
     |(have:=(acA.1 h2).1;omega)
     |(rw[hy]at h2;cases h2;omega)
     |(rw[hy]at h2;cases h2;simp_all)))]).symm,hN.bc⟩
 rw[decide_eq_false ku]
 refine RL.an (ah acP rfl bK) (RL.an (aj acs (hN.aJ 0 rfl)) (RL.an (ah acB rfl bK) (RL.an (aj acs (hN.aJ 1 rfl)) (RL.an (bj) (RL.ag (v:=.bool (decide (¬y.2.1=x.2.1))) (aB) (RL.ag (v:=.bool (decide (¬y.2.1=x.2.1))) U ?_))))))
 by_cases jk:¬y.2.1=x.2.1
 rw[decide_eq_true jk]
 iterate 6 refine RL.bH ?_
 refine RL.ag (v:=.bool true) (al) (RL.ak (RW.bF (RW.aN (RL.ag (v:=.int .i64 (2)) ai (RL.ak (RW.ret ?_))))))
 refine aX ?_
 iterate 2 refine aT ?_
 refine aX (aT (bb (RV.tmp rfl) ?_))
 exact⟨congrArg (acZ .i64) (show dC n l rk ws gl fl ol il eS eX=2 by
  unfold dC
  rw[if_neg (by omega),if_neg (by omega),if_neg (by omega),if_neg (fun h=>by
  first
  |omega
  | (have h2 := h.2 x (acy hx) (by omega)
     first
     |(have:=(acA.1 h2).1;omega)
     |(rw[hy]at h2;cases h2;omega)
     |(rw[hy]at h2;cases h2;simp_all)))]).symm,hN.bc⟩
 rw[decide_eq_false jk]
 refine RL.an (ah acP rfl bK) (RL.an (aj acs (hN.aJ 0 rfl)) (RL.an (ah acB rfl cU) (RL.an (ah acH rfl bK) (RL.an (aj acs (hN.aJ 1 rfl)) (RL.an (bj) (RL.ag (v:=.bool (decide (¬y.2.2=x.2.2.1))) (aB) (RL.ak ?_)))))))
 refine RW.aG _ (fun fJ=>?_) (fun fJ=>?_)
 refine RW.aN (RL.ag (v:=.int .i64 (2)) ai (RL.ak (RW.ret (aX ?_))))
 iterate 2 refine aT ?_
 refine aX (aT (bb (RV.tmp rfl) ?_))
 exact⟨congrArg (acZ .i64) (show dC n l rk ws gl fl ol il eS eX=2 by
  unfold dC
  rw[if_neg (by omega),if_neg (by omega),if_neg (by omega),if_neg (fun h=>by
  first
  |omega
  | (have h2 := h.2 x (acy hx) (by omega)
     first
     |(have:=(acA.1 h2).1;omega)
     |(rw[hy]at h2;cases h2;omega)
     |(rw[hy]at h2;cases h2;simp_all)))]).symm,hN.bc⟩
 refine RW.skip (aY (aw (RW.region (RL.ag (v:=vJ i) U (RL.ag (aD rfl rfl rfl (bh (by omega) (by omega))) (RL.ag (v:=.int .i64 ((i:Int)+1)) ai (RL.ak ?_)))))))
 exact⟨k-1,by omega,i+1,rfl,rfl,(hN.sb [2]),by omega,fun m z hm hz=>(adh m i).elim (fun e=>yB m z e hz) (fun e=>have e2:m=i:=(by omega);have e3:z=x:=ac2 (hz.symm.trans (e2▸hx));e3▸fun h0=>by first|exact absurd h0 k8|exact hy.trans (congrArg some (adL (by show y.1=x.1;omega) (adL (by show y.2.1=x.2.1;omega) (by show y.2.2=x.2.2.1;omega)))))⟩
 refine RW.exit ?_
 iterate 2 refine bS ?_
 refine ba (aw (RW.aN (RL.ag (v:=.int .i64 (0)) ai (RL.ak (RW.ret (bb (RV.tmp rfl) ?_))))))
 exact⟨congrArg (acZ .i64) (show dC n l rk ws gl fl ol il eS eX=0 by
  unfold dC
  rw[if_neg (by omega),if_neg (by omega),if_neg (by omega),if_pos ⟨by omega,fun x hx=>by
  have aO:=ac9 hx
  obtain⟨m,hm⟩:=aO
  exact yB m x (by have:=(acA.1 hm).1;omega) hm⟩]).symm,hN.bc⟩
 refine RW.skip (aw ?_)
 iterate 2 refine RW.seq ?_
 refine RW.region (RL.ag (v:=.int .i64 ((ee (n) l))) U (RL.ag (bj) (RL.ak ?_)))
 refine RW.aG _ (fun he=>?_) (fun he=>?_)
 refine RW.aN (RL.ag (v:=.int .i64 ((ee (n) l))) U (RL.ag (v:=.int .i64 ((ee (n) l))) ai (RL.ak (RW.ret (aT (bb (RV.tmp rfl) ?_))))))
 exact⟨congrArg (acZ .i64) (show dC n l rk ws gl fl ol il eS eX=(ee (n) l) by
  unfold dC
  rw[if_pos (by omega)]).symm,hN.bc⟩
 refine RW.skip (aw ?_)
 iterate 2 refine RW.seq ?_
 have hm:ee n l=0:=by omega
 have hh:ec rk ws=0:=by omega
 refine RW.region (RL.ag (ah acL rfl dy) (RL.ag (ah acz rfl cj) (RL.ag (aj acu (hN.aJ 0 rfl)) ?_)))
 have Yb:=(hr.o.now hN).bw
 refine RL.ag (aQ acu (hr.o.now hN)) (RL.ag (ah acL rfl dN) (RL.ag (ah acI rfl bK) (RL.ag (aj acs (hN.aJ 0 rfl)) (RL.ag (bj) (RL.ak ?_)))))
 refine RW.aG _ (fun hlen=>?_) (fun hlen=>?_)
 refine RW.aN (RL.ag (v:=.int .i64 (2)) ai (RL.ak (RW.ret (aT (bb (RV.tmp rfl) ?_)))))
 exact⟨congrArg (acZ .i64) (show dC n l rk ws gl fl ol il eS eX=2 by
  unfold dC
  rw[if_neg (by omega),if_neg (by omega),if_neg (by omega),if_neg (fun h=>by
  first
  |omega
  | (have h2 := h.2 x (acy hx) (by omega)
     first
     |(have:=(acA.1 h2).1;omega)
     |(rw[hy]at h2;cases h2;omega)
     |(rw[hy]at h2;cases h2;simp_all)))]).symm,hN.bc⟩
 refine RW.skip (aw ?_)
 iterate 2 refine RW.seq ?_
 refine RW.region (RL.ag (v:=.int .i64 (0)) ai (RL.ak (RW.block ?_)))
 refine RW.loop (fun k R0 cz=>∃i:Nat,R0 1=vP g1∧R0 4=vJ i∧aI w none_ cz [.aJ g1 [.int .i64 (n),av,rv,wv,gv,fv,ov,iv,db,dc] 34]∧(i+k=ws.length)∧(∀(m:Nat) (y:I5),m<i→ws[m]?=some y→y.2.2.2.1= -1→l[y.2.2.2.2.toNat]?=some (y.1,y.2.1,y.2.2.1))) (ws.length) ?_ ?_
 exact⟨0,rfl,rfl,hN,by omega,fun m r hm=>absurd hm (by omega)⟩
 clear hN
 rintro k R0 cz ⟨i,bP,cA,hN,gk,yB⟩
 have cB:=Bu bP cA
 obtain⟨gF,rfl⟩:=cB
 clear bP cA
 iterate 2 refine RW.seq ?_
 refine RW.region (RL.ag (v:=vJ i) U (RL.ag (ah acL rfl dy) (RL.ag (ah acz rfl eM) (RL.ag (aj acG (hN.aJ 0 rfl)) ?_))))
 have Ya:=(hw.o.now hN).bw
 refine RL.ag (bO acG (hw.o.now hN)) (RL.ag (aL) (RL.ak ?_))
 refine RW.aG _ (fun cD=>?_) (fun cD=>?_)
 refine RW.skip (aw (RW.seq (RW.block (RW.seq ?_))))
 have aO:=da ws i
 obtain⟨x,hx⟩:=aO
 have JS:=(pN hh).2 i x hx
 refine RW.region (RL.ag (ah acL rfl dy) (RL.ag (ah acz rfl eM) (RL.ag (aj acG (hN.aJ 0 rfl)) (RL.ag (v:=vJ i) U (RL.ag (aU acG er aH (hw.o.now hN)) (RL.ag (b8 (m:=i) (a:=x) acB er aH (hw.o.now hN) hx (cs:=[.int .i64 (x.1),.int .i64 (x.2.1),.int .i64 (x.2.2.1),.int .i64 (x.2.2.2.1),.int .i64 (x.2.2.2.2)])) ?_))))))
 refine RL.aK (bz (cs:=[.int .i64 (0),.int .i64 (0),.int .i64 (0),.int .i64 (0),.int .i64 (0)]) gu rfl hN ?_)
 clear hN
 intro g29 LV (hN:aI w none_ LV [_,_])
 refine RL.aK (aR (vs:=[.int .i64 (x.1),.int .i64 (x.2.1),.int .i64 (x.2.2.1),.int .i64 (x.2.2.2.1),.int .i64 (x.2.2.2.2)]) er rfl rfl rfl (aW (aW (aW (aW (aW cZ))))) hN 0 rfl rfl ?_)
 clear hN
 intro Ny (hN:aI w none_ Ny [_,_])
 refine RL.ak ?_
 iterate 2 refine RW.seq ?_
 refine RW.region (RL.ag (ah acB rfl cU) (RL.ag (ah acH rfl bK) (RL.ag (aj acs (hN.aJ 0 rfl)) (RL.ag (bj) (RL.ak ?_)))))
 refine RW.aG _ (fun k8=>?_) (fun k8=>?_)
 refine RW.exit (bS (ba (aw (RW.region (RL.ag (v:=vJ i) U (RL.ag (aD rfl rfl rfl (bh (by omega) (by omega))) (RL.ag (v:=.int .i64 ((i:Int)+1)) ai (RL.ak ?_))))))))
 exact⟨k-1,by omega,i+1,rfl,rfl,(hN.sb [1]),by omega,fun m z hm hz=>(adh m i).elim (fun e=>yB m z e hz) (fun e=>have e2:m=i:=(by omega);have e3:z=x:=ac2 (hz.symm.trans (e2▸hx));e3▸fun h0=>by first|exact absurd h0 k8|exact hy.trans (congrArg some (adL (by show y.1=x.1;omega) (adL (by show y.2.1=x.2.1;omega) (by show y.2.2=x.2.2.1;omega)))))⟩
 refine RW.skip (aw ?_)
 iterate 2 refine RW.seq ?_
 refine RW.region (RL.ag (ah acB rfl cU) (RL.ag (ah acH rfl bK) (RL.ag (aj acs (hN.aJ 0 rfl)) (RL.ag (ah acL rfl dN) (RL.ag (ah acI rfl fz) (RL.ag (aj acM (hN.aJ 1 rfl)) ?_))))))
 have X8:=(ha.o.now hN).bw
 refine RL.ag (bO acM (ha.o.now hN)) (RL.ag (cm) (RL.ak ?_))
 refine RW.aG _ (fun ir=>?_) (fun ir=>?_)
 refine RW.aN (RL.ag (v:=.int .i64 (2)) ai (RL.ak (RW.ret (aT (aX ?_)))))
 iterate 2 refine aT ?_
 refine aX (aT (bb (RV.tmp rfl) ?_))
 exact⟨congrArg (acZ .i64) (show dC n l rk ws gl fl ol il eS eX=2 by
  unfold dC
  rw[if_neg (by omega),if_neg (by omega),if_neg (by omega),if_neg (fun h=>by
  first
  |omega
  | (have h2 := h.2 x (acy hx) (by omega)
     first
     |(have:=(acA.1 h2).1;omega)
     |(rw[hy]at h2;cases h2;omega)
     |(rw[hy]at h2;cases h2;simp_all)))]).symm,hN.bc⟩
 refine RW.skip (aw (RW.seq ?_))
 have jS:=JS.2
 rw[if_pos (by omega)]at jS
 have aO:=da l (x.2.2.2.2.toNat)
 obtain⟨y,hy⟩:=aO
 refine RW.region (RL.ag (ah acL rfl dN) (RL.ag (ah acI rfl fz) (RL.ag (aj acM (hN.aJ 1 rfl)) (RL.ag (ah acB rfl cU) (RL.ag (ah acH rfl bK) (RL.ag (aj acs (hN.aJ 0 rfl)) (RL.ag (aU acM dr bf (ha.o.now hN)) (RL.ag (b8 (m:=(x.2.2.2.2).toNat) (a:=y) acP dr bf (ha.o.now hN) hy (cs:=[.int .i64 (y.1),.int .i64 (y.2.1),.int .i64 (y.2.2)])) ?_))))))))
 refine RL.aK (bz (cs:=[.int .i64 (0),.int .i64 (0),.int .i64 (0)]) fS rfl hN ?_)
 clear hN
 intro g32 FE (hN:aI w none_ FE [_,_,_])
 refine RL.aK (aR (vs:=[.int .i64 (y.1),.int .i64 (y.2.1),.int .i64 (y.2.2)]) dr rfl rfl rfl (aW (aW (aW cZ))) hN 0 rfl rfl ?_)
 clear hN
 intro JK (hN:aI w none_ JK [_,_,_])
 refine RL.b6 (RL.ag (ah acP rfl bK) (RL.ag (aj acs (hN.aJ 0 rfl)) (RL.ag (ah acB rfl bK) (RL.ag (aj acs (hN.aJ 1 rfl)) (RL.ag (bj) (RL.ag (v:=.bool (decide (¬y.1=x.1))) U ?_))))))
 by_cases ku:¬y.1=x.1
 rw[decide_eq_true ku]
 iterate 5 refine RL.bH ?_
 refine RL.ag (v:=.bool true) (al) (RL.ag (v:=.bool true) U ?_)
 iterate 6 refine RL.bH ?_
 refine RL.ag (v:=.bool true) (al) (RL.ak (RW.bF (RW.aN (RL.ag (v:=.int .i64 (2)) ai (RL.ak (RW.ret ?_))))))
 refine aX ?_
 iterate 2 refine aT ?_
 refine aX (aT (bb (RV.tmp rfl) ?_))
 exact⟨congrArg (acZ .i64) (show dC n l rk ws gl fl ol il eS eX=2 by
  unfold dC
  rw[if_neg (by omega),if_neg (by omega),if_neg (by omega),if_neg (fun h=>by
  first
  |omega
  | (have h2 := h.2 x (acy hx) (by omega)
     first
     |(have:=(acA.1 h2).1;omega)
     |(rw[hy]at h2;cases h2;omega)
     |(rw[hy]at h2;cases h2;simp_all)))]).symm,hN.bc⟩
 rw[decide_eq_false ku]
 refine RL.an (ah acP rfl bK) (RL.an (aj acs (hN.aJ 0 rfl)) (RL.an (ah acB rfl bK) (RL.an (aj acs (hN.aJ 1 rfl)) (RL.an (bj) (RL.ag (v:=.bool (decide (¬y.2.1=x.2.1))) (aB) (RL.ag (v:=.bool (decide (¬y.2.1=x.2.1))) U ?_))))))
 by_cases jk:¬y.2.1=x.2.1
 rw[decide_eq_true jk]
 iterate 6 refine RL.bH ?_
 refine RL.ag (v:=.bool true) (al) (RL.ak (RW.bF (RW.aN (RL.ag (v:=.int .i64 (2)) ai (RL.ak (RW.ret ?_))))))
 refine aX ?_
 iterate 2 refine aT ?_
 refine aX (aT (bb (RV.tmp rfl) ?_))
 exact⟨congrArg (acZ .i64) (show dC n l rk ws gl fl ol il eS eX=2 by
  unfold dC
  rw[if_neg (by omega),if_neg (by omega),if_neg (by omega),if_neg (fun h=>by
  first
  |omega
  | (have h2 := h.2 x (acy hx) (by omega)
     first
     |(have:=(acA.1 h2).1;omega)
     |(rw[hy]at h2;cases h2;omega)
     |(rw[hy]at h2;cases h2;simp_all)))]).symm,hN.bc⟩
 rw[decide_eq_false jk]
 refine RL.an (ah acP rfl bK) (RL.an (aj acs (hN.aJ 0 rfl)) (RL.an (ah acB rfl cU) (RL.an (ah acH rfl bK) (RL.an (aj acs (hN.aJ 1 rfl)) (RL.an (bj) (RL.ag (v:=.bool (decide (¬y.2.2=x.2.2.1))) (aB) (RL.ak ?_)))))))
 refine RW.aG _ (fun fJ=>?_) (fun fJ=>?_)
 refine RW.aN (RL.ag (v:=.int .i64 (2)) ai (RL.ak (RW.ret (aX ?_))))
 iterate 2 refine aT ?_
 refine aX (aT (bb (RV.tmp rfl) ?_))
 exact⟨congrArg (acZ .i64) (show dC n l rk ws gl fl ol il eS eX=2 by
  unfold dC
  rw[if_neg (by omega),if_neg (by omega),if_neg (by omega),if_neg (fun h=>by
  first
  |omega
  | (have h2 := h.2 x (acy hx) (by omega)
     first
     |(have:=(acA.1 h2).1;omega)
     |(rw[hy]at h2;cases h2;omega)
     |(rw[hy]at h2;cases h2;simp_all)))]).symm,hN.bc⟩
 refine RW.skip (aY (aw (RW.region (RL.ag (v:=vJ i) U (RL.ag (aD rfl rfl rfl (bh (by omega) (by omega))) (RL.ag (v:=.int .i64 ((i:Int)+1)) ai (RL.ak ?_)))))))
 exact⟨k-1,by omega,i+1,rfl,rfl,(hN.sb [2]),by omega,fun m z hm hz=>(adh m i).elim (fun e=>yB m z e hz) (fun e=>have e2:m=i:=(by omega);have e3:z=x:=ac2 (hz.symm.trans (e2▸hx));e3▸fun h0=>by first|exact absurd h0 k8|exact hy.trans (congrArg some (adL (by show y.1=x.1;omega) (adL (by show y.2.1=x.2.1;omega) (by show y.2.2=x.2.2.1;omega)))))⟩
 refine RW.exit ?_
 iterate 2 refine bS ?_
 refine ba (aw (RW.aN (RL.ag (v:=.int .i64 (0)) ai (RL.ak (RW.ret (bb (RV.tmp rfl) ?_))))))
 exact⟨congrArg (acZ .i64) (show dC n l rk ws gl fl ol il eS eX=0 by
  unfold dC
  rw[if_neg (by omega),if_neg (by omega),if_neg (by omega),if_pos ⟨by omega,fun x hx=>by
  have aO:=ac9 hx
  obtain⟨m,hm⟩:=aO
  exact yB m x (by have:=(acA.1 hm).1;omega) hm⟩]).symm,hN.bc⟩
end Go.Proofs.YtngkdkbpgoddlaaGreat
namespace Go.Proofs.YtngkdkbpgoddlaaGreat
open Go.RowKit Go.Rl
open Go.Gr
theorem pt (rv:Value) (rk:List Int) (w:World) (hr:Sl vI w rv rk) (Ai:rk.length≤16777216):aM acx 196 #[rv] w fun r w'=>(∃pv pl,r=.tuple #[pv,.bool true]∧jr rk pl rk.length∧aI w none_ w' [.own vI 3 pv pl])∨(¬mH rk∧r=.tuple #[vN,.bool false]∧Ext w w'):=by
 refine aM.aZ aiv ?_
 rw[cM]
 have hN:=aI.nil w none_
 refine RW.aN (RL.ag (v:=vN) ai (RL.ag (v:=.bool false) ai (RL.b6 (RL.ag (v:=rv) U ?_))))
 have nG:=(hr.o.now hN).bw
 refine RL.ag (aQ acu (hr.o.now hN)) ?_
 refine RL.aK (ki (enc:=vI) (z:=0) acu gz rfl hN rfl (by omega) (by omega) (by omega) ?_)
 clear hN
 intro v2 w2 (hN:aI w none_ w2 [_])
 refine RL.ag (v:=v2) ai ?_
 replace hN:=hN.l0 0 rfl (show _=acY rk.length (0:Int)from by rw[aee])
 replace hN:aI w none_ w2 [_]:=hN
 refine RL.ak ?_
 iterate 2 refine RW.seq ?_
 refine RW.region (RL.ag (v:=v2) U ?_)
 have k9:=(hN.sl 0 rfl).bw
 refine RL.ag (aQ acu (hN.sl 0 rfl)) ?_
 have UK:=ac7 (n:=rk.length) (a:=(0:Int))
 refine RL.ag (v:=.int .i64 (0)) U (RL.ak (RW.block ?_))
 refine RW.loop (fun k R0 cz=>∃cs:List Int,∃j:Nat,R0 0=rv∧R0 4=v2∧R0 12=.int .i64 (((acY rk.length (0:Int)).length:Int))∧R0 13=vJ j∧aI w none_ cz [.own vI 3 (v2) (cs)]∧(j+k=rk.length)∧(cs.length=rk.length)∧(∀q,q<j→cs[q]?=some (-1))) (rk.length) ?_ ?_
 exact⟨acY rk.length (0:Int),0,rfl,rfl,rfl,rfl,hN,by omega,ac7,fun q hq=>absurd hq (by omega)⟩
 clear hN
 rintro k R0 cz ⟨cs,j,cH,cA,eP,ft,hN,E1,OW,sE⟩
 have cB:=jd cH cA eP ft
 obtain⟨gF,rfl⟩:=cB
 clear cH cA eP ft
 refine RW.aN (RL.ag (aL) (RL.ak (RW.seq ?_)))
 refine RW.aG _ (fun cD=>?_) (fun cD=>?_)
 refine RW.skip (aw (RW.seq (RW.block (RW.aN (RL.ag (v:=vJ j) U (RL.ag (v:=vJ j) ai (RL.ak ?_)))))))
 refine RW.region (RL.ag (v:=v2) U (RL.ag (v:=vJ j) U (RL.ag (aC acu bK (hN.sl 0 rfl)) ?_)))
 refine RL.aK (cu (m:=j) (a:=(-1)) bK hN 0 rfl rfl (by omega) rfl rfl rfl rfl ?_)
 clear hN
 intro w4 (hN:aI w none_ w4 [_])
 refine RL.nil (aY (aw (RW.region (RL.ag (aD rfl rfl rfl (bh (by omega) (by omega))) (RL.ag (v:=.int .i64 ((j:Int)+1)) U (RL.ak ?_))))))
 exact⟨k-1,by omega,(cs).set j ((-1)),j+1,rfl,rfl,rfl,rfl,hN,by omega,by rw[adG];exact OW,yW (by omega) sE⟩
 refine RW.exit ?_
 iterate 2 refine bS ?_
 refine ba (aw ?_)
 iterate 2 refine RW.seq ?_
 refine RW.region (RL.ag (v:=rv) U (RL.ag (aQ acu (hr.o.now hN)) (RL.ag (v:=.int .i64 (0)) U (RL.ak (RW.block ?_)))))
 refine RW.loop (fun k2 R1 eW=>∃pl:List Int,∃i:Nat,R1 4=v2∧R1 20=rv∧R1 21=.int .i64 ((rk.length:Int))∧R1 22=vJ i∧aI w none_ eW [.own vI 3 (v2) (pl)]∧(i+k2=rk.length)∧(jr rk pl i)) (rk.length) ?_ ?_
 have hce:cs=acY rk.length (-1):=yX OW fun q hq=>sE q (by omega)
 exact⟨cs,0,rfl,rfl,rfl,rfl,hN,by omega,by rw[hce];exact jr.start rk⟩
 clear hN
 rintro k2 R1 eW ⟨pl,i,cA,An,Am,kO,hN,gk,hP⟩
 have cB:=jd cA An Am kO
 obtain⟨sk,rfl⟩:=cB
 clear cA An Am kO
 refine RW.aN (RL.ag (aL) (RL.ak (RW.seq ?_)))
 refine RW.aG _ (fun eD=>?_) (fun eD=>?_)
 refine RW.skip (aw (RW.seq (RW.block (RW.aN (RL.ag (v:=vJ i) U (RL.ag (aC acu bK (hr.o.now hN)) ?_))))))
 have aO:=da (rk) i
 obtain⟨ap,bX⟩:=aO
 refine RL.ag (aF (m:=i) (a:=ap) acs (hr.o.now hN) bX) (RL.ag (v:=vJ i) ai (RL.ag (v:=.int .i64 (ap)) ai (RL.ak ?_)))
 iterate 2 refine RW.seq ?_
 have Ql:=hP.len
 refine RW.region (RL.ag (v:=.int .i64 (ap)) U (RL.ag (aL) (RL.ag (v:=.bool (decide (ap<0))) U ?_)))
 by_cases Iz:ap<0
 rw[decide_eq_true Iz]
 iterate 4 refine RL.bH ?_
 refine RL.ag (v:=.bool true) (al) (RL.ag (v:=.bool true) U ?_)
 iterate 5 refine RL.bH ?_
 refine RL.ag (v:=.bool true) (al) (RL.ak (RW.bF (RW.aN (RL.ag (v:=vN) ai (RL.ag (v:=.bool false) ai (RL.ak ?_))))))
 refine RW.ret (aT (aX ?_))
 iterate 2 refine aT ?_
 refine aX (aT (bb (RV.ju rfl) ?_))
 refine .inr ⟨?_,rfl,hN.bc⟩
 first
 |exact tC bX (by omega)
 |(obtain hz:=hP.dup bX (by omega) lS (by assumption);exact hz)
 rw[decide_eq_false Iz]
 refine RL.an (v:=.int .i64 (ap)) U (RL.an (v:=v2) U ?_)
 have qG:=(hN.sl 0 rfl).bw
 refine RL.an (aQ acu (hN.sl 0 rfl)) (RL.an (cm) (RL.ag (v:=.bool (decide ((pl.length:Int)≤ap))) (aB) (RL.ag (v:=.bool (decide ((pl.length:Int)≤ap))) U ?_)))
 by_cases Iy:(pl.length:Int)≤ap
 rw[decide_eq_true Iy]
 iterate 5 refine RL.bH ?_
 refine RL.ag (v:=.bool true) (al) (RL.ak (RW.bF (RW.aN (RL.ag (v:=vN) ai (RL.ag (v:=.bool false) ai (RL.ak ?_))))))
 refine RW.ret (aT (aX ?_))
 iterate 2 refine aT ?_
 refine aX (aT (bb (RV.ju rfl) ?_))
 refine .inr ⟨?_,rfl,hN.bc⟩
 first
 |exact tC bX (by omega)
 |(obtain hz:=hP.dup bX (by omega) lS (by assumption);exact hz)
 rw[decide_eq_false Iy]
 refine RL.an (v:=v2) U (RL.an (v:=.int .i64 (ap)) U (RL.an (aC acu bK (hN.sl 0 rfl)) ?_))
 have aO:=da (pl) ((ap).toNat)
 obtain⟨az,lS⟩:=aO
 refine RL.an (aF (m:=(ap).toNat) (a:=az) acs (hN.sl 0 rfl) lS) (RL.an (bj) (RL.ag (v:=.bool (decide (¬az= -1))) (aB) (RL.ak ?_)))
 refine RW.aG _ (fun Li=>?_) (fun Li=>?_)
 refine RW.aN (RL.ag (v:=vN) ai (RL.ag (v:=.bool false) ai (RL.ak (RW.ret (aT (aX ?_))))))
 iterate 2 refine aT ?_
 refine aX (aT (bb (RV.ju rfl) ?_))
 refine .inr ⟨?_,rfl,hN.bc⟩
 first
 |exact tC bX (by omega)
 |(obtain hz:=hP.dup bX (by omega) lS (by assumption);exact hz)
 refine RW.skip (aw (RW.region (RL.ag (v:=v2) U (RL.ag (v:=.int .i64 (ap)) U (RL.ag (v:=vJ i) U (RL.ag (aC acu bK (hN.sl 0 rfl)) ?_))))))
 refine RL.aK (cu (m:=(ap).toNat) (a:=(i:Int)) bK hN 0 rfl rfl (by omega) rfl rfl rfl rfl ?_)
 clear hN
 intro w6 (hN:aI w none_ w6 [_])
 refine RL.nil (aY (aw (RW.region (RL.ag (aD rfl rfl rfl (bh (by omega) (by omega))) (RL.ag (v:=.int .i64 ((i:Int)+1)) U (RL.ak ?_))))))
 exact⟨k2-1,by omega,(pl).set (ap).toNat ((i:Int)),i+1,rfl,rfl,rfl,rfl,hN,by omega,hP.step bX (by omega) (by omega) (by rw[lS];exact congrArg some (acU.1 Li))⟩
 refine RW.exit ?_
 iterate 2 refine bS ?_
 refine ba (aw (RW.aN (RL.ag (v:=v2) U (RL.ag (v:=v2) ai (RL.ag (v:=.bool true) ai (RL.ak (RW.ret ?_)))))))
 refine bb (RV.ju rfl) ?_
 have iy:i=rk.length:=by omega
 subst iy
 exact .inl ⟨_,_,rfl,hP,hN.sb [0]⟩
end Go.Proofs.YtngkdkbpgoddlaaGreat
namespace Go.Proofs.YtngkdkbpgoddlaaGreat
open Go.RowKit Go.Rl
open Go.Gr
theorem ru (rv wv:Value) (rk:List Int) (ws:List I5) (w:World) (hr:Sl vI w rv rk) (hw:Sm aV w wv ws):aM acx 197 #[.agg #[rv,wv]] w fun r w'=>(∃m,r=.tuple #[.map (some m),.bool true]∧kc rk ws∧aI w none_ w' [.mp rJ m (jn ws 0) ws.length])∨(¬kc rk ws∧r=.tuple #[.map none,.bool false]∧Ext w w'):=by
 refine aM.aZ agr ?_
 rw[cM]
 have hN:=aI.nil w none_
 refine RW.aN ?_
 refine RL.aK (bL (cs:=[rv,wv]) rfl rfl hN ?_)
 clear hN
 intro g1 w1 (hN:aI w none_ w1 [_])
 refine RL.ag ai (RL.ag (v:=.bool false) ai (RL.b6 (RL.ag (ah acz rfl cj) (RL.ag (aj acu (hN.aJ 0 rfl)) ?_))))
 have jm:=(hr.o.now hN).bw
 refine RL.ag (aQ acu (hr.o.now hN)) (RL.ag (v:=.int .i64 ((rk.length:Int))) ai (RL.ak (RW.aN ?_)))
 refine RL.aK (zS (t:=263) (kt:=282) (et:=3) (rJ) hN ?_)
 clear hN
 intro m3 w3 (hN:aI w none_ w3 [_,_])
 refine RL.ag (v:=.map (some m3)) ai (RL.ak ?_)
 iterate 2 refine RW.seq ?_
 refine RW.region (RL.ag (ah acz rfl eM) (RL.ag (aj acG (hN.aJ 1 rfl)) ?_))
 have uJ:=(hw.o.now hN).bw
 refine RL.ag (bO acG (hw.o.now hN)) (RL.ag (v:=.int .i64 (0)) U (RL.ak (RW.block ?_)))
 refine RW.loop (fun k R0 cz=>∃i:Nat,R0 4=.int .i64 ((rk.length:Int))∧R0 5=.map (some m3)∧R0 15=wv∧R0 16=.int .i64 ((ws.length:Int))∧R0 17=vJ i∧aI w none_ cz [.mp rJ m3 ((jn (ws.take i) 0)) (i),.aJ g1 [rv,wv] 28]∧(i+k=ws.length)∧(∀(m:Nat) (y:I5),m<i→ws[m]?=some y→y0 rk ws m y)) (ws.length) ?_ ?_
 exact⟨0,rfl,rfl,rfl,rfl,rfl,hN,by omega,fun m y hm=>absurd hm (by omega)⟩
 clear hN
 rintro k R0 cz ⟨i,cA,cx,nD,Ap,fq,hN,gk,Yn⟩
 have cB:=iw cA cx nD Ap fq
 obtain⟨gF,rfl⟩:=cB
 clear cA cx nD Ap fq
 refine RW.aN (RL.ag (aL) (RL.ak (RW.seq ?_)))
 refine RW.aG _ (fun cD=>?_) (fun cD=>?_)
 refine RW.skip (aw (RW.seq (RW.block (RW.seq ?_))))
 have aO:=da ws i
 obtain⟨x,hx⟩:=aO
 refine RW.region (RL.ag (v:=vJ i) U (RL.ag (aU acG er aH (hw.o.now hN)) (RL.ag (b8 (m:=i) (a:=x) acB er aH (hw.o.now hN) hx (cs:=[.int .i64 (x.1),.int .i64 (x.2.1),.int .i64 (x.2.2.1),.int .i64 (x.2.2.2.1),.int .i64 (x.2.2.2.2)])) ?_)))
 refine RL.aK (bz (cs:=[.int .i64 (0),.int .i64 (0),.int .i64 (0),.int .i64 (0),.int .i64 (0)]) gu rfl hN ?_)
 clear hN
 intro g5 w5 (hN:aI w none_ w5 [_,_,_])
 refine RL.ag (v:=vJ i) ai ?_
 refine RL.aK (aR (vs:=[.int .i64 (x.1),.int .i64 (x.2.1),.int .i64 (x.2.2.1),.int .i64 (x.2.2.2.1),.int .i64 (x.2.2.2.2)]) er rfl rfl rfl (aW (aW (aW (aW (aW cZ))))) hN 0 rfl rfl ?_)
 clear hN
 intro w6 (hN:aI w none_ w6 [_,_,_])
 refine RL.ak ?_
 iterate 2 refine RW.seq ?_
 rcases fw (gM x.1 x.2.1) (ws.take i)with⟨o0,fJ⟩|⟨j,y,o0,hy,hp,fJ⟩
 refine RW.region (RL.ag (v:=.map (some m3)) U (RL.ag (ah acB rfl bK) (RL.ag (aj acs (hN.aJ 0 rfl)) (RL.ag (ah acB rfl bK) (RL.ag (aj acs (hN.aJ 0 rfl)) (RL.ag (bT (cs:=[.int .i64 (x.1),.int .i64 (x.2.1)]) adD j2 (places:=#[(0,1),(1,1)]) (by intro w;kernel_rfl) (pl:=[(0,.tmp 25),(1,.tmp 27)]) rfl (ps:=[(0,.int .i64 (x.1)),(1,.int .i64 (x.2.1))]) rfl (zc:=[.int .i64 (0),.int .i64 (0)]) rfl (aP (vs:=[.int .i64 (x.1)]) rfl rfl (acv rfl) (aP (vs:=[.int .i64 (x.2.1)]) rfl rfl (acv rfl) rfl))) (RL.ag (pR aej (ml (t1:=0) (t2:=0) adD (by kernel_rfl) ⟨by decide,rfl⟩ ⟨by decide,rfl⟩ acs acs) CY (hN.mp 1 rfl) rfl rfl (kn fJ)) (RL.ag (v:=.tuple #[.int .i64 (0),.bool false]) U ?_))))))))
 iterate 2 refine RL.ag (bA) ?_
 refine RL.ag (v:=.int .i64 (0)) ai (RL.ag (v:=.bool false) ai (RL.ak (RW.block ?_)))
 iterate 2 refine RW.seq ?_
 refine RW.region (RL.ag (v:=.bool false) U (RL.ag (v:=.bool false) ai (RL.ak (RW.cg (RW.aN (RL.ag (ah acB rfl bK) (RL.ag (aj acs (hN.aJ 0 rfl)) ?_)))))))
 refine RL.ag (ah acB rfl bK) (RL.ag (aj acs (hN.aJ 0 rfl)) (RL.ag (bZ) (RL.ag (v:=.bool (decide (x.1=x.2.1))) ai (RL.ak ?_))))
 refine RW.aG _ (fun oO=>?_) (fun oO=>?_)
 refine RW.skip (aw (RW.mD _ rfl oO (RW.aN (RL.ag ai (RL.ag (v:=.bool false) ai (RL.ak (RW.ret ?_)))))))
 refine aX (aT (aX ?_))
 iterate 2 refine aT ?_
 refine aX (aT (bb (RV.ju rfl) ?_))
 refine .inr ⟨?_,rfl,hN.bc⟩
 first
 |exact lN hx hy hp
 |exact fun h=>by
    have aO:=h i x hx
    obtain⟨e1,e2,e3,e4,e5,e6⟩:=aO
    omega
 refine RW.aN (RL.ag (ah acB rfl bK) (RL.ag (aj acs (hN.aJ 0 rfl)) (RL.ag (ah acB rfl bK) (RL.ag (aj acs (hN.aJ 0 rfl)) (RL.ag (ah acB rfl cU) (RL.ag (ah acH rfl bK) (RL.ag (aj acs (hN.aJ 0 rfl)) (RL.ag (DG rfl rfl rfl) ?_))))))))
 refine RL.ag (aL) (RL.ag (v:=.bool (decide ((min (min (x.1) (x.2.1)) (x.2.2.1))<0))) ai (RL.ak ?_))
 refine RW.aG _ (fun oO=>?_) (fun oO=>?_)
 refine RW.skip (aw (RW.mD _ rfl oO (RW.aN (RL.ag ai (RL.ag (v:=.bool false) ai (RL.ak (RW.ret ?_)))))))
 refine aX (aT (aX ?_))
 iterate 2 refine aT ?_
 refine aX (aT (bb (RV.ju rfl) ?_))
 refine .inr ⟨?_,rfl,hN.bc⟩
 first
 |exact lN hx hy hp
 |exact fun h=>by
    have aO:=h i x hx
    obtain⟨e1,e2,e3,e4,e5,e6⟩:=aO
    omega
 refine RW.aN (RL.ag (ah acB rfl bK) (RL.ag (aj acs (hN.aJ 0 rfl)) (RL.ag (ah acB rfl bK) (RL.ag (aj acs (hN.aJ 0 rfl)) (RL.ag (uO rfl rfl) (RL.ag (v:=.int .i64 ((rk.length:Int))) U (RL.ag (cm) (RL.ag (v:=.bool (decide ((rk.length:Int)≤(max (x.1) (x.2.1))))) ai ?_))))))))
 refine RL.ak ?_
 refine RW.aG _ (fun oO=>?_) (fun oO=>?_)
 refine RW.skip (aw (RW.mD _ rfl oO (RW.aN (RL.ag ai (RL.ag (v:=.bool false) ai (RL.ak (RW.ret ?_)))))))
 refine aX (aT (aX ?_))
 iterate 2 refine aT ?_
 refine aX (aT (bb (RV.ju rfl) ?_))
 refine .inr ⟨?_,rfl,hN.bc⟩
 first
 |exact lN hx hy hp
 |exact fun h=>by
    have aO:=h i x hx
    obtain⟨e1,e2,e3,e4,e5,e6⟩:=aO
    omega
 refine RW.region (RL.ag (ah acB rfl cU) (RL.ag (ah acH rfl bK) (RL.ag (aj acs (hN.aJ 0 rfl)) (RL.ag (cr) (RL.ag (v:=.bool (decide (1152921504606846976<x.2.2.1))) ai (RL.ak ?_))))))
 refine RW.aG _ (fun oO=>?_) (fun oO=>?_)
 refine RW.aN (RL.ag ai (RL.ag (v:=.bool false) ai (RL.ak (RW.ret (aX (aT (aX ?_)))))))
 iterate 2 refine aT ?_
 refine aX (aT (bb (RV.ju rfl) ?_))
 refine .inr ⟨?_,rfl,hN.bc⟩
 first
 |exact lN hx hy hp
 |exact fun h=>by
    have aO:=h i x hx
    obtain⟨e1,e2,e3,e4,e5,e6⟩:=aO
    omega
 refine RW.skip (aY (aw (RW.region (RL.ag (v:=.map (some m3)) U (RL.ag (ah acB rfl bK) (RL.ag (aj acs (hN.aJ 0 rfl)) (RL.ag (ah acB rfl bK) (RL.ag (aj acs (hN.aJ 0 rfl)) (RL.ag (bT (cs:=[.int .i64 (x.1),.int .i64 (x.2.1)]) adD j2 (places:=#[(0,1),(1,1)]) (by intro w;kernel_rfl) (pl:=[(0,.tmp 61),(1,.tmp 63)]) rfl (ps:=[(0,.int .i64 (x.1)),(1,.int .i64 (x.2.1))]) rfl (zc:=[.int .i64 (0),.int .i64 (0)]) rfl (aP (vs:=[.int .i64 (x.1)]) rfl rfl (acv rfl) (aP (vs:=[.int .i64 (x.2.1)]) rfl rfl (acv rfl) rfl))) ?_)))))))))
 refine RL.ag (v:=vJ i) U ?_
 refine RL.aK (BZ (a:=(x.1,x.2.1)) (v:=vJ i) aej (ml (t1:=0) (t2:=0) adD (by kernel_rfl) ⟨by decide,rfl⟩ ⟨by decide,rfl⟩ acs acs) hN 1 rfl rfl rfl rfl (kn fJ) ?_)
 clear hN
 intro w7 (hN:aI w none_ w7 [_,_,_])
 rw[←Ji hx]at hN
 replace hN:aI w none_ w7 [.aJ g5 [.int .i64 (x.1),.int .i64 (x.2.1),.int .i64 (x.2.2.1),.int .i64 (x.2.2.2.1),.int .i64 (x.2.2.2.2)] 98,.mp rJ m3 ((jn (ws.take (i+1)) 0)) (i+1),.aJ g1 [rv,wv] 28]:=hN
 refine RL.nil (aY (aw (RW.region (RL.ag (aD rfl rfl rfl (bh (by omega) (by omega))) (RL.ag (v:=.int .i64 ((i:Int)+1)) U (RL.ak ?_))))))
 exact⟨k-1,by omega,i+1,rfl,rfl,rfl,rfl,rfl,(hN.sb [1,2]),by omega,fun m z hm hz=>(adh m i).elim (fun e=>Yn m z e hz) (fun e=>have e2:m=i:=(by omega);have e3:z=x:=ac2 (hz.symm.trans (e2▸hx));e2▸e3▸⟨by omega,by omega,by omega,by omega,by omega,nH fJ hx ⟨rfl,rfl⟩⟩)⟩
 refine RW.region (RL.ag (v:=.map (some m3)) U (RL.ag (ah acB rfl bK) (RL.ag (aj acs (hN.aJ 0 rfl)) (RL.ag (ah acB rfl bK) (RL.ag (aj acs (hN.aJ 0 rfl)) (RL.ag (bT (cs:=[.int .i64 (x.1),.int .i64 (x.2.1)]) adD j2 (places:=#[(0,1),(1,1)]) (by intro w;kernel_rfl) (pl:=[(0,.tmp 25),(1,.tmp 27)]) rfl (ps:=[(0,.int .i64 (x.1)),(1,.int .i64 (x.2.1))]) rfl (zc:=[.int .i64 (0),.int .i64 (0)]) rfl (aP (vs:=[.int .i64 (x.1)]) rfl rfl (acv rfl) (aP (vs:=[.int .i64 (x.2.1)]) rfl rfl (acv rfl) rfl))) (RL.ag (pQ (v:=vJ j) aej (ml (t1:=0) (t2:=0) adD (by kernel_rfl) ⟨by decide,rfl⟩ ⟨by decide,rfl⟩ acs acs) (hN.mp 1 rfl) rfl rfl ((mj hy hp fJ).trans (by rw[aeQ]))) (RL.ag (v:=.tuple #[vJ j,.bool true]) U ?_))))))))
 iterate 2 refine RL.ag (bA) ?_
 refine RL.ag (v:=vJ j) ai (RL.ag (v:=.bool true) ai (RL.ak (RW.block ?_)))
 iterate 2 refine RW.seq ?_
 refine RW.region (RL.ag (v:=.bool true) U (RL.ag (v:=.bool true) ai (RL.ak (RW.bF (RW.skip (aw (RW.bF (RW.seq ?_))))))))
 refine RW.region (RL.ag ai (RL.ag (v:=.bool false) ai (RL.ak (RW.ret (aX (aT (aX ?_)))))))
 iterate 2 refine aT ?_
 refine aX (aT (bb (RV.ju rfl) ?_))
 refine .inr ⟨?_,rfl,hN.bc⟩
 first
 |exact lN hx hy hp
 |exact fun h=>by
    have aO:=h i x hx
    obtain⟨e1,e2,e3,e4,e5,e6⟩:=aO
    omega
 refine RW.exit ?_
 iterate 2 refine bS ?_
 refine ba (aw (RW.seq ?_))
 have hF:kc rk ws:=fun m y hy=>Yn m y (by have:=(acA.1 hy).1;omega) hy
 refine RW.region (RL.ag (v:=.map (some m3)) U (RL.ag (v:=.map (some m3)) ai (RL.ag (v:=.bool true) ai (RL.ak (RW.ret (bb (RV.ju rfl) ?_))))))
 have iy:i=ws.length:=by omega
 subst iy
 rw[adn]at hN
 exact .inl ⟨_,rfl,hF,hN.sb [0]⟩
theorem Es (rv:Value) (rk:List Int) (w:World) (hr:Sl vI w rv rk) (Ai:rk.length≤16777216) (h:mH rk):aM acx 196 #[rv] w fun r w'=>∃pv pl,r=.tuple #[pv,.bool true]∧jr rk pl rk.length∧aI w none_ w' [.own vI 3 pv pl]:=(pt rv rk w hr Ai).mono fun r w' hq=>hq.elim id fun e=>absurd h e.1
theorem BV (rv:Value) (rk:List Int) (w:World) (hr:Sl vI w rv rk) (Ai:rk.length≤16777216) (h:¬mH rk):aM acx 196 #[rv] w fun r w'=>r=.tuple #[vN,.bool false]∧Ext w w':=(pt rv rk w hr Ai).mono fun r w' hq=>hq.elim (fun⟨_,_,_,hP,_⟩=>absurd hP.all h) fun e=>e.2
theorem AO (rv wv:Value) (rk:List Int) (ws:List I5) (w:World) (hr:Sl vI w rv rk) (hw:Sm aV w wv ws) (h:kc rk ws):aM acx 197 #[.agg #[rv,wv]] w fun r w'=>∃m,r=.tuple #[.map (some m),.bool true]∧aI w none_ w' [.mp rJ m (jn ws 0) ws.length]:=(ru rv wv rk ws w hr hw).mono fun r w' hq=>hq.elim (fun⟨m,e1,_,e3⟩=>⟨m,e1,e3⟩) fun e=>absurd h e.1
theorem xq (rv wv:Value) (rk:List Int) (ws:List I5) (w:World) (hr:Sl vI w rv rk) (hw:Sm aV w wv ws) (h:¬kc rk ws):aM acx 197 #[.agg #[rv,wv]] w fun r w'=>r=.tuple #[.map none,.bool false]∧Ext w w':=(ru rv wv rk ws w hr hw).mono fun r w' hq=>hq.elim (fun⟨_,_,h2,_⟩=>absurd h2 h) fun e=>e.2
end Go.Proofs.YtngkdkbpgoddlaaGreat
namespace Go.Proofs.YtngkdkbpgoddlaaGreat
open Go.RowKit Go.Rl
open Go.Gr
theorem yy (rv wv:Value) (rk:List Int) (ws:List I5) (w:World) (hr:Sl vI w rv rk) (hw:Sm aV w wv ws) (x:I5) (m c:Nat) (hb:w.heap[m]?=some (.map (kA rJ (jn ws 0)) c)):aM acx 211 #[.agg #[rv,wv],.map (some m),.agg #[.int .i64 x.1,.int .i64 x.2.1,.int .i64 x.2.2.1,.int .i64 x.2.2.2.1,.int .i64 x.2.2.2.2]] w fun r w'=>r=gK (kV (gM x.1 x.2.2.2.1) ws) (kV (gM x.2.2.2.1 x.2.1) ws)∧Ext w w':=by
 refine aM.aZ ags ?_
 rw[iX]
 have hN:=aI.nil w none_
 refine RW.aN ?_
 refine RL.aK (bL (cs:=[rv,wv]) rfl rfl hN ?_)
 clear hN
 intro g1 w1 (hN:aI w none_ w1 [_])
 refine RL.aK (bL (cs:=[.int .i64 (x.1),.int .i64 (x.2.1),.int .i64 (x.2.2.1),.int .i64 (x.2.2.2.1),.int .i64 (x.2.2.2.2)]) rfl rfl hN ?_)
 clear hN
 intro g2 w2 (hN:aI w none_ w2 [_,_])
 iterate 2 refine RL.ag (v:=.int .i64 (0)) ai ?_
 refine RL.ag (v:=.bool false) ai (RL.ak (RW.seq ?_))
 rcases fw (gM x.1 x.2.2.2.1) ws with⟨ea,RX⟩|⟨a,y,ea,Ck,RM,SV⟩
 refine RW.region (RL.ag (v:=.map (some m)) U (RL.ag (ah acB rfl bK) (RL.ag (aj acs (hN.aJ 0 rfl)) (RL.ag (ah acB rfl cU) (RL.ag (ah acH rfl bK) (RL.ag (aj acs (hN.aJ 0 rfl)) (RL.ag (bT (cs:=[.int .i64 (x.1),.int .i64 (x.2.2.2.1)]) adD j2 (places:=#[(0,1),(1,1)]) (by intro w;kernel_rfl) (pl:=[(0,.tmp 16),(1,.tmp 19)]) rfl (ps:=[(0,.int .i64 (x.1)),(1,.int .i64 (x.2.2.2.1))]) rfl (zc:=[.int .i64 (0),.int .i64 (0)]) rfl (aP (vs:=[.int .i64 (x.1)]) rfl rfl (acv rfl) (aP (vs:=[.int .i64 (x.2.2.2.1)]) rfl rfl (acv rfl) rfl))) (RL.ag (pR aej (ml (t1:=0) (t2:=0) adD (by kernel_rfl) ⟨by decide,rfl⟩ ⟨by decide,rfl⟩ acs acs) CY (k6 hb hN.bc) rfl rfl (kn RX)) (RL.ag (v:=.tuple #[.int .i64 (0),.bool false]) U ?_)))))))))
 iterate 2 refine RL.ag (bA) ?_
 refine RL.ag (v:=.int .i64 (0)) ai (RL.ag (v:=.bool false) ai (RL.ak (RW.seq ?_)))
 rcases fw (gM x.2.2.2.1 x.2.1) ws with⟨eb,HQ⟩|⟨b,z,eb,y6,HM,IP⟩
 refine RW.region (RL.ag (v:=.map (some m)) U (RL.ag (ah acB rfl cU) (RL.ag (ah acH rfl bK) (RL.ag (aj acs (hN.aJ 0 rfl)) (RL.ag (ah acB rfl bK) (RL.ag (aj acs (hN.aJ 0 rfl)) (RL.ag (bT (cs:=[.int .i64 (x.2.2.2.1),.int .i64 (x.2.1)]) adD j2 (places:=#[(0,1),(1,1)]) (by intro w;kernel_rfl) (pl:=[(0,.tmp 28),(1,.tmp 30)]) rfl (ps:=[(0,.int .i64 (x.2.2.2.1)),(1,.int .i64 (x.2.1))]) rfl (zc:=[.int .i64 (0),.int .i64 (0)]) rfl (aP (vs:=[.int .i64 (x.2.2.2.1)]) rfl rfl (acv rfl) (aP (vs:=[.int .i64 (x.2.1)]) rfl rfl (acv rfl) rfl))) (RL.ag (pR aej (ml (t1:=0) (t2:=0) adD (by kernel_rfl) ⟨by decide,rfl⟩ ⟨by decide,rfl⟩ acs acs) CY (k6 hb hN.bc) rfl rfl (kn HQ)) (RL.ag (v:=.tuple #[.int .i64 (0),.bool false]) U ?_)))))))))
 iterate 2 refine RL.ag (bA) ?_
 refine RL.ag (v:=.int .i64 (0)) ai (RL.ag (v:=.bool false) ai (RL.ak (RW.aN ?_)))
 iterate 2 refine RL.ag (v:=.int .i64 (0)) U ?_
 iterate 2 refine RL.ag (v:=.bool false) U ?_
 refine RL.bH (RL.ag (v:=.bool false) (aB) ?_)
 iterate 2 refine RL.ag (v:=.int .i64 (0)) ai ?_
 refine RL.ag (v:=.bool false) ai (RL.ak (RW.ret (bb (RV.Kh rfl) ?_)))
 exact⟨(show gK (kV (gM x.1 x.2.2.2.1) ws) (kV (gM x.2.2.2.1 x.2.1) ws)=_ by rw[ea,eb];exact uH).symm,hN.bc⟩
 refine RW.region (RL.ag (v:=.map (some m)) U (RL.ag (ah acB rfl cU) (RL.ag (ah acH rfl bK) (RL.ag (aj acs (hN.aJ 0 rfl)) (RL.ag (ah acB rfl bK) (RL.ag (aj acs (hN.aJ 0 rfl)) (RL.ag (bT (cs:=[.int .i64 (x.2.2.2.1),.int .i64 (x.2.1)]) adD j2 (places:=#[(0,1),(1,1)]) (by intro w;kernel_rfl) (pl:=[(0,.tmp 28),(1,.tmp 30)]) rfl (ps:=[(0,.int .i64 (x.2.2.2.1)),(1,.int .i64 (x.2.1))]) rfl (zc:=[.int .i64 (0),.int .i64 (0)]) rfl (aP (vs:=[.int .i64 (x.2.2.2.1)]) rfl rfl (acv rfl) (aP (vs:=[.int .i64 (x.2.1)]) rfl rfl (acv rfl) rfl))) (RL.ag (pQ (v:=vJ b) aej (ml (t1:=0) (t2:=0) adD (by kernel_rfl) ⟨by decide,rfl⟩ ⟨by decide,rfl⟩ acs acs) (k6 hb hN.bc) rfl rfl ((mj y6 HM IP).trans (by rw[aeQ]))) (RL.ag (v:=.tuple #[vJ b,.bool true]) U ?_)))))))))
 iterate 2 refine RL.ag (bA) ?_
 refine RL.ag (v:=vJ b) ai (RL.ag (v:=.bool true) ai (RL.b6 (RL.ag (v:=.int .i64 (0)) U (RL.ag (v:=vJ b) U ?_))))
 iterate 2 refine RL.ag (v:=.bool false) U ?_
 refine RL.bH (RL.ag (v:=.bool false) (aB) (RL.ag (v:=.int .i64 (0)) ai (RL.ag (v:=vJ b) ai (RL.ag (v:=.bool false) ai (RL.ak (RW.ret (bb (RV.Kh rfl) ?_)))))))
 exact⟨(show gK (kV (gM x.1 x.2.2.2.1) ws) (kV (gM x.2.2.2.1 x.2.1) ws)=_ by rw[ea,eb];exact uG b).symm,hN.bc⟩
 refine RW.region (RL.ag (v:=.map (some m)) U (RL.ag (ah acB rfl bK) (RL.ag (aj acs (hN.aJ 0 rfl)) (RL.ag (ah acB rfl cU) (RL.ag (ah acH rfl bK) (RL.ag (aj acs (hN.aJ 0 rfl)) (RL.ag (bT (cs:=[.int .i64 (x.1),.int .i64 (x.2.2.2.1)]) adD j2 (places:=#[(0,1),(1,1)]) (by intro w;kernel_rfl) (pl:=[(0,.tmp 16),(1,.tmp 19)]) rfl (ps:=[(0,.int .i64 (x.1)),(1,.int .i64 (x.2.2.2.1))]) rfl (zc:=[.int .i64 (0),.int .i64 (0)]) rfl (aP (vs:=[.int .i64 (x.1)]) rfl rfl (acv rfl) (aP (vs:=[.int .i64 (x.2.2.2.1)]) rfl rfl (acv rfl) rfl))) (RL.ag (pQ (v:=vJ a) aej (ml (t1:=0) (t2:=0) adD (by kernel_rfl) ⟨by decide,rfl⟩ ⟨by decide,rfl⟩ acs acs) (k6 hb hN.bc) rfl rfl ((mj Ck RM SV).trans (by rw[aeQ]))) (RL.ag (v:=.tuple #[vJ a,.bool true]) U ?_)))))))))
 iterate 2 refine RL.ag (bA) ?_
 refine RL.ag (v:=vJ a) ai (RL.ag (v:=.bool true) ai (RL.ak (RW.seq ?_)))
 rcases fw (gM x.2.2.2.1 x.2.1) ws with⟨eb,HQ⟩|⟨b,z,eb,y6,HM,IP⟩
 refine RW.region (RL.ag (v:=.map (some m)) U (RL.ag (ah acB rfl cU) (RL.ag (ah acH rfl bK) (RL.ag (aj acs (hN.aJ 0 rfl)) (RL.ag (ah acB rfl bK) (RL.ag (aj acs (hN.aJ 0 rfl)) (RL.ag (bT (cs:=[.int .i64 (x.2.2.2.1),.int .i64 (x.2.1)]) adD j2 (places:=#[(0,1),(1,1)]) (by intro w;kernel_rfl) (pl:=[(0,.tmp 28),(1,.tmp 30)]) rfl (ps:=[(0,.int .i64 (x.2.2.2.1)),(1,.int .i64 (x.2.1))]) rfl (zc:=[.int .i64 (0),.int .i64 (0)]) rfl (aP (vs:=[.int .i64 (x.2.2.2.1)]) rfl rfl (acv rfl) (aP (vs:=[.int .i64 (x.2.1)]) rfl rfl (acv rfl) rfl))) (RL.ag (pR aej (ml (t1:=0) (t2:=0) adD (by kernel_rfl) ⟨by decide,rfl⟩ ⟨by decide,rfl⟩ acs acs) CY (k6 hb hN.bc) rfl rfl (kn HQ)) (RL.ag (v:=.tuple #[.int .i64 (0),.bool false]) U ?_)))))))))
 iterate 2 refine RL.ag (bA) ?_
 refine RL.ag (v:=.int .i64 (0)) ai (RL.ag (v:=.bool false) ai (RL.b6 (RL.ag (v:=vJ a) U (RL.ag (v:=.int .i64 (0)) U ?_))))
 iterate 2 refine RL.ag (v:=.bool true) U ?_
 refine RL.an (v:=.bool false) U (RL.ag (v:=.bool false) (al) (RL.ag (v:=vJ a) ai (RL.ag (v:=.int .i64 (0)) ai (RL.ag (v:=.bool false) ai (RL.ak (RW.ret (bb (RV.Kh rfl) ?_)))))))
 exact⟨(show gK (kV (gM x.1 x.2.2.2.1) ws) (kV (gM x.2.2.2.1 x.2.1) ws)=_ by rw[ea,eb];exact uF a).symm,hN.bc⟩
 refine RW.region (RL.ag (v:=.map (some m)) U (RL.ag (ah acB rfl cU) (RL.ag (ah acH rfl bK) (RL.ag (aj acs (hN.aJ 0 rfl)) (RL.ag (ah acB rfl bK) (RL.ag (aj acs (hN.aJ 0 rfl)) (RL.ag (bT (cs:=[.int .i64 (x.2.2.2.1),.int .i64 (x.2.1)]) adD j2 (places:=#[(0,1),(1,1)]) (by intro w;kernel_rfl) (pl:=[(0,.tmp 28),(1,.tmp 30)]) rfl (ps:=[(0,.int .i64 (x.2.2.2.1)),(1,.int .i64 (x.2.1))]) rfl (zc:=[.int .i64 (0),.int .i64 (0)]) rfl (aP (vs:=[.int .i64 (x.2.2.2.1)]) rfl rfl (acv rfl) (aP (vs:=[.int .i64 (x.2.1)]) rfl rfl (acv rfl) rfl))) (RL.ag (pQ (v:=vJ b) aej (ml (t1:=0) (t2:=0) adD (by kernel_rfl) ⟨by decide,rfl⟩ ⟨by decide,rfl⟩ acs acs) (k6 hb hN.bc) rfl rfl ((mj y6 HM IP).trans (by rw[aeQ]))) (RL.ag (v:=.tuple #[vJ b,.bool true]) U ?_)))))))))
 iterate 2 refine RL.ag (bA) ?_
 refine RL.ag (v:=vJ b) ai (RL.ag (v:=.bool true) ai (RL.b6 (RL.ag (v:=vJ a) U (RL.ag (v:=vJ b) U ?_))))
 iterate 2 refine RL.ag (v:=.bool true) U ?_
 refine RL.an (v:=.bool true) U (RL.ag (v:=.bool true) (al) (RL.ag (v:=vJ a) ai (RL.ag (v:=vJ b) ai (RL.ag (v:=.bool true) ai (RL.ak (RW.ret (bb (RV.Kh rfl) ?_)))))))
 exact⟨(show gK (kV (gM x.1 x.2.2.2.1) ws) (kV (gM x.2.2.2.1 x.2.1) ws)=_ by rw[ea,eb];exact uE a b).symm,hN.bc⟩
theorem n0 (rv wv:Value) (rk:List Int) (ws:List I5) (w:World) (hr:Sl vI w rv rk) (hw:Sm aV w wv ws) (x:I5) (m c:Nat) (hb:w.heap[m]?=some (.map (kA rJ (jn ws 0)) c)) (za zb:Int) (v:Value) (ea:kV (gM x.1 x.2.2.2.1) ws=za) (eb:kV (gM x.2.2.2.1 x.2.1) ws=zb) (hv:gK za zb=v):aM acx 211 #[.agg #[rv,wv],.map (some m),.agg #[.int .i64 x.1,.int .i64 x.2.1,.int .i64 x.2.2.1,.int .i64 x.2.2.2.1,.int .i64 x.2.2.2.2]] w fun r w'=>r=v∧Ext w w':=(yy rv wv rk ws w hr hw x m c hb).mono fun r w' hq=>⟨by rw[hq.1,ea,eb];exact hv,hq.2⟩
theorem zG (rv wv:Value) (rk:List Int) (ws:List I5) (w:World) (hr:Sl vI w rv rk) (hw:Sm aV w wv ws) (x:I5) (m c:Nat) (hb:w.heap[m]?=some (.map (kA rJ (jn ws 0)) c)) (h1:0≤x.1∧x.1<rk.length) (h2:0≤x.2.1∧x.2.1<rk.length):aM acx 198 #[.agg #[rv,wv],.map (some m),.agg #[.int .i64 x.1,.int .i64 x.2.1,.int .i64 x.2.2.1,.int .i64 x.2.2.2.1,.int .i64 x.2.2.2.2]] w fun r w'=>r=.bool (decide (gB rk ws x))∧Ext w w':=by
 refine aM.aZ aj9 ?_
 rw[iX]
 have hN:=aI.nil w none_
 refine RW.aN ?_
 refine RL.aK (bL (cs:=[rv,wv]) rfl rfl hN ?_)
 clear hN
 intro g1 w1 (hN:aI w none_ w1 [_])
 refine RL.aK (bL (cs:=[.int .i64 (x.1),.int .i64 (x.2.1),.int .i64 (x.2.2.1),.int .i64 (x.2.2.2.1),.int .i64 (x.2.2.2.2)]) rfl rfl hN ?_)
 clear hN
 intro g2 w2 (hN:aI w none_ w2 [_,_])
 refine RL.ag (v:=.bool false) ai (RL.ak ?_)
 iterate 2 refine RW.seq ?_
 refine RW.region (RL.ag (ah acB rfl cU) (RL.ag (ah acH rfl bK) (RL.ag (aj acs (hN.aJ 0 rfl)) (RL.ag (bZ) (RL.ak ?_)))))
 refine RW.aG _ (fun j8=>?_) (fun j8=>?_)
 refine RW.aN (RL.ag (ah acB rfl cU) (RL.ag (ah acH rfl bK) (RL.ag (aj acs (hN.aJ 0 rfl)) (RL.ag (cm) (RL.ag (v:=.bool (decide (0≤x.2.2.2.2))) U ?_)))))
 by_cases Ay:0≤x.2.2.2.2
 rw[decide_eq_true Ay]
 refine RL.an (ah acB rfl cU) (RL.an (ah acH rfl bK) (RL.an (aj acs (hN.aJ 0 rfl)) (RL.an (aL) (RL.ag (v:=.bool (decide (x.2.2.2.2<67108864))) (al) (RL.ag (v:=.bool (decide (x.2.2.2.2<67108864))) ai (RL.ak (RW.ret (aT ?_))))))))
 refine bb (RV.tmp rfl) ?_
 exact⟨congrArg acO (decide_eq_decide.2 ⟨fun h=>by unfold gB;rw[if_pos j8];exact⟨by omega,h⟩,fun h=>by unfold gB at h;rw[if_pos j8]at h;exact h.2⟩),hN.bc⟩
 rw[decide_eq_false Ay]
 iterate 4 refine RL.bH ?_
 refine RL.ag (v:=.bool false) (aB) (RL.ag (v:=.bool false) ai (RL.ak (RW.ret (aT (bb (RV.tmp rfl) ?_)))))
 exact⟨congrArg acO (decide_eq_false (fun h=>by
  unfold gB at h
  first
  |(rw[if_pos j8]at h;omega)
  | (rw [if_neg j8] at h
     obtain⟨m1,⟨m2,m3⟩,m4,m5,a_,b_,y_,z_,m6,m7,m8,m9,EL⟩:=h
     first|omega|(have k1:=m4 _ _ (by assumption) (by assumption);have k2:=m5 _ _ (by assumption) (by assumption);omega)))).symm,hN.bc⟩
 refine RW.skip (aw ?_)
 iterate 2 refine RW.seq ?_
 replace hN:=hN.ext (Ext.drew w2)
 refine RW.bD (fun u=>aI w none_ u [.aJ g2 [.int .i64 (x.1),.int .i64 (x.2.1),.int .i64 (x.2.2.1),.int .i64 (x.2.2.2.1),.int .i64 (x.2.2.2.2)] 98,.aJ g1 [rv,wv] 28]) 42 [(0,0),(1,0),(2,0),(3,0),(4,0),(5,0),(6,0),(7,0),(8,0),(9,0),(10,0),(11,0),(12,0),(13,0),(14,0),(15,0),(16,0),(17,0),(18,0),(19,0),(20,0),(21,0),(22,0),(23,0),(24,0),(25,0),(26,0),(27,0),(28,0),(29,0),(30,0),(31,0),(32,0),(33,0),(34,0),(35,0),(36,0),(37,0),(38,0),(39,0),(40,0),(41,0)] (by intro _ _ _ h;exact h) hN (RQ.aA rfl (fun w hS=>(ah acB rfl cU)) (RQ.aA rfl (fun w hS=>(ah acH rfl bK)) (RQ.aA rfl (fun w hS=>(aj acs (hS.aJ 0 rfl))) (RQ.aA rfl (fun w hS=>(bj)) (RQ.aA (v:=.bool (decide (¬x.2.2.2.2= -1))) rfl (fun w hS=>U) ?_)))))
 by_cases MM:¬x.2.2.2.2= -1
 rw[decide_eq_true MM]
 iterate 4 refine RQ.bU rfl ?_
 refine RQ.aA (v:=.bool true) rfl (fun w hS=>(al)) (RQ.aA (v:=.bool true) rfl (fun w hS=>U) ?_)
 iterate 7 refine RQ.bU rfl ?_
 refine RQ.aA (v:=.bool true) rfl (fun w hS=>(al)) (RQ.aA (v:=.bool true) rfl (fun w hS=>U) ?_)
 iterate 21 refine RQ.bU rfl ?_
 refine RQ.aA (v:=.bool true) rfl (fun w hS=>(al)) (RQ.bq (aw (RW.bF (RW.aN (RL.ag (v:=.bool false) ai (RL.ak (RW.ret ?_)))))))
 refine aT (bb (RV.tmp rfl) ?_)
 exact⟨congrArg acO (decide_eq_false (fun h=>by
  unfold gB at h
  first
  |(rw[if_pos j8]at h;omega)
  | (rw [if_neg j8] at h
     obtain⟨m1,⟨m2,m3⟩,m4,m5,a_,b_,y_,z_,m6,m7,m8,m9,EL⟩:=h
     first|omega|(have k1:=m4 _ _ (by assumption) (by assumption);have k2:=m5 _ _ (by assumption) (by assumption);omega)))).symm,hN.bc⟩
 rw[decide_eq_false MM]
 refine RQ.aS rfl (fun w hS=>(ah acB rfl cU)) (RQ.aS rfl (fun w hS=>(ah acH rfl bK)) (RQ.aS rfl (fun w hS=>(aj acs (hS.aJ 0 rfl))) (RQ.aS rfl (fun w hS=>(aL)) (RQ.aA (v:=.bool (decide (x.2.2.2.1<0))) rfl (fun w hS=>(aB)) (RQ.aA (v:=.bool (decide (x.2.2.2.1<0))) rfl (fun w hS=>U) ?_)))))
 by_cases ur:x.2.2.2.1<0
 rw[decide_eq_true ur]
 iterate 7 refine RQ.bU rfl ?_
 refine RQ.aA (v:=.bool true) rfl (fun w hS=>(al)) (RQ.aA (v:=.bool true) rfl (fun w hS=>U) ?_)
 iterate 21 refine RQ.bU rfl ?_
 refine RQ.aA (v:=.bool true) rfl (fun w hS=>(al)) (RQ.bq (aw (RW.bF (RW.aN (RL.ag (v:=.bool false) ai (RL.ak (RW.ret ?_)))))))
 refine aT (bb (RV.tmp rfl) ?_)
 exact⟨congrArg acO (decide_eq_false (fun h=>by
  unfold gB at h
  first
  |(rw[if_pos j8]at h;omega)
  | (rw [if_neg j8] at h
     obtain⟨m1,⟨m2,m3⟩,m4,m5,a_,b_,y_,z_,m6,m7,m8,m9,EL⟩:=h
     first|omega|(have k1:=m4 _ _ (by assumption) (by assumption);have k2:=m5 _ _ (by assumption) (by assumption);omega)))).symm,hN.bc⟩
 rw[decide_eq_false ur]
 refine RQ.aS rfl (fun w hS=>(ah acB rfl cU)) (RQ.aS rfl (fun w hS=>(ah acH rfl bK)) (RQ.aS rfl (fun w hS=>(aj acs (hS.aJ 0 rfl))) (RQ.aS rfl (fun w hS=>(ah acz rfl cj)) (RQ.aS rfl (fun w hS=>(aj acu (hS.aJ 1 rfl))) ?_))))
 have k9:=(hr.o.now hN).bw
 refine RQ.aS rfl (fun w hS=>(aQ acu (hr.o.now hS))) (RQ.aS rfl (fun w hS=>(cm)) (RQ.aA (v:=.bool (decide ((rk.length:Int)≤x.2.2.2.1))) rfl (fun w hS=>(aB)) (RQ.aA (v:=.bool (decide ((rk.length:Int)≤x.2.2.2.1))) rfl (fun w hS=>U) ?_)))
 by_cases Ii:(rk.length:Int)≤x.2.2.2.1
 rw[decide_eq_true Ii]
 iterate 21 refine RQ.bU rfl ?_
 refine RQ.aA (v:=.bool true) rfl (fun w hS=>(al)) (RQ.bq (aw (RW.bF (RW.aN (RL.ag (v:=.bool false) ai (RL.ak (RW.ret ?_)))))))
 refine aT (bb (RV.tmp rfl) ?_)
 exact⟨congrArg acO (decide_eq_false (fun h=>by
  unfold gB at h
  first
  |(rw[if_pos j8]at h;omega)
  | (rw [if_neg j8] at h
     obtain⟨m1,⟨m2,m3⟩,m4,m5,a_,b_,y_,z_,m6,m7,m8,m9,EL⟩:=h
     first|omega|(have k1:=m4 _ _ (by assumption) (by assumption);have k2:=m5 _ _ (by assumption) (by assumption);omega)))).symm,hN.bc⟩
 rw[decide_eq_false Ii]
 refine RQ.aS rfl (fun w hS=>(ah acz rfl cj)) (RQ.aS rfl (fun w hS=>(aj acu (hS.aJ 1 rfl))) (RQ.aS rfl (fun w hS=>(ah acB rfl cU)) (RQ.aS rfl (fun w hS=>(ah acH rfl bK)) (RQ.aS rfl (fun w hS=>(aj acs (hS.aJ 0 rfl))) (RQ.aS rfl (fun w hS=>(aC acu bK (hr.o.now hS))) ?_)))))
 have aO:=da (rk) ((x.2.2.2.1).toNat)
 obtain⟨a4,ha4⟩:=aO
 refine RQ.aS rfl (fun w hS=>(aF (m:=(x.2.2.2.1).toNat) (a:=a4) acs (hr.o.now hS) ha4)) (RQ.aS rfl (fun w hS=>(ah acz rfl cj)) (RQ.aS rfl (fun w hS=>(aj acu (hS.aJ 1 rfl))) (RQ.aS rfl (fun w hS=>(ah acB rfl bK)) (RQ.aS rfl (fun w hS=>(aj acs (hS.aJ 0 rfl))) (RQ.aS rfl (fun w hS=>(aC acu bK (hr.o.now hS))) ?_)))))
 have aO:=da (rk) ((x.1).toNat)
 obtain⟨a5,V4⟩:=aO
 refine RQ.aS rfl (fun w hS=>(aF (m:=(x.1).toNat) (a:=a5) acs (hr.o.now hS) V4)) (RQ.aS rfl (fun w hS=>(ah acz rfl cj)) (RQ.aS rfl (fun w hS=>(aj acu (hS.aJ 1 rfl))) (RQ.aS rfl (fun w hS=>(ah acB rfl bK)) (RQ.aS rfl (fun w hS=>(aj acs (hS.aJ 0 rfl))) (RQ.aS rfl (fun w hS=>(aC acu bK (hr.o.now hS))) ?_)))))
 have aO:=da (rk) ((x.2.1).toNat)
 obtain⟨a6,ha6⟩:=aO
 refine RQ.aS rfl (fun w hS=>(aF (m:=(x.2.1).toNat) (a:=a6) acs (hr.o.now hS) ha6)) (RQ.aS rfl (fun w hS=>(yG rfl rfl)) (RQ.aS rfl (fun w hS=>(cm)) (RQ.aA (v:=.bool (decide ((min (a5) (a6))≤a4))) rfl (fun w hS=>(aB)) (RQ.bq (aw ?_)))))
 refine RW.aG _ (fun VP=>?_) (fun VP=>?_)
 refine RW.aN (RL.ag (v:=.bool false) ai (RL.ak (RW.ret (aT (bb (RV.tmp rfl) ?_)))))
 exact⟨congrArg acO (decide_eq_false (fun h=>by
  unfold gB at h
  first
  |(rw[if_pos j8]at h;omega)
  | (rw [if_neg j8] at h
     obtain⟨m1,⟨m2,m3⟩,m4,m5,a_,b_,y_,z_,m6,m7,m8,m9,EL⟩:=h
     first|omega|(have k1:=m4 _ _ (by assumption) (by assumption);have k2:=m5 _ _ (by assumption) (by assumption);omega)))).symm,hN.bc⟩
 refine RW.skip (aw (RW.seq ?_))
 rcases fw (gM x.1 x.2.2.2.1) ws with⟨ea,RX⟩|⟨a,y,ea,Ck,RM,SV⟩
 refine RW.region ?_
 rcases fw (gM x.2.2.2.1 x.2.1) ws with⟨eb,HQ⟩|⟨b,z,eb,y6,HM,IP⟩
 refine RL.ag (aE (cs:=[rv,wv]) acz dy (hN.aJ 1 rfl)) (RL.ag (v:=.map (some m)) U (RL.ag (aE (cs:=[.int .i64 (x.1),.int .i64 (x.2.1),.int .i64 (x.2.2.1),.int .i64 (x.2.2.2.1),.int .i64 (x.2.2.2.2)]) acB er (hN.aJ 0 rfl)) ?_))
 refine RL.aK (cq ags rfl rfl rfl rfl rfl ((n0 _ _ rk ws _ (hr.o.now hN) (hw.o.now hN) x _ _ (k6 hb hN.bc) (-1) (-1) _ ea eb uH).mono ?_))
 rintro _ w7 ⟨rfl,bn⟩
 replace hN:=hN.ext bn
 clear bn
 refine RL.ag (v:=.tuple #[.int .i64 (0),.int .i64 (0),.bool false]) U ?_
 iterate 3 refine RL.ag (bA) ?_
 iterate 2 refine RL.ag (v:=.int .i64 (0)) ai ?_
 refine RL.ag (v:=.bool false) ai (RL.ak (RW.seq ?_))
 replace hN:=hN.ext (Ext.drew w7)
 refine RW.bD (fun u=>aI w none_ u [.aJ g2 [.int .i64 (x.1),.int .i64 (x.2.1),.int .i64 (x.2.2.1),.int .i64 (x.2.2.2.1),.int .i64 (x.2.2.2.2)] 98,.aJ g1 [rv,wv] 28]) 23 [(0,0),(1,0),(2,0),(3,0),(4,0),(5,0),(6,0),(7,0),(8,0),(9,0),(10,0),(11,0),(12,0),(13,0),(14,0),(15,0),(16,0),(17,0),(18,0),(19,0),(20,0),(21,0),(22,0)] (by intro _ _ _ h;exact h) hN ?_
 iterate 2 refine RQ.aA (v:=.bool false) rfl (fun w hS=>U) ?_
 iterate 19 refine RQ.bU rfl ?_
 refine RQ.aA (v:=.bool false) rfl (fun w hS=>(aB)) (RQ.aA (v:=.bool false) rfl (fun w hS=>ai) (RQ.bq (aw (RW.ret (bb (RV.tmp rfl) ?_)))))
 exact⟨congrArg acO (decide_eq_false (fun h=>by
  unfold gB at h
  rw[if_neg j8]at h
  obtain⟨m1,⟨m2,m3⟩,m4,m5,a_,b_,y_,z_,m6,m7,m8,m9,EL⟩:=h
  omega)).symm,hN.bc⟩
 refine RL.ag (aE (cs:=[rv,wv]) acz dy (hN.aJ 1 rfl)) (RL.ag (v:=.map (some m)) U (RL.ag (aE (cs:=[.int .i64 (x.1),.int .i64 (x.2.1),.int .i64 (x.2.2.1),.int .i64 (x.2.2.2.1),.int .i64 (x.2.2.2.2)]) acB er (hN.aJ 0 rfl)) ?_))
 refine RL.aK (cq ags rfl rfl rfl rfl rfl ((n0 _ _ rk ws _ (hr.o.now hN) (hw.o.now hN) x _ _ (k6 hb hN.bc) (-1) (b:Int) _ ea eb (uG b)).mono ?_))
 rintro _ w8 ⟨rfl,bn⟩
 replace hN:=hN.ext bn
 clear bn
 refine RL.ag (v:=.tuple #[.int .i64 (0),vJ b,.bool false]) U ?_
 iterate 3 refine RL.ag (bA) ?_
 refine RL.ag (v:=.int .i64 (0)) ai (RL.ag (v:=vJ b) ai (RL.ag (v:=.bool false) ai (RL.ak (RW.seq ?_))))
 replace hN:=hN.ext (Ext.drew w8)
 refine RW.bD (fun u=>aI w none_ u [.aJ g2 [.int .i64 (x.1),.int .i64 (x.2.1),.int .i64 (x.2.2.1),.int .i64 (x.2.2.2.1),.int .i64 (x.2.2.2.2)] 98,.aJ g1 [rv,wv] 28]) 23 [(0,0),(1,0),(2,0),(3,0),(4,0),(5,0),(6,0),(7,0),(8,0),(9,0),(10,0),(11,0),(12,0),(13,0),(14,0),(15,0),(16,0),(17,0),(18,0),(19,0),(20,0),(21,0),(22,0)] (by intro _ _ _ h;exact h) hN ?_
 iterate 2 refine RQ.aA (v:=.bool false) rfl (fun w hS=>U) ?_
 iterate 19 refine RQ.bU rfl ?_
 refine RQ.aA (v:=.bool false) rfl (fun w hS=>(aB)) (RQ.aA (v:=.bool false) rfl (fun w hS=>ai) (RQ.bq (aw (RW.ret (bb (RV.tmp rfl) ?_)))))
 exact⟨congrArg acO (decide_eq_false (fun h=>by
  unfold gB at h
  rw[if_neg j8]at h
  obtain⟨m1,⟨m2,m3⟩,m4,m5,a_,b_,y_,z_,m6,m7,m8,m9,EL⟩:=h
  omega)).symm,hN.bc⟩
 have ir:=(acA.1 Ck).1
 refine RW.region ?_
 rcases fw (gM x.2.2.2.1 x.2.1) ws with⟨eb,HQ⟩|⟨b,z,eb,y6,HM,IP⟩
 refine RL.ag (aE (cs:=[rv,wv]) acz dy (hN.aJ 1 rfl)) (RL.ag (v:=.map (some m)) U (RL.ag (aE (cs:=[.int .i64 (x.1),.int .i64 (x.2.1),.int .i64 (x.2.2.1),.int .i64 (x.2.2.2.1),.int .i64 (x.2.2.2.2)]) acB er (hN.aJ 0 rfl)) ?_))
 refine RL.aK (cq ags rfl rfl rfl rfl rfl ((n0 _ _ rk ws _ (hr.o.now hN) (hw.o.now hN) x _ _ (k6 hb hN.bc) (a:Int) (-1) _ ea eb (uF a)).mono ?_))
 rintro _ w9 ⟨rfl,bn⟩
 replace hN:=hN.ext bn
 clear bn
 refine RL.ag (v:=.tuple #[vJ a,.int .i64 (0),.bool false]) U ?_
 iterate 3 refine RL.ag (bA) ?_
 refine RL.ag (v:=vJ a) ai (RL.ag (v:=.int .i64 (0)) ai (RL.ag (v:=.bool false) ai (RL.ak (RW.seq ?_))))
 replace hN:=hN.ext (Ext.drew w9)
 refine RW.bD (fun u=>aI w none_ u [.aJ g2 [.int .i64 (x.1),.int .i64 (x.2.1),.int .i64 (x.2.2.1),.int .i64 (x.2.2.2.1),.int .i64 (x.2.2.2.2)] 98,.aJ g1 [rv,wv] 28]) 23 [(0,0),(1,0),(2,0),(3,0),(4,0),(5,0),(6,0),(7,0),(8,0),(9,0),(10,0),(11,0),(12,0),(13,0),(14,0),(15,0),(16,0),(17,0),(18,0),(19,0),(20,0),(21,0),(22,0)] (by intro _ _ _ h;exact h) hN ?_
 iterate 2 refine RQ.aA (v:=.bool false) rfl (fun w hS=>U) ?_
 iterate 19 refine RQ.bU rfl ?_
 refine RQ.aA (v:=.bool false) rfl (fun w hS=>(aB)) (RQ.aA (v:=.bool false) rfl (fun w hS=>ai) (RQ.bq (aw (RW.ret (bb (RV.tmp rfl) ?_)))))
 exact⟨congrArg acO (decide_eq_false (fun h=>by
  unfold gB at h
  rw[if_neg j8]at h
  obtain⟨m1,⟨m2,m3⟩,m4,m5,a_,b_,y_,z_,m6,m7,m8,m9,EL⟩:=h
  omega)).symm,hN.bc⟩
 have Qq:=(acA.1 y6).1
 refine RL.ag (aE (cs:=[rv,wv]) acz dy (hN.aJ 1 rfl)) (RL.ag (v:=.map (some m)) U (RL.ag (aE (cs:=[.int .i64 (x.1),.int .i64 (x.2.1),.int .i64 (x.2.2.1),.int .i64 (x.2.2.2.1),.int .i64 (x.2.2.2.2)]) acB er (hN.aJ 0 rfl)) ?_))
 refine RL.aK (cq ags rfl rfl rfl rfl rfl ((n0 _ _ rk ws _ (hr.o.now hN) (hw.o.now hN) x _ _ (k6 hb hN.bc) (a:Int) (b:Int) _ ea eb (uE a b)).mono ?_))
 rintro _ lW ⟨rfl,bn⟩
 replace hN:=hN.ext bn
 clear bn
 refine RL.ag (v:=.tuple #[vJ a,vJ b,.bool true]) U ?_
 iterate 3 refine RL.ag (bA) ?_
 refine RL.ag (v:=vJ a) ai (RL.ag (v:=vJ b) ai (RL.ag (v:=.bool true) ai (RL.ak (RW.seq ?_))))
 replace hN:=hN.ext (Ext.drew lW)
 refine RW.bD (fun u=>aI w none_ u [.aJ g2 [.int .i64 (x.1),.int .i64 (x.2.1),.int .i64 (x.2.2.1),.int .i64 (x.2.2.2.1),.int .i64 (x.2.2.2.2)] 98,.aJ g1 [rv,wv] 28]) 23 [(0,0),(1,0),(2,0),(3,0),(4,0),(5,0),(6,0),(7,0),(8,0),(9,0),(10,0),(11,0),(12,0),(13,0),(14,0),(15,0),(16,0),(17,0),(18,0),(19,0),(20,0),(21,0),(22,0)] (by intro _ _ _ h;exact h) hN ?_
 iterate 2 refine RQ.aA (v:=.bool true) rfl (fun w hS=>U) ?_
 refine RQ.aS rfl (fun w hS=>(ah acz rfl eM)) (RQ.aS rfl (fun w hS=>(aj acG (hS.aJ 1 rfl))) (RQ.aS (v:=vJ a) rfl (fun w hS=>U) (RQ.aS rfl (fun w hS=>(aU acG er aH (hw.o.now hS))) (RQ.aS rfl (fun w hS=>(bl (m:=a) (b:=0) acB rfl cU aH (hw.o.now hS) Ck)) (RQ.aS rfl (fun w hS=>(bl (m:=a) (b:=2) acH rfl bK aH (hw.o.now hS) Ck)) (RQ.aS rfl (fun w hS=>(bB (m:=a) (j:=2) (a:=y) acs aH (hw.o.now hS) Ck)) (RQ.aS rfl (fun w hS=>(ah acz rfl eM)) (RQ.aS rfl (fun w hS=>(aj acG (hS.aJ 1 rfl))) (RQ.aS (v:=vJ b) rfl (fun w hS=>U) ?_)))))))))
 refine RQ.aS rfl (fun w hS=>(aU acG er aH (hw.o.now hS))) (RQ.aS rfl (fun w hS=>(bl (m:=b) (b:=0) acB rfl cU aH (hw.o.now hS) y6)) (RQ.aS rfl (fun w hS=>(bl (m:=b) (b:=2) acH rfl bK aH (hw.o.now hS) y6)) (RQ.aS rfl (fun w hS=>(bB (m:=b) (j:=2) (a:=z) acs aH (hw.o.now hS) y6)) (RQ.aS rfl (fun w hS=>(aD rfl rfl rfl rfl)) (RQ.aS rfl (fun w hS=>(ah acB rfl cU)) (RQ.aS rfl (fun w hS=>(ah acH rfl bK)) (RQ.aS rfl (fun w hS=>(aj acs (hS.aJ 0 rfl))) (RQ.aS rfl (fun w hS=>(bZ)) (RQ.aA (v:=.bool (decide ((adC.wrap (y.2.2.1+z.2.2.1))=x.2.2.1))) rfl (fun w hS=>(al)) ?_)))))))))
 refine RQ.aA (v:=.bool (decide ((adC.wrap (y.2.2.1+z.2.2.1))=x.2.2.1))) rfl (fun w hS=>ai) (RQ.bq (aw (RW.ret (bb (RV.tmp rfl) ?_))))
 exact⟨congrArg acO (decide_eq_decide.2 ⟨fun h=>by
  unfold gB
  rw[if_neg j8]
  exact⟨by omega,⟨by omega,by omega⟩,fun p q hp hq=>by simp_all<;>omega,fun p q hp hq=>by simp_all<;>omega,a,b,y,z,ea,Ck,eb,y6,h⟩,fun h=>by
  unfold gB at h
  rw[if_neg j8]at h
  obtain⟨m1,⟨m2,m3⟩,m4,m5,a_,b_,y_,z_,m6,m7,m8,m9,EL⟩:=h
  have ia:a=a_:=by omega
  have ib:b=b_:=by omega
  subst ia ib
  rw[Ck]at m7
  rw[y6]at m9
  cases m7
  cases m9
  exact EL⟩),hN.bc⟩
end Go.Proofs.YtngkdkbpgoddlaaGreat
namespace Go.Proofs.YtngkdkbpgoddlaaGreat
open Go.RowKit Go.Rl
open Go.Gr
theorem yx (rv wv:Value) (rk:List Int) (ws:List I5) (w:World) (hr:Sl vI w rv rk) (hw:Sm aV w wv ws):aM acx 159 #[.agg #[rv,wv]] w fun r w'=>(ec rk ws=0∧∃g m pv pl,r=.tuple #[vP g,.int .i64 0]∧jr rk pl rk.length∧aI w none_ w' [.aJ g [rv,wv,pv,.map (some m),vN,vN] 269,.mp rJ m (jn ws 0) ws.length,.own vI 3 pv pl])∨(¬ec rk ws=0∧r=.tuple #[.pointer none,.int .i64 (ec rk ws)]∧Ext w w'):=by
 refine aM.aZ aka ?_
 rw[cM]
 have hN:=aI.nil w none_
 refine RW.aN ?_
 refine RL.aK (bL (cs:=[rv,wv]) rfl rfl hN ?_)
 clear hN
 intro g1 w1 (hN:aI w none_ w1 [_])
 refine RL.ag (v:=.pointer none) ai (RL.ag (v:=.int .i64 (0)) ai (RL.ak ?_))
 iterate 2 refine RW.seq ?_
 refine RW.region (RL.ag (ah acz rfl cj) (RL.ag (aj acu (hN.aJ 0 rfl)) ?_))
 have jm:=(hr.o.now hN).bw
 refine RL.ag (aQ acu (hr.o.now hN)) (RL.ag (cr) (RL.ag (v:=.bool (decide (16777216<(rk.length:Int)))) U ?_))
 by_cases pK:16777216<(rk.length:Int)
 rw[decide_eq_true pK]
 iterate 4 refine RL.bH ?_
 refine RL.ag (v:=.bool true) (al) (RL.ak (RW.bF (RW.aN (RL.ag (v:=.pointer none) ai (RL.ag (v:=.int .i64 (3)) ai (RL.ak ?_))))))
 refine RW.ret (aT (bb (RV.ju rfl) ?_))
 have fO:ec rk ws=3:=xm (by omega)
 exact .inr ⟨by omega,by rw[fO];rfl,hN.bc⟩
 rw[decide_eq_false pK]
 refine RL.an (ah acz rfl eM) (RL.an (aj acG (hN.aJ 0 rfl)) ?_)
 have k9:=(hw.o.now hN).bw
 refine RL.an (bO acG (hw.o.now hN)) (RL.an (cr) (RL.ag (v:=.bool (decide (67108864<(ws.length:Int)))) (aB) (RL.ak ?_)))
 refine RW.aG _ (fun Au=>?_) (fun Au=>?_)
 refine RW.aN (RL.ag (v:=.pointer none) ai (RL.ag (v:=.int .i64 (3)) ai (RL.ak (RW.ret (aT (bb (RV.ju rfl) ?_))))))
 have fO:ec rk ws=3:=xm (by omega)
 exact .inr ⟨by omega,by rw[fO];rfl,hN.bc⟩
 refine RW.skip (aw (RW.seq ?_))
 by_cases hR:mH rk
 refine RW.region (RL.ag (ah acz rfl cj) (RL.ag (aj acu (hN.aJ 0 rfl)) ?_))
 refine RL.aK (bo aiv rfl rfl rfl ((Es _ rk _ (hr.o.now hN) (by omega) hR).mono ?_))
 rintro _ w4 ⟨pv,pl,rfl,hP,cE⟩
 replace hN:aI w none_ w4 [_,_]:=hN.fV cE
 clear cE
 refine RL.ag (v:=.tuple #[pv,.bool true]) U ?_
 iterate 2 refine RL.ag (bA) ?_
 refine RL.ag (v:=pv) ai (RL.ag (v:=.bool true) ai (RL.ak (RW.seq ?_)))
 by_cases hF:kc rk ws
 refine RW.region (RL.ag (aE (cs:=[rv,wv]) acz dy (hN.aJ 1 rfl)) ?_)
 refine RL.aK (bo agr rfl rfl rfl ((AO _ _ rk ws _ (hr.o.now hN) (hw.o.now hN) hF).mono ?_))
 rintro _ w5 ⟨mf,rfl,cE⟩
 replace hN:aI w none_ w5 [_,_,_]:=hN.fV cE
 clear cE
 refine RL.ag (v:=.tuple #[.map (some mf),.bool true]) U ?_
 iterate 2 refine RL.ag (bA) ?_
 refine RL.ag (v:=.map (some mf)) ai (RL.ag (v:=.bool true) ai (RL.ak ?_))
 iterate 2 refine RW.seq ?_
 refine RW.region (RL.ag (v:=.bool true) U (RL.ag (jY rfl) (RL.ag (v:=.bool false) U (RL.an (v:=.bool true) U (RL.an (jY rfl) (RL.ag (v:=.bool false) (aB) (RL.ak (RW.cg ?_))))))))
 refine RW.skip (aw ?_)
 iterate 2 refine RW.seq ?_
 refine RW.region (RL.ag (ah acz rfl eM) (RL.ag (aj acG (hN.aJ 2 rfl)) (RL.ag (bO acG (hw.o.now hN)) (RL.ag (v:=.int .i64 (0)) U (RL.ak (RW.block ?_))))))
 refine RW.loop (fun k R0 cz=>∃i:Nat,R0 1=vP g1∧R0 4=pv∧R0 6=.map (some mf)∧R0 38=wv∧R0 39=.int .i64 ((ws.length:Int))∧R0 40=vJ i∧aI w none_ cz [.mp rJ mf ((jn ws 0)) (ws.length),.own vI 3 (pv) (pl),.aJ g1 [rv,wv] 28]∧(i+k=ws.length)∧(∀(m:Nat) (y:I5),m<i→ws[m]?=some y→gB rk ws y)) (ws.length) ?_ ?_
 exact⟨0,rfl,rfl,rfl,rfl,rfl,rfl,hN,by omega,fun m y hm=>absurd hm (by omega)⟩
 clear hN
 rintro k R0 cz ⟨i,bP,cA,cW,Mp,Ak,Aj,hN,gk,X4⟩
 have cB:=o9 bP cA cW Mp Ak Aj
 obtain⟨gF,rfl⟩:=cB
 clear bP cA cW Mp Ak Aj
 refine RW.aN (RL.ag (aL) (RL.ak (RW.seq ?_)))
 refine RW.aG _ (fun cD=>?_) (fun cD=>?_)
 refine RW.skip (aw (RW.seq (RW.block (RW.seq ?_))))
 have aO:=da ws i
 obtain⟨x,hx⟩:=aO
 have Qd:=hF i x hx
 refine RW.region (RL.ag (aU acG er aH (hw.o.now hN)) (RL.ag (b8 (m:=i) (a:=x) acB er aH (hw.o.now hN) hx (cs:=[.int .i64 (x.1),.int .i64 (x.2.1),.int .i64 (x.2.2.1),.int .i64 (x.2.2.2.1),.int .i64 (x.2.2.2.2)])) ?_))
 refine RL.aK (bz (cs:=[.int .i64 (0),.int .i64 (0),.int .i64 (0),.int .i64 (0),.int .i64 (0)]) gu rfl hN ?_)
 clear hN
 intro g6 w6 (hN:aI w none_ w6 [_,_,_,_])
 refine RL.aK (aR (vs:=[.int .i64 (x.1),.int .i64 (x.2.1),.int .i64 (x.2.2.1),.int .i64 (x.2.2.2.1),.int .i64 (x.2.2.2.2)]) er rfl rfl rfl (aW (aW (aW (aW (aW cZ))))) hN 0 rfl rfl ?_)
 clear hN
 intro w7 (hN:aI w none_ w7 [_,_,_,_])
 refine RL.b6 (RL.ag (aE (cs:=[rv,wv]) acz dy (hN.aJ 3 rfl)) (RL.ag (v:=.map (some mf)) U (RL.ag (aE (cs:=[.int .i64 (x.1),.int .i64 (x.2.1),.int .i64 (x.2.2.1),.int .i64 (x.2.2.2.1),.int .i64 (x.2.2.2.2)]) acB er (hN.aJ 0 rfl)) ?_)))
 refine RL.aK (cq aj9 rfl rfl rfl rfl rfl ((zG _ _ rk ws _ (hr.o.now hN) (hw.o.now hN) x _ _ (hN.mp 1 rfl) Qd.1 Qd.2.1).mono ?_))
 rintro _ w8 ⟨rfl,bn⟩
 replace hN:=hN.ext bn
 clear bn
 refine RL.ag (cV rfl) (RL.ak ?_)
 refine RW.aG _ (fun fJ=>?_) (fun fJ=>?_)
 refine RW.aN (RL.ag (v:=.pointer none) ai (RL.ag (v:=.int .i64 (2)) ai (RL.ak (RW.ret (aX ?_)))))
 iterate 2 refine aT ?_
 refine aX (aT (bb (RV.ju rfl) ?_))
 have fO:ec rk ws=2:=pM (by omega) (fun h=>by
  have h:=kq.1 h
  first
  |exact absurd h.1 hR
  |exact absurd h.2.1 hF
  |exact absurd (h.2.2 i x hx) fJ)
 exact .inr ⟨by omega,by rw[fO];rfl,hN.bc⟩
 refine RW.skip (aY (aw (RW.region (RL.ag (aD rfl rfl rfl (bh (by omega) (by omega))) (RL.ag (v:=.int .i64 ((i:Int)+1)) U (RL.ak ?_))))))
 exact⟨k-1,by omega,i+1,rfl,rfl,rfl,rfl,rfl,rfl,(hN.sb [1,2,3]),by omega,fun m z hm hz=>(adh m i).elim (fun e=>X4 m z e hz) (fun e=>have e2:m=i:=(by omega);have e3:z=x:=ac2 (hz.symm.trans (e2▸hx));e3▸acU.1 fJ)⟩
 refine RW.exit ?_
 iterate 2 refine bS ?_
 refine ba (aw (RW.aN (RL.ag (aE (cs:=[rv,wv]) acz dy (hN.aJ 2 rfl)) (RL.ag (v:=pv) U (RL.ag (v:=.map (some mf)) U (RL.ag (bT (cs:=[rv,wv,pv,.map (some mf),vN,vN]) Tryz.underlying269 J5 (places:=#[(0,2),(2,1),(3,1),(4,1),(5,1)]) (by intro w;kernel_rfl) (pl:=[(0,.tmp 50),(1,.tmp 51),(2,.tmp 52)]) rfl (ps:=[(0,.agg #[rv,wv]),(1,pv),(2,.map (some mf))]) rfl (zc:=[vN,vN,vN,.map none,vN,vN]) rfl (aP (vs:=[rv,wv]) rfl rfl (acv rfl) (aP (vs:=[pv]) (hN.sl 1 rfl).cN rfl (acv rfl) (aP (vs:=[.map (some mf)]) rfl rfl (acv rfl) rfl)))) ?_))))))
 refine RL.aK (bL (cs:=[rv,wv,pv,.map (some mf),vN,vN]) rfl rfl hN ?_)
 clear hN
 intro g9 w9 (hN:aI w none_ w9 [_,_,_,_])
 refine RL.ag (v:=vP g9) ai (RL.ag (v:=.int .i64 (0)) ai (RL.ak (RW.ret (bb (RV.ju rfl) ?_))))
 have fO:ec rk ws=0:=xl (by omega) (kq.2 ⟨hR,hF,fun m y hy=>X4 m y (by have:=(acA.1 hy).1;omega) hy⟩)
 exact .inl ⟨fO,_,_,_,_,rfl,hP,hN.sb [0,1,2]⟩
 refine RW.region (RL.ag (aE (cs:=[rv,wv]) acz dy (hN.aJ 1 rfl)) ?_)
 refine RL.aK (bo agr rfl rfl rfl ((xq _ _ rk ws _ (hr.o.now hN) (hw.o.now hN) hF).mono ?_))
 rintro _ lW ⟨rfl,bn⟩
 replace hN:=hN.ext bn
 clear bn
 refine RL.ag (v:=.tuple #[.map none,.bool false]) U ?_
 iterate 2 refine RL.ag (bA) ?_
 refine RL.ag (v:=.map none) ai (RL.ag (v:=.bool false) ai (RL.ak ?_))
 iterate 2 refine RW.seq ?_
 refine RW.region (RL.ag (v:=.bool true) U (RL.ag (jY rfl) (RL.ag (v:=.bool false) U (RL.an (v:=.bool false) U (RL.an (jY rfl) (RL.ag (v:=.bool true) (aB) (RL.ak (RW.bF ?_))))))))
 refine RW.aN (RL.ag (v:=.pointer none) ai (RL.ag (v:=.int .i64 (2)) ai (RL.ak (RW.ret (aT (bb (RV.ju rfl) ?_))))))
 have fO:ec rk ws=2:=pM (by omega) (fun h=>by
  have h:=kq.1 h
  first
  |exact absurd h.1 hR
  |exact absurd h.2.1 hF
  |exact absurd (h.2.2 i x hx) fJ)
 exact .inr ⟨by omega,by rw[fO];rfl,hN.bc⟩
 refine RW.region (RL.ag (ah acz rfl cj) (RL.ag (aj acu (hN.aJ 0 rfl)) ?_))
 refine RL.aK (bo aiv rfl rfl rfl ((BV _ rk _ (hr.o.now hN) (by omega) hR).mono ?_))
 rintro _ lR ⟨rfl,bn⟩
 replace hN:=hN.ext bn
 clear bn
 refine RL.ag (v:=.tuple #[vN,.bool false]) U ?_
 iterate 2 refine RL.ag (bA) ?_
 refine RL.ag (v:=vN) ai (RL.ag (v:=.bool false) ai (RL.ak (RW.seq ?_)))
 by_cases hF:kc rk ws
 refine RW.region (RL.ag (aE (cs:=[rv,wv]) acz dy (hN.aJ 0 rfl)) ?_)
 refine RL.aK (bo agr rfl rfl rfl ((AO _ _ rk ws _ (hr.o.now hN) (hw.o.now hN) hF).mono ?_))
 rintro _ ll ⟨mf,rfl,cE⟩
 replace hN:aI w none_ ll [_,_]:=hN.fV cE
 clear cE
 refine RL.ag (v:=.tuple #[.map (some mf),.bool true]) U ?_
 iterate 2 refine RL.ag (bA) ?_
 refine RL.ag (v:=.map (some mf)) ai (RL.ag (v:=.bool true) ai (RL.ak ?_))
 iterate 2 refine RW.seq ?_
 refine RW.region (RL.ag (v:=.bool false) U (RL.ag (jY rfl) (RL.ag (v:=.bool true) U ?_)))
 iterate 2 refine RL.bH ?_
 refine RL.ag (v:=.bool true) (al) (RL.ak (RW.bF (RW.aN (RL.ag (v:=.pointer none) ai (RL.ag (v:=.int .i64 (2)) ai (RL.ak ?_))))))
 refine RW.ret (aT (bb (RV.ju rfl) ?_))
 have fO:ec rk ws=2:=pM (by omega) (fun h=>by
  have h:=kq.1 h
  first
  |exact absurd h.1 hR
  |exact absurd h.2.1 hF
  |exact absurd (h.2.2 i x hx) fJ)
 exact .inr ⟨by omega,by rw[fO];rfl,hN.bc⟩
 refine RW.region (RL.ag (aE (cs:=[rv,wv]) acz dy (hN.aJ 0 rfl)) ?_)
 refine RL.aK (bo agr rfl rfl rfl ((xq _ _ rk ws _ (hr.o.now hN) (hw.o.now hN) hF).mono ?_))
 rintro _ nR ⟨rfl,bn⟩
 replace hN:=hN.ext bn
 clear bn
 refine RL.ag (v:=.tuple #[.map none,.bool false]) U ?_
 iterate 2 refine RL.ag (bA) ?_
 refine RL.ag (v:=.map none) ai (RL.ag (v:=.bool false) ai (RL.ak ?_))
 iterate 2 refine RW.seq ?_
 refine RW.region (RL.ag (v:=.bool false) U (RL.ag (jY rfl) (RL.ag (v:=.bool true) U ?_)))
 iterate 2 refine RL.bH ?_
 refine RL.ag (v:=.bool true) (al) (RL.ak (RW.bF (RW.aN (RL.ag (v:=.pointer none) ai (RL.ag (v:=.int .i64 (2)) ai (RL.ak ?_))))))
 refine RW.ret (aT (bb (RV.ju rfl) ?_))
 have fO:ec rk ws=2:=pM (by omega) (fun h=>by
  have h:=kq.1 h
  first
  |exact absurd h.1 hR
  |exact absurd h.2.1 hF
  |exact absurd (h.2.2 i x hx) fJ)
 exact .inr ⟨by omega,by rw[fO];rfl,hN.bc⟩
theorem IG (rv wv:Value) (rk:List Int) (ws:List I5) (w:World) (hr:Sl vI w rv rk) (hw:Sm aV w wv ws):aM acx 159 #[.agg #[rv,wv]] w fun r w'=>∃v,r=.tuple #[v,.int .i64 (ec rk ws)]∧Ext w w':=(yx rv wv rk ws w hr hw).mono fun r w' hq=>hq.elim (fun⟨e,g,m,pv,pl,e1,_,e2⟩=>⟨_,by rw[e];exact e1,e2.bc⟩) fun e=>⟨_,e.2.1,e.2.2⟩
theorem yA (rv wv:Value) (rk:List Int) (ws:List I5) (w:World) (hr:Sl vI w rv rk) (hw:Sm aV w wv ws):aM acx 106 #[.agg #[rv,wv]] w fun r w'=>r=.int .i64 (ec rk ws)∧Ext w w':=by
 refine aM.aZ akb ?_
 rw[cM]
 have hN:=aI.nil w none_
 refine RW.aN ?_
 refine RL.aK (bL (cs:=[rv,wv]) rfl rfl hN ?_)
 clear hN
 intro g1 w1 (hN:aI w none_ w1 [_])
 refine RL.ag (v:=.int .i64 (0)) ai (RL.b6 (RL.ag (aE (cs:=[rv,wv]) acz dy (hN.aJ 0 rfl)) ?_))
 refine RL.aK (bo aka rfl rfl rfl ((IG _ _ rk ws _ (hr.o.now hN) (hw.o.now hN)).mono ?_))
 rintro _ w2 ⟨ev2,rfl,bn⟩
 replace hN:aI w none_ w2 [_]:=hN.ext bn
 clear bn
 refine RL.ag (v:=.tuple #[ev2,.int .i64 ((ec rk ws))]) U ?_
 iterate 2 refine RL.ag (bA) ?_
 refine RL.ag ai (RL.ag (v:=.int .i64 ((ec rk ws))) ai (RL.b6 (RL.ag (v:=.int .i64 ((ec rk ws))) U (RL.ag (v:=.int .i64 ((ec rk ws))) ai (RL.ak ?_)))))
 refine RW.ret (bb (RV.tmp rfl) ?_)
 exact⟨rfl,hN.bc⟩
end Go.Proofs.YtngkdkbpgoddlaaGreat
namespace Go.Proofs.YtngkdkbpgoddlaaGreat
open Go.RowKit Go.Rl
open Go.Gr
theorem yU (n:Int) (av rv wv:Value) (l:List I3) (rk:List Int) (ws:List I5) (w:World) (ha:Sm bJ w av l) (hr:Sl vI w rv rk) (hw:Sm aV w wv ws) (gv:Value) (gl:List Int) (hg:Sl vI w gv gl) (fv:Value) (fh:List Hd) (fl:List (List Int)) (hf:Sl vh w fv fh) (o0:fW none_ vI w fh fl) (ov:Value) (oh:List Hd) (ol:List (List I2)) (ho:Sl vh w ov oh) (FU:gN none_ bG w oh ol) (iv:Value) (ih:List Hd) (il:List (List I2)) (hi:Sl vh w iv ih) (ui:gN none_ bG w ih il) (db:Value) (su:List Hd) (eS:List (List Int)) (gV:Sl vh w db su) (rM:fW none_ vI w su eS) (dc:Value) (sx:List Hd) (eX:List (List Int)) (gQ:Sl vh w dc sx) (rN:fW none_ vI w sx eX) (hh:ec rk ws=0):aM acx 108 #[.agg #[.int .i64 n,av,rv,wv,gv,fv,ov,iv,db,dc]] w fun r w'=>r=.bool (decide (lg l ws))∧Ext w w':=by
 refine aM.aZ akc ?_
 rw[cM]
 have hN:=aI.nil w none_
 refine RW.aN ?_
 refine RL.aK (bL (cs:=[.int .i64 (n),av,rv,wv,gv,fv,ov,iv,db,dc]) rfl rfl hN ?_)
 clear hN
 intro g1 w1 (hN:aI w none_ w1 [_])
 refine RL.ag (v:=.bool false) ai (RL.ak ?_)
 iterate 2 refine RW.seq ?_
 refine RW.region (RL.ag (ah acL rfl dy) (RL.ag (ah acz rfl eM) (RL.ag (aj acG (hN.aJ 0 rfl)) ?_)))
 have jm:=(hw.o.now hN).bw
 refine RL.ag (bO acG (hw.o.now hN)) (RL.ag (v:=.int .i64 (0)) U (RL.ak (RW.block ?_)))
 refine RW.loop (fun k R0 cz=>∃i:Nat,R0 1=vP g1∧R0 7=wv∧R0 8=.int .i64 ((ws.length:Int))∧R0 9=vJ i∧aI w none_ cz [.aJ g1 [.int .i64 (n),av,rv,wv,gv,fv,ov,iv,db,dc] 34]∧(i+k=ws.length)∧(∀(m:Nat) (y:I5),m<i→ws[m]?=some y→y.2.2.2.1= -1→l[y.2.2.2.2.toNat]?=some (y.1,y.2.1,y.2.2.1))) (ws.length) ?_ ?_
 exact⟨0,rfl,rfl,rfl,rfl,hN,by omega,fun m r hm=>absurd hm (by omega)⟩
 clear hN
 rintro k R0 cz ⟨i,bP,cF,cR,eg,hN,gk,yB⟩
 have cB:=jd bP cF cR eg
 obtain⟨gF,rfl⟩:=cB
 clear bP cF cR eg
 refine RW.aN (RL.ag (aL) (RL.ak (RW.seq ?_)))
 refine RW.aG _ (fun cD=>?_) (fun cD=>?_)
 refine RW.skip (aw (RW.seq (RW.block (RW.seq ?_))))
 have aO:=da ws i
 obtain⟨x,hx⟩:=aO
 have JS:=(pN hh).2 i x hx
 refine RW.region (RL.ag (aU acG er aH (hw.o.now hN)) (RL.ag (b8 (m:=i) (a:=x) acB er aH (hw.o.now hN) hx (cs:=[.int .i64 (x.1),.int .i64 (x.2.1),.int .i64 (x.2.2.1),.int .i64 (x.2.2.2.1),.int .i64 (x.2.2.2.2)])) ?_))
 refine RL.aK (bz (cs:=[.int .i64 (0),.int .i64 (0),.int .i64 (0),.int .i64 (0),.int .i64 (0)]) gu rfl hN ?_)
 clear hN
 intro g3 w3 (hN:aI w none_ w3 [_,_])
 refine RL.aK (aR (vs:=[.int .i64 (x.1),.int .i64 (x.2.1),.int .i64 (x.2.2.1),.int .i64 (x.2.2.2.1),.int .i64 (x.2.2.2.2)]) er rfl rfl rfl (aW (aW (aW (aW (aW cZ))))) hN 0 rfl rfl ?_)
 clear hN
 intro w4 (hN:aI w none_ w4 [_,_])
 refine RL.ak ?_
 iterate 2 refine RW.seq ?_
 refine RW.region (RL.ag (ah acB rfl cU) (RL.ag (ah acH rfl bK) (RL.ag (aj acs (hN.aJ 0 rfl)) (RL.ag (bj) (RL.ak ?_)))))
 refine RW.aG _ (fun k8=>?_) (fun k8=>?_)
 refine RW.exit (bS (ba (aw (RW.region (RL.ag (aD rfl rfl rfl (bh (by omega) (by omega))) (RL.ag (v:=.int .i64 ((i:Int)+1)) U (RL.ak ?_)))))))
 exact⟨k-1,by omega,i+1,rfl,rfl,rfl,rfl,(hN.sb [1]),by omega,fun m z hm hz=>(adh m i).elim (fun e=>yB m z e hz) (fun e=>have e2:m=i:=(by omega);have e3:z=x:=ac2 (hz.symm.trans (e2▸hx));e3▸fun h0=>by first|exact absurd h0 k8|exact hy.trans (congrArg some (adL (by show y.1=x.1;omega) (adL (by show y.2.1=x.2.1;omega) (by show y.2.2=x.2.2.1;omega)))))⟩
 refine RW.skip (aw (RW.seq ?_))
 by_cases ir:(l.length:Int)≤x.2.2.2.2
 have jS:=JS.2
 rw[if_pos (by omega)]at jS
 replace hN:=hN.ext (Ext.drew w4)
 refine RW.bD (fun u=>aI w none_ u [.aJ g3 [.int .i64 (x.1),.int .i64 (x.2.1),.int .i64 (x.2.2.1),.int .i64 (x.2.2.2.1),.int .i64 (x.2.2.2.2)] 98,.aJ g1 [.int .i64 (n),av,rv,wv,gv,fv,ov,iv,db,dc] 34]) 27 [(0,0),(1,0),(2,0),(3,0),(4,0),(5,0),(6,0),(7,0),(8,0),(9,0),(10,0),(11,0),(12,0),(13,0),(14,0),(15,0),(16,0),(17,0),(18,0),(19,0),(20,0),(21,0),(22,0),(23,0),(24,0),(25,0),(26,0)] (by intro _ _ _ h;exact h) hN (RQ.aA rfl (fun w hS=>(ah acB rfl cU)) (RQ.aA rfl (fun w hS=>(ah acH rfl bK)) (RQ.aA rfl (fun w hS=>(aj acs (hS.aJ 0 rfl))) (RQ.aA rfl (fun w hS=>(ah acL rfl dN)) (RQ.aA rfl (fun w hS=>(ah acI rfl fz)) (RQ.aA rfl (fun w hS=>(aj acM (hS.aJ 1 rfl))) ?_))))))
 have qG:=(ha.o.now hN).bw
 refine RQ.aA rfl (fun w hS=>(bO acM (ha.o.now hS))) (RQ.aA rfl (fun w hS=>(dm (cm) ir)) (RQ.aA (v:=.bool true) rfl (fun w hS=>U) ?_))
 iterate 17 refine RQ.bU rfl ?_
 refine RQ.aA (v:=.bool true) rfl (fun w hS=>(al)) (RQ.bq (aw (RW.bF (RW.aN (RL.ag (v:=.bool false) ai (RL.ak (RW.ret ?_)))))))
 refine aX ?_
 iterate 2 refine aT ?_
 refine aX (aT (bb (RV.tmp rfl) ?_))
 exact⟨congrArg acO (decide_eq_false (fun h:lg l ws=>by
  have h2:=h x (acy hx) (by omega)
  first
  |(have:=(acA.1 h2).1;omega)
  |(rw[hy]at h2;cases h2;simp_all))).symm,hN.bc⟩
 have jS:=JS.2
 rw[if_pos (by omega)]at jS
 have aO:=da l (x.2.2.2.2.toNat)
 obtain⟨y,hy⟩:=aO
 replace hN:=hN.ext (Ext.drew w4)
 refine RW.bD (fun u=>aI w none_ u [.aJ g3 [.int .i64 (x.1),.int .i64 (x.2.1),.int .i64 (x.2.2.1),.int .i64 (x.2.2.2.1),.int .i64 (x.2.2.2.2)] 98,.aJ g1 [.int .i64 (n),av,rv,wv,gv,fv,ov,iv,db,dc] 34]) 27 [(0,0),(1,0),(2,0),(3,0),(4,0),(5,0),(6,0),(7,0),(8,0),(9,0),(10,0),(11,0),(12,0),(13,0),(14,0),(15,0),(16,0),(17,0),(18,0),(19,0),(20,0),(21,0),(22,0),(23,0),(24,0),(25,0),(26,0)] (by intro _ _ _ h;exact h) hN (RQ.aA rfl (fun w hS=>(ah acB rfl cU)) (RQ.aA rfl (fun w hS=>(ah acH rfl bK)) (RQ.aA rfl (fun w hS=>(aj acs (hS.aJ 0 rfl))) (RQ.aA rfl (fun w hS=>(ah acL rfl dN)) (RQ.aA rfl (fun w hS=>(ah acI rfl fz)) (RQ.aA rfl (fun w hS=>(aj acM (hS.aJ 1 rfl))) ?_))))))
 have AD:=(ha.o.now hN).bw
 refine RQ.aA rfl (fun w hS=>(bO acM (ha.o.now hS))) (RQ.aA rfl (fun w hS=>(cI (cm) ir)) (RQ.aA (v:=.bool false) rfl (fun w hS=>U) (RQ.aS rfl (fun w hS=>(ah acL rfl dN)) (RQ.aS rfl (fun w hS=>(ah acI rfl fz)) (RQ.aS rfl (fun w hS=>(aj acM (hS.aJ 1 rfl))) (RQ.aS rfl (fun w hS=>(ah acB rfl cU)) (RQ.aS rfl (fun w hS=>(ah acH rfl bK)) (RQ.aS rfl (fun w hS=>(aj acs (hS.aJ 0 rfl))) (RQ.aS rfl (fun w hS=>(aU acM dr bf (ha.o.now hS))) ?_)))))))))
 refine RQ.aS rfl (fun w hS=>(b8 (m:=(x.2.2.2.2).toNat) (a:=y) acP dr bf (ha.o.now hS) hy (cs:=[.int .i64 (y.1),.int .i64 (y.2.1),.int .i64 (y.2.2)]))) (RQ.aS rfl (fun w hS=>(ah acB rfl bK)) (RQ.aS rfl (fun w hS=>(aj acs (hS.aJ 0 rfl))) (RQ.aS rfl (fun w hS=>(ah acB rfl bK)) (RQ.aS rfl (fun w hS=>(aj acs (hS.aJ 0 rfl))) (RQ.aS rfl (fun w hS=>(ah acB rfl cU)) (RQ.aS rfl (fun w hS=>(ah acH rfl bK)) (RQ.aS rfl (fun w hS=>(aj acs (hS.aJ 0 rfl))) (RQ.aS rfl (fun w hS=>(bT (cs:=[.int .i64 (x.1),.int .i64 (x.2.1),.int .i64 (x.2.2.1)]) acP fS (places:=#[(0,1),(1,1),(2,1)]) (by intro w;kernel_rfl) (pl:=[(0,.tmp 35),(1,.tmp 37),(2,.tmp 40)]) rfl (ps:=[(0,.int .i64 (x.1)),(1,.int .i64 (x.2.1)),(2,.int .i64 (x.2.2.1))]) rfl (zc:=[.int .i64 (0),.int .i64 (0),.int .i64 (0)]) rfl (aP (vs:=[.int .i64 (x.1)]) rfl rfl (acv rfl) (aP (vs:=[.int .i64 (x.2.1)]) rfl rfl (acv rfl) (aP (vs:=[.int .i64 (x.2.2.1)]) rfl rfl (acv rfl) rfl))))) (RQ.aS rfl (fun w hS=>(pT (p:=y.1=x.1∧y.2.1=x.2.1∧y.2.2=x.2.2.1) rfl rfl (by kernel_rfl) (nb.iff (nb.struct acP (by kernel_rfl) rfl (qa.cons (by decide) (dE.leaf acs rfl) (dE.leaf acs rfl) (nb.int acs) (qa.cons (by decide) (dE.leaf acs rfl) (dE.leaf acs rfl) (nb.int acs) (qa.cons (by decide) (dE.leaf acs rfl) (dE.leaf acs rfl) (nb.int acs) qa.nil)))) (by simp only[adm,decide_eq_true_eq,and_true])))) ?_)))))))))
 refine RQ.aA (v:=.bool (decide (¬(y.1=x.1∧y.2.1=x.2.1∧y.2.2=x.2.2.1)))) rfl (fun w hS=>(aB)) (RQ.bq (aw ?_))
 refine RW.aG _ (fun fJ=>?_) (fun fJ=>?_)
 refine RW.aN (RL.ag (v:=.bool false) ai (RL.ak (RW.ret (aX ?_))))
 iterate 2 refine aT ?_
 refine aX (aT (bb (RV.tmp rfl) ?_))
 exact⟨congrArg acO (decide_eq_false (fun h:lg l ws=>by
  have h2:=h x (acy hx) (by omega)
  first
  |(have:=(acA.1 h2).1;omega)
  |(rw[hy]at h2;cases h2;simp_all))).symm,hN.bc⟩
 refine RW.skip (aY (aw (RW.region (RL.ag (aD rfl rfl rfl (bh (by omega) (by omega))) (RL.ag (v:=.int .i64 ((i:Int)+1)) U (RL.ak ?_))))))
 exact⟨k-1,by omega,i+1,rfl,rfl,rfl,rfl,(hN.sb [1]),by omega,fun m z hm hz=>(adh m i).elim (fun e=>yB m z e hz) (fun e=>have e2:m=i:=(by omega);have e3:z=x:=ac2 (hz.symm.trans (e2▸hx));e3▸fun h0=>by first|exact absurd h0 k8|exact hy.trans (congrArg some (adL (by show y.1=x.1;omega) (adL (by show y.2.1=x.2.1;omega) (by show y.2.2=x.2.2.1;omega)))))⟩
 refine RW.exit ?_
 iterate 2 refine bS ?_
 refine ba (aw (RW.aN (RL.ag (v:=.bool true) ai (RL.ak (RW.ret (bb (RV.tmp rfl) ?_))))))
 exact⟨congrArg acO (decide_eq_true (show lg l ws from fun x hx=>by
  have aO:=ac9 hx
  obtain⟨m,hm⟩:=aO
  exact yB m x (by have:=(acA.1 hm).1;omega) hm)).symm,hN.bc⟩
theorem yo (n:Int) (av rv wv:Value) (l:List I3) (rk:List Int) (ws:List I5) (w:World) (ha:Sm bJ w av l) (hr:Sl vI w rv rk) (hw:Sm aV w wv ws) (gv:Value) (gl:List Int) (hg:Sl vI w gv gl) (fv:Value) (fh:List Hd) (fl:List (List Int)) (hf:Sl vh w fv fh) (o0:fW none_ vI w fh fl) (ov:Value) (oh:List Hd) (ol:List (List I2)) (ho:Sl vh w ov oh) (FU:gN none_ bG w oh ol) (iv:Value) (ih:List Hd) (il:List (List I2)) (hi:Sl vh w iv ih) (ui:gN none_ bG w ih il) (db:Value) (su:List Hd) (eS:List (List Int)) (gV:Sl vh w db su) (rM:fW none_ vI w su eS) (dc:Value) (sx:List Hd) (eX:List (List Int)) (gQ:Sl vh w dc sx) (rN:fW none_ vI w sx eX) (sD:gl.length≤16777216):aM acx 46 #[.agg #[.int .i64 n,av,rv,wv,gv,fv,ov,iv,db,dc]] w fun r w'=>r=.int .i64 (dC n l rk ws gl fl ol il eS eX)∧Ext w w':=by
 refine aM.aZ Tryz.func46 ?_
 rw[cM]
 have hN:=aI.nil w none_
 refine RW.aN ?_
 refine RL.aK (bL (cs:=[.int .i64 (n),av,rv,wv,gv,fv,ov,iv,db,dc]) rfl rfl hN ?_)
 clear hN
 intro g1 w1 (hN:aI w none_ w1 [_])
 refine RL.ag (v:=.int .i64 (0)) ai (RL.ak ?_)
 iterate 2 refine RW.seq ?_
 replace hN:=hN.ext (Ext.drew w1)
 refine RW.bD (fun u=>aI w none_ u [.aJ g1 [.int .i64 (n),av,rv,wv,gv,fv,ov,iv,db,dc] 34]) 14 [(0,0),(1,0),(3,0),(4,0),(6,0),(7,0),(8,0),(9,0),(10,0),(13,0),(2,1),(5,1),(11,1),(12,0)] (by intro _ _ _ h;exact h) hN (RQ.aA rfl (fun w hS=>(ah acL rfl dN)) (RQ.aA rfl (fun w hS=>(dG (cs:=[.int .i64 (n),av,rv,wv,gv,fv,ov,iv,db,dc]) (j:=0) (m:=2) acI rfl dN rfl (hS.aJ 0 rfl) (acv rfl))) (RQ.aA rfl (fun w hS=>(ah acL rfl dy)) (RQ.aA rfl (fun w hS=>(dG (cs:=[.int .i64 (n),av,rv,wv,gv,fv,ov,iv,db,dc]) (j:=2) (m:=2) acz rfl dy rfl (hS.aJ 0 rfl) (acv rfl))) (RQ.aA rfl (fun w hS=>(ah acL rfl dN)) (RQ.aA rfl (fun w hS=>(ah acI rfl bK)) (RQ.aA rfl (fun w hS=>(aj acs (hS.aJ 0 rfl))) (RQ.aA rfl (fun w hS=>(ah acL rfl iD)) (RQ.aA rfl (fun w hS=>(dG (cs:=[.int .i64 (n),av,rv,wv,gv,fv,ov,iv,db,dc]) (j:=4) (m:=6) acK rfl iD rfl (hS.aJ 0 rfl) (acv rfl))) ?_)))))))))
 refine RQ.aA (v:=.int .i64 (0)) rfl (fun w hS=>U) ?_
 refine RQ.b0 rfl (bo ag4 rfl rfl rfl ((mq (n) _ l _ (ha.o.now hN)).mono ?_))
 rintro _ w2 ⟨rfl,bn⟩
 replace hN:=hN.ext bn
 clear bn
 refine⟨hN,?_⟩
 refine RQ.b0 rfl (bo akb rfl rfl rfl ((yA _ _ rk ws _ (hr.o.now hN) (hw.o.now hN)).mono ?_))
 rintro _ w3 ⟨rfl,bn⟩
 replace hN:=hN.ext bn
 clear bn
 refine⟨hN,?_⟩
 refine RQ.b0 rfl (bu aj5 rfl rfl rfl rfl ((xH (n) _ _ gl (hg.o.now hN) _ fh fl (hf.o.now hN) (o0.gD hN) _ oh ol (ho.o.now hN) (FU.ext hN.bc) _ ih il (hi.o.now hN) (ui.ext hN.bc) _ su eS (gV.o.now hN) (rM.gD hN) _ sx eX (gQ.o.now hN) (rN.gD hN) sD).mono ?_))
 rintro _ w4 ⟨rfl,bn⟩
 replace hN:=hN.ext bn
 clear bn
 refine⟨hN,?_⟩
 refine RQ.aA rfl (fun w hS=>(qL (cs:=[.int .i64 ((ee (n) l)),.int .i64 ((ec rk ws)),.int .i64 ((dH (n) gl fl ol il eS eX))]) afP vf J8 (pl:=[(0,.tmp 7),(1,.tmp 10),(2,.tmp 16)]) rfl (ps:=[(0,.int .i64 ((ee (n) l))),(1,.int .i64 ((ec rk ws))),(2,.int .i64 ((dH (n) gl fl ol il eS eX)))]) rfl (zc:=[.int .i64 (0),.int .i64 (0),.int .i64 (0)]) rfl (aP (vs:=[.int .i64 ((ee (n) l))]) rfl rfl (acv rfl) (aP (vs:=[.int .i64 ((ec rk ws))]) rfl rfl (acv rfl) (aP (vs:=[.int .i64 ((dH (n) gl fl ol il eS eX))]) rfl rfl (acv rfl) rfl))))) (RQ.bq (aw (RW.block ?_)))
 refine RW.loop (fun k R0 cz=>∃i:Nat,R0 1=vP g1∧R0 17=.agg #[.int .i64 ((ee (n) l)),.int .i64 ((ec rk ws)),.int .i64 ((dH (n) gl fl ol il eS eX))]∧R0 18=vJ i∧aI w none_ cz [.aJ g1 [.int .i64 (n),av,rv,wv,gv,fv,ov,iv,db,dc] 34]∧(i+k=3)∧(0<i→ee n l=0)∧(1<i→ec rk ws=0)∧(2<i→dH n gl fl ol il eS eX=0)) (3) ?_ ?_
 exact⟨0,rfl,rfl,rfl,hN,rfl,fun h=>absurd h (by omega),fun h=>absurd h (by omega),fun h=>absurd h (by omega)⟩
 clear hN
 rintro k R0 cz ⟨i,bP,fq,fH,hN,gk,h0,h1,h2⟩
 have cB:=ln bP fq fH
 obtain⟨gF,rfl⟩:=cB
 clear bP fq fH
 refine RW.aN (RL.ag (aL) (RL.ak (RW.seq ?_)))
 refine RW.aG _ (fun cD=>?_) (fun cD=>?_)
 refine RW.skip (aw (RW.seq (RW.block (RW.seq ?_))))
 obtain rfl|rfl|rfl:i=0∨i=1∨i=2:=by omega
 refine RW.region (RL.ag (iW (cs:=[.int .i64 ((ee (n) l)),.int .i64 ((ec rk ws)),.int .i64 ((dH (n) gl fl ol il eS eX))]) afP aeS rfl vf rfl rfl (by omega) (by omega) rfl) (RL.ag (v:=.int .i64 ((ee (n) l))) ai (RL.b6 (RL.ag (v:=.int .i64 ((ee (n) l))) U (RL.ag (bj) (RL.nil ?_))))))
 refine aw ?_
 refine RW.aG _ (fun hc=>?_) (fun hc=>?_)
 refine RW.aN (RL.ag (v:=.int .i64 ((ee (n) l))) U (RL.ag (v:=.int .i64 ((ee (n) l))) ai (RL.ak (RW.ret (aX ?_)))))
 iterate 2 refine aT ?_
 refine aX (aT (bb (RV.tmp rfl) ?_))
 exact⟨congrArg (acZ .i64) (show dC n l rk ws gl fl ol il eS eX=(ee (n) l) by
  unfold dC
  rw[if_pos (by omega)]).symm,hN.bc⟩
 refine RW.skip (aY (aw (RW.region (RL.ag (aD rfl rfl rfl (bh (by omega) (by omega))) (RL.ag (v:=.int .i64 (((0:Nat):Int)+1)) U (RL.ak ?_))))))
 exact⟨k-1,by omega,(0+1),rfl,rfl,rfl,hN,by omega,fun _=>by omega,fun _=>by omega,fun _=>by omega⟩
 refine RW.region (RL.ag (iW (cs:=[.int .i64 ((ee (n) l)),.int .i64 ((ec rk ws)),.int .i64 ((dH (n) gl fl ol il eS eX))]) afP aeS rfl vf rfl rfl (by omega) (by omega) rfl) (RL.ag (v:=.int .i64 ((ec rk ws))) ai (RL.b6 (RL.ag (v:=.int .i64 ((ec rk ws))) U (RL.ag (bj) (RL.nil ?_))))))
 refine aw ?_
 refine RW.aG _ (fun hc=>?_) (fun hc=>?_)
 refine RW.aN (RL.ag (v:=.int .i64 ((ec rk ws))) U (RL.ag (v:=.int .i64 ((ec rk ws))) ai (RL.ak (RW.ret (aX ?_)))))
 iterate 2 refine aT ?_
 refine aX (aT (bb (RV.tmp rfl) ?_))
 exact⟨congrArg (acZ .i64) (show dC n l rk ws gl fl ol il eS eX=(ec rk ws) by
  unfold dC
  rw[if_neg (by omega),if_pos (by omega)]).symm,hN.bc⟩
 refine RW.skip (aY (aw (RW.region (RL.ag (aD rfl rfl rfl (bh (by omega) (by omega))) (RL.ag (v:=.int .i64 (((1:Nat):Int)+1)) U (RL.ak ?_))))))
 exact⟨k-1,by omega,(1+1),rfl,rfl,rfl,hN,by omega,fun _=>by omega,fun _=>by omega,fun _=>by omega⟩
 refine RW.region (RL.ag (iW (cs:=[.int .i64 ((ee (n) l)),.int .i64 ((ec rk ws)),.int .i64 ((dH (n) gl fl ol il eS eX))]) afP aeS rfl vf rfl rfl (by omega) (by omega) rfl) (RL.ag (v:=.int .i64 ((dH (n) gl fl ol il eS eX))) ai (RL.b6 (RL.ag (v:=.int .i64 ((dH (n) gl fl ol il eS eX))) U (RL.ag (bj) (RL.nil ?_))))))
 refine aw ?_
 refine RW.aG _ (fun hc=>?_) (fun hc=>?_)
 refine RW.aN (RL.ag (v:=.int .i64 ((dH (n) gl fl ol il eS eX))) U (RL.ag (v:=.int .i64 ((dH (n) gl fl ol il eS eX))) ai (RL.ak (RW.ret (aX ?_)))))
 iterate 2 refine aT ?_
 refine aX (aT (bb (RV.tmp rfl) ?_))
 exact⟨congrArg (acZ .i64) (show dC n l rk ws gl fl ol il eS eX=(dH (n) gl fl ol il eS eX) by
  unfold dC
  rw[if_neg (by omega),if_neg (by omega),if_pos (by omega)]).symm,hN.bc⟩
 refine RW.skip (aY (aw (RW.region (RL.ag (aD rfl rfl rfl (bh (by omega) (by omega))) (RL.ag (v:=.int .i64 (((2:Nat):Int)+1)) U (RL.ak ?_))))))
 exact⟨k-1,by omega,(2+1),rfl,rfl,rfl,hN,by omega,fun _=>by omega,fun _=>by omega,fun _=>by omega⟩
 refine RW.exit ?_
 iterate 2 refine bS ?_
 refine ba (aw ?_)
 iterate 2 refine RW.seq ?_
 have kD:=h0 (by omega)
 have hh:=h1 (by omega)
 have TI:=h2 (by omega)
 refine RW.region (RL.ag (ah acL rfl dy) (RL.ag (ah acz rfl cj) (RL.ag (aj acu (hN.aJ 0 rfl)) ?_)))
 have qG:=(hr.o.now hN).bw
 refine RL.ag (aQ acu (hr.o.now hN)) (RL.ag (ah acL rfl dN) (RL.ag (ah acI rfl bK) (RL.ag (aj acs (hN.aJ 0 rfl)) (RL.ag (bj) (RL.ag (v:=.bool (decide (¬(rk.length:Int)=n))) U ?_)))))
 by_cases MH:¬(rk.length:Int)=n
 rw[decide_eq_true MH]
 iterate 3 refine RL.bH ?_
 refine RL.ag (v:=.bool true) (al) (RL.ak (RW.bF (RW.aN (RL.ag (v:=.int .i64 (2)) ai (RL.ak (RW.ret ?_))))))
 refine aT (bb (RV.tmp rfl) ?_)
 exact⟨congrArg (acZ .i64) (show dC n l rk ws gl fl ol il eS eX=2 by
  unfold dC
  rw[if_neg (by omega),if_neg (by omega),if_neg (by omega),if_neg (fun h=>by
  first
  |omega
  |exact absurd h.2 (by assumption))]).symm,hN.bc⟩
 rw[decide_eq_false MH]
 refine RL.an (aE (cs:=[.int .i64 (n),av,rv,wv,gv,fv,ov,iv,db,dc]) acL fg (hN.aJ 0 rfl)) ?_
 refine RL.ed (bo akc rfl rfl rfl ((yU (n) _ _ _ l rk ws _ (ha.o.now hN) (hr.o.now hN) (hw.o.now hN) _ gl (hg.o.now hN) _ fh fl (hf.o.now hN) (o0.gD hN) _ oh ol (ho.o.now hN) (FU.ext hN.bc) _ ih il (hi.o.now hN) (ui.ext hN.bc) _ su eS (gV.o.now hN) (rM.gD hN) _ sx eX (gQ.o.now hN) (rN.gD hN) hh).mono ?_))
 rintro _ w6 ⟨rfl,bn⟩
 replace hN:=hN.ext bn
 clear bn
 refine RL.an (cV rfl) (RL.ag (v:=.bool (decide (¬(lg l ws)))) (aB) (RL.ak ?_))
 refine RW.aG _ (fun VU=>?_) (fun VU=>?_)
 refine RW.aN (RL.ag (v:=.int .i64 (2)) ai (RL.ak (RW.ret (aT (bb (RV.tmp rfl) ?_)))))
 exact⟨congrArg (acZ .i64) (show dC n l rk ws gl fl ol il eS eX=2 by
  unfold dC
  rw[if_neg (by omega),if_neg (by omega),if_neg (by omega),if_neg (fun h=>by
  first
  |omega
  |exact absurd h.2 (by assumption))]).symm,hN.bc⟩
 refine RW.skip (aw (RW.aN (RL.ag (v:=.int .i64 (0)) ai (RL.ak (RW.ret (bb (RV.tmp rfl) ?_))))))
 exact⟨congrArg (acZ .i64) (show dC n l rk ws gl fl ol il eS eX=0 by
  unfold dC
  rw[if_neg (by omega),if_neg (by omega),if_neg (by omega),if_pos ⟨by omega,acU.1 (by assumption)⟩]).symm,hN.bc⟩
end Go.Proofs.YtngkdkbpgoddlaaGreat
namespace Go.Proofs.YtngkdkbpgoddlaaGreat
open Go.RowKit Go.Rl
open Go.Gr Go.dn Go.jJ
theorem BM (lo hi g gr:Nat) (m:Int) (bd:Bool) (s:St) (w:World) (hN:aI w (b7 [.aJ gr [vP g,.int .i64 (m),.bool (bd)] 89,dI 142 lo hi g s]) w [.aJ gr [vP g,.int .i64 (m),.bool (bd)] 89,dI 142 lo hi g s]) (kD:0≤m) (jv:m≤1048576) (kN:s.1.length≤1048576) {s1:St} {b1:Bool} {n1:Int} {a1:List I3} (e:mW m (s,bd)=((s1,b1),(n1,a1))):aM acx 42 #[vP gr] w fun r w'=>∃v,r=.agg #[.int .i64 n1,v]∧aI w (b7 [.aJ gr [vP g,.int .i64 (m),.bool (bd)] 89,dI 142 lo hi g s]) w' [.cp bJ 3 100 v a1,.aJ gr [vP g,.int .i64 (m),.bool (b1)] 89,dI 142 lo hi g s1]:=
  (vC lo hi g gr m bd s w hN kD jv kN).mono fun _ _ h=>by rw[e]at h;exact h
theorem zH (lo hi g gr:Nat) (m:Int) (bd:Bool) (s:St) (w:World) (hN:aI w (b7 [.aJ gr [vP g,.int .i64 (m),.bool (bd)] 89,dI 142 lo hi g s]) w [.aJ gr [vP g,.int .i64 (m),.bool (bd)] 89,dI 142 lo hi g s]) (kD:0≤m) (jv:m≤1048576) (kN:s.1.length≤1048576) {s1:St} {b1:Bool} {k1:List Int} {a1:List I5} (e:j1 m (s,bd)=((s1,b1),(k1,a1))):aM acx 43 #[vP gr] w fun r w'=>∃rv wv,r=.agg #[rv,wv]∧aI w (b7 [.aJ gr [vP g,.int .i64 (m),.bool (bd)] 89,dI 142 lo hi g s]) w' [.own vI 3 rv k1,.cp aV 5 98 wv a1,.aJ gr [vP g,.int .i64 (m),.bool (b1)] 89,dI 142 lo hi g s1]:=
  (tB lo hi g gr m bd s w hN kD jv kN).mono fun _ _ h=>by rw[e]at h;exact h
theorem vA (lo hi g gr:Nat) (m:Int) (bd:Bool) (s:St) (w:World) (hN:aI w (b7 [.aJ gr [vP g,.int .i64 (m),.bool (bd)] 89,dI 142 lo hi g s]) w [.aJ gr [vP g,.int .i64 (m),.bool (bd)] 89,dI 142 lo hi g s]) (kD:0≤m) (jv:m≤1048576) (kN:s.1.length≤1048576) {s1:St} {b1:Bool} {q:Tr} (e:iL m (s,bd)=((s1,b1),q)):aM acx 44 #[vP gr] w fun r w'=>∃gv fv ov iv db dc hf ho iy gV gQ,r=.agg #[gv,fv,ov,iv,db,dc]∧aI w (b7 [.aJ gr [vP g,.int .i64 (m),.bool (bd)] 89,dI 142 lo hi g s]) w' [.own vI 3 gv q.1,.own vh 25 fv hf,.eE vI hf q.2.1,.own vh 118 ov ho,.ez bG ho q.2.2.1,.own vh 118 iv iy,.ez bG iy q.2.2.2.1,.own vh 25 db gV,.eE vI gV q.2.2.2.2.1,.own vh 25 dc gQ,.eE vI gQ q.2.2.2.2.2,.aJ gr [vP g,.int .i64 (m),.bool (b1)] 89,dI 142 lo hi g s1]:=
  (qn lo hi g gr m bd s w hN kD jv kN).mono fun _ _ h=>by rw[e]at h;exact h
def WH (w w' : World) (r : Value) : Option nf → Prop
  |none=>r=.tuple #[.agg #[.int .i64 (0),vN,vN,vN,vN,vN,vN,vN,vN,vN],.int .i64 5]∧Ext w w'
  |some x=>∃v rv wv gv fv ov iv db dc hf ho iy gV gQ,r=.tuple #[.agg #[.int .i64 x.n,v,rv,wv,gv,fv,ov,iv,db,dc],.int .i64 0]∧aI w none_ w' [.cp bJ 3 100 v x.ar,.own vI 3 rv x.rk,.cp aV 5 98 wv x.ws,.own vI 3 gv x.g,.own vh 25 fv hf,.eE vI hf x.far,.own vh 118 ov ho,.ez bG ho x.outs,.own vh 118 iv iy,.ez bG iy x.ins,.own vh 25 db gV,.eE vI gV x.so,.own vh 25 dc gQ,.eE vI gQ x.si]
theorem pV (v:Value) (l:List UInt8) (w:World) (hv:Sl vb w v l) (hl:l.length≤1048576):aM acx 15 #[v] w fun r w'=>WH w w' r (mB l):=by
 refine aM.aZ ae9 ?_
 rw[cM]
 have hN:=aI.nil w none_
 refine RW.aN ?_
 refine RL.aK (bz (cs:=[.int .i64 (0),vN,vN,vN,vN,vN,vN,vN,vN,vN]) fx rfl hN ?_)
 clear hN
 intro g1 w1 (hN:aI w none_ w1 [_])
 refine RL.ag (v:=.int .i64 (0)) ai (RL.b6 (RL.ag (v:=v) U ?_))
 refine RL.aK (bo agC rfl rfl rfl ((kK _ l _ (hv.ext hN.bc) hl).mono ?_))
 rintro v2 w2 ⟨nX,cE⟩
 replace hN:aI w none_ w2 [_,_,_]:=hN.fV cE
 clear cE
 refine RL.ag (v:=v2) ai (RL.ak ?_)
 iterate 2 refine RW.seq ?_
 refine RW.region (RL.ag (v:=v2) U ?_)
 have k9:=(hN.sl 0 rfl).bw
 refine RL.ag (aQ adA (hN.sl 0 rfl)) (RL.ag (bj) (RL.ak ?_))
 refine RW.aG _ (fun hlen=>?_) (fun hlen=>?_)
 refine RW.aN (RL.ag (bT (cs:=[.int .i64 (0),vN,vN,vN,vN,vN,vN,vN,vN,vN]) acL fx (places:=#[(0,2),(2,2),(4,6)]) (by intro w;kernel_rfl) (pl:=[]) rfl (ps:=[]) rfl (zc:=[.int .i64 (0),vN,vN,vN,vN,vN,vN,vN,vN,vN]) rfl rfl) ?_)
 refine RL.aK (aR (vs:=[.int .i64 (0),vN,vN,vN,vN,vN,vN,vN,vN,vN]) fg rfl rfl rfl (aW (aW (aW (aW (aW (aW (aW (aW (aW (aW cZ)))))))))) hN 2 rfl rfl ?_)
 clear hN
 intro w4 (hN:aI w none_ w4 [_,_,_])
 refine RL.ag (v:=.int .i64 (5)) ai (RL.ak (RW.ret (aT (bb (RV.eB rfl rfl (dJ (hN.aJ 2 rfl) acL rfl fg)) ?_))))
 rw[Fq (fun h_=>hlen (by have:=(hN.fm 1 rfl).1;omega))]
 exact⟨rfl,hN.bc⟩
 refine RW.skip (aw (RW.seq ?_))
 have Pd:(dd l).length=4:=by have:=(hN.fm 1 rfl).1;omega
 replace hN:=hN.ext (Ext.drew w2)
 refine RW.bD (fun u=>aI w none_ u [.own vh 38 (v2) (nX),.eE vb (nX) (dd l),.aJ g1 [.int .i64 (0),vN,vN,vN,vN,vN,vN,vN,vN,vN] 34]) 15 [(0,0),(1,0),(2,0),(4,0),(5,0),(6,0),(8,0),(9,0),(10,0),(3,1),(7,1),(11,1),(12,0),(13,0),(14,0)] (by intro _ _ _ h;exact h) hN (RQ.aA (v:=v2) rfl (fun w hS=>U) (RQ.aA rfl (fun w hS=>(aC adA jK (hS.sl 0 rfl))) ?_))
 have aO:=da (nX) 1
 obtain⟨WC,vX⟩:=aO
 have aO:∃l_,(dd l)[1]?=some l_:=⟨_,acE (by have:=(hN.fm 1 rfl).1;omega)⟩
 obtain⟨KT,qA⟩:=aO
 refine RQ.aA rfl (fun w hS=>(aF (m:=1) (a:=WC) acQ (hS.sl 0 rfl) vX)) ?_
 have ZQ:=oG (acy qA)
 refine RQ.aA (v:=v2) rfl (fun w hS=>U) (RQ.aA rfl (fun w hS=>(aC adA jK (hS.sl 0 rfl))) ?_)
 have aO:=da (nX) 2
 obtain⟨sH,jB⟩:=aO
 have aO:∃l_,(dd l)[2]?=some l_:=⟨_,acE (by have:=(hN.fm 1 rfl).1;omega)⟩
 obtain⟨KS,qz⟩:=aO
 refine RQ.aA rfl (fun w hS=>(aF (m:=2) (a:=sH) acQ (hS.sl 0 rfl) jB)) ?_
 have ZP:=oG (acy qz)
 refine RQ.aA (v:=v2) rfl (fun w hS=>U) (RQ.aA rfl (fun w hS=>(aC adA jK (hS.sl 0 rfl))) ?_)
 have aO:=da (nX) 3
 obtain⟨WB,E7⟩:=aO
 have aO:∃l_,(dd l)[3]?=some l_:=⟨_,acE (by have:=(hN.fm 1 rfl).1;omega)⟩
 obtain⟨KR,qy⟩:=aO
 refine RQ.aA rfl (fun w hS=>(aF (m:=3) (a:=WB) acQ (hS.sl 0 rfl) E7)) ?_
 have ZO:=oG (acy qy)
 refine RQ.b0 rfl (bo ahC rfl rfl rfl ((nA _ KT _ ((hN.fm 1 rfl).2 _ _ _ vX qA).1 (by omega)).mono ?_))
 rintro _ w5 ⟨AK,Uk,Vn,g5,rfl,cE⟩
 replace hN:aI w none_ w5 [_,_,_,_,_]:=hN.fV cE
 clear cE
 refine⟨(hN.sb [2,3,4]),?_⟩
 refine RQ.b0 rfl (bo ahC rfl rfl rfl ((nA _ KS _ ((hN.fm 3 rfl).2 _ _ _ jB qz).1 (by omega)).mono ?_))
 rintro _ w6 ⟨AJ,Uj,Vm,g6,rfl,cE⟩
 replace hN:aI w none_ w6 [_,_,_,_,_,_,_]:=hN.fV cE
 clear cE
 refine⟨(hN.sb [4,5,6]),?_⟩
 refine RQ.b0 rfl (bo ahC rfl rfl rfl ((nA _ KR _ ((hN.fm 5 rfl).2 _ _ _ E7 qy).1 (by omega)).mono ?_))
 rintro _ w7 ⟨AH,Ui,Vk,g7,rfl,cE⟩
 replace hN:aI w none_ w7 [_,_,_,_,_,_,_,_,_]:=hN.fV cE
 clear cE
 refine⟨(hN.sb [6,7,8]),?_⟩
 refine RQ.aA (v:=vP AK) rfl (fun w hS=>ai) (RQ.aA (v:=vP AJ) rfl (fun w hS=>ai) (RQ.aA (v:=vP AH) rfl (fun w hS=>ai) (RQ.bq (aw (RW.aN (RL.ag (v:=vP AK) U ?_))))))
 have qE:∃s1 b1 n ar,mW (KT.length:Int) ((KT,0),(false))=((s1,b1),(n,ar)):=⟨_,_,_,_,rfl⟩
 obtain⟨JO,JC,n8,Nb,Fa⟩:=qE
 refine RL.aK (bo Tryz.func42 rfl rfl rfl ((BM Uk Vn g5 AK (KT.length:Int) (false) (KT,0) _ (hN.di (M:=[_,_]) [4,5] (by decide) rfl) (by omega) (by omega) (by dsimp only;omega) Fa).mono ?_))
 rintro _ w8 ⟨v8,rfl,cE⟩
 replace hN:aI w none_ w8 [_,_,_,_,_,_,_,_,_,_]:=aI.dh (M:=[_,_]) (N:=[_,_,_,_,_,_,_]) (hN.sb [4,5,0,1,2,3,6,7,8]) cE
 clear cE
 refine RL.ag (v:=vP AJ) U ?_
 have qE:∃s1 b1 rk ws,j1 (KS.length:Int) ((KS,0),(false))=((s1,b1),(rk,ws)):=⟨_,_,_,_,rfl⟩
 obtain⟨QT,TW,L3,LO,Ls⟩:=qE
 refine RL.aK (bo Tryz.func43 rfl rfl rfl ((zH Uj Vm g6 AJ (KS.length:Int) (false) (KS,0) _ (hN.di (M:=[_,_]) [5,6] (by decide) rfl) (by omega) (by omega) (by dsimp only;omega) Ls).mono ?_))
 rintro _ w9 ⟨FM,FC,rfl,cE⟩
 replace hN:aI w none_ w9 [_,_,_,_,_,_,_,_,_,_,_,_]:=aI.dh (M:=[_,_]) (N:=[_,_,_,_,_,_,_,_]) (hN.sb [5,6,0,1,2,3,4,7,8,9]) cE
 clear cE
 refine RL.ag (v:=vP AH) U ?_
 have qE:∃s1 b1 g far outs ins so si,iL (KR.length:Int) ((KR,0),(false))=((s1,b1),(g,far,outs,ins,so,si)):=⟨_,_,_,_,_,_,_,_,rfl⟩
 obtain⟨xJ,Bd,CH,ry,nr,qW,zr,zt,qF⟩:=qE
 refine RL.aK (bo Tryz.func44 rfl rfl rfl ((vA Ui Vk g7 AH (KR.length:Int) (false) (KR,0) _ (hN.di (M:=[_,_]) [7,8] (by decide) rfl) (by omega) (by omega) (by dsimp only;omega) qF).mono ?_))
 rintro _ lW ⟨rR,rS,rG,rK,mL,mM,IB,HO,HZ,Ae,Ag,rfl,cE⟩
 replace hN:aI w none_ lW [_,_,_,_,_,_,_,_,_,_,_,_,_,_,_,_,_,_,_,_,_,_,_]:=aI.dh (M:=[_,_]) (N:=[_,_,_,_,_,_,_,_,_,_]) (hN.sb [7,8,0,1,2,3,4,5,6,9,10,11]) cE
 clear cE
 refine RL.ag (bT (cs:=[.int .i64 (n8),v8,FM,FC,rR,rS,rG,rK,mL,mM]) acL fx (places:=#[(0,2),(2,2),(4,6)]) (by intro w;kernel_rfl) (pl:=[(0,.tmp 30),(1,.tmp 32),(2,.tmp 34)]) rfl (ps:=[(0,.agg #[.int .i64 (n8),v8]),(1,.agg #[FM,FC]),(2,.agg #[rR,rS,rG,rK,mL,mM])]) rfl (zc:=[.int .i64 (0),vN,vN,vN,vN,vN,vN,vN,vN,vN]) rfl (aP (vs:=[.int .i64 (n8),v8]) rfl rfl (acv rfl) (aP (vs:=[FM,FC]) rfl rfl (acv rfl) (aP (vs:=[rR,rS,rG,rK,mL,mM]) rfl rfl (acv rfl) rfl)))) ?_
 refine RL.aK (bz (cs:=[.int .i64 (0),vN,vN,vN,vN,vN,vN,vN,vN,vN]) fx rfl hN ?_)
 clear hN
 intro Qx lR (hN:aI w none_ lR [_,_,_,_,_,_,_,_,_,_,_,_,_,_,_,_,_,_,_,_,_,_,_,_])
 refine RL.aK (aR (vs:=[.int .i64 (n8),v8,FM,FC,rR,rS,rG,rK,mL,mM]) fg rfl rfl rfl (by intro u hu;simp only[ac1,acV,or_false]at hu;rcases hu with rfl|rfl|rfl|rfl|rfl|rfl|rfl|rfl|rfl|rfl<;>first|rfl|exact(hN.sl 1 rfl).bW|exact(hN.sl 10 rfl).bW|exact(hN.sl 14 rfl).bW|exact(hN.sl 2 rfl).bW|exact(hN.sl 4 rfl).bW|exact(hN.sl 6 rfl).bW|exact(hN.sl 8 rfl).bW|exact(hN.sm 15 rfl).bW|exact(hN.sm 18 rfl).bW) hN 0 rfl rfl ?_)
 clear hN
 intro ll (hN:aI w none_ ll [_,_,_,_,_,_,_,_,_,_,_,_,_,_,_,_,_,_,_,_,_,_,_,_])
 refine RL.ak ?_
 iterate 2 refine RW.seq ?_
 refine RW.region (RL.ag (v:=vP AK) U (RL.ag (v:=vP AJ) U (RL.ag (v:=vP AH) U (RL.ag (qL (cs:=[vP AK,vP AJ,vP AH]) afX Kk Ni (pl:=[(0,.tmp 36),(1,.tmp 37),(2,.tmp 38)]) rfl (ps:=[(0,vP AK),(1,vP AJ),(2,vP AH)]) rfl (zc:=[.pointer none,.pointer none,.pointer none]) rfl (aP (vs:=[vP AK]) rfl rfl (acv rfl) (aP (vs:=[vP AJ]) rfl rfl (acv rfl) (aP (vs:=[vP AH]) rfl rfl (acv rfl) rfl)))) (RL.ag (v:=.int .i64 (0)) U (RL.ak (RW.block ?_)))))))
 refine RW.loop (fun k R0 cz=>∃i:Nat,R0 0=v∧R0 2=vP g1∧R0 8=vP Qx∧R0 39=.agg #[vP AK,vP AJ,vP AH]∧R0 40=vJ i∧aI w none_ cz [.aJ Qx [.int .i64 (n8),v8,FM,FC,rR,rS,rG,rK,mL,mM] 34,.own vI 3 (rR) (CH),.own vh 25 (rS) (IB),.eE vI (IB) (ry),.own vh 118 (rG) (HO),.ez bG (HO) (nr),.own vh 118 (rK) (HZ),.ez bG (HZ) (qW),.own vh 25 (mL) (Ae),.eE vI (Ae) (zr),.own vh 25 (mM) (Ag),.eE vI (Ag) (zt),.aJ AH [vP g7,.int .i64 ((KR.length:Int)),.bool (Bd)] 89,dI 142 Ui Vk g7 xJ,.own vI 3 (FM) (L3),.cp aV 5 98 (FC) (LO),.aJ AJ [vP g6,.int .i64 ((KS.length:Int)),.bool (TW)] 89,dI 142 Uj Vm g6 QT,.cp bJ 3 100 (v8) (Nb),.aJ AK [vP g5,.int .i64 ((KT.length:Int)),.bool (JC)] 89,dI 142 Uk Vn g5 JO,.own vh 38 (v2) (nX),.eE vb (nX) (dd l),.aJ g1 [.int .i64 (0),vN,vN,vN,vN,vN,vN,vN,vN,vN] 34]∧(i+k=3)∧((0<i→JC=false∧oa JO=0)∧(1<i→TW=false∧oa QT=0)∧(2<i→Bd=false∧oa xJ=0))) (3) ?_ ?_
 exact⟨0,rfl,rfl,rfl,rfl,rfl,hN,by omega,⟨fun h=>absurd h (by omega),fun h=>absurd h (by omega),fun h=>absurd h (by omega)⟩⟩
 clear hN
 rintro k R0 cz ⟨i,cH,bV,cR,Ak,Aj,hN,gk,Qo⟩
 have cB:=iw cH bV cR Ak Aj
 obtain⟨gF,rfl⟩:=cB
 clear cH bV cR Ak Aj
 refine RW.aN (RL.ag (aL) (RL.ak (RW.seq ?_)))
 refine RW.aG _ (fun Li=>?_) (fun Li=>?_)
 refine RW.skip (aw (RW.seq (RW.block (RW.seq ?_))))
 have xi:i=0∨i=1∨i=2:=by omega
 rcases xi with rfl|rfl|rfl
 refine RW.region (RL.ag (iW (cs:=[vP AK,vP AJ,vP AH]) afX aef rfl Kk rfl rfl (by omega) (by omega) rfl) (RL.ag (v:=vP AK) ai (RL.ak (RW.seq ?_))))
 cases JC
 refine RW.region (RL.ag (v:=vP AK) U (RL.ag (bM) (RL.ag (ah adx rfl oE) (RL.ag (aj aek (hN.aJ 19 rfl)) (RL.ag (v:=.bool false) U (RL.an (v:=vP AK) U (RL.an (bM) (RL.an (ah adx rfl D8) (RL.an (aj ad3 (hN.aJ 19 rfl)) ?_)))))))))
 refine RL.ed (bo ahw rfl rfl rfl ((qM _ _ _ JO _ (dI.says hN 20 rfl)).mono ?_))
 rintro _ _ ⟨rfl,rfl⟩
 refine RL.an (bj) (RL.ag (v:=.bool (decide (¬(oa JO)=0))) (aB) (RL.ak ?_))
 refine RW.aG _ (fun dY=>?_) (fun dY=>?_)
 refine RW.aN (RL.ag (bT (cs:=[.int .i64 (0),vN,vN,vN,vN,vN,vN,vN,vN,vN]) acL fx (places:=#[(0,2),(2,2),(4,6)]) (by intro w;kernel_rfl) (pl:=[]) rfl (ps:=[]) rfl (zc:=[.int .i64 (0),vN,vN,vN,vN,vN,vN,vN,vN,vN]) rfl rfl) ?_)
 refine RL.aK (aR (vs:=[.int .i64 (0),vN,vN,vN,vN,vN,vN,vN,vN,vN]) fg rfl rfl rfl (aW (aW (aW (aW (aW (aW (aW (aW (aW (aW cZ)))))))))) hN 23 rfl rfl ?_)
 clear hN
 intro o7 (hN:aI w none_ o7 [_,_,_,_,_,_,_,_,_,_,_,_,_,_,_,_,_,_,_,_,_,_,_,_])
 refine RL.ag (v:=.int .i64 (5)) ai (RL.ak (RW.ret (aX ?_)))
 iterate 2 refine aT ?_
 refine aX (aT (bb (RV.eB rfl rfl (dJ (hN.aJ 23 rfl) acL rfl fg)) ?_))
 have nY:=mb Fa Ls qF
 rw[if_neg (fun h_=>dY h_.1.2)]at nY
 rw[lP Pd qA qz qy nY]
 exact⟨rfl,hN.bc⟩
 refine RW.skip (aY (aw (RW.region (RL.ag (aD rfl rfl rfl (bh (by omega) (by omega))) (RL.ag (v:=.int .i64 (((0:Nat):Int)+1)) U (RL.ak ?_))))))
 exact⟨k-1,by omega,0+1,rfl,rfl,rfl,rfl,rfl,hN,by omega,⟨fun _=>⟨rfl,acU.1 dY⟩,fun h=>absurd h (by omega),fun h=>absurd h (by omega)⟩⟩
 refine RW.region (RL.ag (v:=vP AK) U (RL.ag (bM) (RL.ag (ah adx rfl oE) (RL.ag (aj aek (hN.aJ 19 rfl)) (RL.ag (v:=.bool true) U ?_)))))
 iterate 6 refine RL.bH ?_
 refine RL.ag (v:=.bool true) (al) (RL.ak (RW.bF (RW.aN (RL.ag (bT (cs:=[.int .i64 (0),vN,vN,vN,vN,vN,vN,vN,vN,vN]) acL fx (places:=#[(0,2),(2,2),(4,6)]) (by intro w;kernel_rfl) (pl:=[]) rfl (ps:=[]) rfl (zc:=[.int .i64 (0),vN,vN,vN,vN,vN,vN,vN,vN,vN]) rfl rfl) ?_))))
 refine RL.aK (aR (vs:=[.int .i64 (0),vN,vN,vN,vN,vN,vN,vN,vN,vN]) fg rfl rfl rfl (aW (aW (aW (aW (aW (aW (aW (aW (aW (aW cZ)))))))))) hN 23 rfl rfl ?_)
 clear hN
 intro qf (hN:aI w none_ qf [_,_,_,_,_,_,_,_,_,_,_,_,_,_,_,_,_,_,_,_,_,_,_,_])
 refine RL.ag (v:=.int .i64 (5)) ai (RL.ak (RW.ret (aX ?_)))
 iterate 2 refine aT ?_
 refine aX (aT (bb (RV.eB rfl rfl (dJ (hN.aJ 23 rfl) acL rfl fg)) ?_))
 have nY:=mb Fa Ls qF
 rw[if_neg (fun h_=>absurd h_.1.1 (by decide))]at nY
 rw[lP Pd qA qz qy nY]
 exact⟨rfl,hN.bc⟩
 refine RW.region (RL.ag (iW (cs:=[vP AK,vP AJ,vP AH]) afX aef rfl Kk rfl rfl (by omega) (by omega) rfl) (RL.ag (v:=vP AJ) ai (RL.ak (RW.seq ?_))))
 cases TW
 refine RW.region (RL.ag (v:=vP AJ) U (RL.ag (bM) (RL.ag (ah adx rfl oE) (RL.ag (aj aek (hN.aJ 16 rfl)) (RL.ag (v:=.bool false) U (RL.an (v:=vP AJ) U (RL.an (bM) (RL.an (ah adx rfl D8) (RL.an (aj ad3 (hN.aJ 16 rfl)) ?_)))))))))
 refine RL.ed (bo ahw rfl rfl rfl ((qM _ _ _ QT _ (dI.says hN 17 rfl)).mono ?_))
 rintro _ _ ⟨rfl,rfl⟩
 refine RL.an (bj) (RL.ag (v:=.bool (decide (¬(oa QT)=0))) (aB) (RL.ak ?_))
 refine RW.aG _ (fun dY=>?_) (fun dY=>?_)
 refine RW.aN (RL.ag (bT (cs:=[.int .i64 (0),vN,vN,vN,vN,vN,vN,vN,vN,vN]) acL fx (places:=#[(0,2),(2,2),(4,6)]) (by intro w;kernel_rfl) (pl:=[]) rfl (ps:=[]) rfl (zc:=[.int .i64 (0),vN,vN,vN,vN,vN,vN,vN,vN,vN]) rfl rfl) ?_)
 refine RL.aK (aR (vs:=[.int .i64 (0),vN,vN,vN,vN,vN,vN,vN,vN,vN]) fg rfl rfl rfl (aW (aW (aW (aW (aW (aW (aW (aW (aW (aW cZ)))))))))) hN 23 rfl rfl ?_)
 clear hN
 intro sQ (hN:aI w none_ sQ [_,_,_,_,_,_,_,_,_,_,_,_,_,_,_,_,_,_,_,_,_,_,_,_])
 refine RL.ag (v:=.int .i64 (5)) ai (RL.ak (RW.ret (aX ?_)))
 iterate 2 refine aT ?_
 refine aX (aT (bb (RV.eB rfl rfl (dJ (hN.aJ 23 rfl) acL rfl fg)) ?_))
 have nY:=mb Fa Ls qF
 rw[if_neg (fun h_=>dY h_.2.1.2)]at nY
 rw[lP Pd qA qz qy nY]
 exact⟨rfl,hN.bc⟩
 refine RW.skip (aY (aw (RW.region (RL.ag (aD rfl rfl rfl (bh (by omega) (by omega))) (RL.ag (v:=.int .i64 (((1:Nat):Int)+1)) U (RL.ak ?_))))))
 exact⟨k-1,by omega,1+1,rfl,rfl,rfl,rfl,rfl,hN,by omega,⟨fun _=>Qo.1 (by omega),fun _=>⟨rfl,acU.1 dY⟩,fun h=>absurd h (by omega)⟩⟩
 refine RW.region (RL.ag (v:=vP AJ) U (RL.ag (bM) (RL.ag (ah adx rfl oE) (RL.ag (aj aek (hN.aJ 16 rfl)) (RL.ag (v:=.bool true) U ?_)))))
 iterate 6 refine RL.bH ?_
 refine RL.ag (v:=.bool true) (al) (RL.ak (RW.bF (RW.aN (RL.ag (bT (cs:=[.int .i64 (0),vN,vN,vN,vN,vN,vN,vN,vN,vN]) acL fx (places:=#[(0,2),(2,2),(4,6)]) (by intro w;kernel_rfl) (pl:=[]) rfl (ps:=[]) rfl (zc:=[.int .i64 (0),vN,vN,vN,vN,vN,vN,vN,vN,vN]) rfl rfl) ?_))))
 refine RL.aK (aR (vs:=[.int .i64 (0),vN,vN,vN,vN,vN,vN,vN,vN,vN]) fg rfl rfl rfl (aW (aW (aW (aW (aW (aW (aW (aW (aW (aW cZ)))))))))) hN 23 rfl rfl ?_)
 clear hN
 intro u0 (hN:aI w none_ u0 [_,_,_,_,_,_,_,_,_,_,_,_,_,_,_,_,_,_,_,_,_,_,_,_])
 refine RL.ag (v:=.int .i64 (5)) ai (RL.ak (RW.ret (aX ?_)))
 iterate 2 refine aT ?_
 refine aX (aT (bb (RV.eB rfl rfl (dJ (hN.aJ 23 rfl) acL rfl fg)) ?_))
 have nY:=mb Fa Ls qF
 rw[if_neg (fun h_=>absurd h_.2.1.1 (by decide))]at nY
 rw[lP Pd qA qz qy nY]
 exact⟨rfl,hN.bc⟩
 refine RW.region (RL.ag (iW (cs:=[vP AK,vP AJ,vP AH]) afX aef rfl Kk rfl rfl (by omega) (by omega) rfl) (RL.ag (v:=vP AH) ai (RL.ak (RW.seq ?_))))
 cases Bd
 refine RW.region (RL.ag (v:=vP AH) U (RL.ag (bM) (RL.ag (ah adx rfl oE) (RL.ag (aj aek (hN.aJ 12 rfl)) (RL.ag (v:=.bool false) U (RL.an (v:=vP AH) U (RL.an (bM) (RL.an (ah adx rfl D8) (RL.an (aj ad3 (hN.aJ 12 rfl)) ?_)))))))))
 refine RL.ed (bo ahw rfl rfl rfl ((qM _ _ _ xJ _ (dI.says hN 13 rfl)).mono ?_))
 rintro _ _ ⟨rfl,rfl⟩
 refine RL.an (bj) (RL.ag (v:=.bool (decide (¬(oa xJ)=0))) (aB) (RL.ak ?_))
 refine RW.aG _ (fun dY=>?_) (fun dY=>?_)
 refine RW.aN (RL.ag (bT (cs:=[.int .i64 (0),vN,vN,vN,vN,vN,vN,vN,vN,vN]) acL fx (places:=#[(0,2),(2,2),(4,6)]) (by intro w;kernel_rfl) (pl:=[]) rfl (ps:=[]) rfl (zc:=[.int .i64 (0),vN,vN,vN,vN,vN,vN,vN,vN,vN]) rfl rfl) ?_)
 refine RL.aK (aR (vs:=[.int .i64 (0),vN,vN,vN,vN,vN,vN,vN,vN,vN]) fg rfl rfl rfl (aW (aW (aW (aW (aW (aW (aW (aW (aW (aW cZ)))))))))) hN 23 rfl rfl ?_)
 clear hN
 intro DY (hN:aI w none_ DY [_,_,_,_,_,_,_,_,_,_,_,_,_,_,_,_,_,_,_,_,_,_,_,_])
 refine RL.ag (v:=.int .i64 (5)) ai (RL.ak (RW.ret (aX ?_)))
 iterate 2 refine aT ?_
 refine aX (aT (bb (RV.eB rfl rfl (dJ (hN.aJ 23 rfl) acL rfl fg)) ?_))
 have nY:=mb Fa Ls qF
 rw[if_neg (fun h_=>dY h_.2.2.2)]at nY
 rw[lP Pd qA qz qy nY]
 exact⟨rfl,hN.bc⟩
 refine RW.skip (aY (aw (RW.region (RL.ag (aD rfl rfl rfl (bh (by omega) (by omega))) (RL.ag (v:=.int .i64 (((2:Nat):Int)+1)) U (RL.ak ?_))))))
 exact⟨k-1,by omega,2+1,rfl,rfl,rfl,rfl,rfl,hN,by omega,⟨fun _=>Qo.1 (by omega),fun _=>Qo.2.1 (by omega),fun _=>⟨rfl,acU.1 dY⟩⟩⟩
 refine RW.region (RL.ag (v:=vP AH) U (RL.ag (bM) (RL.ag (ah adx rfl oE) (RL.ag (aj aek (hN.aJ 12 rfl)) (RL.ag (v:=.bool true) U ?_)))))
 iterate 6 refine RL.bH ?_
 refine RL.ag (v:=.bool true) (al) (RL.ak (RW.bF (RW.aN (RL.ag (bT (cs:=[.int .i64 (0),vN,vN,vN,vN,vN,vN,vN,vN,vN]) acL fx (places:=#[(0,2),(2,2),(4,6)]) (by intro w;kernel_rfl) (pl:=[]) rfl (ps:=[]) rfl (zc:=[.int .i64 (0),vN,vN,vN,vN,vN,vN,vN,vN,vN]) rfl rfl) ?_))))
 refine RL.aK (aR (vs:=[.int .i64 (0),vN,vN,vN,vN,vN,vN,vN,vN,vN]) fg rfl rfl rfl (aW (aW (aW (aW (aW (aW (aW (aW (aW (aW cZ)))))))))) hN 23 rfl rfl ?_)
 clear hN
 intro C4 (hN:aI w none_ C4 [_,_,_,_,_,_,_,_,_,_,_,_,_,_,_,_,_,_,_,_,_,_,_,_])
 refine RL.ag (v:=.int .i64 (5)) ai (RL.ak (RW.ret (aX ?_)))
 iterate 2 refine aT ?_
 refine aX (aT (bb (RV.eB rfl rfl (dJ (hN.aJ 23 rfl) acL rfl fg)) ?_))
 have nY:=mb Fa Ls qF
 rw[if_neg (fun h_=>absurd h_.2.2.1 (by decide))]at nY
 rw[lP Pd qA qz qy nY]
 exact⟨rfl,hN.bc⟩
 refine RW.exit ?_
 iterate 2 refine bS ?_
 refine ba (aw ?_)
 iterate 2 refine RW.seq ?_
 have nY:=mb Fa Ls qF
 rw[if_pos ⟨Qo.1 (by omega),Qo.2.1 (by omega),Qo.2.2 (by omega)⟩]at nY
 have VH:=Ju Pd qA qz qy nY
 have n7:=El (B:=1048576) Fa Ls qF (by omega) (by omega) (by omega)
 have Vu:=n7.g
 have R6:=n7.fX (n:=n8)
 replace hN:=hN.ext (Ext.drew cz)
 refine RW.bD (fun u=>aI w none_ u [.aJ Qx [.int .i64 (n8),v8,FM,FC,rR,rS,rG,rK,mL,mM] 34,.own vI 3 (rR) (CH),.own vh 25 (rS) (IB),.eE vI (IB) (ry),.own vh 118 (rG) (HO),.ez bG (HO) (nr),.own vh 118 (rK) (HZ),.ez bG (HZ) (qW),.own vh 25 (mL) (Ae),.eE vI (Ae) (zr),.own vh 25 (mM) (Ag),.eE vI (Ag) (zt),.aJ AH [vP g7,.int .i64 ((KR.length:Int)),.bool (Bd)] 89,dI 142 Ui Vk g7 xJ,.own vI 3 (FM) (L3),.cp aV 5 98 (FC) (LO),.aJ AJ [vP g6,.int .i64 ((KS.length:Int)),.bool (TW)] 89,dI 142 Uj Vm g6 QT,.cp bJ 3 100 (v8) (Nb),.aJ AK [vP g5,.int .i64 ((KT.length:Int)),.bool (JC)] 89,dI 142 Uk Vn g5 JO,.own vh 38 (v2) (nX),.eE vb (nX) (dd l),.aJ g1 [.int .i64 (0),vN,vN,vN,vN,vN,vN,vN,vN,vN] 34]) 11 [(0,0),(1,1),(2,0),(3,0),(4,0),(7,0),(8,0),(5,1),(6,1),(9,0),(10,0)] (by intro _ _ _ h;exact h) hN (RQ.aA rfl (fun w hS=>(aE (cs:=[.int .i64 (n8),v8,FM,FC,rR,rS,rG,rK,mL,mM]) acL fg (hS.aJ 0 rfl))) ?_)
 refine RQ.b0 rfl (bo Tryz.func46 rfl rfl rfl ((yo (n8) _ _ _ Nb L3 LO _ (hN.sm 18 rfl) (hN.sl 14 rfl) (hN.sm 15 rfl) _ CH (hN.sl 1 rfl) _ IB ry (hN.sl 2 rfl) (hN.fm 3 rfl) _ HO nr (hN.sl 4 rfl) (hN.kF 5 rfl) _ HZ qW (hN.sl 6 rfl) (hN.kF 7 rfl) _ Ae zr (hN.sl 8 rfl) (hN.fm 9 rfl) _ Ag zt (hN.sl 10 rfl) (hN.fm 11 rfl) (acR Vu (by decide))).mono ?_))
 rintro _ y1 ⟨rfl,bn⟩
 replace hN:=hN.ext bn
 clear bn
 refine⟨hN,?_⟩
 refine RQ.aA rfl (fun w hS=>(bj)) (RQ.aA (v:=.bool (decide (¬(dC n8 Nb L3 LO CH ry nr qW zr zt)=0))) rfl (fun w hS=>U) ?_)
 by_cases TM:¬(dC n8 Nb L3 LO CH ry nr qW zr zt)=0
 rw[decide_eq_true TM]
 iterate 6 refine RQ.bU rfl ?_
 refine RQ.aA (v:=.bool true) rfl (fun w hS=>(al)) (RQ.bq (aw (RW.bF (RW.aN (RL.ag (bT (cs:=[.int .i64 (0),vN,vN,vN,vN,vN,vN,vN,vN,vN]) acL fx (places:=#[(0,2),(2,2),(4,6)]) (by intro w;kernel_rfl) (pl:=[]) rfl (ps:=[]) rfl (zc:=[.int .i64 (0),vN,vN,vN,vN,vN,vN,vN,vN,vN]) rfl rfl) ?_)))))
 refine RL.aK (aR (vs:=[.int .i64 (0),vN,vN,vN,vN,vN,vN,vN,vN,vN]) fg rfl rfl rfl (aW (aW (aW (aW (aW (aW (aW (aW (aW (aW cZ)))))))))) hN 23 rfl rfl ?_)
 clear hN
 intro zk (hN:aI w none_ zk [_,_,_,_,_,_,_,_,_,_,_,_,_,_,_,_,_,_,_,_,_,_,_,_])
 refine RL.ag (v:=.int .i64 (5)) ai (RL.ak (RW.ret (aT (bb (RV.eB rfl rfl (dJ (hN.aJ 23 rfl) acL rfl fg)) ?_))))
 rw[VH,if_neg (fun h_=>TM h_.1)]
 exact⟨rfl,hN.bc⟩
 rw[decide_eq_false TM]
 refine RQ.aS rfl (fun w hS=>(aE (cs:=[.int .i64 (n8),v8,FM,FC,rR,rS,rG,rK,mL,mM]) acL fg (hS.aJ 0 rfl))) (RQ.aS (v:=v) rfl (fun w hS=>U) (RQ.aS rfl (fun w hS=>(jP acQ adr aed (hv.ext hS.bc) rfl)) ?_))
 refine RQ.ob rfl rfl rfl rfl (bo ahB rfl rfl rfl ((mA n8 Nb L3 LO CH ry nr qW zr zt _ _ _ _ _ _ _ _ _ _ _ _ _ _ _ (hN.sm 18 rfl) (hN.sl 14 rfl) (hN.sm 15 rfl) ⟨(hN.sl 1 rfl).o,(hN.sl 2 rfl).o,(hN.fm 3 rfl),(hN.sl 4 rfl).o,(hN.kF 5 rfl),(hN.sl 6 rfl).o,(hN.kF 7 rfl),(hN.sl 8 rfl).o,(hN.fm 9 rfl),(hN.sl 10 rfl).o,(hN.fm 11 rfl)⟩ (acR n7.ar (by omega)) (acR n7.rk (by omega)) (acR n7.ws (by omega)) (acR n7.g (by omega)) ⟨acR n7.far.1 (by omega),fun r hr=>acR (n7.far.2 r hr) (by omega)⟩ ⟨acR n7.outs.1 (by omega),fun r hr=>acR (n7.outs.2 r hr) (by omega)⟩ ⟨acR n7.ins.1 (by omega),fun r hr=>acR (n7.ins.2 r hr) (by omega)⟩ ⟨acR n7.so.1 (by omega),fun r hr=>acR (n7.so.2 r hr) (by omega)⟩ ⟨acR n7.si.1 (by omega),fun r hr=>acR (n7.si.2 r hr) (by omega)⟩ (by omega)).mono ?_))
 rintro Tx C3 ⟨cL,bn⟩
 replace hN:aI w none_ C3 [_,_,_,_,_,_,_,_,_,_,_,_,_,_,_,_,_,_,_,_,_,_,_,_,_]:=hN.cc (l:=cP (dA n8 Nb L3 LO CH ry nr qW zr zt)) cL bn
 clear cL bn
 refine⟨(hN.sb [1,2,3,4,5,6,7,8,9,10,11,12,13,14,15,16,17,18,19,20,21,22,23,24]),?_⟩
 refine RQ.ob rfl rfl rfl rfl (eL.ev (jP acQ adr aed (hN.sl 0 rfl) rfl) ⟨(hN.sb [1,2,3,4,5,6,7,8,9,10,11,12,13,14,15,16,17,18,19,20,21,22,23,24]),?_⟩)
 refine RQ.aS rfl (fun w hS=>(AU rfl rfl)) (RQ.aA (v:=.bool (decide (¬(cP (dA n8 Nb L3 LO CH ry nr qW zr zt))=l))) rfl (fun w hS=>(aB)) (RQ.bq (aw ?_)))
 refine RW.aG _ (fun ic=>?_) (fun ic=>?_)
 refine RW.aN (RL.ag (bT (cs:=[.int .i64 (0),vN,vN,vN,vN,vN,vN,vN,vN,vN]) acL fx (places:=#[(0,2),(2,2),(4,6)]) (by intro w;kernel_rfl) (pl:=[]) rfl (ps:=[]) rfl (zc:=[.int .i64 (0),vN,vN,vN,vN,vN,vN,vN,vN,vN]) rfl rfl) ?_)
 refine RL.aK (aR (vs:=[.int .i64 (0),vN,vN,vN,vN,vN,vN,vN,vN,vN]) fg rfl rfl rfl (aW (aW (aW (aW (aW (aW (aW (aW (aW (aW cZ)))))))))) hN 24 rfl rfl ?_)
 clear hN
 intro LW (hN:aI w none_ LW [_,_,_,_,_,_,_,_,_,_,_,_,_,_,_,_,_,_,_,_,_,_,_,_,_])
 refine RL.ag (v:=.int .i64 (5)) ai (RL.ak (RW.ret (aT (bb (RV.eB rfl rfl (dJ (hN.aJ 24 rfl) acL rfl fg)) ?_))))
 rw[VH,if_neg (fun h_=>ic h_.2)]
 exact⟨rfl,hN.bc⟩
 refine RW.skip (aw (RW.aN (RL.ag (aE (cs:=[.int .i64 (n8),v8,FM,FC,rR,rS,rG,rK,mL,mM]) acL fg (hN.aJ 1 rfl)) ?_)))
 refine RL.aK (aR (vs:=[.int .i64 (n8),v8,FM,FC,rR,rS,rG,rK,mL,mM]) fg rfl rfl rfl (by intro u hu;simp only[ac1,acV,or_false]at hu;rcases hu with rfl|rfl|rfl|rfl|rfl|rfl|rfl|rfl|rfl|rfl<;>first|rfl|exact(hN.sl 11 rfl).bW|exact(hN.sl 15 rfl).bW|exact(hN.sl 2 rfl).bW|exact(hN.sl 3 rfl).bW|exact(hN.sl 5 rfl).bW|exact(hN.sl 7 rfl).bW|exact(hN.sl 9 rfl).bW|exact(hN.sm 16 rfl).bW|exact(hN.sm 19 rfl).bW) hN 24 rfl rfl ?_)
 clear hN
 intro DX (hN:aI w none_ DX [_,_,_,_,_,_,_,_,_,_,_,_,_,_,_,_,_,_,_,_,_,_,_,_,_])
 refine RL.ag (v:=.int .i64 (0)) ai (RL.ak (RW.ret (bb (RV.eB rfl rfl (dJ (hN.aJ 24 rfl) acL rfl fg)) ?_)))
 rw[VH,if_pos ⟨acU.1 TM,acU.1 ic⟩]
 exact⟨_,_,_,_,_,_,_,_,_,_,_,_,_,_,rfl,hN.sb [19,15,16,2,3,4,5,6,7,8,9,10,11,12]⟩
end Go.Proofs.YtngkdkbpgoddlaaGreat
namespace Go.Proofs.YtngkdkbpgoddlaaGreat
open Go.RowKit Go.Rl
open Go.Gr Go.dn Go.jJ
end Go.Proofs.YtngkdkbpgoddlaaGreat
namespace Go.Proofs.YtngkdkbpgoddlaaGreat
open Go.RowKit Go.Rl
open Go.Gr Go.dn Go.jJ
end Go.Proofs.YtngkdkbpgoddlaaGreat
namespace Go.Proofs.YtngkdkbpgoddlaaGreat
open Go.RowKit Go.Rl
open Go.Gr Go.dn Go.jJ
end Go.Proofs.YtngkdkbpgoddlaaGreat
namespace Go.Proofs.YtngkdkbpgoddlaaGreat
open Go.RowKit Go.Rl
open Go.Gr Go.dn Go.jJ
end Go.Proofs.YtngkdkbpgoddlaaGreat
namespace Go.Proofs.YtngkdkbpgoddlaaGreat
open Go.RowKit Go.Rl
open Go.Gr Go.dn Go.jJ
end Go.Proofs.YtngkdkbpgoddlaaGreat
namespace Go.Gr
open Go.Rl Go.dn Go.jJ
end Go.Gr
namespace Go.Proofs.YtngkdkbpgoddlaaGreat
open Go.RowKit Go.Rl
open Go.Gr Go.dn Go.jJ
end Go.Proofs.YtngkdkbpgoddlaaGreat
namespace Go.Proofs.YtngkdkbpgoddlaaGreat
open Go.RowKit Go.Rl
open Go.Gr Go.dn Go.jJ
end Go.Proofs.YtngkdkbpgoddlaaGreat
namespace Go.Proofs.YtngkdkbpgoddlaaGreat
open Go.RowKit Go.Rl
open Go.Gr Go.dn Go.jJ
end Go.Proofs.YtngkdkbpgoddlaaGreat
namespace Go.Proofs.YtngkdkbpgoddlaaGreat
open Go.RowKit Go.Rl
open Go.Gr Go.dn Go.jJ
end Go.Proofs.YtngkdkbpgoddlaaGreat
namespace Go.Proofs.YtngkdkbpgoddlaaGreat
open Go.RowKit Go.Rl
open Go.Gr Go.dn Go.jJ
def IC (b:List UInt8):List UInt8:=(dd b).headD []
def KA (b:List UInt8):Prop:=(dd b).length=4∧(IC b).length=11∧(IC b).take 3=[80,82,49]
instance (b:List UInt8):Decidable (KA b):=inferInstanceAs (Decidable (_∧_))
end Go.Proofs.YtngkdkbpgoddlaaGreat
namespace Go.Proofs.YtngkdkbpgoddlaaGreat
open Go.RowKit Go.Rl
open Go.Gr Go.dn Go.jJ
def uY (x:nf):Prop:=60<x.ar.length∨14<x.rk.length∨90<x.ws.length∨900<wr (kj x:Int)
instance (x:nf):Decidable (uY x):=inferInstanceAs (Decidable (_∨_))
theorem tT {x:nf} (h:60<x.ar.length∨14<x.rk.length∨90<x.ws.length):uY x:=h.elim .inl fun h=>h.elim (fun h=>.inr (.inl h)) fun h=>.inr (.inr (.inl h))
theorem EN {x:nf} (h1:¬60<x.ar.length) (h2:¬14<x.rk.length) (h3:¬90<x.ws.length):900<wr (kj x:Int)↔uY x:=
  ⟨fun h=>.inr (.inr (.inr h)),fun h=>h.elim (fun h=>absurd h h1) fun h=>h.elim (fun h=>absurd h h2) fun h=>h.elim (fun h=>absurd h h3) id⟩
theorem yh (x:nf) (v rv wv gv fv ov iv db dc:Value) (hf ho hi gV gQ:List Hd) (w:World) (hv:Sm bJ w v x.ar) (hr:Sl vI w rv x.rk) (hw:Sm aV w wv x.ws) (hT:pZ none_ w gv x.g fv hf x.far ov ho x.outs iv hi x.ins db gV x.so dc gQ x.si):aM acx 17 #[.agg #[.int .i64 x.n,v,rv,wv,gv,fv,ov,iv,db,dc]] w fun r w'=>r=.bool (decide (uY x))∧Ext w w':=by
 refine aM.aZ Tryz.func17 ?_
 rw[cM]
 have hN:=aI.nil w none_
 refine RW.aN ?_
 refine RL.aK (bL (cs:=[.int .i64 (x.n),v,rv,wv,gv,fv,ov,iv,db,dc]) rfl rfl hN ?_)
 clear hN
 intro g1 w1 (hN:aI w none_ w1 [_])
 refine RL.ag (v:=.bool false) ai (RL.b6 (RL.ag (ah acL rfl dN) (RL.ag (ah acI rfl fz) (RL.ag (aj acM (hN.aJ 0 rfl)) ?_))))
 have jm:=(hv.o.now hN).bw
 refine RL.ag (bO acM (hv.o.now hN)) (RL.ag (cr) (RL.ag (v:=.bool (decide (60<(x.ar.length:Int)))) U ?_))
 by_cases ha:60<(x.ar.length:Int)
 rw[decide_eq_true ha]
 iterate 5 refine RL.bH ?_
 refine RL.ag (v:=.bool true) (al) (RL.ag (v:=.bool true) U ?_)
 iterate 5 refine RL.bH ?_
 refine RL.ag (v:=.bool true) (al) (RL.ag (v:=.bool true) U ?_)
 iterate 4 refine RL.bH ?_
 refine RL.ag (v:=.bool true) (al) (RL.ag (v:=.bool true) ai (RL.ak (RW.ret (bb (RV.tmp rfl) ?_))))
 exact⟨congrArg acO (decide_eq_true (tT (by omega))).symm,hN.bc⟩
 rw[decide_eq_false ha]
 refine RL.an (ah acL rfl dy) (RL.an (ah acz rfl cj) (RL.an (aj acu (hN.aJ 0 rfl)) ?_))
 have k9:=(hr.o.now hN).bw
 refine RL.an (aQ acu (hr.o.now hN)) (RL.an (cr) (RL.ag (v:=.bool (decide (14<(x.rk.length:Int)))) (aB) (RL.ag (v:=.bool (decide (14<(x.rk.length:Int)))) U ?_)))
 by_cases hb:14<(x.rk.length:Int)
 rw[decide_eq_true hb]
 iterate 5 refine RL.bH ?_
 refine RL.ag (v:=.bool true) (al) (RL.ag (v:=.bool true) U ?_)
 iterate 4 refine RL.bH ?_
 refine RL.ag (v:=.bool true) (al) (RL.ag (v:=.bool true) ai (RL.ak (RW.ret (bb (RV.tmp rfl) ?_))))
 exact⟨congrArg acO (decide_eq_true (tT (by omega))).symm,hN.bc⟩
 rw[decide_eq_false hb]
 refine RL.an (ah acL rfl dy) (RL.an (ah acz rfl eM) (RL.an (aj acG (hN.aJ 0 rfl)) ?_))
 have uJ:=(hw.o.now hN).bw
 refine RL.an (bO acG (hw.o.now hN)) (RL.an (cr) (RL.ag (v:=.bool (decide (90<(x.ws.length:Int)))) (aB) (RL.ag (v:=.bool (decide (90<(x.ws.length:Int)))) U ?_)))
 by_cases hc:90<(x.ws.length:Int)
 rw[decide_eq_true hc]
 iterate 4 refine RL.bH ?_
 refine RL.ag (v:=.bool true) (al) (RL.ag (v:=.bool true) ai (RL.ak (RW.ret (bb (RV.tmp rfl) ?_))))
 exact⟨congrArg acO (decide_eq_true (tT (by omega))).symm,hN.bc⟩
 rw[decide_eq_false hc]
 refine RL.an (ah acL rfl iD) (RL.an (dG (cs:=[.int .i64 (x.n),v,rv,wv,gv,fv,ov,iv,db,dc]) (j:=4) (m:=6) acK rfl iD rfl (hN.aJ 0 rfl) (acv rfl)) ?_)
 refine RL.ed (bo Tryz.func47 rfl rfl rfl ((yi _ _ _ _ _ _ x.g x.far x.outs x.ins x.so x.si _ _ _ _ _ _ (hT.ext hN.bc)).mono ?_))
 rintro _ w5 ⟨rfl,bn⟩
 replace hN:=hN.ext bn
 clear bn
 refine RL.an (cr) (RL.ag (v:=.bool (decide (900<(wr (kj x:Int))))) (aB) (RL.ag (v:=.bool (decide (900<(wr (kj x:Int))))) ai (RL.ak (RW.ret (bb (RV.tmp rfl) ?_)))))
 exact⟨congrArg acO (decide_eq_decide.2 (EN (by omega) (by omega) (by omega))),hN.bc⟩
end Go.Proofs.YtngkdkbpgoddlaaGreat
namespace Go.Proofs.YtngkdkbpgoddlaaGreat
open Go.RowKit Go.Rl
open Go.Gr
theorem HA {a b:I2}:(a.1=b.1∧a.2=b.2)↔a=b:=⟨fun h=>adL h.1 h.2,fun h=>by rw[h];exact⟨rfl,rfl⟩⟩
theorem Hz {a b:I3}:(a.1=b.1∧a.2.1=b.2.1∧a.2.2=b.2.2)↔a=b:=⟨fun h=>adL h.1 (adL h.2.1 h.2.2),fun h=>by rw[h];exact⟨rfl,rfl,rfl⟩⟩
theorem Hy {a b:I5}:(a.1=b.1∧a.2.1=b.2.1∧a.2.2.1=b.2.2.1∧a.2.2.2.1=b.2.2.2.1∧a.2.2.2.2=b.2.2.2.2)↔a=b:=⟨fun h=>adL h.1 (adL h.2.1 (adL h.2.2.1 (adL h.2.2.2.1 h.2.2.2.2))),fun h=>by rw[h];exact⟨rfl,rfl,rfl,rfl,rfl⟩⟩
theorem vu (av bv:Value) (a b:List I2) (w:World) (ha:Sm bG w av a) (hb:Sm bG w bv b):aM acx 154 #[av,bv] w fun r w'=>r=.bool (decide (a=b))∧Ext w w':=by
 refine aM.aZ akd ?_
 rw[cT]
 have hN:=aI.nil w none_
 refine RW.aN (RL.ag (v:=.bool false) ai (RL.ak ?_))
 iterate 2 refine RW.seq ?_
 refine RW.region (RL.ag (v:=av) U ?_)
 have nG:=(ha.o.now hN).bw
 refine RL.ag (bO acW (ha.o.now hN)) (RL.ag (v:=bv) U ?_)
 have jm:=(hb.o.now hN).bw
 refine RL.ag (bO acW (hb.o.now hN)) (RL.ag (bj) (RL.ak ?_))
 refine RW.aG _ (fun dY=>?_) (fun dY=>?_)
 refine RW.aN (RL.ag (v:=.bool false) ai (RL.ak (RW.ret (aT (bb (RV.tmp rfl) ?_)))))
 exact⟨congrArg acO (decide_eq_false (fun e:a=b=>dY (by rw[e]))).symm,hN.bc⟩
 refine RW.skip (aw ?_)
 iterate 2 refine RW.seq ?_
 refine RW.region (RL.ag (v:=.int .i64 (0)) ai (RL.ak (RW.block ?_)))
 refine RW.loop (fun k R0 cz=>∃i:Nat,R0 0=av∧R0 1=bv∧R0 5=vJ i∧aI w none_ cz []∧(i+k=a.length)∧(a.length=b.length)∧(a.take i=b.take i)) (a.length) ?_ ?_
 exact⟨0,rfl,rfl,rfl,hN,by omega,by omega,rfl⟩
 clear hN
 rintro k R0 cz ⟨i,cH,bP,cx,hN,gk,Mb,ht⟩
 have cB:=ln cH bP cx
 obtain⟨gF,rfl⟩:=cB
 clear cH bP cx
 iterate 2 refine RW.seq ?_
 refine RW.region (RL.ag (v:=vJ i) U (RL.ag (v:=av) U (RL.ag (bO acW (ha.o.now hN)) (RL.ag (aL) (RL.ak ?_)))))
 refine RW.aG _ (fun cD=>?_) (fun cD=>?_)
 refine RW.skip (aw (RW.seq (RW.block (RW.seq ?_))))
 replace hN:=hN.ext (Ext.drew cz)
 refine RW.bD (fun u=>aI w none_ u []) 9 [(0,0),(1,0),(2,0),(3,0),(4,0),(5,0),(6,0),(7,0),(8,0)] (by intro _ _ _ h;exact h) hN (RQ.aA (v:=av) rfl (fun w hS=>U) (RQ.aA (v:=vJ i) rfl (fun w hS=>U) (RQ.aA rfl (fun w hS=>(aU acW ef bp (ha.o.now hS))) ?_)))
 have aO:=da (a) i
 obtain⟨ap,bX⟩:=aO
 refine RQ.aA rfl (fun w hS=>(b8 (m:=i) (a:=ap) acS ef bp (ha.o.now hS) bX (cs:=[.int .i64 (ap.1),.int .i64 (ap.2)]))) (RQ.aA (v:=bv) rfl (fun w hS=>U) (RQ.aA (v:=vJ i) rfl (fun w hS=>U) (RQ.aA rfl (fun w hS=>(aU acW ef bp (hb.o.now hS))) ?_)))
 have aO:=da (b) i
 obtain⟨aq,iB⟩:=aO
 refine RQ.aA rfl (fun w hS=>(b8 (m:=i) (a:=aq) acS ef bp (hb.o.now hS) iB (cs:=[.int .i64 (aq.1),.int .i64 (aq.2)]))) (RQ.aA rfl (fun w hS=>(pT (p:=ap.1=aq.1∧ap.2=aq.2) rfl rfl (by kernel_rfl) (nb.iff (nb.struct acS (by kernel_rfl) rfl (qa.cons (by decide) (dE.leaf acs rfl) (dE.leaf acs rfl) (nb.int acs) (qa.cons (by decide) (dE.leaf acs rfl) (dE.leaf acs rfl) (nb.int acs) qa.nil))) (by simp only[adm,decide_eq_true_eq,and_true])))) (RQ.bq (aw ?_)))
 refine RW.aG _ (fun j7=>?_) (fun j7=>?_)
 refine RW.aN (RL.ag (v:=.bool false) ai (RL.ak (RW.ret (aX ?_))))
 iterate 2 refine aT ?_
 refine aX (aT (bb (RV.tmp rfl) ?_))
 exact⟨congrArg acO (decide_eq_false (fun e:a=b=>j7 (by subst e;rw[bX]at iB;exact HA.2 (ac2 iB)))).symm,hN.bc⟩
 refine RW.skip (aY (aw (RW.region (RL.ag (v:=vJ i) U (RL.ag (aD rfl rfl rfl (bh (by omega) (by omega))) (RL.ag (v:=.int .i64 ((i:Int)+1)) ai (RL.ak ?_)))))))
 exact⟨k-1,by omega,i+1,rfl,rfl,rfl,hN,by omega,by omega,by rw[dM bX,dM iB,ht,HA.1 (acU.1 j7)]⟩
 refine RW.exit ?_
 iterate 2 refine bS ?_
 refine ba (aw (RW.aN (RL.ag (v:=.bool true) ai (RL.ak (RW.ret (bb (RV.tmp rfl) ?_))))))
 rw[show i=a.length by omega,adn,acX (by omega)]at ht
 exact⟨congrArg acO (decide_eq_true ht).symm,hN.bc⟩
theorem tc (av bv:Value) (a b:List I5) (w:World) (ha:Sm aV w av a) (hb:Sm aV w bv b):aM acx 87 #[av,bv] w fun r w'=>r=.bool (decide (a=b))∧Ext w w':=by
 refine aM.aZ Tryz.func87 ?_
 rw[cT]
 have hN:=aI.nil w none_
 refine RW.aN (RL.ag (v:=.bool false) ai (RL.ak ?_))
 iterate 2 refine RW.seq ?_
 refine RW.region (RL.ag (v:=av) U ?_)
 have nG:=(ha.o.now hN).bw
 refine RL.ag (bO acG (ha.o.now hN)) (RL.ag (v:=bv) U ?_)
 have jm:=(hb.o.now hN).bw
 refine RL.ag (bO acG (hb.o.now hN)) (RL.ag (bj) (RL.ak ?_))
 refine RW.aG _ (fun dY=>?_) (fun dY=>?_)
 refine RW.aN (RL.ag (v:=.bool false) ai (RL.ak (RW.ret (aT (bb (RV.tmp rfl) ?_)))))
 exact⟨congrArg acO (decide_eq_false (fun e:a=b=>dY (by rw[e]))).symm,hN.bc⟩
 refine RW.skip (aw ?_)
 iterate 2 refine RW.seq ?_
 refine RW.region (RL.ag (v:=.int .i64 (0)) ai (RL.ak (RW.block ?_)))
 refine RW.loop (fun k R0 cz=>∃i:Nat,R0 0=av∧R0 1=bv∧R0 5=vJ i∧aI w none_ cz []∧(i+k=a.length)∧(a.length=b.length)∧(a.take i=b.take i)) (a.length) ?_ ?_
 exact⟨0,rfl,rfl,rfl,hN,by omega,by omega,rfl⟩
 clear hN
 rintro k R0 cz ⟨i,cH,bP,cx,hN,gk,Mb,ht⟩
 have cB:=ln cH bP cx
 obtain⟨gF,rfl⟩:=cB
 clear cH bP cx
 iterate 2 refine RW.seq ?_
 refine RW.region (RL.ag (v:=vJ i) U (RL.ag (v:=av) U (RL.ag (bO acG (ha.o.now hN)) (RL.ag (aL) (RL.ak ?_)))))
 refine RW.aG _ (fun cD=>?_) (fun cD=>?_)
 refine RW.skip (aw (RW.seq (RW.block (RW.seq ?_))))
 replace hN:=hN.ext (Ext.drew cz)
 refine RW.bD (fun u=>aI w none_ u []) 9 [(0,0),(1,0),(2,0),(3,0),(4,0),(5,0),(6,0),(7,0),(8,0)] (by intro _ _ _ h;exact h) hN (RQ.aA (v:=av) rfl (fun w hS=>U) (RQ.aA (v:=vJ i) rfl (fun w hS=>U) (RQ.aA rfl (fun w hS=>(aU acG er aH (ha.o.now hS))) ?_)))
 have aO:=da (a) i
 obtain⟨ap,bX⟩:=aO
 refine RQ.aA rfl (fun w hS=>(b8 (m:=i) (a:=ap) acB er aH (ha.o.now hS) bX (cs:=[.int .i64 (ap.1),.int .i64 (ap.2.1),.int .i64 (ap.2.2.1),.int .i64 (ap.2.2.2.1),.int .i64 (ap.2.2.2.2)]))) (RQ.aA (v:=bv) rfl (fun w hS=>U) (RQ.aA (v:=vJ i) rfl (fun w hS=>U) (RQ.aA rfl (fun w hS=>(aU acG er aH (hb.o.now hS))) ?_)))
 have aO:=da (b) i
 obtain⟨aq,iB⟩:=aO
 refine RQ.aA rfl (fun w hS=>(b8 (m:=i) (a:=aq) acB er aH (hb.o.now hS) iB (cs:=[.int .i64 (aq.1),.int .i64 (aq.2.1),.int .i64 (aq.2.2.1),.int .i64 (aq.2.2.2.1),.int .i64 (aq.2.2.2.2)]))) (RQ.aA rfl (fun w hS=>(pT (p:=ap.1=aq.1∧ap.2.1=aq.2.1∧ap.2.2.1=aq.2.2.1∧ap.2.2.2.1=aq.2.2.2.1∧ap.2.2.2.2=aq.2.2.2.2) rfl rfl (by kernel_rfl) (nb.iff (nb.struct acB (by kernel_rfl) rfl (qa.cons (by decide) (dE.leaf acs rfl) (dE.leaf acs rfl) (nb.int acs) (qa.cons (by decide) (dE.leaf acs rfl) (dE.leaf acs rfl) (nb.int acs) (qa.cons (by decide) (dE.agg acH cU rfl) (dE.agg acH cU rfl) (nb.struct acH (by kernel_rfl) rfl (qa.cons (by decide) (dE.leaf acs rfl) (dE.leaf acs rfl) (nb.int acs) (qa.cons (by decide) (dE.leaf acs rfl) (dE.leaf acs rfl) (nb.int acs) (qa.cons (by decide) (dE.leaf acs rfl) (dE.leaf acs rfl) (nb.int acs) qa.nil)))) qa.nil)))) (by simp only[adm,decide_eq_true_eq,and_true])))) (RQ.bq (aw ?_)))
 refine RW.aG _ (fun j7=>?_) (fun j7=>?_)
 refine RW.aN (RL.ag (v:=.bool false) ai (RL.ak (RW.ret (aX ?_))))
 iterate 2 refine aT ?_
 refine aX (aT (bb (RV.tmp rfl) ?_))
 exact⟨congrArg acO (decide_eq_false (fun e:a=b=>j7 (by subst e;rw[bX]at iB;exact Hy.2 (ac2 iB)))).symm,hN.bc⟩
 refine RW.skip (aY (aw (RW.region (RL.ag (v:=vJ i) U (RL.ag (aD rfl rfl rfl (bh (by omega) (by omega))) (RL.ag (v:=.int .i64 ((i:Int)+1)) ai (RL.ak ?_)))))))
 exact⟨k-1,by omega,i+1,rfl,rfl,rfl,hN,by omega,by omega,by rw[dM bX,dM iB,ht,Hy.1 (acU.1 j7)]⟩
 refine RW.exit ?_
 iterate 2 refine bS ?_
 refine ba (aw (RW.aN (RL.ag (v:=.bool true) ai (RL.ak (RW.ret (bb (RV.tmp rfl) ?_))))))
 rw[show i=a.length by omega,adn,acX (by omega)]at ht
 exact⟨congrArg acO (decide_eq_true ht).symm,hN.bc⟩
theorem vv (n m:Int) (av bv:Value) (a b:List I3) (w:World) (ha:Sm bJ w av a) (hb:Sm bJ w bv b):aM acx 33 #[.agg #[.int .i64 n,av],.agg #[.int .i64 m,bv]] w fun r w'=>r=.bool (decide (n=m∧a=b))∧Ext w w':=by
 refine aM.aZ Tryz.func33 ?_
 rw[cT]
 have hN:=aI.nil w none_
 refine RW.aN ?_
 refine RL.aK (bL (cs:=[.int .i64 (n),av]) rfl rfl hN ?_)
 clear hN
 intro g1 w1 (hN:aI w none_ w1 [_])
 refine RL.aK (bL (cs:=[.int .i64 (m),bv]) rfl rfl hN ?_)
 clear hN
 intro g2 w2 (hN:aI w none_ w2 [_,_])
 refine RL.ag (v:=.bool false) ai (RL.ak ?_)
 iterate 2 refine RW.seq ?_
 refine RW.region (RL.ag (ah acI rfl bK) (RL.ag (aj acs (hN.aJ 1 rfl)) (RL.ag (ah acI rfl bK) (RL.ag (aj acs (hN.aJ 0 rfl)) (RL.ag (bj) (RL.ag (v:=.bool (decide (¬n=m))) U ?_))))))
 by_cases rq:¬n=m
 rw[decide_eq_true rq]
 iterate 7 refine RL.bH ?_
 refine RL.ag (v:=.bool true) (al) (RL.ak (RW.bF (RW.aN (RL.ag (v:=.bool false) ai (RL.ak (RW.ret ?_))))))
 refine aT (bb (RV.tmp rfl) ?_)
 exact⟨congrArg acO (decide_eq_false (fun e:n=m∧a=b=>by obtain⟨e1,e2⟩:=e;have e3:=congrArg adg e2;first|contradiction|omega)).symm,hN.bc⟩
 rw[decide_eq_false rq]
 refine RL.an (ah acI rfl fz) (RL.an (aj acM (hN.aJ 1 rfl)) ?_)
 have k9:=(ha.o.now hN).bw
 refine RL.an (bO acM (ha.o.now hN)) (RL.an (ah acI rfl fz) (RL.an (aj acM (hN.aJ 0 rfl)) ?_))
 have uJ:=(hb.o.now hN).bw
 refine RL.an (bO acM (hb.o.now hN)) (RL.an (bj) (RL.ag (v:=.bool (decide (¬(a.length:Int)=(b.length:Int)))) (aB) (RL.ak ?_)))
 refine RW.aG _ (fun dY=>?_) (fun dY=>?_)
 refine RW.aN (RL.ag (v:=.bool false) ai (RL.ak (RW.ret (aT (bb (RV.tmp rfl) ?_)))))
 exact⟨congrArg acO (decide_eq_false (fun e:n=m∧a=b=>by obtain⟨e1,e2⟩:=e;have e3:=congrArg adg e2;first|contradiction|omega)).symm,hN.bc⟩
 refine RW.skip (aw ?_)
 iterate 2 refine RW.seq ?_
 refine RW.region (RL.ag (v:=.int .i64 (0)) ai (RL.ak (RW.block ?_)))
 refine RW.loop (fun k R0 cz=>∃i:Nat,R0 2=vP g1∧R0 3=vP g2∧R0 5=vJ i∧aI w none_ cz [.aJ g2 [.int .i64 (m),bv] 24,.aJ g1 [.int .i64 (n),av] 24]∧(i+k=a.length)∧(a.length=b.length)∧(a.take i=b.take i)) (a.length) ?_ ?_
 exact⟨0,rfl,rfl,rfl,hN,by omega,by omega,rfl⟩
 clear hN
 rintro k R0 cz ⟨i,bV,cd,cx,hN,gk,Mb,ht⟩
 have cB:=ln bV cd cx
 obtain⟨gF,rfl⟩:=cB
 clear bV cd cx
 iterate 2 refine RW.seq ?_
 refine RW.region (RL.ag (v:=vJ i) U (RL.ag (ah acI rfl fz) (RL.ag (aj acM (hN.aJ 1 rfl)) (RL.ag (bO acM (ha.o.now hN)) (RL.ag (aL) (RL.ak ?_))))))
 refine RW.aG _ (fun cD=>?_) (fun cD=>?_)
 refine RW.skip (aw (RW.seq (RW.block (RW.seq ?_))))
 replace hN:=hN.ext (Ext.drew cz)
 refine RW.bD (fun u=>aI w none_ u [.aJ g2 [.int .i64 (m),bv] 24,.aJ g1 [.int .i64 (n),av] 24]) 11 [(0,0),(1,0),(2,0),(3,0),(4,0),(5,0),(6,0),(7,0),(8,0),(9,0),(10,0)] (by intro _ _ _ h;exact h) hN (RQ.aA rfl (fun w hS=>(ah acI rfl fz)) (RQ.aA rfl (fun w hS=>(aj acM (hS.aJ 1 rfl))) (RQ.aA (v:=vJ i) rfl (fun w hS=>U) (RQ.aA rfl (fun w hS=>(aU acM dr bf (ha.o.now hS))) ?_))))
 have aO:=da (a) i
 obtain⟨ap,bX⟩:=aO
 refine RQ.aA rfl (fun w hS=>(b8 (m:=i) (a:=ap) acP dr bf (ha.o.now hS) bX (cs:=[.int .i64 (ap.1),.int .i64 (ap.2.1),.int .i64 (ap.2.2)]))) (RQ.aA rfl (fun w hS=>(ah acI rfl fz)) (RQ.aA rfl (fun w hS=>(aj acM (hS.aJ 0 rfl))) (RQ.aA (v:=vJ i) rfl (fun w hS=>U) (RQ.aA rfl (fun w hS=>(aU acM dr bf (hb.o.now hS))) ?_))))
 have aO:=da (b) i
 obtain⟨aq,iB⟩:=aO
 refine RQ.aA rfl (fun w hS=>(b8 (m:=i) (a:=aq) acP dr bf (hb.o.now hS) iB (cs:=[.int .i64 (aq.1),.int .i64 (aq.2.1),.int .i64 (aq.2.2)]))) (RQ.aA rfl (fun w hS=>(pT (p:=ap.1=aq.1∧ap.2.1=aq.2.1∧ap.2.2=aq.2.2) rfl rfl (by kernel_rfl) (nb.iff (nb.struct acP (by kernel_rfl) rfl (qa.cons (by decide) (dE.leaf acs rfl) (dE.leaf acs rfl) (nb.int acs) (qa.cons (by decide) (dE.leaf acs rfl) (dE.leaf acs rfl) (nb.int acs) (qa.cons (by decide) (dE.leaf acs rfl) (dE.leaf acs rfl) (nb.int acs) qa.nil)))) (by simp only[adm,decide_eq_true_eq,and_true])))) (RQ.bq (aw ?_)))
 refine RW.aG _ (fun j7=>?_) (fun j7=>?_)
 refine RW.aN (RL.ag (v:=.bool false) ai (RL.ak (RW.ret (aX ?_))))
 iterate 2 refine aT ?_
 refine aX (aT (bb (RV.tmp rfl) ?_))
 exact⟨congrArg acO (decide_eq_false (fun e:n=m∧a=b=>j7 (by have e:=e.2;subst e;rw[bX]at iB;exact Hz.2 (ac2 iB)))).symm,hN.bc⟩
 refine RW.skip (aY (aw (RW.region (RL.ag (v:=vJ i) U (RL.ag (aD rfl rfl rfl (bh (by omega) (by omega))) (RL.ag (v:=.int .i64 ((i:Int)+1)) ai (RL.ak ?_)))))))
 exact⟨k-1,by omega,i+1,rfl,rfl,rfl,hN,by omega,by omega,by rw[dM bX,dM iB,ht,Hz.1 (acU.1 j7)]⟩
 refine RW.exit ?_
 iterate 2 refine bS ?_
 refine ba (aw (RW.aN (RL.ag (v:=.bool true) ai (RL.ak (RW.ret (bb (RV.tmp rfl) ?_))))))
 rw[show i=a.length by omega,adn,acX (by omega)]at ht
 exact⟨congrArg acO (decide_eq_true ⟨by omega,ht⟩).symm,hN.bc⟩
end Go.Proofs.YtngkdkbpgoddlaaGreat
namespace Go.Proofs.YtngkdkbpgoddlaaGreat
open Go.RowKit Go.Rl
open Go.Gr Go.dn
theorem th (rv wv FN FD:Value) (rk vy:List Int) (ws Bj:List I5) (w:World) (h1:Sl vI w rv rk) (h2:Sm aV w wv ws) (h3:Sl vI w FN vy) (h4:Sm aV w FD Bj):aM acx 34 #[.agg #[rv,wv],.agg #[FN,FD]] w fun r w'=>r=.bool (decide (rk=vy∧ws=Bj))∧Ext w w':=by
 refine aM.aZ Tryz.func34 ?_
 rw[cT]
 have hN:=aI.nil w none_
 refine RW.aN ?_
 refine RL.aK (bL (cs:=[rv,wv]) rfl rfl hN ?_)
 clear hN
 intro g1 w1 (hN:aI w none_ w1 [_])
 refine RL.aK (bL (cs:=[FN,FD]) rfl rfl hN ?_)
 clear hN
 intro g2 w2 (hN:aI w none_ w2 [_,_])
 refine RL.ag (v:=.bool false) ai (RL.ak ?_)
 iterate 2 refine RW.seq ?_
 refine RW.region (RL.ag (ah acz rfl cj) (RL.ag (aj acu (hN.aJ 1 rfl)) ?_))
 have k9:=(h1.o.now hN).bw
 refine RL.ag (aQ acu (h1.o.now hN)) (RL.ag (ah acz rfl cj) (RL.ag (aj acu (hN.aJ 0 rfl)) ?_))
 have uJ:=(h3.o.now hN).bw
 refine RL.ag (aQ acu (h3.o.now hN)) (RL.ag (bj) (RL.ak ?_))
 refine RW.aG _ (fun dY=>?_) (fun dY=>?_)
 refine RW.aN (RL.ag (v:=.bool false) ai (RL.ak (RW.ret (aT (bb (RV.tmp rfl) ?_)))))
 exact⟨congrArg acO (decide_eq_false (fun e=>dY (by rw[e.1]))).symm,hN.bc⟩
 refine RW.skip (aw ?_)
 iterate 2 refine RW.seq ?_
 refine RW.region (RL.ag (v:=.int .i64 (0)) ai (RL.ak (RW.block ?_)))
 refine RW.loop (fun k R0 cz=>∃i:Nat,R0 2=vP g1∧R0 3=vP g2∧R0 5=vJ i∧aI w none_ cz [.aJ g2 [FN,FD] 28,.aJ g1 [rv,wv] 28]∧(i+k=rk.length)∧(rk.length=vy.length)∧(rk.take i=vy.take i)) (rk.length) ?_ ?_
 exact⟨0,rfl,rfl,rfl,hN,by omega,by omega,rfl⟩
 clear hN
 rintro k R0 cz ⟨i,bV,cd,cx,hN,gk,Mb,ht⟩
 have cB:=ln bV cd cx
 obtain⟨gF,rfl⟩:=cB
 clear bV cd cx
 iterate 2 refine RW.seq ?_
 refine RW.region (RL.ag (v:=vJ i) U (RL.ag (ah acz rfl cj) (RL.ag (aj acu (hN.aJ 1 rfl)) (RL.ag (aQ acu (h1.o.now hN)) (RL.ag (aL) (RL.ak ?_))))))
 refine RW.aG _ (fun cD=>?_) (fun cD=>?_)
 refine RW.skip (aw (RW.seq (RW.block (RW.seq ?_))))
 replace hN:=hN.ext (Ext.drew cz)
 refine RW.bD (fun u=>aI w none_ u [.aJ g2 [FN,FD] 28,.aJ g1 [rv,wv] 28]) 11 [(0,0),(1,0),(2,0),(3,0),(4,0),(5,0),(6,0),(7,0),(8,0),(9,0),(10,0)] (by intro _ _ _ h;exact h) hN (RQ.aA rfl (fun w hS=>(ah acz rfl cj)) (RQ.aA rfl (fun w hS=>(aj acu (hS.aJ 1 rfl))) (RQ.aA (v:=vJ i) rfl (fun w hS=>U) (RQ.aA rfl (fun w hS=>(aC acu bK (h1.o.now hS))) ?_))))
 have aO:=da (rk) i
 obtain⟨ap,bX⟩:=aO
 refine RQ.aA rfl (fun w hS=>(aF (m:=i) (a:=ap) acs (h1.o.now hS) bX)) (RQ.aA rfl (fun w hS=>(ah acz rfl cj)) (RQ.aA rfl (fun w hS=>(aj acu (hS.aJ 0 rfl))) (RQ.aA (v:=vJ i) rfl (fun w hS=>U) (RQ.aA rfl (fun w hS=>(aC acu bK (h3.o.now hS))) ?_))))
 have aO:=da (vy) i
 obtain⟨aq,iB⟩:=aO
 refine RQ.aA rfl (fun w hS=>(aF (m:=i) (a:=aq) acs (h3.o.now hS) iB)) (RQ.aA rfl (fun w hS=>(bj)) (RQ.bq (aw ?_)))
 refine RW.aG _ (fun j7=>?_) (fun j7=>?_)
 refine RW.aN (RL.ag (v:=.bool false) ai (RL.ak (RW.ret (aX ?_))))
 iterate 2 refine aT ?_
 refine aX (aT (bb (RV.tmp rfl) ?_))
 exact⟨congrArg acO (decide_eq_false (fun e=>j7 (by have e:=e.1;subst e;rw[bX]at iB;exact ac2 iB))).symm,hN.bc⟩
 refine RW.skip (aY (aw (RW.region (RL.ag (v:=vJ i) U (RL.ag (aD rfl rfl rfl (bh (by omega) (by omega))) (RL.ag (v:=.int .i64 ((i:Int)+1)) ai (RL.ak ?_)))))))
 exact⟨k-1,by omega,i+1,rfl,rfl,rfl,hN,by omega,by omega,by rw[dM bX,dM iB,ht,acU.1 j7]⟩
 refine RW.exit ?_
 iterate 2 refine bS ?_
 refine ba (aw (RW.aN (RL.ag (ah acz rfl eM) (RL.ag (aj acG (hN.aJ 1 rfl)) (RL.ag (ah acz rfl eM) (RL.ag (aj acG (hN.aJ 0 rfl)) ?_))))))
 refine RL.aK (bu Tryz.func87 rfl rfl rfl rfl ((tc _ _ ws Bj _ (h2.o.now hN) (h4.o.now hN)).mono ?_))
 rintro _ w5 ⟨rfl,bn⟩
 replace hN:=hN.ext bn
 clear bn
 refine RL.ag (v:=.bool (decide (ws=Bj))) ai (RL.ak (RW.ret (bb (RV.tmp rfl) ?_)))
 rw[show i=rk.length by omega,adn,acX (by omega)]at ht
 exact⟨congrArg acO (decide_eq_decide.2 ⟨fun h=>⟨ht,h⟩,fun h=>h.2⟩),hN.bc⟩
theorem kI (av bv:Value) (mQ nX:List Hd) (p7 cO:List (List I2)) (w:World) (ha:Sl vh w av mQ) (hb:Sl vh w bv nX) (Le:gN none_ bG w mQ p7) (MR:gN none_ bG w nX cO):aM acx 90 #[av,bv] w fun r w'=>r=.bool (decide (p7=cO))∧Ext w w':=by
 refine aM.aZ aiU ?_
 rw[cT]
 have hN:=aI.nil w none_
 have E0:=Le.1
 have FV:=MR.1
 refine RW.aN (RL.ag (v:=.bool false) ai (RL.ak ?_))
 iterate 2 refine RW.seq ?_
 refine RW.region (RL.ag (v:=av) U ?_)
 have nG:=(ha.o.now hN).bw
 refine RL.ag (aQ ac0 (ha.o.now hN)) (RL.ag (v:=bv) U ?_)
 have jm:=(hb.o.now hN).bw
 refine RL.ag (aQ ac0 (hb.o.now hN)) (RL.ag (bj) (RL.ak ?_))
 refine RW.aG _ (fun dY=>?_) (fun dY=>?_)
 refine RW.aN (RL.ag (v:=.bool false) ai (RL.ak (RW.ret (aT (bb (RV.tmp rfl) ?_)))))
 exact⟨congrArg acO (decide_eq_false (fun e:p7=cO=>dY (by rw[E0,FV,e]))).symm,hN.bc⟩
 refine RW.skip (aw ?_)
 iterate 2 refine RW.seq ?_
 refine RW.region (RL.ag (v:=.int .i64 (0)) ai (RL.ak (RW.block ?_)))
 refine RW.loop (fun k R0 cz=>∃i:Nat,R0 0=av∧R0 1=bv∧R0 5=vJ i∧aI w none_ cz []∧(i+k=mQ.length)∧(mQ.length=nX.length)∧(p7.take i=cO.take i)) (mQ.length) ?_ ?_
 exact⟨0,rfl,rfl,rfl,hN,by omega,by omega,rfl⟩
 clear hN
 rintro k R0 cz ⟨i,cH,bP,cx,hN,gk,Mb,ht⟩
 have cB:=ln cH bP cx
 obtain⟨gF,rfl⟩:=cB
 clear cH bP cx
 iterate 2 refine RW.seq ?_
 refine RW.region (RL.ag (v:=vJ i) U (RL.ag (v:=av) U (RL.ag (aQ ac0 (ha.o.now hN)) (RL.ag (aL) (RL.ak ?_)))))
 refine RW.aG _ (fun cD=>?_) (fun cD=>?_)
 refine RW.skip (aw (RW.seq (RW.block (RW.seq ?_))))
 have aO:=da mQ i
 obtain⟨ap,bX⟩:=aO
 have aO:=da nX i
 obtain⟨aq,iB⟩:=aO
 have aO:=da p7 i
 obtain⟨lp,ey⟩:=aO
 have aO:=da cO i
 obtain⟨lq,u4⟩:=aO
 replace hN:=hN.ext (Ext.drew cz)
 refine RW.bD (fun u=>aI w none_ u []) 10 [(0,0),(1,0),(2,0),(3,0),(4,0),(5,0),(6,0),(7,0),(8,1),(9,0)] (by intro _ _ _ h;exact h) hN (RQ.aA (v:=av) rfl (fun w hS=>U) (RQ.aA (v:=vJ i) rfl (fun w hS=>U) (RQ.aA rfl (fun w hS=>(aC ac0 lr (ha.o.now hS))) (RQ.aA rfl (fun w hS=>(aF (m:=i) (a:=ap) acW (ha.o.now hS) bX)) (RQ.aA (v:=bv) rfl (fun w hS=>U) (RQ.aA (v:=vJ i) rfl (fun w hS=>U) (RQ.aA rfl (fun w hS=>(aC ac0 lr (hb.o.now hS))) (RQ.aA rfl (fun w hS=>(aF (m:=i) (a:=aq) acW (hb.o.now hS) iB)) ?_))))))))
 refine RQ.b0 rfl (bu akd rfl rfl rfl rfl ((vu _ _ lp lq _ ((Le.iq bX ey).now hN) ((MR.iq iB u4).now hN)).mono ?_))
 rintro _ w5 ⟨rfl,bn⟩
 replace hN:=hN.ext bn
 clear bn
 refine⟨hN,?_⟩
 refine RQ.aA rfl (fun w hS=>(cV rfl)) (RQ.bq (aw ?_))
 refine RW.aG _ (fun j7=>?_) (fun j7=>?_)
 refine RW.aN (RL.ag (v:=.bool false) ai (RL.ak (RW.ret (aX ?_))))
 iterate 2 refine aT ?_
 refine aX (aT (bb (RV.tmp rfl) ?_))
 exact⟨congrArg acO (decide_eq_false (fun e:p7=cO=>j7 (by subst e;rw[ey]at u4;exact ac2 u4))).symm,hN.bc⟩
 refine RW.skip (aY (aw (RW.region (RL.ag (v:=vJ i) U (RL.ag (aD rfl rfl rfl (bh (by omega) (by omega))) (RL.ag (v:=.int .i64 ((i:Int)+1)) ai (RL.ak ?_)))))))
 exact⟨k-1,by omega,i+1,rfl,rfl,rfl,hN,by omega,by omega,by rw[dM ey,dM u4,ht,acU.1 j7]⟩
 refine RW.exit ?_
 iterate 2 refine bS ?_
 refine ba (aw (RW.aN (RL.ag (v:=.bool true) ai (RL.ak (RW.ret (bb (RV.tmp rfl) ?_))))))
 rw[show i=p7.length by omega,adn,acX (by omega)]at ht
 exact⟨congrArg acO (decide_eq_true ht).symm,hN.bc⟩
theorem jV (av bv:Value) (mQ nX:List Hd) (p7 cO:List (List Int)) (w:World) (ha:Sl vh w av mQ) (hb:Sl vh w bv nX) (Le:fW none_ vI w mQ p7) (MR:fW none_ vI w nX cO):aM acx 89 #[av,bv] w fun r w'=>r=.bool (decide (p7=cO))∧Ext w w':=by
 refine aM.aZ ahD ?_
 rw[cT]
 have hN:=aI.nil w none_
 have E0:=Le.1
 have FV:=MR.1
 refine RW.aN (RL.ag (v:=.bool false) ai (RL.ak ?_))
 iterate 2 refine RW.seq ?_
 refine RW.region (RL.ag (v:=av) U ?_)
 have nG:=(ha.o.now hN).bw
 refine RL.ag (aQ acJ (ha.o.now hN)) (RL.ag (v:=bv) U ?_)
 have jm:=(hb.o.now hN).bw
 refine RL.ag (aQ acJ (hb.o.now hN)) (RL.ag (bj) (RL.ak ?_))
 refine RW.aG _ (fun dY=>?_) (fun dY=>?_)
 refine RW.aN (RL.ag (v:=.bool false) ai (RL.ak (RW.ret (aT (bb (RV.tmp rfl) ?_)))))
 exact⟨congrArg acO (decide_eq_false (fun e:p7=cO=>dY (by rw[E0,FV,e]))).symm,hN.bc⟩
 refine RW.skip (aw ?_)
 iterate 2 refine RW.seq ?_
 refine RW.region (RL.ag (v:=.int .i64 (0)) ai (RL.ak (RW.block ?_)))
 refine RW.loop (fun k R0 cz=>∃i:Nat,R0 0=av∧R0 1=bv∧R0 5=vJ i∧aI w none_ cz []∧(i+k=mQ.length)∧(mQ.length=nX.length)∧(p7.take i=cO.take i)) (mQ.length) ?_ ?_
 exact⟨0,rfl,rfl,rfl,hN,by omega,by omega,rfl⟩
 clear hN
 rintro k R0 cz ⟨i,cH,bP,cx,hN,gk,Mb,ht⟩
 have cB:=ln cH bP cx
 obtain⟨gF,rfl⟩:=cB
 clear cH bP cx
 iterate 2 refine RW.seq ?_
 refine RW.region (RL.ag (v:=vJ i) U (RL.ag (v:=av) U (RL.ag (aQ acJ (ha.o.now hN)) (RL.ag (aL) (RL.ak ?_)))))
 refine RW.aG _ (fun cD=>?_) (fun cD=>?_)
 refine RW.skip (aw (RW.seq (RW.block ?_)))
 iterate 2 refine RW.seq ?_
 have aO:=da mQ i
 obtain⟨ap,bX⟩:=aO
 have aO:=da nX i
 obtain⟨aq,iB⟩:=aO
 have aO:=da p7 i
 obtain⟨lp,ey⟩:=aO
 have aO:=da cO i
 obtain⟨lq,u4⟩:=aO
 replace hN:=hN.ext (Ext.drew cz)
 refine RW.bD (fun u=>aI w none_ u []) 11 [(0,0),(1,0),(2,0),(3,0),(4,0),(5,0),(6,0),(7,0),(8,0),(9,0),(10,0)] (by intro _ _ _ h;exact h) hN (RQ.aA (v:=av) rfl (fun w hS=>U) (RQ.aA (v:=vJ i) rfl (fun w hS=>U) (RQ.aA rfl (fun w hS=>(aC acJ cj (ha.o.now hS))) (RQ.aA rfl (fun w hS=>(aF (m:=i) (a:=ap) acu (ha.o.now hS) bX)) ?_))))
 have uJ:=((Le.iq bX ey).now hN).bw
 refine RQ.aA rfl (fun w hS=>(aQ acu ((Le.iq bX ey).now hS))) (RQ.aA (v:=bv) rfl (fun w hS=>U) (RQ.aA (v:=vJ i) rfl (fun w hS=>U) (RQ.aA rfl (fun w hS=>(aC acJ cj (hb.o.now hS))) (RQ.aA rfl (fun w hS=>(aF (m:=i) (a:=aq) acu (hb.o.now hS) iB)) ?_))))
 have AD:=((MR.iq iB u4).now hN).bw
 refine RQ.aA rfl (fun w hS=>(aQ acu ((MR.iq iB u4).now hS))) (RQ.aA rfl (fun w hS=>(bj)) (RQ.bq (aw ?_)))
 refine RW.aG _ (fun RY=>?_) (fun RY=>?_)
 refine RW.aN (RL.ag (v:=.bool false) ai (RL.ak (RW.ret (aT (aX ?_)))))
 iterate 2 refine aT ?_
 refine aX (aT (bb (RV.tmp rfl) ?_))
 exact⟨congrArg acO (decide_eq_false (fun e:p7=cO=>RY (by subst e;rw[ey]at u4;rw[ac2 u4]))).symm,hN.bc⟩
 refine RW.skip (aw (RW.aN (RL.ag (v:=.int .i64 (0)) ai (RL.ak (RW.block ?_)))))
 refine RW.loop (fun k2 R1 eW=>∃q:Nat,R1 0=av∧R1 1=bv∧R1 5=vJ i∧R1 6=vJ q∧aI w none_ eW []∧(q+k2=lp.length)∧(lp.length=lq.length)∧(lp.take q=lq.take q)) (lp.length) ?_ ?_
 exact⟨0,rfl,rfl,rfl,rfl,hN,by omega,by omega,rfl⟩
 clear hN
 rintro k2 R1 eW ⟨q,cH,bP,cx,cW,hN,yq,hpq,Rr⟩
 have cB:=jd cH bP cx cW
 obtain⟨sk,rfl⟩:=cB
 clear cH bP cx cW
 iterate 2 refine RW.seq ?_
 refine RW.region (RL.ag (v:=vJ q) U (RL.ag (v:=av) U (RL.ag (v:=vJ i) U (RL.ag (aC acJ cj (ha.o.now hN)) (RL.ag (aF (m:=i) (a:=ap) acu (ha.o.now hN) bX) (RL.ag (aQ acu ((Le.iq bX ey).now hN)) (RL.ag (aL) (RL.ak ?_))))))))
 refine RW.aG _ (fun eD=>?_) (fun eD=>?_)
 refine RW.skip (aw (RW.seq (RW.block (RW.seq ?_))))
 replace hN:=hN.ext (Ext.drew eW)
 refine RW.bD (fun u=>aI w none_ u []) 15 [(0,0),(1,0),(2,0),(3,0),(4,0),(5,0),(6,0),(7,0),(8,0),(9,0),(10,0),(11,0),(12,0),(13,0),(14,0)] (by intro _ _ _ h;exact h) hN (RQ.aA (v:=av) rfl (fun w hS=>U) (RQ.aA (v:=vJ i) rfl (fun w hS=>U) (RQ.aA rfl (fun w hS=>(aC acJ cj (ha.o.now hS))) (RQ.aA rfl (fun w hS=>(aF (m:=i) (a:=ap) acu (ha.o.now hS) bX)) (RQ.aA (v:=vJ q) rfl (fun w hS=>U) (RQ.aA rfl (fun w hS=>(aC acu bK ((Le.iq bX ey).now hS))) ?_))))))
 have aO:=da (lp) q
 obtain⟨ac,jG⟩:=aO
 refine RQ.aA rfl (fun w hS=>(aF (m:=q) (a:=ac) acs ((Le.iq bX ey).now hS) jG)) (RQ.aA (v:=bv) rfl (fun w hS=>U) (RQ.aA (v:=vJ i) rfl (fun w hS=>U) (RQ.aA rfl (fun w hS=>(aC acJ cj (hb.o.now hS))) (RQ.aA rfl (fun w hS=>(aF (m:=i) (a:=aq) acu (hb.o.now hS) iB)) (RQ.aA (v:=vJ q) rfl (fun w hS=>U) (RQ.aA rfl (fun w hS=>(aC acu bK ((MR.iq iB u4).now hS))) ?_))))))
 have aO:=da (lq) q
 obtain⟨ad,DC⟩:=aO
 refine RQ.aA rfl (fun w hS=>(aF (m:=q) (a:=ad) acs ((MR.iq iB u4).now hS) DC)) (RQ.aA rfl (fun w hS=>(bj)) (RQ.bq (aw ?_)))
 refine RW.aG _ (fun Oq=>?_) (fun Oq=>?_)
 refine RW.aN (RL.ag (v:=.bool false) ai (RL.ak (RW.ret (aX ?_))))
 iterate 2 refine aT ?_
 iterate 2 refine aX ?_
 iterate 2 refine aT ?_
 refine aX (aT (bb (RV.tmp rfl) ?_))
 exact⟨congrArg acO (decide_eq_false (fun e:p7=cO=>Oq (by subst e;rw[ey]at u4;cases u4;rw[jG]at DC;exact ac2 DC))).symm,hN.bc⟩
 refine RW.skip (aY (aw (RW.region (RL.ag (v:=vJ q) U (RL.ag (aD rfl rfl rfl (bh (by omega) (by omega))) (RL.ag (v:=.int .i64 ((q:Int)+1)) ai (RL.ak ?_)))))))
 exact⟨k2-1,by omega,q+1,rfl,rfl,rfl,rfl,hN,by omega,by omega,by rw[dM jG,dM DC,Rr,acU.1 Oq]⟩
 refine RW.exit ?_
 iterate 2 refine bS ?_
 refine ba (aY (aw (RW.region (RL.ag (v:=vJ i) U (RL.ag (aD rfl rfl rfl (bh (by omega) (by omega))) (RL.ag (v:=.int .i64 ((i:Int)+1)) ai (RL.ak ?_)))))))
 exact⟨k-1,by omega,i+1,rfl,rfl,rfl,hN,by omega,by omega,by rw[show q=lp.length by omega,adn,acX (by omega)]at Rr;rw[dM ey,dM u4,ht,Rr]⟩
 refine RW.exit ?_
 iterate 2 refine bS ?_
 refine ba (aw (RW.aN (RL.ag (v:=.bool true) ai (RL.ak (RW.ret (bb (RV.tmp rfl) ?_))))))
 rw[show i=p7.length by omega,adn,acX (by omega)]at ht
 exact⟨congrArg acO (decide_eq_true ht).symm,hN.bc⟩
end Go.Proofs.YtngkdkbpgoddlaaGreat
namespace Go.Proofs.YtngkdkbpgoddlaaGreat
open Go.RowKit Go.Rl
open Go.Gr Go.dn
theorem vq (w:World) (JY:Value) (Jf:List Int) (Vv:Sl vI w JY Jf) (J0:Value) (Py:List Hd) (FY:List (List Int)) (VC:Sl vh w J0 Py) (OT:fW none_ vI w Py FY) (JP:Value) (NY:List Hd) (FP:List (List I2)) (pG:Sl vh w JP NY) (Om:gN none_ bG w NY FP) (JR:Value) (N9:List Hd) (FT:List (List I2)) (Dt:Sl vh w JR N9) (OM:gN none_ bG w N9 FT) (vl:Value) (BE:List Hd) (rE:List (List Int)) (Ob:Sl vh w vl BE) (HF:fW none_ vI w BE rE) (vp:Value) (BG:List Hd) (sY:List (List Int)) (Oe:Sl vh w vp BG) (HH:fW none_ vI w BG sY) (JX:Value) (Je:List Int) (SF:Sl vI w JX Je) (JZ:Value) (Px:List Hd) (FX:List (List Int)) (SJ:Sl vh w JZ Px) (OS:fW none_ vI w Px FX) (iG:Value) (NX:List Hd) (FO:List (List I2)) (EY:Sl vh w iG NX) (Ol:gN none_ bG w NX FO) (iH:Value) (N8:List Hd) (FR:List (List I2)) (xi:Sl vh w iH N8) (OL:gN none_ bG w N8 FR) (vk:Value) (BD:List Hd) (rD:List (List Int)) (Oa:Sl vh w vk BD) (HE:fW none_ vI w BD rD) (vm:Value) (BF:List Hd) (sX:List (List Int)) (Od:Sl vh w vm BF) (HG:fW none_ vI w BF sX):aM acx 35 #[.agg #[JY,J0,JP,JR,vl,vp],.agg #[JX,JZ,iG,iH,vk,vm]] w fun r w'=>r=.bool (decide (Jf=Je∧FY=FX∧FP=FO∧FT=FR∧rE=rD∧sY=sX))∧Ext w w':=by
 refine aM.aZ Tryz.func35 ?_
 rw[cT]
 have hN:=aI.nil w none_
 refine RW.aN ?_
 refine RL.aK (bL (cs:=[JY,J0,JP,JR,vl,vp]) rfl rfl hN ?_)
 clear hN
 intro g1 w1 (hN:aI w none_ w1 [_])
 refine RL.aK (bL (cs:=[JX,JZ,iG,iH,vk,vm]) rfl rfl hN ?_)
 clear hN
 intro g2 w2 (hN:aI w none_ w2 [_,_])
 refine RL.ag (v:=.bool false) ai (RL.b6 (RL.ag (ah acK rfl cj) (RL.ag (aj acu (hN.aJ 1 rfl)) (RL.ag (ah acK rfl cj) (RL.ag (aj acu (hN.aJ 0 rfl)) ?_)))))
 refine RL.aK (bu Tryz.func88 rfl rfl rfl rfl ((td _ _ Jf Je _ (Vv.o.now hN) (SF.o.now hN)).mono ?_))
 rintro _ w3 ⟨rfl,bn⟩
 replace hN:=hN.ext bn
 clear bn
 refine RL.ag (v:=.bool (decide (Jf=Je))) U ?_
 by_cases rq:Jf=Je
 rw[decide_eq_true rq]
 refine RL.an (ah acK rfl fP) (RL.an (aj acJ (hN.aJ 1 rfl)) (RL.an (ah acK rfl fP) (RL.an (aj acJ (hN.aJ 0 rfl)) ?_)))
 refine RL.ed (bu ahD rfl rfl rfl rfl ((jV _ _ Py Px FY FX _ (VC.o.now hN) (SJ.o.now hN) (OT.gD hN) (OS.gD hN)).mono ?_))
 rintro _ w4 ⟨rfl,bn⟩
 replace hN:=hN.ext bn
 clear bn
 refine RL.ag (v:=.bool (decide (FY=FX))) (al) (RL.ag (v:=.bool (decide (FY=FX))) U ?_)
 by_cases uy:FY=FX
 rw[decide_eq_true uy]
 refine RL.an (ah acK rfl jf) (RL.an (aj ac0 (hN.aJ 1 rfl)) (RL.an (ah acK rfl jf) (RL.an (aj ac0 (hN.aJ 0 rfl)) ?_)))
 refine RL.ed (bu aiU rfl rfl rfl rfl ((kI _ _ NY NX FP FO _ (pG.o.now hN) (EY.o.now hN) (Om.ext hN.bc) (Ol.ext hN.bc)).mono ?_))
 rintro _ w5 ⟨rfl,bn⟩
 replace hN:=hN.ext bn
 clear bn
 refine RL.ag (v:=.bool (decide (FP=FO))) (al) (RL.ag (v:=.bool (decide (FP=FO))) U ?_)
 by_cases Is:FP=FO
 rw[decide_eq_true Is]
 refine RL.an (ah acK rfl jf) (RL.an (aj ac0 (hN.aJ 1 rfl)) (RL.an (ah acK rfl jf) (RL.an (aj ac0 (hN.aJ 0 rfl)) ?_)))
 refine RL.ed (bu aiU rfl rfl rfl rfl ((kI _ _ N9 N8 FT FR _ (Dt.o.now hN) (xi.o.now hN) (OM.ext hN.bc) (OL.ext hN.bc)).mono ?_))
 rintro _ w6 ⟨rfl,bn⟩
 replace hN:=hN.ext bn
 clear bn
 refine RL.ag (v:=.bool (decide (FT=FR))) (al) (RL.ag (v:=.bool (decide (FT=FR))) U ?_)
 by_cases Ir:FT=FR
 rw[decide_eq_true Ir]
 refine RL.an (ah acK rfl fP) (RL.an (aj acJ (hN.aJ 1 rfl)) (RL.an (ah acK rfl fP) (RL.an (aj acJ (hN.aJ 0 rfl)) ?_)))
 refine RL.ed (bu ahD rfl rfl rfl rfl ((jV _ _ BE BD rE rD _ (Ob.o.now hN) (Oa.o.now hN) (HF.gD hN) (HE.gD hN)).mono ?_))
 rintro _ w7 ⟨rfl,bn⟩
 replace hN:=hN.ext bn
 clear bn
 refine RL.ag (v:=.bool (decide (rE=rD))) (al) (RL.ag (v:=.bool (decide (rE=rD))) U ?_)
 by_cases Iq:rE=rD
 rw[decide_eq_true Iq]
 refine RL.an (ah acK rfl fP) (RL.an (aj acJ (hN.aJ 1 rfl)) (RL.an (ah acK rfl fP) (RL.an (aj acJ (hN.aJ 0 rfl)) ?_)))
 refine RL.ed (bu ahD rfl rfl rfl rfl ((jV _ _ BG BF sY sX _ (Oe.o.now hN) (Od.o.now hN) (HH.gD hN) (HG.gD hN)).mono ?_))
 rintro _ w8 ⟨rfl,bn⟩
 replace hN:=hN.ext bn
 clear bn
 refine RL.ag (v:=.bool (decide (sY=sX))) (al) (RL.ag (v:=.bool (decide (sY=sX))) ai (RL.ak (RW.ret (bb (RV.tmp rfl) ?_))))
 exact⟨congrArg acO (decide_eq_decide.2 ⟨fun h=>by refine⟨?_,?_,?_,?_,?_,?_⟩<;>first|exact h|assumption,fun e=>by obtain⟨e0,e1,e2,e3,e4,e5⟩:=e;assumption⟩),hN.bc⟩
 rw[decide_eq_false Iq]
 iterate 5 refine RL.bH ?_
 refine RL.ag (v:=.bool false) (aB) (RL.ag (v:=.bool false) ai (RL.ak (RW.ret (bb (RV.tmp rfl) ?_))))
 exact⟨congrArg acO (decide_eq_false (fun e=>by obtain⟨e0,e1,e2,e3,e4,e5⟩:=e;contradiction)).symm,hN.bc⟩
 rw[decide_eq_false Ir]
 iterate 5 refine RL.bH ?_
 refine RL.ag (v:=.bool false) (aB) (RL.ag (v:=.bool false) U ?_)
 iterate 5 refine RL.bH ?_
 refine RL.ag (v:=.bool false) (aB) (RL.ag (v:=.bool false) ai (RL.ak (RW.ret (bb (RV.tmp rfl) ?_))))
 exact⟨congrArg acO (decide_eq_false (fun e=>by obtain⟨e0,e1,e2,e3,e4,e5⟩:=e;contradiction)).symm,hN.bc⟩
 rw[decide_eq_false Is]
 iterate 5 refine RL.bH ?_
 refine RL.ag (v:=.bool false) (aB) (RL.ag (v:=.bool false) U ?_)
 iterate 5 refine RL.bH ?_
 refine RL.ag (v:=.bool false) (aB) (RL.ag (v:=.bool false) U ?_)
 iterate 5 refine RL.bH ?_
 refine RL.ag (v:=.bool false) (aB) (RL.ag (v:=.bool false) ai (RL.ak (RW.ret (bb (RV.tmp rfl) ?_))))
 exact⟨congrArg acO (decide_eq_false (fun e=>by obtain⟨e0,e1,e2,e3,e4,e5⟩:=e;contradiction)).symm,hN.bc⟩
 rw[decide_eq_false uy]
 iterate 5 refine RL.bH ?_
 refine RL.ag (v:=.bool false) (aB) (RL.ag (v:=.bool false) U ?_)
 iterate 5 refine RL.bH ?_
 refine RL.ag (v:=.bool false) (aB) (RL.ag (v:=.bool false) U ?_)
 iterate 5 refine RL.bH ?_
 refine RL.ag (v:=.bool false) (aB) (RL.ag (v:=.bool false) U ?_)
 iterate 5 refine RL.bH ?_
 refine RL.ag (v:=.bool false) (aB) (RL.ag (v:=.bool false) ai (RL.ak (RW.ret (bb (RV.tmp rfl) ?_))))
 exact⟨congrArg acO (decide_eq_false (fun e=>by obtain⟨e0,e1,e2,e3,e4,e5⟩:=e;contradiction)).symm,hN.bc⟩
 rw[decide_eq_false rq]
 iterate 5 refine RL.bH ?_
 refine RL.ag (v:=.bool false) (aB) (RL.ag (v:=.bool false) U ?_)
 iterate 5 refine RL.bH ?_
 refine RL.ag (v:=.bool false) (aB) (RL.ag (v:=.bool false) U ?_)
 iterate 5 refine RL.bH ?_
 refine RL.ag (v:=.bool false) (aB) (RL.ag (v:=.bool false) U ?_)
 iterate 5 refine RL.bH ?_
 refine RL.ag (v:=.bool false) (aB) (RL.ag (v:=.bool false) U ?_)
 iterate 5 refine RL.bH ?_
 refine RL.ag (v:=.bool false) (aB) (RL.ag (v:=.bool false) ai (RL.ak (RW.ret (bb (RV.tmp rfl) ?_))))
 exact⟨congrArg acO (decide_eq_false (fun e=>by obtain⟨e0,e1,e2,e3,e4,e5⟩:=e;contradiction)).symm,hN.bc⟩
theorem jD (w:World) (n1:Int) (QB P8 PW:Value) (l1:List I3) (P9:List Int) (PX:List I5) (Lo:Sm bJ w QB l1) (pF:Sl vI w P8 P9) (Zu:Sm aV w PW PX) (JY:Value) (Jf:List Int) (Vv:Sl vI w JY Jf) (J0:Value) (Py:List Hd) (FY:List (List Int)) (VC:Sl vh w J0 Py) (OT:fW none_ vI w Py FY) (JP:Value) (NY:List Hd) (FP:List (List I2)) (pG:Sl vh w JP NY) (Om:gN none_ bG w NY FP) (JR:Value) (N9:List Hd) (FT:List (List I2)) (Dt:Sl vh w JR N9) (OM:gN none_ bG w N9 FT) (vl:Value) (BE:List Hd) (rE:List (List Int)) (Ob:Sl vh w vl BE) (HF:fW none_ vI w BE rE) (vp:Value) (BG:List Hd) (sY:List (List Int)) (Oe:Sl vh w vp BG) (HH:fW none_ vI w BG sY) (n2:Int) (QA FN FD:Value) (l2:List I3) (vy:List Int) (Bj:List I5) (XV:Sm bJ w QA l2) (Ao:Sl vI w FN vy) (Zt:Sm aV w FD Bj) (JX:Value) (Je:List Int) (SF:Sl vI w JX Je) (JZ:Value) (Px:List Hd) (FX:List (List Int)) (SJ:Sl vh w JZ Px) (OS:fW none_ vI w Px FX) (iG:Value) (NX:List Hd) (FO:List (List I2)) (EY:Sl vh w iG NX) (Ol:gN none_ bG w NX FO) (iH:Value) (N8:List Hd) (FR:List (List I2)) (xi:Sl vh w iH N8) (OL:gN none_ bG w N8 FR) (vk:Value) (BD:List Hd) (rD:List (List Int)) (Oa:Sl vh w vk BD) (HE:fW none_ vI w BD rD) (vm:Value) (BF:List Hd) (sX:List (List Int)) (Od:Sl vh w vm BF) (HG:fW none_ vI w BF sX):aM acx 12 #[.agg #[.int .i64 n1,QB,P8,PW,JY,J0,JP,JR,vl,vp],.agg #[.int .i64 n2,QA,FN,FD,JX,JZ,iG,iH,vk,vm]] w fun r w'=>r=.bool (decide ((n1=n2∧l1=l2)∧(P9=vy∧PX=Bj)∧Jf=Je∧FY=FX∧FP=FO∧FT=FR∧rE=rD∧sY=sX))∧Ext w w':=by
 refine aM.aZ agD ?_
 rw[cT]
 have hN:=aI.nil w none_
 refine RW.aN ?_
 refine RL.aK (bL (cs:=[.int .i64 (n1),QB,P8,PW,JY,J0,JP,JR,vl,vp]) rfl rfl hN ?_)
 clear hN
 intro g1 w1 (hN:aI w none_ w1 [_])
 refine RL.aK (bL (cs:=[.int .i64 (n2),QA,FN,FD,JX,JZ,iG,iH,vk,vm]) rfl rfl hN ?_)
 clear hN
 intro g2 w2 (hN:aI w none_ w2 [_,_])
 refine RL.ag (v:=.bool false) ai (RL.b6 (RL.ag (ah acL rfl dN) (RL.ag (dG (cs:=[.int .i64 (n1),QB,P8,PW,JY,J0,JP,JR,vl,vp]) (j:=0) (m:=2) acI rfl dN rfl (hN.aJ 1 rfl) (acv rfl)) (RL.ag (ah acL rfl dN) (RL.ag (dG (cs:=[.int .i64 (n2),QA,FN,FD,JX,JZ,iG,iH,vk,vm]) (j:=0) (m:=2) acI rfl dN rfl (hN.aJ 0 rfl) (acv rfl)) ?_)))))
 refine RL.aK (bu Tryz.func33 rfl rfl rfl rfl ((vv (n1) (n2) _ _ l1 l2 _ (Lo.o.now hN) (XV.o.now hN)).mono ?_))
 rintro _ w3 ⟨rfl,bn⟩
 replace hN:=hN.ext bn
 clear bn
 refine RL.ag (v:=.bool (decide (n1=n2∧l1=l2))) U ?_
 by_cases rq:n1=n2∧l1=l2
 rw[decide_eq_true rq]
 refine RL.an (ah acL rfl dy) (RL.an (dG (cs:=[.int .i64 (n1),QB,P8,PW,JY,J0,JP,JR,vl,vp]) (j:=2) (m:=2) acz rfl dy rfl (hN.aJ 1 rfl) (acv rfl)) (RL.an (ah acL rfl dy) (RL.an (dG (cs:=[.int .i64 (n2),QA,FN,FD,JX,JZ,iG,iH,vk,vm]) (j:=2) (m:=2) acz rfl dy rfl (hN.aJ 0 rfl) (acv rfl)) ?_)))
 refine RL.ed (bu Tryz.func34 rfl rfl rfl rfl ((th _ _ _ _ P9 vy PX Bj _ (pF.o.now hN) (Zu.o.now hN) (Ao.o.now hN) (Zt.o.now hN)).mono ?_))
 rintro _ w4 ⟨rfl,bn⟩
 replace hN:=hN.ext bn
 clear bn
 refine RL.ag (v:=.bool (decide (P9=vy∧PX=Bj))) (al) (RL.ag (v:=.bool (decide (P9=vy∧PX=Bj))) U ?_)
 by_cases uy:P9=vy∧PX=Bj
 rw[decide_eq_true uy]
 refine RL.an (ah acL rfl iD) (RL.an (dG (cs:=[.int .i64 (n1),QB,P8,PW,JY,J0,JP,JR,vl,vp]) (j:=4) (m:=6) acK rfl iD rfl (hN.aJ 1 rfl) (acv rfl)) (RL.an (ah acL rfl iD) (RL.an (dG (cs:=[.int .i64 (n2),QA,FN,FD,JX,JZ,iG,iH,vk,vm]) (j:=4) (m:=6) acK rfl iD rfl (hN.aJ 0 rfl) (acv rfl)) ?_)))
 refine RL.ed (bu Tryz.func35 rfl rfl rfl rfl ((vq _ _ Jf (Vv.o.now hN) _ Py FY (VC.o.now hN) (OT.gD hN) _ NY FP (pG.o.now hN) (Om.ext hN.bc) _ N9 FT (Dt.o.now hN) (OM.ext hN.bc) _ BE rE (Ob.o.now hN) (HF.gD hN) _ BG sY (Oe.o.now hN) (HH.gD hN) _ Je (SF.o.now hN) _ Px FX (SJ.o.now hN) (OS.gD hN) _ NX FO (EY.o.now hN) (Ol.ext hN.bc) _ N8 FR (xi.o.now hN) (OL.ext hN.bc) _ BD rD (Oa.o.now hN) (HE.gD hN) _ BF sX (Od.o.now hN) (HG.gD hN)).mono ?_))
 rintro _ w5 ⟨rfl,bn⟩
 replace hN:=hN.ext bn
 clear bn
 refine RL.ag (v:=.bool (decide (Jf=Je∧FY=FX∧FP=FO∧FT=FR∧rE=rD∧sY=sX))) (al) (RL.ag (v:=.bool (decide (Jf=Je∧FY=FX∧FP=FO∧FT=FR∧rE=rD∧sY=sX))) ai (RL.ak (RW.ret (bb (RV.tmp rfl) ?_))))
 exact⟨congrArg acO (decide_eq_decide.2 ⟨fun h=>by refine⟨?_,?_,?_⟩<;>first|exact h|assumption,fun e=>by obtain⟨e0,e1,e2⟩:=e;assumption⟩),hN.bc⟩
 rw[decide_eq_false uy]
 iterate 5 refine RL.bH ?_
 refine RL.ag (v:=.bool false) (aB) (RL.ag (v:=.bool false) ai (RL.ak (RW.ret (bb (RV.tmp rfl) ?_))))
 exact⟨congrArg acO (decide_eq_false (fun e=>by obtain⟨e0,e1,e2⟩:=e;contradiction)).symm,hN.bc⟩
 rw[decide_eq_false rq]
 iterate 5 refine RL.bH ?_
 refine RL.ag (v:=.bool false) (aB) (RL.ag (v:=.bool false) U ?_)
 iterate 5 refine RL.bH ?_
 refine RL.ag (v:=.bool false) (aB) (RL.ag (v:=.bool false) ai (RL.ak (RW.ret (bb (RV.tmp rfl) ?_))))
 exact⟨congrArg acO (decide_eq_false (fun e=>by obtain⟨e0,e1,e2⟩:=e;contradiction)).symm,hN.bc⟩
end Go.Proofs.YtngkdkbpgoddlaaGreat
namespace Go.Proofs.YtngkdkbpgoddlaaGreat
open Go.RowKit Go.Rl
open Go.Gr
theorem nL (n:Nat) (rv wv:Value) (rk:List Int) (ways:List I5) (w:World) (hr:Sl vI w rv rk) (hw:Sm aV w wv ways) (hH:CX n rk ways) (v top:Int) (bk:Bool) (hn:n≤12) (u1:0≤v) (vO:v<n):aM acx 144 #[.agg #[rv,wv],.int .i64 v,.int .i64 top,.bool (decide (bk=true))] w fun r w'=>∃d,eG vI 3 w' w.heap.size r d∧lf n (iY 12) d∧d[(v).toNat]?=some 0∧Ext w w':=by
 refine aM.aZ ag9 ?_
 rw[kX]
 have hN:=aI.nil w none_
 have uh:=hH.len
 refine RW.aN ?_
 refine RL.aK (bL (cs:=[rv,wv]) rfl rfl hN ?_)
 clear hN
 intro g1 w1 (hN:aI w none_ w1 [_])
 refine RL.ag (v:=vN) ai (RL.b6 (RL.ag (ah acz rfl cj) (RL.ag (aj acu (hN.aJ 0 rfl)) ?_)))
 have jm:=(hr.o.now hN).bw
 refine RL.ag (aQ acu (hr.o.now hN)) (RL.ag (v:=.int .i64 ((rk.length:Int))) ai (RL.b6 (RL.ag (v:=.int .i64 ((rk.length:Int))) U ?_)))
 refine RL.aK (ki (enc:=vI) (z:=0) acu gz rfl hN rfl (by omega) (by omega) (by omega) ?_)
 clear hN
 intro v3 w3 (hN:aI w none_ w3 [_,_])
 refine RL.ag (v:=v3) ai (RL.ak ?_)
 iterate 2 refine RW.seq ?_
 refine RW.region (RL.ag (v:=.int .i64 (0)) ai (RL.ak (RW.block ?_)))
 refine RW.loop (fun k R0 cz=>∃d0:List Int,∃i:Nat,R0 1=.int .i64 (v)∧R0 2=.int .i64 (top)∧R0 3=.bool (decide (bk=true))∧R0 4=vP g1∧R0 9=.int .i64 ((rk.length:Int))∧R0 10=v3∧R0 11=vJ i∧aI w none_ cz [.own vI 3 (v3) (d0),.aJ g1 [rv,wv] 28]∧(i+k=rk.length)∧(d0.length=rk.length)∧(∀j,j<i→d0[j]?=some (-1))) (rk.length) ?_ ?_
 exact⟨acY rk.length 0,0,rfl,rfl,rfl,rfl,rfl,rfl,rfl,hN,by omega,ac7,fun j hj=>by omega⟩
 clear hN
 rintro k R0 cz ⟨d0,i,bP,bV,cd,cA,eg,df,eQ,hN,gk,Pn,h0⟩
 have cB:=DZ bP bV cd cA eg df eQ
 obtain⟨gF,rfl⟩:=cB
 clear bP bV cd cA eg df eQ
 iterate 2 refine RW.seq ?_
 refine RW.region (RL.ag (v:=vJ i) U (RL.ag (v:=.int .i64 ((rk.length:Int))) U (RL.ag (aL) (RL.ak ?_))))
 refine RW.aG _ (fun cD=>?_) (fun cD=>?_)
 refine RW.skip (aw (RW.seq (RW.block (RW.region (RL.ag (v:=v3) U (RL.ag (v:=vJ i) U (RL.ag (aC acu bK (hN.sl 0 rfl)) ?_)))))))
 refine RL.aK (cu (m:=i) (a:=(-1)) bK hN 0 rfl rfl (by omega) rfl rfl rfl rfl ?_)
 clear hN
 intro w4 (hN:aI w none_ w4 [_,_])
 refine RL.nil (aY (aw (RW.region (RL.ag (v:=vJ i) U (RL.ag (aD rfl rfl rfl (bh (by omega) (by omega))) (RL.ag (v:=.int .i64 ((i:Int)+1)) ai (RL.ak ?_)))))))
 exact⟨k-1,by omega,(d0).set i ((-1)),i+1,rfl,rfl,rfl,rfl,rfl,rfl,rfl,hN,by omega,by rw[adG];exact Pn,yW (by omega) h0⟩
 refine RW.exit ?_
 iterate 2 refine bS ?_
 refine ba (aw ?_)
 iterate 2 refine RW.seq ?_
 have VI:d0=acY n (-1):=yX (by omega) (fun j hj=>h0 j (by omega))
 have Ai:(acY n (-1:Int)).length=n:=ac7
 replace hN:=hN.l0 0 rfl (show _=(acY n (-1))from VI)
 replace hN:aI w none_ cz [_,_]:=hN
 refine RW.region (RL.ag (v:=.int .i64 (v)) U (RL.ag (cI (aL) (by omega)) (RL.ag (v:=.bool false) U (RL.an (v:=.int .i64 (v)) U (RL.an (v:=.int .i64 ((rk.length:Int))) U (RL.an (cI (cm) (by omega)) (RL.ag (v:=.bool false) (aB) (RL.ak ?_))))))))
 refine RW.cg (RW.skip (aw (RW.aN (RL.ag (v:=v3) U (RL.ag (v:=.int .i64 (v)) U (RL.ag (aC acu bK (hN.sl 0 rfl)) ?_))))))
 refine RL.aK (cu (m:=(v).toNat) (a:=0) bK hN 0 rfl rfl (by omega) rfl rfl rfl rfl ?_)
 clear hN
 intro w5 (hN:aI w none_ w5 [_,_])
 refine RL.ak ?_
 iterate 2 refine RW.seq ?_
 refine RW.region (RL.ag (v:=.bool true) ai (RL.ak (RW.block ?_)))
 refine RW.loop (fun k1 R1 eW=>∃d1:List Int,∃m:Bool,R1 2=.int .i64 (top)∧R1 3=.bool (decide (bk=true))∧R1 4=vP g1∧R1 10=v3∧R1 12=.bool (decide (m=true))∧aI w none_ eW [.own vI 3 (v3) (d1),.aJ g1 [rv,wv] 28]∧(k1=2*BU ((n:Int)*iY 12).toNat d1+m.toNat)∧(lf n (iY 12) d1)∧(d1[(v).toNat]?=some 0)) (2*BU ((n:Int)*iY 12).toNat ((acY n (-1)).set (v).toNat (0))+1) ?_ ?_
 exact⟨(acY n (-1)).set (v).toNat (0),true,rfl,rfl,rfl,rfl,rfl,hN,rfl,lf.start (gC 12) (show(v).toNat<n by omega),by rw[adi,if_pos rfl,if_pos (by omega)]⟩
 clear hN
 rintro k1 R1 eW ⟨d1,m,bV,cd,cA,df,eP,hN,HU,hD,hZ⟩
 have cB:=iw bV cd cA df eP
 obtain⟨sk,rfl⟩:=cB
 clear bV cd cA df eP
 iterate 2 refine RW.seq ?_
 refine RW.region (RL.ag (v:=.bool (decide (m=true))) U (RL.ak ?_))
 refine RW.aG _ (fun hm=>?_) (fun hm=>?_)
 refine RW.skip (aw (RW.block (RW.aN (RL.ag (v:=.bool false) ai (RL.ak (RW.aN ?_))))))
 refine RL.ag (v:=.int .i64 (0)) ai (RL.ak (RW.block ?_))
 refine RW.loop (fun k2 R2 ij=>∃d2:List Int,∃m2:Bool,∃q:Nat,R2 2=.int .i64 (top)∧R2 3=.bool (decide (bk=true))∧R2 4=vP g1∧R2 10=v3∧R2 12=.bool (decide (m2=true))∧R2 13=vJ q∧aI w none_ ij [.own vI 3 (v3) (d2),.aJ g1 [rv,wv] 28]∧(q+k2=ways.length)∧(lf n (iY 12) d2)∧(d2[(v).toNat]?=some 0)∧(BU ((n:Int)*iY 12).toNat d2+m2.toNat≤BU ((n:Int)*iY 12).toNat d1)) (ways.length) ?_ ?_
 exact⟨d1,false,0,rfl,rfl,rfl,rfl,rfl,rfl,hN,by omega,hD,hZ,ac3 _⟩
 clear hN
 rintro k2 R2 ij ⟨d2,m2,q,bV,cd,cA,df,eP,ft,hN,yq,y9,S2,hp⟩
 have cB:=o9 bV cd cA df eP ft
 obtain⟨PR,rfl⟩:=cB
 clear bV cd cA df eP ft
 iterate 2 refine RW.seq ?_
 refine RW.region (RL.ag (v:=vJ q) U (RL.ag (ah acz rfl eM) (RL.ag (aj acG (hN.aJ 1 rfl)) ?_)))
 have AD:=(hw.o.now hN).bw
 refine RL.ag (bO acG (hw.o.now hN)) (RL.ag (aL) (RL.ak ?_))
 refine RW.aG _ (fun eD=>?_) (fun eD=>?_)
 refine RW.skip (aw (RW.seq (RW.block (RW.aN (RL.ag (ah acz rfl eM) (RL.ag (aj acG (hN.aJ 1 rfl)) (RL.ag (v:=vJ q) U (RL.ag (aU acG er aH (hw.o.now hN)) ?_))))))))
 have aO:=da (ways) q
 obtain⟨ap,bX⟩:=aO
 refine RL.ag (bl (m:=q) (b:=0) acB rfl bK aH (hw.o.now hN) bX) ?_
 have aO:=hH.ws ap (acy bX)
 obtain⟨sC,HC,TF,TE,Rj,Ri⟩:=aO
 refine RL.ag (bB (m:=q) (j:=0) (a:=ap) acs aH (hw.o.now hN) bX) (RL.ag (v:=.int .i64 (ap.1)) ai (RL.b6 (RL.ag (ah acz rfl eM) (RL.ag (aj acG (hN.aJ 1 rfl)) (RL.ag (v:=vJ q) U (RL.ag (aU acG er aH (hw.o.now hN)) ?_))))))
 refine RL.ag (bl (m:=q) (b:=0) acB rfl bK aH (hw.o.now hN) bX) (RL.ag (bB (m:=q) (j:=1) (a:=ap) acs aH (hw.o.now hN) bX) (RL.ag (v:=.int .i64 (ap.2.1)) ai (RL.ak ?_)))
 iterate 2 refine RW.seq ?_
 refine RW.region (RL.ag (v:=.bool (decide (bk=true))) U (RL.ak ?_))
 refine RW.aG _ (fun V1=>?_) (fun V1=>?_)
 refine RW.aN (RL.ag (ah acz rfl eM) (RL.ag (aj acG (hN.aJ 1 rfl)) (RL.ag (v:=vJ q) U (RL.ag (aU acG er aH (hw.o.now hN)) (RL.ag (bl (m:=q) (b:=0) acB rfl bK aH (hw.o.now hN) bX) (RL.ag (bB (m:=q) (j:=1) (a:=ap) acs aH (hw.o.now hN) bX) (RL.ag (v:=.int .i64 (ap.2.1)) ai (RL.nil ?_))))))))
 refine aw (RW.region (RL.ag (ah acz rfl eM) (RL.ag (aj acG (hN.aJ 1 rfl)) (RL.ag (v:=vJ q) U (RL.ag (aU acG er aH (hw.o.now hN)) (RL.ag (bl (m:=q) (b:=0) acB rfl bK aH (hw.o.now hN) bX) (RL.ag (bB (m:=q) (j:=0) (a:=ap) acs aH (hw.o.now hN) bX) (RL.ag (v:=.int .i64 (ap.1)) ai (RL.nil ?_)))))))))
 refine aw (RW.seq ?_)
 have Bm:=y9.len
 have aO:=da d2 ((ap.2.1).toNat)
 obtain⟨aa,rr⟩:=aO
 have aO:=da d2 ((ap.1).toNat)
 obtain⟨ab,p9⟩:=aO
 have aO:=da rk ((ap.2.1).toNat)
 obtain⟨ra,RH⟩:=aO
 have aO:=da rk ((ap.1).toNat)
 obtain⟨rb,UM⟩:=aO
 have Xd:=y9.top (gC 12) (acy rr)
 have K7:=y9.low aa (acy rr)
 have La:=sM (r:=12) (by omega) hn
 have U1:=o6 (r:=12) (by omega)
 replace hN:=hN.ext (Ext.drew ij)
 refine RW.bD (fun u=>aI w none_ u [.own vI 3 (v3) (d2),.aJ g1 [rv,wv] 28]) 53 [(0,0),(1,0),(2,0),(3,0),(4,0),(5,0),(6,0),(7,0),(8,0),(9,0),(10,0),(11,0),(12,0),(13,0),(14,0),(15,0),(16,0),(17,0),(18,0),(19,0),(20,0),(21,0),(22,0),(23,0),(24,0),(25,0),(26,0),(27,0),(28,0),(29,0),(30,0),(31,0),(32,0),(33,0),(34,0),(35,0),(36,0),(37,0),(38,0),(39,0),(40,0),(41,0),(42,0),(43,0),(44,0),(45,0),(46,0),(47,0),(48,0),(49,0),(50,0),(51,0),(52,0)] (by intro _ _ _ h;exact h) hN (RQ.aA (v:=v3) rfl (fun w hS=>U) (RQ.aA (v:=.int .i64 (ap.2.1)) rfl (fun w hS=>U) (RQ.aA rfl (fun w hS=>(aC acu bK (hS.sl 0 rfl))) (RQ.aA rfl (fun w hS=>(aF (m:=(ap.2.1).toNat) (a:=aa) acs (hS.sl 0 rfl) rr)) (RQ.aA rfl (fun w hS=>(cm)) (RQ.aA (v:=.bool (decide (0≤aa))) rfl (fun w hS=>U) ?_))))))
 by_cases uw:0≤aa
 rw[decide_eq_true uw]
 refine RQ.aS rfl (fun w hS=>(ah acz rfl cj)) (RQ.aS rfl (fun w hS=>(aj acu (hS.aJ 1 rfl))) (RQ.aS (v:=.int .i64 (ap.2.1)) rfl (fun w hS=>U) (RQ.aS rfl (fun w hS=>(aC acu bK (hr.o.now hS))) (RQ.aS rfl (fun w hS=>(aF (m:=(ap.2.1).toNat) (a:=ra) acs (hr.o.now hS) RH)) (RQ.aS (v:=.int .i64 (top)) rfl (fun w hS=>U) (RQ.aS rfl (fun w hS=>(aL)) (RQ.aA (v:=.bool (decide (ra<top))) rfl (fun w hS=>(al)) (RQ.aA (v:=.bool (decide (ra<top))) rfl (fun w hS=>U) ?_))))))))
 by_cases pJ:ra<top
 rw[decide_eq_true pJ]
 refine RQ.aS rfl (fun w hS=>(ah acz rfl cj)) (RQ.aS rfl (fun w hS=>(aj acu (hS.aJ 1 rfl))) (RQ.aS (v:=.int .i64 (ap.1)) rfl (fun w hS=>U) (RQ.aS rfl (fun w hS=>(aC acu bK (hr.o.now hS))) (RQ.aS rfl (fun w hS=>(aF (m:=(ap.1).toNat) (a:=rb) acs (hr.o.now hS) UM)) (RQ.aS rfl (fun w hS=>(ah acz rfl cj)) (RQ.aS rfl (fun w hS=>(aj acu (hS.aJ 1 rfl))) (RQ.aS (v:=.int .i64 (ap.2.1)) rfl (fun w hS=>U) (RQ.aS rfl (fun w hS=>(aC acu bK (hr.o.now hS))) (RQ.aS rfl (fun w hS=>(aF (m:=(ap.2.1).toNat) (a:=ra) acs (hr.o.now hS) RH)) ?_)))))))))
 refine RQ.aS rfl (fun w hS=>(cr)) (RQ.aA (v:=.bool (decide (ra<rb))) rfl (fun w hS=>(al)) (RQ.aA (v:=.bool (decide (ra<rb))) rfl (fun w hS=>U) ?_))
 by_cases pI:ra<rb
 rw[decide_eq_true pI]
 refine RQ.aS (v:=v3) rfl (fun w hS=>U) (RQ.aS (v:=.int .i64 (ap.1)) rfl (fun w hS=>U) (RQ.aS rfl (fun w hS=>(aC acu bK (hS.sl 0 rfl))) (RQ.aS rfl (fun w hS=>(aF (m:=(ap.1).toNat) (a:=ab) acs (hS.sl 0 rfl) p9)) (RQ.aS rfl (fun w hS=>(aL)) (RQ.aS (v:=.bool (decide (ab<0))) rfl (fun w hS=>U) ?_)))))
 by_cases pH:ab<0
 rw[decide_eq_true pH]
 iterate 17 refine RQ.bU rfl ?_
 refine RQ.aS (v:=.bool true) rfl (fun w hS=>(al)) (RQ.aA (v:=.bool true) rfl (fun w hS=>(al)) (RQ.bq (aw (RW.bF (RW.seq ?_)))))
 have n9:ab<0∨aa+ap.2.2.1<ab:=by first|exact .inl (by assumption)|exact .inr (by assumption)
 replace hN:=hN.ext (Ext.drew ij.drew)
 refine RW.bD (fun u=>aI w none_ u [.own vI 3 (v3) (d2),.aJ g1 [rv,wv] 28]) 15 [(0,0),(1,0),(2,0),(3,0),(4,0),(5,0),(6,0),(7,0),(8,0),(9,0),(10,0),(11,0),(12,0),(13,0),(14,0),(15,2)] (by intro _ _ _ h;exact h) hN (RQ.aA (v:=v3) rfl (fun w hS=>U) (RQ.aA (v:=.int .i64 (ap.1)) rfl (fun w hS=>U) (RQ.aA (v:=v3) rfl (fun w hS=>U) (RQ.aA (v:=.int .i64 (ap.2.1)) rfl (fun w hS=>U) (RQ.aA rfl (fun w hS=>(aC acu bK (hS.sl 0 rfl))) (RQ.aA rfl (fun w hS=>(aF (m:=(ap.2.1).toNat) (a:=aa) acs (hS.sl 0 rfl) rr)) (RQ.aA rfl (fun w hS=>(ah acz rfl eM)) (RQ.aA rfl (fun w hS=>(aj acG (hS.aJ 1 rfl))) (RQ.aA (v:=vJ q) rfl (fun w hS=>U) ?_)))))))))
 refine RQ.aA rfl (fun w hS=>(aU acG er aH (hw.o.now hS))) (RQ.aA rfl (fun w hS=>(bl (m:=q) (b:=0) acB rfl cU aH (hw.o.now hS) bX)) (RQ.aA rfl (fun w hS=>(bl (m:=q) (b:=2) acH rfl bK aH (hw.o.now hS) bX)) (RQ.aA rfl (fun w hS=>(bB (m:=q) (j:=2) (a:=ap) acs aH (hw.o.now hS) bX)) (RQ.aA rfl (fun w hS=>(aD rfl rfl rfl (bh (by omega) (by omega)))) (RQ.aA rfl (fun w hS=>(aC acu bK (hS.sl 0 rfl))) ?_)))))
 refine RQ.last rfl rfl (cu (m:=(ap.1).toNat) (a:=(aa+ap.2.2.1)) bK hN 0 rfl rfl (by omega) rfl rfl rfl rfl ?_)
 clear hN
 intro nR (hN:aI w none_ nR [_,_])
 refine RZ.eJ (aw (RW.region (RL.ag (v:=.bool true) ai (RL.nil (aY (aw (RW.region (RL.ag (v:=vJ q) U (RL.ag (aD rfl rfl rfl (bh (by omega) (by omega))) ?_)))))))))
 refine RL.ag (v:=.int .i64 ((q:Int)+1)) ai (RL.ak ?_)
 have ic:=y9.step (gC 12) rr p9 (by assumption) ⟨Rj,Ri⟩ n9
 exact⟨k2-1,by omega,(d2).set (ap.1).toNat ((aa+ap.2.2.1)),true,q+1,rfl,rfl,rfl,rfl,rfl,rfl,hN,by omega,ic.1,nQ S2 p9 (by omega) n9,acR ic.2 (by omega)⟩
 rw[decide_eq_false pH]
 refine RQ.aS (v:=v3) rfl (fun w hS=>U) (RQ.aS (v:=.int .i64 (ap.2.1)) rfl (fun w hS=>U) (RQ.aS rfl (fun w hS=>(aC acu bK (hS.sl 0 rfl))) (RQ.aS rfl (fun w hS=>(aF (m:=(ap.2.1).toNat) (a:=aa) acs (hS.sl 0 rfl) rr)) (RQ.aS rfl (fun w hS=>(ah acz rfl eM)) (RQ.aS rfl (fun w hS=>(aj acG (hS.aJ 1 rfl))) (RQ.aS (v:=vJ q) rfl (fun w hS=>U) (RQ.aS rfl (fun w hS=>(aU acG er aH (hw.o.now hS))) (RQ.aS rfl (fun w hS=>(bl (m:=q) (b:=0) acB rfl cU aH (hw.o.now hS) bX)) (RQ.aS rfl (fun w hS=>(bl (m:=q) (b:=2) acH rfl bK aH (hw.o.now hS) bX)) ?_)))))))))
 refine RQ.aS rfl (fun w hS=>(bB (m:=q) (j:=2) (a:=ap) acs aH (hw.o.now hS) bX)) (RQ.aS rfl (fun w hS=>(aD rfl rfl rfl (bh (by omega) (by omega)))) (RQ.aS (v:=v3) rfl (fun w hS=>U) (RQ.aS (v:=.int .i64 (ap.1)) rfl (fun w hS=>U) (RQ.aS rfl (fun w hS=>(aC acu bK (hS.sl 0 rfl))) (RQ.aS rfl (fun w hS=>(aF (m:=(ap.1).toNat) (a:=ab) acs (hS.sl 0 rfl) p9)) (RQ.aS rfl (fun w hS=>(aL)) (RQ.aS (v:=.bool (decide (aa+ap.2.2.1<ab))) rfl (fun w hS=>(aB)) (RQ.aA (v:=.bool (decide (aa+ap.2.2.1<ab))) rfl (fun w hS=>(al)) (RQ.bq ?_)))))))))
 refine aw ?_
 refine RW.aG _ (fun II=>?_) (fun II=>?_)
 refine RW.seq ?_
 have n9:ab<0∨aa+ap.2.2.1<ab:=by first|exact .inl (by assumption)|exact .inr (by assumption)
 replace hN:=hN.ext (Ext.drew ij.drew)
 refine RW.bD (fun u=>aI w none_ u [.own vI 3 (v3) (d2),.aJ g1 [rv,wv] 28]) 15 [(0,0),(1,0),(2,0),(3,0),(4,0),(5,0),(6,0),(7,0),(8,0),(9,0),(10,0),(11,0),(12,0),(13,0),(14,0),(15,2)] (by intro _ _ _ h;exact h) hN (RQ.aA (v:=v3) rfl (fun w hS=>U) (RQ.aA (v:=.int .i64 (ap.1)) rfl (fun w hS=>U) (RQ.aA (v:=v3) rfl (fun w hS=>U) (RQ.aA (v:=.int .i64 (ap.2.1)) rfl (fun w hS=>U) (RQ.aA rfl (fun w hS=>(aC acu bK (hS.sl 0 rfl))) (RQ.aA rfl (fun w hS=>(aF (m:=(ap.2.1).toNat) (a:=aa) acs (hS.sl 0 rfl) rr)) (RQ.aA rfl (fun w hS=>(ah acz rfl eM)) (RQ.aA rfl (fun w hS=>(aj acG (hS.aJ 1 rfl))) (RQ.aA (v:=vJ q) rfl (fun w hS=>U) ?_)))))))))
 refine RQ.aA rfl (fun w hS=>(aU acG er aH (hw.o.now hS))) (RQ.aA rfl (fun w hS=>(bl (m:=q) (b:=0) acB rfl cU aH (hw.o.now hS) bX)) (RQ.aA rfl (fun w hS=>(bl (m:=q) (b:=2) acH rfl bK aH (hw.o.now hS) bX)) (RQ.aA rfl (fun w hS=>(bB (m:=q) (j:=2) (a:=ap) acs aH (hw.o.now hS) bX)) (RQ.aA rfl (fun w hS=>(aD rfl rfl rfl (bh (by omega) (by omega)))) (RQ.aA rfl (fun w hS=>(aC acu bK (hS.sl 0 rfl))) ?_)))))
 refine RQ.last rfl rfl (cu (m:=(ap.1).toNat) (a:=(aa+ap.2.2.1)) bK hN 0 rfl rfl (by omega) rfl rfl rfl rfl ?_)
 clear hN
 intro sQ (hN:aI w none_ sQ [_,_])
 refine RZ.eJ (aw (RW.region (RL.ag (v:=.bool true) ai (RL.nil (aY (aw (RW.region (RL.ag (v:=vJ q) U (RL.ag (aD rfl rfl rfl (bh (by omega) (by omega))) ?_)))))))))
 refine RL.ag (v:=.int .i64 ((q:Int)+1)) ai (RL.ak ?_)
 have ic:=y9.step (gC 12) rr p9 (by assumption) ⟨Rj,Ri⟩ n9
 exact⟨k2-1,by omega,(d2).set (ap.1).toNat ((aa+ap.2.2.1)),true,q+1,rfl,rfl,rfl,rfl,rfl,rfl,hN,by omega,ic.1,nQ S2 p9 (by omega) n9,acR ic.2 (by omega)⟩
 refine RW.skip (aY (aw (RW.region (RL.ag (v:=vJ q) U (RL.ag (aD rfl rfl rfl (bh (by omega) (by omega))) (RL.ag (v:=.int .i64 ((q:Int)+1)) ai (RL.ak ?_)))))))
 exact⟨k2-1,by omega,_,_,q+1,rfl,rfl,rfl,rfl,rfl,rfl,hN,by omega,by omega,by omega,by omega⟩
 rw[decide_eq_false pI]
 iterate 6 refine RQ.bU rfl ?_
 iterate 17 refine RQ.dS rfl ?_
 refine RQ.bU rfl (RQ.aA (v:=.bool false) rfl (fun w hS=>(aB)) (RQ.bq (aw (RW.cg (RW.skip (aY (aw (RW.region (RL.ag (v:=vJ q) U ?_)))))))))
 refine RL.ag (aD rfl rfl rfl (bh (by omega) (by omega))) (RL.ag (v:=.int .i64 ((q:Int)+1)) ai (RL.ak ?_))
 exact⟨k2-1,by omega,_,_,q+1,rfl,rfl,rfl,rfl,rfl,rfl,hN,by omega,by omega,by omega,by omega⟩
 rw[decide_eq_false pJ]
 iterate 11 refine RQ.bU rfl ?_
 refine RQ.aA (v:=.bool false) rfl (fun w hS=>(aB)) (RQ.aA (v:=.bool false) rfl (fun w hS=>U) ?_)
 iterate 6 refine RQ.bU rfl ?_
 iterate 17 refine RQ.dS rfl ?_
 refine RQ.bU rfl (RQ.aA (v:=.bool false) rfl (fun w hS=>(aB)) (RQ.bq (aw (RW.cg (RW.skip (aY (aw (RW.region (RL.ag (v:=vJ q) U ?_)))))))))
 refine RL.ag (aD rfl rfl rfl (bh (by omega) (by omega))) (RL.ag (v:=.int .i64 ((q:Int)+1)) ai (RL.ak ?_))
 exact⟨k2-1,by omega,_,_,q+1,rfl,rfl,rfl,rfl,rfl,rfl,hN,by omega,by omega,by omega,by omega⟩
 rw[decide_eq_false uw]
 iterate 7 refine RQ.bU rfl ?_
 refine RQ.aA (v:=.bool false) rfl (fun w hS=>(aB)) (RQ.aA (v:=.bool false) rfl (fun w hS=>U) ?_)
 iterate 11 refine RQ.bU rfl ?_
 refine RQ.aA (v:=.bool false) rfl (fun w hS=>(aB)) (RQ.aA (v:=.bool false) rfl (fun w hS=>U) ?_)
 iterate 6 refine RQ.bU rfl ?_
 iterate 17 refine RQ.dS rfl ?_
 refine RQ.bU rfl (RQ.aA (v:=.bool false) rfl (fun w hS=>(aB)) (RQ.bq (aw (RW.cg (RW.skip (aY (aw (RW.region (RL.ag (v:=vJ q) U ?_)))))))))
 refine RL.ag (aD rfl rfl rfl (bh (by omega) (by omega))) (RL.ag (v:=.int .i64 ((q:Int)+1)) ai (RL.ak ?_))
 exact⟨k2-1,by omega,_,_,q+1,rfl,rfl,rfl,rfl,rfl,rfl,hN,by omega,by omega,by omega,by omega⟩
 refine RW.skip (aw (RW.seq ?_))
 have Bm:=y9.len
 have aO:=da d2 ((ap.1).toNat)
 obtain⟨aa,rr⟩:=aO
 have aO:=da d2 ((ap.2.1).toNat)
 obtain⟨ab,p9⟩:=aO
 have aO:=da rk ((ap.1).toNat)
 obtain⟨ra,RH⟩:=aO
 have aO:=da rk ((ap.2.1).toNat)
 obtain⟨rb,UM⟩:=aO
 have Xd:=y9.top (gC 12) (acy rr)
 have K7:=y9.low aa (acy rr)
 have La:=sM (r:=12) (by omega) hn
 have U1:=o6 (r:=12) (by omega)
 replace hN:=hN.ext (Ext.drew ij)
 refine RW.bD (fun u=>aI w none_ u [.own vI 3 (v3) (d2),.aJ g1 [rv,wv] 28]) 53 [(0,0),(1,0),(2,0),(3,0),(4,0),(5,0),(6,0),(7,0),(8,0),(9,0),(10,0),(11,0),(12,0),(13,0),(14,0),(15,0),(16,0),(17,0),(18,0),(19,0),(20,0),(21,0),(22,0),(23,0),(24,0),(25,0),(26,0),(27,0),(28,0),(29,0),(30,0),(31,0),(32,0),(33,0),(34,0),(35,0),(36,0),(37,0),(38,0),(39,0),(40,0),(41,0),(42,0),(43,0),(44,0),(45,0),(46,0),(47,0),(48,0),(49,0),(50,0),(51,0),(52,0)] (by intro _ _ _ h;exact h) hN (RQ.aA (v:=v3) rfl (fun w hS=>U) (RQ.aA (v:=.int .i64 (ap.1)) rfl (fun w hS=>U) (RQ.aA rfl (fun w hS=>(aC acu bK (hS.sl 0 rfl))) (RQ.aA rfl (fun w hS=>(aF (m:=(ap.1).toNat) (a:=aa) acs (hS.sl 0 rfl) rr)) (RQ.aA rfl (fun w hS=>(cm)) (RQ.aA (v:=.bool (decide (0≤aa))) rfl (fun w hS=>U) ?_))))))
 by_cases uw:0≤aa
 rw[decide_eq_true uw]
 refine RQ.aS rfl (fun w hS=>(ah acz rfl cj)) (RQ.aS rfl (fun w hS=>(aj acu (hS.aJ 1 rfl))) (RQ.aS (v:=.int .i64 (ap.1)) rfl (fun w hS=>U) (RQ.aS rfl (fun w hS=>(aC acu bK (hr.o.now hS))) (RQ.aS rfl (fun w hS=>(aF (m:=(ap.1).toNat) (a:=ra) acs (hr.o.now hS) RH)) (RQ.aS (v:=.int .i64 (top)) rfl (fun w hS=>U) (RQ.aS rfl (fun w hS=>(aL)) (RQ.aA (v:=.bool (decide (ra<top))) rfl (fun w hS=>(al)) (RQ.aA (v:=.bool (decide (ra<top))) rfl (fun w hS=>U) ?_))))))))
 by_cases pJ:ra<top
 rw[decide_eq_true pJ]
 refine RQ.aS rfl (fun w hS=>(ah acz rfl cj)) (RQ.aS rfl (fun w hS=>(aj acu (hS.aJ 1 rfl))) (RQ.aS (v:=.int .i64 (ap.2.1)) rfl (fun w hS=>U) (RQ.aS rfl (fun w hS=>(aC acu bK (hr.o.now hS))) (RQ.aS rfl (fun w hS=>(aF (m:=(ap.2.1).toNat) (a:=rb) acs (hr.o.now hS) UM)) (RQ.aS rfl (fun w hS=>(ah acz rfl cj)) (RQ.aS rfl (fun w hS=>(aj acu (hS.aJ 1 rfl))) (RQ.aS (v:=.int .i64 (ap.1)) rfl (fun w hS=>U) (RQ.aS rfl (fun w hS=>(aC acu bK (hr.o.now hS))) (RQ.aS rfl (fun w hS=>(aF (m:=(ap.1).toNat) (a:=ra) acs (hr.o.now hS) RH)) ?_)))))))))
 refine RQ.aS rfl (fun w hS=>(cr)) (RQ.aA (v:=.bool (decide (ra<rb))) rfl (fun w hS=>(al)) (RQ.aA (v:=.bool (decide (ra<rb))) rfl (fun w hS=>U) ?_))
 by_cases pI:ra<rb
 rw[decide_eq_true pI]
 refine RQ.aS (v:=v3) rfl (fun w hS=>U) (RQ.aS (v:=.int .i64 (ap.2.1)) rfl (fun w hS=>U) (RQ.aS rfl (fun w hS=>(aC acu bK (hS.sl 0 rfl))) (RQ.aS rfl (fun w hS=>(aF (m:=(ap.2.1).toNat) (a:=ab) acs (hS.sl 0 rfl) p9)) (RQ.aS rfl (fun w hS=>(aL)) (RQ.aS (v:=.bool (decide (ab<0))) rfl (fun w hS=>U) ?_)))))
 by_cases pH:ab<0
 rw[decide_eq_true pH]
 iterate 17 refine RQ.bU rfl ?_
 refine RQ.aS (v:=.bool true) rfl (fun w hS=>(al)) (RQ.aA (v:=.bool true) rfl (fun w hS=>(al)) (RQ.bq (aw (RW.bF (RW.seq ?_)))))
 have n9:ab<0∨aa+ap.2.2.1<ab:=by first|exact .inl (by assumption)|exact .inr (by assumption)
 replace hN:=hN.ext (Ext.drew ij.drew)
 refine RW.bD (fun u=>aI w none_ u [.own vI 3 (v3) (d2),.aJ g1 [rv,wv] 28]) 15 [(0,0),(1,0),(2,0),(3,0),(4,0),(5,0),(6,0),(7,0),(8,0),(9,0),(10,0),(11,0),(12,0),(13,0),(14,0),(15,2)] (by intro _ _ _ h;exact h) hN (RQ.aA (v:=v3) rfl (fun w hS=>U) (RQ.aA (v:=.int .i64 (ap.2.1)) rfl (fun w hS=>U) (RQ.aA (v:=v3) rfl (fun w hS=>U) (RQ.aA (v:=.int .i64 (ap.1)) rfl (fun w hS=>U) (RQ.aA rfl (fun w hS=>(aC acu bK (hS.sl 0 rfl))) (RQ.aA rfl (fun w hS=>(aF (m:=(ap.1).toNat) (a:=aa) acs (hS.sl 0 rfl) rr)) (RQ.aA rfl (fun w hS=>(ah acz rfl eM)) (RQ.aA rfl (fun w hS=>(aj acG (hS.aJ 1 rfl))) (RQ.aA (v:=vJ q) rfl (fun w hS=>U) ?_)))))))))
 refine RQ.aA rfl (fun w hS=>(aU acG er aH (hw.o.now hS))) (RQ.aA rfl (fun w hS=>(bl (m:=q) (b:=0) acB rfl cU aH (hw.o.now hS) bX)) (RQ.aA rfl (fun w hS=>(bl (m:=q) (b:=2) acH rfl bK aH (hw.o.now hS) bX)) (RQ.aA rfl (fun w hS=>(bB (m:=q) (j:=2) (a:=ap) acs aH (hw.o.now hS) bX)) (RQ.aA rfl (fun w hS=>(aD rfl rfl rfl (bh (by omega) (by omega)))) (RQ.aA rfl (fun w hS=>(aC acu bK (hS.sl 0 rfl))) ?_)))))
 refine RQ.last rfl rfl (cu (m:=(ap.2.1).toNat) (a:=(aa+ap.2.2.1)) bK hN 0 rfl rfl (by omega) rfl rfl rfl rfl ?_)
 clear hN
 intro C3 (hN:aI w none_ C3 [_,_])
 refine RZ.eJ (aw (RW.region (RL.ag (v:=.bool true) ai (RL.nil (aY (aw (RW.region (RL.ag (v:=vJ q) U (RL.ag (aD rfl rfl rfl (bh (by omega) (by omega))) ?_)))))))))
 refine RL.ag (v:=.int .i64 ((q:Int)+1)) ai (RL.ak ?_)
 have ic:=y9.step (gC 12) rr p9 (by assumption) ⟨Rj,Ri⟩ n9
 exact⟨k2-1,by omega,(d2).set (ap.2.1).toNat ((aa+ap.2.2.1)),true,q+1,rfl,rfl,rfl,rfl,rfl,rfl,hN,by omega,ic.1,nQ S2 p9 (by omega) n9,acR ic.2 (by omega)⟩
 rw[decide_eq_false pH]
 refine RQ.aS (v:=v3) rfl (fun w hS=>U) (RQ.aS (v:=.int .i64 (ap.1)) rfl (fun w hS=>U) (RQ.aS rfl (fun w hS=>(aC acu bK (hS.sl 0 rfl))) (RQ.aS rfl (fun w hS=>(aF (m:=(ap.1).toNat) (a:=aa) acs (hS.sl 0 rfl) rr)) (RQ.aS rfl (fun w hS=>(ah acz rfl eM)) (RQ.aS rfl (fun w hS=>(aj acG (hS.aJ 1 rfl))) (RQ.aS (v:=vJ q) rfl (fun w hS=>U) (RQ.aS rfl (fun w hS=>(aU acG er aH (hw.o.now hS))) (RQ.aS rfl (fun w hS=>(bl (m:=q) (b:=0) acB rfl cU aH (hw.o.now hS) bX)) (RQ.aS rfl (fun w hS=>(bl (m:=q) (b:=2) acH rfl bK aH (hw.o.now hS) bX)) ?_)))))))))
 refine RQ.aS rfl (fun w hS=>(bB (m:=q) (j:=2) (a:=ap) acs aH (hw.o.now hS) bX)) (RQ.aS rfl (fun w hS=>(aD rfl rfl rfl (bh (by omega) (by omega)))) (RQ.aS (v:=v3) rfl (fun w hS=>U) (RQ.aS (v:=.int .i64 (ap.2.1)) rfl (fun w hS=>U) (RQ.aS rfl (fun w hS=>(aC acu bK (hS.sl 0 rfl))) (RQ.aS rfl (fun w hS=>(aF (m:=(ap.2.1).toNat) (a:=ab) acs (hS.sl 0 rfl) p9)) (RQ.aS rfl (fun w hS=>(aL)) (RQ.aS (v:=.bool (decide (aa+ap.2.2.1<ab))) rfl (fun w hS=>(aB)) (RQ.aA (v:=.bool (decide (aa+ap.2.2.1<ab))) rfl (fun w hS=>(al)) (RQ.bq ?_)))))))))
 refine aw ?_
 refine RW.aG _ (fun II=>?_) (fun II=>?_)
 refine RW.seq ?_
 have n9:ab<0∨aa+ap.2.2.1<ab:=by first|exact .inl (by assumption)|exact .inr (by assumption)
 replace hN:=hN.ext (Ext.drew ij.drew)
 refine RW.bD (fun u=>aI w none_ u [.own vI 3 (v3) (d2),.aJ g1 [rv,wv] 28]) 15 [(0,0),(1,0),(2,0),(3,0),(4,0),(5,0),(6,0),(7,0),(8,0),(9,0),(10,0),(11,0),(12,0),(13,0),(14,0),(15,2)] (by intro _ _ _ h;exact h) hN (RQ.aA (v:=v3) rfl (fun w hS=>U) (RQ.aA (v:=.int .i64 (ap.2.1)) rfl (fun w hS=>U) (RQ.aA (v:=v3) rfl (fun w hS=>U) (RQ.aA (v:=.int .i64 (ap.1)) rfl (fun w hS=>U) (RQ.aA rfl (fun w hS=>(aC acu bK (hS.sl 0 rfl))) (RQ.aA rfl (fun w hS=>(aF (m:=(ap.1).toNat) (a:=aa) acs (hS.sl 0 rfl) rr)) (RQ.aA rfl (fun w hS=>(ah acz rfl eM)) (RQ.aA rfl (fun w hS=>(aj acG (hS.aJ 1 rfl))) (RQ.aA (v:=vJ q) rfl (fun w hS=>U) ?_)))))))))
 refine RQ.aA rfl (fun w hS=>(aU acG er aH (hw.o.now hS))) (RQ.aA rfl (fun w hS=>(bl (m:=q) (b:=0) acB rfl cU aH (hw.o.now hS) bX)) (RQ.aA rfl (fun w hS=>(bl (m:=q) (b:=2) acH rfl bK aH (hw.o.now hS) bX)) (RQ.aA rfl (fun w hS=>(bB (m:=q) (j:=2) (a:=ap) acs aH (hw.o.now hS) bX)) (RQ.aA rfl (fun w hS=>(aD rfl rfl rfl (bh (by omega) (by omega)))) (RQ.aA rfl (fun w hS=>(aC acu bK (hS.sl 0 rfl))) ?_)))))
 refine RQ.last rfl rfl (cu (m:=(ap.2.1).toNat) (a:=(aa+ap.2.2.1)) bK hN 0 rfl rfl (by omega) rfl rfl rfl rfl ?_)
 clear hN
 intro FG (hN:aI w none_ FG [_,_])
 refine RZ.eJ (aw (RW.region (RL.ag (v:=.bool true) ai (RL.nil (aY (aw (RW.region (RL.ag (v:=vJ q) U (RL.ag (aD rfl rfl rfl (bh (by omega) (by omega))) ?_)))))))))
 refine RL.ag (v:=.int .i64 ((q:Int)+1)) ai (RL.ak ?_)
 have ic:=y9.step (gC 12) rr p9 (by assumption) ⟨Rj,Ri⟩ n9
 exact⟨k2-1,by omega,(d2).set (ap.2.1).toNat ((aa+ap.2.2.1)),true,q+1,rfl,rfl,rfl,rfl,rfl,rfl,hN,by omega,ic.1,nQ S2 p9 (by omega) n9,acR ic.2 (by omega)⟩
 refine RW.skip (aY (aw (RW.region (RL.ag (v:=vJ q) U (RL.ag (aD rfl rfl rfl (bh (by omega) (by omega))) (RL.ag (v:=.int .i64 ((q:Int)+1)) ai (RL.ak ?_)))))))
 exact⟨k2-1,by omega,_,_,q+1,rfl,rfl,rfl,rfl,rfl,rfl,hN,by omega,by omega,by omega,by omega⟩
 rw[decide_eq_false pI]
 iterate 6 refine RQ.bU rfl ?_
 iterate 17 refine RQ.dS rfl ?_
 refine RQ.bU rfl (RQ.aA (v:=.bool false) rfl (fun w hS=>(aB)) (RQ.bq (aw (RW.cg (RW.skip (aY (aw (RW.region (RL.ag (v:=vJ q) U ?_)))))))))
 refine RL.ag (aD rfl rfl rfl (bh (by omega) (by omega))) (RL.ag (v:=.int .i64 ((q:Int)+1)) ai (RL.ak ?_))
 exact⟨k2-1,by omega,_,_,q+1,rfl,rfl,rfl,rfl,rfl,rfl,hN,by omega,by omega,by omega,by omega⟩
 rw[decide_eq_false pJ]
 iterate 11 refine RQ.bU rfl ?_
 refine RQ.aA (v:=.bool false) rfl (fun w hS=>(aB)) (RQ.aA (v:=.bool false) rfl (fun w hS=>U) ?_)
 iterate 6 refine RQ.bU rfl ?_
 iterate 17 refine RQ.dS rfl ?_
 refine RQ.bU rfl (RQ.aA (v:=.bool false) rfl (fun w hS=>(aB)) (RQ.bq (aw (RW.cg (RW.skip (aY (aw (RW.region (RL.ag (v:=vJ q) U ?_)))))))))
 refine RL.ag (aD rfl rfl rfl (bh (by omega) (by omega))) (RL.ag (v:=.int .i64 ((q:Int)+1)) ai (RL.ak ?_))
 exact⟨k2-1,by omega,_,_,q+1,rfl,rfl,rfl,rfl,rfl,rfl,hN,by omega,by omega,by omega,by omega⟩
 rw[decide_eq_false uw]
 iterate 7 refine RQ.bU rfl ?_
 refine RQ.aA (v:=.bool false) rfl (fun w hS=>(aB)) (RQ.aA (v:=.bool false) rfl (fun w hS=>U) ?_)
 iterate 11 refine RQ.bU rfl ?_
 refine RQ.aA (v:=.bool false) rfl (fun w hS=>(aB)) (RQ.aA (v:=.bool false) rfl (fun w hS=>U) ?_)
 iterate 6 refine RQ.bU rfl ?_
 iterate 17 refine RQ.dS rfl ?_
 refine RQ.bU rfl (RQ.aA (v:=.bool false) rfl (fun w hS=>(aB)) (RQ.bq (aw (RW.cg (RW.skip (aY (aw (RW.region (RL.ag (v:=vJ q) U ?_)))))))))
 refine RL.ag (aD rfl rfl rfl (bh (by omega) (by omega))) (RL.ag (v:=.int .i64 ((q:Int)+1)) ai (RL.ak ?_))
 exact⟨k2-1,by omega,_,_,q+1,rfl,rfl,rfl,rfl,rfl,rfl,hN,by omega,by omega,by omega,by omega⟩
 refine RW.exit ?_
 iterate 2 refine bS ?_
 refine ba (aY (aw ?_))
 exact⟨2*BU ((n:Int)*iY 12).toNat d2+m2.toNat,by subst hm;have:(true:Bool).toNat=1:=rfl;omega,d2,m2,rfl,rfl,rfl,rfl,rfl,hN,rfl,y9,S2⟩
 refine RW.exit ?_
 iterate 2 refine bS ?_
 refine ba (aw (RW.aN (RL.ag (v:=v3) U (RL.ag (v:=v3) ai (RL.ak (RW.ret (bb (RV.tmp rfl) ?_)))))))
 exact⟨d1,hN.fL 0 rfl,hD,hZ,hN.bc⟩
theorem tl (rv wv:Value) (rk:List Int) (ways:List I5) (dv:Value) (d:List Int) (lo hi:Int) (w:World) (hr:Sl vI w rv rk) (hd:Sl vI w dv d) (hlen:d.length=rk.length) (hn:d.length≤4096):aM acx 189 #[.agg #[rv,wv],dv,.int .i64 lo,.int .i64 hi] w fun r w'=>fR bG 2 135 w' w.heap.size r (rowsOf rk d lo hi d.length)∧Ext w w':=by
 refine aM.aZ aiw ?_
 rw[kX]
 have hN:=aI.nil w none_
 refine RW.aN ?_
 refine RL.aK (bL (cs:=[rv,wv]) rfl rfl hN ?_)
 clear hN
 intro g1 w1 (hN:aI w none_ w1 [_])
 refine RL.ag (v:=vN) ai (RL.b6 (RL.ag (v:=vN) ai (RL.ak ?_)))
 iterate 2 refine RW.seq ?_
 refine RW.region (RL.ag (v:=.int .i64 (0)) ai (RL.ak (RW.block ?_)))
 replace hN:=hN.eK bG 2 135
 refine RW.loop (fun k R0 cz=>∃va:Value,∃acc:List I2,∃i:Nat,R0 1=dv∧R0 2=.int .i64 (lo)∧R0 3=.int .i64 (hi)∧R0 4=vP g1∧R0 9=va∧R0 10=vJ i∧aI w none_ cz [.cp bG 2 135 (va) (acc),.aJ g1 [rv,wv] 28]∧(i+k=d.length)∧(acc=rowsOf rk d lo hi i)∧(acc.length≤i)) (d.length) ?_ ?_
 exact⟨vN,[],0,rfl,rfl,rfl,rfl,rfl,rfl,hN,by omega,rfl,ac3 _⟩
 clear hN
 rintro k R0 cz ⟨va,acc,i,bP,bV,cd,cA,eg,df,hN,gk,ha,ir⟩
 have cB:=o9 bP bV cd cA eg df
 obtain⟨gF,rfl⟩:=cB
 clear bP bV cd cA eg df
 iterate 2 refine RW.seq ?_
 refine RW.region (RL.ag (v:=vJ i) U (RL.ag (v:=dv) U ?_))
 have k9:=(hd.o.now hN).bw
 refine RL.ag (aQ acu (hd.o.now hN)) (RL.ag (aL) (RL.ak ?_))
 refine RW.aG _ (fun cD=>?_) (fun cD=>?_)
 refine RW.skip (aw (RW.seq (RW.block (RW.seq ?_))))
 have aO:=da d i
 obtain⟨ax,hx⟩:=aO
 have aO:=da rk i
 obtain⟨q,hq⟩:=aO
 by_cases MS:0≤ax∧lo≤q∧q<hi
 refine RW.region (RL.ag (v:=dv) U (RL.ag (v:=vJ i) U (RL.ag (aC acu bK (hd.o.now hN)) (RL.ag (aF (m:=i) (a:=ax) acs (hd.o.now hN) hx) (RL.ag (dm (cm) MS.1) (RL.ag (v:=.bool true) U (RL.an (ah acz rfl cj) (RL.an (aj acu (hN.aJ 1 rfl)) (RL.an (v:=vJ i) U ?_)))))))))
 refine RL.an (aC acu bK (hr.o.now hN)) (RL.an (aF (m:=i) (a:=q) acs (hr.o.now hN) hq) (RL.an (v:=.int .i64 (lo)) U (RL.an (dm (cm) MS.2.1) (RL.ag (v:=.bool true) (al) (RL.ag (v:=.bool true) U (RL.an (ah acz rfl cj) (RL.an (aj acu (hN.aJ 1 rfl)) (RL.an (v:=vJ i) U (RL.an (aC acu bK (hr.o.now hN)) ?_)))))))))
 refine RL.an (aF (m:=i) (a:=q) acs (hr.o.now hN) hq) (RL.an (v:=.int .i64 (hi)) U (RL.an (dm (aL) MS.2.2) (RL.ag (v:=.bool true) (al) (RL.ak (RW.bF (RW.region (RL.ag (v:=va) U (RL.ag (v:=vJ i) U ?_))))))))
 refine RL.ag (v:=dv) U (RL.ag (v:=vJ i) U (RL.ag (aC acu bK (hd.o.now hN)) (RL.ag (aF (m:=i) (a:=ax) acs (hd.o.now hN) hx) (RL.ag (bT (cs:=[vJ i,.int .i64 (ax)]) acS o4 (places:=#[(0,1),(1,1)]) (by intro w;kernel_rfl) (pl:=[(0,.tmp 41),(1,.tmp 45)]) rfl (ps:=[(0,vJ i),(1,.int .i64 (ax))]) rfl (zc:=[.int .i64 (0),.int .i64 (0)]) rfl (aP (vs:=[vJ i]) rfl rfl (acv rfl) (aP (vs:=[.int .i64 (ax)]) rfl rfl (acv rfl) rfl))) ?_))))
 refine RL.aK (dB (cf:=bG) (s:=2) (pl:=[(0,.tmp 46)]) (ps:=[(0,.agg #[vJ i,.int .i64 (ax)])]) (zc:=[.int .i64 (0),.int .i64 (0)]) (l:=[((i:Int),ax)]) acW qw (by kernel_rfl) rfl rfl (aP (vs:=[vJ i,.int .i64 (ax)]) rfl rfl (acv rfl) rfl) bp rfl (by decide) (by decide) (by decide) hN ?_)
 clear hN
 intro g8 w8 (hN:aI w none_ w8 [_,_,_])
 refine RL.aK (ct acW qw rfl (by decide) nC bp hN 1 rfl rfl (hN.sm 0 rfl) rfl (by(try simp only[acw,acC,acF,acN]);omega) (by decide) ?_)
 clear hN
 intro v9 w9 (hN:aI w none_ w9 [_,_,_])
 refine RL.ag (v:=v9) ai (RL.nil (aY (aw (RW.region (RL.ag (v:=vJ i) U (RL.ag (aD rfl rfl rfl (bh (by omega) (by omega))) (RL.ag (v:=.int .i64 ((i:Int)+1)) ai (RL.ak ?_))))))))
 exact⟨k-1,by omega,v9,acc++[((i:Int),ax)],i+1,rfl,rfl,rfl,rfl,rfl,rfl,(hN.sb [1,2]),by omega,by rw[iP,show iE rk d lo hi i=[((i:Int),ax)]from by unfold iE;rw[hx,hq];exact if_pos MS];rw[ha],by(try simp only[acw,acC]);omega⟩
 refine RW.region (RL.ag (v:=dv) U (RL.ag (v:=vJ i) U (RL.ag (aC acu bK (hd.o.now hN)) (RL.ag (aF (m:=i) (a:=ax) acs (hd.o.now hN) hx) (RL.ag (cm) (RL.ag (v:=.bool (decide (0≤ax))) U ?_))))))
 by_cases Ih:0≤ax
 rw[decide_eq_true Ih]
 refine RL.an (ah acz rfl cj) (RL.an (aj acu (hN.aJ 1 rfl)) (RL.an (v:=vJ i) U (RL.an (aC acu bK (hr.o.now hN)) (RL.an (aF (m:=i) (a:=q) acs (hr.o.now hN) hq) (RL.an (v:=.int .i64 (lo)) U (RL.an (cm) (RL.ag (v:=.bool (decide (lo≤q))) (al) (RL.ag (v:=.bool (decide (lo≤q))) U ?_))))))))
 by_cases Cv:lo≤q
 rw[decide_eq_true Cv]
 refine RL.an (ah acz rfl cj) (RL.an (aj acu (hN.aJ 1 rfl)) (RL.an (v:=vJ i) U (RL.an (aC acu bK (hr.o.now hN)) (RL.an (aF (m:=i) (a:=q) acs (hr.o.now hN) hq) (RL.an (v:=.int .i64 (hi)) U (RL.an (cI (aL) (fun h=>MS ⟨Ih,Cv,h⟩)) (RL.ag (v:=.bool false) (al) (RL.ak ?_))))))))
 refine RW.cg (RW.skip (aY (aw (RW.region (RL.ag (v:=vJ i) U (RL.ag (aD rfl rfl rfl (bh (by omega) (by omega))) (RL.ag (v:=.int .i64 ((i:Int)+1)) ai (RL.ak ?_))))))))
 exact⟨k-1,by omega,va,acc,i+1,rfl,rfl,rfl,rfl,rfl,rfl,hN,by omega,by rw[iP,show iE rk d lo hi i=[]from by unfold iE;rw[hx,hq];exact if_neg MS];rw[adj];exact ha,by omega⟩
 rw[decide_eq_false Cv]
 iterate 7 refine RL.bH ?_
 refine RL.ag (v:=.bool false) (aB) (RL.ak (RW.cg (RW.skip (aY (aw (RW.region (RL.ag (v:=vJ i) U (RL.ag (aD rfl rfl rfl (bh (by omega) (by omega))) ?_))))))))
 refine RL.ag (v:=.int .i64 ((i:Int)+1)) ai (RL.ak ?_)
 exact⟨k-1,by omega,va,acc,i+1,rfl,rfl,rfl,rfl,rfl,rfl,hN,by omega,by rw[iP,show iE rk d lo hi i=[]from by unfold iE;rw[hx,hq];exact if_neg MS];rw[adj];exact ha,by omega⟩
 rw[decide_eq_false Ih]
 iterate 7 refine RL.bH ?_
 refine RL.ag (v:=.bool false) (aB) (RL.ag (v:=.bool false) U ?_)
 iterate 7 refine RL.bH ?_
 refine RL.ag (v:=.bool false) (aB) (RL.ak (RW.cg (RW.skip (aY (aw (RW.region (RL.ag (v:=vJ i) U (RL.ag (aD rfl rfl rfl (bh (by omega) (by omega))) ?_))))))))
 refine RL.ag (v:=.int .i64 ((i:Int)+1)) ai (RL.ak ?_)
 exact⟨k-1,by omega,va,acc,i+1,rfl,rfl,rfl,rfl,rfl,rfl,hN,by omega,by rw[iP,show iE rk d lo hi i=[]from by unfold iE;rw[hx,hq];exact if_neg MS];rw[adj];exact ha,by omega⟩
 refine RW.exit ?_
 iterate 2 refine bS ?_
 refine ba (aw (RW.aN (RL.ag (v:=va) U (RL.ag (v:=va) ai (RL.ak (RW.ret (bb (RV.tmp rfl) ?_)))))))
 have iy:i=d.length:=by omega
 subst iy
 subst ha
 exact⟨hN.fT 0 rfl,hN.bc⟩
end Go.Proofs.YtngkdkbpgoddlaaGreat
namespace Go.Proofs.YtngkdkbpgoddlaaGreat
open Go.RowKit Go.Rl
open Go.Gr
theorem rB (n:Nat) (rv wv:Value) (rk:List Int) (ways:List I5) (w:World) (hr:Sl vI w rv rk) (hw:Sm aV w wv ways) (hH:CX n rk ways) (v:Int) (bk:Bool) (hn:n≤12) (u1:0≤v) (vO:v<n):aM acx 217 #[.agg #[rv,wv],.int .i64 v,.bool (decide (bk=true))] w fun r w'=>∃out,fR bG 2 135 w' w.heap.size r out∧Bg n out∧(v,0)∈out∧out.length≤n∧Ext w w':=by
 refine aM.aZ aix ?_
 rw[iX]
 have hN:=aI.nil w none_
 have uh:=hH.len
 refine RW.aN ?_
 refine RL.aK (bL (cs:=[rv,wv]) rfl rfl hN ?_)
 clear hN
 intro g1 w1 (hN:aI w none_ w1 [_])
 refine RL.ag (v:=vN) ai (RL.b6 (RL.ag (ah acz rfl cj) (RL.ag (aj acu (hN.aJ 0 rfl)) ?_)))
 have jm:=(hr.o.now hN).bw
 refine RL.ag (aQ acu (hr.o.now hN)) (RL.ag (v:=.int .i64 ((rk.length:Int))) ai (RL.ak (RW.seq ?_)))
 replace hN:=hN.ext (Ext.drew w1)
 refine RW.bD (fun u=>aI w none_ u [.aJ g1 [rv,wv] 28]) 9 [(0,0),(1,0),(2,0),(3,0),(4,0),(6,0),(5,1),(7,1),(8,0)] (by intro _ _ _ h;exact h) hN ?_
 iterate 2 refine RQ.aA rfl (fun w hS=>(aE (cs:=[rv,wv]) acz dy (hS.aJ 0 rfl))) ?_
 refine RQ.aA (v:=.int .i64 (v)) rfl (fun w hS=>U) (RQ.aA (v:=.int .i64 ((rk.length:Int))) rfl (fun w hS=>U) (RQ.aA (v:=.bool (decide (bk=true))) rfl (fun w hS=>U) (RQ.aA (v:=.int .i64 ((rk.length:Int))) rfl (fun w hS=>U) ?_)))
 refine RQ.b0 rfl (dK ag9 rfl rfl rfl rfl rfl rfl ((nL n _ _ rk ways _ (hr.o.now hN) (hw.o.now hN) hH v (rk.length:Int) bk hn u1 vO).mono ?_))
 rintro v3 w3 ⟨d3,cL,TR,XX,bn⟩
 replace hN:aI w none_ w3 [_,_]:=hN.cc cL bn
 clear cL bn
 have SM:=TR.len
 refine⟨(hN.sb [1]),?_⟩
 refine RQ.b0 rfl (dK aiw rfl rfl rfl rfl rfl rfl ((tl _ _ rk ways _ d3 0 (rk.length:Int) _ (hr.o.now hN) (hN.sl 0 rfl) (by have:=hH.len;omega) (by omega)).mono ?_))
 rintro v4 w4 ⟨cL,bn⟩
 replace hN:aI w none_ w4 [_,_,_]:=hN.fF cL bn
 clear cL bn
 refine⟨(hN.sb [2]),?_⟩
 refine RQ.aA (v:=v4) rfl (fun w hS=>ai) (RQ.bq (aw (RW.ret (bb (RV.tmp rfl) ?_))))
 exact⟨_,hN.fT 0 rfl,Da TR hn,Eh hH SM u1 vO XX,by have:=tm rk d3 0 (rk.length:Int) d3.length;omega,hN.bc⟩
theorem B8 (n:Nat) (av bv:Value) (a b:List I2) (w:World) (ha:Sm bG w av a) (hb:Sm bG w bv b) (hA:Bg n a) (hB:Bg n b) (ir:a.length≤4096) (Qq:b.length≤4096):aM acx 216 #[av,bv] w fun r w'=>∃z y i,r=.tuple #[.int .i64 z,.int .i64 y]∧((y= -1∧z= -1)∨(0≤y∧0≤z∧z≤211106232532992))∧gW a b i 0 z y∧a.length≤i∧Ext w w':=by
 refine aM.aZ ake ?_
 rw[cT]
 have hN:=aI.nil w none_
 refine RW.aN ?_
 iterate 2 refine RL.ag (v:=.int .i64 (0)) ai ?_
 refine RL.b6 (RL.ag (v:=.int .i64 (-1)) ai (RL.ak (RW.aN (RL.ag (v:=.int .i64 (-1)) ai ?_))))
 refine RL.ak ?_
 iterate 2 refine RW.seq ?_
 refine RW.region (RL.ag (v:=.int .i64 (0)) ai (RL.ak (RW.block ?_)))
 refine RW.loop (fun k R0 cz=>∃z:Int,∃y:Int,∃i:Nat,R0 0=av∧R0 1=bv∧R0 6=.int .i64 (z)∧R0 7=.int .i64 (y)∧R0 8=vJ i∧aI w none_ cz []∧(i+k=a.length)∧((y= -1∧z= -1)∨(0≤y∧0≤z∧z≤211106232532992))∧(gW a b i 0 z y)) (a.length) ?_ ?_
 exact⟨-1,-1,0,rfl,rfl,rfl,rfl,rfl,hN,by omega,.inl ⟨rfl,rfl⟩,fun i1 k1 e f _ _ _ h=>absurd h (by omega)⟩
 clear hN
 rintro k R0 cz ⟨z,y,i,cH,bP,cW,cF,cR,hN,gk,hz,hm⟩
 have cB:=iw cH bP cW cF cR
 obtain⟨gF,rfl⟩:=cB
 clear cH bP cW cF cR
 iterate 2 refine RW.seq ?_
 refine RW.region (RL.ag (v:=vJ i) U (RL.ag (v:=av) U ?_))
 have nG:=(ha.o.now hN).bw
 refine RL.ag (bO acW (ha.o.now hN)) (RL.ag (aL) (RL.ak ?_))
 refine RW.aG _ (fun cD=>?_) (fun cD=>?_)
 refine RW.skip (aw (RW.seq (RW.block (RW.aN (RL.ag (v:=.int .i64 (0)) ai (RL.ak (RW.block ?_)))))))
 refine RW.loop (fun k2 R1 eW=>∃z2:Int,∃y2:Int,∃q:Nat,R1 0=av∧R1 1=bv∧R1 6=.int .i64 (z2)∧R1 7=.int .i64 (y2)∧R1 8=vJ i∧R1 9=vJ q∧aI w none_ eW []∧(q+k2=b.length)∧((y2= -1∧z2= -1)∨(0≤y2∧0≤z2∧z2≤211106232532992))∧(gW a b i q z2 y2)) (b.length) ?_ ?_
 exact⟨z,y,0,rfl,rfl,rfl,rfl,rfl,rfl,hN,by omega,hz,hm⟩
 clear hN
 rintro k2 R1 eW ⟨z2,y2,q,cH,bP,cW,cF,cR,eg,hN,yq,Qc,As⟩
 have cB:=o9 cH bP cW cF cR eg
 obtain⟨sk,rfl⟩:=cB
 clear cH bP cW cF cR eg
 iterate 2 refine RW.seq ?_
 refine RW.region (RL.ag (v:=vJ q) U (RL.ag (v:=bv) U ?_))
 have jm:=(hb.o.now hN).bw
 refine RL.ag (bO acW (hb.o.now hN)) (RL.ag (aL) (RL.ak ?_))
 refine RW.aG _ (fun eD=>?_) (fun eD=>?_)
 refine RW.skip (aw (RW.seq (RW.block (RW.seq ?_))))
 replace hN:=hN.ext (Ext.drew eW)
 refine RW.bD (fun u=>aI w none_ u []) 54 [(0,0),(1,0),(2,0),(3,0),(4,0),(5,0),(6,0),(7,0),(8,0),(9,0),(10,0),(11,0),(12,0),(13,0),(14,0),(15,0),(16,0),(17,0),(18,0),(19,0),(20,0),(21,0),(22,0),(23,0),(24,0),(25,0),(26,0),(27,0),(28,0),(29,0),(30,0),(31,0),(32,0),(33,0),(34,0),(35,0),(36,0),(37,0),(38,0),(39,0),(40,0),(41,0),(42,0),(43,0),(44,0),(45,0),(46,0),(47,0),(48,0),(49,0),(50,0),(51,0),(52,0),(53,0)] (by intro _ _ _ h;exact h) hN (RQ.aA (v:=av) rfl (fun w hS=>U) (RQ.aA (v:=vJ i) rfl (fun w hS=>U) (RQ.aA rfl (fun w hS=>(aU acW ef bp (ha.o.now hS))) ?_)))
 have aO:=da (a) i
 obtain⟨ap,bX⟩:=aO
 refine RQ.aA rfl (fun w hS=>(bl (m:=i) (b:=0) acS rfl bK bp (ha.o.now hS) bX)) ?_
 have aO:=hA ap (acy bX)
 obtain⟨Xu,Xt,hp3,hp4⟩:=aO
 refine RQ.aA rfl (fun w hS=>(bB (m:=i) (j:=0) (a:=ap) acs bp (ha.o.now hS) bX)) (RQ.aA (v:=bv) rfl (fun w hS=>U) (RQ.aA (v:=vJ q) rfl (fun w hS=>U) (RQ.aA rfl (fun w hS=>(aU acW ef bp (hb.o.now hS))) ?_)))
 have aO:=da (b) q
 obtain⟨ar,jS⟩:=aO
 refine RQ.aA rfl (fun w hS=>(bl (m:=q) (b:=0) acS rfl bK bp (hb.o.now hS) jS)) ?_
 have aO:=hB ar (acy jS)
 obtain⟨pF,Ao,hr3,hr4⟩:=aO
 refine RQ.aA rfl (fun w hS=>(bB (m:=q) (j:=0) (a:=ar) acs bp (hb.o.now hS) jS)) (RQ.aA rfl (fun w hS=>(bZ)) (RQ.aA (v:=.bool (decide (ap.1=ar.1))) rfl (fun w hS=>U) ?_))
 by_cases H7:ap.1=ar.1
 rw[decide_eq_true H7]
 refine RQ.aS (v:=.int .i64 (y2)) rfl (fun w hS=>U) (RQ.aS rfl (fun w hS=>(aL)) (RQ.aS (v:=.bool (decide (y2<0))) rfl (fun w hS=>U) ?_))
 by_cases H6:y2<0
 rw[decide_eq_true H6]
 iterate 13 refine RQ.bU rfl ?_
 refine RQ.aS (v:=.bool true) rfl (fun w hS=>(al)) (RQ.aS (v:=.bool true) rfl (fun w hS=>U) ?_)
 iterate 14 refine RQ.bU rfl ?_
 iterate 7 refine RQ.dS rfl ?_
 refine RQ.bU rfl (RQ.aS (v:=.bool true) rfl (fun w hS=>(al)) (RQ.aA (v:=.bool true) rfl (fun w hS=>(al)) (RQ.bq (aw (RW.bF (RW.seq ?_))))))
 replace hN:=hN.ext (Ext.drew eW.drew)
 refine RW.bD (fun u=>aI w none_ u []) 12 [(0,0),(1,0),(2,0),(3,0),(4,0),(5,0),(6,0),(7,0),(8,0),(9,0),(10,0),(11,0)] (by intro _ _ _ h;exact h) hN (RQ.aA (v:=av) rfl (fun w hS=>U) (RQ.aA (v:=vJ i) rfl (fun w hS=>U) (RQ.aA rfl (fun w hS=>(aU acW ef bp (ha.o.now hS))) (RQ.aA rfl (fun w hS=>(bl (m:=i) (b:=0) acS rfl bK bp (ha.o.now hS) bX)) (RQ.aA rfl (fun w hS=>(bB (m:=i) (j:=1) (a:=ap) acs bp (ha.o.now hS) bX)) (RQ.aA (v:=bv) rfl (fun w hS=>U) (RQ.aA (v:=vJ q) rfl (fun w hS=>U) (RQ.aA rfl (fun w hS=>(aU acW ef bp (hb.o.now hS))) (RQ.aA rfl (fun w hS=>(bl (m:=q) (b:=0) acS rfl bK bp (hb.o.now hS) jS)) ?_)))))))))
 refine RQ.aA rfl (fun w hS=>(bB (m:=q) (j:=1) (a:=ar) acs bp (hb.o.now hS) jS)) (RQ.aA rfl (fun w hS=>(aD rfl rfl rfl (bh (by omega) (by omega)))) (RQ.aA (v:=.int .i64 (ap.2+ar.2)) rfl (fun w hS=>ai) (RQ.bq (aw (RW.region (RL.ag (v:=av) U (RL.ag (v:=vJ i) U (RL.ag (aU acW ef bp (ha.o.now hN)) (RL.ag (bl (m:=i) (b:=0) acS rfl bK bp (ha.o.now hN) bX) ?_)))))))))
 refine RL.ag (bB (m:=i) (j:=0) (a:=ap) acs bp (ha.o.now hN) bX) (RL.ag (v:=.int .i64 (ap.1)) ai (RL.nil (aY (aw (RW.region (RL.ag (v:=vJ q) U (RL.ag (aD rfl rfl rfl (bh (by omega) (by omega))) (RL.ag (v:=.int .i64 ((q:Int)+1)) ai (RL.nil ?_)))))))))
 refine aw ?_
 exact⟨k2-1,by omega,ap.2+ar.2,ap.1,q+1,rfl,rfl,rfl,rfl,rfl,rfl,hN,by omega,.inr ⟨by omega,by omega,by omega⟩,As.dw bX jS (by omega) (by first|exact .inl (by assumption)|exact .inr (by omega))⟩
 rw[decide_eq_false H6]
 refine RQ.aS (v:=av) rfl (fun w hS=>U) (RQ.aS (v:=vJ i) rfl (fun w hS=>U) (RQ.aS rfl (fun w hS=>(aU acW ef bp (ha.o.now hS))) (RQ.aS rfl (fun w hS=>(bl (m:=i) (b:=0) acS rfl bK bp (ha.o.now hS) bX)) (RQ.aS rfl (fun w hS=>(bB (m:=i) (j:=1) (a:=ap) acs bp (ha.o.now hS) bX)) (RQ.aS (v:=bv) rfl (fun w hS=>U) (RQ.aS (v:=vJ q) rfl (fun w hS=>U) (RQ.aS rfl (fun w hS=>(aU acW ef bp (hb.o.now hS))) (RQ.aS rfl (fun w hS=>(bl (m:=q) (b:=0) acS rfl bK bp (hb.o.now hS) jS)) (RQ.aS rfl (fun w hS=>(bB (m:=q) (j:=1) (a:=ar) acs bp (hb.o.now hS) jS)) ?_)))))))))
 refine RQ.aS rfl (fun w hS=>(aD rfl rfl rfl (bh (by omega) (by omega)))) (RQ.aS (v:=.int .i64 (z2)) rfl (fun w hS=>U) (RQ.aS rfl (fun w hS=>(aL)) (RQ.aS (v:=.bool (decide (ap.2+ar.2<z2))) rfl (fun w hS=>(aB)) (RQ.aS (v:=.bool (decide (ap.2+ar.2<z2))) rfl (fun w hS=>U) ?_))))
 by_cases H2:ap.2+ar.2<z2
 rw[decide_eq_true H2]
 iterate 14 refine RQ.bU rfl ?_
 iterate 7 refine RQ.dS rfl ?_
 refine RQ.bU rfl (RQ.aS (v:=.bool true) rfl (fun w hS=>(al)) (RQ.aA (v:=.bool true) rfl (fun w hS=>(al)) (RQ.bq (aw (RW.bF (RW.seq ?_))))))
 replace hN:=hN.ext (Ext.drew eW.drew)
 refine RW.bD (fun u=>aI w none_ u []) 12 [(0,0),(1,0),(2,0),(3,0),(4,0),(5,0),(6,0),(7,0),(8,0),(9,0),(10,0),(11,0)] (by intro _ _ _ h;exact h) hN (RQ.aA (v:=av) rfl (fun w hS=>U) (RQ.aA (v:=vJ i) rfl (fun w hS=>U) (RQ.aA rfl (fun w hS=>(aU acW ef bp (ha.o.now hS))) (RQ.aA rfl (fun w hS=>(bl (m:=i) (b:=0) acS rfl bK bp (ha.o.now hS) bX)) (RQ.aA rfl (fun w hS=>(bB (m:=i) (j:=1) (a:=ap) acs bp (ha.o.now hS) bX)) (RQ.aA (v:=bv) rfl (fun w hS=>U) (RQ.aA (v:=vJ q) rfl (fun w hS=>U) (RQ.aA rfl (fun w hS=>(aU acW ef bp (hb.o.now hS))) (RQ.aA rfl (fun w hS=>(bl (m:=q) (b:=0) acS rfl bK bp (hb.o.now hS) jS)) ?_)))))))))
 refine RQ.aA rfl (fun w hS=>(bB (m:=q) (j:=1) (a:=ar) acs bp (hb.o.now hS) jS)) (RQ.aA rfl (fun w hS=>(aD rfl rfl rfl (bh (by omega) (by omega)))) (RQ.aA (v:=.int .i64 (ap.2+ar.2)) rfl (fun w hS=>ai) (RQ.bq (aw (RW.region (RL.ag (v:=av) U (RL.ag (v:=vJ i) U (RL.ag (aU acW ef bp (ha.o.now hN)) (RL.ag (bl (m:=i) (b:=0) acS rfl bK bp (ha.o.now hN) bX) ?_)))))))))
 refine RL.ag (bB (m:=i) (j:=0) (a:=ap) acs bp (ha.o.now hN) bX) (RL.ag (v:=.int .i64 (ap.1)) ai (RL.nil (aY (aw (RW.region (RL.ag (v:=vJ q) U (RL.ag (aD rfl rfl rfl (bh (by omega) (by omega))) (RL.ag (v:=.int .i64 ((q:Int)+1)) ai (RL.nil ?_)))))))))
 refine aw ?_
 exact⟨k2-1,by omega,ap.2+ar.2,ap.1,q+1,rfl,rfl,rfl,rfl,rfl,rfl,hN,by omega,.inr ⟨by omega,by omega,by omega⟩,As.dw bX jS (by omega) (by first|exact .inl (by assumption)|exact .inr (by omega))⟩
 rw[decide_eq_false H2]
 refine RQ.aS (v:=av) rfl (fun w hS=>U) (RQ.aS (v:=vJ i) rfl (fun w hS=>U) (RQ.aS rfl (fun w hS=>(aU acW ef bp (ha.o.now hS))) (RQ.aS rfl (fun w hS=>(bl (m:=i) (b:=0) acS rfl bK bp (ha.o.now hS) bX)) (RQ.aS rfl (fun w hS=>(bB (m:=i) (j:=1) (a:=ap) acs bp (ha.o.now hS) bX)) (RQ.aS (v:=bv) rfl (fun w hS=>U) (RQ.aS (v:=vJ q) rfl (fun w hS=>U) (RQ.aS rfl (fun w hS=>(aU acW ef bp (hb.o.now hS))) (RQ.aS rfl (fun w hS=>(bl (m:=q) (b:=0) acS rfl bK bp (hb.o.now hS) jS)) (RQ.aS rfl (fun w hS=>(bB (m:=q) (j:=1) (a:=ar) acs bp (hb.o.now hS) jS)) ?_)))))))))
 refine RQ.aS rfl (fun w hS=>(aD rfl rfl rfl (bh (by omega) (by omega)))) (RQ.aS (v:=.int .i64 (z2)) rfl (fun w hS=>U) (RQ.aS rfl (fun w hS=>(bZ)) (RQ.aS (v:=.bool (decide (ap.2+ar.2=z2))) rfl (fun w hS=>U) ?_)))
 by_cases H0:ap.2+ar.2=z2
 rw[decide_eq_true H0]
 refine RQ.aS (v:=av) rfl (fun w hS=>U) (RQ.aS (v:=vJ i) rfl (fun w hS=>U) (RQ.aS rfl (fun w hS=>(aU acW ef bp (ha.o.now hS))) (RQ.aS rfl (fun w hS=>(bl (m:=i) (b:=0) acS rfl bK bp (ha.o.now hS) bX)) (RQ.aS rfl (fun w hS=>(bB (m:=i) (j:=0) (a:=ap) acs bp (ha.o.now hS) bX)) (RQ.aS (v:=.int .i64 (y2)) rfl (fun w hS=>U) (RQ.aS rfl (fun w hS=>(cr)) (RQ.aS (v:=.bool (decide (y2<ap.1))) rfl (fun w hS=>(al)) (RQ.aS (v:=.bool (decide (y2<ap.1))) rfl (fun w hS=>(aB)) (RQ.aA (v:=.bool (decide (y2<ap.1))) rfl (fun w hS=>(al)) ?_)))))))))
 refine RQ.bq (aw ?_)
 refine RW.aG _ (fun VM=>?_) (fun VM=>?_)
 refine RW.seq ?_
 replace hN:=hN.ext (Ext.drew eW.drew)
 refine RW.bD (fun u=>aI w none_ u []) 12 [(0,0),(1,0),(2,0),(3,0),(4,0),(5,0),(6,0),(7,0),(8,0),(9,0),(10,0),(11,0)] (by intro _ _ _ h;exact h) hN (RQ.aA (v:=av) rfl (fun w hS=>U) (RQ.aA (v:=vJ i) rfl (fun w hS=>U) (RQ.aA rfl (fun w hS=>(aU acW ef bp (ha.o.now hS))) (RQ.aA rfl (fun w hS=>(bl (m:=i) (b:=0) acS rfl bK bp (ha.o.now hS) bX)) (RQ.aA rfl (fun w hS=>(bB (m:=i) (j:=1) (a:=ap) acs bp (ha.o.now hS) bX)) (RQ.aA (v:=bv) rfl (fun w hS=>U) (RQ.aA (v:=vJ q) rfl (fun w hS=>U) (RQ.aA rfl (fun w hS=>(aU acW ef bp (hb.o.now hS))) (RQ.aA rfl (fun w hS=>(bl (m:=q) (b:=0) acS rfl bK bp (hb.o.now hS) jS)) ?_)))))))))
 refine RQ.aA rfl (fun w hS=>(bB (m:=q) (j:=1) (a:=ar) acs bp (hb.o.now hS) jS)) (RQ.aA rfl (fun w hS=>(aD rfl rfl rfl (bh (by omega) (by omega)))) (RQ.aA (v:=.int .i64 (ap.2+ar.2)) rfl (fun w hS=>ai) (RQ.bq (aw (RW.region (RL.ag (v:=av) U (RL.ag (v:=vJ i) U (RL.ag (aU acW ef bp (ha.o.now hN)) (RL.ag (bl (m:=i) (b:=0) acS rfl bK bp (ha.o.now hN) bX) ?_)))))))))
 refine RL.ag (bB (m:=i) (j:=0) (a:=ap) acs bp (ha.o.now hN) bX) (RL.ag (v:=.int .i64 (ap.1)) ai (RL.nil (aY (aw (RW.region (RL.ag (v:=vJ q) U (RL.ag (aD rfl rfl rfl (bh (by omega) (by omega))) (RL.ag (v:=.int .i64 ((q:Int)+1)) ai (RL.nil ?_)))))))))
 refine aw ?_
 exact⟨k2-1,by omega,ap.2+ar.2,ap.1,q+1,rfl,rfl,rfl,rfl,rfl,rfl,hN,by omega,.inr ⟨by omega,by omega,by omega⟩,As.dw bX jS (by omega) (by first|exact .inl (by assumption)|exact .inr (by omega))⟩
 refine RW.skip (aY (aw (RW.region (RL.ag (v:=vJ q) U (RL.ag (aD rfl rfl rfl (bh (by omega) (by omega))) (RL.ag (v:=.int .i64 ((q:Int)+1)) ai (RL.ak ?_)))))))
 exact⟨k2-1,by omega,_,_,q+1,rfl,rfl,rfl,rfl,rfl,rfl,hN,by omega,Qc,As.skip bX jS (fun h=>by first|exact absurd h (by assumption)|(constructor<;>omega))⟩
 rw[decide_eq_false H0]
 iterate 7 refine RQ.bU rfl ?_
 iterate 2 refine RQ.aS (v:=.bool false) rfl (fun w hS=>(aB)) ?_
 refine RQ.aA (v:=.bool false) rfl (fun w hS=>(al)) (RQ.bq (aw (RW.cg (RW.skip (aY (aw (RW.region (RL.ag (v:=vJ q) U (RL.ag (aD rfl rfl rfl (bh (by omega) (by omega))) ?_)))))))))
 refine RL.ag (v:=.int .i64 ((q:Int)+1)) ai (RL.ak ?_)
 exact⟨k2-1,by omega,_,_,q+1,rfl,rfl,rfl,rfl,rfl,rfl,hN,by omega,Qc,As.skip bX jS (fun h=>by first|exact absurd h (by assumption)|(constructor<;>omega))⟩
 rw[decide_eq_false H7]
 iterate 3 refine RQ.bU rfl ?_
 iterate 13 refine RQ.dS rfl ?_
 iterate 2 refine RQ.bU rfl ?_
 iterate 22 refine RQ.dS rfl ?_
 refine RQ.bU rfl (RQ.aA (v:=.bool false) rfl (fun w hS=>(aB)) (RQ.bq (aw (RW.cg (RW.skip (aY (aw (RW.region (RL.ag (v:=vJ q) U ?_)))))))))
 refine RL.ag (aD rfl rfl rfl (bh (by omega) (by omega))) (RL.ag (v:=.int .i64 ((q:Int)+1)) ai (RL.ak ?_))
 exact⟨k2-1,by omega,_,_,q+1,rfl,rfl,rfl,rfl,rfl,rfl,hN,by omega,Qc,As.skip bX jS (fun h=>by first|exact absurd h (by assumption)|(constructor<;>omega))⟩
 refine RW.exit ?_
 iterate 2 refine bS ?_
 refine ba (aY (aw (RW.region (RL.ag (v:=vJ i) U (RL.ag (aD rfl rfl rfl (bh (by omega) (by omega))) (RL.ag (v:=.int .i64 ((i:Int)+1)) ai (RL.ak ?_)))))))
 exact⟨k-1,by omega,z2,y2,i+1,rfl,rfl,rfl,rfl,rfl,hN,by omega,Qc,As.row (by omega)⟩
 refine RW.exit ?_
 iterate 2 refine bS ?_
 refine ba (aw (RW.aN (RL.ag (v:=.int .i64 (z)) U (RL.ag (v:=.int .i64 (y)) U (RL.ag (v:=.int .i64 (z)) ai (RL.ag (v:=.int .i64 (y)) ai (RL.ak ?_)))))))
 refine RW.ret (bb (RV.ju rfl) ?_)
 exact⟨z,y,i,rfl,hz,hm,by omega,hN.bc⟩
theorem zi (n:Nat) (rv wv:Value) (rk:List Int) (ways:List I5) (w:World) (hr:Sl vI w rv rk) (hw:Sm aV w wv ways) (hH:CX n rk ways) (s t:Int) (hn:n≤12) (y7:0≤s) (mQ:s<n) (TI:0≤t) (UD:t<n):aM acx 208 #[.agg #[rv,wv],.int .i64 s,.int .i64 t] w fun r w'=>∃z y:Int,r=.tuple #[.int .i64 z,.int .i64 y]∧-1≤z∧z≤211106232532992∧(s=t→z=0)∧Ext w w':=by
 refine aM.aZ akf ?_
 rw[iX]
 have hN:=aI.nil w none_
 have uh:=hH.len
 refine RW.aN ?_
 refine RL.aK (bL (cs:=[rv,wv]) rfl rfl hN ?_)
 clear hN
 intro g1 w1 (hN:aI w none_ w1 [_])
 iterate 2 refine RL.ag (v:=.int .i64 (0)) ai ?_
 refine RL.ak (RW.seq ?_)
 replace hN:=hN.ext (Ext.drew w1)
 refine RW.bD (fun u=>aI w none_ u [.aJ g1 [rv,wv] 28]) 11 [(0,0),(1,0),(3,0),(4,0),(2,1),(5,1),(6,1),(7,0),(8,0),(9,0),(10,0)] (by intro _ _ _ h;exact h) hN (RQ.aA rfl (fun w hS=>(aE (cs:=[rv,wv]) acz dy (hS.aJ 0 rfl))) (RQ.aA (v:=.int .i64 (s)) rfl (fun w hS=>U) (RQ.aA rfl (fun w hS=>(aE (cs:=[rv,wv]) acz dy (hS.aJ 0 rfl))) (RQ.aA (v:=.int .i64 (t)) rfl (fun w hS=>U) ?_))))
 refine RQ.b0 rfl (cq aix rfl rfl rfl rfl rfl ((rB n _ _ rk ways _ (hr.o.now hN) (hw.o.now hN) hH s false hn y7 mQ).mono ?_))
 rintro v2 w2 ⟨Eu,cL,hR2,TQ,ZT,bn⟩
 replace hN:aI w none_ w2 [_,_]:=hN.fF cL bn
 clear cL bn
 refine⟨(hN.sb [1]),?_⟩
 refine RQ.b0 rfl (cq aix rfl rfl rfl rfl rfl ((rB n _ _ rk ways _ (hr.o.now hN) (hw.o.now hN) hH t true hn TI UD).mono ?_))
 rintro v3 w3 ⟨G0,cL,hR3,hS3,US,bn⟩
 replace hN:aI w none_ w3 [_,_,_]:=hN.fF cL bn
 clear cL bn
 refine⟨(hN.sb [2]),?_⟩
 refine RQ.b0 rfl (bu ake rfl rfl rfl rfl ((B8 n _ _ Eu G0 _ (hN.sm 1 rfl) (hN.sm 0 rfl) hR2 hR3 (by omega) (by omega)).mono ?_))
 rintro _ w4 ⟨z4,y4,i4,rfl,Us,R8,hi4,bn⟩
 replace hN:=hN.ext bn
 clear bn
 refine⟨(hN.sb [2]),?_⟩
 iterate 2 refine RQ.aA rfl (fun w hS=>(bA)) ?_
 refine RQ.aA (v:=.int .i64 (z4)) rfl (fun w hS=>ai) (RQ.aA (v:=.int .i64 (y4)) rfl (fun w hS=>ai) (RQ.bq (aw (RW.ret (bb (RV.ju rfl) ?_)))))
 exact⟨_,_,rfl,by omega,by omega,fun e=>by subst e;exact meet_self (n:=n) R8 hi4 Us TQ hS3,hN.bc⟩
theorem qJ (n:Nat) (rv wv:Value) (rk:List Int) (ways:List I5) (w:World) (hr:Sl vI w rv rk) (hw:Sm aV w wv ways) (hH:CX n rk ways) (s t:Int) (hn:n≤12) (y7:0≤s) (mQ:s<n) (TI:0≤t) (UD:t<n):aM acx 187 #[.agg #[rv,wv],.int .i64 s,.int .i64 t] w fun r w'=>∃z:Int,r=.int .i64 z∧-1≤z∧z≤211106232532992∧(s=t→z=0)∧Ext w w':=by
 refine aM.aZ aha ?_
 rw[iX]
 have hN:=aI.nil w none_
 refine RW.aN ?_
 refine RL.aK (bL (cs:=[rv,wv]) rfl rfl hN ?_)
 clear hN
 intro g1 w1 (hN:aI w none_ w1 [_])
 refine RL.ag (v:=.int .i64 (0)) ai (RL.b6 (RL.ag (aE (cs:=[rv,wv]) acz dy (hN.aJ 0 rfl)) (RL.ag (v:=.int .i64 (s)) U (RL.ag (v:=.int .i64 (t)) U ?_))))
 refine RL.aK (cq akf rfl rfl rfl rfl rfl ((zi n _ _ rk ways _ (hr.o.now hN) (hw.o.now hN) hH s t hn y7 mQ TI UD).mono ?_))
 rintro _ w2 ⟨z2,y2,rfl,Lb,Vr,UI,bn⟩
 replace hN:=hN.ext bn
 clear bn
 refine RL.ag (v:=.tuple #[.int .i64 (z2),.int .i64 (y2)]) U ?_
 iterate 2 refine RL.ag (bA) ?_
 refine RL.ag (v:=.int .i64 (z2)) ai (RL.ag (v:=.int .i64 (y2)) ai (RL.b6 (RL.ag (v:=.int .i64 (z2)) U (RL.ag (v:=.int .i64 (z2)) ai (RL.ak ?_)))))
 refine RW.ret (bb (RV.tmp rfl) ?_)
 exact⟨_,rfl,Lb,Vr,UI,hN.bc⟩
theorem Ca (n:Nat) (rv wv:Value) (rk:List Int) (ways:List I5) (tv:Value) (ts:List Int) (w:World) (hr:Sl vI w rv rk) (hw:Sm aV w wv ways) (hH:CX n rk ways) (ht:Sl vI w tv ts) (s:Int) (hn:n≤12) (y7:0≤s) (mQ:s<n) (Qg:∀x∈ts,0≤x∧x<n) (K7:ts.length≤4096):aM acx 141 #[.agg #[rv,wv],.int .i64 s,tv] w fun r w'=>∃out,eG vI 3 w' w.heap.size r out∧out.length=ts.length∧(∀z∈out,-1≤z∧z≤211106232532992)∧(∀j:Nat,ts[j]?=some s→out[j]?=some 0)∧Ext w w':=by
 refine aM.aZ akg ?_
 rw[iX]
 have hN:=aI.nil w none_
 refine RW.aN ?_
 refine RL.aK (bL (cs:=[rv,wv]) rfl rfl hN ?_)
 clear hN
 intro g1 w1 (hN:aI w none_ w1 [_])
 refine RL.ag (v:=vN) ai (RL.b6 (RL.ag (v:=vN) ai (RL.ak ?_)))
 iterate 2 refine RW.seq ?_
 refine RW.region (RL.ag (v:=.int .i64 (0)) ai (RL.ak (RW.block ?_)))
 replace hN:=hN.dD vI 3
 refine RW.loop (fun k R0 cz=>∃va:Value,∃acc:List Int,∃i:Nat,R0 1=.int .i64 (s)∧R0 2=tv∧R0 3=vP g1∧R0 7=va∧R0 8=vJ i∧aI w none_ cz [.own vI 3 (va) (acc),.aJ g1 [rv,wv] 28]∧(i+k=ts.length)∧(acc.length=i)∧(∀z∈acc,-1≤z∧z≤211106232532992)∧(∀j,j<i→ts[j]?=some s→acc[j]?=some 0)) (ts.length) ?_ ?_
 exact⟨vN,[],0,rfl,rfl,rfl,rfl,rfl,hN,by omega,rfl,(fun z hz=>absurd hz acV),(fun j hj=>absurd hj (by omega))⟩
 clear hN
 rintro k R0 cz ⟨va,acc,i,bP,bV,cd,cF,cR,hN,gk,ir,fU,Xf⟩
 have cB:=iw bP bV cd cF cR
 obtain⟨gF,rfl⟩:=cB
 clear bP bV cd cF cR
 iterate 2 refine RW.seq ?_
 refine RW.region (RL.ag (v:=vJ i) U (RL.ag (v:=tv) U ?_))
 have k9:=(ht.o.now hN).bw
 refine RL.ag (aQ acu (ht.o.now hN)) (RL.ag (aL) (RL.ak ?_))
 refine RW.aG _ (fun cD=>?_) (fun cD=>?_)
 refine RW.skip (aw (RW.seq (RW.block ?_)))
 replace hN:=hN.ext (Ext.drew cz)
 refine RW.bD (fun u=>aI w none_ u [.aJ g1 [rv,wv] 28]) 11 [(0,0),(1,0),(2,0),(3,0),(4,0),(5,0),(6,0),(7,1),(8,1),(9,1),(10,0)] (by intro _ _ _ h;exact h) (hN.sb [1]) (RQ.aA (v:=va) rfl (fun w hS=>U) (RQ.aA rfl (fun w hS=>(aE (cs:=[rv,wv]) acz dy (hS.aJ 0 rfl))) (RQ.aA (v:=.int .i64 (s)) rfl (fun w hS=>U) (RQ.aA (v:=tv) rfl (fun w hS=>U) (RQ.aA (v:=vJ i) rfl (fun w hS=>U) (RQ.aA rfl (fun w hS=>(aC acu bK (ht.o.now hS))) ?_))))))
 have aO:=da (ts) i
 obtain⟨ap,bX⟩:=aO
 refine RQ.aA rfl (fun w hS=>(aF (m:=i) (a:=ap) acs (ht.o.now hS) bX)) ?_
 have aO:=Qg ap (acy bX)
 obtain⟨CB,vX⟩:=aO
 refine RQ.b0 rfl (cq aha rfl rfl rfl rfl rfl ((qJ n _ _ rk ways _ (hr.o.now hN) (hw.o.now hN) hH s ap hn y7 mQ CB vX).mono ?_))
 rintro _ w4 ⟨z4,rfl,Sd,SE,RF,bn⟩
 replace hN:=hN.ext bn
 clear bn
 refine⟨(hN.sb [1]),?_⟩
 refine RQ.b0 rfl (cw (enc:=vI) (l:=[z4]) (xs:=[.tmp 22]) acu bK mU rfl rfl (fun _=>rfl) rfl (by decide) (by decide) hN ?_)
 clear hN
 intro g5 w5 (hN:aI w none_ w5 [_,_,_])
 refine⟨(hN.sb [2]),?_⟩
 refine RQ.b0 rfl (b9 acu gz rfl (fun _=>rfl) hN 1 rfl rfl (hN.sl 0 rfl) rfl (by(try simp only[acw,acC,acF,acN]);omega) (by decide) ?_)
 clear hN
 intro v6 w6 (hN:aI w none_ w6 [_,_,_])
 refine⟨(hN.sb [2]),?_⟩
 refine RQ.aA (v:=v6) rfl (fun w hS=>ai) (RQ.bq (aY (aw (RW.region (RL.ag (v:=vJ i) U (RL.ag (aD rfl rfl rfl (bh (by omega) (by omega))) (RL.ag (v:=.int .i64 ((i:Int)+1)) ai (RL.ak ?_))))))))
 exact⟨k-1,by omega,v6,acc++[z4],i+1,rfl,rfl,rfl,rfl,rfl,(hN.sb [1,2]),by omega,by rw[acw,ir];rfl,(fun z hz=>(adl.1 hz).elim (fU z) fun h=>by rw[ade]at h;subst h;exact⟨Sd,SE⟩),EG ir Xf bX RF⟩
 refine RW.exit ?_
 iterate 2 refine bS ?_
 refine ba (aw (RW.aN (RL.ag (v:=va) U (RL.ag (v:=va) ai (RL.ak (RW.ret (bb (RV.tmp rfl) ?_)))))))
 exact⟨acc,hN.fL 0 rfl,by omega,fU,fun j hj=>Xf j (by have:=(acA.1 hj).1;omega) hj,hN.bc⟩
end Go.Proofs.YtngkdkbpgoddlaaGreat
