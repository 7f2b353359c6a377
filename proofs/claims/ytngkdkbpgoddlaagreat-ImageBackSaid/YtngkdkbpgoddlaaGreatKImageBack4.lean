/- The law ImageBack: texts that its row leans on (4). -/
import Derived.Test.YtngkdkbpgoddlaaGreatKImageBack3
set_option linter.unusedVariables false
set_option linter.unusedSimpArgs false
set_option linter.unusedSectionVars false
set_option maxHeartbeats 4000000
set_option maxRecDepth 100000
open Classical renaming propDecidable → adv
open Decidable renaming not_not → acX
open Go.IntKind renaming i64 → adE, u64 → aeb
open Go.Proofs.Tryz renaming underlying3 → acy, underlying25 → acz, prog → acD, underlying28 → acE, underlying98 → acG, underlying24 → acJ, underlying26 → acL, underlying96 → acN, underlying34 → acO, underlying22 → acP, underlying29 → acQ, underlying32 → acR, underlying100 → acT, underlying38 → acW, underlying135 → acY, underlying118 → ac1, underlying30 → ac5, underlying5 → ady, underlying89 → adz, underlying45 → adL, underlying75 → aec, underlying82 → ael, underlying9 → aeq, underlying59 → aet, func70 → aeP, func95 → ae7, func40 → afp, func171 → afA, func76 → af5, func10 → af6, func14 → af7, func160 → agu, func167 → agv, func36 → agF, func84 → agH, underlying132 → agO, func103 → ahd, func170 → ahe, func18 → ahC, func71 → ahD, func29 → ahF, func83 → ahG, func41 → ahH, func158 → ail, func104 → aim, underlying219 → ain, func164 → aio, func165 → aip, func161 → aiq, func162 → air, underlying228 → ais, func169 → ait, func37 → aiQ, func28 → aiT, func157 → ajT, func102 → ajX, func101 → ajY, func100 → ajZ, func213 → aj0, func218 → aj1, func212 → aj2, func199 → aj3, func201 → aj4, func163 → aj5, func166 → aj6, func214 → aj7, func200 → aj8, func168 → aj9, func107 → aka, func109 → akb, func110 → akc
open Go.Value renaming bool → acV, int → ac4, tuple → aiU
open Int renaming fdiv_eq_ediv_of_nonneg → ae0
open List renaming length_append → acB, mem_of_getElem? → acC, getElem?_eq_some_iff → acF, length_singleton → acH, length_cons → acK, getElem?_eq_getElem → acM, length_nil → acS, not_mem_nil → ac0, take_of_length_le → ac2, mem_cons → ac6, length_take → ac9, length_map → ada, length_replicate → adb, getElem?_of_mem → ade, mem_map → adg, mem_singleton → adh, length_drop → adj, take_length → adm, mem_append → adn, append_nil → adw, range → adC, eq_nil_of_length_eq_zero → adH, getElem?_map → adI, length → adQ, map_append → ad7, getElem?_take → aeg, range_succ → aeH, drop_eq_nil_of_le → aeW, mem_take_iff_getElem → ae6, length_pos_iff → agB
open Nat renaming le_of_ble_eq_true → acA, le_trans → acU, le_refl → ac8, lt_or_ge → adi, zero_add → aeY
open Option renaming map_eq_some_iff → ahv
open Option.some renaming inj → ac7
open Prod renaming ext → ad1, snd → ad4
namespace Go.Proofs.YtngkdkbpgoddlaaGreat
open Go.RowKit Go.Rl
open Go.Gr Go.dj Go.jR
theorem xZ {σ:Type} (l:Nat) (C:Bool→σ→Atom) (T:σ→(Value×List UInt8)→Bool→σ→Prop) (s0:σ) {n:Int} {ar:List I3} {F:Nat→Prop} (w:World) (hT:∀s x b s',T s x b s'→b=true) (hY:oD acD l C T ad4 s0 (mh n ar) (M8 vb) A8) (gb:Nat) (v:Value) (hN:aH w F w [C true s0,.aJ gb [.int .i64 n,v] 24]) (hv:mz F bC w v ar) (im:ar.length≤67108864):aM acD 69 #[.func (.yield l) #[] #[],vP gb] w fun _ w'=>∃s',vc T ad4 s0 (mh n ar) s'∧aH w F w' [C true s']:=by
 refine aM.k7 Tryz.func69 rfl (acA rfl) ?_
 rw[cS]
 have hg:eW T ad4 s0 (mh n ar) s0 (mh n ar):=eW.start
 refine XW.sE (XL.eP (v:=.func (.yield l) #[] #[]) U (XL.eP (ah acJ rfl bI) (XL.eP (aj acy (hN.aJ 1 rfl)) ?_)))
 refine XL.op rfl rfl (lV.of rfl (cx (enc:=vi) (l:=[n]) (xs:=[.tmp 5]) acz bI mN rfl rfl (fun _=>rfl) rfl (by decide) (by decide) hN ?_))
 clear hN
 intro g1 w1 (hN:aH w F w1 [_,_,_])
 refine XL.op rfl rfl (lV.of rfl (bo aeP rfl rfl rfl ((fD _ ([n]) _ (hN.sl 0 rfl) (by(try simp only[acB,ac9,adj,acS,acK,acH,adb,acB,ada]);omega)).mono ?_)))
 rintro v2 w2 ⟨cL,bl⟩
 replace hN:aH w F w2 [_,_,_,_]:=hN.cl (l:=bL ([n])) cL bl
 clear cL bl
 refine XL.op rfl rfl (dg rfl rfl ((eW.yield hT hY (v2,(bL ([n]))) hg (hN.de (M:=[_]) [2] (by decide) rfl) ⟨(hN.sl 0 rfl),hN.lI (M:=[_]) [2] rfl 0 rfl rfl (fun k hk=>hk)⟩).mono ?_))
 rintro _ w3 ⟨s3,rfl,gP,cE⟩
 replace hg:=gP
 clear gP
 replace hN:aH w F w3 [_,_,_,_]:=aH.dd (M:=[_]) (N:=[_,_,_]) (hN.sb [2,0,1,3]) cE
 clear cE
 refine XL.eP (v:=.bool true) U (XL.dA (v:=.func (.yield l) #[] #[]) U (XL.dA (ah acJ rfl eZ) (XL.dA (aj acP (hN.aJ 3 rfl)) ?_)))
 refine XL.jx (lV.of rfl (bu ahD rfl rfl rfl rfl ((wc _ ar _ (hv.now hN) (by omega)).mono ?_)))
 rintro v4 w4 ⟨cL,bl⟩
 replace hN:aH w F w4 [_,_,_,_,_]:=hN.cl (l:=bL (ar.map fun a=>a.1)) cL bl
 clear cL bl
 refine XL.jx (dg rfl rfl ((eW.yield hT hY (v4,(bL (ar.map fun a=>a.1))) hg (hN.de (M:=[_]) [1] (by decide) rfl) ⟨(hN.sl 0 rfl),hN.lI (M:=[_]) [1] rfl 0 rfl rfl (fun k hk=>hk)⟩).mono ?_))
 rintro _ w5 ⟨s5,rfl,gP,cE⟩
 replace hg:=gP
 clear gP
 replace hN:aH w F w5 [_,_,_,_,_]:=aH.dd (M:=[_]) (N:=[_,_,_,_]) (hN.sb [1,0,2,3,4]) cE
 clear cE
 refine XL.eP (v:=.bool true) (al) (XL.eP (v:=.bool true) U (XL.dA (v:=.func (.yield l) #[] #[]) U (XL.dA (ah acJ rfl eZ) (XL.dA (aj acP (hN.aJ 4 rfl)) ?_))))
 refine XL.jx (lV.of rfl (bu ahD rfl rfl rfl rfl ((wb _ ar _ (hv.now hN) (by omega)).mono ?_)))
 rintro v6 w6 ⟨cL,bl⟩
 replace hN:aH w F w6 [_,_,_,_,_,_]:=hN.cl (l:=bL (ar.map fun a=>a.2.1)) cL bl
 clear cL bl
 refine XL.jx (dg rfl rfl ((eW.yield hT hY (v6,(bL (ar.map fun a=>a.2.1))) hg (hN.de (M:=[_]) [1] (by decide) rfl) ⟨(hN.sl 0 rfl),hN.lI (M:=[_]) [1] rfl 0 rfl rfl (fun k hk=>hk)⟩).mono ?_))
 rintro _ w7 ⟨s7,rfl,gP,cE⟩
 replace hg:=gP
 clear gP
 replace hN:aH w F w7 [_,_,_,_,_,_]:=aH.dd (M:=[_]) (N:=[_,_,_,_,_]) (hN.sb [1,0,2,3,4,5]) cE
 clear cE
 refine XL.eP (v:=.bool true) (al) (XL.eP (v:=.bool true) U (XL.dA (v:=.func (.yield l) #[] #[]) U (XL.dA (ah acJ rfl eZ) (XL.dA (aj acP (hN.aJ 5 rfl)) ?_))))
 refine XL.jx (lV.of rfl (bu ahD rfl rfl rfl rfl ((wa _ ar _ (hv.now hN) (by omega)).mono ?_)))
 rintro v8 w8 ⟨cL,bl⟩
 replace hN:aH w F w8 [_,_,_,_,_,_,_]:=hN.cl (l:=bL (ar.map fun a=>a.2.2)) cL bl
 clear cL bl
 refine XL.jx (dg rfl rfl ((eW.yield hT hY (v8,(bL (ar.map fun a=>a.2.2))) hg (hN.de (M:=[_]) [1] (by decide) rfl) ⟨(hN.sl 0 rfl),hN.lI (M:=[_]) [1] rfl 0 rfl rfl (fun k hk=>hk)⟩).mono ?_))
 rintro _ w9 ⟨s9,rfl,gP,cE⟩
 replace hg:=gP
 clear gP
 replace hN:aH w F w9 [_,_,_,_,_,_,_]:=aH.dd (M:=[_]) (N:=[_,_,_,_,_,_]) (hN.sb [1,0,2,3,4,5,6]) cE
 clear cE
 refine XL.eP (v:=.bool true) (al) (XL.nil (wi (RV.zero rfl) ?_))
 exact⟨_,hg.done,hN.sb [0]⟩
theorem Cc (n:Int) (ar:List I3) (gb:Nat) (v:Value) (im:ar.length≤67108864):u2 acD 69 #[vP gb] [.aJ gb [.int .i64 n,v] 24] (fun F w=>mz F bC w v ar) ad4 A8 (M8 vb) (mh n ar):=by
  intro σ l C T s0 w0 w F hT hY F5 hN
  have h1:=hN.de (M:=[_,_]) [0,1] (by decide) rfl
  refine(xZ l C T s0 w hT hY gb v h1 (mz.step oS F5 hN) im).mono ?_
  rintro _ w' ⟨s',hr,h2⟩
  exact⟨s',hr,aH.dd (M:=[_,_]) (N:=[]) hN h2⟩
theorem vE {σ:Type} (l:Nat) (C:Bool→σ→Atom) (T:σ→(Value×List UInt8)→Bool→σ→Prop) (s0:σ) {rk:List Int} {ws:List I5} {F:Nat→Prop} (w:World) (hT:∀s x b s',T s x b s'→b=true) (hY:oD acD l C T ad4 s0 (jk rk ws) (M8 vb) A8) (gb:Nat) (rv wv:Value) (hN:aH w F w [C true s0,.aJ gb [rv,wv] 28]) (hr:nR F vI w rv rk) (hw:mz F aV w wv ws) (Aj:rk.length≤67108864) (TF:ws.length≤67108864):aM acD 75 #[.func (.yield l) #[] #[],vP gb] w fun _ w'=>∃s',vc T ad4 s0 (jk rk ws) s'∧aH w F w' [C true s']:=by
 refine aM.k7 Tryz.func75 rfl (acA rfl) ?_
 rw[cS]
 have hg:eW T ad4 s0 (jk rk ws) s0 (jk rk ws):=eW.start
 refine XW.sE (XL.eP (v:=.func (.yield l) #[] #[]) U (XL.eP (ah acE rfl cc) (XL.eP (aj acz (hN.aJ 1 rfl)) ?_)))
 refine XL.op rfl rfl (lV.of rfl (bo aeP rfl rfl rfl ((fD _ rk _ (hr.now hN) (by(try simp only[acB,ac9,adj,acS,acK,acH,adb,acB,ada]);omega)).mono ?_)))
 rintro v1 w1 ⟨cL,bl⟩
 replace hN:aH w F w1 [_,_,_]:=hN.cl (l:=bL rk) cL bl
 clear cL bl
 refine XL.op rfl rfl (dg rfl rfl ((eW.yield hT hY (v1,(bL rk)) hg (hN.de (M:=[_]) [1] (by decide) rfl) ⟨(hN.sl 0 rfl),hN.lI (M:=[_]) [1] rfl 0 rfl rfl (fun k hk=>hk)⟩).mono ?_))
 rintro _ w2 ⟨s2,rfl,gP,cE⟩
 replace hg:=gP
 clear gP
 replace hN:aH w F w2 [_,_,_]:=aH.dd (M:=[_]) (N:=[_,_]) (hN.sb [1,0,2]) cE
 clear cE
 refine XL.eP (v:=.bool true) U (XL.dA (v:=.func (.yield l) #[] #[]) U (XL.dA (ah acE rfl eF) (XL.dA (aj acL (hN.aJ 2 rfl)) ?_)))
 refine XL.jx (lV.of rfl (bu af5 rfl rfl rfl rfl ((sA _ ws _ (hw.now hN) (by omega)).mono ?_)))
 rintro v3 w3 ⟨cL,bl⟩
 replace hN:aH w F w3 [_,_,_,_]:=hN.cl (l:=bL (ws.map fun a=>a.1)) cL bl
 clear cL bl
 refine XL.jx (dg rfl rfl ((eW.yield hT hY (v3,(bL (ws.map fun a=>a.1))) hg (hN.de (M:=[_]) [1] (by decide) rfl) ⟨(hN.sl 0 rfl),hN.lI (M:=[_]) [1] rfl 0 rfl rfl (fun k hk=>hk)⟩).mono ?_))
 rintro _ w4 ⟨s4,rfl,gP,cE⟩
 replace hg:=gP
 clear gP
 replace hN:aH w F w4 [_,_,_,_]:=aH.dd (M:=[_]) (N:=[_,_,_]) (hN.sb [1,0,2,3]) cE
 clear cE
 refine XL.eP (v:=.bool true) (al) (XL.eP (v:=.bool true) U (XL.dA (v:=.func (.yield l) #[] #[]) U (XL.dA (ah acE rfl eF) (XL.dA (aj acL (hN.aJ 3 rfl)) ?_))))
 refine XL.jx (lV.of rfl (bu af5 rfl rfl rfl rfl ((sz _ ws _ (hw.now hN) (by omega)).mono ?_)))
 rintro v5 w5 ⟨cL,bl⟩
 replace hN:aH w F w5 [_,_,_,_,_]:=hN.cl (l:=bL (ws.map fun a=>a.2.1)) cL bl
 clear cL bl
 refine XL.jx (dg rfl rfl ((eW.yield hT hY (v5,(bL (ws.map fun a=>a.2.1))) hg (hN.de (M:=[_]) [1] (by decide) rfl) ⟨(hN.sl 0 rfl),hN.lI (M:=[_]) [1] rfl 0 rfl rfl (fun k hk=>hk)⟩).mono ?_))
 rintro _ w6 ⟨s6,rfl,gP,cE⟩
 replace hg:=gP
 clear gP
 replace hN:aH w F w6 [_,_,_,_,_]:=aH.dd (M:=[_]) (N:=[_,_,_,_]) (hN.sb [1,0,2,3,4]) cE
 clear cE
 refine XL.eP (v:=.bool true) (al) (XL.eP (v:=.bool true) U (XL.dA (v:=.func (.yield l) #[] #[]) U (XL.dA (ah acE rfl eF) (XL.dA (aj acL (hN.aJ 4 rfl)) ?_))))
 refine XL.jx (lV.of rfl (bu af5 rfl rfl rfl rfl ((sy _ ws _ (hw.now hN) (by omega)).mono ?_)))
 rintro v7 w7 ⟨cL,bl⟩
 replace hN:aH w F w7 [_,_,_,_,_,_]:=hN.cl (l:=bL (ws.map fun a=>a.2.2.1)) cL bl
 clear cL bl
 refine XL.jx (dg rfl rfl ((eW.yield hT hY (v7,(bL (ws.map fun a=>a.2.2.1))) hg (hN.de (M:=[_]) [1] (by decide) rfl) ⟨(hN.sl 0 rfl),hN.lI (M:=[_]) [1] rfl 0 rfl rfl (fun k hk=>hk)⟩).mono ?_))
 rintro _ w8 ⟨s8,rfl,gP,cE⟩
 replace hg:=gP
 clear gP
 replace hN:aH w F w8 [_,_,_,_,_,_]:=aH.dd (M:=[_]) (N:=[_,_,_,_,_]) (hN.sb [1,0,2,3,4,5]) cE
 clear cE
 refine XL.eP (v:=.bool true) (al) (XL.eP (v:=.bool true) U (XL.dA (v:=.func (.yield l) #[] #[]) U (XL.dA (ah acE rfl eF) (XL.dA (aj acL (hN.aJ 5 rfl)) ?_))))
 refine XL.jx (lV.of rfl (bu af5 rfl rfl rfl rfl ((sx _ ws _ (hw.now hN) (by omega)).mono ?_)))
 rintro v9 w9 ⟨cL,bl⟩
 replace hN:aH w F w9 [_,_,_,_,_,_,_]:=hN.cl (l:=bL (ws.map fun a=>a.2.2.2.1)) cL bl
 clear cL bl
 refine XL.jx (dg rfl rfl ((eW.yield hT hY (v9,(bL (ws.map fun a=>a.2.2.2.1))) hg (hN.de (M:=[_]) [1] (by decide) rfl) ⟨(hN.sl 0 rfl),hN.lI (M:=[_]) [1] rfl 0 rfl rfl (fun k hk=>hk)⟩).mono ?_))
 rintro _ lR ⟨Zg,rfl,gP,cE⟩
 replace hg:=gP
 clear gP
 replace hN:aH w F lR [_,_,_,_,_,_,_]:=aH.dd (M:=[_]) (N:=[_,_,_,_,_,_]) (hN.sb [1,0,2,3,4,5,6]) cE
 clear cE
 refine XL.eP (v:=.bool true) (al) (XL.eP (v:=.bool true) U (XL.dA (v:=.func (.yield l) #[] #[]) U (XL.dA (ah acE rfl eF) (XL.dA (aj acL (hN.aJ 6 rfl)) ?_))))
 refine XL.jx (lV.of rfl (bu af5 rfl rfl rfl rfl ((su _ ws _ (hw.now hN) (by omega)).mono ?_)))
 rintro v11 kY ⟨cL,bl⟩
 replace hN:aH w F kY [_,_,_,_,_,_,_,_]:=hN.cl (l:=bL (ws.map fun a=>a.2.2.2.2)) cL bl
 clear cL bl
 refine XL.jx (dg rfl rfl ((eW.yield hT hY (v11,(bL (ws.map fun a=>a.2.2.2.2))) hg (hN.de (M:=[_]) [1] (by decide) rfl) ⟨(hN.sl 0 rfl),hN.lI (M:=[_]) [1] rfl 0 rfl rfl (fun k hk=>hk)⟩).mono ?_))
 rintro _ kI ⟨W0,rfl,gP,cE⟩
 replace hg:=gP
 clear gP
 replace hN:aH w F kI [_,_,_,_,_,_,_,_]:=aH.dd (M:=[_]) (N:=[_,_,_,_,_,_,_]) (hN.sb [1,0,2,3,4,5,6,7]) cE
 clear cE
 refine XL.eP (v:=.bool true) (al) (XL.nil (wi (RV.zero rfl) ?_))
 exact⟨_,hg.done,hN.sb [0]⟩
theorem z6 (rk:List Int) (ws:List I5) (gb:Nat) (rv wv:Value) (Aj:rk.length≤67108864) (TF:ws.length≤67108864):u2 acD 75 #[vP gb] [.aJ gb [rv,wv] 28] (fun F w=>nR F vI w rv rk∧mz F aV w wv ws) ad4 A8 (M8 vb) (jk rk ws):=by
  intro σ l C T s0 w0 w F hT hY F5 hN
  have h1:=hN.de (M:=[_,_]) [0,1] (by decide) rfl
  refine(vE l C T s0 w hT hY gb rv wv h1 (F5.1.step hN) (mz.step fE F5.2 hN) Aj TF).mono ?_
  rintro _ w' ⟨s',hr,h2⟩
  exact⟨s',hr,aH.dd (M:=[_,_]) (N:=[]) hN h2⟩
theorem nm {σ:Type} (l:Nat) (C:Bool→σ→Atom) (T:σ→(Value×List UInt8)→Bool→σ→Prop) (s0:σ) {XS:List (List UInt8)} {F:Nat→Prop} (w:World) (hT:∀s x b s',T s x b s'→b=true) (hY:oD acD l C T ad4 s0 XS (M8 vb) A8) (gy:Nat) (s:σ) (todo:List (List UInt8)) (v:Value) (hs:List Hd) (ls:List (List Int)) (hg:eW T ad4 s0 XS s (eC ls++todo)) (hN:aH w F w [C true s,.aJ gy [.func (.yield l) #[] #[]] 59]) (h1:nR F vh w v hs) (iX:gG F vI w hs ls) (Br:ls.length≤67108864) (Aj:∀r∈ls,r.length≤67108864):aM acD 83 #[v,vP gy] w fun _ w'=>∃s',eW T ad4 s0 XS s' todo∧aH w F w' [C true s',.aJ gy [.func (.yield l) #[] #[]] 59]:=by
 refine aM.k7 ahG rfl (acA rfl) ?_
 rw[cS]
 have OR:=iX.1
 refine XW.seq (XW.p9 rfl (fun u=>aH w F u [.aJ gy [.func (.yield l) #[] #[]] 59]) ?_)
 replace hN:=hN.ext (Ext.drew w)
 refine XA.take (i:=0) rfl rfl (by kernel_rfl) (by kernel_rfl) (by kernel_rfl) (by repeat (first|exact gX|refine gV ?_|refine gY ?_|refine gW ?_)) rfl (hN.sb [1]) (fun w hS=>(aj aet (hS.aJ 0 rfl))) ?_
 refine XA.take (v:=v) (i:=1) rfl rfl (by kernel_rfl) (by kernel_rfl) (by kernel_rfl) (by repeat (first|exact gX|refine gV ?_|refine gY ?_|refine gW ?_)) rfl (hN.sb [1]) (fun w hS=>U) ?_
 have nJ:=(h1.now hN).bw
 refine XA.take (i:=2) rfl rfl (by kernel_rfl) (by kernel_rfl) (by kernel_rfl) (by repeat (first|exact gX|refine gV ?_|refine gY ?_|refine gW ?_)) rfl (hN.sb [1]) (fun w hS=>(aQ acQ (h1.now hS))) ?_
 refine XA.only (i:=3) (by kernel_rfl) rfl rfl rfl (lV.of rfl (cx (enc:=vi) (l:=[(hs.length:Int)]) (xs:=[.tmp 7]) acz bI mN rfl rfl (fun _=>rfl) rfl (by decide) (by decide) hN ?_))
 clear hN
 intro g2 w2 (hN:aH w F w2 [_,_,_])
 refine⟨(hN.sb [2]),?_⟩
 refine XA.only (i:=4) (by kernel_rfl) rfl rfl rfl (lV.of rfl (bo aeP rfl rfl rfl ((fD _ [(ls.length:Int)] _ (by have h_:=(hN.sl 0 rfl);rw[OR]at h_;exact h_) (by simp)).mono ?_)))
 rintro v3 w3 ⟨cL,bl⟩
 replace hN:aH w F w3 [_,_,_,_]:=hN.cl (l:=bL [(ls.length:Int)]) cL bl
 clear cL bl
 refine⟨(hN.sb [3]),?_⟩
 refine XA.only (i:=5) (by kernel_rfl) rfl rfl rfl (dg rfl rfl ((eW.yield hT hY (v3,(bL [(ls.length:Int)])) hg (hN.de (M:=[_]) [2] (by decide) rfl) ⟨(hN.sl 0 rfl),hN.lI (M:=[_]) [2] rfl 0 rfl rfl (fun k hk=>hk)⟩).mono ?_))
 rintro _ w4 ⟨s4,rfl,gP,cE⟩
 replace hg:=gP
 clear gP
 replace hN:aH w F w4 [_,_,_,_]:=aH.dd (M:=[_]) (N:=[_,_,_]) (hN.sb [2,0,1,3]) cE
 clear cE
 refine⟨(hN.sb [3]),?_⟩
 refine XA.done (by kernel_rfl) (bS (XW.seq (XW.bK (RL.ag (v:=v) U (RL.ag (aQ acQ (h1.now hN)) (RL.ag (v:=.int .i64 (0)) U (RL.nil (cg (bS ?_)))))))))
 refine XW.block ?_
 refine XW.loop (fun k R0 cv=>∃si:σ,∃i:Nat,R0 1=vP gy∧R0 11=v∧R0 12=.int .i64 ((hs.length:Int))∧R0 13=vJ i∧aH w F cv [C true si,.aJ gy [.func (.yield l) #[] #[]] 59]∧(i+k=hs.length)∧(eW T ad4 s0 XS si ((ls.drop i).map bL++todo))) (hs.length) ?_ ?_
 exact⟨s4,0,rfl,rfl,rfl,rfl,(hN.sb [0,3]),by omega,hg⟩
 clear hN
 rintro k R0 cv ⟨si,i,bN,eu,eK,fe,hN,fP,hg⟩
 have cz:=iV bN eu eK fe
 obtain⟨fV,rfl⟩:=cz
 clear bN eu eK fe
 refine XW.seq (XW.bK (RL.ag (aK) (RL.nil (cg (bS (XW.seq ?_))))))
 refine XW.mK _ rfl (fun cD=>?_) (fun cD=>?_)
 refine XW.skip (bS (XW.seq (XW.block (XW.seq (XW.bK (RL.ag (aC acQ cc (h1.now hN)) ?_))))))
 have aO:=cQ (hs) i
 obtain⟨ap,bV⟩:=aO
 have aO:∃l_,(ls)[i]?=some l_:=⟨_,acM (by have:=iX.1;omega)⟩
 obtain⟨lp,eN⟩:=aO
 refine RL.ag (aF (m:=i) (a:=ap) acz (h1.now hN) bV) ?_
 have UM:=Aj lp (acC eN)
 refine RL.ag (v:=(vh ap)) ai (RL.nil (cg (bS ?_)))
 replace hg:=hg.as (QS eN)
 refine XW.p9 rfl (fun u=>aH w F u [.aJ gy [.func (.yield l) #[] #[]] 59]) ?_
 replace hN:=hN.ext (Ext.drew cv)
 refine XA.take (i:=0) rfl rfl (by kernel_rfl) (by kernel_rfl) (by kernel_rfl) (by repeat (first|exact gX|refine gV ?_|refine gY ?_|refine gW ?_)) rfl (hN.sb [1]) (fun w hS=>(aj aet (hS.aJ 0 rfl))) ?_
 refine XA.take (v:=(vh ap)) (i:=1) rfl rfl (by kernel_rfl) (by kernel_rfl) (by kernel_rfl) (by repeat (first|exact gX|refine gV ?_|refine gY ?_|refine gW ?_)) rfl (hN.sb [1]) (fun w hS=>U) ?_
 refine XA.only (i:=2) (by kernel_rfl) rfl rfl rfl (lV.of rfl (bo aeP rfl rfl rfl ((fD _ lp _ ((iX.ik bV eN).now hN) (by(try simp only[acB,ac9,adj,acS,acK,acH,adb,acB,ada]);omega)).mono ?_)))
 rintro v5 w5 ⟨cL,bl⟩
 replace hN:aH w F w5 [_,_,_]:=hN.cl (l:=bL lp) cL bl
 clear cL bl
 refine⟨(hN.sb [2]),?_⟩
 refine XA.only (i:=3) (by kernel_rfl) rfl rfl rfl (dg rfl rfl ((eW.yield hT hY (v5,(bL lp)) hg (hN.de (M:=[_]) [1] (by decide) rfl) ⟨(hN.sl 0 rfl),hN.lI (M:=[_]) [1] rfl 0 rfl rfl (fun k hk=>hk)⟩).mono ?_))
 rintro _ w6 ⟨s6,rfl,gP,cE⟩
 replace hg:=gP
 clear gP
 replace hN:aH w F w6 [_,_,_]:=aH.dd (M:=[_]) (N:=[_,_]) (hN.sb [1,0,2]) cE
 clear cE
 refine⟨(hN.sb [2]),?_⟩
 refine XA.done (by kernel_rfl) (eX (bS (XW.bK (RL.ag (aD rfl rfl rfl (bg (by omega) (by omega))) (RL.ag (v:=.int .i64 ((i:Int)+1)) U (RL.nil (cg (bS ?_))))))))
 exact⟨rfl,k-1,by omega,s6,i+1,rfl,rfl,rfl,rfl,(hN.sb [0,2]),by omega,hg⟩
 refine XW.exit ?_
 iterate 2 refine na ?_
 refine iK (wi (RV.zero rfl) ?_)
 rw[aeW (by omega)]at hg
 exact⟨_,hg,hN.sb [0,1]⟩
theorem rU {σ:Type} (l:Nat) (C:Bool→σ→Atom) (T:σ→(Value×List UInt8)→Bool→σ→Prop) (s0:σ) {g:List Int} {far:List (List Int)} {outs ins:List (List I2)} {so si:List (List Int)} {F:Nat→Prop} (w:World) (hT:∀s x b s',T s x b s'→b=true) (hY:oD acD l C T ad4 s0 (fN g far outs ins so si) (M8 vb) A8) (gb:Nat) (gv fv ov iv cW cX:Value) (hf ho hi gM gI:List Hd) (hN:aH w F w [C true s0,.aJ gb [gv,fv,ov,iv,cW,cX] 32]) (qM:qe F w gv g fv hf far ov ho outs iv hi ins cW gM so cX gI si) (sH:g.length≤67108864) (xc:far.length≤67108864∧∀r∈far,r.length≤67108864) (Om:outs.length≤67108864∧∀r∈outs,r.length≤67108864) (Fa:ins.length≤67108864∧∀r∈ins,r.length≤67108864) (E5:so.length≤67108864∧∀r∈so,r.length≤67108864) (E6:si.length≤67108864∧∀r∈si,r.length≤67108864):aM acD 82 #[.func (.yield l) #[] #[],vP gb] w fun _ w'=>∃s',vc T ad4 s0 (fN g far outs ins so si) s'∧aH w F w' [C true s']:=by
 refine aM.k7 Tryz.func82 rfl (acA rfl) ?_
 rw[cS]
 have hg:eW T ad4 s0 (fN g far outs ins so si) s0 (fN g far outs ins so si):=eW.start
 refine XW.seq (XW.bK ?_)
 refine RL.aL (bJ (cs:=[.func (.yield l) #[] #[]]) rfl rfl hN ?_)
 clear hN
 intro g1 w1 (hN:aH w F w1 [_,_,_])
 refine RL.nil (cg (bS (XW.seq (XW.bK (RL.ag (dM (vs:=[vP g1]) (xs:=[.tmp 2]) rfl rfl) (RL.ag (v:=.func (.func 83) #[] #[vP g1]) ai (RL.nil (cg (bS ?_)))))))))
 refine XW.seq (XW.p9 rfl (fun u=>aH w F u [.aJ g1 [.func (.yield l) #[] #[]] 59,.aJ gb [gv,fv,ov,iv,cW,cX] 32]) ?_)
 replace hN:=hN.ext (Ext.drew w1)
 refine XA.take (i:=0) rfl rfl (by kernel_rfl) (by kernel_rfl) (by kernel_rfl) (by repeat (first|exact gX|refine gV ?_|refine gY ?_|refine gW ?_)) rfl (hN.sb [0,2]) (fun w hS=>(aj aet (hS.aJ 0 rfl))) ?_
 refine XA.take (i:=1) rfl rfl (by kernel_rfl) (by kernel_rfl) (by kernel_rfl) (by repeat (first|exact gX|refine gV ?_|refine gY ?_|refine gW ?_)) rfl (hN.sb [0,2]) (fun w hS=>(ah acR rfl cc)) ?_
 refine XA.take (i:=2) rfl rfl (by kernel_rfl) (by kernel_rfl) (by kernel_rfl) (by repeat (first|exact gX|refine gV ?_|refine gY ?_|refine gW ?_)) rfl (hN.sb [0,2]) (fun w hS=>(aj acz (hS.aJ 1 rfl))) ?_
 refine XA.only (i:=3) (by kernel_rfl) rfl rfl rfl (lV.of rfl (bo aeP rfl rfl rfl ((fD _ g _ (qM.tg.now hN) (by(try simp only[acB,ac9,adj,acS,acK,acH,adb,acB,ada]);omega)).mono ?_)))
 rintro v2 w2 ⟨cL,bl⟩
 replace hN:aH w F w2 [_,_,_,_]:=hN.cl (l:=bL g) cL bl
 clear cL bl
 refine⟨(hN.sb [1,3]),?_⟩
 refine XA.only (i:=4) (by kernel_rfl) rfl rfl rfl (dg rfl rfl ((eW.yield hT hY (v2,(bL g)) hg (hN.de (M:=[_]) [2] (by decide) rfl) ⟨(hN.sl 0 rfl),hN.lI (M:=[_]) [2] rfl 0 rfl rfl (fun k hk=>hk)⟩).mono ?_))
 rintro _ w3 ⟨s3,rfl,gP,cE⟩
 replace hg:=gP
 clear gP
 replace hN:aH w F w3 [_,_,_,_]:=aH.dd (M:=[_]) (N:=[_,_,_]) (hN.sb [2,0,1,3]) cE
 clear cE
 refine⟨(hN.sb [2,3]),?_⟩
 refine XA.done (by kernel_rfl) (bS (XW.seq (XW.bK (RL.ag (v:=.func (.func 83) #[] #[vP g1]) U (RL.ag (ah acR rfl fH) (RL.ag (aj acQ (hN.aJ 3 rfl)) ?_))))))
 refine RL.aL (ct (first:=#[]) (captured:=#[vP g1]) (v0:=fv) (args:=#[fv,vP g1]) ahG rfl rfl (by simp) rfl rfl ((nm l C T s0 _ hT hY g1 s3 _ _ hf far (hg.as rfl) (hN.de (M:=[_,_]) [0,2] (by decide) rfl) (qM.tf.step (hN.sb (M:=[C true s3,.aJ g1 [.func (.yield l) #[] #[]] 59]) [0,2])) (qM.Ec.step (hN.sb (M:=[C true s3,.aJ g1 [.func (.yield l) #[] #[]] 59]) [0,2])) xc.1 xc.2).mono ?_))
 rintro _ w4 ⟨s4,gP,cE⟩
 replace hg:=gP
 clear gP
 replace hN:aH w F w4 [_,_,_,_]:=aH.dd (M:=[_,_]) (N:=[_,_]) (hN.sb [0,2,1,3]) cE
 clear cE
 refine RL.nil (cg (bS ?_))
 iterate 2 refine XW.seq ?_
 refine XW.bK (RL.ag (ah acR rfl je) (RL.ag (aj ac5 (hN.aJ 3 rfl)) (RL.ag (ah acR rfl je) (RL.ag (aj ac5 (hN.aJ 3 rfl)) (RL.ag (qU (cs:=[ov,iv]) agO je Kp (pl:=[(0,.tmp 19),(1,.tmp 21)]) rfl (ps:=[(0,ov),(1,iv)]) rfl (zc:=[vN,vN]) rfl (aP (vs:=[ov]) (qM.to.now hN).cK rfl (acA rfl) (aP (vs:=[iv]) (qM.ti.now hN).cK rfl (acA rfl) rfl))) (RL.ag (v:=.int .i64 (0)) U (RL.nil (cg (bS ?_)))))))))
 refine XW.block ?_
 refine XW.loop (fun k R0 cv=>∃sj:σ,∃i:Nat,R0 1=vP gb∧R0 2=vP g1∧R0 3=.func (.func 83) #[] #[vP g1]∧R0 22=.agg #[ov,iv]∧R0 23=vJ i∧aH w F cv [C true sj,.aJ g1 [.func (.yield l) #[] #[]] 59,.aJ gb [gv,fv,ov,iv,cW,cX] 32]∧(i+k=2)∧(eW T ad4 s0 (fN g far outs ins so si) sj (match i with|0=>fk outs++(fk ins++(eC so++eC si))|1=>fk ins++(eC so++eC si)|_=>eC so++eC si))) (2) ?_ ?_
 exact⟨s4,0,rfl,rfl,rfl,rfl,rfl,(hN.sb [0,1,3]),by omega,hg⟩
 clear hN
 rintro k R0 cv ⟨sj,i,bN,bQ,cb,kO,iS,hN,fP,hg⟩
 have cz:=hC bN bQ cb kO iS
 obtain⟨fV,rfl⟩:=cz
 clear bN bQ cb kO iS
 refine XW.seq (XW.bK (RL.ag (aK) (RL.nil (cg (bS (XW.seq ?_))))))
 refine XW.mK _ rfl (fun cD=>?_) (fun cD=>?_)
 refine XW.skip (bS (XW.seq (XW.block (XW.seq ?_))))
 have y9:i=0∨i=1:=by omega
 rcases y9 with rfl|rfl
 have OR:=qM.Bq.1
 change eW T ad4 s0 (fN g far outs ins so si) sj (fk outs++(fk ins++(eC so++eC si)))at hg
 refine XW.bK (RL.ag (iT (cs:=[ov,iv]) agO ac5 rfl je rfl rfl (by omega) (by omega) rfl) (RL.ag (v:=ov) ai (RL.nil (cg (bS (XW.seq (XW.p9 rfl (fun u=>aH w F u [.aJ g1 [.func (.yield l) #[] #[]] 59,.aJ gb [gv,fv,ov,iv,cW,cX] 32]) ?_)))))))
 replace hN:=hN.ext (Ext.drew cv)
 refine XA.take (i:=0) rfl rfl (by kernel_rfl) (by kernel_rfl) (by kernel_rfl) (by repeat (first|exact gX|refine gV ?_|refine gY ?_|refine gW ?_)) rfl (hN.sb [1,2]) (fun w hS=>(aj aet (hS.aJ 0 rfl))) ?_
 refine XA.take (v:=ov) (i:=1) rfl rfl (by kernel_rfl) (by kernel_rfl) (by kernel_rfl) (by repeat (first|exact gX|refine gV ?_|refine gY ?_|refine gW ?_)) rfl (hN.sb [1,2]) (fun w hS=>U) ?_
 have qP:=(qM.to.now hN).bw
 refine XA.take (i:=2) rfl rfl (by kernel_rfl) (by kernel_rfl) (by kernel_rfl) (by repeat (first|exact gX|refine gV ?_|refine gY ?_|refine gW ?_)) rfl (hN.sb [1,2]) (fun w hS=>(aQ ac5 (qM.to.now hS))) ?_
 refine XA.only (i:=3) (by kernel_rfl) rfl rfl rfl (lV.of rfl (cx (enc:=vi) (l:=[(ho.length:Int)]) (xs:=[.tmp 28]) acz bI mN rfl rfl (fun _=>rfl) rfl (by decide) (by decide) hN ?_))
 clear hN
 intro g6 w6 (hN:aH w F w6 [_,_,_,_])
 refine⟨(hN.sb [2,3]),?_⟩
 refine XA.only (i:=4) (by kernel_rfl) rfl rfl rfl (lV.of rfl (bo aeP rfl rfl rfl ((fD _ [(outs.length:Int)] _ (by have h_:=(hN.sl 0 rfl);rw[OR]at h_;exact h_) (by simp)).mono ?_)))
 rintro v7 w7 ⟨cL,bl⟩
 replace hN:aH w F w7 [_,_,_,_,_]:=hN.cl (l:=bL [(outs.length:Int)]) cL bl
 clear cL bl
 refine⟨(hN.sb [3,4]),?_⟩
 refine XA.only (i:=5) (by kernel_rfl) rfl rfl rfl (dg rfl rfl ((eW.yield hT hY (v7,(bL [(outs.length:Int)])) hg (hN.de (M:=[_]) [2] (by decide) rfl) ⟨(hN.sl 0 rfl),hN.lI (M:=[_]) [2] rfl 0 rfl rfl (fun k hk=>hk)⟩).mono ?_))
 rintro _ w8 ⟨s8,rfl,gP,cE⟩
 replace hg:=gP
 clear gP
 replace hN:aH w F w8 [_,_,_,_,_]:=aH.dd (M:=[_]) (N:=[_,_,_,_]) (hN.sb [2,0,1,3,4]) cE
 clear cE
 refine⟨(hN.sb [3,4]),?_⟩
 refine XA.done (by kernel_rfl) (bS (XW.seq (XW.bK (RL.ag (v:=ov) U (RL.ag (aQ ac5 (qM.to.now hN)) (RL.ag (v:=.int .i64 (0)) U (RL.nil (cg (bS ?_)))))))))
 refine XW.block ?_
 refine XW.loop (fun k2 R1 ez=>∃sq:σ,∃q:Nat,R1 1=vP gb∧R1 2=vP g1∧R1 3=.func (.func 83) #[] #[vP g1]∧R1 22=.agg #[ov,iv]∧R1 23=.int .i64 (((0:Nat):Int))∧R1 32=ov∧R1 33=.int .i64 ((ho.length:Int))∧R1 34=vJ q∧aH w F ez [C true sq,.aJ g1 [.func (.yield l) #[] #[]] 59,.aJ gb [gv,fv,ov,iv,cW,cX] 32]∧(q+k2=ho.length)∧(eW T ad4 s0 (fN g far outs ins so si) sq ((outs.drop q).flatMap gk++(fk ins++(eC so++eC si))))) (ho.length) ?_ ?_
 exact⟨s8,0,rfl,rfl,rfl,rfl,rfl,rfl,rfl,rfl,(hN.sb [0,3,4]),by omega,hg⟩
 clear hN
 rintro k2 R1 ez ⟨sq,q,bN,bQ,cb,kO,iS,Ar,nE,nD,hN,yl,hg⟩
 have cz:=rN bN bQ cb kO iS Ar nE nD
 obtain⟨re,rfl⟩:=cz
 clear bN bQ cb kO iS Ar nE nD
 refine XW.seq (XW.bK (RL.ag (aK) (RL.nil (cg (bS (XW.seq ?_))))))
 refine XW.mK _ rfl (fun ep=>?_) (fun ep=>?_)
 refine XW.skip (bS (XW.seq (XW.block (XW.seq (XW.bK (RL.ag (aC ac5 lx (qM.to.now hN)) ?_))))))
 have aO:=cQ (ho) q
 obtain⟨ap,bV⟩:=aO
 have aO:∃l_,(outs)[q]?=some l_:=⟨_,acM (by have:=qM.Bq.1;omega)⟩
 obtain⟨lp,eN⟩:=aO
 refine RL.ag (aF (m:=q) (a:=ap) ac1 (qM.to.now hN) bV) (RL.ag (v:=(vh ap)) ai ?_)
 have UM:=Om.2 lp (acC eN)
 replace hg:=hg.as (GZ eN)
 refine RL.nil (cg (bS (XW.seq (XW.p9 rfl (fun u=>aH w F u [.aJ g1 [.func (.yield l) #[] #[]] 59,.aJ gb [gv,fv,ov,iv,cW,cX] 32]) ?_))))
 replace hN:=hN.ext (Ext.drew ez)
 refine XA.take (i:=0) rfl rfl (by kernel_rfl) (by kernel_rfl) (by kernel_rfl) (by repeat (first|exact gX|refine gV ?_|refine gY ?_|refine gW ?_)) rfl (hN.sb [1,2]) (fun w hS=>(aj aet (hS.aJ 0 rfl))) ?_
 refine XA.take (v:=(vh ap)) (i:=1) rfl rfl (by kernel_rfl) (by kernel_rfl) (by kernel_rfl) (by repeat (first|exact gX|refine gV ?_|refine gY ?_|refine gW ?_)) rfl (hN.sb [1,2]) (fun w hS=>U) ?_
 refine XA.only (i:=2) (by kernel_rfl) rfl rfl rfl (lV.of rfl (bu agH rfl rfl rfl rfl ((mM _ lp _ ((qM.Bq.ik bV eN).now hN) (by omega)).mono ?_)))
 rintro v9 w9 ⟨cL,bl⟩
 replace hN:aH w F w9 [_,_,_,_]:=hN.cl (l:=bL (lp.map fun a=>a.1)) cL bl
 clear cL bl
 refine⟨(hN.sb [2,3]),?_⟩
 refine XA.only (i:=3) (by kernel_rfl) rfl rfl rfl (dg rfl rfl ((eW.yield hT hY (v9,(bL (lp.map fun a=>a.1))) hg (hN.de (M:=[_]) [1] (by decide) rfl) ⟨(hN.sl 0 rfl),hN.lI (M:=[_]) [1] rfl 0 rfl rfl (fun k hk=>hk)⟩).mono ?_))
 rintro _ lR ⟨Zg,rfl,gP,cE⟩
 replace hg:=gP
 clear gP
 replace hN:aH w F lR [_,_,_,_]:=aH.dd (M:=[_]) (N:=[_,_,_]) (hN.sb [1,0,2,3]) cE
 clear cE
 refine⟨(hN.sb [2,3]),?_⟩
 refine XA.done (by kernel_rfl) (bS (XW.p9 rfl (fun u=>aH w F u [.own vb 5 (v9) (bL (lp.map fun a=>a.1)),.aJ g1 [.func (.yield l) #[] #[]] 59,.aJ gb [gv,fv,ov,iv,cW,cX] 32]) ?_))
 replace hN:=hN.ext (Ext.drew lR)
 refine XA.take (i:=0) rfl rfl (by kernel_rfl) (by kernel_rfl) (by kernel_rfl) (by repeat (first|exact gX|refine gV ?_|refine gY ?_|refine gW ?_)) rfl (hN.sb [1,2,3]) (fun w hS=>(aj aet (hS.aJ 1 rfl))) ?_
 refine XA.take (v:=(vh ap)) (i:=1) rfl rfl (by kernel_rfl) (by kernel_rfl) (by kernel_rfl) (by repeat (first|exact gX|refine gV ?_|refine gY ?_|refine gW ?_)) rfl (hN.sb [1,2,3]) (fun w hS=>U) ?_
 refine XA.only (i:=2) (by kernel_rfl) rfl rfl rfl (lV.of rfl (bu agH rfl rfl rfl rfl ((mL _ lp _ ((qM.Bq.ik bV eN).now hN) (by omega)).mono ?_)))
 rintro v11 kY ⟨cL,bl⟩
 replace hN:aH w F kY [_,_,_,_,_]:=hN.cl (l:=bL (lp.map fun a=>a.2)) cL bl
 clear cL bl
 refine⟨(hN.sb [2,3,4]),?_⟩
 refine XA.only (i:=3) (by kernel_rfl) rfl rfl rfl (dg rfl rfl ((eW.yield hT hY (v11,(bL (lp.map fun a=>a.2))) hg (hN.de (M:=[_]) [1] (by decide) rfl) ⟨(hN.sl 0 rfl),hN.lI (M:=[_]) [1] rfl 0 rfl rfl (fun k hk=>hk)⟩).mono ?_))
 rintro _ kI ⟨W0,rfl,gP,cE⟩
 replace hg:=gP
 clear gP
 replace hN:aH w F kI [_,_,_,_,_]:=aH.dd (M:=[_]) (N:=[_,_,_,_]) (hN.sb [1,0,2,3,4]) cE
 clear cE
 refine⟨(hN.sb [2,3,4]),?_⟩
 refine XA.done (by kernel_rfl) (eX (bS (XW.bK (RL.ag (aD rfl rfl rfl (bg (by omega) (by omega))) (RL.ag (v:=.int .i64 ((q:Int)+1)) U (RL.nil (cg (bS ?_))))))))
 exact⟨rfl,k2-1,by omega,W0,q+1,rfl,rfl,rfl,rfl,rfl,rfl,rfl,rfl,(hN.sb [0,3,4]),by omega,hg⟩
 refine XW.exit ?_
 iterate 2 refine na ?_
 refine iK (eX (bS (XW.bK (RL.ag (aD rfl rfl rfl (bg (by omega) (by omega))) (RL.ag (v:=.int .i64 (((0:Nat):Int)+1)) U (RL.nil (cg (bS ?_))))))))
 rw[aeW (by omega)]at hg
 exact⟨rfl,k-1,by omega,sq,0+1,rfl,rfl,rfl,rfl,rfl,hN,by omega,hg⟩
 have OR:=qM.tie.1
 change eW T ad4 s0 (fN g far outs ins so si) sj (fk ins++(eC so++eC si))at hg
 refine XW.bK (RL.ag (iT (cs:=[ov,iv]) agO ac5 rfl je rfl rfl (by omega) (by omega) rfl) (RL.ag (v:=iv) ai (RL.nil (cg (bS (XW.seq (XW.p9 rfl (fun u=>aH w F u [.aJ g1 [.func (.yield l) #[] #[]] 59,.aJ gb [gv,fv,ov,iv,cW,cX] 32]) ?_)))))))
 replace hN:=hN.ext (Ext.drew cv)
 refine XA.take (i:=0) rfl rfl (by kernel_rfl) (by kernel_rfl) (by kernel_rfl) (by repeat (first|exact gX|refine gV ?_|refine gY ?_|refine gW ?_)) rfl (hN.sb [1,2]) (fun w hS=>(aj aet (hS.aJ 0 rfl))) ?_
 refine XA.take (v:=iv) (i:=1) rfl rfl (by kernel_rfl) (by kernel_rfl) (by kernel_rfl) (by repeat (first|exact gX|refine gV ?_|refine gY ?_|refine gW ?_)) rfl (hN.sb [1,2]) (fun w hS=>U) ?_
 have S0:=(qM.ti.now hN).bw
 refine XA.take (i:=2) rfl rfl (by kernel_rfl) (by kernel_rfl) (by kernel_rfl) (by repeat (first|exact gX|refine gV ?_|refine gY ?_|refine gW ?_)) rfl (hN.sb [1,2]) (fun w hS=>(aQ ac5 (qM.ti.now hS))) ?_
 refine XA.only (i:=3) (by kernel_rfl) rfl rfl rfl (lV.of rfl (cx (enc:=vi) (l:=[(hi.length:Int)]) (xs:=[.tmp 28]) acz bI mN rfl rfl (fun _=>rfl) rfl (by decide) (by decide) hN ?_))
 clear hN
 intro MV oI (hN:aH w F oI [_,_,_,_])
 refine⟨(hN.sb [2,3]),?_⟩
 refine XA.only (i:=4) (by kernel_rfl) rfl rfl rfl (lV.of rfl (bo aeP rfl rfl rfl ((fD _ [(ins.length:Int)] _ (by have h_:=(hN.sl 0 rfl);rw[OR]at h_;exact h_) (by simp)).mono ?_)))
 rintro kZ ph ⟨cL,bl⟩
 replace hN:aH w F ph [_,_,_,_,_]:=hN.cl (l:=bL [(ins.length:Int)]) cL bl
 clear cL bl
 refine⟨(hN.sb [3,4]),?_⟩
 refine XA.only (i:=5) (by kernel_rfl) rfl rfl rfl (dg rfl rfl ((eW.yield hT hY (kZ,(bL [(ins.length:Int)])) hg (hN.de (M:=[_]) [2] (by decide) rfl) ⟨(hN.sl 0 rfl),hN.lI (M:=[_]) [2] rfl 0 rfl rfl (fun k hk=>hk)⟩).mono ?_))
 rintro _ qq ⟨P7,rfl,gP,cE⟩
 replace hg:=gP
 clear gP
 replace hN:aH w F qq [_,_,_,_,_]:=aH.dd (M:=[_]) (N:=[_,_,_,_]) (hN.sb [2,0,1,3,4]) cE
 clear cE
 refine⟨(hN.sb [3,4]),?_⟩
 refine XA.done (by kernel_rfl) (bS (XW.seq (XW.bK (RL.ag (v:=iv) U (RL.ag (aQ ac5 (qM.ti.now hN)) (RL.ag (v:=.int .i64 (0)) U (RL.nil (cg (bS ?_)))))))))
 refine XW.block ?_
 refine XW.loop (fun k2 R1 ez=>∃sq:σ,∃q:Nat,R1 1=vP gb∧R1 2=vP g1∧R1 3=.func (.func 83) #[] #[vP g1]∧R1 22=.agg #[ov,iv]∧R1 23=.int .i64 (((1:Nat):Int))∧R1 32=iv∧R1 33=.int .i64 ((hi.length:Int))∧R1 34=vJ q∧aH w F ez [C true sq,.aJ g1 [.func (.yield l) #[] #[]] 59,.aJ gb [gv,fv,ov,iv,cW,cX] 32]∧(q+k2=hi.length)∧(eW T ad4 s0 (fN g far outs ins so si) sq ((ins.drop q).flatMap gk++(eC so++eC si)))) (hi.length) ?_ ?_
 exact⟨P7,0,rfl,rfl,rfl,rfl,rfl,rfl,rfl,rfl,(hN.sb [0,3,4]),by omega,hg⟩
 clear hN
 rintro k2 R1 ez ⟨sq,q,bN,bQ,cb,kO,iS,Ar,nE,nD,hN,yl,hg⟩
 have cz:=rN bN bQ cb kO iS Ar nE nD
 obtain⟨re,rfl⟩:=cz
 clear bN bQ cb kO iS Ar nE nD
 refine XW.seq (XW.bK (RL.ag (aK) (RL.nil (cg (bS (XW.seq ?_))))))
 refine XW.mK _ rfl (fun ep=>?_) (fun ep=>?_)
 refine XW.skip (bS (XW.seq (XW.block (XW.seq (XW.bK (RL.ag (aC ac5 lx (qM.ti.now hN)) ?_))))))
 have aO:=cQ (hi) q
 obtain⟨ap,bV⟩:=aO
 have aO:∃l_,(ins)[q]?=some l_:=⟨_,acM (by have:=qM.tie.1;omega)⟩
 obtain⟨lp,eN⟩:=aO
 refine RL.ag (aF (m:=q) (a:=ap) ac1 (qM.ti.now hN) bV) (RL.ag (v:=(vh ap)) ai ?_)
 have UM:=Fa.2 lp (acC eN)
 replace hg:=hg.as (GZ eN)
 refine RL.nil (cg (bS (XW.seq (XW.p9 rfl (fun u=>aH w F u [.aJ g1 [.func (.yield l) #[] #[]] 59,.aJ gb [gv,fv,ov,iv,cW,cX] 32]) ?_))))
 replace hN:=hN.ext (Ext.drew ez)
 refine XA.take (i:=0) rfl rfl (by kernel_rfl) (by kernel_rfl) (by kernel_rfl) (by repeat (first|exact gX|refine gV ?_|refine gY ?_|refine gW ?_)) rfl (hN.sb [1,2]) (fun w hS=>(aj aet (hS.aJ 0 rfl))) ?_
 refine XA.take (v:=(vh ap)) (i:=1) rfl rfl (by kernel_rfl) (by kernel_rfl) (by kernel_rfl) (by repeat (first|exact gX|refine gV ?_|refine gY ?_|refine gW ?_)) rfl (hN.sb [1,2]) (fun w hS=>U) ?_
 refine XA.only (i:=2) (by kernel_rfl) rfl rfl rfl (lV.of rfl (bu agH rfl rfl rfl rfl ((mM _ lp _ ((qM.tie.ik bV eN).now hN) (by omega)).mono ?_)))
 rintro QE u3 ⟨cL,bl⟩
 replace hN:aH w F u3 [_,_,_,_]:=hN.cl (l:=bL (lp.map fun a=>a.1)) cL bl
 clear cL bl
 refine⟨(hN.sb [2,3]),?_⟩
 refine XA.only (i:=3) (by kernel_rfl) rfl rfl rfl (dg rfl rfl ((eW.yield hT hY (QE,(bL (lp.map fun a=>a.1))) hg (hN.de (M:=[_]) [1] (by decide) rfl) ⟨(hN.sl 0 rfl),hN.lI (M:=[_]) [1] rfl 0 rfl rfl (fun k hk=>hk)⟩).mono ?_))
 rintro _ vd ⟨J3,rfl,gP,cE⟩
 replace hg:=gP
 clear gP
 replace hN:aH w F vd [_,_,_,_]:=aH.dd (M:=[_]) (N:=[_,_,_]) (hN.sb [1,0,2,3]) cE
 clear cE
 refine⟨(hN.sb [2,3]),?_⟩
 refine XA.done (by kernel_rfl) (bS (XW.p9 rfl (fun u=>aH w F u [.own vb 5 (QE) (bL (lp.map fun a=>a.1)),.aJ g1 [.func (.yield l) #[] #[]] 59,.aJ gb [gv,fv,ov,iv,cW,cX] 32]) ?_))
 replace hN:=hN.ext (Ext.drew vd)
 refine XA.take (i:=0) rfl rfl (by kernel_rfl) (by kernel_rfl) (by kernel_rfl) (by repeat (first|exact gX|refine gV ?_|refine gY ?_|refine gW ?_)) rfl (hN.sb [1,2,3]) (fun w hS=>(aj aet (hS.aJ 1 rfl))) ?_
 refine XA.take (v:=(vh ap)) (i:=1) rfl rfl (by kernel_rfl) (by kernel_rfl) (by kernel_rfl) (by repeat (first|exact gX|refine gV ?_|refine gY ?_|refine gW ?_)) rfl (hN.sb [1,2,3]) (fun w hS=>U) ?_
 refine XA.only (i:=2) (by kernel_rfl) rfl rfl rfl (lV.of rfl (bu agH rfl rfl rfl rfl ((mL _ lp _ ((qM.tie.ik bV eN).now hN) (by omega)).mono ?_)))
 rintro J2 zo ⟨cL,bl⟩
 replace hN:aH w F zo [_,_,_,_,_]:=hN.cl (l:=bL (lp.map fun a=>a.2)) cL bl
 clear cL bl
 refine⟨(hN.sb [2,3,4]),?_⟩
 refine XA.only (i:=3) (by kernel_rfl) rfl rfl rfl (dg rfl rfl ((eW.yield hT hY (J2,(bL (lp.map fun a=>a.2))) hg (hN.de (M:=[_]) [1] (by decide) rfl) ⟨(hN.sl 0 rfl),hN.lI (M:=[_]) [1] rfl 0 rfl rfl (fun k hk=>hk)⟩).mono ?_))
 rintro _ Bp ⟨Ze,rfl,gP,cE⟩
 replace hg:=gP
 clear gP
 replace hN:aH w F Bp [_,_,_,_,_]:=aH.dd (M:=[_]) (N:=[_,_,_,_]) (hN.sb [1,0,2,3,4]) cE
 clear cE
 refine⟨(hN.sb [2,3,4]),?_⟩
 refine XA.done (by kernel_rfl) (eX (bS (XW.bK (RL.ag (aD rfl rfl rfl (bg (by omega) (by omega))) (RL.ag (v:=.int .i64 ((q:Int)+1)) U (RL.nil (cg (bS ?_))))))))
 exact⟨rfl,k2-1,by omega,Ze,q+1,rfl,rfl,rfl,rfl,rfl,rfl,rfl,rfl,(hN.sb [0,3,4]),by omega,hg⟩
 refine XW.exit ?_
 iterate 2 refine na ?_
 refine iK (eX (bS (XW.bK (RL.ag (aD rfl rfl rfl (bg (by omega) (by omega))) (RL.ag (v:=.int .i64 (((1:Nat):Int)+1)) U (RL.nil (cg (bS ?_))))))))
 rw[aeW (by omega)]at hg
 exact⟨rfl,k-1,by omega,sq,1+1,rfl,rfl,rfl,rfl,rfl,hN,by omega,hg⟩
 refine XW.exit ?_
 iterate 2 refine na ?_
 refine iK (bS (XW.seq ?_))
 have ic:i=2:=by omega
 subst ic
 change eW T ad4 s0 (fN g far outs ins so si) sj (eC so++eC si)at hg
 refine XW.bK (RL.ag (v:=.func (.func 83) #[] #[vP g1]) U (RL.ag (ah acR rfl fH) (RL.ag (aj acQ (hN.aJ 2 rfl)) ?_)))
 refine RL.aL (ct (first:=#[]) (captured:=#[vP g1]) (v0:=cW) (args:=#[cW,vP g1]) ahG rfl rfl (by simp) rfl rfl ((nm l C T s0 _ hT hY g1 sj _ _ gM so (hg.as rfl) (hN.de (M:=[_,_]) [0,1] (by decide) rfl) (qM.Dm.step (hN.sb (M:=[C true sj,.aJ g1 [.func (.yield l) #[] #[]] 59]) [0,1])) (qM.qt.step (hN.sb (M:=[C true sj,.aJ g1 [.func (.yield l) #[] #[]] 59]) [0,1])) E5.1 E5.2).mono ?_))
 rintro _ BB ⟨T7,gP,cE⟩
 replace hg:=gP
 clear gP
 replace hN:aH w F BB [_,_,_]:=aH.dd (M:=[_,_]) (N:=[_]) (hN.sb [0,1,2]) cE
 clear cE
 replace hg:=hg.as (adw _).symm
 refine RL.nil (cg (bS (XW.bK (RL.ag (v:=.func (.func 83) #[] #[vP g1]) U (RL.ag (ah acR rfl fH) (RL.ag (aj acQ (hN.aJ 2 rfl)) ?_))))))
 refine RL.aL (ct (first:=#[]) (captured:=#[vP g1]) (v0:=cX) (args:=#[cX,vP g1]) ahG rfl rfl (by simp) rfl rfl ((nm l C T s0 _ hT hY g1 T7 _ _ gI si (hg.as rfl) (hN.de (M:=[_,_]) [0,1] (by decide) rfl) (qM.Dn.step (hN.sb (M:=[C true T7,.aJ g1 [.func (.yield l) #[] #[]] 59]) [0,1])) (qM.qu.step (hN.sb (M:=[C true T7,.aJ g1 [.func (.yield l) #[] #[]] 59]) [0,1])) E6.1 E6.2).mono ?_))
 rintro _ yY ⟨s22,gP,cE⟩
 replace hg:=gP
 clear gP
 replace hN:aH w F yY [_,_,_]:=aH.dd (M:=[_,_]) (N:=[_]) (hN.sb [0,1,2]) cE
 clear cE
 refine RL.nil (cg (wi (RV.zero rfl) ?_))
 exact⟨_,hg.done,hN.sb [0]⟩
theorem vD (g:List Int) (far:List (List Int)) (outs ins:List (List I2)) (so si:List (List Int)) (gb:Nat) (gv fv ov iv cW cX:Value) (hf ho hi gM gI:List Hd) (sH:g.length≤67108864) (xc:far.length≤67108864∧∀r∈far,r.length≤67108864) (Om:outs.length≤67108864∧∀r∈outs,r.length≤67108864) (Fa:ins.length≤67108864∧∀r∈ins,r.length≤67108864) (E5:so.length≤67108864∧∀r∈so,r.length≤67108864) (E6:si.length≤67108864∧∀r∈si,r.length≤67108864):u2 acD 82 #[vP gb] [.aJ gb [gv,fv,ov,iv,cW,cX] 32] (fun F w=>qe F w gv g fv hf far ov ho outs iv hi ins cW gM so cX gI si) ad4 A8 (M8 vb) (fN g far outs ins so si):=by
  intro σ l C T s0 w0 w F hT hY F5 hN
  have h1:=hN.de (M:=[_,_]) [0,1] (by decide) rfl
  refine(rU l C T s0 w hT hY gb gv fv ov iv cW cX hf ho hi gM gI h1 (F5.step hN) sH xc Om Fa E5 E6).mono ?_
  rintro _ w' ⟨s',hr,h2⟩
  exact⟨s',hr,aH.dd (M:=[_,_]) (N:=[]) hN h2⟩
end Go.Proofs.YtngkdkbpgoddlaaGreat
namespace Go.Proofs.YtngkdkbpgoddlaaGreat
open Go.RowKit Go.Rl
open Go.Gr Go.dj Go.jR
theorem z3 (n:Int) (ar:List I3) (v:Value) (w:World) (hv:Sm bC w v ar):aM acD 30 #[.agg #[.int .i64 n,v]] w fun r w'=>∃g,r=.func (.func 69) #[] #[vP g]∧aH w none_ w' [.aJ g [.int .i64 n,v] 24]:=by
 refine aM.aZ Tryz.func30 ?_
 rw[cH]
 have hN:=aH.nil w none_
 refine RW.aN ?_
 refine RL.aL (bJ (cs:=[.int .i64 (n),v]) rfl rfl hN ?_)
 clear hN
 intro g1 w1 (hN:aH w none_ w1 [_])
 refine RL.ag ai (RL.bY (RL.ag (dM (vs:=[vP g1]) (xs:=[.tmp 1]) rfl rfl) (RL.ag (v:=.func (.func 69) #[] #[vP g1]) ai (RL.ak (RW.ret ?_)))))
 refine bc (RV.tmp rfl) ?_
 exact⟨_,rfl,hN.sb [0]⟩
theorem x5 (rk:List Int) (ws:List I5) (rv wv:Value) (w:World) (hr:Sl vI w rv rk) (hw:Sm aV w wv ws):aM acD 31 #[.agg #[rv,wv]] w fun r w'=>∃g,r=.func (.func 75) #[] #[vP g]∧aH w none_ w' [.aJ g [rv,wv] 28]:=by
 refine aM.aZ Tryz.func31 ?_
 rw[cH]
 have hN:=aH.nil w none_
 refine RW.aN ?_
 refine RL.aL (bJ (cs:=[rv,wv]) rfl rfl hN ?_)
 clear hN
 intro g1 w1 (hN:aH w none_ w1 [_])
 refine RL.ag ai (RL.bY (RL.ag (dM (vs:=[vP g1]) (xs:=[.tmp 1]) rfl rfl) (RL.ag (v:=.func (.func 75) #[] #[vP g1]) ai (RL.ak (RW.ret ?_)))))
 refine bc (RV.tmp rfl) ?_
 exact⟨_,rfl,hN.sb [0]⟩
theorem tK (g0:List Int) (far:List (List Int)) (outs ins:List (List I2)) (so si:List (List Int)) (gv fv ov iv cW cX:Value) (hf ho hi gM gI:List Hd) (w:World) (hT:qe none_ w gv g0 fv hf far ov ho outs iv hi ins cW gM so cX gI si):aM acD 32 #[.agg #[gv,fv,ov,iv,cW,cX]] w fun r w'=>∃g,r=.func (.func 82) #[] #[vP g]∧aH w none_ w' [.aJ g [gv,fv,ov,iv,cW,cX] 32]:=by
 refine aM.aZ Tryz.func32 ?_
 rw[cH]
 have hN:=aH.nil w none_
 refine RW.aN ?_
 refine RL.aL (bJ (cs:=[gv,fv,ov,iv,cW,cX]) rfl rfl hN ?_)
 clear hN
 intro g1 w1 (hN:aH w none_ w1 [_])
 refine RL.ag ai (RL.bY (RL.ag (dM (vs:=[vP g1]) (xs:=[.tmp 1]) rfl rfl) (RL.ag (v:=.func (.func 82) #[] #[vP g1]) ai (RL.ak (RW.ret ?_)))))
 refine bc (RV.tmp rfl) ?_
 exact⟨_,rfl,hN.sb [0]⟩
theorem jr (n:Int) (ar:List I3) (rk:List Int) (ws:List I5) (g:List Int) (far:List (List Int)) (outs ins:List (List I2)) (so si:List (List Int)) (v rv wv gv fv ov iv cW cX:Value) (hf ho hi gM gI:List Hd) (w:World) (hv:Sm bC w v ar) (hr:Sl vI w rv rk) (hw:Sm aV w wv ws) (hT:qe none_ w gv g fv hf far ov ho outs iv hi ins cW gM so cX gI si) (im:ar.length≤67108864) (Aj:rk.length≤67108864) (TF:ws.length≤67108864) (sH:g.length≤67108864) (xc:far.length≤67108864∧∀r∈far,r.length≤67108864) (Om:outs.length≤67108864∧∀r∈outs,r.length≤67108864) (Fa:ins.length≤67108864∧∀r∈ins,r.length≤67108864) (E5:so.length≤67108864∧∀r∈so,r.length≤67108864) (E6:si.length≤67108864∧∀r∈si,r.length≤67108864) (eI:fO (gT n ar rk ws g far outs ins so si)≤140737488351232):aM acD 10 #[.agg #[.int .i64 n,v,rv,wv,gv,fv,ov,iv,cW,cX]] w fun r w'=>eB vb 5 w' w.heap.size r (dC (gT n ar rk ws g far outs ins so si))∧Ext w w':=by
 refine aM.aZ af6 ?_
 rw[cH]
 have hN:=aH.nil w none_
 have aO:=QZ eI
 obtain⟨lk,ow,Rr,rr⟩:=aO
 refine RW.aN ?_
 refine RL.aL (bJ (cs:=[.int .i64 (n),v,rv,wv,gv,fv,ov,iv,cW,cX]) rfl rfl hN ?_)
 clear hN
 intro g1 w1 (hN:aH w none_ w1 [_])
 refine RL.ag (v:=vN) ai (RL.ak (RW.seq ?_))
 replace hN:=hN.ext (Ext.drew w1)
 refine RW.bA (fun u=>aH w none_ u [.aJ g1 [.int .i64 (n),v,rv,wv,gv,fv,ov,iv,cW,cX] 34]) 18 [(0,0),(1,0),(3,0),(4,0),(7,0),(8,0),(11,0),(12,0),(2,1),(5,1),(6,1),(9,1),(10,1),(13,1),(14,1),(15,1),(16,1),(17,0)] (by intro _ _ _ h;exact h) hN (RQ.an rfl (fun w hS=>(ah acO rfl dw)) (RQ.an rfl (fun w hS=>(du (cs:=[.int .i64 (n),v,rv,wv,gv,fv,ov,iv,cW,cX]) (j:=0) (m:=2) acJ rfl dw rfl (hS.aJ 0 rfl) (acA rfl))) (RQ.an rfl (fun w hS=>(ah acO rfl dw)) (RQ.an rfl (fun w hS=>(du (cs:=[.int .i64 (n),v,rv,wv,gv,fv,ov,iv,cW,cX]) (j:=0) (m:=2) acJ rfl dw rfl (hS.aJ 0 rfl) (acA rfl))) (RQ.an rfl (fun w hS=>(ah acO rfl dq)) (RQ.an rfl (fun w hS=>(du (cs:=[.int .i64 (n),v,rv,wv,gv,fv,ov,iv,cW,cX]) (j:=2) (m:=2) acE rfl dq rfl (hS.aJ 0 rfl) (acA rfl))) (RQ.an rfl (fun w hS=>(ah acO rfl iA)) (RQ.an rfl (fun w hS=>(du (cs:=[.int .i64 (n),v,rv,wv,gv,fv,ov,iv,cW,cX]) (j:=4) (m:=6) acR rfl iA rfl (hS.aJ 0 rfl) (acA rfl))) ?_))))))))
 refine RQ.bW rfl (bo aiT rfl rfl rfl ((AG (n) _ ar _ (hv.o.now hN)).mono ?_))
 rintro v2 w2 ⟨cL,bl⟩
 replace hN:aH w none_ w2 [_,_]:=hN.cl (l:=j3 (n) ar) cL bl
 clear cL bl
 refine⟨(hN.sb [1]),?_⟩
 refine RQ.bW rfl (bo Tryz.func30 rfl rfl rfl ((z3 n ar v _ (hv.o.now hN)).mono ?_))
 rintro _ w3 ⟨g3,rfl,cE⟩
 replace hN:aH w none_ w3 [_,_,_]:=hN.fG cE
 clear cE
 refine⟨(hN.sb [2]),?_⟩
 refine RQ.bW rfl (bo ahF rfl rfl rfl ((mm 69 _ #[vP g3] [.aJ g3 [.int .i64 (n),v] 24] _ (mh n ar) Tryz.func69 rfl rfl (Cc n ar g3 v im) (by omega) _ (mz.step oS hv.o (hN.sb (M:=[.aJ g3 [.int .i64 (n),v] 24]) [0])) (hN.de (M:=[_]) [0] (by decide) rfl)).mono ?_))
 rintro v4 w4 cE
 replace hN:aH w none_ w4 [_,_,_]:=aH.dd (M:=[_]) (N:=[_,_]) (hN.sb [0,1,2]) cE
 clear cE
 refine⟨(hN.sb [2]),?_⟩
 refine RQ.bW rfl (bo Tryz.func31 rfl rfl rfl ((x5 rk ws rv wv _ (hr.o.now hN) (hw.o.now hN)).mono ?_))
 rintro _ w5 ⟨g5,rfl,cE⟩
 replace hN:aH w none_ w5 [_,_,_,_]:=hN.fG cE
 clear cE
 refine⟨(hN.sb [3]),?_⟩
 refine RQ.bW rfl (bo ahF rfl rfl rfl ((mm 75 _ #[vP g5] [.aJ g5 [rv,wv] 28] _ (jk rk ws) Tryz.func75 rfl rfl (z6 rk ws g5 rv wv Aj TF) (by omega) _ ⟨hr.o.step (hN.sb (M:=[.aJ g5 [rv,wv] 28]) [0]),mz.step fE hw.o (hN.sb (M:=[.aJ g5 [rv,wv] 28]) [0])⟩ (hN.de (M:=[_]) [0] (by decide) rfl)).mono ?_))
 rintro v6 w6 cE
 replace hN:aH w none_ w6 [_,_,_,_]:=aH.dd (M:=[_]) (N:=[_,_,_]) (hN.sb [0,1,2,3]) cE
 clear cE
 refine⟨(hN.sb [3]),?_⟩
 refine RQ.bW rfl (bo Tryz.func32 rfl rfl rfl ((tK g far outs ins so si gv fv ov iv cW cX hf ho hi gM gI _ (hT.ext hN.aX)).mono ?_))
 rintro _ w7 ⟨g7,rfl,cE⟩
 replace hN:aH w none_ w7 [_,_,_,_,_]:=hN.fG cE
 clear cE
 refine⟨(hN.sb [4]),?_⟩
 refine RQ.bW rfl (bo ahF rfl rfl rfl ((mm 82 _ #[vP g7] [.aJ g7 [gv,fv,ov,iv,cW,cX] 32] _ (fN g far outs ins so si) Tryz.func82 rfl rfl (vD g far outs ins so si g7 gv fv ov iv cW cX hf ho hi gM gI sH xc Om Fa E5 E6) (by omega) _ (hT.step (hN.sb (M:=[.aJ g7 [gv,fv,ov,iv,cW,cX] 32]) [0])) (hN.de (M:=[_]) [0] (by decide) rfl)).mono ?_))
 rintro v8 w8 cE
 replace hN:aH w none_ w8 [_,_,_,_,_]:=aH.dd (M:=[_]) (N:=[_,_,_,_]) (hN.sb [0,1,2,3,4]) cE
 clear cE
 refine⟨(hN.sb [4]),?_⟩
 have aO:=(hN.sl 3 rfl).hd
 obtain⟨lU,fF⟩:=aO
 subst fF
 have aO:=(hN.sl 2 rfl).hd
 obtain⟨yy,fF⟩:=aO
 subst fF
 have aO:=(hN.sl 1 rfl).hd
 obtain⟨Kc,fF⟩:=aO
 subst fF
 have aO:=(hN.sl 0 rfl).hd
 obtain⟨MU,fF⟩:=aO
 subst fF
 refine RQ.bW rfl (cx (enc:=vh) (l:=[lU,yy,Kc,MU]) (xs:=[.tmp 5,.tmp 9,.tmp 13,.tmp 17]) adL lY Nc rfl rfl (fun _=>rfl) rfl (by decide) (by decide) hN ?_)
 clear hN
 intro g9 w9 (hN:aH w none_ w9 [_,_,_,_,_,_])
 refine⟨(hN.sb [5]),?_⟩
 refine RQ.bW rfl (bo ahC rfl rfl rfl ((oR _ ([lU,yy,Kc,MU]) [(j3 (n) ar),((mh n ar).flatten),((jk rk ws).flatten),((fN g far outs ins so si).flatten)] _ (hN.sl 0 rfl) (gG.cons (hN.sl 4 rfl) (sN.none _ _) (gG.cons (hN.sl 3 rfl) (sN.none _ _) (gG.cons (hN.sl 2 rfl) (sN.none _ _) (gG.cons (hN.sl 1 rfl) (sN.none _ _) (gG.nil _ _ _))))) eI).mono ?_))
 rintro FU oI ⟨cL,bl⟩
 replace hN:aH w none_ oI [_,_,_,_,_,_,_]:=hN.cl (l:=dC (gT n ar rk ws g far outs ins so si)) cL bl
 clear cL bl
 refine⟨(hN.sb [6]),?_⟩
 refine RQ.an (v:=FU) rfl (fun w hS=>ai) (RQ.bq (aA (RW.ret (bc (RV.tmp rfl) ?_))))
 exact⟨hN.ft 0 rfl,hN.aX⟩
end Go.Proofs.YtngkdkbpgoddlaaGreat
namespace Go.Proofs.YtngkdkbpgoddlaaGreat
open Go.RowKit Go.Rl
open Go.dj Go.jR
theorem jK (v:Value) (l:List UInt8) (w:World) (hv:Sl vb w v l) (hl:l.length≤1048576):aM acD 14 #[v] w fun r w'=>∃hs,aH w none_ w' [.own vh 38 r hs,.eD vb hs (cP l)]:=by
 refine aM.aZ af7 ?_
 rw[cH]
 have hN:=aH.nil w none_
 refine RW.aN (RL.ag ai (RL.ak (RW.scope (RW.aN (RL.ag ai (RL.nil ?_))))))
 refine aA (RW.aN (RL.ag U ?_))
 refine RL.aL (bo agF rfl rfl rfl ((nY _ l _ (hv.ext hN.aX) (by omega)).mono ?_))
 rintro _ w1 ⟨g1,rfl,lS,bl⟩
 have DV:=xL hN lS bl
 clear lS bl
 generalize OD:(w).heap.size=W6 at DV
 generalize OS:(w1).heap.size=DN at DV
 clear hN
 have hN:aH w none_ w1 [_]:=DV
 clear DV
 refine RL.ag ai ?_
 replace hN:=hN.jX vb
 replace hN:=hN.dy vh 38
 refine RL.ak (RW.seq (RW.label (aA (RW.seq (RW.block ?_)))))
 refine RW.loop (fun k R0 cv=>∃rest:List UInt8,∃ls:List (List UInt8),∃vo:Value,∃hs:List Hd,R0 0=v∧R0 3=vo∧R0 4=vP g1∧aH w none_ cv [.own vh 38 (vo) (hs),.eD vb (hs) (ls),dF 142 W6 DN g1 (rest,0)]∧(rest.length≤k)∧(rest.length≤l.length)∧(hs.length=ls.length∧hs.length+rest.length≤l.length)∧(parts l=(iC (l.length:Int) k rest).map (ls++·))) (l.length) ?_ ?_
 exact⟨l,[],vN,[],rfl,rfl,rfl,hN,ac8 _,ac8 _,⟨rfl,by simp⟩,by unfold parts;simp⟩
 clear hN
 rintro k R0 cv ⟨rest,ls,vo,hs,cF,cb,cu,hN,Qi,Aj,Br,hp⟩
 have cz:=k5 cF cb cu
 obtain⟨fV,rfl⟩:=cz
 clear cF cb cu
 iterate 2 refine RW.seq ?_
 refine RW.region (RL.ag U ?_)
 refine RL.aL (bo aiQ rfl rfl rfl ((tW _ _ _ (rest,0) _ (dF.says hN 2 rfl)).mono ?_))
 rintro _ _ ⟨rfl,rfl⟩
 refine RL.ag (cq) (RL.ak ?_)
 refine RW.aG _ (fun iF=>?_) (fun iF=>?_)
 refine RW.skip (aA (RW.block (RW.seq ?_)))
 have Ll:rest≠[]:=by intro e;rw[e]at iF;simp at iF
 have F4:k=(k-1)+1:=by have:=agB.2 Ll;omega
 have Li:(eg (rest,0) (l.length:Int)).2.length≤rest.length:=zp (rest,0) _
 refine RW.region ?_
 iterate 2 refine RL.ag U ?_
 have r7:=(hv.ext hN.aX).bw
 refine RL.ag (aQ acW (hv.ext hN.aX)) ?_
 refine RL.aL (bu Tryz.func39 rfl rfl rfl rfl ((GS (dF.says hN 2 rfl) (Me hN 2 rfl) (by omega) (by omega) (by show rest.length≤_;omega) (eta (eg (rest,0) ((l.length:Int))))).mono ?_))
 rintro _ w5 ⟨rfl,lS,Mv⟩
 replace hN:aH w none_ w5 [_,_,_]:=Dt hN 2 rfl lS Mv
 clear lS Mv
 refine RL.aL (zY aeq acW ady rfl (by(try simp only[acB,ac9,adj,cr,eG,dr,eE,acS,acK]);omega) hN ?_)
 clear hN
 intro v6 w6 (hN:aH w none_ w6 [_,_,_,_])
 refine RL.aL (bo Tryz.func38 rfl rfl rfl ((B9 _ ((eg (rest,0) ((l.length:Int))).2) _ (hN.QK 0 rfl) (by(try simp only[acB,ac9,adj,cr,eG,dr,eE,acS,acK]);omega)).mono ?_))
 intro r_ w7 ZG
 rcases ZG with⟨U4,v7,rfl,cL,bl⟩|⟨U4,rfl,bl⟩
 replace hN:aH w none_ w7 [_,_,_,_,_]:=hN.cl cL bl
 clear cL bl
 refine RL.ag U ?_
 iterate 2 refine RL.ag (bE) ?_
 iterate 2 refine RL.ag ai ?_
 refine RL.ak ?_
 iterate 2 refine RW.seq ?_
 refine RW.region (RL.ag U (RL.ag (cG (bj) (fun h=>h rfl)) (RL.ag U (RL.aw U ?_))))
 refine RL.er (bo afp rfl rfl rfl ((ga _ _ _ ((eg (rest,0) ((l.length:Int))).1) _ (dF.says hN 4 rfl)).mono ?_))
 rintro _ _ ⟨rfl,rfl⟩
 refine RL.aw (bj) (RL.ag (aB) (RL.ak ?_))
 refine RW.aG _ (fun hX=>?_) (fun hX=>?_)
 refine RW.seq ?_
 have R6:parts l=none:=by
   rw[hp,F4,tH Ll (by first|exact .inl (by assumption)|exact .inr (by assumption))];rfl
 refine RW.region (RL.ag ai (RL.ak (RW.exit (bP (eA (by decide) (bP (aY (aA ?_))))))))
 iterate 2 refine RW.seq ?_
 refine RW.region (RL.ag U ?_)
 refine RL.aL (bo afp rfl rfl rfl ((ga _ _ _ ((eg (rest,0) ((l.length:Int))).1) _ (dF.says hN 4 rfl)).mono ?_))
 rintro _ _ ⟨rfl,rfl⟩
 refine RL.ag (bj) (RL.ak ?_)
 refine RW.aG _ (fun O6=>?_) (fun O6=>?_)
 refine RW.aN (RL.ag ai (RL.ak (RW.ret (aU (td (bc (RV.tmp rfl) ?_))))))
 have hq:cP l=[]:=by unfold cP;rw[R6];rfl
 have LF:aH w none_ w7 [.own vh 38 (vN) [],.eD vb [] (cP l)]:=by
   rw[hq];exact((hN.sb (M:=[]) []).jX vb).dy vh 38
 exact⟨_,LF⟩
 refine RW.skip (aA (RW.aN (RL.ag U (RL.ag ai (RL.ak (RW.ret (td ?_)))))))
 refine bc (RV.tmp rfl) ?_
 have hq:cP l=[]:=by unfold cP;rw[R6];rfl
 have LF:aH w none_ w7 [.own vh 38 (vN) [],.eD vb [] (cP l)]:=by
   rw[hq];exact((hN.sb (M:=[]) []).jX vb).dy vh 38
 exact⟨_,LF⟩
 refine RW.skip (aA (RW.region ?_))
 iterate 2 refine RL.ag U ?_
 have aO:=(hN.sl 0 rfl).hd
 obtain⟨yy,fF⟩:=aO
 subst fF
 refine RL.aL (cx (enc:=vh) (l:=[yy]) (xs:=[.tmp 29]) adL lY Nc rfl rfl (fun _=>rfl) rfl (by decide) (by decide) hN ?_)
 clear hN
 intro AS lR (hN:aH w none_ lR [_,_,_,_,_,_])
 refine RL.aL (b9 adL Q8 rfl kh hN 3 rfl rfl (hN.sl 0 rfl) rfl (by(try simp only[acB,ac9,adj,cr,eG,dr,eE,acS,acK]);omega) (by decide) ?_)
 clear hN
 intro rh kI (hN:aH w none_ kI [_,_,_,_,_,_])
 replace hN:aH w none_ kI [_,_,_,_,_]:=aH.kW (L:=[_,_,_,_,_]) (hN.sb [1,0,2,3,4,5]) 3 rfl
 refine RL.ag ai (RL.nil (ba (aA ?_)))
 have hg:=BJ (acX.1 hX)
 have XN:=wL (k:=k-1) Ll (acX.1 hX) (by assumption)
 have XM:parts l=(iC (l.length:Int) (k-1) (eg (rest,0) (l.length:Int)).1.1).map ((ls++[((eg (rest,0) ((l.length:Int))).2).take (((eg (rest,0) ((l.length:Int))).2).length-4)])++·):=by
   rw[hp,F4,XN,Option.map_map]
   congr 1;funext x;simp
 have hRX:(eg (rest,0) (l.length:Int)).1=((eg (rest,0) (l.length:Int)).1.1,0):=ad1 rfl (acX.1 hX)
 rw[hRX]at hN
 exact⟨k-1,by omega,(eg (rest,0) (l.length:Int)).1.1,ls++[((eg (rest,0) ((l.length:Int))).2).take (((eg (rest,0) ((l.length:Int))).2).length-4)],rh,hs++[yy],rfl,rfl,rfl,(hN.sb [2,3,4]),by omega,by omega,⟨by simp[Br.1],by rw[acB,acH];omega⟩,XM⟩
 replace hN:=hN.ext bl
 clear bl
 refine RL.ag U ?_
 iterate 2 refine RL.ag (bE) ?_
 iterate 2 refine RL.ag ai ?_
 refine RL.ak ?_
 iterate 2 refine RW.seq ?_
 refine RW.region (RL.ag U (RL.ag (dB (bj) (by decide)) (RL.ag U ?_)))
 iterate 3 refine RL.bH ?_
 refine RL.ag (al) (RL.ak (RW.bD (RW.seq ?_)))
 have R6:parts l=none:=by
   rw[hp,F4,tH Ll (by first|exact .inl (by assumption)|exact .inr (by assumption))];rfl
 refine RW.region (RL.ag ai (RL.ak (RW.exit (bP (eA (by decide) (bP (aY (aA ?_))))))))
 iterate 2 refine RW.seq ?_
 refine RW.region (RL.ag U ?_)
 refine RL.aL (bo afp rfl rfl rfl ((ga _ _ _ ((eg (rest,0) ((l.length:Int))).1) _ (dF.says hN 3 rfl)).mono ?_))
 rintro _ _ ⟨rfl,rfl⟩
 refine RL.ag (bj) (RL.ak ?_)
 refine RW.aG _ (fun O6=>?_) (fun O6=>?_)
 refine RW.aN (RL.ag ai (RL.ak (RW.ret (aU (td (bc (RV.tmp rfl) ?_))))))
 have hq:cP l=[]:=by unfold cP;rw[R6];rfl
 have LF:aH w none_ w7 [.own vh 38 (vN) [],.eD vb [] (cP l)]:=by
   rw[hq];exact((hN.sb (M:=[]) []).jX vb).dy vh 38
 exact⟨_,LF⟩
 refine RW.skip (aA (RW.aN (RL.ag U (RL.ag ai (RL.ak (RW.ret (td ?_)))))))
 refine bc (RV.tmp rfl) ?_
 have hq:cP l=[]:=by unfold cP;rw[R6];rfl
 have LF:aH w none_ w7 [.own vh 38 (vN) [],.eD vb [] (cP l)]:=by
   rw[hq];exact((hN.sb (M:=[]) []).jX vb).dy vh 38
 exact⟨_,LF⟩
 dsimp only at iF
 refine RW.exit ?_
 iterate 2 refine bP ?_
 refine aY (aA ?_)
 iterate 2 refine RW.seq ?_
 refine RW.region (RL.ag U ?_)
 refine RL.aL (bo afp rfl rfl rfl ((ga _ _ _ (rest,0) _ (dF.says hN 2 rfl)).mono ?_))
 rintro _ _ ⟨rfl,rfl⟩
 refine RL.ag (cG (bj) (fun h=>h rfl)) (RL.ak (RW.cj (RW.skip (aA (RW.aN (RL.ag U (RL.ag ai ?_)))))))
 refine RL.ak (RW.ret (td (bc (RV.tmp rfl) ?_)))
 have UX:rest=[]:=adH (by omega)
 have vL:parts l=some ls:=by rw[hp,UX,tG];simp
 have hq:cP l=ls:=by unfold cP;rw[vL];rfl
 have LF:aH w none_ cv [.own vh 38 vo hs,.eD vb hs (cP l)]:=by
   rw[hq];exact hN.sb [0,1]
 exact⟨_,LF⟩
end Go.Proofs.YtngkdkbpgoddlaaGreat
namespace Go.Proofs.YtngkdkbpgoddlaaGreat
open Go.RowKit Go.Rl
open Go.Gr Go.dj Go.jR
theorem iO (lo hi g gr:Nat) (m:Int) (bd:Bool) (s:St) (w:World) (hN:aH w (b6 [.aJ gr [vP g,.int .i64 (m),.bool (bd)] 89,dF 142 lo hi g s]) w [.aJ gr [vP g,.int .i64 (m),.bool (bd)] 89,dF 142 lo hi g s]) (kF:0≤m) (jv:m≤1048576) (kN:s.1.length≤1048576):aM acD 95 #[vP gr] w fun r w'=>aH w (b6 [.aJ gr [vP g,.int .i64 (m),.bool (bd)] 89,dF 142 lo hi g s]) w' [.own vi 3 r (da s m).2,.aJ gr [vP g,.int .i64 (m),.bool (bd)] 89,dF 142 lo hi g ((da s m).1)]:=by
 refine aM.aZ ae7 ?_
 rw[cH]
 refine RW.aN (RL.ag (v:=vN) ai (RL.ak (RW.seq ?_)))
 replace hN:=hN.ext (Ext.drew w)
 refine RW.bA (fun u=>aH w (b6 [.aJ gr [vP g,.int .i64 (m),.bool (bd)] 89,dF 142 lo hi g s]) u [.aJ gr [vP g,.int .i64 (m),.bool (bd)] 89]) 10 [(0,0),(1,0),(2,0),(3,0),(4,0),(5,0),(6,0),(7,0),(8,1),(9,0)] (by intro _ _ _ h;exact h) (hN.sb [0]) (RQ.an (v:=vP gr) rfl (fun w hS=>U) (RQ.an rfl (fun w hS=>(bM)) (RQ.an rfl (fun w hS=>(ah adz rfl El)) (RQ.an rfl (fun w hS=>(aj aec (hS.aJ 0 rfl))) (RQ.an (v:=vP gr) rfl (fun w hS=>U) (RQ.an rfl (fun w hS=>(bM)) (RQ.an rfl (fun w hS=>(ah adz rfl bI)) (RQ.an rfl (fun w hS=>(aj acy (hS.aJ 0 rfl))) ?_))))))))
 refine RQ.bW rfl (bu ajT rfl rfl rfl rfl ((GV (dF.says hN 1 rfl) (Me hN 1 rfl) (by omega) (by omega) (by omega) (eta (da s (m)))).mono ?_))
 rintro v1 w1 ⟨cL,lS,Mv⟩
 replace hN:aH w _ w1 [_,_,_]:=NF hN 1 rfl cL lS Mv
 clear cL lS Mv
 refine⟨(hN.sb [1]),?_⟩
 refine RQ.an (v:=v1) rfl (fun w hS=>ai) (RQ.bq (aA (RW.ret (bc (RV.tmp rfl) ?_))))
 exact hN.sb [0,1,2]
theorem tP {m:Int} {s:St} {bd:Bool} (h:rT m (da s m).2=none):fp m (s,bd)=(((da s m).1,true),0):=by
  unfold fp ec;simp only[h]
theorem K2 {m:Int} {s:St} {bd:Bool} {n:Nat} (h:rT m (da s m).2=some n):fp m (s,bd)=(((da s m).1,bd),n):=by
  unfold fp ec;simp only[h]
theorem xV {m:Int} {l:List Int} (h:¬l.length=1):rT m l=none:=by
  unfold rT
  split
  · exact absurd rfl h
  · rfl
theorem xW {m x:Int} {l:List Int} (hl:l.length=1) (hx:l[0]?=some x) (h:x<0∨m<x):rT m l=none:=by
  match l,hl,hx with
  |[y],_,hx=>cases hx;unfold rT;simp only;rw[if_pos h]
theorem NN {m x:Int} {l:List Int} (hl:l.length=1) (hx:l[0]?=some x) (h:¬(x<0∨m<x)):rT m l=some x.toNat:=by
  match l,hl,hx with
  |[y],_,hx=>cases hx;unfold rT;simp only;rw[if_neg h]
theorem zK (lo hi g gr:Nat) (m:Int) (bd:Bool) (s:St) (w:World) (hN:aH w (b6 [.aJ gr [vP g,.int .i64 (m),.bool (bd)] 89,dF 142 lo hi g s]) w [.aJ gr [vP g,.int .i64 (m),.bool (bd)] 89,dF 142 lo hi g s]) (kF:0≤m) (jv:m≤1048576) (kN:s.1.length≤1048576):aM acD 158 #[vP gr] w fun r w'=>r=.int .i64 (((fp m (s,bd)).2:Nat):Int)∧aH w (b6 [.aJ gr [vP g,.int .i64 (m),.bool (bd)] 89,dF 142 lo hi g s]) w' [.aJ gr [vP g,.int .i64 (m),.bool ((fp m (s,bd)).1.2)] 89,dF 142 lo hi g ((fp m (s,bd)).1.1)]:=by
 refine aM.aZ ail ?_
 rw[cH]
 refine RW.aN (RL.ag (v:=.int .i64 (0)) ai (RL.bY (RL.ag (v:=vP gr) U ?_)))
 refine RL.aL (bo ae7 rfl rfl rfl ((iO lo hi g gr m (bd) s _ (hN.de (M:=[_,_]) [0,1] (by decide) rfl) (by omega) (by omega) (by omega)).mono ?_))
 rintro v1 w1 cE
 replace hN:aH w _ w1 [_,_,_]:=aH.dd (M:=[_,_]) (N:=[]) (hN.sb [0,1]) cE
 clear cE
 refine RL.ag (v:=v1) ai (RL.ak ?_)
 iterate 2 refine RW.seq ?_
 by_cases Lj:((da s m).2.length:Int)=1
 have TB:(da s m).2.length=1:=by omega
 have aO:∃a_,(da s m).2[0]?=some a_:=⟨_,acM (by omega)⟩
 obtain⟨ap,bV⟩:=aO
 replace hN:=hN.ext (Ext.drew w1)
 refine RW.bA (fun u=>aH w (b6 [.aJ gr [vP g,.int .i64 (m),.bool (bd)] 89,dF 142 lo hi g s]) u [.own vi 3 (v1) ((da s m).2),.aJ gr [vP g,.int .i64 (m),.bool (bd)] 89,dF 142 lo hi g ((da s m).1)]) 19 [(0,0),(1,0),(2,0),(3,0),(4,0),(5,0),(6,0),(7,0),(8,0),(9,0),(10,0),(11,0),(12,0),(13,0),(14,0),(15,0),(16,0),(17,0),(18,0)] (by intro _ _ _ h;exact h) hN (RQ.an (v:=v1) rfl (fun w hS=>U) ?_)
 have iH:=(hN.sl 0 rfl).bw
 refine RQ.an rfl (fun w hS=>(aQ acz (hS.sl 0 rfl))) (RQ.an rfl (fun w hS=>(cG (bj) (fun h=>h Lj))) (RQ.an (v:=.bool false) rfl (fun w hS=>U) (RQ.aR (v:=v1) rfl (fun w hS=>U) (RQ.aR rfl (fun w hS=>(aC acz bI (hS.sl 0 rfl))) (RQ.aR rfl (fun w hS=>(aF (m:=0) (a:=ap) acy (hS.sl 0 rfl) bV)) (RQ.aR rfl (fun w hS=>(aK)) (RQ.an (v:=.bool (decide (ap<0))) rfl (fun w hS=>(aB)) (RQ.an (v:=.bool (decide (ap<0))) rfl (fun w hS=>U) ?_))))))))
 by_cases MI:ap<0
 rw[decide_eq_true MI]
 iterate 8 refine RQ.bU rfl ?_
 refine RQ.an (v:=.bool true) rfl (fun w hS=>(al)) (RQ.bq (aA (RW.bD (RW.aN (RL.ag (v:=vP gr) U (RL.ag (bM) (RL.ag (ah adz rfl oM) ?_)))))))
 refine RL.aL (b7 oM rfl rfl rfl rfl hN 1 rfl (acA rfl) ?_)
 clear hN
 intro w4 (hN:aH w _ w4 [_,_,_])
 refine RL.bY (RL.ag (v:=.int .i64 (0)) ai (RL.ak (RW.ret (aU (bc (RV.tmp rfl) ?_)))))
 have fF:(fp m (s,bd))=(((da s m).1,true),0):=tP (by first|exact xV (by omega)|exact xW (by omega) bV (by omega))
 rw[fF]
 exact⟨rfl,hN.sb [1,2]⟩
 rw[decide_eq_false MI]
 refine RQ.aR (v:=v1) rfl (fun w hS=>U) (RQ.aR rfl (fun w hS=>(aC acz bI (hS.sl 0 rfl))) (RQ.aR rfl (fun w hS=>(aF (m:=0) (a:=ap) acy (hS.sl 0 rfl) bV)) (RQ.aR (v:=vP gr) rfl (fun w hS=>U) (RQ.aR rfl (fun w hS=>(bM)) (RQ.aR rfl (fun w hS=>(ah adz rfl bI)) (RQ.aR rfl (fun w hS=>(aj acy (hS.aJ 1 rfl))) (RQ.aR rfl (fun w hS=>(cq)) (RQ.an (v:=.bool (decide (m<ap))) rfl (fun w hS=>(aB)) (RQ.bq ?_)))))))))
 refine aA ?_
 refine RW.aG _ (fun VY=>?_) (fun VY=>?_)
 refine RW.aN (RL.ag (v:=vP gr) U (RL.ag (bM) (RL.ag (ah adz rfl oM) ?_)))
 refine RL.aL (b7 oM rfl rfl rfl rfl hN 1 rfl (acA rfl) ?_)
 clear hN
 intro w6 (hN:aH w _ w6 [_,_,_])
 refine RL.bY (RL.ag (v:=.int .i64 (0)) ai (RL.ak (RW.ret (aU (bc (RV.tmp rfl) ?_)))))
 have fF:(fp m (s,bd))=(((da s m).1,true),0):=tP (by first|exact xV (by omega)|exact xW (by omega) bV (by omega))
 rw[fF]
 exact⟨rfl,hN.sb [1,2]⟩
 refine RW.skip (aA (RW.aN (RL.ag (v:=v1) U (RL.ag (aC acz bI (hN.sl 0 rfl)) (RL.ag (aF (m:=0) (a:=ap) acy (hN.sl 0 rfl) bV) (RL.ag (v:=.int .i64 (ap)) ai (RL.ak ?_)))))))
 refine RW.ret (bc (RV.tmp rfl) ?_)
 have fF:(fp m (s,bd))=(((da s m).1,bd),ap.toNat):=K2 (NN (by omega) bV (by omega))
 rw[fF]
 exact⟨congrArg (ac4 .i64) (by omega),hN.sb [1,2]⟩
 replace hN:=hN.ext (Ext.drew w1)
 refine RW.bA (fun u=>aH w (b6 [.aJ gr [vP g,.int .i64 (m),.bool (bd)] 89,dF 142 lo hi g s]) u [.own vi 3 (v1) ((da s m).2),.aJ gr [vP g,.int .i64 (m),.bool (bd)] 89,dF 142 lo hi g ((da s m).1)]) 19 [(0,0),(1,0),(2,0),(3,0),(4,0),(5,0),(6,0),(7,0),(8,0),(9,0),(10,0),(11,0),(12,0),(13,0),(14,0),(15,0),(16,0),(17,0),(18,0)] (by intro _ _ _ h;exact h) hN (RQ.an (v:=v1) rfl (fun w hS=>U) ?_)
 have LJ:=(hN.sl 0 rfl).bw
 refine RQ.an rfl (fun w hS=>(aQ acz (hS.sl 0 rfl))) (RQ.an rfl (fun w hS=>(dB (bj) Lj)) (RQ.an (v:=.bool true) rfl (fun w hS=>U) ?_))
 iterate 4 refine RQ.bU rfl ?_
 refine RQ.an (v:=.bool true) rfl (fun w hS=>(al)) (RQ.an (v:=.bool true) rfl (fun w hS=>U) ?_)
 iterate 8 refine RQ.bU rfl ?_
 refine RQ.an (v:=.bool true) rfl (fun w hS=>(al)) (RQ.bq (aA (RW.bD (RW.aN (RL.ag (v:=vP gr) U (RL.ag (bM) (RL.ag (ah adz rfl oM) ?_)))))))
 refine RL.aL (b7 oM rfl rfl rfl rfl hN 1 rfl (acA rfl) ?_)
 clear hN
 intro w9 (hN:aH w _ w9 [_,_,_])
 refine RL.bY (RL.ag (v:=.int .i64 (0)) ai (RL.ak (RW.ret (aU (bc (RV.tmp rfl) ?_)))))
 have fF:(fp m (s,bd))=(((da s m).1,true),0):=tP (by first|exact xV (by omega)|exact xW (by omega) bV (by omega))
 rw[fF]
 exact⟨rfl,hN.sb [1,2]⟩
end Go.Proofs.YtngkdkbpgoddlaaGreat
namespace Go.Proofs.YtngkdkbpgoddlaaGreat
open Go.RowKit Go.Rl
open Go.Gr Go.dj Go.jR
theorem z8 (lv:Value) (l:List Int) (w:World) (hl:Sl vi w lv l) (hlen:l.length=3):aM acD 97 #[lv] w fun r w'=>r=.agg #[.int .i64 (py l).1,.int .i64 (py l).2.1,.int .i64 (py l).2.2]∧Ext w w':=by
 refine aM.aZ Tryz.func97 ?_
 rw[cH]
 have hN:=aH.nil w none_
 obtain⟨x0,qk⟩:∃a_,l[0]?=some a_:=⟨_,acM (by omega)⟩
 obtain⟨x1,pM⟩:∃a_,l[1]?=some a_:=⟨_,acM (by omega)⟩
 obtain⟨x2,HI⟩:∃a_,l[2]?=some a_:=⟨_,acM (by omega)⟩
 refine RW.aN ?_
 refine RL.aL (bz (cs:=[.int .i64 (0),.int .i64 (0),.int .i64 (0)]) fu rfl hN ?_)
 clear hN
 intro g1 w1 (hN:aH w none_ w1 [_])
 refine RL.ak (RW.seq ?_)
 replace hN:=hN.ext (Ext.drew w1)
 refine RW.bA (fun u=>aH w none_ u []) 11 [(0,0),(1,0),(2,0),(3,0),(4,0),(5,0),(6,0),(7,0),(8,0),(9,0),(10,1)] (by intro _ _ _ h;exact h) (hN.sb []) (RQ.an (v:=lv) rfl (fun w hS=>U) (RQ.an rfl (fun w hS=>(aC acz bI (hl.o.now hS))) (RQ.an rfl (fun w hS=>(aF (m:=0) (a:=x0) acy (hl.o.now hS) qk)) (RQ.an (v:=lv) rfl (fun w hS=>U) (RQ.an rfl (fun w hS=>(aC acz bI (hl.o.now hS))) (RQ.an rfl (fun w hS=>(aF (m:=1) (a:=x1) acy (hl.o.now hS) pM)) (RQ.an (v:=lv) rfl (fun w hS=>U) (RQ.an rfl (fun w hS=>(aC acz bI (hl.o.now hS))) (RQ.an rfl (fun w hS=>(aF (m:=2) (a:=x2) acy (hl.o.now hS) HI)) ?_)))))))))
 refine RQ.an rfl (fun w hS=>(bR (cs:=[.int .i64 (x0),.int .i64 (x1),.int .i64 (x2)]) acT fu (places:=#[(0,1),(1,1),(2,1)]) (by intro w;kernel_rfl) (pl:=[(0,.tmp 5),(1,.tmp 8),(2,.tmp 11)]) rfl (ps:=[(0,.int .i64 (x0)),(1,.int .i64 (x1)),(2,.int .i64 (x2))]) rfl (zc:=[.int .i64 (0),.int .i64 (0),.int .i64 (0)]) rfl (aP (vs:=[.int .i64 (x0)]) rfl rfl (acA rfl) (aP (vs:=[.int .i64 (x1)]) rfl rfl (acA rfl) (aP (vs:=[.int .i64 (x2)]) rfl rfl (acA rfl) rfl))))) ?_
 refine RQ.bW rfl (aS (vs:=[.int .i64 (x0),.int .i64 (x1),.int .i64 (x2)]) cY rfl rfl rfl (bh (bh (bh cZ))) hN 0 rfl rfl ?_)
 clear hN
 intro w5 (hN:aH w none_ w5 [_])
 refine⟨(hN.sb []),?_⟩
 refine RQ.bq (aA (RW.ret (bc (RV.cell rfl rfl (hN.aJ 0 rfl) acT rfl cY) ?_)))
 exact⟨by unfold py;rw[qk,pM,HI];rfl,hN.aX⟩
theorem vH (lv:Value) (l:List Int) (w:World) (hl:Sl vi w lv l) (hlen:l.length=5):aM acD 99 #[lv] w fun r w'=>r=.agg #[.int .i64 (l9 l).1,.int .i64 (l9 l).2.1,.int .i64 (l9 l).2.2.1,.int .i64 (l9 l).2.2.2.1,.int .i64 (l9 l).2.2.2.2]∧Ext w w':=by
 refine aM.aZ Tryz.func99 ?_
 rw[cH]
 have hN:=aH.nil w none_
 obtain⟨x0,qk⟩:∃a_,l[0]?=some a_:=⟨_,acM (by omega)⟩
 obtain⟨x1,pM⟩:∃a_,l[1]?=some a_:=⟨_,acM (by omega)⟩
 obtain⟨x2,HI⟩:∃a_,l[2]?=some a_:=⟨_,acM (by omega)⟩
 obtain⟨x3,TE⟩:∃a_,l[3]?=some a_:=⟨_,acM (by omega)⟩
 obtain⟨x4,TD⟩:∃a_,l[4]?=some a_:=⟨_,acM (by omega)⟩
 refine RW.aN ?_
 refine RL.aL (bz (cs:=[.int .i64 (0),.int .i64 (0),.int .i64 (0),.int .i64 (0),.int .i64 (0)]) fW rfl hN ?_)
 clear hN
 intro g1 w1 (hN:aH w none_ w1 [_])
 refine RL.ak (RW.seq ?_)
 replace hN:=hN.ext (Ext.drew w1)
 refine RW.bA (fun u=>aH w none_ u []) 18 [(0,0),(1,0),(2,0),(3,0),(4,0),(5,0),(6,0),(7,0),(8,0),(9,0),(10,0),(11,0),(12,0),(13,0),(14,0),(15,0),(16,0),(17,1)] (by intro _ _ _ h;exact h) (hN.sb []) (RQ.an (v:=lv) rfl (fun w hS=>U) (RQ.an rfl (fun w hS=>(aC acz bI (hl.o.now hS))) (RQ.an rfl (fun w hS=>(aF (m:=0) (a:=x0) acy (hl.o.now hS) qk)) (RQ.an (v:=lv) rfl (fun w hS=>U) (RQ.an rfl (fun w hS=>(aC acz bI (hl.o.now hS))) (RQ.an rfl (fun w hS=>(aF (m:=1) (a:=x1) acy (hl.o.now hS) pM)) (RQ.an (v:=lv) rfl (fun w hS=>U) (RQ.an rfl (fun w hS=>(aC acz bI (hl.o.now hS))) (RQ.an rfl (fun w hS=>(aF (m:=2) (a:=x2) acy (hl.o.now hS) HI)) ?_)))))))))
 refine RQ.an (v:=lv) rfl (fun w hS=>U) (RQ.an rfl (fun w hS=>(aC acz bI (hl.o.now hS))) (RQ.an rfl (fun w hS=>(aF (m:=3) (a:=x3) acy (hl.o.now hS) TE)) (RQ.an (v:=lv) rfl (fun w hS=>U) (RQ.an rfl (fun w hS=>(aC acz bI (hl.o.now hS))) (RQ.an rfl (fun w hS=>(aF (m:=4) (a:=x4) acy (hl.o.now hS) TD)) (RQ.an rfl (fun w hS=>(bR (cs:=[.int .i64 (x2),.int .i64 (x3),.int .i64 (x4)]) acN eQ (places:=#[(0,1),(1,1),(2,1)]) (by intro w;kernel_rfl) (pl:=[(0,.tmp 11),(1,.tmp 14),(2,.tmp 17)]) rfl (ps:=[(0,.int .i64 (x2)),(1,.int .i64 (x3)),(2,.int .i64 (x4))]) rfl (zc:=[.int .i64 (0),.int .i64 (0),.int .i64 (0)]) rfl (aP (vs:=[.int .i64 (x2)]) rfl rfl (acA rfl) (aP (vs:=[.int .i64 (x3)]) rfl rfl (acA rfl) (aP (vs:=[.int .i64 (x4)]) rfl rfl (acA rfl) rfl))))) (RQ.an rfl (fun w hS=>(bR (cs:=[.int .i64 (x0),.int .i64 (x1),.int .i64 (x2),.int .i64 (x3),.int .i64 (x4)]) acG fW (places:=#[(0,1),(1,1),(2,3)]) (by intro w;kernel_rfl) (pl:=[(0,.tmp 5),(1,.tmp 8),(2,.tmp 18)]) rfl (ps:=[(0,.int .i64 (x0)),(1,.int .i64 (x1)),(2,.agg #[.int .i64 (x2),.int .i64 (x3),.int .i64 (x4)])]) rfl (zc:=[.int .i64 (0),.int .i64 (0),.int .i64 (0),.int .i64 (0),.int .i64 (0)]) rfl (aP (vs:=[.int .i64 (x0)]) rfl rfl (acA rfl) (aP (vs:=[.int .i64 (x1)]) rfl rfl (acA rfl) (aP (vs:=[.int .i64 (x2),.int .i64 (x3),.int .i64 (x4)]) rfl rfl (acA rfl) rfl))))) ?_)))))))
 refine RQ.bW rfl (aS (vs:=[.int .i64 (x0),.int .i64 (x1),.int .i64 (x2),.int .i64 (x3),.int .i64 (x4)]) eh rfl rfl rfl (bh (bh (bh (bh (bh cZ))))) hN 0 rfl rfl ?_)
 clear hN
 intro w7 (hN:aH w none_ w7 [_])
 refine⟨(hN.sb []),?_⟩
 refine RQ.bq (aA (RW.ret (bc (RV.cell rfl rfl (hN.aJ 0 rfl) acG rfl eh) ?_)))
 exact⟨by unfold l9;rw[qk,pM,HI,TE,TD];rfl,hN.aX⟩
theorem vK (lv:Value) (l:List Int) (w:World) (hl:Sl vi w lv l) (hlen:l.length=2):aM acD 102 #[lv] w fun r w'=>r=.agg #[.int .i64 (j0 l).1,.int .i64 (j0 l).2]∧Ext w w':=by
 refine aM.aZ ajX ?_
 rw[cH]
 have hN:=aH.nil w none_
 obtain⟨x0,qk⟩:∃a_,l[0]?=some a_:=⟨_,acM (by omega)⟩
 obtain⟨x1,pM⟩:∃a_,l[1]?=some a_:=⟨_,acM (by omega)⟩
 refine RW.aN ?_
 refine RL.aL (bz (cs:=[.int .i64 (0),.int .i64 (0)]) pc rfl hN ?_)
 clear hN
 intro g1 w1 (hN:aH w none_ w1 [_])
 refine RL.ak (RW.seq ?_)
 replace hN:=hN.ext (Ext.drew w1)
 refine RW.bA (fun u=>aH w none_ u []) 8 [(0,0),(1,0),(2,0),(3,0),(4,0),(5,0),(6,0),(7,1)] (by intro _ _ _ h;exact h) (hN.sb []) (RQ.an (v:=lv) rfl (fun w hS=>U) (RQ.an rfl (fun w hS=>(aC acz bI (hl.o.now hS))) (RQ.an rfl (fun w hS=>(aF (m:=0) (a:=x0) acy (hl.o.now hS) qk)) (RQ.an (v:=lv) rfl (fun w hS=>U) (RQ.an rfl (fun w hS=>(aC acz bI (hl.o.now hS))) (RQ.an rfl (fun w hS=>(aF (m:=1) (a:=x1) acy (hl.o.now hS) pM)) (RQ.an rfl (fun w hS=>(bR (cs:=[.int .i64 (x0),.int .i64 (x1)]) acY pc (places:=#[(0,1),(1,1)]) (by intro w;kernel_rfl) (pl:=[(0,.tmp 5),(1,.tmp 8)]) rfl (ps:=[(0,.int .i64 (x0)),(1,.int .i64 (x1))]) rfl (zc:=[.int .i64 (0),.int .i64 (0)]) rfl (aP (vs:=[.int .i64 (x0)]) rfl rfl (acA rfl) (aP (vs:=[.int .i64 (x1)]) rfl rfl (acA rfl) rfl)))) ?_)))))))
 refine RQ.bW rfl (aS (vs:=[.int .i64 (x0),.int .i64 (x1)]) dY rfl rfl rfl (bh (bh cZ)) hN 0 rfl rfl ?_)
 clear hN
 intro w4 (hN:aH w none_ w4 [_])
 refine⟨(hN.sb []),?_⟩
 refine RQ.bq (aA (RW.ret (bc (RV.cell rfl rfl (hN.aJ 0 rfl) acY rfl dY) ?_)))
 exact⟨by unfold j0;rw[qk,pM];rfl,hN.aX⟩
theorem nz (v:Value) (l:List UInt8) (w:World) (hv:Sl vb w v l) (hl:l.length≤1048576):aM acD 41 #[v] w fun r w'=>∃gr lo hi g,r=vP gr∧aH w none_ w' [.aJ gr [vP g,.int .i64 (l.length:Int),.bool false] 89,dF 142 lo hi g (l,0)]:=by
 refine aM.aZ ahH ?_
 rw[cH]
 have hN:=aH.nil w none_
 refine RW.aN (RL.ag (v:=.pointer none) ai (RL.bY (RL.ag (v:=v) U ?_)))
 refine RL.aL (bo agF rfl rfl rfl ((nY _ l _ (hv.o.now hN) (by omega)).mono ?_))
 rintro _ w1 ⟨g1,rfl,lS,bl⟩
 have DV:=xL hN lS bl
 clear lS bl
 generalize OD:(w).heap.size=W6 at DV
 generalize OS:(w1).heap.size=DN at DV
 clear hN
 have hN:aH w none_ w1 [_]:=DV
 clear DV
 refine RL.ag (v:=v) U ?_
 have iH:=(hv.o.now hN).bw
 refine RL.ag (aQ acW (hv.o.now hN)) (RL.ag (bR (cs:=[vP g1,.int .i64 ((l.length:Int)),.bool false]) adz Nf (places:=#[(0,1),(1,1),(2,1)]) (by intro w;kernel_rfl) (pl:=[(0,.tmp 4),(1,.tmp 6)]) rfl (ps:=[(0,vP g1),(1,.int .i64 ((l.length:Int)))]) rfl (zc:=[.pointer none,.int .i64 (0),.bool false]) rfl (aP (vs:=[vP g1]) rfl rfl (acA rfl) (aP (vs:=[.int .i64 ((l.length:Int))]) rfl rfl (acA rfl) rfl))) ?_)
 refine RL.aL (bJ (cs:=[vP g1,.int .i64 ((l.length:Int)),.bool false]) rfl rfl hN ?_)
 clear hN
 intro g3 w3 (hN:aH w none_ w3 [_,_])
 refine RL.ag (v:=vP g3) ai (RL.ak (RW.ret (bc (RV.tmp rfl) ?_)))
 exact⟨_,_,_,_,rfl,hN.sb [0,1]⟩
end Go.Proofs.YtngkdkbpgoddlaaGreat
namespace Go.Proofs.YtngkdkbpgoddlaaGreat
open Go.RowKit Go.Rl
open Go.Gr Go.dj Go.jR
theorem vZ (lo hi g gr:Nat) (m:Int) (bd:Bool) (s:St) (w:World) (hN:aH w (b6 [.aJ gr [vP g,.int .i64 (m),.bool (bd)] 89,dF 142 lo hi g s]) w [.aJ gr [vP g,.int .i64 (m),.bool (bd)] 89,dF 142 lo hi g s]) (kF:0≤m) (jv:m≤1048576) (kN:s.1.length≤1048576):aM acD 96 #[vP gr,.int .i64 3,.func (.func 97) #[] #[]] w fun r w'=>aH w (b6 [.aJ gr [vP g,.int .i64 (m),.bool (bd)] 89,dF 142 lo hi g s]) w' [.cd bC 3 100 r (cR py m 2 (s,bd)).2,.aJ gr [vP g,.int .i64 (m),.bool ((cR py m 2 (s,bd)).1.2)] 89,dF 142 lo hi g ((cR py m 2 (s,bd)).1.1)]:=by
 refine aM.aZ Tryz.func96 ?_
 rw[iu]
 refine RW.aN (RL.ag (v:=vN) ai (RL.bY (RL.ag (v:=vN) ai ?_)))
 replace hN:=hN.jX vi
 replace hN:=hN.dy vh 25
 replace hN:aH w _ w [.own vh 25 (vN) ([]),.eD vi ([]) ([]),.aJ gr [vP g,.int .i64 (m),.bool (bd)] 89,dF 142 lo hi g s]:=hN
 refine RL.ak ?_
 iterate 2 refine RW.seq ?_
 refine RW.region (RL.ag (v:=.int .i64 (3)) U (RL.ag (v:=.int .i64 (0)) U (RL.ak (RW.block ?_))))
 refine RW.loop (fun k R0 cv=>∃st:St,∃ls:List (List Int),∃vo:Value,∃hs:List Hd,∃i:Nat,R0 0=vP gr∧R0 2=.func (.func 97) #[] #[]∧R0 7=vo∧R0 13=.int .i64 (3)∧R0 14=vJ i∧aH w (b6 [.aJ gr [vP g,.int .i64 (m),.bool (bd)] 89,dF 142 lo hi g s]) cv [.own vh 25 (vo) (hs),.eD vi (hs) (ls),.aJ gr [vP g,.int .i64 (m),.bool (bd)] 89,dF 142 lo hi g st]∧(i+k=3)∧(j5 m i (s,bd)=((st,bd),ls))∧(st.1.length≤1048576)∧(hs.length=ls.length)∧(ls.length=i)∧(∀r∈ls,r.length≤1048576)) (3) ?_ ?_
 exact⟨s,[],vN,[],0,rfl,rfl,rfl,rfl,rfl,hN,by omega,rfl,kN,rfl,rfl,fun r hr=>by cases hr⟩
 clear hN
 rintro k R0 cv ⟨st,ls,vo,hs,i,cF,bQ,cC,fe,gO,hN,fP,fx,ud,Br,Sn,F3⟩
 have cz:=hC cF bQ cC fe gO
 obtain⟨fV,rfl⟩:=cz
 clear cF bQ cC fe gO
 refine RW.aN (RL.ag (aK) (RL.ak (RW.seq ?_)))
 refine RW.aG _ (fun cD=>?_) (fun cD=>?_)
 refine RW.skip (aA (RW.seq (RW.block (RW.region (RL.ag (v:=vo) U (RL.ag (v:=vP gr) U ?_))))))
 refine RL.aL (bo ae7 rfl rfl rfl ((iO lo hi g gr m (bd) st _ (hN.de (M:=[_,_]) [2,3] (by decide) rfl) (by omega) (by omega) (by(try have:=eO s m);omega)).mono ?_))
 rintro v1 w1 cE
 replace hN:aH w _ w1 [_,_,_,_,_]:=aH.dd (M:=[_,_]) (N:=[_,_]) (hN.sb [2,3,0,1]) cE
 clear cE
 have aO:=(hN.sl 0 rfl).hd
 obtain⟨h3,fF⟩:=aO
 subst fF
 refine RL.aL (cx (enc:=vh) (l:=[h3]) (xs:=[.tmp 18]) acQ cc zi rfl rfl (fun _=>rfl) rfl (by decide) (by decide) hN ?_)
 clear hN
 intro g2 w2 (hN:aH w _ w2 [_,_,_,_,_,_])
 replace hN:aH w _ w2 [_,_,_,_,_]:=aH.kW (L:=[_,_,_,_,_]) (hN.sb [1,0,2,3,4,5]) 4 rfl
 refine RL.aL (b9 acQ tY rfl kh hN 3 rfl rfl (hN.sl 0 rfl) rfl (by(try simp only[acB,ac9,adj,acS,acK,acH,adb,acB,ada]);omega) (by decide) ?_)
 clear hN
 intro v4 w4 (hN:aH w _ w4 [_,_,_,_,_])
 refine RL.ag (v:=v4) ai (RL.nil (ba (aA (RW.region (RL.ag (aD rfl rfl rfl (bg (by omega) (by omega))) (RL.ag (v:=.int .i64 ((i:Int)+1)) U (RL.ak ?_)))))))
 exact⟨k-1,by omega,(da st m).1,ls++[(da st m).2],v4,hs++[h3],i+1,rfl,rfl,rfl,rfl,rfl,(hN.sb [3,4,1,2]),by omega,by rw[qw,fx];rfl,acU (eO st m) ud,by simp[Br],by simp[Sn],fun r hr=>(adn.1 hr).elim (F3 r) (fun e=>by rw[adh]at e;subst e;exact acU (lL st m) ud)⟩
 refine RW.exit ?_
 iterate 2 refine bP ?_
 refine aY (aA (RW.seq ?_))
 obtain rfl:i=3:=by omega
 have AA:=tc m 3 (s,bd)
 rw[fx]at AA
 dsimp only at AA
 refine RW.region (RL.ag (v:=vN) ai (RL.ak ?_))
 iterate 2 refine RW.seq ?_
 refine RW.region (RL.ag (v:=vo) U (RL.ag (aC acQ cc (hN.sl 0 rfl)) ?_))
 have aO:=cQ (hs) 0
 obtain⟨az,lT⟩:=aO
 have aO:∃l_,(ls)[0]?=some l_:=⟨_,acM (by have:=(hN.fR 1 rfl).1;omega)⟩
 obtain⟨lz,ug⟩:=aO
 refine RL.ag (aF (m:=0) (a:=az) acz (hN.sl 0 rfl) lT) ?_
 have qP:=((hN.fR 1 rfl).2 _ _ _ lT ug).1.bw
 refine RL.ag (jq acz ((hN.fR 1 rfl).2 _ _ _ lT ug).1 rfl) (RL.ag (v:=.int .i64 (0)) U (RL.ak (RW.block ?_)))
 replace hN:=hN.ew bC 3 100
 refine RW.loop (fun k2 R1 ez=>∃vr:Value,∃acc:List I3,∃j:Nat,R1 0=vP gr∧R1 2=.func (.func 97) #[] #[]∧R1 7=vo∧R1 8=vr∧R1 25=.int .i64 ((lz.length:Int))∧R1 26=vJ j∧aH w (b6 [.aJ gr [vP g,.int .i64 (m),.bool (bd)] 89,dF 142 lo hi g s]) ez [.cd bC 3 100 (vr) (acc),.own vh 25 (vo) (hs),.eD vi (hs) (ls),.aJ gr [vP g,.int .i64 (m),.bool (bd)] 89,dF 142 lo hi g st]∧(j+k2=lz.length)∧(acc=(adC j).map fun q=>py (ls.map fun r=>(r[q]?).getD 0))∧(acc.length=j)∧(0<j→∀r∈ls,r.length=lz.length)) (lz.length) ?_ ?_
 exact⟨vN,[],0,rfl,rfl,rfl,rfl,rfl,rfl,hN,by omega,rfl,rfl,fun h=>absurd h (by omega)⟩
 clear hN
 rintro k2 R1 ez ⟨vr,acc,j,cF,bQ,cC,cM,fU,gN,hN,DM,mT,im,Fe⟩
 have cz:=oK cF bQ cC cM fU gN
 obtain⟨re,rfl⟩:=cz
 clear cF bQ cC cM fU gN
 refine RW.aN (RL.ag (aK) (RL.ak (RW.seq ?_)))
 refine RW.aG _ (fun ep=>?_) (fun ep=>?_)
 refine RW.skip (aA (RW.seq (RW.block (RW.seq ?_))))
 have Sf:=F3 lz (acC ug)
 refine RW.region (RL.ag (v:=vJ j) U (RL.ag (v:=vJ j) ai (RL.bY (RL.ag (v:=vN) ai (RL.ak ?_)))))
 iterate 2 refine RW.seq ?_
 refine RW.region (RL.ag (v:=vo) U ?_)
 have Fm:=(hN.sl 1 rfl).bw
 refine RL.ag (aQ acQ (hN.sl 1 rfl)) (RL.ag (v:=.int .i64 (0)) U (RL.ak (RW.block ?_)))
 replace hN:=hN.dy vi 3
 refine RW.loop (fun k3 R2 gR=>∃vn:Value,∃ee:List Int,∃p:Nat,R2 0=vP gr∧R2 2=.func (.func 97) #[] #[]∧R2 7=vo∧R2 8=vr∧R2 9=vJ j∧R2 10=vn∧R2 25=.int .i64 ((lz.length:Int))∧R2 26=vJ j∧R2 29=vo∧R2 30=.int .i64 ((hs.length:Int))∧R2 31=vJ p∧aH w (b6 [.aJ gr [vP g,.int .i64 (m),.bool (bd)] 89,dF 142 lo hi g s]) gR [.own vi 3 (vn) (ee),.cd bC 3 100 (vr) (acc),.own vh 25 (vo) (hs),.eD vi (hs) (ls),.aJ gr [vP g,.int .i64 (m),.bool (bd)] 89,dF 142 lo hi g st]∧(p+k3=3)∧(ee=(ls.take p).map fun r=>(r[j]?).getD 0)∧(ee.length=p)∧(∀r∈ls.take p,r.length=lz.length)) (3) ?_ ?_
 exact⟨vN,[],0,rfl,rfl,rfl,rfl,rfl,rfl,rfl,rfl,rfl,rfl,rfl,hN,by omega,rfl,rfl,fun r hr=>by cases hr⟩
 clear hN
 rintro k3 R2 gR ⟨vn,ee,p,cF,bQ,cC,cM,dN,db,fU,gN,rz,ry,ru,hN,XJ,rB,XQ,uC⟩
 have cz:=Gq cF bQ cC cM dN db fU gN rz ry ru
 obtain⟨M9,rfl⟩:=cz
 clear cF bQ cC cM dN db fU gN rz ry ru
 refine RW.aN (RL.ag (aK) (RL.ak (RW.seq ?_)))
 refine RW.aG _ (fun yn=>?_) (fun yn=>?_)
 refine RW.skip (aA (RW.seq (RW.block (RW.aN (RL.ag (aC acQ cc (hN.sl 2 rfl)) ?_)))))
 have aO:=cQ (hs) p
 obtain⟨ay,pY⟩:=aO
 have aO:∃l_,(ls)[p]?=some l_:=⟨_,acM (by have:=(hN.fR 3 rfl).1;omega)⟩
 obtain⟨ly,uh⟩:=aO
 refine RL.ag (aF (m:=p) (a:=ay) acz (hN.sl 2 rfl) pY) (RL.ag (v:=(vh ay)) ai (RL.ak ?_))
 iterate 2 refine RW.seq ?_
 refine RW.region (RL.ag (v:=(vh ay)) U ?_)
 have Jp:=((hN.fR 3 rfl).2 _ _ _ pY uh).1.bw
 refine RL.ag (jq acz ((hN.fR 3 rfl).2 _ _ _ pY uh).1 rfl) (RL.ag (v:=vo) U (RL.ag (aC acQ cc (hN.sl 2 rfl)) ?_))
 have aO:=cQ (hs) 0
 obtain⟨au,Jk⟩:=aO
 have aO:∃l_,(ls)[0]?=some l_:=⟨_,acM (by have:=(hN.fR 3 rfl).1;omega)⟩
 obtain⟨lu,DK⟩:=aO
 refine RL.ag (aF (m:=0) (a:=au) acz (hN.sl 2 rfl) Jk) ?_
 have Jq:=((hN.fR 3 rfl).2 _ _ _ Jk DK).1.bw
 refine RL.ag (jq acz ((hN.fR 3 rfl).2 _ _ _ Jk DK).1 rfl) (RL.ag (bj) (RL.ak ?_))
 refine RW.aG _ (fun dX=>?_) (fun dX=>?_)
 refine RW.aN (RL.ag (v:=vP gr) U (RL.ag (bM) (RL.ag (ah adz rfl oM) ?_)))
 refine RL.aL (b7 oM rfl rfl rfl rfl hN 4 rfl (acA rfl) ?_)
 clear hN
 intro kY (hN:aH w _ kY [_,_,_,_,_,_])
 refine RL.bY (RL.ag (v:=vN) ai (RL.ak (RW.ret (aU (bb ?_)))))
 iterate 2 refine aU ?_
 refine bb (aU (bb ?_))
 iterate 2 refine aU ?_
 refine bb (aU (bc (RV.tmp rfl) ?_))
 have Sg:lu.length=lz.length:=by rw[ac7 (DK.symm.trans ug)]
 have fF:(cR py m 2 (s,bd))=((st,true),[]):=qY fx ug (by omega) uh (by omega)
 rw[fF]
 replace hN:=hN.ew bC 3 100
 exact hN.sb [0,5,6]
 refine RW.skip (aA ?_)
 obtain rfl:lu=lz:=ac7 (DK.symm.trans ug)
 refine RW.region (RL.ag (v:=vn) U (RL.ag (v:=(vh ay)) U (RL.ag (v:=vJ j) U (RL.ag (jQ acz bI ((hN.fR 3 rfl).2 _ _ _ pY uh).1 rfl rfl (by omega) (by omega)) ?_))))
 have aO:=cQ (ly) j
 obtain⟨ac,ja⟩:=aO
 refine RL.ag (kA (m:=j) (a:=ac) acy rfl ((hN.fR 3 rfl).2 _ _ _ pY uh).1 rfl ja) ?_
 refine RL.aL (cx (enc:=vi) (l:=[ac]) (xs:=[.tmp 49]) acz bI mN rfl rfl (fun _=>rfl) rfl (by decide) (by decide) hN ?_)
 clear hN
 intro Wt kI (hN:aH w _ kI [_,_,_,_,_,_,_])
 refine RL.aL (b9 acz fI rfl (fun _=>rfl) hN 1 rfl rfl (hN.sl 0 rfl) rfl (by(try simp only[acB,acH,acK,acS]);omega) (by decide) ?_)
 clear hN
 intro wm lX (hN:aH w _ lX [_,_,_,_,_,_,_])
 refine RL.ag (v:=wm) ai (RL.nil (ba (aA (RW.region (RL.ag (aD rfl rfl rfl (bg (by omega) (by omega))) (RL.ag (v:=.int .i64 ((p:Int)+1)) U (RL.ak ?_)))))))
 exact⟨k3-1,by omega,wm,ee++[ac],p+1,rfl,rfl,rfl,rfl,rfl,rfl,rfl,rfl,rfl,rfl,rfl,(hN.sb [1,2,3,4,5,6]),by omega,by rw[dJ uh,ad7,rB];simp[ja],by(try simp only[acB,acH]);omega,fun r hr=>(dk uh hr).elim (uC r) (fun e=>e▸by omega)⟩
 refine RW.exit ?_
 iterate 2 refine bP ?_
 refine aY (aA (RW.region (RL.ag (v:=vr) U (RL.ag (v:=.func (.func 97) #[] #[]) U (RL.ag (v:=vn) U ?_)))))
 refine RL.aL (ct (first:=#[]) (captured:=#[]) (v0:=vn) (args:=#[vn]) Tryz.func97 rfl rfl (by simp) rfl rfl ((z8 _ ee _ (hN.sl 0 rfl) (by omega)).mono ?_))
 rintro _ oI ⟨rfl,bl⟩
 replace hN:=hN.ext bl
 clear bl
 refine RL.aL (dn (cf:=bC) (s:=3) (pl:=[(0,.tmp 56)]) (ps:=[(0,.agg #[.int .i64 ((py ee).1),.int .i64 ((py ee).2.1),.int .i64 ((py ee).2.2)])]) (zc:=[.int .i64 (0),.int .i64 (0),.int .i64 (0)]) (l:=[((py ee).1,(py ee).2.1,(py ee).2.2)]) acP tZ (by kernel_rfl) rfl rfl (aP (vs:=[.int .i64 ((py ee).1),.int .i64 ((py ee).2.1),.int .i64 ((py ee).2.2)]) rfl rfl (acA rfl) rfl) aW rfl (by decide) (by decide) (by decide) hN ?_)
 clear hN
 intro Ws ph (hN:aH w _ ph [_,_,_,_,_,_,_])
 refine RL.aL (cp acP tZ rfl (by decide) eH aW hN 2 rfl rfl (hN.sm 0 rfl) rfl (by(try simp only[acB,acH,acK,acS]);omega) (by decide) ?_)
 clear hN
 intro u4 qq (hN:aH w _ qq [_,_,_,_,_,_,_])
 refine RL.ag (v:=u4) ai (RL.nil (ba (aA (RW.region (RL.ag (aD rfl rfl rfl (bg (by omega) (by omega))) (RL.ag (v:=.int .i64 ((j:Int)+1)) U (RL.ak ?_)))))))
 exact⟨k2-1,by omega,u4,acc++[((py ee).1,(py ee).2.1,(py ee).2.2)],j+1,rfl,rfl,rfl,rfl,rfl,rfl,(hN.sb [2,3,4,5,6]),by omega,by rw[aeH,ad7,←mT];subst rB;rw[ac2 (by omega)];rfl,by(try simp only[acB,acH]);omega,fun _=>by rw[ac2 (by omega)]at uC;exact uC⟩
 refine RW.exit ?_
 iterate 2 refine bP ?_
 refine aY (aA (RW.aN (RL.ag (v:=vr) U (RL.ag (v:=vr) ai (RL.ak (RW.ret (bc (RV.tmp rfl) ?_)))))))
 have Lp:j=lz.length:=by omega
 subst Lp
 have fF:(cR py m 2 (s,bd))=((st,bd),acc):=by rw[o0 fx ug Fe,mT]
 rw[fF]
 exact hN.sb [0,3,4]
theorem sn (lo hi g gr:Nat) (m:Int) (bd:Bool) (s:St) (w:World) (hN:aH w (b6 [.aJ gr [vP g,.int .i64 (m),.bool (bd)] 89,dF 142 lo hi g s]) w [.aJ gr [vP g,.int .i64 (m),.bool (bd)] 89,dF 142 lo hi g s]) (kF:0≤m) (jv:m≤1048576) (kN:s.1.length≤1048576):aM acD 98 #[vP gr,.int .i64 5,.func (.func 99) #[] #[]] w fun r w'=>aH w (b6 [.aJ gr [vP g,.int .i64 (m),.bool (bd)] 89,dF 142 lo hi g s]) w' [.cd aV 5 98 r (cR l9 m 4 (s,bd)).2,.aJ gr [vP g,.int .i64 (m),.bool ((cR l9 m 4 (s,bd)).1.2)] 89,dF 142 lo hi g ((cR l9 m 4 (s,bd)).1.1)]:=by
 refine aM.aZ Tryz.func98 ?_
 rw[iu]
 refine RW.aN (RL.ag (v:=vN) ai (RL.bY (RL.ag (v:=vN) ai ?_)))
 replace hN:=hN.jX vi
 replace hN:=hN.dy vh 25
 replace hN:aH w _ w [.own vh 25 (vN) ([]),.eD vi ([]) ([]),.aJ gr [vP g,.int .i64 (m),.bool (bd)] 89,dF 142 lo hi g s]:=hN
 refine RL.ak ?_
 iterate 2 refine RW.seq ?_
 refine RW.region (RL.ag (v:=.int .i64 (5)) U (RL.ag (v:=.int .i64 (0)) U (RL.ak (RW.block ?_))))
 refine RW.loop (fun k R0 cv=>∃st:St,∃ls:List (List Int),∃vo:Value,∃hs:List Hd,∃i:Nat,R0 0=vP gr∧R0 2=.func (.func 99) #[] #[]∧R0 7=vo∧R0 13=.int .i64 (5)∧R0 14=vJ i∧aH w (b6 [.aJ gr [vP g,.int .i64 (m),.bool (bd)] 89,dF 142 lo hi g s]) cv [.own vh 25 (vo) (hs),.eD vi (hs) (ls),.aJ gr [vP g,.int .i64 (m),.bool (bd)] 89,dF 142 lo hi g st]∧(i+k=5)∧(j5 m i (s,bd)=((st,bd),ls))∧(st.1.length≤1048576)∧(hs.length=ls.length)∧(ls.length=i)∧(∀r∈ls,r.length≤1048576)) (5) ?_ ?_
 exact⟨s,[],vN,[],0,rfl,rfl,rfl,rfl,rfl,hN,by omega,rfl,kN,rfl,rfl,fun r hr=>by cases hr⟩
 clear hN
 rintro k R0 cv ⟨st,ls,vo,hs,i,cF,bQ,cC,fe,gO,hN,fP,fx,ud,Br,Sn,F3⟩
 have cz:=hC cF bQ cC fe gO
 obtain⟨fV,rfl⟩:=cz
 clear cF bQ cC fe gO
 refine RW.aN (RL.ag (aK) (RL.ak (RW.seq ?_)))
 refine RW.aG _ (fun cD=>?_) (fun cD=>?_)
 refine RW.skip (aA (RW.seq (RW.block (RW.region (RL.ag (v:=vo) U (RL.ag (v:=vP gr) U ?_))))))
 refine RL.aL (bo ae7 rfl rfl rfl ((iO lo hi g gr m (bd) st _ (hN.de (M:=[_,_]) [2,3] (by decide) rfl) (by omega) (by omega) (by(try have:=eO s m);omega)).mono ?_))
 rintro v1 w1 cE
 replace hN:aH w _ w1 [_,_,_,_,_]:=aH.dd (M:=[_,_]) (N:=[_,_]) (hN.sb [2,3,0,1]) cE
 clear cE
 have aO:=(hN.sl 0 rfl).hd
 obtain⟨h3,fF⟩:=aO
 subst fF
 refine RL.aL (cx (enc:=vh) (l:=[h3]) (xs:=[.tmp 18]) acQ cc zi rfl rfl (fun _=>rfl) rfl (by decide) (by decide) hN ?_)
 clear hN
 intro g2 w2 (hN:aH w _ w2 [_,_,_,_,_,_])
 replace hN:aH w _ w2 [_,_,_,_,_]:=aH.kW (L:=[_,_,_,_,_]) (hN.sb [1,0,2,3,4,5]) 4 rfl
 refine RL.aL (b9 acQ tY rfl kh hN 3 rfl rfl (hN.sl 0 rfl) rfl (by(try simp only[acB,ac9,adj,acS,acK,acH,adb,acB,ada]);omega) (by decide) ?_)
 clear hN
 intro v4 w4 (hN:aH w _ w4 [_,_,_,_,_])
 refine RL.ag (v:=v4) ai (RL.nil (ba (aA (RW.region (RL.ag (aD rfl rfl rfl (bg (by omega) (by omega))) (RL.ag (v:=.int .i64 ((i:Int)+1)) U (RL.ak ?_)))))))
 exact⟨k-1,by omega,(da st m).1,ls++[(da st m).2],v4,hs++[h3],i+1,rfl,rfl,rfl,rfl,rfl,(hN.sb [3,4,1,2]),by omega,by rw[qw,fx];rfl,acU (eO st m) ud,by simp[Br],by simp[Sn],fun r hr=>(adn.1 hr).elim (F3 r) (fun e=>by rw[adh]at e;subst e;exact acU (lL st m) ud)⟩
 refine RW.exit ?_
 iterate 2 refine bP ?_
 refine aY (aA (RW.seq ?_))
 obtain rfl:i=5:=by omega
 have AA:=tc m 5 (s,bd)
 rw[fx]at AA
 dsimp only at AA
 refine RW.region (RL.ag (v:=vN) ai (RL.ak ?_))
 iterate 2 refine RW.seq ?_
 refine RW.region (RL.ag (v:=vo) U (RL.ag (aC acQ cc (hN.sl 0 rfl)) ?_))
 have aO:=cQ (hs) 0
 obtain⟨az,lT⟩:=aO
 have aO:∃l_,(ls)[0]?=some l_:=⟨_,acM (by have:=(hN.fR 1 rfl).1;omega)⟩
 obtain⟨lz,ug⟩:=aO
 refine RL.ag (aF (m:=0) (a:=az) acz (hN.sl 0 rfl) lT) ?_
 have qP:=((hN.fR 1 rfl).2 _ _ _ lT ug).1.bw
 refine RL.ag (jq acz ((hN.fR 1 rfl).2 _ _ _ lT ug).1 rfl) (RL.ag (v:=.int .i64 (0)) U (RL.ak (RW.block ?_)))
 replace hN:=hN.ew aV 5 98
 refine RW.loop (fun k2 R1 ez=>∃vr:Value,∃acc:List I5,∃j:Nat,R1 0=vP gr∧R1 2=.func (.func 99) #[] #[]∧R1 7=vo∧R1 8=vr∧R1 25=.int .i64 ((lz.length:Int))∧R1 26=vJ j∧aH w (b6 [.aJ gr [vP g,.int .i64 (m),.bool (bd)] 89,dF 142 lo hi g s]) ez [.cd aV 5 98 (vr) (acc),.own vh 25 (vo) (hs),.eD vi (hs) (ls),.aJ gr [vP g,.int .i64 (m),.bool (bd)] 89,dF 142 lo hi g st]∧(j+k2=lz.length)∧(acc=(adC j).map fun q=>l9 (ls.map fun r=>(r[q]?).getD 0))∧(acc.length=j)∧(0<j→∀r∈ls,r.length=lz.length)) (lz.length) ?_ ?_
 exact⟨vN,[],0,rfl,rfl,rfl,rfl,rfl,rfl,hN,by omega,rfl,rfl,fun h=>absurd h (by omega)⟩
 clear hN
 rintro k2 R1 ez ⟨vr,acc,j,cF,bQ,cC,cM,fU,gN,hN,DM,mT,im,Fe⟩
 have cz:=oK cF bQ cC cM fU gN
 obtain⟨re,rfl⟩:=cz
 clear cF bQ cC cM fU gN
 refine RW.aN (RL.ag (aK) (RL.ak (RW.seq ?_)))
 refine RW.aG _ (fun ep=>?_) (fun ep=>?_)
 refine RW.skip (aA (RW.seq (RW.block (RW.seq ?_))))
 have Sf:=F3 lz (acC ug)
 refine RW.region (RL.ag (v:=vJ j) U (RL.ag (v:=vJ j) ai (RL.bY (RL.ag (v:=vN) ai (RL.ak ?_)))))
 iterate 2 refine RW.seq ?_
 refine RW.region (RL.ag (v:=vo) U ?_)
 have Fm:=(hN.sl 1 rfl).bw
 refine RL.ag (aQ acQ (hN.sl 1 rfl)) (RL.ag (v:=.int .i64 (0)) U (RL.ak (RW.block ?_)))
 replace hN:=hN.dy vi 3
 refine RW.loop (fun k3 R2 gR=>∃vn:Value,∃ee:List Int,∃p:Nat,R2 0=vP gr∧R2 2=.func (.func 99) #[] #[]∧R2 7=vo∧R2 8=vr∧R2 9=vJ j∧R2 10=vn∧R2 25=.int .i64 ((lz.length:Int))∧R2 26=vJ j∧R2 29=vo∧R2 30=.int .i64 ((hs.length:Int))∧R2 31=vJ p∧aH w (b6 [.aJ gr [vP g,.int .i64 (m),.bool (bd)] 89,dF 142 lo hi g s]) gR [.own vi 3 (vn) (ee),.cd aV 5 98 (vr) (acc),.own vh 25 (vo) (hs),.eD vi (hs) (ls),.aJ gr [vP g,.int .i64 (m),.bool (bd)] 89,dF 142 lo hi g st]∧(p+k3=5)∧(ee=(ls.take p).map fun r=>(r[j]?).getD 0)∧(ee.length=p)∧(∀r∈ls.take p,r.length=lz.length)) (5) ?_ ?_
 exact⟨vN,[],0,rfl,rfl,rfl,rfl,rfl,rfl,rfl,rfl,rfl,rfl,rfl,hN,by omega,rfl,rfl,fun r hr=>by cases hr⟩
 clear hN
 rintro k3 R2 gR ⟨vn,ee,p,cF,bQ,cC,cM,dN,db,fU,gN,rz,ry,ru,hN,XJ,rB,XQ,uC⟩
 have cz:=Gq cF bQ cC cM dN db fU gN rz ry ru
 obtain⟨M9,rfl⟩:=cz
 clear cF bQ cC cM dN db fU gN rz ry ru
 refine RW.aN (RL.ag (aK) (RL.ak (RW.seq ?_)))
 refine RW.aG _ (fun yn=>?_) (fun yn=>?_)
 refine RW.skip (aA (RW.seq (RW.block (RW.aN (RL.ag (aC acQ cc (hN.sl 2 rfl)) ?_)))))
 have aO:=cQ (hs) p
 obtain⟨ay,pY⟩:=aO
 have aO:∃l_,(ls)[p]?=some l_:=⟨_,acM (by have:=(hN.fR 3 rfl).1;omega)⟩
 obtain⟨ly,uh⟩:=aO
 refine RL.ag (aF (m:=p) (a:=ay) acz (hN.sl 2 rfl) pY) (RL.ag (v:=(vh ay)) ai (RL.ak ?_))
 iterate 2 refine RW.seq ?_
 refine RW.region (RL.ag (v:=(vh ay)) U ?_)
 have Jp:=((hN.fR 3 rfl).2 _ _ _ pY uh).1.bw
 refine RL.ag (jq acz ((hN.fR 3 rfl).2 _ _ _ pY uh).1 rfl) (RL.ag (v:=vo) U (RL.ag (aC acQ cc (hN.sl 2 rfl)) ?_))
 have aO:=cQ (hs) 0
 obtain⟨au,Jk⟩:=aO
 have aO:∃l_,(ls)[0]?=some l_:=⟨_,acM (by have:=(hN.fR 3 rfl).1;omega)⟩
 obtain⟨lu,DK⟩:=aO
 refine RL.ag (aF (m:=0) (a:=au) acz (hN.sl 2 rfl) Jk) ?_
 have Jq:=((hN.fR 3 rfl).2 _ _ _ Jk DK).1.bw
 refine RL.ag (jq acz ((hN.fR 3 rfl).2 _ _ _ Jk DK).1 rfl) (RL.ag (bj) (RL.ak ?_))
 refine RW.aG _ (fun dX=>?_) (fun dX=>?_)
 refine RW.aN (RL.ag (v:=vP gr) U (RL.ag (bM) (RL.ag (ah adz rfl oM) ?_)))
 refine RL.aL (b7 oM rfl rfl rfl rfl hN 4 rfl (acA rfl) ?_)
 clear hN
 intro kY (hN:aH w _ kY [_,_,_,_,_,_])
 refine RL.bY (RL.ag (v:=vN) ai (RL.ak (RW.ret (aU (bb ?_)))))
 iterate 2 refine aU ?_
 refine bb (aU (bb ?_))
 iterate 2 refine aU ?_
 refine bb (aU (bc (RV.tmp rfl) ?_))
 have Sg:lu.length=lz.length:=by rw[ac7 (DK.symm.trans ug)]
 have fF:(cR l9 m 4 (s,bd))=((st,true),[]):=qY fx ug (by omega) uh (by omega)
 rw[fF]
 replace hN:=hN.ew aV 5 98
 exact hN.sb [0,5,6]
 refine RW.skip (aA ?_)
 obtain rfl:lu=lz:=ac7 (DK.symm.trans ug)
 refine RW.region (RL.ag (v:=vn) U (RL.ag (v:=(vh ay)) U (RL.ag (v:=vJ j) U (RL.ag (jQ acz bI ((hN.fR 3 rfl).2 _ _ _ pY uh).1 rfl rfl (by omega) (by omega)) ?_))))
 have aO:=cQ (ly) j
 obtain⟨ac,ja⟩:=aO
 refine RL.ag (kA (m:=j) (a:=ac) acy rfl ((hN.fR 3 rfl).2 _ _ _ pY uh).1 rfl ja) ?_
 refine RL.aL (cx (enc:=vi) (l:=[ac]) (xs:=[.tmp 49]) acz bI mN rfl rfl (fun _=>rfl) rfl (by decide) (by decide) hN ?_)
 clear hN
 intro Wt kI (hN:aH w _ kI [_,_,_,_,_,_,_])
 refine RL.aL (b9 acz fI rfl (fun _=>rfl) hN 1 rfl rfl (hN.sl 0 rfl) rfl (by(try simp only[acB,acH,acK,acS]);omega) (by decide) ?_)
 clear hN
 intro wm lX (hN:aH w _ lX [_,_,_,_,_,_,_])
 refine RL.ag (v:=wm) ai (RL.nil (ba (aA (RW.region (RL.ag (aD rfl rfl rfl (bg (by omega) (by omega))) (RL.ag (v:=.int .i64 ((p:Int)+1)) U (RL.ak ?_)))))))
 exact⟨k3-1,by omega,wm,ee++[ac],p+1,rfl,rfl,rfl,rfl,rfl,rfl,rfl,rfl,rfl,rfl,rfl,(hN.sb [1,2,3,4,5,6]),by omega,by rw[dJ uh,ad7,rB];simp[ja],by(try simp only[acB,acH]);omega,fun r hr=>(dk uh hr).elim (uC r) (fun e=>e▸by omega)⟩
 refine RW.exit ?_
 iterate 2 refine bP ?_
 refine aY (aA (RW.region (RL.ag (v:=vr) U (RL.ag (v:=.func (.func 99) #[] #[]) U (RL.ag (v:=vn) U ?_)))))
 refine RL.aL (ct (first:=#[]) (captured:=#[]) (v0:=vn) (args:=#[vn]) Tryz.func99 rfl rfl (by simp) rfl rfl ((vH _ ee _ (hN.sl 0 rfl) (by omega)).mono ?_))
 rintro _ oI ⟨rfl,bl⟩
 replace hN:=hN.ext bl
 clear bl
 refine RL.aL (dn (cf:=aV) (s:=5) (pl:=[(0,.tmp 56)]) (ps:=[(0,.agg #[.int .i64 ((l9 ee).1),.int .i64 ((l9 ee).2.1),.int .i64 ((l9 ee).2.2.1),.int .i64 ((l9 ee).2.2.2.1),.int .i64 ((l9 ee).2.2.2.2)])]) (zc:=[.int .i64 (0),.int .i64 (0),.int .i64 (0),.int .i64 (0),.int .i64 (0)]) (l:=[((l9 ee).1,(l9 ee).2.1,(l9 ee).2.2.1,(l9 ee).2.2.2.1,(l9 ee).2.2.2.2)]) acL jz (by kernel_rfl) rfl rfl (aP (vs:=[.int .i64 ((l9 ee).1),.int .i64 ((l9 ee).2.1),.int .i64 ((l9 ee).2.2.1),.int .i64 ((l9 ee).2.2.2.1),.int .i64 ((l9 ee).2.2.2.2)]) rfl rfl (acA rfl) rfl) aI rfl (by decide) (by decide) (by decide) hN ?_)
 clear hN
 intro Ws ph (hN:aH w _ ph [_,_,_,_,_,_,_])
 refine RL.aL (cp acL jz rfl (by decide) dp aI hN 2 rfl rfl (hN.sm 0 rfl) rfl (by(try simp only[acB,acH,acK,acS]);omega) (by decide) ?_)
 clear hN
 intro u4 qq (hN:aH w _ qq [_,_,_,_,_,_,_])
 refine RL.ag (v:=u4) ai (RL.nil (ba (aA (RW.region (RL.ag (aD rfl rfl rfl (bg (by omega) (by omega))) (RL.ag (v:=.int .i64 ((j:Int)+1)) U (RL.ak ?_)))))))
 exact⟨k2-1,by omega,u4,acc++[((l9 ee).1,(l9 ee).2.1,(l9 ee).2.2.1,(l9 ee).2.2.2.1,(l9 ee).2.2.2.2)],j+1,rfl,rfl,rfl,rfl,rfl,rfl,(hN.sb [2,3,4,5,6]),by omega,by rw[aeH,ad7,←mT];subst rB;rw[ac2 (by omega)];rfl,by(try simp only[acB,acH]);omega,fun _=>by rw[ac2 (by omega)]at uC;exact uC⟩
 refine RW.exit ?_
 iterate 2 refine bP ?_
 refine aY (aA (RW.aN (RL.ag (v:=vr) U (RL.ag (v:=vr) ai (RL.ak (RW.ret (bc (RV.tmp rfl) ?_)))))))
 have Lp:j=lz.length:=by omega
 subst Lp
 have fF:(cR l9 m 4 (s,bd))=((st,bd),acc):=by rw[o0 fx ug Fe,mT]
 rw[fF]
 exact hN.sb [0,3,4]
theorem sr (lo hi g gr:Nat) (m:Int) (bd:Bool) (s:St) (w:World) (hN:aH w (b6 [.aJ gr [vP g,.int .i64 (m),.bool (bd)] 89,dF 142 lo hi g s]) w [.aJ gr [vP g,.int .i64 (m),.bool (bd)] 89,dF 142 lo hi g s]) (kF:0≤m) (jv:m≤1048576) (kN:s.1.length≤1048576):aM acD 101 #[vP gr,.int .i64 2,.func (.func 102) #[] #[]] w fun r w'=>aH w (b6 [.aJ gr [vP g,.int .i64 (m),.bool (bd)] 89,dF 142 lo hi g s]) w' [.cd bG 2 135 r (cR j0 m 1 (s,bd)).2,.aJ gr [vP g,.int .i64 (m),.bool ((cR j0 m 1 (s,bd)).1.2)] 89,dF 142 lo hi g ((cR j0 m 1 (s,bd)).1.1)]:=by
 refine aM.aZ ajY ?_
 rw[iu]
 refine RW.aN (RL.ag (v:=vN) ai (RL.bY (RL.ag (v:=vN) ai ?_)))
 replace hN:=hN.jX vi
 replace hN:=hN.dy vh 25
 replace hN:aH w _ w [.own vh 25 (vN) ([]),.eD vi ([]) ([]),.aJ gr [vP g,.int .i64 (m),.bool (bd)] 89,dF 142 lo hi g s]:=hN
 refine RL.ak ?_
 iterate 2 refine RW.seq ?_
 refine RW.region (RL.ag (v:=.int .i64 (2)) U (RL.ag (v:=.int .i64 (0)) U (RL.ak (RW.block ?_))))
 refine RW.loop (fun k R0 cv=>∃st:St,∃ls:List (List Int),∃vo:Value,∃hs:List Hd,∃i:Nat,R0 0=vP gr∧R0 2=.func (.func 102) #[] #[]∧R0 7=vo∧R0 13=.int .i64 (2)∧R0 14=vJ i∧aH w (b6 [.aJ gr [vP g,.int .i64 (m),.bool (bd)] 89,dF 142 lo hi g s]) cv [.own vh 25 (vo) (hs),.eD vi (hs) (ls),.aJ gr [vP g,.int .i64 (m),.bool (bd)] 89,dF 142 lo hi g st]∧(i+k=2)∧(j5 m i (s,bd)=((st,bd),ls))∧(st.1.length≤1048576)∧(hs.length=ls.length)∧(ls.length=i)∧(∀r∈ls,r.length≤1048576)) (2) ?_ ?_
 exact⟨s,[],vN,[],0,rfl,rfl,rfl,rfl,rfl,hN,by omega,rfl,kN,rfl,rfl,fun r hr=>by cases hr⟩
 clear hN
 rintro k R0 cv ⟨st,ls,vo,hs,i,cF,bQ,cC,fe,gO,hN,fP,fx,ud,Br,Sn,F3⟩
 have cz:=hC cF bQ cC fe gO
 obtain⟨fV,rfl⟩:=cz
 clear cF bQ cC fe gO
 refine RW.aN (RL.ag (aK) (RL.ak (RW.seq ?_)))
 refine RW.aG _ (fun cD=>?_) (fun cD=>?_)
 refine RW.skip (aA (RW.seq (RW.block (RW.region (RL.ag (v:=vo) U (RL.ag (v:=vP gr) U ?_))))))
 refine RL.aL (bo ae7 rfl rfl rfl ((iO lo hi g gr m (bd) st _ (hN.de (M:=[_,_]) [2,3] (by decide) rfl) (by omega) (by omega) (by(try have:=eO s m);omega)).mono ?_))
 rintro v1 w1 cE
 replace hN:aH w _ w1 [_,_,_,_,_]:=aH.dd (M:=[_,_]) (N:=[_,_]) (hN.sb [2,3,0,1]) cE
 clear cE
 have aO:=(hN.sl 0 rfl).hd
 obtain⟨h3,fF⟩:=aO
 subst fF
 refine RL.aL (cx (enc:=vh) (l:=[h3]) (xs:=[.tmp 18]) acQ cc zi rfl rfl (fun _=>rfl) rfl (by decide) (by decide) hN ?_)
 clear hN
 intro g2 w2 (hN:aH w _ w2 [_,_,_,_,_,_])
 replace hN:aH w _ w2 [_,_,_,_,_]:=aH.kW (L:=[_,_,_,_,_]) (hN.sb [1,0,2,3,4,5]) 4 rfl
 refine RL.aL (b9 acQ tY rfl kh hN 3 rfl rfl (hN.sl 0 rfl) rfl (by(try simp only[acB,ac9,adj,acS,acK,acH,adb,acB,ada]);omega) (by decide) ?_)
 clear hN
 intro v4 w4 (hN:aH w _ w4 [_,_,_,_,_])
 refine RL.ag (v:=v4) ai (RL.nil (ba (aA (RW.region (RL.ag (aD rfl rfl rfl (bg (by omega) (by omega))) (RL.ag (v:=.int .i64 ((i:Int)+1)) U (RL.ak ?_)))))))
 exact⟨k-1,by omega,(da st m).1,ls++[(da st m).2],v4,hs++[h3],i+1,rfl,rfl,rfl,rfl,rfl,(hN.sb [3,4,1,2]),by omega,by rw[qw,fx];rfl,acU (eO st m) ud,by simp[Br],by simp[Sn],fun r hr=>(adn.1 hr).elim (F3 r) (fun e=>by rw[adh]at e;subst e;exact acU (lL st m) ud)⟩
 refine RW.exit ?_
 iterate 2 refine bP ?_
 refine aY (aA (RW.seq ?_))
 obtain rfl:i=2:=by omega
 have AA:=tc m 2 (s,bd)
 rw[fx]at AA
 dsimp only at AA
 refine RW.region (RL.ag (v:=vN) ai (RL.ak ?_))
 iterate 2 refine RW.seq ?_
 refine RW.region (RL.ag (v:=vo) U (RL.ag (aC acQ cc (hN.sl 0 rfl)) ?_))
 have aO:=cQ (hs) 0
 obtain⟨az,lT⟩:=aO
 have aO:∃l_,(ls)[0]?=some l_:=⟨_,acM (by have:=(hN.fR 1 rfl).1;omega)⟩
 obtain⟨lz,ug⟩:=aO
 refine RL.ag (aF (m:=0) (a:=az) acz (hN.sl 0 rfl) lT) ?_
 have qP:=((hN.fR 1 rfl).2 _ _ _ lT ug).1.bw
 refine RL.ag (jq acz ((hN.fR 1 rfl).2 _ _ _ lT ug).1 rfl) (RL.ag (v:=.int .i64 (0)) U (RL.ak (RW.block ?_)))
 replace hN:=hN.ew bG 2 135
 refine RW.loop (fun k2 R1 ez=>∃vr:Value,∃acc:List I2,∃j:Nat,R1 0=vP gr∧R1 2=.func (.func 102) #[] #[]∧R1 7=vo∧R1 8=vr∧R1 25=.int .i64 ((lz.length:Int))∧R1 26=vJ j∧aH w (b6 [.aJ gr [vP g,.int .i64 (m),.bool (bd)] 89,dF 142 lo hi g s]) ez [.cd bG 2 135 (vr) (acc),.own vh 25 (vo) (hs),.eD vi (hs) (ls),.aJ gr [vP g,.int .i64 (m),.bool (bd)] 89,dF 142 lo hi g st]∧(j+k2=lz.length)∧(acc=(adC j).map fun q=>j0 (ls.map fun r=>(r[q]?).getD 0))∧(acc.length=j)∧(0<j→∀r∈ls,r.length=lz.length)) (lz.length) ?_ ?_
 exact⟨vN,[],0,rfl,rfl,rfl,rfl,rfl,rfl,hN,by omega,rfl,rfl,fun h=>absurd h (by omega)⟩
 clear hN
 rintro k2 R1 ez ⟨vr,acc,j,cF,bQ,cC,cM,fU,gN,hN,DM,mT,im,Fe⟩
 have cz:=oK cF bQ cC cM fU gN
 obtain⟨re,rfl⟩:=cz
 clear cF bQ cC cM fU gN
 refine RW.aN (RL.ag (aK) (RL.ak (RW.seq ?_)))
 refine RW.aG _ (fun ep=>?_) (fun ep=>?_)
 refine RW.skip (aA (RW.seq (RW.block (RW.seq ?_))))
 have Sf:=F3 lz (acC ug)
 refine RW.region (RL.ag (v:=vJ j) U (RL.ag (v:=vJ j) ai (RL.bY (RL.ag (v:=vN) ai (RL.ak ?_)))))
 iterate 2 refine RW.seq ?_
 refine RW.region (RL.ag (v:=vo) U ?_)
 have Fm:=(hN.sl 1 rfl).bw
 refine RL.ag (aQ acQ (hN.sl 1 rfl)) (RL.ag (v:=.int .i64 (0)) U (RL.ak (RW.block ?_)))
 replace hN:=hN.dy vi 3
 refine RW.loop (fun k3 R2 gR=>∃vn:Value,∃ee:List Int,∃p:Nat,R2 0=vP gr∧R2 2=.func (.func 102) #[] #[]∧R2 7=vo∧R2 8=vr∧R2 9=vJ j∧R2 10=vn∧R2 25=.int .i64 ((lz.length:Int))∧R2 26=vJ j∧R2 29=vo∧R2 30=.int .i64 ((hs.length:Int))∧R2 31=vJ p∧aH w (b6 [.aJ gr [vP g,.int .i64 (m),.bool (bd)] 89,dF 142 lo hi g s]) gR [.own vi 3 (vn) (ee),.cd bG 2 135 (vr) (acc),.own vh 25 (vo) (hs),.eD vi (hs) (ls),.aJ gr [vP g,.int .i64 (m),.bool (bd)] 89,dF 142 lo hi g st]∧(p+k3=2)∧(ee=(ls.take p).map fun r=>(r[j]?).getD 0)∧(ee.length=p)∧(∀r∈ls.take p,r.length=lz.length)) (2) ?_ ?_
 exact⟨vN,[],0,rfl,rfl,rfl,rfl,rfl,rfl,rfl,rfl,rfl,rfl,rfl,hN,by omega,rfl,rfl,fun r hr=>by cases hr⟩
 clear hN
 rintro k3 R2 gR ⟨vn,ee,p,cF,bQ,cC,cM,dN,db,fU,gN,rz,ry,ru,hN,XJ,rB,XQ,uC⟩
 have cz:=Gq cF bQ cC cM dN db fU gN rz ry ru
 obtain⟨M9,rfl⟩:=cz
 clear cF bQ cC cM dN db fU gN rz ry ru
 refine RW.aN (RL.ag (aK) (RL.ak (RW.seq ?_)))
 refine RW.aG _ (fun yn=>?_) (fun yn=>?_)
 refine RW.skip (aA (RW.seq (RW.block (RW.aN (RL.ag (aC acQ cc (hN.sl 2 rfl)) ?_)))))
 have aO:=cQ (hs) p
 obtain⟨ay,pY⟩:=aO
 have aO:∃l_,(ls)[p]?=some l_:=⟨_,acM (by have:=(hN.fR 3 rfl).1;omega)⟩
 obtain⟨ly,uh⟩:=aO
 refine RL.ag (aF (m:=p) (a:=ay) acz (hN.sl 2 rfl) pY) (RL.ag (v:=(vh ay)) ai (RL.ak ?_))
 iterate 2 refine RW.seq ?_
 refine RW.region (RL.ag (v:=(vh ay)) U ?_)
 have Jp:=((hN.fR 3 rfl).2 _ _ _ pY uh).1.bw
 refine RL.ag (jq acz ((hN.fR 3 rfl).2 _ _ _ pY uh).1 rfl) (RL.ag (v:=vo) U (RL.ag (aC acQ cc (hN.sl 2 rfl)) ?_))
 have aO:=cQ (hs) 0
 obtain⟨au,Jk⟩:=aO
 have aO:∃l_,(ls)[0]?=some l_:=⟨_,acM (by have:=(hN.fR 3 rfl).1;omega)⟩
 obtain⟨lu,DK⟩:=aO
 refine RL.ag (aF (m:=0) (a:=au) acz (hN.sl 2 rfl) Jk) ?_
 have Jq:=((hN.fR 3 rfl).2 _ _ _ Jk DK).1.bw
 refine RL.ag (jq acz ((hN.fR 3 rfl).2 _ _ _ Jk DK).1 rfl) (RL.ag (bj) (RL.ak ?_))
 refine RW.aG _ (fun dX=>?_) (fun dX=>?_)
 refine RW.aN (RL.ag (v:=vP gr) U (RL.ag (bM) (RL.ag (ah adz rfl oM) ?_)))
 refine RL.aL (b7 oM rfl rfl rfl rfl hN 4 rfl (acA rfl) ?_)
 clear hN
 intro kY (hN:aH w _ kY [_,_,_,_,_,_])
 refine RL.bY (RL.ag (v:=vN) ai (RL.ak (RW.ret (aU (bb ?_)))))
 iterate 2 refine aU ?_
 refine bb (aU (bb ?_))
 iterate 2 refine aU ?_
 refine bb (aU (bc (RV.tmp rfl) ?_))
 have Sg:lu.length=lz.length:=by rw[ac7 (DK.symm.trans ug)]
 have fF:(cR j0 m 1 (s,bd))=((st,true),[]):=qY fx ug (by omega) uh (by omega)
 rw[fF]
 replace hN:=hN.ew bG 2 135
 exact hN.sb [0,5,6]
 refine RW.skip (aA ?_)
 obtain rfl:lu=lz:=ac7 (DK.symm.trans ug)
 refine RW.region (RL.ag (v:=vn) U (RL.ag (v:=(vh ay)) U (RL.ag (v:=vJ j) U (RL.ag (jQ acz bI ((hN.fR 3 rfl).2 _ _ _ pY uh).1 rfl rfl (by omega) (by omega)) ?_))))
 have aO:=cQ (ly) j
 obtain⟨ac,ja⟩:=aO
 refine RL.ag (kA (m:=j) (a:=ac) acy rfl ((hN.fR 3 rfl).2 _ _ _ pY uh).1 rfl ja) ?_
 refine RL.aL (cx (enc:=vi) (l:=[ac]) (xs:=[.tmp 49]) acz bI mN rfl rfl (fun _=>rfl) rfl (by decide) (by decide) hN ?_)
 clear hN
 intro Wt kI (hN:aH w _ kI [_,_,_,_,_,_,_])
 refine RL.aL (b9 acz fI rfl (fun _=>rfl) hN 1 rfl rfl (hN.sl 0 rfl) rfl (by(try simp only[acB,acH,acK,acS]);omega) (by decide) ?_)
 clear hN
 intro wm lX (hN:aH w _ lX [_,_,_,_,_,_,_])
 refine RL.ag (v:=wm) ai (RL.nil (ba (aA (RW.region (RL.ag (aD rfl rfl rfl (bg (by omega) (by omega))) (RL.ag (v:=.int .i64 ((p:Int)+1)) U (RL.ak ?_)))))))
 exact⟨k3-1,by omega,wm,ee++[ac],p+1,rfl,rfl,rfl,rfl,rfl,rfl,rfl,rfl,rfl,rfl,rfl,(hN.sb [1,2,3,4,5,6]),by omega,by rw[dJ uh,ad7,rB];simp[ja],by(try simp only[acB,acH]);omega,fun r hr=>(dk uh hr).elim (uC r) (fun e=>e▸by omega)⟩
 refine RW.exit ?_
 iterate 2 refine bP ?_
 refine aY (aA (RW.region (RL.ag (v:=vr) U (RL.ag (v:=.func (.func 102) #[] #[]) U (RL.ag (v:=vn) U ?_)))))
 refine RL.aL (ct (first:=#[]) (captured:=#[]) (v0:=vn) (args:=#[vn]) ajX rfl rfl (by simp) rfl rfl ((vK _ ee _ (hN.sl 0 rfl) (by omega)).mono ?_))
 rintro _ oI ⟨rfl,bl⟩
 replace hN:=hN.ext bl
 clear bl
 refine RL.aL (dn (cf:=bG) (s:=2) (pl:=[(0,.tmp 56)]) (ps:=[(0,.agg #[.int .i64 ((j0 ee).1),.int .i64 ((j0 ee).2)])]) (zc:=[.int .i64 (0),.int .i64 (0)]) (l:=[((j0 ee).1,(j0 ee).2)]) ac1 qF (by kernel_rfl) rfl rfl (aP (vs:=[.int .i64 ((j0 ee).1),.int .i64 ((j0 ee).2)]) rfl rfl (acA rfl) rfl) bp rfl (by decide) (by decide) (by decide) hN ?_)
 clear hN
 intro Ws ph (hN:aH w _ ph [_,_,_,_,_,_,_])
 refine RL.aL (cp ac1 qF rfl (by decide) nC bp hN 2 rfl rfl (hN.sm 0 rfl) rfl (by(try simp only[acB,acH,acK,acS]);omega) (by decide) ?_)
 clear hN
 intro u4 qq (hN:aH w _ qq [_,_,_,_,_,_,_])
 refine RL.ag (v:=u4) ai (RL.nil (ba (aA (RW.region (RL.ag (aD rfl rfl rfl (bg (by omega) (by omega))) (RL.ag (v:=.int .i64 ((j:Int)+1)) U (RL.ak ?_)))))))
 exact⟨k2-1,by omega,u4,acc++[((j0 ee).1,(j0 ee).2)],j+1,rfl,rfl,rfl,rfl,rfl,rfl,(hN.sb [2,3,4,5,6]),by omega,by rw[aeH,ad7,←mT];subst rB;rw[ac2 (by omega)];rfl,by(try simp only[acB,acH]);omega,fun _=>by rw[ac2 (by omega)]at uC;exact uC⟩
 refine RW.exit ?_
 iterate 2 refine bP ?_
 refine aY (aA (RW.aN (RL.ag (v:=vr) U (RL.ag (v:=vr) ai (RL.ak (RW.ret (bc (RV.tmp rfl) ?_)))))))
 have Lp:j=lz.length:=by omega
 subst Lp
 have fF:(cR j0 m 1 (s,bd))=((st,bd),acc):=by rw[o0 fx ug Fe,mT]
 rw[fF]
 exact hN.sb [0,3,4]
end Go.Proofs.YtngkdkbpgoddlaaGreat
namespace Go.Proofs.YtngkdkbpgoddlaaGreat
open Go.RowKit Go.Rl
open Go.Gr Go.dj Go.jR
theorem DD (lo hi g gr:Nat) (m:Int) (bd:Bool) (s:St) (w:World) (hN:aH w (b6 [.aJ gr [vP g,.int .i64 (m),.bool (bd)] 89,dF 142 lo hi g s]) w [.aJ gr [vP g,.int .i64 (m),.bool (bd)] 89,dF 142 lo hi g s]) (kF:0≤m) (jv:m≤1048576) (kN:s.1.length≤1048576) {s1:St} {b1:Bool} {n1:Nat} (e:fp m (s,bd)=((s1,b1),n1)):aM acD 158 #[vP gr] w fun r w'=>r=.int .i64 (n1:Int)∧aH w (b6 [.aJ gr [vP g,.int .i64 (m),.bool (bd)] 89,dF 142 lo hi g s]) w' [.aJ gr [vP g,.int .i64 (m),.bool (b1)] 89,dF 142 lo hi g s1]:=
  (zK lo hi g gr m bd s w hN kF jv kN).mono fun _ _ h=>by rw[e]at h;exact h
theorem C7 (lo hi g gr:Nat) (m:Int) (bd:Bool) (s:St) (w:World) (hN:aH w (b6 [.aJ gr [vP g,.int .i64 (m),.bool (bd)] 89,dF 142 lo hi g s]) w [.aJ gr [vP g,.int .i64 (m),.bool (bd)] 89,dF 142 lo hi g s]) (kF:0≤m) (jv:m≤1048576) (kN:s.1.length≤1048576) {s1:St} {b1:Bool} {l1:List I3} (e:cR py m 2 (s,bd)=((s1,b1),l1)):aM acD 96 #[vP gr,.int .i64 3,.func (.func 97) #[] #[]] w fun r w'=>aH w (b6 [.aJ gr [vP g,.int .i64 (m),.bool (bd)] 89,dF 142 lo hi g s]) w' [.cd bC 3 100 r l1,.aJ gr [vP g,.int .i64 (m),.bool (b1)] 89,dF 142 lo hi g s1]:=
  (vZ lo hi g gr m bd s w hN kF jv kN).mono fun _ _ h=>by rw[e]at h;exact h
theorem yI (lo hi g gr:Nat) (m:Int) (bd:Bool) (s:St) (w:World) (hN:aH w (b6 [.aJ gr [vP g,.int .i64 (m),.bool (bd)] 89,dF 142 lo hi g s]) w [.aJ gr [vP g,.int .i64 (m),.bool (bd)] 89,dF 142 lo hi g s]) (kF:0≤m) (jv:m≤1048576) (kN:s.1.length≤1048576) {s1:St} {b1:Bool} {l1:List I5} (e:cR l9 m 4 (s,bd)=((s1,b1),l1)):aM acD 98 #[vP gr,.int .i64 5,.func (.func 99) #[] #[]] w fun r w'=>aH w (b6 [.aJ gr [vP g,.int .i64 (m),.bool (bd)] 89,dF 142 lo hi g s]) w' [.cd aV 5 98 r l1,.aJ gr [vP g,.int .i64 (m),.bool (b1)] 89,dF 142 lo hi g s1]:=
  (sn lo hi g gr m bd s w hN kF jv kN).mono fun _ _ h=>by rw[e]at h;exact h
theorem yJ (lo hi g gr:Nat) (m:Int) (bd:Bool) (s:St) (w:World) (hN:aH w (b6 [.aJ gr [vP g,.int .i64 (m),.bool (bd)] 89,dF 142 lo hi g s]) w [.aJ gr [vP g,.int .i64 (m),.bool (bd)] 89,dF 142 lo hi g s]) (kF:0≤m) (jv:m≤1048576) (kN:s.1.length≤1048576) {s1:St} {b1:Bool} {l1:List I2} (e:cR j0 m 1 (s,bd)=((s1,b1),l1)):aM acD 101 #[vP gr,.int .i64 2,.func (.func 102) #[] #[]] w fun r w'=>aH w (b6 [.aJ gr [vP g,.int .i64 (m),.bool (bd)] 89,dF 142 lo hi g s]) w' [.cd bG 2 135 r l1,.aJ gr [vP g,.int .i64 (m),.bool (b1)] 89,dF 142 lo hi g s1]:=
  (sr lo hi g gr m bd s w hN kF jv kN).mono fun _ _ h=>by rw[e]at h;exact h
theorem EA (lo hi g gr gb:Nat) (m:Int) (bd:Bool) (s:St) (w:World) (hN:aH w (b6 [.aJ gb [vP gr] 82,.aJ gr [vP g,.int .i64 (m),.bool (bd)] 89,dF 142 lo hi g s]) w [.aJ gb [vP gr] 82,.aJ gr [vP g,.int .i64 (m),.bool (bd)] 89,dF 142 lo hi g s]) (kF:0≤m) (jv:m≤1048576) (kN:s.1.length≤1048576) {s1:St} {b1:Bool} {l1:List I2} (e:cR j0 m 1 (s,bd)=((s1,b1),l1)):aM acD 100 #[vP gb] w fun r w'=>aH w (b6 [.aJ gb [vP gr] 82,.aJ gr [vP g,.int .i64 (m),.bool (bd)] 89,dF 142 lo hi g s]) w' [.cd bG 2 135 r l1,.aJ gb [vP gr] 82,.aJ gr [vP g,.int .i64 (m),.bool (b1)] 89,dF 142 lo hi g s1]:=by
 refine aM.aZ ajZ ?_
 rw[cH]
 refine RW.aN (RL.ag (v:=vN) ai (RL.bY (RL.ag (aj ael (hN.aJ 0 rfl)) ?_)))
 have qN:∃s1 b1 l1,cR j0 m 1 (s,(bd))=((s1,b1),l1):=⟨_,_,_,rfl⟩
 obtain⟨P8,zg,l11,Bt⟩:=qN
 have Jo:=(gA Bt).1
 have We:=(gA Bt).2
 dsimp only at Jo We
 refine RL.aL (cn ajY rfl rfl rfl rfl rfl ((yJ lo hi g gr m (bd) s _ (hN.de (M:=[_,_]) [1,2] (by decide) rfl) (by omega) (by omega) (by omega) Bt).mono ?_))
 rintro v1 w1 cE
 replace hN:aH w _ w1 [_,_,_,_]:=aH.dd (M:=[_,_]) (N:=[_]) (hN.sb [1,2,0]) cE
 clear cE
 refine RL.ag (v:=v1) ai (RL.ak (RW.ret (bc (RV.tmp rfl) ?_)))
 have fF:=Bt.symm.trans e
 injection fF with Qu TT
 injection Qu with Qu Qt
 subst Qu TT Qt
 exact hN.sb [0,3,1,2]
theorem zG (lo hi g gr gb:Nat) (m:Int) (bd:Bool) (s:St) (w:World) (hN:aH w (b6 [.aJ gr [vP g,.int .i64 (m),.bool (bd)] 89,dF 142 lo hi g s]) w [.aJ gr [vP g,.int .i64 (m),.bool (bd)] 89,dF 142 lo hi g s]) (kF:0≤m) (jv:m≤1048576) (kN:s.1.length≤1048576):aM acD 103 #[vP gr,.func (.func 95) #[vP gr] #[]] w fun r w'=>∃hs,aH w (b6 [.aJ gr [vP g,.int .i64 (m),.bool (bd)] 89,dF 142 lo hi g s]) w' [.own vh 25 r hs,.eD vi hs (dT m (ec m) (s,bd)).2,.aJ gr [vP g,.int .i64 (m),.bool ((dT m (ec m) (s,bd)).1.2)] 89,dF 142 lo hi g ((dT m (ec m) (s,bd)).1.1)]:=by
 refine aM.aZ ahd ?_
 rw[cS]
 refine RW.aN (RL.ag (v:=vN) ai (RL.bY (RL.ag (v:=vN) ai ?_)))
 replace hN:=hN.jX vi
 replace hN:=hN.dy vh 25
 replace hN:aH w _ w [.own vh 25 (vN) ([]),.eD vi ([]) ([]),.aJ gr [vP g,.int .i64 (m),.bool (bd)] 89,dF 142 lo hi g s]:=hN
 refine RL.bY (RL.ag (v:=vP gr) U ?_)
 have qN:∃s1 b1 n1,fp m (s,(bd))=((s1,b1),n1):=⟨_,_,_,rfl⟩
 obtain⟨P8,zg,Hi,Bt⟩:=qN
 have Wc:=tQ (by omega) Bt
 have Jo:=qC Bt
 dsimp only at Jo
 refine RL.aL (bo ail rfl rfl rfl ((DD lo hi g gr m (bd) s _ (hN.de (M:=[_,_]) [2,3] (by decide) rfl) (by omega) (by omega) (by omega) Bt).mono ?_))
 rintro _ w1 ⟨rfl,cE⟩
 replace hN:aH w _ w1 [_,_,_,_]:=aH.dd (M:=[_,_]) (N:=[_,_]) (hN.sb [2,3,0,1]) cE
 clear cE
 refine RL.ag (v:=vJ Hi) ai (RL.ak (RW.seq (RW.block ?_)))
 refine RW.loop (fun k R0 cv=>∃j:Nat,∃st:St,∃b:Bool,∃ls:List (List Int),∃vo:Value,∃hs:List Hd,R0 0=vP gr∧R0 1=.func (.func 95) #[vP gr] #[]∧R0 5=vo∧R0 6=vJ j∧aH w (b6 [.aJ gr [vP g,.int .i64 (m),.bool (bd)] 89,dF 142 lo hi g s]) cv [.aJ gr [vP g,.int .i64 (m),.bool (b)] 89,dF 142 lo hi g st,.own vh 25 (vo) (hs),.eD vi (hs) (ls)]∧(j=k)∧(oX (ec m) Hi (P8,zg)=((oX (ec m) j (st,b)).1,ls++(oX (ec m) j (st,b)).2))∧(st.1.length≤1048576)∧(hs.length+j=Hi)) (Hi) ?_ ?_
 exact⟨Hi,P8,zg,[],vN,[],rfl,rfl,rfl,rfl,hN,rfl,rfl,by omega,aeY _⟩
 clear hN
 rintro k R0 cv ⟨j,st,b,ls,vo,hs,cF,bN,cy,cV,hN,DM,Lq,ud,hhj⟩
 have cz:=iV cF bN cy cV
 obtain⟨fV,rfl⟩:=cz
 clear cF bN cy cV
 iterate 2 refine RW.seq ?_
 refine RW.region (RL.ag (v:=vJ j) U (RL.ag (cq) (RL.ag (v:=.bool (decide (0<(j:Int)))) U ?_)))
 by_cases OJ:0<(j:Int)
 rw[decide_eq_true OJ]
 refine RL.aw (v:=vP gr) U (RL.aw (bM) (RL.aw (ah adz rfl El) (RL.aw (aj aec (hN.aJ 0 rfl)) ?_)))
 refine RL.er (bo afp rfl rfl rfl ((ga _ _ _ st _ (dF.says hN 1 rfl)).mono ?_))
 rintro _ _ ⟨rfl,rfl⟩
 refine RL.aw (ca) (RL.ag (v:=.bool (decide (st.2=0))) (al) (RL.ak ?_))
 refine RW.aG _ (fun xc=>?_) (fun xc=>?_)
 refine RW.skip (aA (RW.seq (RW.block (RW.region (RL.ag (v:=vo) U (RL.ag (v:=.func (.func 95) #[vP gr] #[]) U ?_))))))
 refine RL.aL (wO (_u:=.tmp 0) (_w:=undef) (first:=#[vP gr]) (captured:=#[]) (args:=#[vP gr]) ae7 rfl rfl (by simp) rfl ((iO lo hi g gr m (b) st _ (hN.de (M:=[_,_]) [0,1] (by decide) rfl) (by omega) (by omega) (by omega)).mono ?_))
 rintro v3 w3 cE
 replace hN:aH w _ w3 [_,_,_,_,_]:=aH.dd (M:=[_,_]) (N:=[_,_]) (hN.sb [0,1,2,3]) cE
 clear cE
 have aO:=(hN.sl 0 rfl).hd
 obtain⟨h5,fF⟩:=aO
 subst fF
 refine RL.aL (cx (enc:=vh) (l:=[h5]) (xs:=[.tmp 23]) acQ cc zi rfl rfl (fun _=>rfl) rfl (by decide) (by decide) hN ?_)
 clear hN
 intro g4 w4 (hN:aH w _ w4 [_,_,_,_,_,_])
 replace hN:aH w _ w4 [_,_,_,_,_]:=aH.kW (L:=[_,_,_,_,_]) (hN.sb [1,0,2,3,4,5]) 4 rfl
 refine RL.aL (b9 acQ tY rfl kh hN 3 rfl rfl (hN.sl 0 rfl) rfl (by(try simp only[acB,ac9,adj,acS,acK,acH,adb,acB,ada]);omega) (by decide) ?_)
 clear hN
 intro v6 w6 (hN:aH w _ w6 [_,_,_,_,_])
 refine RL.ag (v:=v6) ai (RL.nil (ba (aA (RW.region (RL.ag (v:=vJ j) U (RL.ag (aD rfl rfl rfl (show arith .sub .i64 (j:Int) 1=((j-1:Nat):Int)from(pn (by omega) (by omega)).trans (by omega))) (RL.ag (v:=.int .i64 (((j-1:Nat):Int))) ai (RL.ak ?_))))))))
 exact⟨k-1,by omega,j-1,(da st m).1,(b),ls++[(da st m).2],v6,hs++[h5],rfl,rfl,rfl,rfl,(hN.sb [1,2,3,4]),by omega,Jy Lq (by omega) xc rfl,acU (eO st m) ud,by simp only[acB,acH];omega⟩
 refine RW.exit ?_
 iterate 2 refine bP ?_
 refine aY (aA (RW.aN (RL.ag (v:=vo) U (RL.ag (v:=vo) ai (RL.ak (RW.ret (bc (RV.tmp rfl) ?_)))))))
 have fF:=pt Bt (sI Lq (.inr xc))
 rw[fF]
 exact⟨_,hN.sb [2,3,0,1]⟩
 rw[decide_eq_false OJ]
 iterate 6 refine RL.bH ?_
 refine RL.ag (v:=.bool false) (aB) (RL.ak (RW.cj (RW.exit ?_)))
 iterate 2 refine bP ?_
 refine aY (aA (RW.aN (RL.ag (v:=vo) U (RL.ag (v:=vo) ai (RL.ak (RW.ret (bc (RV.tmp rfl) ?_)))))))
 have fF:=pt Bt (sI Lq (.inl (by omega)))
 rw[fF]
 exact⟨_,hN.sb [2,3,0,1]⟩
theorem zD (lo hi g gr gb:Nat) (m:Int) (bd:Bool) (s:St) (w:World) (hN:aH w (b6 [.aJ gb [vP gr] 82,.aJ gr [vP g,.int .i64 (m),.bool (bd)] 89,dF 142 lo hi g s]) w [.aJ gb [vP gr] 82,.aJ gr [vP g,.int .i64 (m),.bool (bd)] 89,dF 142 lo hi g s]) (kF:0≤m) (jv:m≤1048576) (kN:s.1.length≤1048576):aM acD 104 #[vP gr,.func (.func 100) #[] #[vP gb]] w fun r w'=>∃hs,aH w (b6 [.aJ gb [vP gr] 82,.aJ gr [vP g,.int .i64 (m),.bool (bd)] 89,dF 142 lo hi g s]) w' [.own vh 118 r hs,.ed bG hs (dT m (cR j0 m 1) (s,bd)).2,.aJ gb [vP gr] 82,.aJ gr [vP g,.int .i64 (m),.bool ((dT m (cR j0 m 1) (s,bd)).1.2)] 89,dF 142 lo hi g ((dT m (cR j0 m 1) (s,bd)).1.1)]:=by
 refine aM.aZ aim ?_
 rw[cS]
 refine RW.aN (RL.ag (v:=vN) ai (RL.bY (RL.ag (v:=vN) ai ?_)))
 replace hN:=hN.yC bG
 replace hN:=hN.dy vh 118
 replace hN:aH w _ w [.own vh 118 (vN) ([]),.ed bG ([]) ([]),.aJ gb [vP gr] 82,.aJ gr [vP g,.int .i64 (m),.bool (bd)] 89,dF 142 lo hi g s]:=hN
 refine RL.bY (RL.ag (v:=vP gr) U ?_)
 have qN:∃s1 b1 n1,fp m (s,(bd))=((s1,b1),n1):=⟨_,_,_,rfl⟩
 obtain⟨P8,zg,Hi,Bt⟩:=qN
 have Wc:=tQ (by omega) Bt
 have Jo:=qC Bt
 dsimp only at Jo
 refine RL.aL (bo ail rfl rfl rfl ((DD lo hi g gr m (bd) s _ (hN.de (M:=[_,_]) [3,4] (by decide) rfl) (by omega) (by omega) (by omega) Bt).mono ?_))
 rintro _ w1 ⟨rfl,cE⟩
 replace hN:aH w _ w1 [_,_,_,_,_]:=aH.dd (M:=[_,_]) (N:=[_,_,_]) (hN.sb [3,4,0,1,2]) cE
 clear cE
 refine RL.ag (v:=vJ Hi) ai (RL.ak (RW.seq (RW.block ?_)))
 refine RW.loop (fun k R0 cv=>∃j:Nat,∃st:St,∃b:Bool,∃ls:List (List I2),∃vo:Value,∃hs:List Hd,R0 0=vP gr∧R0 1=.func (.func 100) #[] #[vP gb]∧R0 5=vo∧R0 6=vJ j∧aH w (b6 [.aJ gb [vP gr] 82,.aJ gr [vP g,.int .i64 (m),.bool (bd)] 89,dF 142 lo hi g s]) cv [.aJ gr [vP g,.int .i64 (m),.bool (b)] 89,dF 142 lo hi g st,.own vh 118 (vo) (hs),.ed bG (hs) (ls),.aJ gb [vP gr] 82]∧(j=k)∧(oX (cR j0 m 1) Hi (P8,zg)=((oX (cR j0 m 1) j (st,b)).1,ls++(oX (cR j0 m 1) j (st,b)).2))∧(st.1.length≤1048576)∧(hs.length+j=Hi)) (Hi) ?_ ?_
 exact⟨Hi,P8,zg,[],vN,[],rfl,rfl,rfl,rfl,hN,rfl,rfl,by omega,aeY _⟩
 clear hN
 rintro k R0 cv ⟨j,st,b,ls,vo,hs,cF,bN,cy,cV,hN,DM,Lq,ud,hhj⟩
 have cz:=iV cF bN cy cV
 obtain⟨fV,rfl⟩:=cz
 clear cF bN cy cV
 iterate 2 refine RW.seq ?_
 refine RW.region (RL.ag (v:=vJ j) U (RL.ag (cq) (RL.ag (v:=.bool (decide (0<(j:Int)))) U ?_)))
 by_cases OJ:0<(j:Int)
 rw[decide_eq_true OJ]
 refine RL.aw (v:=vP gr) U (RL.aw (bM) (RL.aw (ah adz rfl El) (RL.aw (aj aec (hN.aJ 0 rfl)) ?_)))
 refine RL.er (bo afp rfl rfl rfl ((ga _ _ _ st _ (dF.says hN 1 rfl)).mono ?_))
 rintro _ _ ⟨rfl,rfl⟩
 refine RL.aw (ca) (RL.ag (v:=.bool (decide (st.2=0))) (al) (RL.ak ?_))
 refine RW.aG _ (fun xc=>?_) (fun xc=>?_)
 refine RW.skip (aA (RW.seq (RW.block (RW.region (RL.ag (v:=vo) U (RL.ag (v:=.func (.func 100) #[] #[vP gb]) U ?_))))))
 have qN:∃s1 b1 l1,cR j0 m 1 (st,(b))=((s1,b1),l1):=⟨_,_,_,rfl⟩
 obtain⟨WZ,YR,W7,LI⟩:=qN
 have Pg:=(gA LI).1
 have Ph:=(gA LI).2
 dsimp only at Pg Ph
 refine RL.aL (wO (_u:=.tmp 0) (_w:=undef) (first:=#[]) (captured:=#[vP gb]) (args:=#[vP gb]) ajZ rfl rfl (by simp) rfl ((EA lo hi g gr gb m (b) st _ (hN.de (M:=[_,_,_]) [4,0,1] (by decide) rfl) (by omega) (by omega) (by omega) LI).mono ?_))
 rintro v3 w3 cE
 replace hN:aH w _ w3 [_,_,_,_,_,_]:=aH.dd (M:=[_,_,_]) (N:=[_,_]) (hN.sb [4,0,1,2,3]) cE
 clear cE
 have aO:=(hN.sm 0 rfl).hd
 obtain⟨h5,fF⟩:=aO
 subst fF
 refine RL.aL (cx (enc:=vh) (l:=[h5]) (xs:=[.tmp 23]) ac5 lx Ga rfl rfl (fun _=>rfl) rfl (by decide) (by decide) hN ?_)
 clear hN
 intro g4 w4 (hN:aH w _ w4 [_,_,_,_,_,_,_])
 replace hN:aH w _ w4 [_,_,_,_,_,_]:=aH.uQ (L:=[_,_,_,_,_,_]) (hN.sb [1,0,2,3,4,5,6]) 5 rfl
 refine RL.aL (b9 ac5 Cv rfl kh hN 4 rfl rfl (hN.sl 0 rfl) rfl (by(try simp only[acB,ac9,adj,acS,acK,acH,adb,acB,ada]);omega) (by decide) ?_)
 clear hN
 intro v6 w6 (hN:aH w _ w6 [_,_,_,_,_,_])
 refine RL.ag (v:=v6) ai (RL.nil (ba (aA (RW.region (RL.ag (v:=vJ j) U (RL.ag (aD rfl rfl rfl (show arith .sub .i64 (j:Int) 1=((j-1:Nat):Int)from(pn (by omega) (by omega)).trans (by omega))) (RL.ag (v:=.int .i64 (((j-1:Nat):Int))) ai (RL.ak ?_))))))))
 exact⟨k-1,by omega,j-1,WZ,(YR),ls++[W7],v6,hs++[h5],rfl,rfl,rfl,rfl,(hN.sb [2,3,4,5,1]),by omega,Jy Lq (by omega) xc LI,by omega,by simp only[acB,acH];omega⟩
 refine RW.exit ?_
 iterate 2 refine bP ?_
 refine aY (aA (RW.aN (RL.ag (v:=vo) U (RL.ag (v:=vo) ai (RL.ak (RW.ret (bc (RV.tmp rfl) ?_)))))))
 have fF:=pt Bt (sI Lq (.inr xc))
 rw[fF]
 exact⟨_,hN.sb [2,3,4,0,1]⟩
 rw[decide_eq_false OJ]
 iterate 6 refine RL.bH ?_
 refine RL.ag (v:=.bool false) (aB) (RL.ak (RW.cj (RW.exit ?_)))
 iterate 2 refine bP ?_
 refine aY (aA (RW.aN (RL.ag (v:=vo) U (RL.ag (v:=vo) ai (RL.ak (RW.ret (bc (RV.tmp rfl) ?_)))))))
 have fF:=pt Bt (sI Lq (.inl (by omega)))
 rw[fF]
 exact⟨_,hN.sb [2,3,4,0,1]⟩
end Go.Proofs.YtngkdkbpgoddlaaGreat
namespace Go.Proofs.YtngkdkbpgoddlaaGreat
open Go.RowKit Go.Rl
open Go.Gr Go.dj Go.jR
theorem tp (lo hi g gr gb:Nat) (m:Int) (bd:Bool) (s:St) (w:World) (hN:aH w (b6 [.aJ gr [vP g,.int .i64 (m),.bool (bd)] 89,dF 142 lo hi g s]) w [.aJ gr [vP g,.int .i64 (m),.bool (bd)] 89,dF 142 lo hi g s]) (kF:0≤m) (jv:m≤1048576) (kN:s.1.length≤1048576) {s1:St} {b1:Bool} {l1:List (List Int)} (e:dT m (ec m) (s,bd)=((s1,b1),l1)):aM acD 103 #[vP gr,.func (.func 95) #[vP gr] #[]] w fun r w'=>∃hs,aH w (b6 [.aJ gr [vP g,.int .i64 (m),.bool (bd)] 89,dF 142 lo hi g s]) w' [.own vh 25 r hs,.eD vi hs l1,.aJ gr [vP g,.int .i64 (m),.bool (b1)] 89,dF 142 lo hi g s1]:=
  (zG lo hi g gr gb m bd s w hN kF jv kN).mono fun _ _ h=>by rw[e]at h;exact h
theorem zE (lo hi g gr gb:Nat) (m:Int) (bd:Bool) (s:St) (w:World) (hN:aH w (b6 [.aJ gb [vP gr] 82,.aJ gr [vP g,.int .i64 (m),.bool (bd)] 89,dF 142 lo hi g s]) w [.aJ gb [vP gr] 82,.aJ gr [vP g,.int .i64 (m),.bool (bd)] 89,dF 142 lo hi g s]) (kF:0≤m) (jv:m≤1048576) (kN:s.1.length≤1048576) {s1:St} {b1:Bool} {l1:List (List I2)} (e:dT m (cR j0 m 1) (s,bd)=((s1,b1),l1)):aM acD 104 #[vP gr,.func (.func 100) #[] #[vP gb]] w fun r w'=>∃hs,aH w (b6 [.aJ gb [vP gr] 82,.aJ gr [vP g,.int .i64 (m),.bool (bd)] 89,dF 142 lo hi g s]) w' [.own vh 118 r hs,.ed bG hs l1,.aJ gb [vP gr] 82,.aJ gr [vP g,.int .i64 (m),.bool (b1)] 89,dF 142 lo hi g s1]:=
  (zD lo hi g gr gb m bd s w hN kF jv kN).mono fun _ _ h=>by rw[e]at h;exact h
theorem vz (lo hi g gr:Nat) (m:Int) (bd:Bool) (s:St) (w:World) (hN:aH w (b6 [.aJ gr [vP g,.int .i64 (m),.bool (bd)] 89,dF 142 lo hi g s]) w [.aJ gr [vP g,.int .i64 (m),.bool (bd)] 89,dF 142 lo hi g s]) (kF:0≤m) (jv:m≤1048576) (kN:s.1.length≤1048576):aM acD 42 #[vP gr] w fun r w'=>∃v,r=.agg #[.int .i64 (mQ m (s,bd)).2.1,v]∧aH w (b6 [.aJ gr [vP g,.int .i64 (m),.bool (bd)] 89,dF 142 lo hi g s]) w' [.cd bC 3 100 v (mQ m (s,bd)).2.2,.aJ gr [vP g,.int .i64 (m),.bool ((mQ m (s,bd)).1.2)] 89,dF 142 lo hi g ((mQ m (s,bd)).1.1)]:=by
 refine aM.aZ Tryz.func42 ?_
 rw[cH]
 refine RW.aN ?_
 refine RL.aL (bz (cs:=[.int .i64 (0),vN]) mZ rfl hN ?_)
 clear hN
 intro g1 w1 (hN:aH w _ w1 [_,_,_])
 refine RL.bY (RL.ag (v:=vP gr) U ?_)
 refine RL.aL (bo ae7 rfl rfl rfl ((iO lo hi g gr m (bd) s _ (hN.de (M:=[_,_]) [1,2] (by decide) rfl) (by omega) (by omega) (by omega)).mono ?_))
 rintro v2 w2 cE
 replace hN:aH w _ w2 [_,_,_,_]:=aH.dd (M:=[_,_]) (N:=[_]) (hN.sb [1,2,0]) cE
 clear cE
 refine RL.ag (v:=v2) ai (RL.ak ?_)
 iterate 2 refine RW.seq ?_
 refine RW.region (RL.ag (v:=v2) U ?_)
 have kH:=(hN.sl 0 rfl).bw
 refine RL.ag (aQ acz (hN.sl 0 rfl)) (RL.ag (bj) (RL.ak ?_))
 refine RW.aG _ (fun Lj=>?_) (fun Lj=>?_)
 refine RW.aN (RL.ag (v:=vP gr) U (RL.ag (bM) (RL.ag (ah adz rfl oM) ?_)))
 refine RL.aL (b7 oM rfl rfl rfl rfl hN 1 rfl (acA rfl) ?_)
 clear hN
 intro w4 (hN:aH w _ w4 [_,_,_,_])
 refine RL.bY (RL.ag (bR (cs:=[.int .i64 (0),vN]) acJ mZ (places:=#[(0,1),(1,1)]) (by intro w;kernel_rfl) (pl:=[]) rfl (ps:=[]) rfl (zc:=[.int .i64 (0),vN]) rfl rfl) ?_)
 refine RL.aL (aS (vs:=[.int .i64 (0),vN]) dw rfl rfl rfl (bh (bh cZ)) hN 3 rfl rfl ?_)
 clear hN
 intro w5 (hN:aH w _ w5 [_,_,_,_])
 refine RL.ak (RW.ret (aU (bc (RV.cell rfl rfl (hN.aJ 3 rfl) acJ rfl dw) ?_)))
 rw[Ho (by omega)]
 replace hN:=hN.ew bC 3 100
 exact⟨_,rfl,hN.sb [0,2,3]⟩
 refine RW.skip (aA (RW.seq ?_))
 replace hN:=hN.ext (Ext.drew w2)
 refine RW.bA (fun u=>aH w (b6 [.aJ gr [vP g,.int .i64 (m),.bool (bd)] 89,dF 142 lo hi g s]) u [.own vi 3 (v2) ((da s m).2)]) 7 [(0,0),(1,0),(2,0),(3,0),(4,1),(5,1),(6,1)] (by intro _ _ _ h;exact h) (hN.sb [0]) (RQ.an (v:=v2) rfl (fun w hS=>U) (RQ.an rfl (fun w hS=>(aC acz bI (hS.sl 0 rfl))) ?_))
 have aO:=cQ ((da s m).2) 0
 obtain⟨ap,bV⟩:=aO
 refine RQ.an rfl (fun w hS=>(aF (m:=0) (a:=ap) acy (hS.sl 0 rfl) bV)) (RQ.an (v:=vP gr) rfl (fun w hS=>U) ?_)
 have qN:∃s1 b1 l1,cR py m 2 ((da s m).1,(bd))=((s1,b1),l1):=⟨_,_,_,rfl⟩
 obtain⟨P7,Qv,Zt,MS⟩:=qN
 have LG:=(gA MS).1
 have Wd:=(gA MS).2
 dsimp only at LG Wd
 refine RQ.bW rfl (cn Tryz.func96 rfl rfl rfl rfl rfl ((C7 lo hi g gr m (bd) ((da s m).1) _ (hN.de (M:=[_,_]) [1,2] (by decide) rfl) (by omega) (by omega) (by have:=eO s m;omega) MS).mono ?_))
 rintro v6 w6 cE
 replace hN:aH w _ w6 [_,_,_,_,_]:=aH.dd (M:=[_,_]) (N:=[_,_]) (hN.sb [1,2,0,3]) cE
 clear cE
 refine⟨(hN.sb [3]),?_⟩
 refine RQ.bW rfl (ey.ev (bR (cs:=[.int .i64 (ap),v6]) acJ mZ (places:=#[(0,1),(1,1)]) (by intro w;kernel_rfl) (pl:=[(0,.tmp 15),(1,.tmp 17)]) rfl (ps:=[(0,.int .i64 (ap)),(1,v6)]) rfl (zc:=[.int .i64 (0),vN]) rfl (aP (vs:=[.int .i64 (ap)]) rfl rfl (acA rfl) (aP (vs:=[v6]) (hN.sm 0 rfl).cK rfl (acA rfl) rfl))) ⟨(hN.sb [3]),?_⟩)
 refine RQ.bW rfl (aS (vs:=[.int .i64 (ap),v6]) dw rfl rfl rfl (by intro u hu;simp only[ac6,ac0,or_false]at hu;rcases hu with rfl|rfl<;>first|rfl|exact(hN.sm 0 rfl).bT) hN 4 rfl rfl ?_)
 clear hN
 intro w7 (hN:aH w _ w7 [_,_,_,_,_])
 refine⟨(hN.sb [3]),?_⟩
 refine RQ.bq (aA (RW.ret (bc (RV.cell rfl rfl (hN.aJ 4 rfl) acJ rfl dw) ?_)))
 rw[K1 (by omega) bV MS]
 exact⟨_,rfl,hN.sb [0,1,2]⟩
theorem tB (lo hi g gr:Nat) (m:Int) (bd:Bool) (s:St) (w:World) (hN:aH w (b6 [.aJ gr [vP g,.int .i64 (m),.bool (bd)] 89,dF 142 lo hi g s]) w [.aJ gr [vP g,.int .i64 (m),.bool (bd)] 89,dF 142 lo hi g s]) (kF:0≤m) (jv:m≤1048576) (kN:s.1.length≤1048576):aM acD 43 #[vP gr] w fun r w'=>∃rv wv,r=.agg #[rv,wv]∧aH w (b6 [.aJ gr [vP g,.int .i64 (m),.bool (bd)] 89,dF 142 lo hi g s]) w' [.own vI 3 rv (j2 m (s,bd)).2.1,.cd aV 5 98 wv (j2 m (s,bd)).2.2,.aJ gr [vP g,.int .i64 (m),.bool ((j2 m (s,bd)).1.2)] 89,dF 142 lo hi g ((j2 m (s,bd)).1.1)]:=by
 refine aM.aZ Tryz.func43 ?_
 rw[cH]
 refine RW.aN ?_
 refine RL.aL (bz (cs:=[vN,vN]) oG rfl hN ?_)
 clear hN
 intro g1 w1 (hN:aH w _ w1 [_,_,_])
 refine RL.bY (RL.ag (v:=vP gr) U ?_)
 refine RL.aL (bo ae7 rfl rfl rfl ((iO lo hi g gr m (bd) s _ (hN.de (M:=[_,_]) [1,2] (by decide) rfl) (by omega) (by omega) (by omega)).mono ?_))
 rintro v2 w2 cE
 replace hN:aH w _ w2 [_,_,_,_]:=aH.dd (M:=[_,_]) (N:=[_]) (hN.sb [1,2,0]) cE
 clear cE
 refine RL.ag (v:=vP gr) U ?_
 have qN:∃s1 b1 l1,cR l9 m 4 ((da s m).1,(bd))=((s1,b1),l1):=⟨_,_,_,rfl⟩
 obtain⟨WZ,YR,W7,LI⟩:=qN
 have Pg:=(gA LI).1
 have Ph:=(gA LI).2
 dsimp only at Pg Ph
 refine RL.aL (cn Tryz.func98 rfl rfl rfl rfl rfl ((yI lo hi g gr m (bd) ((da s m).1) _ (hN.de (M:=[_,_]) [1,2] (by decide) rfl) (by omega) (by omega) (by have:=eO s m;omega) LI).mono ?_))
 rintro v3 w3 cE
 replace hN:aH w _ w3 [_,_,_,_,_]:=aH.dd (M:=[_,_]) (N:=[_,_]) (hN.sb [1,2,0,3]) cE
 clear cE
 refine RL.ag (bR (cs:=[v2,v3]) acE oG (places:=#[(0,1),(1,1)]) (by intro w;kernel_rfl) (pl:=[(0,.tmp 4),(1,.tmp 6)]) rfl (ps:=[(0,v2),(1,v3)]) rfl (zc:=[vN,vN]) rfl (aP (vs:=[v2]) (hN.sl 3 rfl).cK rfl (acA rfl) (aP (vs:=[v3]) (hN.sm 0 rfl).cK rfl (acA rfl) rfl))) ?_
 refine RL.aL (aS (vs:=[v2,v3]) dq rfl rfl rfl (by intro u hu;simp only[ac6,ac0,or_false]at hu;rcases hu with rfl|rfl<;>first|rfl|exact(hN.sl 3 rfl).bT|exact(hN.sm 0 rfl).bT) hN 4 rfl rfl ?_)
 clear hN
 intro w4 (hN:aH w _ w4 [_,_,_,_,_])
 refine RL.ak (RW.ret (bc (RV.cell rfl rfl (hN.aJ 4 rfl) acE rfl dq) ?_))
 rw[Ip LI]
 exact⟨_,_,rfl,hN.sb [3,0,1,2]⟩
theorem qz (lo hi g gr:Nat) (m:Int) (bd:Bool) (s:St) (w:World) (hN:aH w (b6 [.aJ gr [vP g,.int .i64 (m),.bool (bd)] 89,dF 142 lo hi g s]) w [.aJ gr [vP g,.int .i64 (m),.bool (bd)] 89,dF 142 lo hi g s]) (kF:0≤m) (jv:m≤1048576) (kN:s.1.length≤1048576):aM acD 44 #[vP gr] w fun r w'=>∃gv fv ov iv cW cX hf ho ic gM gI,r=.agg #[gv,fv,ov,iv,cW,cX]∧aH w (b6 [.aJ gr [vP g,.int .i64 (m),.bool (bd)] 89,dF 142 lo hi g s]) w' [.own vI 3 gv (iL m (s,bd)).2.1,.own vh 25 fv hf,.eD vI hf (iL m (s,bd)).2.2.1,.own vh 118 ov ho,.ed bG ho (iL m (s,bd)).2.2.2.1,.own vh 118 iv ic,.ed bG ic (iL m (s,bd)).2.2.2.2.1,.own vh 25 cW gM,.eD vI gM (iL m (s,bd)).2.2.2.2.2.1,.own vh 25 cX gI,.eD vI gI (iL m (s,bd)).2.2.2.2.2.2,.aJ gr [vP g,.int .i64 (m),.bool ((iL m (s,bd)).1.2)] 89,dF 142 lo hi g ((iL m (s,bd)).1.1)]:=by
 refine aM.aZ Tryz.func44 ?_
 rw[cH]
 refine RW.aN ?_
 refine RL.aL (bJ (cs:=[vP gr]) rfl rfl hN ?_)
 clear hN
 intro g1 w1 (hN:aH w _ w1 [_,_,_])
 refine RL.aL (bz (cs:=[vN,vN,vN,vN,vN,vN]) qn rfl hN ?_)
 clear hN
 intro g2 w2 (hN:aH w _ w2 [_,_,_,_])
 refine RL.bY (RL.ag (dM (vs:=[vP g1]) (xs:=[.tmp 1]) rfl rfl) (RL.ag (v:=.func (.func 100) #[] #[vP g1]) ai (RL.ak (RW.aN ?_))))
 refine RL.ag (aj ael (hN.aJ 1 rfl)) ?_
 refine RL.aL (bo ae7 rfl rfl rfl ((iO lo hi g gr m (bd) s _ (hN.de (M:=[_,_]) [2,3] (by decide) rfl) (by omega) (by omega) (by omega)).mono ?_))
 rintro v3 w3 cE
 replace hN:aH w _ w3 [_,_,_,_,_]:=aH.dd (M:=[_,_]) (N:=[_,_]) (hN.sb [2,3,0,1]) cE
 clear cE
 have ZT:=eO s m
 refine RL.ag (bR (cs:=[v3,vN,vN,vN,vN,vN]) acR qn (places:=#[(0,1),(1,1),(2,1),(3,1),(4,1),(5,1)]) (by intro w;kernel_rfl) (pl:=[(0,.tmp 7)]) rfl (ps:=[(0,v3)]) rfl (zc:=[vN,vN,vN,vN,vN,vN]) rfl (aP (vs:=[v3]) (hN.sl 0 rfl).cK rfl (acA rfl) rfl)) ?_
 refine RL.aL (bz (cs:=[vN,vN,vN,vN,vN,vN]) qn rfl hN ?_)
 clear hN
 intro g4 w4 (hN:aH w _ w4 [_,_,_,_,_,_])
 refine RL.aL (aS (vs:=[v3,vN,vN,vN,vN,vN]) iA rfl rfl rfl (by intro u hu;simp only[ac6,ac0,or_false]at hu;rcases hu with rfl|rfl|rfl|rfl|rfl|rfl<;>first|rfl|exact(hN.sl 1 rfl).bT) hN 0 rfl rfl ?_)
 clear hN
 intro w5 (hN:aH w _ w5 [_,_,_,_,_,_])
 refine RL.ak (RW.aN ?_)
 iterate 2 refine RL.ag (aj ael (hN.aJ 5 rfl)) ?_
 refine RL.ag (mr (vs:=[vP gr]) (xs:=[.tmp 10]) rfl rfl) ?_
 have qN:∃s1 b1 l1,dT m (ec m) ((da s m).1,(bd))=((s1,b1),l1):=⟨_,_,_,rfl⟩
 obtain⟨P7,Qv,Zt,MS⟩:=qN
 have LG:=(gz (p:=adQ) (by omega) (gS m) (iP m) ((da s m).1,(bd))).1
 rw[MS]at LG
 dsimp only at LG
 refine RL.aL (bu ahd rfl rfl rfl rfl ((tp lo hi g gr 0 m (bd) ((da s m).1) _ (hN.de (M:=[_,_]) [2,3] (by decide) rfl) (by omega) (by omega) (by have:=eO s m;omega) MS).mono ?_))
 rintro v6 w6 ⟨hs6,cE⟩
 replace hN:aH w _ w6 [_,_,_,_,_,_,_,_]:=aH.dd (M:=[_,_]) (N:=[_,_,_,_]) (hN.sb [2,3,0,1,4,5]) cE
 clear cE
 refine RL.ag (ah acR rfl fH) ?_
 refine RL.aL (b7 fH rfl rfl (hN.sl 0 rfl).cK (hN.sl 0 rfl).bT hN 4 rfl (acA rfl) ?_)
 clear hN
 intro w7 (hN:aH w _ w7 [_,_,_,_,_,_,_,_])
 refine RL.bY (RL.ag (aj ael (hN.aJ 7 rfl)) (RL.ag (v:=.func (.func 100) #[] #[vP g1]) U ?_))
 have qN:∃s1 b1 l1,dT m (cR j0 m 1) (P7,(Qv))=((s1,b1),l1):=⟨_,_,_,rfl⟩
 obtain⟨J3,JW,l18,Fl⟩:=qN
 have SX:=(gz (p:=adQ) (by omega) (mw j0 m 1) (jE j0 m 1) (P7,(Qv))).1
 rw[Fl]at SX
 dsimp only at SX
 refine RL.aL (bu aim rfl rfl rfl rfl ((zE lo hi g gr g1 m (Qv) P7 _ (hN.de (M:=[_,_,_]) [7,2,3] (by decide) rfl) (by omega) (by omega) (by omega) Fl).mono ?_))
 rintro v8 w8 ⟨hs8,cE⟩
 replace hN:aH w _ w8 [_,_,_,_,_,_,_,_,_,_]:=aH.dd (M:=[_,_,_]) (N:=[_,_,_,_,_]) (hN.sb [7,2,3,0,1,4,5,6]) cE
 clear cE
 refine RL.ag (ah acR rfl je) ?_
 refine RL.aL (b7 je rfl rfl (hN.sl 0 rfl).cK (hN.sl 0 rfl).bT hN 7 rfl (acA rfl) ?_)
 clear hN
 intro w9 (hN:aH w _ w9 [_,_,_,_,_,_,_,_,_,_])
 refine RL.bY (RL.ag (aj ael (hN.aJ 2 rfl)) (RL.ag (v:=.func (.func 100) #[] #[vP g1]) U ?_))
 have qN:∃s1 b1 l1,dT m (cR j0 m 1) (J3,(JW))=((s1,b1),l1):=⟨_,_,_,rfl⟩
 obtain⟨xD,Bh,Zw,qO⟩:=qN
 have MR:=(gz (p:=adQ) (by omega) (mw j0 m 1) (jE j0 m 1) (J3,(JW))).1
 rw[qO]at MR
 dsimp only at MR
 refine RL.aL (bu aim rfl rfl rfl rfl ((zE lo hi g gr g1 m (JW) J3 _ (hN.de (M:=[_,_,_]) [2,3,4] (by decide) rfl) (by omega) (by omega) (by omega) qO).mono ?_))
 rintro v10 lR ⟨UK,cE⟩
 replace hN:aH w _ lR [_,_,_,_,_,_,_,_,_,_,_,_]:=aH.dd (M:=[_,_,_]) (N:=[_,_,_,_,_,_,_]) (hN.sb [2,3,4,0,1,5,6,7,8,9]) cE
 clear cE
 refine RL.ag (ah acR rfl je) ?_
 refine RL.aL (b7 je rfl rfl (hN.sl 0 rfl).cK (hN.sl 0 rfl).bT hN 9 rfl (acA rfl) ?_)
 clear hN
 intro kY (hN:aH w _ kY [_,_,_,_,_,_,_,_,_,_,_,_])
 refine RL.ak (RW.aN ?_)
 iterate 2 refine RL.ag (aj ael (hN.aJ 2 rfl)) ?_
 refine RL.ag (mr (vs:=[vP gr]) (xs:=[.tmp 23]) rfl rfl) ?_
 have qN:∃s1 b1 l1,dT m (ec m) (xD,(Bh))=((s1,b1),l1):=⟨_,_,_,rfl⟩
 obtain⟨Nz,PM,Zv,Pk⟩:=qN
 have MQ:=(gz (p:=adQ) (by omega) (gS m) (iP m) (xD,(Bh))).1
 rw[Pk]at MQ
 dsimp only at MQ
 refine RL.aL (bu ahd rfl rfl rfl rfl ((tp lo hi g gr 0 m (Bh) xD _ (hN.de (M:=[_,_]) [3,4] (by decide) rfl) (by omega) (by omega) (by omega) Pk).mono ?_))
 rintro rh kI ⟨ZS,cE⟩
 replace hN:aH w _ kI [_,_,_,_,_,_,_,_,_,_,_,_,_,_]:=aH.dd (M:=[_,_]) (N:=[_,_,_,_,_,_,_,_,_,_]) (hN.sb [3,4,0,1,2,5,6,7,8,9,10,11]) cE
 clear cE
 refine RL.ag (ah acR rfl fH) ?_
 refine RL.aL (b7 fH rfl rfl (hN.sl 0 rfl).cK (hN.sl 0 rfl).bT hN 11 rfl (acA rfl) ?_)
 clear hN
 intro lX (hN:aH w _ lX [_,_,_,_,_,_,_,_,_,_,_,_,_,_])
 refine RL.ak (RW.aN ?_)
 iterate 2 refine RL.ag (aj ael (hN.aJ 6 rfl)) ?_
 refine RL.ag (mr (vs:=[vP gr]) (xs:=[.tmp 28]) rfl rfl) ?_
 have qN:∃s1 b1 l1,dT m (ec m) (Nz,(PM))=((s1,b1),l1):=⟨_,_,_,rfl⟩
 obtain⟨Zf,abq,Zu,Pj⟩:=qN
 have MP:=(gz (p:=adQ) (by omega) (gS m) (iP m) (Nz,(PM))).1
 rw[Pj]at MP
 dsimp only at MP
 refine RL.aL (bu ahd rfl rfl rfl rfl ((tp lo hi g gr 0 m (PM) Nz _ (hN.de (M:=[_,_]) [2,3] (by decide) rfl) (by omega) (by omega) (by omega) Pj).mono ?_))
 rintro FU oI ⟨ZR,cE⟩
 replace hN:aH w _ oI [_,_,_,_,_,_,_,_,_,_,_,_,_,_,_,_]:=aH.dd (M:=[_,_]) (N:=[_,_,_,_,_,_,_,_,_,_,_,_]) (hN.sb [2,3,0,1,4,5,6,7,8,9,10,11,12,13]) cE
 clear cE
 refine RL.ag (ah acR rfl fH) ?_
 refine RL.aL (b7 fH rfl rfl (hN.sl 0 rfl).cK (hN.sl 0 rfl).bT hN 13 rfl (acA rfl) ?_)
 clear hN
 intro ph (hN:aH w _ ph [_,_,_,_,_,_,_,_,_,_,_,_,_,_,_,_])
 refine RL.bY (RL.ag (aE (cs:=[v3,v6,v8,v10,rh,FU]) acR iA (hN.aJ 13 rfl)) ?_)
 refine RL.aL (aS (vs:=[v3,v6,v8,v10,rh,FU]) iA rfl rfl rfl (by intro u hu;simp only[ac6,ac0,or_false]at hu;rcases hu with rfl|rfl|rfl|rfl|rfl|rfl<;>first|rfl|exact(hN.sl 0 rfl).bT|exact(hN.sl 11 rfl).bT|exact(hN.sl 14 rfl).bT|exact(hN.sl 4 rfl).bT|exact(hN.sl 6 rfl).bT|exact(hN.sl 9 rfl).bT) hN 15 rfl rfl ?_)
 clear hN
 intro qq (hN:aH w _ qq [_,_,_,_,_,_,_,_,_,_,_,_,_,_,_,_])
 refine RL.ak (RW.ret (bc (RV.cell rfl rfl (hN.aJ 15 rfl) acR rfl iA) ?_))
 rw[Gw MS Fl qO Pk Pj]
 exact⟨_,_,_,_,_,_,_,_,_,_,_,rfl,hN.sb [14,11,12,9,10,6,7,4,5,0,1,2,3]⟩
end Go.Proofs.YtngkdkbpgoddlaaGreat
namespace Go.Gr
open Go.Rl
def u1 (l:List Int):Prop:=∀(i:Nat) (x y:Int),l[i]?=some x→l[i+1]?=some y→x<y
theorem KI {l:List Int} (h:u1 l):∀(d i:Nat) (x y:Int),l[i]?=some x→l[i+1+d]?=some y→x<y:=by
  intro d
  induction d with
  |zero=>intro i x y hx hy;exact h i x y hx hy
  |succ d ih=>
    intro i x y hx hy
    have hl:=(acF.1 hy).1
    obtain⟨z,hz⟩:∃z,l[i+1+d]?=some z:=⟨_,acM (by omega)⟩
    have h1:=ih i x z hx hz
    have h2:=h (i+1+d) z y hz (by rw[show i+1+d+1=i+1+(d+1) by omega];exact hy)
    omega
theorem pw {l:List Int} (h:u1 l) {i j:Nat} {x y:Int} (hx:l[i]?=some x) (hy:l[j]?=some y) (oT:i<j):x<y:=
  KI h (j-i-1) i x y hx (by rw[show i+1+(j-i-1)=j by omega];exact hy)
theorem JU {g:List Int} {v:Int} {p:Nat} (hR:u1 g) (h:g[p]?=some v):kV (fun y=>y=v) g=(p:Int):=
  nK (fun y hy e=>by
    obtain⟨m,hm,he⟩:=ae6.1 hy
    have h1:=pw hR (i:=m) (x:=y) (by rw[acM (by omega),he]) h (by omega)
    omega) h rfl
theorem LW {g:List Int} {v:Int} {p:Nat} (hR:u1 g) (mJ:∀m x,m<p→g[m]?=some x→x<v) (mY:∀m x,p≤m→g[m]?=some x→v≤x) (h:¬g[p]?=some v):kV (fun y=>y=v) g= -1:=
  qR fun y hy e=>by
    subst e
    obtain⟨m,hm⟩:=ade hy
    rcases Nat.lt_trichotomy m p with q|q|q
    · have:=mJ m y q hm;omega
    · subst q;exact h hm
    · have hl := (acF.1 hm).1
      obtain⟨z,hz⟩:∃z,g[p]?=some z:=⟨_,acM (by omega)⟩
      have h1:=mY p z (ac8 _) hz
      have h2:=pw hR hz hm q
      omega
theorem JE {g:List Int} {x:Int}:kV (fun y=>y=x) g<0↔x∉g:=by
  have:=@di g x
  constructor
  · intro h hm;have:=this.2 hm;omega
  · intro h
    by_cases e:0≤kV (fun y=>y=x) g
    · exact absurd (this.1 e) h
    · omega
def u0 {α:Type} (key:α→Int) (P:α→Prop) (l:List α):Prop:=(∀x∈l,P x)∧∀(i:Nat) (x y:α),l[i]?=some x→l[i+1]?=some y→key x<key y
def gF {α:Type} (key:α→Int) (P:α→Prop) (n:Int) (ls:List (List α)):Prop:=(ls.length:Int)=n∧∀r∈ls,u0 key P r
noncomputable instance {α:Type} (key:α→Int) (P:α→Prop) (n:Int) (ls:List (List α)):Decidable (gF key P n ls):=adv _
theorem tx {α:Type} (key:α→Int) (P:α→Prop):u0 key P []:=⟨fun x h=>absurd h (ac0),fun i x y h=>by cases h⟩
theorem kf {α:Type} {key:α→Int} {P:α→Prop} {l:List α} {i:Nat} {x:α} (h:u0 key P (l.take i)) (hx:l[i]?=some x) (h2:P x) (h3:∀y,0<i→l[i-1]?=some y→key y<key x):u0 key P (l.take (i+1)):=by
  refine⟨fun y hy=>?_,fun j a b ha hb=>?_⟩
  · rw [dJ hx, adn, adh] at hy
    rcases hy with hy|rfl
    · exact h.1 y hy
    · exact h2
  · rw [aeg] at ha hb
    split at ha
    · split at hb
      · by_cases hj : j + 1 < i
        · exact h.2 j a b (by rw[aeg,if_pos (by omega)];exact ha) (by rw[aeg,if_pos hj];exact hb)
        · have e : j + 1 = i := by omega
          subst e
          rw[hx]at hb;cases hb
          exact h3 a (by omega) (by simpa using ha)
      · cases hb
    · cases ha
theorem j6 {α:Type} {key:α→Int} {P:α→Prop} {l:List α} {i:Nat} {x y:α} (hx:l[i]?=some x) (hi:0<i) (hy:l[i-1]?=some y) (h:key x≤key y):¬u0 key P l:=fun hn=>by
  have:=hn.2 (i-1) y x hy (by rw[show i-1+1=i by omega];exact hx)
  omega
theorem gL {n:Int} {g:List Int}:gF (fun x=>x) (fun x=>0≤x∧x<n) 1 [g]↔iw n (qj g 2) g:=
  ⟨fun h=>⟨fun x hx=>⟨(h.2 g (adh.2 rfl)).1 x hx,fun e=>absurd e (by decide)⟩,(h.2 g (adh.2 rfl)).2⟩,fun h=>⟨rfl,fun r hr=>by rw[adh]at hr;subst hr;exact⟨fun x hx=>(h.1 x hx).1,h.2⟩⟩⟩
theorem DG {g:List Int} {x:Int}:qj g 1 x↔x∈g:=by
  unfold qj
  constructor
  · intro h
    have:=h (by decide)
    by_cases e:x∈g
    · exact e
    · rw[if_neg e]at this;omega
  · intro h _
    rw[if_pos h]
theorem Ae {g:List Int} {x:Int}:qj g 0 x↔x∉g:=by
  unfold qj
  constructor
  · intro h e
    have:=h (by decide)
    rw[if_pos e]at this;omega
  · intro h _
    rw[if_neg h]
theorem eU {n:Int} {g:List Int} {ls:List (List Int)}:gF (fun x=>x) (fun x=>(0≤x∧x<n)∧x∉g) n ls↔qf n g ls:=
  ⟨fun h=>⟨fun r hr=>⟨fun x hx=>⟨((h.2 r hr).1 x hx).1,Ae.2 ((h.2 r hr).1 x hx).2⟩,(h.2 r hr).2⟩,h.1⟩,fun h=>⟨h.2,fun r hr=>⟨fun x hx=>⟨((h.1 r hr).1 x hx).1,Ae.1 ((h.1 r hr).1 x hx).2⟩,(h.1 r hr).2⟩⟩⟩
theorem dO {n:Int} {g:List Int} {ls:List (List I2)} (hg:∀x∈g,0≤x∧x<n):gF (fun x:I2=>x.1) (fun x=>x.1∈g∧dh 0 x.2) n ls↔jI n g ls:=by
  constructor
  · intro h
    refine⟨fun r hr=>⟨fun x hx=>((h.2 r hr).1 x hx).2,fun v hv=>?_,fun i v u hv hu=>?_⟩,h.1⟩
    · obtain ⟨x, hx, rfl⟩ := adg.1 hv
      have:=((h.2 r hr).1 x hx).1
      exact⟨hg _ this,DG.2 this⟩
    · rw [adI, ahv] at hv hu
      obtain⟨x,hx,rfl⟩:=hv
      obtain⟨y,hy,rfl⟩:=hu
      exact(h.2 r hr).2 i x y hx hy
  · intro h
    refine⟨h.2,fun r hr=>⟨fun x hx=>⟨DG.1 (((h.1 r hr).2.1 x.1 (adg.2 ⟨x,hx,rfl⟩)).2),(h.1 r hr).1 x hx⟩,fun i x y hx hy=>(h.1 r hr).2.2 i x.1 y.1 (by rw[adI,hx];rfl) (by rw[adI,hy];rfl)⟩⟩
end Go.Gr
namespace Go.Proofs.YtngkdkbpgoddlaaGreat
open Go.RowKit Go.Rl
open Go.Gr
theorem LC {i j q:Nat} (hq:q=(i+j)/2):((i:Int)+(j:Int)).fdiv (2^(min (1:Int).toNat aeb.bits))=(q:Int):=by
  subst hq
  show((i:Int)+(j:Int)).fdiv 2=_
  rw[ae0 _ (by omega)]
  omega
theorem Ab (x:Int) (w:World):aM acD 213 #[.int .i64 x] w fun r w'=>r=.bool false∧Ext w w':=by
 refine aM.aZ aj0 ?_
 rw[cH]
 have hN:=aH.nil w none_
 refine RW.aN (RL.ag (v:=.bool false) ai (RL.ak (RW.aN ?_)))
 iterate 2 refine RL.ag (v:=.int .i64 (x)) U ?_
 refine RL.ag (cG (bj) (fun h=>h rfl)) (RL.ag (v:=.bool false) ai (RL.ak (RW.ret (bc (RV.tmp rfl) ?_))))
 exact⟨rfl,hN.aX⟩
theorem yN (x:Int) (w:World):aM acD 218 #[.int .i64 x] w fun r w'=>r=.bool false∧Ext w w':=by
 refine aM.aZ aj1 ?_
 rw[cH]
 have hN:=aH.nil w none_
 refine RW.aN (RL.ag (v:=.bool false) ai (RL.ak (RW.aN ?_)))
 iterate 2 refine RL.ag (v:=.int .i64 (x)) U ?_
 refine RL.ag (cG (bj) (fun h=>h rfl)) (RL.ag (v:=.bool false) ai (RL.ak (RW.ret (bc (RV.tmp rfl) ?_))))
 exact⟨rfl,hN.aX⟩
theorem Cn (x y:Int) (w:World):aM acD 212 #[.int .i64 x,.int .i64 y] w fun r w'=>r=.bool (decide (x<y))∧Ext w w':=by
 refine aM.aZ aj2 ?_
 rw[cS]
 have hN:=aH.nil w none_
 refine RW.aN (RL.ag (v:=.bool false) ai (RL.bY (RL.ag (v:=.int .i64 (x)) U ?_)))
 refine RL.aL (bo aj1 rfl rfl rfl ((yN (x) _).mono ?_))
 rintro _ w1 ⟨rfl,bl⟩
 replace hN:=hN.ext bl
 clear bl
 refine RL.ag (v:=.bool false) U ?_
 iterate 3 refine RL.bH ?_
 refine RL.ag (v:=.bool false) (aB) (RL.ag (v:=.bool false) U (RL.aw (v:=.int .i64 (x)) U (RL.aw (v:=.int .i64 (y)) U (RL.aw (aK) (RL.ag (v:=.bool (decide (x<y))) (aB) (RL.ag (v:=.bool (decide (x<y))) ai (RL.ak (RW.ret ?_))))))))
 refine bc (RV.tmp rfl) ?_
 exact⟨rfl,hN.aX⟩
theorem wh (gv:Value) (g:List Int) (v:Int) (w:World) (hg:Sl vI w gv g) (hR:u1 g) (sH:g.length≤16777216):aM acD 199 #[gv,.int .i64 v] w fun r w'=>∃p:Nat,r=.tuple #[.int .i64 (p:Int),.bool (decide (g[p]?=some v))]∧(∀m x,m<p→g[m]?=some x→x<v)∧(∀m x,p≤m→g[m]?=some x→v≤x)∧Ext w w':=by
 refine aM.aZ aj3 ?_
 rw[cS]
 have hN:=aH.nil w none_
 refine RW.aN (RL.ag (v:=.int .i64 (0)) ai (RL.ag (v:=.bool false) ai (RL.bY (RL.ag (v:=gv) U ?_))))
 have nJ:=(hg.o.now hN).bw
 refine RL.ag (aQ acz (hg.o.now hN)) (RL.ag (v:=.int .i64 ((g.length:Int))) ai (RL.bY (RL.ag (v:=.int .i64 ((g.length:Int))) U (RL.ag (v:=.int .i64 (0)) ai (RL.ag (v:=.int .i64 ((g.length:Int))) ai (RL.nil ?_))))))
 refine aA (RW.seq (RW.block ?_))
 refine RW.loop (fun k R0 cv=>∃i:Nat,∃j:Nat,R0 0=gv∧R0 1=.int .i64 (v)∧R0 6=.int .i64 ((g.length:Int))∧R0 7=vJ i∧R0 8=vJ j∧aH w none_ cv []∧(i+k=j)∧(j≤g.length)∧(∀m x,m<i→g[m]?=some x→x<v)∧(∀m x,j≤m→g[m]?=some x→v≤x)) (g.length) ?_ ?_
 exact⟨0,g.length,rfl,rfl,rfl,rfl,rfl,hN,by omega,ac8 _,fun m x hm=>absurd hm (by omega),fun m x hm hx=>absurd (acF.1 hx).1 (by omega)⟩
 clear hN
 rintro k R0 cv ⟨i,j,cF,bN,cV,cC,cM,hN,oT,hjn,mJ,mY⟩
 have cz:=hC cF bN cV cC cM
 obtain⟨fV,rfl⟩:=cz
 clear cF bN cV cC cM
 iterate 2 refine RW.seq ?_
 refine RW.region (RL.ag (v:=vJ i) U (RL.ag (v:=vJ j) U (RL.ag (aK) (RL.ak ?_))))
 refine RW.aG _ (fun cD=>?_) (fun cD=>?_)
 refine RW.skip (aA (RW.block (RW.seq ?_)))
 obtain⟨q,hq⟩:∃q:Nat,q=(i+j)/2:=⟨_,rfl⟩
 have aO:=cQ g q
 obtain⟨ap,bV⟩:=aO
 refine RW.region (RL.ag (v:=vJ i) U (RL.ag (v:=vJ j) U (RL.ag (aD rfl rfl rfl (bg (by omega) (by omega))) (RL.ag (en acy ain rfl (Nn (by omega) (by omega))) (RL.ag (nL rfl rfl (by decide) (show((i:Int)+(j:Int)).fdiv (2^(min (1:Int).toNat aeb.bits))=(q:Int)from LC hq)) (RL.ag (en ain acy rfl (Bx (by omega) (by omega))) (RL.ag (v:=vJ q) ai (RL.ak ?_))))))))
 refine RW.aN (RL.ag (v:=gv) U (RL.ag (v:=vJ q) U (RL.ag (aC acz bI (hg.o.now hN)) (RL.ag (aF (m:=q) (a:=ap) acy (hg.o.now hN) bV) (RL.ag (v:=.int .i64 (v)) U ?_)))))
 refine RL.aL (bu aj2 rfl rfl rfl rfl ((Cn (ap) (v) _).mono ?_))
 rintro _ w3 ⟨rfl,bl⟩
 replace hN:=hN.ext bl
 clear bl
 refine RL.ak ?_
 refine RW.aG _ (fun Sp=>?_) (fun Sp=>?_)
 refine RW.region (RL.ag (v:=vJ q) U (RL.ag (aD rfl rfl rfl (bg (by omega) (by omega))) (RL.ag (v:=.int .i64 ((q:Int)+1)) ai (RL.nil (ba (aA ?_))))))
 have lf:=hq
 exact⟨j-(q+1),by omega,(q+1),j,rfl,rfl,rfl,rfl,rfl,hN,by omega,by omega,fun m x hm hx=>by
   rcases adi m q with e|e
   · have:=pw hR hx bV e;omega
   · obtain rfl : m = q := by omega
     rw[bV]at hx;cases hx;assumption,by omega⟩
 refine RW.region (RL.ag (v:=vJ q) U (RL.ag (v:=vJ q) ai (RL.nil (ba (aA ?_)))))
 have lf:=hq
 exact⟨q-i,by omega,i,q,rfl,rfl,rfl,rfl,rfl,hN,by omega,by omega,by omega,fun m x hm hx=>by
   rcases adi q m with e|e
   · have:=pw hR bV hx e;omega
   · obtain rfl : m = q := by omega
     rw[bV]at hx;cases hx;omega⟩
 refine RW.exit ?_
 iterate 2 refine bP ?_
 refine aY (aA (RW.seq ?_))
 by_cases hv:g[i]?=some v
 have Fa:=(acF.1 hv).1
 have OL:i=j:=by omega
 subst OL
 refine RW.region ?_
 iterate 2 refine RL.ag (v:=vJ i) U ?_
 refine RL.ag (v:=.int .i64 ((g.length:Int))) U (RL.ag (dB (aK) (by omega)) (RL.ag (v:=.bool true) U (RL.aw (v:=gv) U (RL.aw (v:=vJ i) U (RL.aw (aC acz bI (hg.o.now hN)) (RL.aw (aF (m:=i) (a:=v) acy (hg.o.now hN) hv) (RL.aw (v:=.int .i64 (v)) U (RL.aw (dB (ca) rfl) (RL.aw (v:=.bool true) U ?_)))))))))
 iterate 6 refine RL.bH ?_
 iterate 2 refine RL.iy ?_
 refine RL.bH (RL.aw (v:=.bool true) (al) (RL.ag (v:=.bool true) (al) (RL.ag (v:=vJ i) ai (RL.ag (v:=.bool true) ai (RL.ak (RW.ret (bc (RV.ju rfl) ?_)))))))
 exact⟨i,(show aiU #[.int .i64 (i:Int),.bool true]=_ by rw[decide_eq_true hv]),mJ,mY,hN.aX⟩
 have OL:i=j:=by omega
 subst OL
 refine RW.region ?_
 by_cases Fa:i<g.length
 iterate 2 refine RL.ag (v:=vJ i) U ?_
 refine RL.ag (v:=.int .i64 ((g.length:Int))) U (RL.ag (dB (aK) (by omega)) (RL.ag (v:=.bool true) U (RL.aw (v:=gv) U (RL.aw (v:=vJ i) U (RL.aw (aC acz bI (hg.o.now hN)) ?_)))))
 have aO:=cQ (g) i
 obtain⟨az,lT⟩:=aO
 refine RL.aw (aF (m:=i) (a:=az) acy (hg.o.now hN) lT) (RL.aw (v:=.int .i64 (v)) U (RL.aw (cG (ca) (fun e=>hv (by rw[lT,e]))) (RL.aw (v:=.bool false) U (RL.aw (v:=gv) U (RL.aw (v:=vJ i) U (RL.aw (aC acz bI (hg.o.now hN)) ?_))))))
 have aO:=cQ (g) i
 obtain⟨a5,V5⟩:=aO
 refine RL.aw (aF (m:=i) (a:=a5) acy (hg.o.now hN) V5) ?_
 refine RL.er (bo aj0 rfl rfl rfl ((Ab (a5) _).mono ?_))
 rintro _ w6 ⟨rfl,bl⟩
 replace hN:=hN.ext bl
 clear bl
 refine RL.aw (v:=.bool false) U ?_
 iterate 2 refine RL.bH ?_
 iterate 2 refine RL.aw (v:=.bool false) (aB) ?_
 refine RL.ag (v:=.bool false) (al) (RL.ag (v:=vJ i) ai (RL.ag (v:=.bool false) ai (RL.ak (RW.ret (bc (RV.ju rfl) ?_)))))
 exact⟨i,(show aiU #[.int .i64 (i:Int),.bool false]=_ by rw[decide_eq_false hv]),mJ,mY,hN.aX⟩
 iterate 2 refine RL.ag (v:=vJ i) U ?_
 refine RL.ag (v:=.int .i64 ((g.length:Int))) U (RL.ag (cG (aK) (by omega)) (RL.ag (v:=.bool false) U ?_))
 iterate 7 refine RL.bH ?_
 iterate 9 refine RL.iy ?_
 refine RL.bH (RL.ag (v:=.bool false) (aB) (RL.ag (v:=vJ i) ai (RL.ag (v:=.bool false) ai (RL.ak (RW.ret (bc (RV.ju rfl) ?_))))))
 exact⟨i,(show aiU #[.int .i64 (i:Int),.bool false]=_ by rw[decide_eq_false hv]),mJ,mY,hN.aX⟩
end Go.Proofs.YtngkdkbpgoddlaaGreat
namespace Go.Proofs.YtngkdkbpgoddlaaGreat
open Go.RowKit Go.Rl
open Go.Gr
theorem rm (gv:Value) (g:List Int) (v:Int) (w:World) (hg:Sl vI w gv g) (hR:u1 g) (sH:g.length≤16777216):aM acD 164 #[gv,.int .i64 v] w fun r w'=>r=.int .i64 (kV (fun y=>y=v) g)∧Ext w w':=by
 refine aM.aZ aio ?_
 rw[cS]
 have hN:=aH.nil w none_
 refine RW.aN (RL.ag (v:=.int .i64 (0)) ai (RL.bY (RL.ag (v:=gv) U (RL.ag (v:=.int .i64 (v)) U ?_))))
 refine RL.aL (bu aj3 rfl rfl rfl rfl ((wh _ g (v) _ (hg.o.now hN) hR sH).mono ?_))
 rintro _ w1 ⟨p1,rfl,OD,OS,bl⟩
 replace hN:aH w none_ w1 []:=hN.ext bl
 clear bl
 refine RL.ag U ?_
 iterate 2 refine RL.ag (bE) ?_
 refine RL.ag (v:=vJ p1) ai (RL.ag ai (RL.ak ?_))
 iterate 2 refine RW.seq ?_
 refine RW.region (RL.ag U (RL.ag (cU rfl) (RL.ak ?_)))
 refine RW.aG _ (fun fA=>?_) (fun fA=>?_)
 refine RW.aN (RL.ag (v:=.int .i64 (-1)) ai (RL.ak (RW.ret (aU (bc (RV.tmp rfl) ?_)))))
 exact⟨congrArg (ac4 .i64) (LW hR OD OS fA).symm,hN.aX⟩
 refine RW.skip (aA (RW.aN (RL.ag (v:=vJ p1) U (RL.ag (v:=vJ p1) ai (RL.ak (RW.ret (bc (RV.tmp rfl) ?_)))))))
 exact⟨congrArg (ac4 .i64) (JU hR (acX.1 fA)).symm,hN.aX⟩
theorem tU (d least:Int) (w:World):aM acD 165 #[.int .i64 d,.int .i64 least] w fun r w'=>r=.bool (decide (dh least d))∧Ext w w':=by
 refine aM.aZ aip ?_
 rw[cS]
 have hN:=aH.nil w none_
 refine RW.aN (RL.ag (v:=.bool false) ai (RL.bY (RL.ag (v:=.int .i64 (d)) U (RL.ag (v:=.int .i64 (least)) U (RL.ag (ck) ?_)))))
 refine RL.ag (v:=.bool (decide (least≤d))) U ?_
 by_cases kP:least≤d
 rw[decide_eq_true kP]
 refine RL.aw (v:=.int .i64 (d)) U (RL.aw (mu rfl rfl) (RL.ag (v:=.bool (decide (d≤1152921504606846976))) (al) (RL.ag (v:=.bool (decide (d≤1152921504606846976))) ai (RL.ak (RW.ret (bc (RV.tmp rfl) ?_))))))
 exact⟨congrArg acV (decide_eq_decide.2 ⟨fun h=>⟨by omega,h⟩,fun h=>h.2⟩),hN.aX⟩
 rw[decide_eq_false kP]
 iterate 2 refine RL.bH ?_
 refine RL.ag (v:=.bool false) (aB) (RL.ag (v:=.bool false) ai (RL.ak (RW.ret (bc (RV.tmp rfl) ?_))))
 exact⟨congrArg acV (decide_eq_false (fun h=>by have:=h.1;omega)).symm,hN.aX⟩
theorem yB (d:Int) (w:World):aM acD 201 #[.int .i64 d] w fun r w'=>r=.bool (decide (¬dh (-1) d))∧Ext w w':=by
 refine aM.aZ aj4 ?_
 rw[cH]
 have hN:=aH.nil w none_
 refine RW.aN (RL.ag (v:=.bool false) ai (RL.bY (RL.ag (v:=.int .i64 (d)) U ?_)))
 refine RL.aL (bu aip rfl rfl rfl rfl ((tU (d) (-1) _).mono ?_))
 rintro _ w1 ⟨rfl,bl⟩
 replace hN:=hN.ext bl
 clear bl
 refine RL.ag (cU rfl) (RL.ag (v:=.bool (decide (¬(dh (-1) (d))))) ai (RL.ak (RW.ret (bc (RV.tmp rfl) ?_))))
 exact⟨rfl,hN.aX⟩
theorem l5 (x:Int) (w:World):aM acD 160 #[.int .i64 x] w fun r w'=>r=.int .i64 x∧Ext w w':=by
 refine aM.aZ agu ?_
 rw[cH]
 have hN:=aH.nil w none_
 refine RW.aN (RL.ag (v:=.int .i64 (0)) ai (RL.bY (RL.ag (v:=.int .i64 (x)) U (RL.ag (v:=.int .i64 (x)) ai (RL.nil ?_)))))
 refine aA (RW.ret (bc (RV.tmp rfl) ?_))
 exact⟨rfl,hN.aX⟩
theorem wQ (a:I2) (w:World):aM acD 161 #[.agg #[.int .i64 a.1,.int .i64 a.2]] w fun r w'=>r=.int .i64 a.1∧Ext w w':=by
 refine aM.aZ aiq ?_
 rw[cH]
 have hN:=aH.nil w none_
 refine RW.aN ?_
 refine RL.aL (bJ (cs:=[.int .i64 (a.1),.int .i64 (a.2)]) rfl rfl hN ?_)
 clear hN
 intro g1 w1 (hN:aH w none_ w1 [_])
 refine RL.ag (v:=.int .i64 (0)) ai (RL.bY (RL.ag (ah acY rfl bI) (RL.ag (aj acy (hN.aJ 0 rfl)) (RL.ag (v:=.int .i64 (a.1)) ai (RL.ak ?_)))))
 refine RW.ret (bc (RV.tmp rfl) ?_)
 exact⟨rfl,hN.aX⟩
theorem Af (n:Int) (gn:Nat) (x:Int) (w:World) (hb:ij w gn [.int .i64 n] 3):aM acD 162 #[.int .i64 x,vP gn] w fun r w'=>r=.bool (decide (0≤x∧x<n))∧Ext w w':=by
 refine aM.aZ air ?_
 rw[cS]
 have hN:=aH.nil w none_
 refine RW.aN (RL.ag (v:=.bool false) ai (RL.bY (RL.ag (v:=.int .i64 (x)) U (RL.ag (ck) (RL.ag (v:=.bool (decide (0≤x))) U ?_)))))
 by_cases pV:0≤x
 rw[decide_eq_true pV]
 refine RL.aw (v:=.int .i64 (x)) U (RL.aw (aj acy (hb.ext hN.aX)) (RL.aw (aK) (RL.ag (v:=.bool (decide (x<n))) (al) (RL.ag (v:=.bool (decide (x<n))) ai (RL.ak (RW.ret (bc (RV.tmp rfl) ?_)))))))
 exact⟨congrArg acV (decide_eq_decide.2 ⟨fun h=>⟨by omega,h⟩,fun h=>h.2⟩),hN.aX⟩
 rw[decide_eq_false pV]
 iterate 3 refine RL.bH ?_
 refine RL.ag (v:=.bool false) (aB) (RL.ag (v:=.bool false) ai (RL.ak (RW.ret (bc (RV.tmp rfl) ?_))))
 exact⟨congrArg acV (decide_eq_false (fun h=>by omega)).symm,hN.aX⟩
theorem xz (gt:Nat) (gv fv ov iv cW cX:Value) (g:List Int) (a:I2) (w:World) (Je:ij w gt [gv,fv,ov,iv,cW,cX] 32) (hg:Sl vI w gv g) (hR:u1 g) (sH:g.length≤16777216):aM acD 163 #[.agg #[.int .i64 a.1,.int .i64 a.2],vP gt] w fun r w'=>r=.bool (decide (a.1∈g∧dh 0 a.2))∧Ext w w':=by
 refine aM.aZ aj5 ?_
 rw[cS]
 have hN:=aH.nil w none_
 refine RW.aN ?_
 refine RL.aL (bJ (cs:=[.int .i64 (a.1),.int .i64 (a.2)]) rfl rfl hN ?_)
 clear hN
 intro g1 w1 (hN:aH w none_ w1 [_])
 refine RL.ag (v:=.bool false) ai (RL.bY (RL.ag (ah acR rfl cc) (RL.ag (aj acz (Je.ext hN.aX)) (RL.ag (ah acY rfl bI) (RL.ag (aj acy (hN.aJ 0 rfl)) ?_)))))
 refine RL.aL (bu aio rfl rfl rfl rfl ((rm _ g (a.1) _ (hg.o.now hN) hR sH).mono ?_))
 rintro _ w2 ⟨rfl,bl⟩
 replace hN:=hN.ext bl
 clear bl
 refine RL.ag (ck) (RL.ag (v:=.bool (decide (0≤(kV (fun y=>y=a.1) g)))) U ?_)
 by_cases MK:0≤(kV (fun y=>y=a.1) g)
 rw[decide_eq_true MK]
 refine RL.aw (ah acY rfl bI) (RL.aw (aj acy (hN.aJ 0 rfl)) ?_)
 refine RL.er (bu aip rfl rfl rfl rfl ((tU (a.2) (0) _).mono ?_))
 rintro _ w3 ⟨rfl,bl⟩
 replace hN:=hN.ext bl
 clear bl
 refine RL.ag (v:=.bool (decide (dh (0) (a.2)))) (al) (RL.ag (v:=.bool (decide (dh (0) (a.2)))) ai (RL.ak (RW.ret (bc (RV.tmp rfl) ?_))))
 exact⟨congrArg acV (decide_eq_decide.2 ⟨fun h=>⟨di.1 (by omega),h⟩,fun h=>h.2⟩),hN.aX⟩
 rw[decide_eq_false MK]
 iterate 3 refine RL.bH ?_
 refine RL.ag (v:=.bool false) (aB) (RL.ag (v:=.bool false) ai (RL.ak (RW.ret (bc (RV.tmp rfl) ?_))))
 exact⟨congrArg acV (decide_eq_false (fun h=>absurd (di.2 h.1) (by omega))).symm,hN.aX⟩
theorem BG (n:Int) (gn gi:Nat) (gt:Nat) (gv fv ov iv cW cX:Value) (g:List Int) (x:Int) (w:World) (SO:ij w gn [.int .i64 n] 3) (O9:ij w gi [.func (.func 162) #[] #[vP gn]] 228) (Je:ij w gt [gv,fv,ov,iv,cW,cX] 32) (hg:Sl vI w gv g) (hR:u1 g) (sH:g.length≤16777216):aM acD 166 #[.int .i64 x,vP gi,vP gt] w fun r w'=>r=.bool (decide ((0≤x∧x<n)∧x∉g))∧Ext w w':=by
 refine aM.aZ aj6 ?_
 rw[iu]
 have hN:=aH.nil w none_
 refine RW.aN (RL.ag (v:=.bool false) ai (RL.bY (RL.ag (aj ais (O9.ext hN.aX)) (RL.ag (v:=.int .i64 (x)) U ?_))))
 refine RL.aL (ct (first:=#[]) (captured:=#[vP gn]) (v0:=.int .i64 (x)) (args:=#[.int .i64 (x),vP gn]) air rfl rfl (by simp) rfl rfl ((Af n gn (x) _ (SO.ext hN.aX)).mono ?_))
 rintro _ w1 ⟨rfl,bl⟩
 replace hN:=hN.ext bl
 clear bl
 refine RL.ag (v:=.bool (decide (0≤x∧x<n))) U ?_
 by_cases kP:0≤x∧x<n
 rw[decide_eq_true kP]
 refine RL.aw (ah acR rfl cc) (RL.aw (aj acz (Je.ext hN.aX)) (RL.aw (v:=.int .i64 (x)) U ?_))
 refine RL.er (bu aio rfl rfl rfl rfl ((rm _ g (x) _ (hg.o.now hN) hR sH).mono ?_))
 rintro _ w2 ⟨rfl,bl⟩
 replace hN:=hN.ext bl
 clear bl
 refine RL.aw (aK) (RL.ag (v:=.bool (decide ((kV (fun y=>y=x) g)<0))) (al) (RL.ag (v:=.bool (decide ((kV (fun y=>y=x) g)<0))) ai (RL.ak (RW.ret (bc (RV.tmp rfl) ?_)))))
 exact⟨congrArg acV (decide_eq_decide.2 ⟨fun h=>⟨by assumption,JE.1 h⟩,fun h=>JE.2 h.2⟩),hN.aX⟩
 rw[decide_eq_false kP]
 iterate 5 refine RL.bH ?_
 refine RL.ag (v:=.bool false) (aB) (RL.ag (v:=.bool false) ai (RL.ak (RW.ret (bc (RV.tmp rfl) ?_))))
 exact⟨congrArg acV (decide_eq_false (fun h=>by first|exact absurd h.1 (by assumption)|exact absurd h.2 (by assumption))).symm,hN.aX⟩
theorem yi (gv:Value) (g:List Int) (w:World) (hg:Sl vI w gv g):aM acD 214 #[gv,.func (.func 201) #[] #[]] w fun r w'=>r=.int .i64 (kV (fun d=>¬dh (-1) d) g)∧Ext w w':=by
 refine aM.aZ aj7 ?_
 rw[cS]
 have hN:=aH.nil w none_
 refine RW.aN (RL.ag (v:=.int .i64 (0)) ai (RL.ak ?_))
 iterate 2 refine RW.seq ?_
 refine RW.region (RL.ag (v:=gv) U ?_)
 have nJ:=(hg.o.now hN).bw
 refine RL.ag (aQ acz (hg.o.now hN)) (RL.ag (v:=.int .i64 (0)) U (RL.ak (RW.block ?_)))
 refine RW.loop (fun k R0 cv=>∃i:Nat,R0 0=gv∧R0 1=.func (.func 201) #[] #[]∧R0 7=.int .i64 ((g.length:Int))∧R0 8=vJ i∧aH w none_ cv []∧(i+k=g.length)∧(∀y∈g.take i,¬¬dh (-1) y)) (g.length) ?_ ?_
 exact⟨0,rfl,rfl,rfl,rfl,hN,by omega,fun x hx=>by cases hx⟩
 clear hN
 rintro k R0 cv ⟨i,cF,bN,cC,cM,hN,fP,fA⟩
 have cz:=iV cF bN cC cM
 obtain⟨fV,rfl⟩:=cz
 clear cF bN cC cM
 refine RW.aN (RL.ag (aK) (RL.ak (RW.seq ?_)))
 refine RW.aG _ (fun cD=>?_) (fun cD=>?_)
 refine RW.skip (aA (RW.seq (RW.block (RW.aN (RL.ag (v:=vJ i) U (RL.ag (v:=vJ i) ai (RL.ak ?_)))))))
 refine RW.aN (RL.ag (v:=.func (.func 201) #[] #[]) U (RL.ag (v:=gv) U (RL.ag (v:=vJ i) U (RL.ag (aC acz bI (hg.o.now hN)) ?_))))
 have aO:=cQ (g) i
 obtain⟨ap,bV⟩:=aO
 refine RL.ag (aF (m:=i) (a:=ap) acy (hg.o.now hN) bV) ?_
 refine RL.aL (ct (first:=#[]) (captured:=#[]) (v0:=.int .i64 (ap)) (args:=#[.int .i64 (ap)]) aj4 rfl rfl (by simp) rfl rfl ((yB (ap) _).mono ?_))
 rintro _ w2 ⟨rfl,bl⟩
 replace hN:=hN.ext bl
 clear bl
 refine RL.ak ?_
 refine RW.aG _ (fun oW=>?_) (fun oW=>?_)
 refine RW.aN (RL.ag (v:=vJ i) U (RL.ag (v:=vJ i) ai (RL.ak (RW.ret (bb ?_)))))
 iterate 2 refine aU ?_
 refine bb (aU (bc (RV.tmp rfl) ?_))
 exact⟨congrArg (ac4 .i64) (nK fA bV oW).symm,hN.aX⟩
 refine RW.skip (ba (aA (RW.region (RL.ag (aD rfl rfl rfl (bg (by omega) (by omega))) (RL.ag (v:=.int .i64 ((i:Int)+1)) U (RL.ak ?_))))))
 exact⟨k-1,by omega,i+1,rfl,rfl,rfl,rfl,hN,by omega,fun x hx=>(dk bV hx).elim (fA x) (fun e=>e▸oW)⟩
 refine RW.exit ?_
 iterate 2 refine bP ?_
 refine aY (aA (RW.aN (RL.ag (v:=.int .i64 (-1)) ai (RL.ak (RW.ret (bc (RV.tmp rfl) ?_))))))
 rw[ac2 (by omega)]at fA
 exact⟨congrArg (ac4 .i64) (qR fA).symm,hN.aX⟩
theorem Bc (gv:Value) (g:List Int) (w:World) (hg:Sl vI w gv g):aM acD 200 #[gv,.func (.func 201) #[] #[]] w fun r w'=>r=.bool (decide (0≤kV (fun d=>¬dh (-1) d) g))∧Ext w w':=by
 refine aM.aZ aj8 ?_
 rw[cS]
 have hN:=aH.nil w none_
 refine RW.aN (RL.ag (v:=.bool false) ai (RL.bY (RL.ag (v:=gv) U (RL.ag (v:=.func (.func 201) #[] #[]) U ?_))))
 refine RL.aL (bu aj7 rfl rfl rfl rfl ((yi _ g _ (hg.o.now hN)).mono ?_))
 rintro _ w1 ⟨rfl,bl⟩
 replace hN:=hN.ext bl
 clear bl
 refine RL.ag (ck) (RL.ag (v:=.bool (decide (0≤(kV (fun d=>¬dh (-1) d) g)))) ai (RL.ak (RW.ret (bc (RV.tmp rfl) ?_))))
 exact⟨rfl,hN.aX⟩
theorem Hu {l:List Int} (h:¬0≤kV (fun d=>¬dh (-1) d) l):∀x∈l,dh (-1) x:=by
  rcases fg (fun d=>¬dh (-1) d) l with⟨_,hb⟩|⟨i,x,e,_,_,_⟩
  · exact fun x hx=>acX.1 (hb x hx)
  · omega
theorem pJ {l:List Int} (h:0≤kV (fun d=>¬dh (-1) d) l):¬∀x∈l,dh (-1) x:=by
  rcases fg (fun d=>¬dh (-1) d) l with⟨e,_⟩|⟨i,x,e,hx,hp,_⟩
  · omega
  · exact fun fQ=>hp (fQ x (acC hx))
theorem BH (w:World) (ov iv cW cX gv fv:Value) (gl:List Int) (fh:List Hd) (fl:List (List Int)) (hg:Sl vI w gv gl) (hf:Sl vh w fv fh) (o9:gG none_ vI w fh fl):aM acD 168 #[.agg #[gv,fv,ov,iv,cW,cX]] w fun r w'=>r=.bool (decide (qh gl fl))∧Ext w w':=by
 refine aM.aZ aj9 ?_
 rw[cH]
 have hN:=aH.nil w none_
 have E9:=o9.1
 refine RW.aN ?_
 refine RL.aL (bJ (cs:=[gv,fv,ov,iv,cW,cX]) rfl rfl hN ?_)
 clear hN
 intro g1 w1 (hN:aH w none_ w1 [_])
 refine RL.ag (v:=.bool false) ai (RL.ak ?_)
 iterate 2 refine RW.seq ?_
 refine RW.region (RL.ag (ah acR rfl fH) (RL.ag (aj acQ (hN.aJ 0 rfl)) ?_))
 have iH:=(hf.o.now hN).bw
 refine RL.ag (aQ acQ (hf.o.now hN)) (RL.ag (ah acR rfl cc) (RL.ag (aj acz (hN.aJ 0 rfl)) ?_))
 have kH:=(hg.o.now hN).bw
 refine RL.ag (aQ acz (hg.o.now hN)) (RL.ag (bj) (RL.ak ?_))
 refine RW.aG _ (fun hlen=>?_) (fun hlen=>?_)
 refine RW.aN (RL.ag (v:=.bool false) ai (RL.ak (RW.ret (aU (bc (RV.tmp rfl) ?_)))))
 exact⟨congrArg acV (decide_eq_false (fun h:qh gl fl=>by
  have EC:=h.1
  first
  |omega
  | (obtain ⟨b1, b2, b3⟩ := h.2 i lp eN
     first
     |omega
     |(rw[lT]at b2;cases b2;contradiction)
     |exact absurd b3 (pJ (by assumption))))).symm,hN.aX⟩
 refine RW.skip (aA ?_)
 iterate 2 refine RW.seq ?_
 refine RW.region (RL.ag (ah acR rfl fH) (RL.ag (aj acQ (hN.aJ 0 rfl)) (RL.ag (aQ acQ (hf.o.now hN)) (RL.ag (v:=.int .i64 (0)) U (RL.ak (RW.block ?_))))))
 refine RW.loop (fun k R0 cv=>∃i:Nat,R0 1=vP g1∧R0 13=fv∧R0 14=.int .i64 ((fh.length:Int))∧R0 15=vJ i∧aH w none_ cv [.aJ g1 [gv,fv,ov,iv,cW,cX] 32]∧(i+k=fh.length)∧(∀m r,m<i→fl[m]?=some r→r.length=gl.length∧r[m]?=some 0∧∀x∈r,dh (-1) x)) (fh.length) ?_ ?_
 exact⟨0,rfl,rfl,rfl,rfl,hN,by omega,fun m r hm=>absurd hm (by omega)⟩
 clear hN
 rintro k R0 cv ⟨i,bN,fe,gO,nF,hN,fP,Js⟩
 have cz:=iV bN fe gO nF
 obtain⟨fV,rfl⟩:=cz
 clear bN fe gO nF
 refine RW.aN (RL.ag (aK) (RL.ak (RW.seq ?_)))
 refine RW.aG _ (fun cD=>?_) (fun cD=>?_)
 refine RW.skip (aA (RW.seq (RW.block (RW.seq ?_))))
 have Lo:=o9.1
 have aO:=cQ fh i
 obtain⟨ap,bV⟩:=aO
 have aO:=cQ fl i
 obtain⟨lp,eN⟩:=aO
 have kG:=acC eN
 refine RW.region (RL.ag (v:=vJ i) U (RL.ag (aC acQ cc (hf.o.now hN)) (RL.ag (aF (m:=i) (a:=ap) acz (hf.o.now hN) bV) (RL.ag (v:=vJ i) ai (RL.ag (v:=(vh ap)) ai (RL.ak (RW.aN ?_)))))))
 refine RL.ag (v:=(vh ap)) U ?_
 have qP:=((o9.ik bV eN).now hN).bw
 refine RL.ag (aQ acz ((o9.ik bV eN).now hN)) (RL.ag (ah acR rfl cc) (RL.ag (aj acz (hN.aJ 0 rfl)) (RL.ag (aQ acz (hg.o.now hN)) (RL.ag (bj) (RL.ag (v:=.bool (decide (¬(lp.length:Int)=(gl.length:Int)))) U ?_)))))
 by_cases MC:¬(lp.length:Int)=(gl.length:Int)
 rw[decide_eq_true MC]
 iterate 5 refine RL.bH ?_
 refine RL.ag (v:=.bool true) (al) (RL.ag (v:=.bool true) U ?_)
 iterate 2 refine RL.bH ?_
 refine RL.ag (v:=.bool true) (al) (RL.ak (RW.bD (RW.aN (RL.ag (v:=.bool false) ai (RL.ak (RW.ret ?_))))))
 refine bb ?_
 iterate 2 refine aU ?_
 refine bb (aU (bc (RV.tmp rfl) ?_))
 exact⟨congrArg acV (decide_eq_false (fun h:qh gl fl=>by
  have EC:=h.1
  first
  |omega
  | (obtain ⟨b1, b2, b3⟩ := h.2 i lp eN
     first
     |omega
     |(rw[lT]at b2;cases b2;contradiction)
     |exact absurd b3 (pJ (by assumption))))).symm,hN.aX⟩
 rw[decide_eq_false MC]
 refine RL.aw (v:=(vh ap)) U (RL.aw (v:=vJ i) U (RL.aw (aC acz bI ((o9.ik bV eN).now hN)) ?_))
 have aO:=cQ (lp) i
 obtain⟨az,lT⟩:=aO
 refine RL.aw (aF (m:=i) (a:=az) acy ((o9.ik bV eN).now hN) lT) (RL.aw (bj) (RL.ag (v:=.bool (decide (¬az=0))) (aB) (RL.ag (v:=.bool (decide (¬az=0))) U ?_)))
 by_cases ID:¬az=0
 rw[decide_eq_true ID]
 iterate 2 refine RL.bH ?_
 refine RL.ag (v:=.bool true) (al) (RL.ak (RW.bD (RW.aN (RL.ag (v:=.bool false) ai (RL.ak (RW.ret ?_))))))
 refine bb ?_
 iterate 2 refine aU ?_
 refine bb (aU (bc (RV.tmp rfl) ?_))
 exact⟨congrArg acV (decide_eq_false (fun h:qh gl fl=>by
  have EC:=h.1
  first
  |omega
  | (obtain ⟨b1, b2, b3⟩ := h.2 i lp eN
     first
     |omega
     |(rw[lT]at b2;cases b2;contradiction)
     |exact absurd b3 (pJ (by assumption))))).symm,hN.aX⟩
 rw[decide_eq_false ID]
 refine RL.aw (v:=(vh ap)) U ?_
 refine RL.er (bu aj8 rfl rfl rfl rfl ((Bc _ lp _ ((o9.ik bV eN).now hN)).mono ?_))
 rintro _ w6 ⟨rfl,bl⟩
 replace hN:=hN.ext bl
 clear bl
 refine RL.ag (v:=.bool (decide (0≤kV (fun d=>¬dh (-1) d) lp))) (aB) (RL.ak ?_)
 refine RW.aG _ (fun fA=>?_) (fun fA=>?_)
 refine RW.aN (RL.ag (v:=.bool false) ai (RL.ak (RW.ret (bb ?_))))
 iterate 2 refine aU ?_
 refine bb (aU (bc (RV.tmp rfl) ?_))
 exact⟨congrArg acV (decide_eq_false (fun h:qh gl fl=>by
  have EC:=h.1
  first
  |omega
  | (obtain ⟨b1, b2, b3⟩ := h.2 i lp eN
     first
     |omega
     |(rw[lT]at b2;cases b2;contradiction)
     |exact absurd b3 (pJ (by assumption))))).symm,hN.aX⟩
 refine RW.skip (ba (aA (RW.region (RL.ag (aD rfl rfl rfl (bg (by omega) (by omega))) (RL.ag (v:=.int .i64 ((i:Int)+1)) U (RL.ak ?_))))))
 exact⟨k-1,by omega,i+1,rfl,rfl,rfl,rfl,hN,by omega,fun m r hm hr=>(adi m i).elim (fun e=>Js m r e hr) (fun e=>have e2:m=i:=(by omega);have e3:r=lp:=ac7 (hr.symm.trans (e2▸eN));e2▸e3▸⟨by omega,by rw[lT];exact congrArg some (by omega),Hu fA⟩)⟩
 refine RW.exit ?_
 iterate 2 refine bP ?_
 refine aY (aA (RW.aN (RL.ag (v:=.bool true) ai (RL.ak (RW.ret (bc (RV.tmp rfl) ?_))))))
 exact⟨congrArg acV (decide_eq_true (show qh gl fl from⟨by omega,fun m r hm=>Js m r (by have:=(acF.1 hm).1;omega) hm⟩)).symm,hN.aX⟩
end Go.Proofs.YtngkdkbpgoddlaaGreat
namespace Go.Proofs.YtngkdkbpgoddlaaGreat
open Go.RowKit Go.Rl
open Go.Gr
theorem xJ (nn:Int) (n:Int) (gn:Nat) (lv:Value) (hs:List Hd) (ls:List (List Int)) (w:World) (SO:ij w gn [.int .i64 n] 3) (hl:Sl vh w lv hs) (iX:gG none_ vI w hs ls):aM acD 167 #[lv,.int .i64 nn,.func (.func 160) #[] #[],.func (.func 162) #[] #[vP gn]] w fun r w'=>r=.bool (decide (gF (fun x=>x) (fun x=>0≤x∧x<n) nn ls))∧Ext w w':=by
 refine aM.aZ agv ?_
 rw[kE]
 have hN:=aH.nil w none_
 have E9:=iX.1
 refine RW.aN (RL.ag (v:=.bool false) ai (RL.ak ?_))
 iterate 2 refine RW.seq ?_
 refine RW.region (RL.ag (v:=lv) U ?_)
 have nJ:=(hl.o.now hN).bw
 refine RL.ag (aQ acQ (hl.o.now hN)) (RL.ag (v:=.int .i64 (nn)) U (RL.ag (bj) (RL.ak ?_)))
 refine RW.aG _ (fun hlen=>?_) (fun hlen=>?_)
 refine RW.aN (RL.ag (v:=.bool false) ai (RL.ak (RW.ret (aU (bc (RV.tmp rfl) ?_)))))
 exact⟨congrArg acV (decide_eq_false (fun h:gF (fun x=>x) (fun x=>0≤x∧x<n) nn ls=>by
  have h1:=h.1
  first
  |omega
  |exact absurd ((h.2 lp kG).1 x (acC hx)) (by assumption)
  |exact absurd (h.2 lp kG) (j6 hx (by omega) hy (by assumption)))).symm,hN.aX⟩
 refine RW.skip (aA ?_)
 iterate 2 refine RW.seq ?_
 refine RW.region (RL.ag (v:=lv) U (RL.ag (aQ acQ (hl.o.now hN)) (RL.ag (v:=.int .i64 (0)) U (RL.ak (RW.block ?_)))))
 refine RW.loop (fun k R0 cv=>∃i:Nat,R0 2=.func (.func 160) #[] #[]∧R0 3=.func (.func 162) #[] #[vP gn]∧R0 17=lv∧R0 18=.int .i64 ((hs.length:Int))∧R0 19=vJ i∧aH w none_ cv []∧(i+k=hs.length)∧(∀m r,m<i→ls[m]?=some r→u0 (fun x=>x) (fun x=>0≤x∧x<n) r)) (hs.length) ?_ ?_
 exact⟨0,rfl,rfl,rfl,rfl,rfl,hN,by omega,fun m r hm=>absurd hm (by omega)⟩
 clear hN
 rintro k R0 cv ⟨i,bQ,cb,eJ,fc,fz,hN,fP,r6⟩
 have cz:=hC bQ cb eJ fc fz
 obtain⟨fV,rfl⟩:=cz
 clear bQ cb eJ fc fz
 refine RW.aN (RL.ag (aK) (RL.ak (RW.seq ?_)))
 refine RW.aG _ (fun cD=>?_) (fun cD=>?_)
 refine RW.skip (aA (RW.seq (RW.block (RW.seq ?_))))
 have Lo:=iX.1
 have aO:=cQ hs i
 obtain⟨ap,bV⟩:=aO
 have aO:=cQ ls i
 obtain⟨lp,eN⟩:=aO
 have kG:=acC eN
 refine RW.region (RL.ag (aC acQ cc (hl.o.now hN)) (RL.ag (aF (m:=i) (a:=ap) acz (hl.o.now hN) bV) (RL.ag (v:=(vh ap)) ai (RL.bY (RL.ag (v:=(vh ap)) U ?_)))))
 have kH:=((iX.ik bV eN).now hN).bw
 refine RL.ag (aQ acz ((iX.ik bV eN).now hN)) (RL.ag (v:=.int .i64 (0)) U (RL.ak (RW.block ?_)))
 refine RW.loop (fun k2 R1 ez=>∃q:Nat,R1 2=.func (.func 160) #[] #[]∧R1 3=.func (.func 162) #[] #[vP gn]∧R1 10=(vh ap)∧R1 17=lv∧R1 18=.int .i64 ((hs.length:Int))∧R1 19=vJ i∧R1 23=(vh ap)∧R1 24=.int .i64 ((lp.length:Int))∧R1 25=vJ q∧aH w none_ ez []∧(q+k2=lp.length)∧(u0 (fun x=>x) (fun x=>0≤x∧x<n) (lp.take q))) (lp.length) ?_ ?_
 exact⟨0,rfl,rfl,rfl,rfl,rfl,rfl,rfl,rfl,rfl,hN,by omega,tx _ _⟩
 clear hN
 rintro k2 R1 ez ⟨q,bQ,cb,db,eJ,fc,fz,iS,rA,fU,hN,yl,lM⟩
 have cz:=Nt bQ cb db eJ fc fz iS rA fU
 obtain⟨re,rfl⟩:=cz
 clear bQ cb db eJ fc fz iS rA fU
 refine RW.aN (RL.ag (aK) (RL.ak (RW.seq ?_)))
 refine RW.aG _ (fun ep=>?_) (fun ep=>?_)
 refine RW.skip (aA (RW.seq (RW.block (RW.seq ?_))))
 have aO:=cQ lp q
 obtain⟨x,hx⟩:=aO
 obtain⟨y,hy⟩:∃y,lp[q-1]?=some y:=⟨_,acM (by omega)⟩
 refine RW.region (RL.ag (v:=vJ q) U (RL.ag (aC acz bI ((iX.ik bV eN).now hN)) (RL.ag (aF (m:=q) (a:=x) acy ((iX.ik bV eN).now hN) hx) (RL.ag (v:=vJ q) ai (RL.ag (v:=.int .i64 (x)) ai (RL.ak (RW.seq ?_)))))))
 replace hN:=hN.ext (Ext.drew ez)
 refine RW.bA (fun u=>aH w none_ u []) 21 [(0,0),(1,0),(2,1),(3,0),(4,0),(5,0),(6,0),(7,0),(8,0),(9,0),(11,0),(12,0),(13,0),(14,0),(15,0),(16,0),(10,1),(17,1),(18,0),(19,0),(20,0)] (by intro _ _ _ h;exact h) hN (RQ.an (v:=.func (.func 162) #[] #[vP gn]) rfl (fun w hS=>U) (RQ.an (v:=.int .i64 (x)) rfl (fun w hS=>U) ?_))
 refine RQ.bW rfl (ct (first:=#[]) (captured:=#[vP gn]) (v0:=.int .i64 (x)) (args:=#[.int .i64 (x),vP gn]) air rfl rfl (by simp) rfl rfl ((Af n gn (x) _ (SO.ext hN.aX)).mono ?_))
 rintro _ w5 ⟨rfl,bl⟩
 replace hN:=hN.ext bl
 clear bl
 refine⟨hN,?_⟩
 refine RQ.an rfl (fun w hS=>(cU rfl)) (RQ.an (v:=.bool (decide (¬(0≤x∧x<n)))) rfl (fun w hS=>U) ?_)
 by_cases rD:¬(0≤x∧x<n)
 rw[decide_eq_true rD]
 iterate 3 refine RQ.bU rfl ?_
 iterate 11 refine RQ.dP rfl ?_
 refine RQ.bU rfl (RQ.an (v:=.bool true) rfl (fun w hS=>(al)) (RQ.bq (aA (RW.bD (RW.aN (RL.ag (v:=.bool false) ai (RL.ak ?_)))))))
 refine RW.ret (bb ?_)
 iterate 2 refine aU ?_
 iterate 2 refine bb ?_
 iterate 2 refine aU ?_
 refine bb (aU (bc (RV.tmp rfl) ?_))
 exact⟨congrArg acV (decide_eq_false (fun h:gF (fun x=>x) (fun x=>0≤x∧x<n) nn ls=>by
  have h1:=h.1
  first
  |omega
  |exact absurd ((h.2 lp kG).1 x (acC hx)) (by assumption)
  |exact absurd (h.2 lp kG) (j6 hx (by omega) hy (by assumption)))).symm,hN.aX⟩
 rw[decide_eq_false rD]
 refine RQ.aR (v:=vJ q) rfl (fun w hS=>U) (RQ.aR rfl (fun w hS=>(cq)) (RQ.aR (v:=.bool (decide (0<(q:Int)))) rfl (fun w hS=>U) ?_))
 by_cases rC:0<(q:Int)
 rw[decide_eq_true rC]
 refine RQ.aR (v:=.func (.func 160) #[] #[]) rfl (fun w hS=>U) (RQ.aR (v:=.int .i64 (x)) rfl (fun w hS=>U) (RQ.aR (v:=.func (.func 160) #[] #[]) rfl (fun w hS=>U) (RQ.aR (v:=(vh ap)) rfl (fun w hS=>U) (RQ.aR (v:=vJ q) rfl (fun w hS=>U) (RQ.aR rfl (fun w hS=>(aD rfl rfl rfl (pn (by omega) (by omega)))) (RQ.aR rfl (fun w hS=>(aC acz bI ((iX.ik bV eN).now hS))) (RQ.aR rfl (fun w hS=>(aF (m:=((q:Int)-1).toNat) (a:=y) acy ((iX.ik bV eN).now hS) (by rw[show((q:Int)-1).toNat=q-1 by omega];exact hy))) ?_)))))))
 refine RQ.dQ rfl (ct (first:=#[]) (captured:=#[]) (v0:=.int .i64 (x)) (args:=#[.int .i64 (x)]) agu rfl rfl (by simp) rfl rfl ((l5 (x) _).mono ?_))
 rintro _ w7 ⟨rfl,bl⟩
 replace hN:=hN.ext bl
 clear bl
 refine⟨hN,?_⟩
 refine RQ.dQ rfl (ct (first:=#[]) (captured:=#[]) (v0:=.int .i64 (y)) (args:=#[.int .i64 (y)]) agu rfl rfl (by simp) rfl rfl ((l5 (y) _).mono ?_))
 rintro _ w8 ⟨rfl,bl⟩
 replace hN:=hN.ext bl
 clear bl
 refine⟨hN,?_⟩
 refine RQ.aR rfl (fun w hS=>(mu rfl rfl)) (RQ.aR (v:=.bool (decide (x≤y))) rfl (fun w hS=>(al)) (RQ.an (v:=.bool (decide (x≤y))) rfl (fun w hS=>(aB)) (RQ.bq (aA ?_))))
 refine RW.aG _ (fun fA=>?_) (fun fA=>?_)
 refine RW.aN (RL.ag (v:=.bool false) ai (RL.ak (RW.ret (bb ?_))))
 iterate 2 refine aU ?_
 iterate 2 refine bb ?_
 iterate 2 refine aU ?_
 refine bb (aU (bc (RV.tmp rfl) ?_))
 exact⟨congrArg acV (decide_eq_false (fun h:gF (fun x=>x) (fun x=>0≤x∧x<n) nn ls=>by
  have h1:=h.1
  first
  |omega
  |exact absurd ((h.2 lp kG).1 x (acC hx)) (by assumption)
  |exact absurd (h.2 lp kG) (j6 hx (by omega) hy (by assumption)))).symm,hN.aX⟩
 refine RW.skip (ba (aA (RW.region (RL.ag (aD rfl rfl rfl (bg (by omega) (by omega))) (RL.ag (v:=.int .i64 ((q:Int)+1)) U (RL.ak ?_))))))
 exact⟨k2-1,by omega,q+1,rfl,rfl,rfl,rfl,rfl,rfl,rfl,rfl,rfl,hN,by omega,kf lM hx (acX.1 (by assumption)) (fun z h0 hz=>by
   rw[hy]at hz;cases hz;omega)⟩
 rw[decide_eq_false rC]
 iterate 11 refine RQ.bU rfl ?_
 refine RQ.aR (v:=.bool false) rfl (fun w hS=>(aB)) (RQ.an (v:=.bool false) rfl (fun w hS=>(aB)) (RQ.bq (aA (RW.cj (RW.skip (ba (aA (RW.region (RL.ag (aD rfl rfl rfl (bg (by omega) (by omega))) ?_)))))))))
 refine RL.ag (v:=.int .i64 ((q:Int)+1)) U (RL.ak ?_)
 exact⟨k2-1,by omega,q+1,rfl,rfl,rfl,rfl,rfl,rfl,rfl,rfl,rfl,hN,by omega,kf lM hx (acX.1 (by assumption)) (fun z h0 hz=>by
   rw[hy]at hz;cases hz;omega)⟩
 refine RW.exit ?_
 iterate 2 refine bP ?_
 refine aY (ba (aA ?_))
 rw[show q=lp.length by omega,adm]at lM
 refine RW.region (RL.ag (aD rfl rfl rfl (bg (by omega) (by omega))) (RL.ag (v:=.int .i64 ((i:Int)+1)) U (RL.ak ?_)))
 exact⟨k-1,by omega,i+1,rfl,rfl,rfl,rfl,rfl,hN,by omega,fun m r hm hr=>(adi m i).elim (fun e=>r6 m r e hr) (fun e=>have e2:m=i:=(by omega);have e3:r=lp:=ac7 (hr.symm.trans (e2▸eN));e3▸lM)⟩
 refine RW.exit ?_
 iterate 2 refine bP ?_
 refine aY (aA (RW.aN (RL.ag (v:=.bool true) ai (RL.ak (RW.ret (bc (RV.tmp rfl) ?_))))))
 exact⟨congrArg acV (decide_eq_true (show gF (fun x=>x) (fun x=>0≤x∧x<n) nn ls from⟨by omega,fun r hr=>by
  have aO:=ade hr
  obtain⟨m,hm⟩:=aO
  exact r6 m r (by have:=(acF.1 hm).1;omega) hm⟩)).symm,hN.aX⟩
theorem oq (nn:Int) (n:Int) (gn gi:Nat) (gt:Nat) (gv fv ov iv cW cX:Value) (g:List Int) (lv:Value) (hs:List Hd) (ls:List (List Int)) (w:World) (SO:ij w gn [.int .i64 n] 3) (O9:ij w gi [.func (.func 162) #[] #[vP gn]] 228) (Je:ij w gt [gv,fv,ov,iv,cW,cX] 32) (hg:Sl vI w gv g) (hR:u1 g) (sH:g.length≤16777216) (hl:Sl vh w lv hs) (iX:gG none_ vI w hs ls):aM acD 167 #[lv,.int .i64 nn,.func (.func 160) #[] #[],.func (.func 166) #[] #[vP gi,vP gt]] w fun r w'=>r=.bool (decide (gF (fun x=>x) (fun x=>(0≤x∧x<n)∧x∉g) nn ls))∧Ext w w':=by
 refine aM.aZ agv ?_
 rw[kE]
 have hN:=aH.nil w none_
 have E9:=iX.1
 refine RW.aN (RL.ag (v:=.bool false) ai (RL.ak ?_))
 iterate 2 refine RW.seq ?_
 refine RW.region (RL.ag (v:=lv) U ?_)
 have nJ:=(hl.o.now hN).bw
 refine RL.ag (aQ acQ (hl.o.now hN)) (RL.ag (v:=.int .i64 (nn)) U (RL.ag (bj) (RL.ak ?_)))
 refine RW.aG _ (fun hlen=>?_) (fun hlen=>?_)
 refine RW.aN (RL.ag (v:=.bool false) ai (RL.ak (RW.ret (aU (bc (RV.tmp rfl) ?_)))))
 exact⟨congrArg acV (decide_eq_false (fun h:gF (fun x=>x) (fun x=>(0≤x∧x<n)∧x∉g) nn ls=>by
  have h1:=h.1
  first
  |omega
  |exact absurd ((h.2 lp kG).1 x (acC hx)) (by assumption)
  |exact absurd (h.2 lp kG) (j6 hx (by omega) hy (by assumption)))).symm,hN.aX⟩
 refine RW.skip (aA ?_)
 iterate 2 refine RW.seq ?_
 refine RW.region (RL.ag (v:=lv) U (RL.ag (aQ acQ (hl.o.now hN)) (RL.ag (v:=.int .i64 (0)) U (RL.ak (RW.block ?_)))))
 refine RW.loop (fun k R0 cv=>∃i:Nat,R0 2=.func (.func 160) #[] #[]∧R0 3=.func (.func 166) #[] #[vP gi,vP gt]∧R0 17=lv∧R0 18=.int .i64 ((hs.length:Int))∧R0 19=vJ i∧aH w none_ cv []∧(i+k=hs.length)∧(∀m r,m<i→ls[m]?=some r→u0 (fun x=>x) (fun x=>(0≤x∧x<n)∧x∉g) r)) (hs.length) ?_ ?_
 exact⟨0,rfl,rfl,rfl,rfl,rfl,hN,by omega,fun m r hm=>absurd hm (by omega)⟩
 clear hN
 rintro k R0 cv ⟨i,bQ,cb,eJ,fc,fz,hN,fP,r6⟩
 have cz:=hC bQ cb eJ fc fz
 obtain⟨fV,rfl⟩:=cz
 clear bQ cb eJ fc fz
 refine RW.aN (RL.ag (aK) (RL.ak (RW.seq ?_)))
 refine RW.aG _ (fun cD=>?_) (fun cD=>?_)
 refine RW.skip (aA (RW.seq (RW.block (RW.seq ?_))))
 have Lo:=iX.1
 have aO:=cQ hs i
 obtain⟨ap,bV⟩:=aO
 have aO:=cQ ls i
 obtain⟨lp,eN⟩:=aO
 have kG:=acC eN
 refine RW.region (RL.ag (aC acQ cc (hl.o.now hN)) (RL.ag (aF (m:=i) (a:=ap) acz (hl.o.now hN) bV) (RL.ag (v:=(vh ap)) ai (RL.bY (RL.ag (v:=(vh ap)) U ?_)))))
 have kH:=((iX.ik bV eN).now hN).bw
 refine RL.ag (aQ acz ((iX.ik bV eN).now hN)) (RL.ag (v:=.int .i64 (0)) U (RL.ak (RW.block ?_)))
 refine RW.loop (fun k2 R1 ez=>∃q:Nat,R1 2=.func (.func 160) #[] #[]∧R1 3=.func (.func 166) #[] #[vP gi,vP gt]∧R1 10=(vh ap)∧R1 17=lv∧R1 18=.int .i64 ((hs.length:Int))∧R1 19=vJ i∧R1 23=(vh ap)∧R1 24=.int .i64 ((lp.length:Int))∧R1 25=vJ q∧aH w none_ ez []∧(q+k2=lp.length)∧(u0 (fun x=>x) (fun x=>(0≤x∧x<n)∧x∉g) (lp.take q))) (lp.length) ?_ ?_
 exact⟨0,rfl,rfl,rfl,rfl,rfl,rfl,rfl,rfl,rfl,hN,by omega,tx _ _⟩
 clear hN
 rintro k2 R1 ez ⟨q,bQ,cb,db,eJ,fc,fz,iS,rA,fU,hN,yl,lM⟩
 have cz:=Nt bQ cb db eJ fc fz iS rA fU
 obtain⟨re,rfl⟩:=cz
 clear bQ cb db eJ fc fz iS rA fU
 refine RW.aN (RL.ag (aK) (RL.ak (RW.seq ?_)))
 refine RW.aG _ (fun ep=>?_) (fun ep=>?_)
 refine RW.skip (aA (RW.seq (RW.block (RW.seq ?_))))
 have aO:=cQ lp q
 obtain⟨x,hx⟩:=aO
 obtain⟨y,hy⟩:∃y,lp[q-1]?=some y:=⟨_,acM (by omega)⟩
 refine RW.region (RL.ag (v:=vJ q) U (RL.ag (aC acz bI ((iX.ik bV eN).now hN)) (RL.ag (aF (m:=q) (a:=x) acy ((iX.ik bV eN).now hN) hx) (RL.ag (v:=vJ q) ai (RL.ag (v:=.int .i64 (x)) ai (RL.ak (RW.seq ?_)))))))
 replace hN:=hN.ext (Ext.drew ez)
 refine RW.bA (fun u=>aH w none_ u []) 21 [(0,0),(1,0),(2,1),(3,0),(4,0),(5,0),(6,0),(7,0),(8,0),(9,0),(11,0),(12,0),(13,0),(14,0),(15,0),(16,0),(10,1),(17,1),(18,0),(19,0),(20,0)] (by intro _ _ _ h;exact h) hN (RQ.an (v:=.func (.func 166) #[] #[vP gi,vP gt]) rfl (fun w hS=>U) (RQ.an (v:=.int .i64 (x)) rfl (fun w hS=>U) ?_))
 refine RQ.bW rfl (ct (first:=#[]) (captured:=#[vP gi,vP gt]) (v0:=.int .i64 (x)) (args:=#[.int .i64 (x),vP gi,vP gt]) aj6 rfl rfl (by simp) rfl rfl ((BG n gn gi gt _ _ _ _ _ _ g (x) _ (SO.ext hN.aX) (O9.ext hN.aX) (Je.ext hN.aX) (hg.o.now hN) hR sH).mono ?_))
 rintro _ w5 ⟨rfl,bl⟩
 replace hN:=hN.ext bl
 clear bl
 refine⟨hN,?_⟩
 refine RQ.an rfl (fun w hS=>(cU rfl)) (RQ.an (v:=.bool (decide (¬((0≤x∧x<n)∧x∉g)))) rfl (fun w hS=>U) ?_)
 by_cases rD:¬((0≤x∧x<n)∧x∉g)
 rw[decide_eq_true rD]
 iterate 3 refine RQ.bU rfl ?_
 iterate 11 refine RQ.dP rfl ?_
 refine RQ.bU rfl (RQ.an (v:=.bool true) rfl (fun w hS=>(al)) (RQ.bq (aA (RW.bD (RW.aN (RL.ag (v:=.bool false) ai (RL.ak ?_)))))))
 refine RW.ret (bb ?_)
 iterate 2 refine aU ?_
 iterate 2 refine bb ?_
 iterate 2 refine aU ?_
 refine bb (aU (bc (RV.tmp rfl) ?_))
 exact⟨congrArg acV (decide_eq_false (fun h:gF (fun x=>x) (fun x=>(0≤x∧x<n)∧x∉g) nn ls=>by
  have h1:=h.1
  first
  |omega
  |exact absurd ((h.2 lp kG).1 x (acC hx)) (by assumption)
  |exact absurd (h.2 lp kG) (j6 hx (by omega) hy (by assumption)))).symm,hN.aX⟩
 rw[decide_eq_false rD]
 refine RQ.aR (v:=vJ q) rfl (fun w hS=>U) (RQ.aR rfl (fun w hS=>(cq)) (RQ.aR (v:=.bool (decide (0<(q:Int)))) rfl (fun w hS=>U) ?_))
 by_cases rC:0<(q:Int)
 rw[decide_eq_true rC]
 refine RQ.aR (v:=.func (.func 160) #[] #[]) rfl (fun w hS=>U) (RQ.aR (v:=.int .i64 (x)) rfl (fun w hS=>U) (RQ.aR (v:=.func (.func 160) #[] #[]) rfl (fun w hS=>U) (RQ.aR (v:=(vh ap)) rfl (fun w hS=>U) (RQ.aR (v:=vJ q) rfl (fun w hS=>U) (RQ.aR rfl (fun w hS=>(aD rfl rfl rfl (pn (by omega) (by omega)))) (RQ.aR rfl (fun w hS=>(aC acz bI ((iX.ik bV eN).now hS))) (RQ.aR rfl (fun w hS=>(aF (m:=((q:Int)-1).toNat) (a:=y) acy ((iX.ik bV eN).now hS) (by rw[show((q:Int)-1).toNat=q-1 by omega];exact hy))) ?_)))))))
 refine RQ.dQ rfl (ct (first:=#[]) (captured:=#[]) (v0:=.int .i64 (x)) (args:=#[.int .i64 (x)]) agu rfl rfl (by simp) rfl rfl ((l5 (x) _).mono ?_))
 rintro _ w7 ⟨rfl,bl⟩
 replace hN:=hN.ext bl
 clear bl
 refine⟨hN,?_⟩
 refine RQ.dQ rfl (ct (first:=#[]) (captured:=#[]) (v0:=.int .i64 (y)) (args:=#[.int .i64 (y)]) agu rfl rfl (by simp) rfl rfl ((l5 (y) _).mono ?_))
 rintro _ w8 ⟨rfl,bl⟩
 replace hN:=hN.ext bl
 clear bl
 refine⟨hN,?_⟩
 refine RQ.aR rfl (fun w hS=>(mu rfl rfl)) (RQ.aR (v:=.bool (decide (x≤y))) rfl (fun w hS=>(al)) (RQ.an (v:=.bool (decide (x≤y))) rfl (fun w hS=>(aB)) (RQ.bq (aA ?_))))
 refine RW.aG _ (fun fA=>?_) (fun fA=>?_)
 refine RW.aN (RL.ag (v:=.bool false) ai (RL.ak (RW.ret (bb ?_))))
 iterate 2 refine aU ?_
 iterate 2 refine bb ?_
 iterate 2 refine aU ?_
 refine bb (aU (bc (RV.tmp rfl) ?_))
 exact⟨congrArg acV (decide_eq_false (fun h:gF (fun x=>x) (fun x=>(0≤x∧x<n)∧x∉g) nn ls=>by
  have h1:=h.1
  first
  |omega
  |exact absurd ((h.2 lp kG).1 x (acC hx)) (by assumption)
  |exact absurd (h.2 lp kG) (j6 hx (by omega) hy (by assumption)))).symm,hN.aX⟩
 refine RW.skip (ba (aA (RW.region (RL.ag (aD rfl rfl rfl (bg (by omega) (by omega))) (RL.ag (v:=.int .i64 ((q:Int)+1)) U (RL.ak ?_))))))
 exact⟨k2-1,by omega,q+1,rfl,rfl,rfl,rfl,rfl,rfl,rfl,rfl,rfl,hN,by omega,kf lM hx (acX.1 (by assumption)) (fun z h0 hz=>by
   rw[hy]at hz;cases hz;omega)⟩
 rw[decide_eq_false rC]
 iterate 11 refine RQ.bU rfl ?_
 refine RQ.aR (v:=.bool false) rfl (fun w hS=>(aB)) (RQ.an (v:=.bool false) rfl (fun w hS=>(aB)) (RQ.bq (aA (RW.cj (RW.skip (ba (aA (RW.region (RL.ag (aD rfl rfl rfl (bg (by omega) (by omega))) ?_)))))))))
 refine RL.ag (v:=.int .i64 ((q:Int)+1)) U (RL.ak ?_)
 exact⟨k2-1,by omega,q+1,rfl,rfl,rfl,rfl,rfl,rfl,rfl,rfl,rfl,hN,by omega,kf lM hx (acX.1 (by assumption)) (fun z h0 hz=>by
   rw[hy]at hz;cases hz;omega)⟩
 refine RW.exit ?_
 iterate 2 refine bP ?_
 refine aY (ba (aA ?_))
 rw[show q=lp.length by omega,adm]at lM
 refine RW.region (RL.ag (aD rfl rfl rfl (bg (by omega) (by omega))) (RL.ag (v:=.int .i64 ((i:Int)+1)) U (RL.ak ?_)))
 exact⟨k-1,by omega,i+1,rfl,rfl,rfl,rfl,rfl,hN,by omega,fun m r hm hr=>(adi m i).elim (fun e=>r6 m r e hr) (fun e=>have e2:m=i:=(by omega);have e3:r=lp:=ac7 (hr.symm.trans (e2▸eN));e3▸lM)⟩
 refine RW.exit ?_
 iterate 2 refine bP ?_
 refine aY (aA (RW.aN (RL.ag (v:=.bool true) ai (RL.ak (RW.ret (bc (RV.tmp rfl) ?_))))))
 exact⟨congrArg acV (decide_eq_true (show gF (fun x=>x) (fun x=>(0≤x∧x<n)∧x∉g) nn ls from⟨by omega,fun r hr=>by
  have aO:=ade hr
  obtain⟨m,hm⟩:=aO
  exact r6 m r (by have:=(acF.1 hm).1;omega) hm⟩)).symm,hN.aX⟩
theorem lC (nn:Int) (gt:Nat) (gv fv ov iv cW cX:Value) (g:List Int) (lv:Value) (hs:List Hd) (ls:List (List I2)) (w:World) (Je:ij w gt [gv,fv,ov,iv,cW,cX] 32) (hg:Sl vI w gv g) (hR:u1 g) (sH:g.length≤16777216) (hl:Sl vh w lv hs) (iX:gJ none_ bG w hs ls):aM acD 169 #[lv,.int .i64 nn,.func (.func 161) #[] #[],.func (.func 163) #[] #[vP gt]] w fun r w'=>r=.bool (decide (gF (fun x:I2=>x.1) (fun x:I2=>x.1∈g∧dh 0 x.2) nn ls))∧Ext w w':=by
 refine aM.aZ ait ?_
 rw[kE]
 have hN:=aH.nil w none_
 have E9:=iX.1
 refine RW.aN (RL.ag (v:=.bool false) ai (RL.ak ?_))
 iterate 2 refine RW.seq ?_
 refine RW.region (RL.ag (v:=lv) U ?_)
 have nJ:=(hl.o.now hN).bw
 refine RL.ag (aQ ac5 (hl.o.now hN)) (RL.ag (v:=.int .i64 (nn)) U (RL.ag (bj) (RL.ak ?_)))
 refine RW.aG _ (fun hlen=>?_) (fun hlen=>?_)
 refine RW.aN (RL.ag (v:=.bool false) ai (RL.ak (RW.ret (aU (bc (RV.tmp rfl) ?_)))))
 exact⟨congrArg acV (decide_eq_false (fun h:gF (fun x:I2=>x.1) (fun x:I2=>x.1∈g∧dh 0 x.2) nn ls=>by
  have h1:=h.1
  first
  |omega
  |exact absurd ((h.2 lp kG).1 x (acC hx)) (by assumption)
  |exact absurd (h.2 lp kG) (j6 hx (by omega) hy (by assumption)))).symm,hN.aX⟩
 refine RW.skip (aA ?_)
 iterate 2 refine RW.seq ?_
 refine RW.region (RL.ag (v:=lv) U (RL.ag (aQ ac5 (hl.o.now hN)) (RL.ag (v:=.int .i64 (0)) U (RL.ak (RW.block ?_)))))
 refine RW.loop (fun k R0 cv=>∃i:Nat,R0 2=.func (.func 161) #[] #[]∧R0 3=.func (.func 163) #[] #[vP gt]∧R0 17=lv∧R0 18=.int .i64 ((hs.length:Int))∧R0 19=vJ i∧aH w none_ cv []∧(i+k=hs.length)∧(∀m r,m<i→ls[m]?=some r→u0 (fun x:I2=>x.1) (fun x:I2=>x.1∈g∧dh 0 x.2) r)) (hs.length) ?_ ?_
 exact⟨0,rfl,rfl,rfl,rfl,rfl,hN,by omega,fun m r hm=>absurd hm (by omega)⟩
 clear hN
 rintro k R0 cv ⟨i,bQ,cb,eJ,fc,fz,hN,fP,r6⟩
 have cz:=hC bQ cb eJ fc fz
 obtain⟨fV,rfl⟩:=cz
 clear bQ cb eJ fc fz
 refine RW.aN (RL.ag (aK) (RL.ak (RW.seq ?_)))
 refine RW.aG _ (fun cD=>?_) (fun cD=>?_)
 refine RW.skip (aA (RW.seq (RW.block (RW.seq ?_))))
 have Lo:=iX.1
 have aO:=cQ hs i
 obtain⟨ap,bV⟩:=aO
 have aO:=cQ ls i
 obtain⟨lp,eN⟩:=aO
 have kG:=acC eN
 refine RW.region (RL.ag (aC ac5 lx (hl.o.now hN)) (RL.ag (aF (m:=i) (a:=ap) ac1 (hl.o.now hN) bV) (RL.ag (v:=(vh ap)) ai (RL.bY (RL.ag (v:=(vh ap)) U ?_)))))
 have kH:=((iX.ik bV eN).now hN).bw
 refine RL.ag (bO ac1 ((iX.ik bV eN).now hN)) (RL.ag (v:=.int .i64 (0)) U (RL.ak (RW.block ?_)))
 refine RW.loop (fun k2 R1 ez=>∃q:Nat,R1 2=.func (.func 161) #[] #[]∧R1 3=.func (.func 163) #[] #[vP gt]∧R1 10=(vh ap)∧R1 17=lv∧R1 18=.int .i64 ((hs.length:Int))∧R1 19=vJ i∧R1 23=(vh ap)∧R1 24=.int .i64 ((lp.length:Int))∧R1 25=vJ q∧aH w none_ ez []∧(q+k2=lp.length)∧(u0 (fun x:I2=>x.1) (fun x:I2=>x.1∈g∧dh 0 x.2) (lp.take q))) (lp.length) ?_ ?_
 exact⟨0,rfl,rfl,rfl,rfl,rfl,rfl,rfl,rfl,rfl,hN,by omega,tx _ _⟩
 clear hN
 rintro k2 R1 ez ⟨q,bQ,cb,db,eJ,fc,fz,iS,rA,fU,hN,yl,lM⟩
 have cz:=Nt bQ cb db eJ fc fz iS rA fU
 obtain⟨re,rfl⟩:=cz
 clear bQ cb db eJ fc fz iS rA fU
 refine RW.aN (RL.ag (aK) (RL.ak (RW.seq ?_)))
 refine RW.aG _ (fun ep=>?_) (fun ep=>?_)
 refine RW.skip (aA (RW.seq (RW.block (RW.seq ?_))))
 have aO:=cQ lp q
 obtain⟨x,hx⟩:=aO
 obtain⟨y,hy⟩:∃y,lp[q-1]?=some y:=⟨_,acM (by omega)⟩
 refine RW.region (RL.ag (v:=vJ q) U (RL.ag (aT ac1 dY bp ((iX.ik bV eN).now hN)) (RL.ag (b0 (m:=q) (a:=x) acY dY bp ((iX.ik bV eN).now hN) hx (cs:=[.int .i64 (x.1),.int .i64 (x.2)])) ?_)))
 refine RL.aL (bz (cs:=[.int .i64 (0),.int .i64 (0)]) pc rfl hN ?_)
 clear hN
 intro g4 w4 (hN:aH w none_ w4 [_])
 refine RL.ag (v:=vJ q) ai ?_
 refine RL.aL (aS (vs:=[.int .i64 (x.1),.int .i64 (x.2)]) dY rfl rfl rfl (bh (bh cZ)) hN 0 rfl rfl ?_)
 clear hN
 intro w5 (hN:aH w none_ w5 [_])
 refine RL.ak (RW.seq ?_)
 replace hN:=hN.ext (Ext.drew w5)
 refine RW.bA (fun u=>aH w none_ u [.aJ g4 [.int .i64 (x.1),.int .i64 (x.2)] 135]) 21 [(0,0),(1,0),(2,1),(3,0),(4,0),(5,0),(6,0),(7,0),(8,0),(9,0),(11,0),(12,0),(13,0),(14,0),(15,0),(16,0),(10,1),(17,1),(18,0),(19,0),(20,0)] (by intro _ _ _ h;exact h) hN (RQ.an (v:=.func (.func 163) #[] #[vP gt]) rfl (fun w hS=>U) (RQ.an rfl (fun w hS=>(aE (cs:=[.int .i64 (x.1),.int .i64 (x.2)]) acY dY (hS.aJ 0 rfl))) ?_))
 refine RQ.bW rfl (ct (first:=#[]) (captured:=#[vP gt]) (v0:=.agg #[.int .i64 (x.1),.int .i64 (x.2)]) (args:=#[.agg #[.int .i64 (x.1),.int .i64 (x.2)],vP gt]) aj5 rfl rfl (by simp) rfl rfl ((xz gt _ _ _ _ _ _ g (x.1,x.2) _ (Je.ext hN.aX) (hg.o.now hN) hR sH).mono ?_))
 rintro _ w6 ⟨rfl,bl⟩
 replace hN:=hN.ext bl
 clear bl
 refine⟨hN,?_⟩
 refine RQ.an rfl (fun w hS=>(cU rfl)) (RQ.an (v:=.bool (decide (¬(x.1∈g∧dh 0 x.2)))) rfl (fun w hS=>U) ?_)
 by_cases rD:¬(x.1∈g∧dh 0 x.2)
 rw[decide_eq_true rD]
 iterate 3 refine RQ.bU rfl ?_
 iterate 11 refine RQ.dP rfl ?_
 refine RQ.bU rfl (RQ.an (v:=.bool true) rfl (fun w hS=>(al)) (RQ.bq (aA (RW.bD (RW.aN (RL.ag (v:=.bool false) ai (RL.ak ?_)))))))
 refine RW.ret (bb ?_)
 iterate 2 refine aU ?_
 iterate 2 refine bb ?_
 iterate 2 refine aU ?_
 refine bb (aU (bc (RV.tmp rfl) ?_))
 exact⟨congrArg acV (decide_eq_false (fun h:gF (fun x:I2=>x.1) (fun x:I2=>x.1∈g∧dh 0 x.2) nn ls=>by
  have h1:=h.1
  first
  |omega
  |exact absurd ((h.2 lp kG).1 x (acC hx)) (by assumption)
  |exact absurd (h.2 lp kG) (j6 hx (by omega) hy (by assumption)))).symm,hN.aX⟩
 rw[decide_eq_false rD]
 refine RQ.aR (v:=vJ q) rfl (fun w hS=>U) (RQ.aR rfl (fun w hS=>(cq)) (RQ.aR (v:=.bool (decide (0<(q:Int)))) rfl (fun w hS=>U) ?_))
 by_cases rC:0<(q:Int)
 rw[decide_eq_true rC]
 refine RQ.aR (v:=.func (.func 161) #[] #[]) rfl (fun w hS=>U) (RQ.aR rfl (fun w hS=>(aE (cs:=[.int .i64 (x.1),.int .i64 (x.2)]) acY dY (hS.aJ 0 rfl))) (RQ.aR (v:=.func (.func 161) #[] #[]) rfl (fun w hS=>U) (RQ.aR (v:=(vh ap)) rfl (fun w hS=>U) (RQ.aR (v:=vJ q) rfl (fun w hS=>U) (RQ.aR rfl (fun w hS=>(aD rfl rfl rfl (pn (by omega) (by omega)))) (RQ.aR rfl (fun w hS=>(aT ac1 dY bp ((iX.ik bV eN).now hS))) (RQ.aR rfl (fun w hS=>(b0 (m:=((q:Int)-1).toNat) (a:=y) acY dY bp ((iX.ik bV eN).now hS) (by rw[show((q:Int)-1).toNat=q-1 by omega];exact hy) (cs:=[.int .i64 (y.1),.int .i64 (y.2)]))) ?_)))))))
 refine RQ.dQ rfl (ct (first:=#[]) (captured:=#[]) (v0:=.agg #[.int .i64 (x.1),.int .i64 (x.2)]) (args:=#[.agg #[.int .i64 (x.1),.int .i64 (x.2)]]) aiq rfl rfl (by simp) rfl rfl ((wQ (x.1,x.2) _).mono ?_))
 rintro _ w7 ⟨rfl,bl⟩
 replace hN:=hN.ext bl
 clear bl
 refine⟨hN,?_⟩
 refine RQ.dQ rfl (ct (first:=#[]) (captured:=#[]) (v0:=.agg #[.int .i64 (y.1),.int .i64 (y.2)]) (args:=#[.agg #[.int .i64 (y.1),.int .i64 (y.2)]]) aiq rfl rfl (by simp) rfl rfl ((wQ (y.1,y.2) _).mono ?_))
 rintro _ w8 ⟨rfl,bl⟩
 replace hN:=hN.ext bl
 clear bl
 refine⟨hN,?_⟩
 refine RQ.aR rfl (fun w hS=>(mu rfl rfl)) (RQ.aR (v:=.bool (decide (x.1≤y.1))) rfl (fun w hS=>(al)) (RQ.an (v:=.bool (decide (x.1≤y.1))) rfl (fun w hS=>(aB)) (RQ.bq (aA ?_))))
 refine RW.aG _ (fun fA=>?_) (fun fA=>?_)
 refine RW.aN (RL.ag (v:=.bool false) ai (RL.ak (RW.ret (bb ?_))))
 iterate 2 refine aU ?_
 iterate 2 refine bb ?_
 iterate 2 refine aU ?_
 refine bb (aU (bc (RV.tmp rfl) ?_))
 exact⟨congrArg acV (decide_eq_false (fun h:gF (fun x:I2=>x.1) (fun x:I2=>x.1∈g∧dh 0 x.2) nn ls=>by
  have h1:=h.1
  first
  |omega
  |exact absurd ((h.2 lp kG).1 x (acC hx)) (by assumption)
  |exact absurd (h.2 lp kG) (j6 hx (by omega) hy (by assumption)))).symm,hN.aX⟩
 refine RW.skip (ba (aA (RW.region (RL.ag (aD rfl rfl rfl (bg (by omega) (by omega))) (RL.ag (v:=.int .i64 ((q:Int)+1)) U (RL.ak ?_))))))
 exact⟨k2-1,by omega,q+1,rfl,rfl,rfl,rfl,rfl,rfl,rfl,rfl,rfl,(hN.sb []),by omega,kf lM hx (acX.1 (by assumption)) (fun z h0 hz=>by
   rw[hy]at hz;cases hz;omega)⟩
 rw[decide_eq_false rC]
 iterate 11 refine RQ.bU rfl ?_
 refine RQ.aR (v:=.bool false) rfl (fun w hS=>(aB)) (RQ.an (v:=.bool false) rfl (fun w hS=>(aB)) (RQ.bq (aA (RW.cj (RW.skip (ba (aA (RW.region (RL.ag (aD rfl rfl rfl (bg (by omega) (by omega))) ?_)))))))))
 refine RL.ag (v:=.int .i64 ((q:Int)+1)) U (RL.ak ?_)
 exact⟨k2-1,by omega,q+1,rfl,rfl,rfl,rfl,rfl,rfl,rfl,rfl,rfl,(hN.sb []),by omega,kf lM hx (acX.1 (by assumption)) (fun z h0 hz=>by
   rw[hy]at hz;cases hz;omega)⟩
 refine RW.exit ?_
 iterate 2 refine bP ?_
 refine aY (ba (aA ?_))
 rw[show q=lp.length by omega,adm]at lM
 refine RW.region (RL.ag (aD rfl rfl rfl (bg (by omega) (by omega))) (RL.ag (v:=.int .i64 ((i:Int)+1)) U (RL.ak ?_)))
 exact⟨k-1,by omega,i+1,rfl,rfl,rfl,rfl,rfl,hN,by omega,fun m r hm hr=>(adi m i).elim (fun e=>r6 m r e hr) (fun e=>have e2:m=i:=(by omega);have e3:r=lp:=ac7 (hr.symm.trans (e2▸eN));e3▸lM)⟩
 refine RW.exit ?_
 iterate 2 refine bP ?_
 refine aY (aA (RW.aN (RL.ag (v:=.bool true) ai (RL.ak (RW.ret (bc (RV.tmp rfl) ?_))))))
 exact⟨congrArg acV (decide_eq_true (show gF (fun x:I2=>x.1) (fun x:I2=>x.1∈g∧dh 0 x.2) nn ls from⟨by omega,fun r hr=>by
  have aO:=ade hr
  obtain⟨m,hm⟩:=aO
  exact r6 m r (by have:=(acF.1 hm).1;omega) hm⟩)).symm,hN.aX⟩
end Go.Proofs.YtngkdkbpgoddlaaGreat
namespace Go.Proofs.YtngkdkbpgoddlaaGreat
open Go.RowKit Go.Rl
open Go.Gr
theorem LR {w:World} {h:Hd} {l:List Int} (hs:Sl vI w (vh h) l):gG none_ vI w [h] [l]:=by
  refine⟨rfl,fun i a b ha hb=>?_⟩
  match i,ha,hb with
  |0,ha,hb=>cases ha;cases hb;exact hs.o
  |_+1,ha,_=>cases ha
theorem Ee (n:Int) (w:World) (gh:Hd) (gl:List Int) (hg:Sl vI w (vh gh) gl) (fv:Value) (fh:List Hd) (fl:List (List Int)) (hf:Sl vh w fv fh) (o9:gG none_ vI w fh fl) (ov:Value) (oh:List Hd) (ol:List (List I2)) (ho:Sl vh w ov oh) (F2:gJ none_ bG w oh ol) (iv:Value) (ih:List Hd) (il:List (List I2)) (hi:Sl vh w iv ih) (uj:gJ none_ bG w ih il) (cW:Value) (sC:List Hd) (eM:List (List Int)) (gM:Sl vh w cW sC) (rZ:gG none_ vI w sC eM) (cX:Value) (sD:List Hd) (eS:List (List Int)) (gI:Sl vh w cX sD) (r4:gG none_ vI w sD eS) (sH:gl.length≤16777216):aM acD 107 #[.int .i64 n,.agg #[(vh gh),fv,ov,iv,cW,cX]] w fun r w'=>r=.int .i64 (dD n gl fl ol il eM eS)∧Ext w w':=by
 refine aM.aZ aka ?_
 rw[cS]
 have hN:=aH.nil w none_
 refine RW.aN ?_
 refine RL.aL (bJ (cs:=[.int .i64 (n)]) rfl rfl hN ?_)
 clear hN
 intro g1 w1 (hN:aH w none_ w1 [_])
 refine RL.aL (bJ (cs:=[(vh gh),fv,ov,iv,cW,cX]) rfl rfl hN ?_)
 clear hN
 intro g2 w2 (hN:aH w none_ w2 [_,_])
 refine RL.ag (v:=.int .i64 (0)) ai (RL.bY (RL.ag (v:=.func (.func 160) #[] #[]) ai (RL.ak (RW.aN ?_))))
 refine RL.ag (v:=.func (.func 161) #[] #[]) ai (RL.bY (RL.ag (dM (vs:=[vP g1]) (xs:=[.tmp 2]) rfl rfl) ?_))
 refine RL.aL (bz (cs:=[.nilFunc]) Km rfl hN ?_)
 clear hN
 intro g3 w3 (hN:aH w none_ w3 [_,_,_])
 refine RL.aL (b7 QJ rfl rfl rfl rfl hN 0 rfl (acA rfl) ?_)
 clear hN
 intro w4 (hN:aH w none_ w4 [_,_,_])
 refine RL.bY (RL.ag (dM (vs:=[vP g2]) (xs:=[.tmp 3]) rfl rfl) (RL.ag (v:=.func (.func 163) #[] #[vP g2]) ai (RL.ak (RW.aN ?_))))
 refine RL.ag (dM (vs:=[vP g3,vP g2]) (xs:=[.tmp 7,.tmp 3]) rfl rfl) (RL.ag (v:=.func (.func 166) #[] #[vP g3,vP g2]) ai (RL.ak (RW.seq (RW.block (RW.seq ?_)))))
 iterate 3 refine RW.block ?_
 refine RW.seq (RW.block ?_)
 iterate 3 refine RW.seq ?_
 refine RW.region (RL.ag (aj acy (hN.aJ 2 rfl)) (RL.ag (cq) (RL.ag (v:=.bool (decide (16777216<n))) ai (RL.ak ?_))))
 refine RW.aG _ (fun j9=>?_) (fun j9=>?_)
 refine RW.exit ?_
 iterate 2 refine bP ?_
 refine aY (aA ?_)
 iterate 2 refine RW.seq ?_
 refine RW.region (RL.ag (v:=.int .i64 (3)) ai (RL.ak (RW.ret (aU ?_))))
 iterate 3 refine bb ?_
 refine aU (bb (aU (bc (RV.tmp rfl) ?_)))
 exact⟨congrArg (ac4 .i64) (show dD n gl fl ol il eM eS=3 by
  unfold dD
  rw[if_pos (by omega)]).symm,hN.aX⟩
 refine RW.skip (aA ?_)
 iterate 3 refine RW.seq ?_
 refine RW.region (RL.ag (aj acy (hN.aJ 2 rfl)) (RL.ag (aK) (RL.ag (v:=.bool (decide (n<0))) ai (RL.ak ?_))))
 refine RW.aG _ (fun oW=>?_) (fun oW=>?_)
 refine RW.skip (aA (RW.oZ _ rfl oW (RW.exit ?_)))
 iterate 2 refine bP ?_
 refine eA (by decide) (bP (aY ?_))
 iterate 2 refine ba ?_
 refine aA ?_
 iterate 2 refine RW.seq ?_
 refine RW.region (RL.ag (v:=.int .i64 (2)) ai (RL.ak (RW.ret (aU (bb (aU (bc (RV.tmp rfl) ?_)))))))
 exact⟨congrArg (ac4 .i64) (show dD n gl fl ol il eM eS=2 by
  unfold dD
  rw[if_neg (by omega),if_neg (fun h=>by
  obtain⟨q1,q2,q3,q4,q5,q6,q7⟩:=h
  have q8:=fun x hx=>(q2.1 x hx).1
  first
  |omega
  |exact absurd (gL.2 q2) (by assumption)
  |exact absurd q3 (by assumption)
  |exact absurd ((dO q8).2 q4) (by assumption)
  |exact absurd ((dO q8).2 q5) (by assumption)
  |exact absurd (eU.2 q6) (by assumption)
  |exact absurd (eU.2 q7) (by assumption))]).symm,hN.aX⟩
 refine RW.aN (RL.ag (ah acR rfl cc) (RL.ag (aj acz (hN.aJ 1 rfl)) ?_))
 refine RL.aL (cx (enc:=vh) (l:=[gh]) (xs:=[.tmp 20]) acQ cc zi rfl rfl (fun _=>rfl) rfl (by decide) (by decide) hN ?_)
 clear hN
 intro g5 w5 (hN:aH w none_ w5 [_,_,_,_])
 refine RL.ag (v:=.func (.func 160) #[] #[]) U (RL.ag (aj ais (hN.aJ 1 rfl)) ?_)
 refine RL.aL (dH agv rfl rfl rfl rfl rfl rfl ((xJ (1) n g1 _ [gh] [gl] _ (hN.aJ 3 rfl) (hN.sl 0 rfl) (LR (hg.o.now hN))).mono ?_))
 rintro _ w6 ⟨rfl,bl⟩
 replace hN:=hN.ext bl
 clear bl
 refine RL.ag (cU rfl) (RL.ag (v:=.bool (decide (¬(gF (fun x=>x) (fun x=>0≤x∧x<n) (1) [gl])))) ai (RL.ak ?_))
 refine RW.aG _ (fun oW=>?_) (fun oW=>?_)
 refine RW.skip (aA (RW.oZ _ rfl oW (RW.exit ?_)))
 iterate 2 refine bP ?_
 refine eA (by decide) (bP (aY ?_))
 iterate 2 refine ba ?_
 refine aA ?_
 iterate 2 refine RW.seq ?_
 refine RW.region (RL.ag (v:=.int .i64 (2)) ai (RL.ak (RW.ret (aU (bb (aU (bc (RV.tmp rfl) ?_)))))))
 exact⟨congrArg (ac4 .i64) (show dD n gl fl ol il eM eS=2 by
  unfold dD
  rw[if_neg (by omega),if_neg (fun h=>by
  obtain⟨q1,q2,q3,q4,q5,q6,q7⟩:=h
  have q8:=fun x hx=>(q2.1 x hx).1
  first
  |omega
  |exact absurd (gL.2 q2) (by assumption)
  |exact absurd q3 (by assumption)
  |exact absurd ((dO q8).2 q4) (by assumption)
  |exact absurd ((dO q8).2 q5) (by assumption)
  |exact absurd (eU.2 q6) (by assumption)
  |exact absurd (eU.2 q7) (by assumption))]).symm,hN.aX⟩
 refine RW.region (RL.ag (aE (cs:=[(vh gh),fv,ov,iv,cW,cX]) acR iA (hN.aJ 2 rfl)) ?_)
 refine RL.aL (bo aj9 rfl rfl rfl ((BH _ _ _ _ _ _ _ gl fh fl (hg.o.now hN) (hf.o.now hN) (o9.fm hN)).mono ?_))
 rintro _ w7 ⟨rfl,bl⟩
 replace hN:=hN.ext bl
 clear bl
 refine RL.ag (cU rfl) (RL.ag (v:=.bool (decide (¬(qh gl fl)))) ai (RL.ak ?_))
 refine RW.aG _ (fun oW=>?_) (fun oW=>?_)
 refine RW.exit ?_
 iterate 2 refine bP ?_
 refine eA (by decide) (bP (aY ?_))
 iterate 2 refine ba ?_
 refine aA ?_
 iterate 2 refine RW.seq ?_
 refine RW.region (RL.ag (v:=.int .i64 (2)) ai (RL.ak (RW.ret (aU (bb (aU (bc (RV.tmp rfl) ?_)))))))
 exact⟨congrArg (ac4 .i64) (show dD n gl fl ol il eM eS=2 by
  unfold dD
  rw[if_neg (by omega),if_neg (fun h=>by
  obtain⟨q1,q2,q3,q4,q5,q6,q7⟩:=h
  have q8:=fun x hx=>(q2.1 x hx).1
  first
  |omega
  |exact absurd (gL.2 q2) (by assumption)
  |exact absurd q3 (by assumption)
  |exact absurd ((dO q8).2 q4) (by assumption)
  |exact absurd ((dO q8).2 q5) (by assumption)
  |exact absurd (eU.2 q6) (by assumption)
  |exact absurd (eU.2 q7) (by assumption))]).symm,hN.aX⟩
 refine RW.skip (aA ?_)
 iterate 3 refine RW.seq ?_
 have H8:iw n (qj gl 2) gl:=gL.1 (acX.1 (by assumption))
 have hR:u1 gl:=H8.2
 have X4:=fun x hx=>(H8.1 x hx).1
 refine RW.region (RL.ag (ah acR rfl je) (RL.ag (aj ac5 (hN.aJ 2 rfl)) (RL.ag (aj acy (hN.aJ 3 rfl)) (RL.ag (v:=.func (.func 161) #[] #[]) U (RL.ag (v:=.func (.func 163) #[] #[vP g2]) U ?_)))))
 refine RL.aL (dH ait rfl rfl rfl rfl rfl rfl ((lC (n) g2 _ _ _ _ _ _ gl _ oh ol _ (hN.aJ 2 rfl) (hg.o.now hN) hR sH (ho.o.now hN) (F2.ext hN.aX)).mono ?_))
 rintro _ w8 ⟨rfl,bl⟩
 replace hN:=hN.ext bl
 clear bl
 refine RL.ag (cU rfl) (RL.ag (v:=.bool (decide (¬(gF (fun x:I2=>x.1) (fun x=>x.1∈gl∧dh 0 x.2) (n) ol)))) ai (RL.ak ?_))
 refine RW.aG _ (fun Lz=>?_) (fun Lz=>?_)
 refine RW.skip (aA (RW.oZ _ rfl Lz (RW.exit ?_)))
 iterate 2 refine bP ?_
 refine eA (by decide) (bP (eA (by decide) (aY (ba (aA ?_)))))
 iterate 2 refine RW.seq ?_
 refine RW.region (RL.ag (v:=.int .i64 (2)) ai (RL.ak (RW.ret (aU (bb (aU (bc (RV.tmp rfl) ?_)))))))
 exact⟨congrArg (ac4 .i64) (show dD n gl fl ol il eM eS=2 by
  unfold dD
  rw[if_neg (by omega),if_neg (fun h=>by
  obtain⟨q1,q2,q3,q4,q5,q6,q7⟩:=h
  have q8:=fun x hx=>(q2.1 x hx).1
  first
  |omega
  |exact absurd (gL.2 q2) (by assumption)
  |exact absurd q3 (by assumption)
  |exact absurd ((dO q8).2 q4) (by assumption)
  |exact absurd ((dO q8).2 q5) (by assumption)
  |exact absurd (eU.2 q6) (by assumption)
  |exact absurd (eU.2 q7) (by assumption))]).symm,hN.aX⟩
 refine RW.region (RL.ag (ah acR rfl je) (RL.ag (aj ac5 (hN.aJ 2 rfl)) (RL.ag (aj acy (hN.aJ 3 rfl)) (RL.ag (v:=.func (.func 161) #[] #[]) U (RL.ag (v:=.func (.func 163) #[] #[vP g2]) U ?_)))))
 refine RL.aL (dH ait rfl rfl rfl rfl rfl rfl ((lC (n) g2 _ _ _ _ _ _ gl _ ih il _ (hN.aJ 2 rfl) (hg.o.now hN) hR sH (hi.o.now hN) (uj.ext hN.aX)).mono ?_))
 rintro _ w9 ⟨rfl,bl⟩
 replace hN:=hN.ext bl
 clear bl
 refine RL.ag (cU rfl) (RL.ag (v:=.bool (decide (¬(gF (fun x:I2=>x.1) (fun x=>x.1∈gl∧dh 0 x.2) (n) il)))) ai (RL.ak ?_))
 refine RW.aG _ (fun Lz=>?_) (fun Lz=>?_)
 refine RW.exit ?_
 iterate 2 refine bP ?_
 refine eA (by decide) (bP (eA (by decide) (aY (ba (aA ?_)))))
 iterate 2 refine RW.seq ?_
 refine RW.region (RL.ag (v:=.int .i64 (2)) ai (RL.ak (RW.ret (aU (bb (aU (bc (RV.tmp rfl) ?_)))))))
 exact⟨congrArg (ac4 .i64) (show dD n gl fl ol il eM eS=2 by
  unfold dD
  rw[if_neg (by omega),if_neg (fun h=>by
  obtain⟨q1,q2,q3,q4,q5,q6,q7⟩:=h
  have q8:=fun x hx=>(q2.1 x hx).1
  first
  |omega
  |exact absurd (gL.2 q2) (by assumption)
  |exact absurd q3 (by assumption)
  |exact absurd ((dO q8).2 q4) (by assumption)
  |exact absurd ((dO q8).2 q5) (by assumption)
  |exact absurd (eU.2 q6) (by assumption)
  |exact absurd (eU.2 q7) (by assumption))]).symm,hN.aX⟩
 refine RW.skip (aA ?_)
 iterate 2 refine RW.seq ?_
 refine RW.region (RL.ag (ah acR rfl fH) (RL.ag (aj acQ (hN.aJ 2 rfl)) (RL.ag (aj acy (hN.aJ 3 rfl)) (RL.ag (v:=.func (.func 160) #[] #[]) U (RL.ag (v:=.func (.func 166) #[] #[vP g3,vP g2]) U ?_)))))
 refine RL.aL (dH agv rfl rfl rfl rfl rfl rfl ((oq (n) n g1 g3 g2 _ _ _ _ _ _ gl _ sC eM _ (hN.aJ 3 rfl) (hN.aJ 1 rfl) (hN.aJ 2 rfl) (hg.o.now hN) hR sH (gM.o.now hN) (rZ.fm hN)).mono ?_))
 rintro _ lR ⟨rfl,bl⟩
 replace hN:=hN.ext bl
 clear bl
 refine RL.ag (cU rfl) (RL.ag (v:=.bool (decide (¬(gF (fun x=>x) (fun x=>(0≤x∧x<n)∧x∉gl) (n) eM)))) ai (RL.ak ?_))
 refine RW.aG _ (fun Lw=>?_) (fun Lw=>?_)
 refine RW.skip (aA (RW.oZ _ rfl Lw (RW.exit (bP (eA (by decide) (bP ?_))))))
 iterate 2 refine eA (by decide) ?_
 refine aY (aA ?_)
 iterate 2 refine RW.seq ?_
 refine RW.region (RL.ag (v:=.int .i64 (2)) ai (RL.ak (RW.ret (aU (bb (aU (bc (RV.tmp rfl) ?_)))))))
 exact⟨congrArg (ac4 .i64) (show dD n gl fl ol il eM eS=2 by
  unfold dD
  rw[if_neg (by omega),if_neg (fun h=>by
  obtain⟨q1,q2,q3,q4,q5,q6,q7⟩:=h
  have q8:=fun x hx=>(q2.1 x hx).1
  first
  |omega
  |exact absurd (gL.2 q2) (by assumption)
  |exact absurd q3 (by assumption)
  |exact absurd ((dO q8).2 q4) (by assumption)
  |exact absurd ((dO q8).2 q5) (by assumption)
  |exact absurd (eU.2 q6) (by assumption)
  |exact absurd (eU.2 q7) (by assumption))]).symm,hN.aX⟩
 refine RW.region (RL.ag (ah acR rfl fH) (RL.ag (aj acQ (hN.aJ 2 rfl)) (RL.ag (aj acy (hN.aJ 3 rfl)) (RL.ag (v:=.func (.func 160) #[] #[]) U (RL.ag (v:=.func (.func 166) #[] #[vP g3,vP g2]) U ?_)))))
 refine RL.aL (dH agv rfl rfl rfl rfl rfl rfl ((oq (n) n g1 g3 g2 _ _ _ _ _ _ gl _ sD eS _ (hN.aJ 3 rfl) (hN.aJ 1 rfl) (hN.aJ 2 rfl) (hg.o.now hN) hR sH (gI.o.now hN) (r4.fm hN)).mono ?_))
 rintro _ kY ⟨rfl,bl⟩
 replace hN:=hN.ext bl
 clear bl
 refine RL.ag (cU rfl) (RL.ag (v:=.bool (decide (¬(gF (fun x=>x) (fun x=>(0≤x∧x<n)∧x∉gl) (n) eS)))) ai (RL.ak ?_))
 refine RW.aG _ (fun Lw=>?_) (fun Lw=>?_)
 refine RW.exit (bP (eA (by decide) (bP ?_)))
 iterate 2 refine eA (by decide) ?_
 refine aY (aA ?_)
 iterate 2 refine RW.seq ?_
 refine RW.region (RL.ag (v:=.int .i64 (2)) ai (RL.ak (RW.ret (aU (bb (aU (bc (RV.tmp rfl) ?_)))))))
 exact⟨congrArg (ac4 .i64) (show dD n gl fl ol il eM eS=2 by
  unfold dD
  rw[if_neg (by omega),if_neg (fun h=>by
  obtain⟨q1,q2,q3,q4,q5,q6,q7⟩:=h
  have q8:=fun x hx=>(q2.1 x hx).1
  first
  |omega
  |exact absurd (gL.2 q2) (by assumption)
  |exact absurd q3 (by assumption)
  |exact absurd ((dO q8).2 q4) (by assumption)
  |exact absurd ((dO q8).2 q5) (by assumption)
  |exact absurd (eU.2 q6) (by assumption)
  |exact absurd (eU.2 q7) (by assumption))]).symm,hN.aX⟩
 refine RW.skip (aA (RW.exit (eA (by decide) (bP ?_))))
 iterate 3 refine eA (by decide) ?_
 refine bP (aY (aA (RW.aN (RL.ag (v:=.int .i64 (0)) ai (RL.ak (RW.ret (bc (RV.tmp rfl) ?_)))))))
 exact⟨congrArg (ac4 .i64) (show dD n gl fl ol il eM eS=0 by
  unfold dD
  rw[if_neg (by omega),if_pos ⟨by omega,H8,acX.1 (by assumption),(dO X4).1 (acX.1 (by assumption)),(dO X4).1 (acX.1 (by assumption)),eU.1 (acX.1 (by assumption)),eU.1 (acX.1 (by assumption))⟩]).symm,hN.aX⟩
theorem xA (n:Int) (w:World) (gv:Value) (gl:List Int) (hg:Sl vI w gv gl) (fv:Value) (fh:List Hd) (fl:List (List Int)) (hf:Sl vh w fv fh) (o9:gG none_ vI w fh fl) (ov:Value) (oh:List Hd) (ol:List (List I2)) (ho:Sl vh w ov oh) (F2:gJ none_ bG w oh ol) (iv:Value) (ih:List Hd) (il:List (List I2)) (hi:Sl vh w iv ih) (uj:gJ none_ bG w ih il) (cW:Value) (sC:List Hd) (eM:List (List Int)) (gM:Sl vh w cW sC) (rZ:gG none_ vI w sC eM) (cX:Value) (sD:List Hd) (eS:List (List Int)) (gI:Sl vh w cX sD) (r4:gG none_ vI w sD eS) (sH:gl.length≤16777216):aM acD 107 #[.int .i64 n,.agg #[gv,fv,ov,iv,cW,cX]] w fun r w'=>r=.int .i64 (dD n gl fl ol il eM eS)∧Ext w w':=by
  obtain⟨gh,rfl⟩:=hg.hd
  exact Ee n w gh gl hg fv fh fl hf o9 ov oh ol ho F2 iv ih il hi uj cW sC eM gM rZ cX sD eS gI r4 sH
end Go.Proofs.YtngkdkbpgoddlaaGreat
namespace Go.Proofs.YtngkdkbpgoddlaaGreat
open Go.RowKit Go.Rl
open Go.Gr
theorem mq (rv wv:Value) (rk:List Int) (ws:List I5) (w:World) (hr:Sl vI w rv rk) (hw:Sm aV w wv ws) (u v:Int):aM acD 171 #[.agg #[rv,wv],.int .i64 u,.int .i64 v] w fun r w'=>r=.int .i64 (kV (gH u v) ws)∧Ext w w':=by
 refine aM.aZ afA ?_
 rw[iu]
 have hN:=aH.nil w none_
 refine RW.aN ?_
 refine RL.aL (bJ (cs:=[rv,wv]) rfl rfl hN ?_)
 clear hN
 intro g1 w1 (hN:aH w none_ w1 [_])
 refine RL.ag (v:=.int .i64 (0)) ai (RL.ak ?_)
 iterate 2 refine RW.seq ?_
 refine RW.region (RL.ag (v:=.int .i64 (0)) ai (RL.ak (RW.block ?_)))
 refine RW.loop (fun k R0 cv=>∃i:Nat,R0 1=.int .i64 (u)∧R0 2=.int .i64 (v)∧R0 3=vP g1∧R0 7=vJ i∧aH w none_ cv [.aJ g1 [rv,wv] 28]∧(i+k=ws.length)∧(∀y∈ws.take i,¬(gH u v) y)) (ws.length) ?_ ?_
 exact⟨0,rfl,rfl,rfl,rfl,hN,by omega,fun x hx=>by cases hx⟩
 clear hN
 rintro k R0 cv ⟨i,bN,bQ,cb,cC,hN,fP,fA⟩
 have cz:=iV bN bQ cb cC
 obtain⟨fV,rfl⟩:=cz
 clear bN bQ cb cC
 iterate 2 refine RW.seq ?_
 refine RW.region (RL.ag (v:=vJ i) U (RL.ag (ah acE rfl eF) (RL.ag (aj acL (hN.aJ 0 rfl)) ?_)))
 have iH:=(hw.o.now hN).bw
 refine RL.ag (bO acL (hw.o.now hN)) (RL.ag (aK) (RL.ak ?_))
 refine RW.aG _ (fun cD=>?_) (fun cD=>?_)
 refine RW.skip (aA (RW.seq (RW.block (RW.aN (RL.ag (ah acE rfl eF) (RL.ag (aj acL (hN.aJ 0 rfl)) (RL.ag (v:=vJ i) U (RL.ag (aT acL eh aI (hw.o.now hN)) ?_))))))))
 have aO:=cQ (ws) i
 obtain⟨ap,bV⟩:=aO
 refine RL.ag (bm (m:=i) (b:=0) acG rfl bI aI (hw.o.now hN) bV) (RL.ag (bB (m:=i) (j:=0) (a:=ap) acy aI (hw.o.now hN) bV) (RL.ag (v:=.int .i64 (u)) U (RL.ag (ca) (RL.ag (v:=.bool (decide (ap.1=u))) U ?_))))
 by_cases nH:ap.1=u
 rw[decide_eq_true nH]
 refine RL.aw (ah acE rfl eF) (RL.aw (aj acL (hN.aJ 0 rfl)) (RL.aw (v:=vJ i) U (RL.aw (aT acL eh aI (hw.o.now hN)) (RL.aw (bm (m:=i) (b:=0) acG rfl bI aI (hw.o.now hN) bV) (RL.aw (bB (m:=i) (j:=1) (a:=ap) acy aI (hw.o.now hN) bV) (RL.aw (v:=.int .i64 (v)) U (RL.aw (ca) (RL.ag (v:=.bool (decide (ap.2.1=v))) (al) (RL.nil ?_)))))))))
 refine aA ?_
 refine RW.aG _ (fun oV=>?_) (fun oV=>?_)
 refine RW.aN (RL.ag (v:=vJ i) U (RL.ag (v:=vJ i) ai (RL.ak (RW.ret (bb ?_)))))
 iterate 2 refine aU ?_
 refine bb (aU (bc (RV.tmp rfl) ?_))
 exact⟨congrArg (ac4 .i64) (nK fA bV ⟨nH,oV⟩).symm,hN.aX⟩
 refine RW.skip (ba (aA (RW.region (RL.ag (v:=vJ i) U (RL.ag (aD rfl rfl rfl (bg (by omega) (by omega))) (RL.ag (v:=.int .i64 ((i:Int)+1)) ai (RL.ak ?_)))))))
 exact⟨k-1,by omega,i+1,rfl,rfl,rfl,rfl,hN,by omega,fun x hx=>(dk bV hx).elim (fA x) (fun e=>e▸fun h=>by first|exact nH h.1|exact oV h.2)⟩
 rw[decide_eq_false nH]
 iterate 8 refine RL.bH ?_
 refine RL.ag (v:=.bool false) (aB) (RL.ak (RW.cj (RW.skip (ba (aA (RW.region (RL.ag (v:=vJ i) U (RL.ag (aD rfl rfl rfl (bg (by omega) (by omega))) ?_))))))))
 refine RL.ag (v:=.int .i64 ((i:Int)+1)) ai (RL.ak ?_)
 exact⟨k-1,by omega,i+1,rfl,rfl,rfl,rfl,hN,by omega,fun x hx=>(dk bV hx).elim (fA x) (fun e=>e▸fun h=>by first|exact nH h.1|exact oV h.2)⟩
 refine RW.exit ?_
 iterate 2 refine bP ?_
 refine aY (aA (RW.aN (RL.ag (v:=.int .i64 (-1)) ai (RL.ak (RW.ret (bc (RV.tmp rfl) ?_))))))
 rw[ac2 (by omega)]at fA
 exact⟨congrArg (ac4 .i64) (qR fA).symm,hN.aX⟩
theorem Db (rv wv:Value) (rk:List Int) (ws:List I5) (w:World) (hr:Sl vI w rv rk) (hw:Sm aV w wv ws) (x:Int):aM acD 109 #[.agg #[rv,wv],.int .i64 x] w fun r w'=>r=.int .i64 (kV (fun y=>y=x) rk)∧Ext w w':=by
 refine aM.aZ akb ?_
 rw[cS]
 have hN:=aH.nil w none_
 refine RW.aN ?_
 refine RL.aL (bJ (cs:=[rv,wv]) rfl rfl hN ?_)
 clear hN
 intro g1 w1 (hN:aH w none_ w1 [_])
 refine RL.ag (v:=.int .i64 (0)) ai (RL.ak ?_)
 iterate 2 refine RW.seq ?_
 refine RW.region (RL.ag (v:=.int .i64 (0)) ai (RL.ak (RW.block ?_)))
 refine RW.loop (fun k R0 cv=>∃i:Nat,R0 1=.int .i64 (x)∧R0 2=vP g1∧R0 5=vJ i∧aH w none_ cv [.aJ g1 [rv,wv] 28]∧(i+k=rk.length)∧(∀y∈rk.take i,¬(fun y=>y=x) y)) (rk.length) ?_ ?_
 exact⟨0,rfl,rfl,rfl,hN,by omega,fun x hx=>by cases hx⟩
 clear hN
 rintro k R0 cv ⟨i,bN,bQ,cy,hN,fP,fA⟩
 have cz:=k5 bN bQ cy
 obtain⟨fV,rfl⟩:=cz
 clear bN bQ cy
 iterate 2 refine RW.seq ?_
 refine RW.region (RL.ag (v:=vJ i) U (RL.ag (ah acE rfl cc) (RL.ag (aj acz (hN.aJ 0 rfl)) ?_)))
 have iH:=(hr.o.now hN).bw
 refine RL.ag (aQ acz (hr.o.now hN)) (RL.ag (aK) (RL.ak ?_))
 refine RW.aG _ (fun cD=>?_) (fun cD=>?_)
 refine RW.skip (aA (RW.seq (RW.block (RW.aN (RL.ag (ah acE rfl cc) (RL.ag (aj acz (hN.aJ 0 rfl)) (RL.ag (v:=vJ i) U (RL.ag (aC acz bI (hr.o.now hN)) ?_))))))))
 have aO:=cQ (rk) i
 obtain⟨ap,bV⟩:=aO
 refine RL.ag (aF (m:=i) (a:=ap) acy (hr.o.now hN) bV) (RL.ag (v:=.int .i64 (x)) U (RL.ag (ca) (RL.ak ?_)))
 refine RW.aG _ (fun CR=>?_) (fun CR=>?_)
 refine RW.aN (RL.ag (v:=vJ i) U (RL.ag (v:=vJ i) ai (RL.ak (RW.ret (bb ?_)))))
 iterate 2 refine aU ?_
 refine bb (aU (bc (RV.tmp rfl) ?_))
 exact⟨congrArg (ac4 .i64) (nK fA bV CR).symm,hN.aX⟩
 refine RW.skip (ba (aA (RW.region (RL.ag (v:=vJ i) U (RL.ag (aD rfl rfl rfl (bg (by omega) (by omega))) (RL.ag (v:=.int .i64 ((i:Int)+1)) ai (RL.ak ?_)))))))
 exact⟨k-1,by omega,i+1,rfl,rfl,rfl,hN,by omega,fun x hx=>(dk bV hx).elim (fA x) (fun e=>e▸CR)⟩
 refine RW.exit ?_
 iterate 2 refine bP ?_
 refine aY (aA (RW.aN (RL.ag (v:=.int .i64 (-1)) ai (RL.ak (RW.ret (bc (RV.tmp rfl) ?_))))))
 rw[ac2 (by omega)]at fA
 exact⟨congrArg (ac4 .i64) (qR fA).symm,hN.aX⟩
theorem k8 (rv wv:Value) (rk:List Int) (ws:List I5) (w:World) (hr:Sl vI w rv rk) (hw:Sm aV w wv ws) (x:Int):aM acD 170 #[.agg #[rv,wv],.int .i64 x] w fun r w'=>r=.bool (decide (0≤x∧x<rk.length))∧Ext w w':=by
 refine aM.aZ ahe ?_
 rw[cS]
 have hN:=aH.nil w none_
 refine RW.aN ?_
 refine RL.aL (bJ (cs:=[rv,wv]) rfl rfl hN ?_)
 clear hN
 intro g1 w1 (hN:aH w none_ w1 [_])
 refine RL.ag (v:=.bool false) ai (RL.bY (RL.ag (v:=.int .i64 (x)) U (RL.ag (ck) (RL.ag (v:=.bool (decide (0≤x))) U ?_))))
 by_cases pV:0≤x
 rw[decide_eq_true pV]
 refine RL.aw (v:=.int .i64 (x)) U (RL.aw (ah acE rfl cc) (RL.aw (aj acz (hN.aJ 0 rfl)) ?_))
 have iH:=(hr.o.now hN).bw
 refine RL.aw (aQ acz (hr.o.now hN)) (RL.aw (aK) (RL.ag (v:=.bool (decide (x<(rk.length:Int)))) (al) (RL.ag (v:=.bool (decide (x<(rk.length:Int)))) ai (RL.ak (RW.ret (bc (RV.tmp rfl) ?_))))))
 exact⟨congrArg acV (decide_eq_decide.2 ⟨fun h=>⟨by omega,h⟩,fun h=>h.2⟩),hN.aX⟩
 rw[decide_eq_false pV]
 iterate 5 refine RL.bH ?_
 refine RL.ag (v:=.bool false) (aB) (RL.ag (v:=.bool false) ai (RL.ak (RW.ret (bc (RV.tmp rfl) ?_))))
 exact⟨congrArg acV (decide_eq_false (fun h=>by omega)).symm,hN.aX⟩
end Go.Proofs.YtngkdkbpgoddlaaGreat
namespace Go.Proofs.YtngkdkbpgoddlaaGreat
open Go.RowKit Go.Rl
open Go.Gr
theorem n5 (rv wv:Value) (rk:List Int) (ws:List I5) (w:World) (hr:Sl vI w rv rk) (hw:Sm aV w wv ws) (u v z:Int) (e:kV (gH u v) ws=z):aM acD 171 #[.agg #[rv,wv],.int .i64 u,.int .i64 v] w fun r w'=>r=.int .i64 z∧Ext w w':=(mq rv wv rk ws w hr hw u v).mono fun r w' hr=>by rw[e]at hr;exact hr
theorem vx (rv wv:Value) (rk:List Int) (ws:List I5) (w:World) (hr:Sl vI w rv rk) (hw:Sm aV w wv ws) (i:Nat) (x:I5) (hx:ws[i]?=some x):aM acD 110 #[.agg #[rv,wv],.int .i64 (i:Int)] w fun r w'=>r=.bool (decide (TW rk ws i x))∧Ext w w':=by
 refine aM.aZ akc ?_
 rw[cS]
 have hN:=aH.nil w none_
 have Fa:=(acF.1 hx).1
 refine RW.aN ?_
 refine RL.aL (bJ (cs:=[rv,wv]) rfl rfl hN ?_)
 clear hN
 intro g1 w1 (hN:aH w none_ w1 [_])
 refine RL.ag (v:=.bool false) ai (RL.bY (RL.ag (ah acE rfl eF) (RL.ag (aj acL (hN.aJ 0 rfl)) (RL.ag (v:=vJ i) U (RL.ag (aT acL eh aI (hw.o.now hN)) (RL.ag (b0 (m:=i) (a:=x) acG eh aI (hw.o.now hN) hx (cs:=[.int .i64 (x.1),.int .i64 (x.2.1),.int .i64 (x.2.2.1),.int .i64 (x.2.2.2.1),.int .i64 (x.2.2.2.2)])) ?_))))))
 refine RL.aL (bz (cs:=[.int .i64 (0),.int .i64 (0),.int .i64 (0),.int .i64 (0),.int .i64 (0)]) fW rfl hN ?_)
 clear hN
 intro g2 w2 (hN:aH w none_ w2 [_,_])
 refine RL.aL (aS (vs:=[.int .i64 (x.1),.int .i64 (x.2.1),.int .i64 (x.2.2.1),.int .i64 (x.2.2.2.1),.int .i64 (x.2.2.2.2)]) eh rfl rfl rfl (bh (bh (bh (bh (bh cZ))))) hN 0 rfl rfl ?_)
 clear hN
 intro w3 (hN:aH w none_ w3 [_,_])
 refine RL.ak ?_
 iterate 2 refine RW.seq ?_
 refine RW.region (RL.ag (aE (cs:=[rv,wv]) acE dq (hN.aJ 1 rfl)) (RL.ag (ah acG rfl bI) (RL.ag (aj acy (hN.aJ 0 rfl)) ?_)))
 refine RL.aL (bu ahe rfl rfl rfl rfl ((k8 _ _ rk ws _ (hr.o.now hN) (hw.o.now hN) (x.1)).mono ?_))
 rintro _ w4 ⟨rfl,bl⟩
 replace hN:=hN.ext bl
 clear bl
 refine RL.ag (cU rfl) (RL.ag (v:=.bool (decide (¬(0≤x.1∧x.1<rk.length)))) U ?_)
 by_cases MJ:¬(0≤x.1∧x.1<rk.length)
 rw[decide_eq_true MJ]
 iterate 5 refine RL.bH ?_
 refine RL.ag (v:=.bool true) (al) (RL.ag (v:=.bool true) U ?_)
 iterate 5 refine RL.bH ?_
 refine RL.ag (v:=.bool true) (al) (RL.ag (v:=.bool true) U ?_)
 iterate 4 refine RL.bH ?_
 refine RL.ag (v:=.bool true) (al) (RL.ag (v:=.bool true) U ?_)
 iterate 4 refine RL.bH ?_
 refine RL.ag (v:=.bool true) (al) (RL.ag (v:=.bool true) U ?_)
 iterate 8 refine RL.bH ?_
 refine RL.ag (v:=.bool true) (al) (RL.ak (RW.bD (RW.aN (RL.ag (v:=.bool false) ai (RL.ak (RW.ret ?_))))))
 refine aU (bc (RV.tmp rfl) ?_)
 exact⟨congrArg acV (decide_eq_false (fun h=>by
  obtain⟨⟨⟨e1,e2⟩,⟨e3,e4⟩,e5,e6,e7,e8⟩,e9⟩:=h
  first
  |omega
  |(rw[if_pos jn]at e9;omega)
  |(rw[if_neg jn]at e9;obtain⟨m1,⟨m2,m3⟩,m4,m5,_⟩:=e9;first|omega|(have:=m4 _ _ (by assumption) (by assumption);omega)|(have:=m5 _ _ (by assumption) (by assumption);omega))
  )).symm,hN.aX⟩
 rw[decide_eq_false MJ]
 refine RL.aw (aE (cs:=[rv,wv]) acE dq (hN.aJ 1 rfl)) (RL.aw (ah acG rfl bI) (RL.aw (aj acy (hN.aJ 0 rfl)) ?_))
 refine RL.er (bu ahe rfl rfl rfl rfl ((k8 _ _ rk ws _ (hr.o.now hN) (hw.o.now hN) (x.2.1)).mono ?_))
 rintro _ w5 ⟨rfl,bl⟩
 replace hN:=hN.ext bl
 clear bl
 refine RL.aw (cU rfl) (RL.ag (v:=.bool (decide (¬(0≤x.2.1∧x.2.1<rk.length)))) (aB) (RL.ag (v:=.bool (decide (¬(0≤x.2.1∧x.2.1<rk.length)))) U ?_))
 by_cases IK:¬(0≤x.2.1∧x.2.1<rk.length)
 rw[decide_eq_true IK]
 iterate 5 refine RL.bH ?_
 refine RL.ag (v:=.bool true) (al) (RL.ag (v:=.bool true) U ?_)
 iterate 4 refine RL.bH ?_
 refine RL.ag (v:=.bool true) (al) (RL.ag (v:=.bool true) U ?_)
 iterate 4 refine RL.bH ?_
 refine RL.ag (v:=.bool true) (al) (RL.ag (v:=.bool true) U ?_)
 iterate 8 refine RL.bH ?_
 refine RL.ag (v:=.bool true) (al) (RL.ak (RW.bD (RW.aN (RL.ag (v:=.bool false) ai (RL.ak (RW.ret ?_))))))
 refine aU (bc (RV.tmp rfl) ?_)
 exact⟨congrArg acV (decide_eq_false (fun h=>by
  obtain⟨⟨⟨e1,e2⟩,⟨e3,e4⟩,e5,e6,e7,e8⟩,e9⟩:=h
  first
  |omega
  |(rw[if_pos jn]at e9;omega)
  |(rw[if_neg jn]at e9;obtain⟨m1,⟨m2,m3⟩,m4,m5,_⟩:=e9;first|omega|(have:=m4 _ _ (by assumption) (by assumption);omega)|(have:=m5 _ _ (by assumption) (by assumption);omega))
  )).symm,hN.aX⟩
 rw[decide_eq_false IK]
 refine RL.aw (ah acG rfl bI) (RL.aw (aj acy (hN.aJ 0 rfl)) (RL.aw (ah acG rfl bI) (RL.aw (aj acy (hN.aJ 0 rfl)) (RL.aw (ca) (RL.ag (v:=.bool (decide (x.1=x.2.1))) (aB) (RL.ag (v:=.bool (decide (x.1=x.2.1))) U ?_))))))
 by_cases uw:x.1=x.2.1
 rw[decide_eq_true uw]
 iterate 4 refine RL.bH ?_
 refine RL.ag (v:=.bool true) (al) (RL.ag (v:=.bool true) U ?_)
 iterate 4 refine RL.bH ?_
 refine RL.ag (v:=.bool true) (al) (RL.ag (v:=.bool true) U ?_)
 iterate 8 refine RL.bH ?_
 refine RL.ag (v:=.bool true) (al) (RL.ak (RW.bD (RW.aN (RL.ag (v:=.bool false) ai (RL.ak (RW.ret ?_))))))
 refine aU (bc (RV.tmp rfl) ?_)
 exact⟨congrArg acV (decide_eq_false (fun h=>by
  obtain⟨⟨⟨e1,e2⟩,⟨e3,e4⟩,e5,e6,e7,e8⟩,e9⟩:=h
  first
  |omega
  |(rw[if_pos jn]at e9;omega)
  |(rw[if_neg jn]at e9;obtain⟨m1,⟨m2,m3⟩,m4,m5,_⟩:=e9;first|omega|(have:=m4 _ _ (by assumption) (by assumption);omega)|(have:=m5 _ _ (by assumption) (by assumption);omega))
  )).symm,hN.aX⟩
 rw[decide_eq_false uw]
 refine RL.aw (ah acG rfl cT) (RL.aw (ah acN rfl bI) (RL.aw (aj acy (hN.aJ 0 rfl)) (RL.aw (aK) (RL.ag (v:=.bool (decide (x.2.2.1<0))) (aB) (RL.ag (v:=.bool (decide (x.2.2.1<0))) U ?_)))))
 by_cases uv:x.2.2.1<0
 rw[decide_eq_true uv]
 iterate 4 refine RL.bH ?_
 refine RL.ag (v:=.bool true) (al) (RL.ag (v:=.bool true) U ?_)
 iterate 8 refine RL.bH ?_
 refine RL.ag (v:=.bool true) (al) (RL.ak (RW.bD (RW.aN (RL.ag (v:=.bool false) ai (RL.ak (RW.ret ?_))))))
 refine aU (bc (RV.tmp rfl) ?_)
 exact⟨congrArg acV (decide_eq_false (fun h=>by
  obtain⟨⟨⟨e1,e2⟩,⟨e3,e4⟩,e5,e6,e7,e8⟩,e9⟩:=h
  first
  |omega
  |(rw[if_pos jn]at e9;omega)
  |(rw[if_neg jn]at e9;obtain⟨m1,⟨m2,m3⟩,m4,m5,_⟩:=e9;first|omega|(have:=m4 _ _ (by assumption) (by assumption);omega)|(have:=m5 _ _ (by assumption) (by assumption);omega))
  )).symm,hN.aX⟩
 rw[decide_eq_false uv]
 refine RL.aw (ah acG rfl cT) (RL.aw (ah acN rfl bI) (RL.aw (aj acy (hN.aJ 0 rfl)) (RL.aw (cq) (RL.ag (v:=.bool (decide (1152921504606846976<x.2.2.1))) (aB) (RL.ag (v:=.bool (decide (1152921504606846976<x.2.2.1))) U ?_)))))
 by_cases IH:1152921504606846976<x.2.2.1
 rw[decide_eq_true IH]
 iterate 8 refine RL.bH ?_
 refine RL.ag (v:=.bool true) (al) (RL.ak (RW.bD (RW.aN (RL.ag (v:=.bool false) ai (RL.ak (RW.ret ?_))))))
 refine aU (bc (RV.tmp rfl) ?_)
 exact⟨congrArg acV (decide_eq_false (fun h=>by
  obtain⟨⟨⟨e1,e2⟩,⟨e3,e4⟩,e5,e6,e7,e8⟩,e9⟩:=h
  first
  |omega
  |(rw[if_pos jn]at e9;omega)
  |(rw[if_neg jn]at e9;obtain⟨m1,⟨m2,m3⟩,m4,m5,_⟩:=e9;first|omega|(have:=m4 _ _ (by assumption) (by assumption);omega)|(have:=m5 _ _ (by assumption) (by assumption);omega))
  )).symm,hN.aX⟩
 rw[decide_eq_false IH]
 refine RL.aw (aE (cs:=[rv,wv]) acE dq (hN.aJ 1 rfl)) (RL.aw (ah acG rfl bI) (RL.aw (aj acy (hN.aJ 0 rfl)) (RL.aw (ah acG rfl bI) (RL.aw (aj acy (hN.aJ 0 rfl)) ?_))))
 refine RL.er (cn afA rfl rfl rfl rfl rfl ((mq _ _ rk ws _ (hr.o.now hN) (hw.o.now hN) (x.1) (x.2.1)).mono ?_))
 rintro _ w6 ⟨rfl,bl⟩
 replace hN:=hN.ext bl
 clear bl
 refine RL.aw (v:=vJ i) U (RL.aw (bj) (RL.ag (v:=.bool (decide (¬(kV (gH (x.1) (x.2.1)) ws)=(i:Int)))) (aB) (RL.ak ?_)))
 refine RW.aG _ (fun VS=>?_) (fun VS=>?_)
 refine RW.aN (RL.ag (v:=.bool false) ai (RL.ak (RW.ret (aU (bc (RV.tmp rfl) ?_)))))
 exact⟨congrArg acV (decide_eq_false (fun h=>by
  obtain⟨⟨⟨e1,e2⟩,⟨e3,e4⟩,e5,e6,e7,e8⟩,e9⟩:=h
  first
  |omega
  |(rw[if_pos jn]at e9;omega)
  |(rw[if_neg jn]at e9;obtain⟨m1,⟨m2,m3⟩,m4,m5,_⟩:=e9;first|omega|(have:=m4 _ _ (by assumption) (by assumption);omega)|(have:=m5 _ _ (by assumption) (by assumption);omega))
  )).symm,hN.aX⟩
 refine RW.skip (aA ?_)
 iterate 2 refine RW.seq ?_
 refine RW.region (RL.ag (ah acG rfl cT) (RL.ag (ah acN rfl bI) (RL.ag (aj acy (hN.aJ 0 rfl)) (RL.ag (ca) (RL.ak ?_)))))
 refine RW.aG _ (fun jn=>?_) (fun jn=>?_)
 refine RW.aN (RL.ag (ah acG rfl cT) (RL.ag (ah acN rfl bI) (RL.ag (aj acy (hN.aJ 0 rfl)) (RL.ag (ck) (RL.ag (v:=.bool (decide (0≤x.2.2.2.2))) U ?_)))))
 by_cases MF:0≤x.2.2.2.2
 rw[decide_eq_true MF]
 refine RL.aw (ah acG rfl cT) (RL.aw (ah acN rfl bI) (RL.aw (aj acy (hN.aJ 0 rfl)) (RL.aw (aK) (RL.ag (v:=.bool (decide (x.2.2.2.2<67108864))) (al) (RL.ag (v:=.bool (decide (x.2.2.2.2<67108864))) ai (RL.ak (RW.ret (aU ?_))))))))
 refine bc (RV.tmp rfl) ?_
 exact⟨congrArg acV (decide_eq_decide.2 ⟨fun h=>⟨⟨⟨by omega,by omega⟩,⟨by omega,by omega⟩,by omega,by omega,by omega,by omega⟩,by rw[if_pos jn];omega⟩,fun h=>by
  obtain⟨⟨⟨e1,e2⟩,⟨e3,e4⟩,e5,e6,e7,e8⟩,e9⟩:=h
  rw[if_pos jn]at e9
  omega⟩),hN.aX⟩
 rw[decide_eq_false MF]
 iterate 4 refine RL.bH ?_
 refine RL.ag (v:=.bool false) (aB) (RL.ag (v:=.bool false) ai (RL.ak (RW.ret (aU (bc (RV.tmp rfl) ?_)))))
 exact⟨congrArg acV (decide_eq_false (fun h=>by
  obtain⟨⟨⟨e1,e2⟩,⟨e3,e4⟩,e5,e6,e7,e8⟩,e9⟩:=h
  first
  |omega
  |(rw[if_pos jn]at e9;omega)
  |(rw[if_neg jn]at e9;obtain⟨m1,⟨m2,m3⟩,m4,m5,_⟩:=e9;first|omega|(have:=m4 _ _ (by assumption) (by assumption);omega)|(have:=m5 _ _ (by assumption) (by assumption);omega))
  )).symm,hN.aX⟩
 refine RW.skip (aA ?_)
 iterate 2 refine RW.seq ?_
 replace hN:=hN.ext (Ext.drew w6)
 refine RW.bA (fun u=>aH w none_ u [.aJ g2 [.int .i64 (x.1),.int .i64 (x.2.1),.int .i64 (x.2.2.1),.int .i64 (x.2.2.2.1),.int .i64 (x.2.2.2.2)] 98,.aJ g1 [rv,wv] 28]) 44 [(0,0),(1,0),(2,0),(3,0),(4,0),(5,0),(6,0),(7,0),(8,0),(9,1),(10,0),(11,0),(12,0),(13,0),(14,0),(15,0),(16,0),(17,0),(18,0),(19,0),(20,0),(21,0),(22,0),(23,0),(24,0),(25,0),(26,0),(27,0),(28,0),(29,0),(30,0),(31,0),(32,0),(33,0),(34,0),(35,0),(36,0),(37,0),(38,0),(39,0),(40,0),(41,0),(42,0),(43,0)] (by intro _ _ _ h;exact h) hN (RQ.an rfl (fun w hS=>(ah acG rfl cT)) (RQ.an rfl (fun w hS=>(ah acN rfl bI)) (RQ.an rfl (fun w hS=>(aj acy (hS.aJ 0 rfl))) (RQ.an rfl (fun w hS=>(bj)) (RQ.an (v:=.bool (decide (¬x.2.2.2.2= -1))) rfl (fun w hS=>U) ?_)))))
 by_cases MD:¬x.2.2.2.2= -1
 rw[decide_eq_true MD]
 iterate 6 refine RQ.bU rfl ?_
 refine RQ.an (v:=.bool true) rfl (fun w hS=>(al)) (RQ.an (v:=.bool true) rfl (fun w hS=>U) ?_)
 iterate 14 refine RQ.bU rfl ?_
 refine RQ.an (v:=.bool true) rfl (fun w hS=>(al)) (RQ.an (v:=.bool true) rfl (fun w hS=>U) ?_)
 iterate 14 refine RQ.bU rfl ?_
 refine RQ.an (v:=.bool true) rfl (fun w hS=>(al)) (RQ.bq (aA (RW.bD (RW.aN (RL.ag (v:=.bool false) ai (RL.ak (RW.ret ?_)))))))
 refine aU (bc (RV.tmp rfl) ?_)
 exact⟨congrArg acV (decide_eq_false (fun h=>by
  obtain⟨⟨⟨e1,e2⟩,⟨e3,e4⟩,e5,e6,e7,e8⟩,e9⟩:=h
  first
  |omega
  |(rw[if_pos jn]at e9;omega)
  |(rw[if_neg jn]at e9;obtain⟨m1,⟨m2,m3⟩,m4,m5,_⟩:=e9;first|omega|(have:=m4 _ _ (by assumption) (by assumption);omega)|(have:=m5 _ _ (by assumption) (by assumption);omega))
  )).symm,hN.aX⟩
 rw[decide_eq_false MD]
 refine RQ.aR rfl (fun w hS=>(aE (cs:=[rv,wv]) acE dq (hS.aJ 1 rfl))) (RQ.aR rfl (fun w hS=>(ah acG rfl cT)) (RQ.aR rfl (fun w hS=>(ah acN rfl bI)) (RQ.aR rfl (fun w hS=>(aj acy (hS.aJ 0 rfl))) ?_)))
 refine RQ.dQ rfl (bu ahe rfl rfl rfl rfl ((k8 _ _ rk ws _ (hr.o.now hN) (hw.o.now hN) (x.2.2.2.1)).mono ?_))
 rintro _ w7 ⟨rfl,bl⟩
 replace hN:=hN.ext bl
 clear bl
 refine⟨hN,?_⟩
 refine RQ.aR rfl (fun w hS=>(cU rfl)) (RQ.an (v:=.bool (decide (¬(0≤x.2.2.2.1∧x.2.2.2.1<rk.length)))) rfl (fun w hS=>(aB)) (RQ.an (v:=.bool (decide (¬(0≤x.2.2.2.1∧x.2.2.2.1<rk.length)))) rfl (fun w hS=>U) ?_))
 by_cases IE:¬(0≤x.2.2.2.1∧x.2.2.2.1<rk.length)
 rw[decide_eq_true IE]
 iterate 14 refine RQ.bU rfl ?_
 refine RQ.an (v:=.bool true) rfl (fun w hS=>(al)) (RQ.an (v:=.bool true) rfl (fun w hS=>U) ?_)
 iterate 14 refine RQ.bU rfl ?_
 refine RQ.an (v:=.bool true) rfl (fun w hS=>(al)) (RQ.bq (aA (RW.bD (RW.aN (RL.ag (v:=.bool false) ai (RL.ak (RW.ret ?_)))))))
 refine aU (bc (RV.tmp rfl) ?_)
 exact⟨congrArg acV (decide_eq_false (fun h=>by
  obtain⟨⟨⟨e1,e2⟩,⟨e3,e4⟩,e5,e6,e7,e8⟩,e9⟩:=h
  first
  |omega
  |(rw[if_pos jn]at e9;omega)
  |(rw[if_neg jn]at e9;obtain⟨m1,⟨m2,m3⟩,m4,m5,_⟩:=e9;first|omega|(have:=m4 _ _ (by assumption) (by assumption);omega)|(have:=m5 _ _ (by assumption) (by assumption);omega))
  )).symm,hN.aX⟩
 rw[decide_eq_false IE]
 refine RQ.aR rfl (fun w hS=>(ah acE rfl cc)) (RQ.aR rfl (fun w hS=>(aj acz (hS.aJ 1 rfl))) (RQ.aR rfl (fun w hS=>(ah acG rfl cT)) (RQ.aR rfl (fun w hS=>(ah acN rfl bI)) (RQ.aR rfl (fun w hS=>(aj acy (hS.aJ 0 rfl))) (RQ.aR rfl (fun w hS=>(aC acz bI (hr.o.now hS))) ?_)))))
 have aO:=cQ (rk) ((x.2.2.2.1).toNat)
 obtain⟨a8,V4⟩:=aO
 refine RQ.aR rfl (fun w hS=>(aF (m:=(x.2.2.2.1).toNat) (a:=a8) acy (hr.o.now hS) V4)) (RQ.aR rfl (fun w hS=>(ah acE rfl cc)) (RQ.aR rfl (fun w hS=>(aj acz (hS.aJ 1 rfl))) (RQ.aR rfl (fun w hS=>(ah acG rfl bI)) (RQ.aR rfl (fun w hS=>(aj acy (hS.aJ 0 rfl))) (RQ.aR rfl (fun w hS=>(aC acz bI (hr.o.now hS))) ?_)))))
 have aO:=cQ (rk) ((x.1).toNat)
 obtain⟨a9,ha9⟩:=aO
 refine RQ.aR rfl (fun w hS=>(aF (m:=(x.1).toNat) (a:=a9) acy (hr.o.now hS) ha9)) (RQ.aR rfl (fun w hS=>(ck)) (RQ.an (v:=.bool (decide (a9≤a8))) rfl (fun w hS=>(aB)) (RQ.an (v:=.bool (decide (a9≤a8))) rfl (fun w hS=>U) ?_)))
 by_cases IC:a9≤a8
 rw[decide_eq_true IC]
 iterate 14 refine RQ.bU rfl ?_
 refine RQ.an (v:=.bool true) rfl (fun w hS=>(al)) (RQ.bq (aA (RW.bD (RW.aN (RL.ag (v:=.bool false) ai (RL.ak (RW.ret ?_)))))))
 refine aU (bc (RV.tmp rfl) ?_)
 exact⟨congrArg acV (decide_eq_false (fun h=>by
  obtain⟨⟨⟨e1,e2⟩,⟨e3,e4⟩,e5,e6,e7,e8⟩,e9⟩:=h
  first
  |omega
  |(rw[if_pos jn]at e9;omega)
  |(rw[if_neg jn]at e9;obtain⟨m1,⟨m2,m3⟩,m4,m5,_⟩:=e9;first|omega|(have:=m4 _ _ (by assumption) (by assumption);omega)|(have:=m5 _ _ (by assumption) (by assumption);omega))
  )).symm,hN.aX⟩
 rw[decide_eq_false IC]
 refine RQ.aR rfl (fun w hS=>(ah acE rfl cc)) (RQ.aR rfl (fun w hS=>(aj acz (hS.aJ 1 rfl))) (RQ.aR rfl (fun w hS=>(ah acG rfl cT)) (RQ.aR rfl (fun w hS=>(ah acN rfl bI)) (RQ.aR rfl (fun w hS=>(aj acy (hS.aJ 0 rfl))) (RQ.aR rfl (fun w hS=>(aC acz bI (hr.o.now hS))) ?_)))))
 have aO:=cQ (rk) ((x.2.2.2.1).toNat)
 obtain⟨xn,V9⟩:=aO
 refine RQ.aR rfl (fun w hS=>(aF (m:=(x.2.2.2.1).toNat) (a:=xn) acy (hr.o.now hS) V9)) (RQ.aR rfl (fun w hS=>(ah acE rfl cc)) (RQ.aR rfl (fun w hS=>(aj acz (hS.aJ 1 rfl))) (RQ.aR rfl (fun w hS=>(ah acG rfl bI)) (RQ.aR rfl (fun w hS=>(aj acy (hS.aJ 0 rfl))) (RQ.aR rfl (fun w hS=>(aC acz bI (hr.o.now hS))) ?_)))))
 have aO:=cQ (rk) ((x.2.1).toNat)
 obtain⟨Bi,V8⟩:=aO
 refine RQ.aR rfl (fun w hS=>(aF (m:=(x.2.1).toNat) (a:=Bi) acy (hr.o.now hS) V8)) (RQ.aR rfl (fun w hS=>(ck)) (RQ.an (v:=.bool (decide (Bi≤xn))) rfl (fun w hS=>(aB)) (RQ.bq (aA ?_))))
 refine RW.aG _ (fun SL=>?_) (fun SL=>?_)
 refine RW.aN (RL.ag (v:=.bool false) ai (RL.ak (RW.ret (aU (bc (RV.tmp rfl) ?_)))))
 exact⟨congrArg acV (decide_eq_false (fun h=>by
  obtain⟨⟨⟨e1,e2⟩,⟨e3,e4⟩,e5,e6,e7,e8⟩,e9⟩:=h
  first
  |omega
  |(rw[if_pos jn]at e9;omega)
  |(rw[if_neg jn]at e9;obtain⟨m1,⟨m2,m3⟩,m4,m5,_⟩:=e9;first|omega|(have:=m4 _ _ (by assumption) (by assumption);omega)|(have:=m5 _ _ (by assumption) (by assumption);omega))
  )).symm,hN.aX⟩
 refine RW.skip (aA (RW.seq ?_))
 rcases fg (gH x.1 x.2.2.2.1) ws with⟨ea,_⟩|⟨a,y,ea,Cx,_⟩
 refine RW.region (RL.ag (aE (cs:=[rv,wv]) acE dq (hN.aJ 1 rfl)) (RL.ag (ah acG rfl bI) (RL.ag (aj acy (hN.aJ 0 rfl)) (RL.ag (ah acG rfl cT) (RL.ag (ah acN rfl bI) (RL.ag (aj acy (hN.aJ 0 rfl)) ?_))))))
 refine RL.aL (cn afA rfl rfl rfl rfl rfl ((n5 _ _ rk ws _ (hr.o.now hN) (hw.o.now hN) (x.1) (x.2.2.2.1) (-1) ea).mono ?_))
 rintro _ kI ⟨rfl,bl⟩
 replace hN:=hN.ext bl
 clear bl
 refine RL.ag (v:=.int .i64 (-1)) ai (RL.bY (RL.ag (aE (cs:=[rv,wv]) acE dq (hN.aJ 1 rfl)) (RL.ag (ah acG rfl cT) (RL.ag (ah acN rfl bI) (RL.ag (aj acy (hN.aJ 0 rfl)) (RL.ag (ah acG rfl bI) ?_))))))
 refine RL.ag (aj acy (hN.aJ 0 rfl)) ?_
 refine RL.aL (cn afA rfl rfl rfl rfl rfl ((mq _ _ rk ws _ (hr.o.now hN) (hw.o.now hN) (x.2.2.2.1) (x.2.1)).mono ?_))
 rintro _ lX ⟨rfl,bl⟩
 replace hN:=hN.ext bl
 clear bl
 refine RL.ag (v:=.int .i64 ((kV (gH (x.2.2.2.1) (x.2.1)) ws))) ai (RL.ak (RW.seq ?_))
 replace hN:=hN.ext (Ext.drew lX)
 refine RW.bA (fun u=>aH w none_ u [.aJ g2 [.int .i64 (x.1),.int .i64 (x.2.1),.int .i64 (x.2.2.1),.int .i64 (x.2.2.2.1),.int .i64 (x.2.2.2.2)] 98,.aJ g1 [rv,wv] 28]) 28 [(0,0),(1,0),(2,0),(3,0),(4,0),(5,0),(6,0),(7,0),(8,0),(9,0),(10,0),(11,0),(12,0),(13,0),(14,0),(15,0),(16,0),(17,0),(18,0),(19,0),(20,0),(21,0),(22,0),(23,0),(24,0),(25,0),(26,0),(27,0)] (by intro _ _ _ h;exact h) hN (RQ.an (v:=.int .i64 (-1)) rfl (fun w hS=>U) (RQ.an rfl (fun w hS=>(cG (ck) (by decide))) (RQ.an (v:=.bool false) rfl (fun w hS=>U) ?_)))
 iterate 2 refine RQ.bU rfl ?_
 refine RQ.an (v:=.bool false) rfl (fun w hS=>(aB)) (RQ.an (v:=.bool false) rfl (fun w hS=>U) ?_)
 iterate 19 refine RQ.bU rfl ?_
 refine RQ.an (v:=.bool false) rfl (fun w hS=>(aB)) (RQ.an (v:=.bool false) rfl (fun w hS=>ai) (RQ.bq (aA (RW.ret (bc (RV.tmp rfl) ?_)))))
 exact⟨congrArg acV (decide_eq_false (fun h=>by
  obtain⟨⟨⟨e1,e2⟩,⟨e3,e4⟩,e5,e6,e7,e8⟩,e9⟩:=h
  rw[if_neg jn]at e9
  obtain⟨m1,⟨m2,m3⟩,m4,m5,a_,b_,y_,z_,m6,m7,m8,m9,EX⟩:=e9
  omega)).symm,hN.aX⟩
 have im:=(acF.1 Cx).1
 refine RW.region (RL.ag (aE (cs:=[rv,wv]) acE dq (hN.aJ 1 rfl)) (RL.ag (ah acG rfl bI) (RL.ag (aj acy (hN.aJ 0 rfl)) (RL.ag (ah acG rfl cT) (RL.ag (ah acN rfl bI) (RL.ag (aj acy (hN.aJ 0 rfl)) ?_))))))
 refine RL.aL (cn afA rfl rfl rfl rfl rfl ((n5 _ _ rk ws _ (hr.o.now hN) (hw.o.now hN) (x.1) (x.2.2.2.1) ((a:Int)) ea).mono ?_))
 rintro _ oI ⟨rfl,bl⟩
 replace hN:=hN.ext bl
 clear bl
 refine RL.ag (v:=vJ a) ai (RL.ak (RW.seq ?_))
 rcases fg (gH x.2.2.2.1 x.2.1) ws with⟨eb,_⟩|⟨b,z,eb,y7,_⟩
 refine RW.region (RL.ag (aE (cs:=[rv,wv]) acE dq (hN.aJ 1 rfl)) (RL.ag (ah acG rfl cT) (RL.ag (ah acN rfl bI) (RL.ag (aj acy (hN.aJ 0 rfl)) (RL.ag (ah acG rfl bI) (RL.ag (aj acy (hN.aJ 0 rfl)) ?_))))))
 refine RL.aL (cn afA rfl rfl rfl rfl rfl ((n5 _ _ rk ws _ (hr.o.now hN) (hw.o.now hN) (x.2.2.2.1) (x.2.1) (-1) eb).mono ?_))
 rintro _ ph ⟨rfl,bl⟩
 replace hN:=hN.ext bl
 clear bl
 refine RL.ag (v:=.int .i64 (-1)) ai (RL.ak (RW.seq ?_))
 replace hN:=hN.ext (Ext.drew ph)
 refine RW.bA (fun u=>aH w none_ u [.aJ g2 [.int .i64 (x.1),.int .i64 (x.2.1),.int .i64 (x.2.2.1),.int .i64 (x.2.2.2.1),.int .i64 (x.2.2.2.2)] 98,.aJ g1 [rv,wv] 28]) 28 [(0,0),(1,0),(2,0),(3,0),(4,0),(5,0),(6,0),(7,0),(8,0),(9,0),(10,0),(11,0),(12,0),(13,0),(14,0),(15,0),(16,0),(17,0),(18,0),(19,0),(20,0),(21,0),(22,0),(23,0),(24,0),(25,0),(26,0),(27,0)] (by intro _ _ _ h;exact h) hN (RQ.an (v:=vJ a) rfl (fun w hS=>U) (RQ.an rfl (fun w hS=>(dB (ck) (by omega))) (RQ.an (v:=.bool true) rfl (fun w hS=>U) (RQ.aR (v:=.int .i64 (-1)) rfl (fun w hS=>U) (RQ.aR rfl (fun w hS=>(cG (ck) (by decide))) (RQ.an (v:=.bool false) rfl (fun w hS=>(al)) (RQ.an (v:=.bool false) rfl (fun w hS=>U) ?_)))))))
 iterate 19 refine RQ.bU rfl ?_
 refine RQ.an (v:=.bool false) rfl (fun w hS=>(aB)) (RQ.an (v:=.bool false) rfl (fun w hS=>ai) (RQ.bq (aA (RW.ret (bc (RV.tmp rfl) ?_)))))
 exact⟨congrArg acV (decide_eq_false (fun h=>by
  obtain⟨⟨⟨e1,e2⟩,⟨e3,e4⟩,e5,e6,e7,e8⟩,e9⟩:=h
  rw[if_neg jn]at e9
  obtain⟨m1,⟨m2,m3⟩,m4,m5,a_,b_,y_,z_,m6,m7,m8,m9,EX⟩:=e9
  omega)).symm,hN.aX⟩
 have Qo:=(acF.1 y7).1
 refine RW.region (RL.ag (aE (cs:=[rv,wv]) acE dq (hN.aJ 1 rfl)) (RL.ag (ah acG rfl cT) (RL.ag (ah acN rfl bI) (RL.ag (aj acy (hN.aJ 0 rfl)) (RL.ag (ah acG rfl bI) (RL.ag (aj acy (hN.aJ 0 rfl)) ?_))))))
 refine RL.aL (cn afA rfl rfl rfl rfl rfl ((n5 _ _ rk ws _ (hr.o.now hN) (hw.o.now hN) (x.2.2.2.1) (x.2.1) ((b:Int)) eb).mono ?_))
 rintro _ qq ⟨rfl,bl⟩
 replace hN:=hN.ext bl
 clear bl
 refine RL.ag (v:=vJ b) ai (RL.ak (RW.seq ?_))
 replace hN:=hN.ext (Ext.drew qq)
 refine RW.bA (fun u=>aH w none_ u [.aJ g2 [.int .i64 (x.1),.int .i64 (x.2.1),.int .i64 (x.2.2.1),.int .i64 (x.2.2.2.1),.int .i64 (x.2.2.2.2)] 98,.aJ g1 [rv,wv] 28]) 28 [(0,0),(1,0),(2,0),(3,0),(4,0),(5,0),(6,0),(7,0),(8,0),(9,0),(10,0),(11,0),(12,0),(13,0),(14,0),(15,0),(16,0),(17,0),(18,0),(19,0),(20,0),(21,0),(22,0),(23,0),(24,0),(25,0),(26,0),(27,0)] (by intro _ _ _ h;exact h) hN (RQ.an (v:=vJ a) rfl (fun w hS=>U) (RQ.an rfl (fun w hS=>(dB (ck) (by omega))) (RQ.an (v:=.bool true) rfl (fun w hS=>U) (RQ.aR (v:=vJ b) rfl (fun w hS=>U) (RQ.aR rfl (fun w hS=>(dB (ck) (by omega))) (RQ.an (v:=.bool true) rfl (fun w hS=>(al)) (RQ.an (v:=.bool true) rfl (fun w hS=>U) (RQ.aR rfl (fun w hS=>(ah acE rfl eF)) (RQ.aR rfl (fun w hS=>(aj acL (hS.aJ 1 rfl))) ?_)))))))))
 refine RQ.aR (v:=vJ a) rfl (fun w hS=>U) (RQ.aR rfl (fun w hS=>(aT acL eh aI (hw.o.now hS))) (RQ.aR rfl (fun w hS=>(bm (m:=a) (b:=0) acG rfl cT aI (hw.o.now hS) Cx)) (RQ.aR rfl (fun w hS=>(bm (m:=a) (b:=2) acN rfl bI aI (hw.o.now hS) Cx)) (RQ.aR rfl (fun w hS=>(bB (m:=a) (j:=2) (a:=y) acy aI (hw.o.now hS) Cx)) (RQ.aR rfl (fun w hS=>(ah acE rfl eF)) (RQ.aR rfl (fun w hS=>(aj acL (hS.aJ 1 rfl))) (RQ.aR (v:=vJ b) rfl (fun w hS=>U) (RQ.aR rfl (fun w hS=>(aT acL eh aI (hw.o.now hS))) (RQ.aR rfl (fun w hS=>(bm (m:=b) (b:=0) acG rfl cT aI (hw.o.now hS) y7)) ?_)))))))))
 refine RQ.aR rfl (fun w hS=>(bm (m:=b) (b:=2) acN rfl bI aI (hw.o.now hS) y7)) (RQ.aR rfl (fun w hS=>(bB (m:=b) (j:=2) (a:=z) acy aI (hw.o.now hS) y7)) (RQ.aR rfl (fun w hS=>(aD rfl rfl rfl rfl)) (RQ.aR rfl (fun w hS=>(ah acG rfl cT)) (RQ.aR rfl (fun w hS=>(ah acN rfl bI)) (RQ.aR rfl (fun w hS=>(aj acy (hS.aJ 0 rfl))) (RQ.aR rfl (fun w hS=>(ca)) (RQ.an (v:=.bool (decide ((adE.wrap (y.2.2.1+z.2.2.1))=x.2.2.1))) rfl (fun w hS=>(al)) (RQ.an (v:=.bool (decide ((adE.wrap (y.2.2.1+z.2.2.1))=x.2.2.1))) rfl (fun w hS=>ai) (RQ.bq ?_)))))))))
 refine aA (RW.ret (bc (RV.tmp rfl) ?_))
 exact⟨congrArg acV (decide_eq_decide.2 ⟨fun h=>⟨⟨⟨by omega,by omega⟩,⟨by omega,by omega⟩,by omega,by omega,by omega,by omega⟩,by rw[if_neg jn];exact⟨by omega,⟨by omega,by omega⟩,fun p q hp hq=>by simp_all<;>omega,fun p q hp hq=>by simp_all<;>omega,a,b,y,z,ea,Cx,eb,y7,h⟩⟩,fun h=>by
  obtain⟨⟨⟨e1,e2⟩,⟨e3,e4⟩,e5,e6,e7,e8⟩,e9⟩:=h
  rw[if_neg jn]at e9
  obtain⟨m1,⟨m2,m3⟩,m4,m5,a_,b_,y_,z_,m6,m7,m8,m9,EX⟩:=e9
  have ia:a=a_:=by omega
  have ib:b=b_:=by omega
  subst ia ib
  rw[Cx]at m7
  rw[y7]at m9
  cases m7
  cases m9
  exact EX⟩),hN.aX⟩
theorem we (rv wv:Value) (rk:List Int) (ws:List I5) (w:World) (hr:Sl vI w rv rk) (hw:Sm aV w wv ws):aM acD 50 #[.agg #[rv,wv]] w fun r w'=>r=.int .i64 (dV rk ws)∧Ext w w':=by
 refine aM.aZ Tryz.func50 ?_
 rw[cH]
 have hN:=aH.nil w none_
 refine RW.aN ?_
 refine RL.aL (bJ (cs:=[rv,wv]) rfl rfl hN ?_)
 clear hN
 intro g1 w1 (hN:aH w none_ w1 [_])
 refine RL.ag (v:=.int .i64 (0)) ai (RL.ak ?_)
 iterate 2 refine RW.seq ?_
 refine RW.region (RL.ag (ah acE rfl cc) (RL.ag (aj acz (hN.aJ 0 rfl)) ?_))
 have iH:=(hr.o.now hN).bw
 refine RL.ag (aQ acz (hr.o.now hN)) (RL.ag (cq) (RL.ag (v:=.bool (decide (16777216<(rk.length:Int)))) U ?_))
 by_cases pU:16777216<(rk.length:Int)
 rw[decide_eq_true pU]
 iterate 4 refine RL.bH ?_
 refine RL.ag (v:=.bool true) (al) (RL.ak (RW.bD (RW.aN (RL.ag (v:=.int .i64 (3)) ai (RL.ak (RW.ret ?_))))))
 refine aU (bc (RV.tmp rfl) ?_)
 exact⟨congrArg (ac4 .i64) (show dV rk ws=3 by unfold dV;rw[if_pos (by omega)]).symm,hN.aX⟩
 rw[decide_eq_false pU]
 refine RL.aw (ah acE rfl eF) (RL.aw (aj acL (hN.aJ 0 rfl)) ?_)
 have kH:=(hw.o.now hN).bw
 refine RL.aw (bO acL (hw.o.now hN)) (RL.aw (cq) (RL.ag (v:=.bool (decide (67108864<(ws.length:Int)))) (aB) (RL.ak ?_)))
 refine RW.aG _ (fun V0=>?_) (fun V0=>?_)
 refine RW.aN (RL.ag (v:=.int .i64 (3)) ai (RL.ak (RW.ret (aU (bc (RV.tmp rfl) ?_)))))
 exact⟨congrArg (ac4 .i64) (show dV rk ws=3 by unfold dV;rw[if_pos (by omega)]).symm,hN.aX⟩
 refine RW.skip (aA ?_)
 iterate 2 refine RW.seq ?_
 refine RW.region (RL.ag (v:=.int .i64 (0)) ai (RL.ak (RW.block ?_)))
 refine RW.loop (fun k R0 cv=>∃q:Nat,R0 1=vP g1∧R0 3=vJ q∧aH w none_ cv [.aJ g1 [rv,wv] 28]∧(q+k=rk.length)∧(∀m:Nat,m<q→(m:Int)∈rk)) (rk.length) ?_ ?_
 exact⟨0,rfl,rfl,hN,by omega,fun m hm=>absurd hm (by omega)⟩
 clear hN
 rintro k R0 cv ⟨q,bN,cb,hN,fP,TR⟩
 have cz:=BE bN cb
 obtain⟨fV,rfl⟩:=cz
 clear bN cb
 iterate 2 refine RW.seq ?_
 refine RW.region (RL.ag (v:=vJ q) U (RL.ag (ah acE rfl cc) (RL.ag (aj acz (hN.aJ 0 rfl)) (RL.ag (aQ acz (hr.o.now hN)) (RL.ag (aK) (RL.ak ?_))))))
 refine RW.aG _ (fun cD=>?_) (fun cD=>?_)
 refine RW.skip (aA (RW.seq (RW.block (RW.aN (RL.ag (aE (cs:=[rv,wv]) acE dq (hN.aJ 0 rfl)) (RL.ag (v:=vJ q) U ?_))))))
 refine RL.aL (bu akb rfl rfl rfl rfl ((Db _ _ rk ws _ (hr.o.now hN) (hw.o.now hN) ((q:Int))).mono ?_))
 rintro _ w4 ⟨rfl,bl⟩
 replace hN:=hN.ext bl
 clear bl
 refine RL.ag (aK) (RL.ak ?_)
 refine RW.aG _ (fun fA=>?_) (fun fA=>?_)
 refine RW.aN (RL.ag (v:=.int .i64 (2)) ai (RL.ak (RW.ret (bb ?_))))
 iterate 2 refine aU ?_
 refine bb (aU (bc (RV.tmp rfl) ?_))
 exact⟨congrArg (ac4 .i64) (show dV rk ws=2 by unfold dV;rw[if_neg (by omega),if_neg (fun h=>by first|exact absurd (di.2 (h.1 q (by omega))) (by omega)|exact absurd (h.2 i x hx) (by assumption))]).symm,hN.aX⟩
 refine RW.skip (ba (aA (RW.region (RL.ag (v:=vJ q) U (RL.ag (aD rfl rfl rfl (bg (by omega) (by omega))) (RL.ag (v:=.int .i64 ((q:Int)+1)) ai (RL.ak ?_)))))))
 exact⟨k-1,by omega,q+1,rfl,rfl,hN,by omega,fun m hm=>(adi m q).elim (TR m) (fun e=>(show m=q from by omega)▸di.1 (by omega))⟩
 refine RW.exit ?_
 iterate 2 refine bP ?_
 refine aY (aA ?_)
 iterate 2 refine RW.seq ?_
 refine RW.region (RL.ag (v:=.int .i64 (0)) ai (RL.ak (RW.block ?_)))
 refine RW.loop (fun k2 R1 ez=>∃i:Nat,R1 1=vP g1∧R1 4=vJ i∧aH w none_ ez [.aJ g1 [rv,wv] 28]∧(i+k2=ws.length)∧(∀m:Nat,m<rk.length→(m:Int)∈rk)∧(∀(m:Nat) (y:I5),m<i→ws[m]?=some y→TW rk ws m y)) (ws.length) ?_ ?_
 exact⟨0,rfl,rfl,hN,by omega,fun m hm=>TR m (by omega),fun m y hm=>absurd hm (by omega)⟩
 clear hN
 rintro k2 R1 ez ⟨i,bN,cu,hN,Vp,TR,Yg⟩
 have cz:=BE bN cu
 obtain⟨re,rfl⟩:=cz
 clear bN cu
 iterate 2 refine RW.seq ?_
 refine RW.region (RL.ag (v:=vJ i) U (RL.ag (ah acE rfl eF) (RL.ag (aj acL (hN.aJ 0 rfl)) (RL.ag (bO acL (hw.o.now hN)) (RL.ag (aK) (RL.ak ?_))))))
 refine RW.aG _ (fun ep=>?_) (fun ep=>?_)
 refine RW.skip (aA (RW.seq (RW.block (RW.seq ?_))))
 obtain⟨x,hx⟩:∃x,ws[i]?=some x:=⟨_,acM (by omega)⟩
 refine RW.region (RL.ag (aE (cs:=[rv,wv]) acE dq (hN.aJ 0 rfl)) (RL.ag (v:=vJ i) U ?_))
 refine RL.aL (bu akc rfl rfl rfl rfl ((vx _ _ rk ws _ (hr.o.now hN) (hw.o.now hN) i x hx).mono ?_))
 rintro _ w5 ⟨rfl,bl⟩
 replace hN:=hN.ext bl
 clear bl
 refine RL.ag (cU rfl) (RL.ak ?_)
 refine RW.aG _ (fun vM=>?_) (fun vM=>?_)
 refine RW.aN (RL.ag (v:=.int .i64 (2)) ai (RL.ak (RW.ret (bb ?_))))
 iterate 2 refine aU ?_
 refine bb (aU (bc (RV.tmp rfl) ?_))
 exact⟨congrArg (ac4 .i64) (show dV rk ws=2 by unfold dV;rw[if_neg (by omega),if_neg (fun h=>by first|exact absurd (di.2 (h.1 q (by omega))) (by omega)|exact absurd (h.2 i x hx) (by assumption))]).symm,hN.aX⟩
 refine RW.skip (ba (aA (RW.region (RL.ag (v:=vJ i) U (RL.ag (aD rfl rfl rfl (bg (by omega) (by omega))) (RL.ag (v:=.int .i64 ((i:Int)+1)) ai (RL.ak ?_)))))))
 exact⟨k2-1,by omega,i+1,rfl,rfl,hN,by omega,by omega,fun m y hm hy=>(adi m i).elim (fun e=>Yg m y e hy) (fun e=>have e2:m=i:=(by omega);have e3:y=x:=ac7 (hy.symm.trans (e2▸hx));e2▸e3▸acX.1 vM)⟩
 refine RW.exit ?_
 iterate 2 refine bP ?_
 refine aY (aA (RW.aN (RL.ag (v:=.int .i64 (0)) ai (RL.ak (RW.ret (bc (RV.tmp rfl) ?_))))))
 have ic:i=ws.length:=by omega
 subst ic
 exact⟨congrArg (ac4 .i64) (show dV rk ws=0 by unfold dV;rw[if_neg (by omega),if_pos ⟨fun m hm=>TR m (by omega),fun m y hy=>Yg m y ((acF.1 hy).1) hy⟩]).symm,hN.aX⟩
end Go.Proofs.YtngkdkbpgoddlaaGreat
