/- The law ImageDecodes, for every input: its row, out of the walks. -/
import Derived.Test.YtngkdkbpgoddlaaGreatKImageDecodes6
set_option linter.unusedVariables false
set_option linter.unusedSimpArgs false
set_option linter.unusedSectionVars false
set_option maxHeartbeats 4000000
set_option maxRecDepth 100000
open Bool renaming and_eq_true → VZ
open Decidable renaming not_not → Vi
open Go.Calls renaming mono → ZK
open Go.DataW renaming weightsEach → YO
open Go.Proofs.Tryz renaming underlying3 → UU, underlying25 → UW, prog → UY, underlying98 → U0, underlying38 → U1, underlying24 → U4, underlying29 → U7, underlying34 → U8, underlying22 → Va, underlying28 → Vb, underlying100 → Ve, underlying26 → Vg, underlying32 → Vh, underlying96 → Vj, underlying30 → Vr, underlying5 → Vu, underlying118 → Vy, underlying57 → VA, underlying45 → VB, underlying135 → VE, underlying9 → VO, underlying4 → WS, func36 → YA, func57 → YB, func18 → Zs, func14 → Zw, func89 → Zz, func13 → ZA, f6 → ZJ, checked → aaz, func52 → aaL, func15 → aaN, func20 → aaP, func21 → aaQ, func22 → aaR, func90 → aaS, func12 → aaT, func6 → aa3, func154 → acm
open Go.Proofs.YtngkdkbpgoddlaaGreat.Rows renaming imageDecodesSpec → Xs, imageDecodesRow → ZT
open Go.Value renaming bool → Vd, okWide → Z8
open List renaming getElem?_eq_getElem → UT, mem_of_getElem? → UZ, not_mem_nil → U2, mem_cons → U9, take_of_length_le → Vo, length_drop → Vt, take_length → Vz, length → Wc, drop_eq_nil_of_le → WQ
open Nat renaming le_of_ble_eq_true → US, le_trans → Vf, zero_le → VP, le_of_eq → Xn
open Option.some renaming inj → Vq
open Prod renaming ext → V7
open UInt8 renaming toNat_lt → abe
namespace Go.Proofs.YtngkdkbpgoddlaaGreat
open Go.RowKit Go.Rl
open Go.Gr Go.cP Go.hO
theorem QA {b p1 p2 p3 : List UInt8} {n : Int} {ar : List I3} {rk : List Int} {ws : List I5} {a1 a2 : Bool} {t : RT} {g : List Int} {far so si : List (List Int)} {outs ins : List (List I2)} (h4 : (bz b).length = 4) (h1 : (bz b)[1]? = some p1) (h2 : (bz b)[2]? = some p2) (h3 : (bz b)[3]? = some p3)
    (hm:tR p1=(n,ar,a1)) (hh:na p2=(rk,ws,a2)) (ht:jI p3=(t,(g,far,outs,ins,so,si))):qA b=if(a1=true∧a2=true∧fE t)∧(cL n ar rk ws g far outs ins so si=0∧cX (mq n ar rk ws g far outs ins so si)=b)then some ⟨n,ar,rk,ws,g,far,outs,ins,so,si⟩else none:=by
  unfold tR at hm
  unfold na at hh
  match hp:bz b,h4,h1,h2,h3 with
  |[a,c,d,e],_,h1,h2,h3=>
    cases h1;cases h2;cases h3
    unfold qA
    rw[hp]
    cases hq:r6 p1 with
    |none=>rw[hq]at hm;cases hm;simp only[hq];rw[if_neg (fun h=>by cases h.1.1)]
    |some m=>
      cases hr:mh p2 with
      |none=>rw[hr]at hh;cases hh;simp only[hq,hr];rw[if_neg (fun h=>by cases h.1.2.1)]
      |some y=>
        rw[hq]at hm;rw[hr]at hh;cases hm;cases hh
        simp only[hq,hr,ht]
        by_cases hg:fE t
        · rw [if_pos hg]
          by_cases hc:cL m.1 m.2 y.1 y.2 g far outs ins so si=0∧cX (mq m.1 m.2 y.1 y.2 g far outs ins so si)=b
          · exact(if_pos (c:=jq (⟨m.1,m.2,y.1,y.2,g,far,outs,ins,so,si⟩:oO)=0∧cX (eG (⟨m.1,m.2,y.1,y.2,g,far,outs,ins,so,si⟩:oO))=b) hc).trans (if_pos ⟨⟨trivial,trivial,hg⟩,hc⟩).symm
          · exact(if_neg (c:=jq (⟨m.1,m.2,y.1,y.2,g,far,outs,ins,so,si⟩:oO)=0∧cX (eG (⟨m.1,m.2,y.1,y.2,g,far,outs,ins,so,si⟩:oO))=b) hc).trans (if_neg (fun h=>hc h.2)).symm
        · rw[if_neg hg,if_neg (fun h=>hg h.1.2.2)]
theorem zQ {p1 p2 p3:List UInt8} {n:Int} {ar:List I3} {rk:List Int} {ws:List I5} {a1 a2:Bool} {t:RT} {g:List Int} {far so si:List (List Int)} {outs ins:List (List I2)} {B:Nat} (hm:tR p1=(n,ar,a1)) (hh:na p2=(rk,ws,a2)) (ht:jI p3=(t,(g,far,outs,ins,so,si))) (h1:p1.length≤B) (h2:p2.length≤B) (h3:p3.length≤B) (hB:2000≤B):C1 B B B ar rk ws g far outs ins so si:=by
  have a:ar.length≤B:=by
    unfold tR at hm
    cases hq:r6 p1 with
    |none=>rw[hq]at hm;cases hm;exact VP _
    |some m=>rw[hq]at hm;cases hm;exact Vf (Ec hq) h1
  have b:rk.length≤B∧ws.length≤B:=by
    unfold na at hh
    cases hq:mh p2 with
    |none=>rw[hq]at hh;cases hh;exact⟨VP _,VP _⟩
    |some m=>rw[hq]at hh;cases hh;exact⟨Vf (uX hq).1 h2,Vf (uX hq).2 h2⟩
  obtain⟨c1,c2,c3,c4,c5,c6⟩:=BT ht
  obtain⟨d1,d2⟩:=rl ht
  exact⟨a,b.1,b.2,by omega,⟨by omega,fun r hr=>Vf (c2.2 r hr) h3⟩,⟨by omega,fun r hr=>by have:=d1 r hr;omega⟩,⟨by omega,fun r hr=>by have:=d2 r hr;omega⟩,⟨by omega,fun r hr=>Vf (c5.2 r hr) h3⟩,⟨by omega,fun r hr=>Vf (c6.2 r hr) h3⟩⟩
theorem rQ {b:List UInt8} (h:(parts b).isSome=false):bz b=[]:=by
  unfold bz
  cases hq:parts b with
  |none=>rfl
  |some x=>rw[hq]at h;cases h
theorem sQ {b:List UInt8} (h:¬(bz b).length=4):qA b=none:=by
  unfold qA
  split
  · rename_i hq;rw[hq]at h;exact absurd rfl h
  · rfl
def QP (w w' : World) (r : Value) : Option oO → Prop
  |none=>r=.tuple #[.agg #[.int .i64 (0),.slice none 0 0,.slice none 0 0,.slice none 0 0,.slice none 0 0,.slice none 0 0,.slice none 0 0,.slice none 0 0,.slice none 0 0,.slice none 0 0],.int .i64 5]∧Ext w w'
  |some x=>∃v h0 hs ls wv gv fv ov iv cD cE hf ho fk gL gF,r=.tuple #[.agg #[.int .i64 x.n,v,vh h0,wv,gv,fv,ov,iv,cD,cE],.int .i64 0]∧(hs[0]?=some h0∧ls[0]?=some x.rk)∧ak w none_ w' [.cV bf 3 100 v x.ar,.dT vi hs ls,.cV bC 5 98 wv x.ws,.own vI 3 gv x.g,.own vh 25 fv hf,.dT vI hf x.far,.own vh 118 ov ho,.ek bk ho x.outs,.own vh 118 iv fk,.ek bk fk x.ins,.own vh 25 cD gL,.dT vI gL x.so,.own vh 25 cE gF,.dT vI gF x.si]
theorem lj (v:Value) (l:List UInt8) (w:World) (hv:Sl vb w v l) (hl:l.length≤30000):al UY 20 #[v] w fun r w'=>QP w w' r (qA l):=by
 refine al.start aaP rfl (US rfl) ?_
 rw[bL]
 have hN:=ak.nil w none_
 refine RW.seq (RW.region ?_)
 refine RL.op rfl rfl (aX (cs:=[.int .i64 (0),.slice none 0 0,.slice none 0 0,.slice none 0 0,.slice none 0 0,.slice none 0 0,.slice none 0 0,.slice none 0 0,.slice none 0 0,.slice none 0 0]) dG rfl hN ?_)
 clear hN
 intro g1 w1 (hN:ak w none_ w1 [_])
 refine RL.ev (v:=.int .i64 (0)) rfl rfl aa (RL.nil (ag (RW.seq (RW.region (RL.ev (v:=v) rfl rfl U ?_)))))
 refine RL.op rfl rfl (aM aaL rfl rfl rfl ((lQ _ l _ (hv.ext hN.aE) (by omega)).mono ?_))
 rintro _ w2 ⟨v2,ff,rfl,bE⟩
 replace hN:ak w none_ w2 [_,_,_]:=hN.dU bE
 clear bE
 refine RL.ev (v:=.tuple #[v2,.bool (parts l).isSome]) rfl rfl U ?_
 iterate 2 refine RL.ev rfl rfl (bg rfl rfl) ?_
 refine RL.ev (v:=v2) rfl rfl aa (RL.ev (v:=.bool (parts l).isSome) rfl rfl aa (RL.nil (ag ?_)))
 iterate 2 refine RW.seq ?_
 generalize J8:(parts l).isSome=Ov
 cases Ov
 refine RW.region (RL.ev (v:=.bool false) rfl rfl U (RL.ev rfl rfl (fi rfl) (RL.ev (v:=.bool true) rfl rfl U ?_)))
 iterate 3 refine RL.off rfl rfl (by decide) rfl rfl ?_
 refine RL.ev (v:=.bool true) rfl rfl (ao rfl) (RL.nil (ag (RW.bK rfl (RW.seq (RW.region (RL.ev rfl rfl (bh (cs:=[.int .i64 (0),.slice none 0 0,.slice none 0 0,.slice none 0 0,.slice none 0 0,.slice none 0 0,.slice none 0 0,.slice none 0 0,.slice none 0 0,.slice none 0 0]) U8 dG (places:=#[(0,2),(2,2),(4,6)]) (by intro w;kernel_rfl) (pl:=[]) rfl (ps:=[]) rfl (zc:=[.int .i64 (0),.slice none 0 0,.slice none 0 0,.slice none 0 0,.slice none 0 0,.slice none 0 0,.slice none 0 0,.slice none 0 0,.slice none 0 0,.slice none 0 0]) rfl rfl) ?_))))))
 refine RL.op rfl rfl (aC (vs:=[.int .i64 (0),.slice none 0 0,.slice none 0 0,.slice none 0 0,.slice none 0 0,.slice none 0 0,.slice none 0 0,.slice none 0 0,.slice none 0 0,.slice none 0 0]) dJ rfl rfl rfl (by intro u hu;simp only[U9,U2,or_false]at hu;rcases hu with rfl|rfl|rfl|rfl|rfl|rfl|rfl|rfl|rfl|rfl<;>first|rfl) hN 2 rfl rfl ?_)
 clear hN
 intro w3 (hN:ak w none_ w3 [_,_,_])
 refine RL.ev (v:=.int .i64 (5)) rfl rfl aa (RL.nil (ag (RW.ret (aD (aL (RV.bV rfl rfl (bI (hN.aA 2 rfl) U8 rfl dJ)) ?_)))))
 rw[sQ (by rw[rQ J8];decide)]
 exact⟨rfl,hN.aE⟩
 refine RW.region (RL.ev (v:=.bool true) rfl rfl U (RL.ev rfl rfl (fi rfl) (RL.ev (v:=.bool false) rfl rfl U (RL.aI (v:=v2) rfl rfl (by decide) rfl rfl U ?_))))
 have qn:=(hN.sl 0 rfl).aY
 refine RL.aI rfl rfl (by decide) rfl rfl (aQ VB (hN.sl 0 rfl) rfl) (RL.aI rfl rfl (by decide) rfl rfl (bp rfl rfl) (RL.ev (v:=.bool (decide (¬(ff.length:Int)=4))) rfl rfl (aH rfl) (RL.nil (ag ?_))))
 refine RW.aN _ rfl (fun hlen=>?_) (fun hlen=>?_)
 refine RW.seq (RW.region (RL.ev rfl rfl (bh (cs:=[.int .i64 (0),.slice none 0 0,.slice none 0 0,.slice none 0 0,.slice none 0 0,.slice none 0 0,.slice none 0 0,.slice none 0 0,.slice none 0 0,.slice none 0 0]) U8 dG (places:=#[(0,2),(2,2),(4,6)]) (by intro w;kernel_rfl) (pl:=[]) rfl (ps:=[]) rfl (zc:=[.int .i64 (0),.slice none 0 0,.slice none 0 0,.slice none 0 0,.slice none 0 0,.slice none 0 0,.slice none 0 0,.slice none 0 0,.slice none 0 0,.slice none 0 0]) rfl rfl) ?_))
 refine RL.op rfl rfl (aC (vs:=[.int .i64 (0),.slice none 0 0,.slice none 0 0,.slice none 0 0,.slice none 0 0,.slice none 0 0,.slice none 0 0,.slice none 0 0,.slice none 0 0,.slice none 0 0]) dJ rfl rfl rfl (by intro u hu;simp only[U9,U2,or_false]at hu;rcases hu with rfl|rfl|rfl|rfl|rfl|rfl|rfl|rfl|rfl|rfl<;>first|rfl) hN 2 rfl rfl ?_)
 clear hN
 intro w5 (hN:ak w none_ w5 [_,_,_])
 refine RL.ev (v:=.int .i64 (5)) rfl rfl aa (RL.nil (ag (RW.ret (aD (aL (RV.bV rfl rfl (bI (hN.aA 2 rfl) U8 rfl dJ)) ?_)))))
 rw[sQ (fun h_=>hlen (by have:=(hN.dx 1 rfl).1;omega))]
 exact⟨rfl,hN.aE⟩
 refine RW.skip (ag (RW.seq ?_))
 have HU:(bz l).length=4:=by have:=(hN.dx 1 rfl).1;omega
 refine RW.region (RL.ev (v:=v2) rfl rfl U (RL.ev rfl rfl (aB VB fq (hN.sl 0 rfl) rfl rfl (by omega) (by omega)) ?_))
 have aw:∃a_,(ff)[1]?=some a_:=⟨_,UT (by omega)⟩
 obtain⟨QI,FL⟩:=aw
 have aw:∃l_,(bz l)[1]?=some l_:=⟨_,UT (by have:=(hN.dx 1 rfl).1;omega)⟩
 obtain⟨GA,o5⟩:=aw
 refine RL.ev rfl rfl (aF (m:=1) (a:=QI) U1 rfl (hN.sl 0 rfl) rfl FL) ?_
 have Po:=fy (UZ o5)
 have gV:∃n ar ok,tR GA=(n,ar,ok):=⟨_,_,_,rfl⟩
 obtain⟨n6,GS,Ox,Dl⟩:=gV
 refine RL.op rfl rfl (aM Tryz.func53 rfl rfl rfl ((oW _ GA _ ((hN.dx 1 rfl).2 _ _ _ FL o5).1 (by omega) Dl).mono ?_))
 rintro _ w6 ⟨v6,rfl,bE⟩
 replace hN:ak w none_ w6 [_,_,_,_]:=hN.dU bE
 clear bE
 refine RL.ev (v:=.tuple #[.agg #[.int .i64 (n6),v6],.bool Ox]) rfl rfl U ?_
 iterate 2 refine RL.ev rfl rfl (bg rfl rfl) ?_
 refine RL.op rfl rfl (aX (cs:=[.int .i64 (0),.slice none 0 0]) kB rfl hN ?_)
 clear hN
 intro g7 w7 (hN:ak w none_ w7 [_,_,_,_,_])
 refine RL.op rfl rfl (aC (vs:=[.int .i64 (n6),v6]) db rfl rfl rfl (by intro u hu;simp only[U9,U2,or_false]at hu;rcases hu with rfl|rfl<;>first|rfl|exact(hN.sm 1 rfl).bJ) hN 0 rfl rfl ?_)
 clear hN
 intro w8 (hN:ak w none_ w8 [_,_,_,_,_])
 refine RL.ev (v:=.bool Ox) rfl rfl aa (RL.nil (ag (RW.seq (RW.region (RL.ev (v:=v2) rfl rfl U (RL.ev rfl rfl (aB VB fq (hN.sl 2 rfl) rfl rfl (by omega) (by omega)) ?_))))))
 have aw:∃a_,(ff)[2]?=some a_:=⟨_,UT (by omega)⟩
 obtain⟨qY,iE⟩:=aw
 have aw:∃l_,(bz l)[2]?=some l_:=⟨_,UT (by have:=(hN.dx 3 rfl).1;omega)⟩
 obtain⟨Gz,o4⟩:=aw
 refine RL.ev rfl rfl (aF (m:=2) (a:=qY) U1 rfl (hN.sl 2 rfl) rfl iE) ?_
 have Pm:=fy (UZ o4)
 have gV:∃rk ws ok,na Gz=(rk,ws,ok):=⟨_,_,_,rfl⟩
 obtain⟨zo,vv,Ow,CE⟩:=gV
 refine RL.op rfl rfl (aM Tryz.func54 rfl rfl rfl ((n0 _ Gz _ ((hN.dx 3 rfl).2 _ _ _ iE o4).1 (by omega) CE).mono ?_))
 rintro _ w9 ⟨NX,Oz,xl,mM,rfl,E1,bE⟩
 replace hN:ak w none_ w9 [_,_,_,_,_,_,_]:=hN.dU bE
 clear bE
 refine RL.ev (v:=.tuple #[.agg #[(vh xl),mM],.bool Ow]) rfl rfl U ?_
 iterate 2 refine RL.ev rfl rfl (bg rfl rfl) ?_
 refine RL.op rfl rfl (aX (cs:=[.slice none 0 0,.slice none 0 0]) ng rfl hN ?_)
 clear hN
 intro tY jH (hN:ak w none_ jH [_,_,_,_,_,_,_,_])
 refine RL.op rfl rfl (aC (vs:=[(vh xl),mM]) dr rfl rfl rfl (by intro u hu;simp only[U9,U2,or_false]at hu;rcases hu with rfl|rfl<;>first|rfl|exact(hN.sm 2 rfl).bJ) hN 0 rfl rfl ?_)
 clear hN
 intro jj (hN:ak w none_ jj [_,_,_,_,_,_,_,_])
 refine RL.ev (v:=.bool Ow) rfl rfl aa (RL.nil (ag (RW.seq (RW.region (RL.ev (v:=v2) rfl rfl U (RL.ev rfl rfl (aB VB fq (hN.sl 5 rfl) rfl rfl (by omega) (by omega)) ?_))))))
 have aw:∃a_,(ff)[3]?=some a_:=⟨_,UT (by omega)⟩
 obtain⟨QH,FK⟩:=aw
 have aw:∃l_,(bz l)[3]?=some l_:=⟨_,UT (by have:=(hN.dx 6 rfl).1;omega)⟩
 obtain⟨Gy,o3⟩:=aw
 refine RL.ev rfl rfl (aF (m:=3) (a:=QH) U1 rfl (hN.sl 5 rfl) rfl FK) ?_
 have Pl:=fy (UZ o3)
 have gV:∃s1 b1 g far outs ins so si,jI Gy=((s1,b1),(g,far,outs,ins,so,si)):=⟨_,_,_,_,_,_,_,_,rfl⟩
 obtain⟨tx,uk,wM,nb,j0,mZ,tk,tn,yR⟩:=gV
 refine RL.op rfl rfl (aM Tryz.func55 rfl rfl rfl ((mN _ Gy _ ((hN.dx 6 rfl).2 _ _ _ FK o3).1 (by omega) yR).mono ?_))
 rintro _ iP ⟨kr,ku,kj,kq,gz,gB,Aw,Am,Au,sk,sn,rfl,bE⟩
 replace hN:ak w none_ iP [_,_,_,_,_,_,_,_,_,_,_,_,_,_,_,_,_,_,_]:=hN.dU bE
 clear bE
 refine RL.ev (v:=.tuple #[.agg #[kr,ku,kj,kq,gz,gB],.bool (decide (fE (tx,uk)))]) rfl rfl U ?_
 iterate 2 refine RL.ev rfl rfl (bg rfl rfl) ?_
 refine RL.op rfl rfl (aX (cs:=[.slice none 0 0,.slice none 0 0,.slice none 0 0,.slice none 0 0,.slice none 0 0,.slice none 0 0]) oQ rfl hN ?_)
 clear hN
 intro I1 kC (hN:ak w none_ kC [_,_,_,_,_,_,_,_,_,_,_,_,_,_,_,_,_,_,_,_])
 refine RL.op rfl rfl (aC (vs:=[kr,ku,kj,kq,gz,gB]) ga rfl rfl rfl (by intro u hu;simp only[U9,U2,or_false]at hu;rcases hu with rfl|rfl|rfl|rfl|rfl|rfl<;>first|rfl|exact(hN.sl 1 rfl).bJ|exact(hN.sl 10 rfl).bJ|exact(hN.sl 2 rfl).bJ|exact(hN.sl 4 rfl).bJ|exact(hN.sl 6 rfl).bJ|exact(hN.sl 8 rfl).bJ) hN 0 rfl rfl ?_)
 clear hN
 intro lF (hN:ak w none_ lF [_,_,_,_,_,_,_,_,_,_,_,_,_,_,_,_,_,_,_,_])
 refine RL.ev (v:=.bool (decide (fE (tx,uk)))) rfl rfl aa (RL.nil (ag (RW.seq ?_)))
 have GL:=QA HU o5 o4 o3 Dl CE yR
 have fY:=zQ (B:=30000) Dl CE yR (by omega) (by omega) (by omega) (by decide)
 have Py:=fY.LZ (n:=n6)
 have EB:=rl yR
 refine RW.region (RL.ev rfl rfl (aG (cs:=[.int .i64 (n6),v6]) U4 rfl db rfl (hN.aA 15 rfl)) (RL.ev rfl rfl (aG (cs:=[(vh xl),mM]) Vb rfl dr rfl (hN.aA 12 rfl)) (RL.ev rfl rfl (aG (cs:=[kr,ku,kj,kq,gz,gB]) Vh rfl ga rfl (hN.aA 0 rfl)) (RL.ev rfl rfl (bh (cs:=[.int .i64 (n6),v6,(vh xl),mM,kr,ku,kj,kq,gz,gB]) U8 dG (places:=#[(0,2),(2,2),(4,6)]) (by intro w;kernel_rfl) (pl:=[(0,.tmp 47),(1,.tmp 48),(2,.tmp 49)]) rfl (ps:=[(0,.agg #[.int .i64 (n6),v6]),(1,.agg #[(vh xl),mM]),(2,.agg #[kr,ku,kj,kq,gz,gB])]) rfl (zc:=[.int .i64 (0),.slice none 0 0,.slice none 0 0,.slice none 0 0,.slice none 0 0,.slice none 0 0,.slice none 0 0,.slice none 0 0,.slice none 0 0,.slice none 0 0]) rfl (aP (vs:=[.int .i64 (n6),v6]) rfl rfl (US rfl) (aP (vs:=[(vh xl),mM]) rfl rfl (US rfl) (aP (vs:=[kr,ku,kj,kq,gz,gB]) rfl rfl (US rfl) rfl)))) ?_))))
 refine RL.op rfl rfl (aX (cs:=[.int .i64 (0),.slice none 0 0,.slice none 0 0,.slice none 0 0,.slice none 0 0,.slice none 0 0,.slice none 0 0,.slice none 0 0,.slice none 0 0,.slice none 0 0]) dG rfl hN ?_)
 clear hN
 intro KY k9 (hN:ak w none_ k9 [_,_,_,_,_,_,_,_,_,_,_,_,_,_,_,_,_,_,_,_,_])
 refine RL.op rfl rfl (aC (vs:=[.int .i64 (n6),v6,(vh xl),mM,kr,ku,kj,kq,gz,gB]) dJ rfl rfl rfl (by intro u hu;simp only[U9,U2,or_false]at hu;rcases hu with rfl|rfl|rfl|rfl|rfl|rfl|rfl|rfl|rfl|rfl<;>first|rfl|exact(hN.sl 11 rfl).bJ|exact(hN.sl 2 rfl).bJ|exact(hN.sl 3 rfl).bJ|exact(hN.sl 5 rfl).bJ|exact(hN.sl 7 rfl).bJ|exact(hN.sl 9 rfl).bJ|exact(hN.sm 15 rfl).bJ|exact(hN.sm 17 rfl).bJ) hN 0 rfl rfl ?_)
 clear hN
 intro oL (hN:ak w none_ oL [_,_,_,_,_,_,_,_,_,_,_,_,_,_,_,_,_,_,_,_,_])
 refine RL.nil (ag ?_)
 iterate 2 refine RW.seq ?_
 cases Ox
 replace hN:=hN.ext (Ext.drew oL)
 refine RW.cb rfl (fun u=>ak w none_ u [.aA KY [.int .i64 (n6),v6,(vh xl),mM,kr,ku,kj,kq,gz,gB] 34,.aA I1 [kr,ku,kj,kq,gz,gB] 32,.own vI 3 (kr) (wM),.own vh 25 (ku) (Aw),.dT vI (Aw) (nb),.own vh 118 (kj) (Am),.ek bk (Am) (j0),.own vh 118 (kq) (Au),.ek bk (Au) (mZ),.own vh 25 (gz) (sk),.dT vI (sk) (tk),.own vh 25 (gB) (sn),.dT vI (sn) (tn),.aA tY [(vh xl),mM] 28,.dT vi (NX) (Oz),.cV bC 5 98 (mM) (vv),.aA g7 [.int .i64 (n6),v6] 24,.cV bf 3 100 (v6) (GS),.own vh 38 (v2) (ff),.dT vb (ff) (bz l),.aA g1 [.int .i64 (0),.slice none 0 0,.slice none 0 0,.slice none 0 0,.slice none 0 0,.slice none 0 0,.slice none 0 0,.slice none 0 0,.slice none 0 0,.slice none 0 0] 34]) 23 [(0,0),(1,0),(2,0),(3,0),(4,0),(5,0),(6,0),(7,0),(8,0),(9,0),(10,0),(11,0),(12,1),(13,0),(14,0),(15,0),(16,0),(19,0),(20,0),(17,1),(18,1),(21,0),(22,0)] (by intro _ _ _ h;exact h) (by kernel_rfl) hN (RQ.ev (v:=.bool false) rfl rfl (fun w hS=>U) (RQ.ev rfl rfl (fun w hS=>(fi rfl)) (RQ.ev (v:=.bool true) rfl rfl (fun w hS=>U) ?_)))
 iterate 2 refine RQ.off rfl rfl rfl rfl ?_
 refine RQ.ev (v:=.bool true) rfl rfl (fun w hS=>(ao rfl)) (RQ.ev (v:=.bool true) rfl rfl (fun w hS=>U) ?_)
 iterate 2 refine RQ.off rfl rfl rfl rfl ?_
 refine RQ.ev (v:=.bool true) rfl rfl (fun w hS=>(ao rfl)) (RQ.ev (v:=.bool true) rfl rfl (fun w hS=>U) ?_)
 iterate 3 refine RQ.off rfl rfl rfl rfl ?_
 refine RQ.ev (v:=.bool true) rfl rfl (fun w hS=>(ao rfl)) (RQ.ev (v:=.bool true) rfl rfl (fun w hS=>U) ?_)
 iterate 6 refine RQ.off rfl rfl rfl rfl ?_
 refine RQ.ev (v:=.bool true) rfl rfl (fun w hS=>(ao rfl)) (RQ.done (by kernel_rfl) (ag (RW.bK rfl (RW.seq (RW.region (RL.ev rfl rfl (bh (cs:=[.int .i64 (0),.slice none 0 0,.slice none 0 0,.slice none 0 0,.slice none 0 0,.slice none 0 0,.slice none 0 0,.slice none 0 0,.slice none 0 0,.slice none 0 0]) U8 dG (places:=#[(0,2),(2,2),(4,6)]) (by intro w;kernel_rfl) (pl:=[]) rfl (ps:=[]) rfl (zc:=[.int .i64 (0),.slice none 0 0,.slice none 0 0,.slice none 0 0,.slice none 0 0,.slice none 0 0,.slice none 0 0,.slice none 0 0,.slice none 0 0,.slice none 0 0]) rfl rfl) ?_))))))
 refine RL.op rfl rfl (aC (vs:=[.int .i64 (0),.slice none 0 0,.slice none 0 0,.slice none 0 0,.slice none 0 0,.slice none 0 0,.slice none 0 0,.slice none 0 0,.slice none 0 0,.slice none 0 0]) dJ rfl rfl rfl (by intro u hu;simp only[U9,U2,or_false]at hu;rcases hu with rfl|rfl|rfl|rfl|rfl|rfl|rfl|rfl|rfl|rfl<;>first|rfl) hN 20 rfl rfl ?_)
 clear hN
 intro uu (hN:ak w none_ uu [_,_,_,_,_,_,_,_,_,_,_,_,_,_,_,_,_,_,_,_,_])
 refine RL.ev (v:=.int .i64 (5)) rfl rfl aa (RL.nil (ag (RW.ret (aD (aL (RV.bV rfl rfl (bI (hN.aA 20 rfl) U8 rfl dJ)) ?_)))))
 rw[GL,if_neg (fun h_=>by cases h_.1.1)]
 exact⟨rfl,hN.aE⟩
 cases Ow
 replace hN:=hN.ext (Ext.drew oL)
 refine RW.cb rfl (fun u=>ak w none_ u [.aA KY [.int .i64 (n6),v6,(vh xl),mM,kr,ku,kj,kq,gz,gB] 34,.aA I1 [kr,ku,kj,kq,gz,gB] 32,.own vI 3 (kr) (wM),.own vh 25 (ku) (Aw),.dT vI (Aw) (nb),.own vh 118 (kj) (Am),.ek bk (Am) (j0),.own vh 118 (kq) (Au),.ek bk (Au) (mZ),.own vh 25 (gz) (sk),.dT vI (sk) (tk),.own vh 25 (gB) (sn),.dT vI (sn) (tn),.aA tY [(vh xl),mM] 28,.dT vi (NX) (Oz),.cV bC 5 98 (mM) (vv),.aA g7 [.int .i64 (n6),v6] 24,.cV bf 3 100 (v6) (GS),.own vh 38 (v2) (ff),.dT vb (ff) (bz l),.aA g1 [.int .i64 (0),.slice none 0 0,.slice none 0 0,.slice none 0 0,.slice none 0 0,.slice none 0 0,.slice none 0 0,.slice none 0 0,.slice none 0 0,.slice none 0 0] 34]) 23 [(0,0),(1,0),(2,0),(3,0),(4,0),(5,0),(6,0),(7,0),(8,0),(9,0),(10,0),(11,0),(12,1),(13,0),(14,0),(15,0),(16,0),(19,0),(20,0),(17,1),(18,1),(21,0),(22,0)] (by intro _ _ _ h;exact h) (by kernel_rfl) hN (RQ.ev (v:=.bool true) rfl rfl (fun w hS=>U) (RQ.ev rfl rfl (fun w hS=>(fi rfl)) (RQ.ev (v:=.bool false) rfl rfl (fun w hS=>U) (RQ.on (v:=.bool false) rfl rfl rfl rfl (fun w hS=>U) (RQ.on rfl rfl rfl rfl (fun w hS=>(fi rfl)) (RQ.ev (v:=.bool true) rfl rfl (fun w hS=>(aH rfl)) (RQ.ev (v:=.bool true) rfl rfl (fun w hS=>U) ?_)))))))
 iterate 2 refine RQ.off rfl rfl rfl rfl ?_
 refine RQ.ev (v:=.bool true) rfl rfl (fun w hS=>(ao rfl)) (RQ.ev (v:=.bool true) rfl rfl (fun w hS=>U) ?_)
 iterate 3 refine RQ.off rfl rfl rfl rfl ?_
 refine RQ.ev (v:=.bool true) rfl rfl (fun w hS=>(ao rfl)) (RQ.ev (v:=.bool true) rfl rfl (fun w hS=>U) ?_)
 iterate 6 refine RQ.off rfl rfl rfl rfl ?_
 refine RQ.ev (v:=.bool true) rfl rfl (fun w hS=>(ao rfl)) (RQ.done (by kernel_rfl) (ag (RW.bK rfl (RW.seq (RW.region (RL.ev rfl rfl (bh (cs:=[.int .i64 (0),.slice none 0 0,.slice none 0 0,.slice none 0 0,.slice none 0 0,.slice none 0 0,.slice none 0 0,.slice none 0 0,.slice none 0 0,.slice none 0 0]) U8 dG (places:=#[(0,2),(2,2),(4,6)]) (by intro w;kernel_rfl) (pl:=[]) rfl (ps:=[]) rfl (zc:=[.int .i64 (0),.slice none 0 0,.slice none 0 0,.slice none 0 0,.slice none 0 0,.slice none 0 0,.slice none 0 0,.slice none 0 0,.slice none 0 0,.slice none 0 0]) rfl rfl) ?_))))))
 refine RL.op rfl rfl (aC (vs:=[.int .i64 (0),.slice none 0 0,.slice none 0 0,.slice none 0 0,.slice none 0 0,.slice none 0 0,.slice none 0 0,.slice none 0 0,.slice none 0 0,.slice none 0 0]) dJ rfl rfl rfl (by intro u hu;simp only[U9,U2,or_false]at hu;rcases hu with rfl|rfl|rfl|rfl|rfl|rfl|rfl|rfl|rfl|rfl<;>first|rfl) hN 20 rfl rfl ?_)
 clear hN
 intro vA (hN:ak w none_ vA [_,_,_,_,_,_,_,_,_,_,_,_,_,_,_,_,_,_,_,_,_])
 refine RL.ev (v:=.int .i64 (5)) rfl rfl aa (RL.nil (ag (RW.ret (aD (aL (RV.bV rfl rfl (bI (hN.aA 20 rfl) U8 rfl dJ)) ?_)))))
 rw[GL,if_neg (fun h_=>by cases h_.1.2.1)]
 exact⟨rfl,hN.aE⟩
 replace hN:=hN.ext (Ext.drew oL)
 refine RW.cb rfl (fun u=>ak w none_ u [.aA KY [.int .i64 (n6),v6,(vh xl),mM,kr,ku,kj,kq,gz,gB] 34,.aA I1 [kr,ku,kj,kq,gz,gB] 32,.own vI 3 (kr) (wM),.own vh 25 (ku) (Aw),.dT vI (Aw) (nb),.own vh 118 (kj) (Am),.ek bk (Am) (j0),.own vh 118 (kq) (Au),.ek bk (Au) (mZ),.own vh 25 (gz) (sk),.dT vI (sk) (tk),.own vh 25 (gB) (sn),.dT vI (sn) (tn),.aA tY [(vh xl),mM] 28,.dT vi (NX) (Oz),.cV bC 5 98 (mM) (vv),.aA g7 [.int .i64 (n6),v6] 24,.cV bf 3 100 (v6) (GS),.own vh 38 (v2) (ff),.dT vb (ff) (bz l),.aA g1 [.int .i64 (0),.slice none 0 0,.slice none 0 0,.slice none 0 0,.slice none 0 0,.slice none 0 0,.slice none 0 0,.slice none 0 0,.slice none 0 0,.slice none 0 0] 34]) 23 [(0,0),(1,0),(2,0),(3,0),(4,0),(5,0),(6,0),(7,0),(8,0),(9,0),(10,0),(11,0),(12,1),(13,0),(14,0),(15,0),(16,0),(19,0),(20,0),(17,1),(18,1),(21,0),(22,0)] (by intro _ _ _ h;exact h) (by kernel_rfl) hN (RQ.ev (v:=.bool true) rfl rfl (fun w hS=>U) (RQ.ev rfl rfl (fun w hS=>(fi rfl)) (RQ.ev (v:=.bool false) rfl rfl (fun w hS=>U) (RQ.on (v:=.bool true) rfl rfl rfl rfl (fun w hS=>U) (RQ.on rfl rfl rfl rfl (fun w hS=>(fi rfl)) (RQ.ev (v:=.bool false) rfl rfl (fun w hS=>(aH rfl)) (RQ.ev (v:=.bool false) rfl rfl (fun w hS=>U) (RQ.on (v:=.bool (decide (fE (tx,uk)))) rfl rfl rfl rfl (fun w hS=>U) ?_))))))))
 refine RQ.on rfl rfl rfl rfl (fun w hS=>(cM rfl)) (RQ.ev (v:=.bool (decide (¬(fE (tx,uk))))) rfl rfl (fun w hS=>(aH rfl)) (RQ.ev (v:=.bool (decide (¬(fE (tx,uk))))) rfl rfl (fun w hS=>U) ?_))
 by_cases GJ:¬(fE (tx,uk))
 rw[decide_eq_true GJ]
 iterate 3 refine RQ.off rfl rfl rfl rfl ?_
 refine RQ.ev (v:=.bool true) rfl rfl (fun w hS=>(ao rfl)) (RQ.ev (v:=.bool true) rfl rfl (fun w hS=>U) ?_)
 iterate 6 refine RQ.off rfl rfl rfl rfl ?_
 refine RQ.ev (v:=.bool true) rfl rfl (fun w hS=>(ao rfl)) (RQ.done (by kernel_rfl) (ag (RW.bK rfl (RW.seq (RW.region (RL.ev rfl rfl (bh (cs:=[.int .i64 (0),.slice none 0 0,.slice none 0 0,.slice none 0 0,.slice none 0 0,.slice none 0 0,.slice none 0 0,.slice none 0 0,.slice none 0 0,.slice none 0 0]) U8 dG (places:=#[(0,2),(2,2),(4,6)]) (by intro w;kernel_rfl) (pl:=[]) rfl (ps:=[]) rfl (zc:=[.int .i64 (0),.slice none 0 0,.slice none 0 0,.slice none 0 0,.slice none 0 0,.slice none 0 0,.slice none 0 0,.slice none 0 0,.slice none 0 0,.slice none 0 0]) rfl rfl) ?_))))))
 refine RL.op rfl rfl (aC (vs:=[.int .i64 (0),.slice none 0 0,.slice none 0 0,.slice none 0 0,.slice none 0 0,.slice none 0 0,.slice none 0 0,.slice none 0 0,.slice none 0 0,.slice none 0 0]) dJ rfl rfl rfl (by intro u hu;simp only[U9,U2,or_false]at hu;rcases hu with rfl|rfl|rfl|rfl|rfl|rfl|rfl|rfl|rfl|rfl<;>first|rfl) hN 20 rfl rfl ?_)
 clear hN
 intro zy (hN:ak w none_ zy [_,_,_,_,_,_,_,_,_,_,_,_,_,_,_,_,_,_,_,_,_])
 refine RL.ev (v:=.int .i64 (5)) rfl rfl aa (RL.nil (ag (RW.ret (aD (aL (RV.bV rfl rfl (bI (hN.aA 20 rfl) U8 rfl dJ)) ?_)))))
 rw[GL,if_neg (fun h_=>GJ h_.1.2.2)]
 exact⟨rfl,hN.aE⟩
 rw[decide_eq_false GJ]
 refine RQ.on rfl rfl rfl rfl (fun w hS=>(aG (cs:=[.int .i64 (n6),v6,(vh xl),mM,kr,ku,kj,kq,gz,gB]) U8 rfl dJ rfl (hS.aA 0 rfl))) ?_
 refine RQ.qz rfl rfl rfl rfl (aM Tryz.func19 rfl rfl rfl ((ug (n6) _ _ _ GS zo vv _ (hN.sm 17 rfl) ((hN.dx 14 rfl).2 _ _ _ E1.1 E1.2).1 (hN.sm 15 rfl) _ wM (hN.sl 2 rfl) _ Aw nb (hN.sl 3 rfl) (hN.dx 4 rfl) _ Am j0 (hN.sl 5 rfl) (hN.qy 6 rfl) _ Au mZ (hN.sl 7 rfl) (hN.qy 8 rfl) _ sk tk (hN.sl 9 rfl) (hN.dx 10 rfl) _ sn tn (hN.sl 11 rfl) (hN.dx 12 rfl) (fun r hr=>by have:=EB.1 r hr;omega) (fun r hr=>by have:=EB.2 r hr;omega)).mono ?_))
 rintro _ vz ⟨rfl,aW⟩
 replace hN:=hN.ext aW
 clear aW
 refine⟨hN,?_⟩
 refine RQ.on rfl rfl rfl rfl (fun w hS=>(bp rfl rfl)) (RQ.ev (v:=.bool (decide (¬(cL n6 GS zo vv wM nb j0 mZ tk tn)=0))) rfl rfl (fun w hS=>(aH rfl)) (RQ.ev (v:=.bool (decide (¬(cL n6 GS zo vv wM nb j0 mZ tk tn)=0))) rfl rfl (fun w hS=>U) ?_))
 by_cases HM:¬(cL n6 GS zo vv wM nb j0 mZ tk tn)=0
 rw[decide_eq_true HM]
 iterate 6 refine RQ.off rfl rfl rfl rfl ?_
 refine RQ.ev (v:=.bool true) rfl rfl (fun w hS=>(ao rfl)) (RQ.done (by kernel_rfl) (ag (RW.bK rfl (RW.seq (RW.region (RL.ev rfl rfl (bh (cs:=[.int .i64 (0),.slice none 0 0,.slice none 0 0,.slice none 0 0,.slice none 0 0,.slice none 0 0,.slice none 0 0,.slice none 0 0,.slice none 0 0,.slice none 0 0]) U8 dG (places:=#[(0,2),(2,2),(4,6)]) (by intro w;kernel_rfl) (pl:=[]) rfl (ps:=[]) rfl (zc:=[.int .i64 (0),.slice none 0 0,.slice none 0 0,.slice none 0 0,.slice none 0 0,.slice none 0 0,.slice none 0 0,.slice none 0 0,.slice none 0 0,.slice none 0 0]) rfl rfl) ?_))))))
 refine RL.op rfl rfl (aC (vs:=[.int .i64 (0),.slice none 0 0,.slice none 0 0,.slice none 0 0,.slice none 0 0,.slice none 0 0,.slice none 0 0,.slice none 0 0,.slice none 0 0,.slice none 0 0]) dJ rfl rfl rfl (by intro u hu;simp only[U9,U2,or_false]at hu;rcases hu with rfl|rfl|rfl|rfl|rfl|rfl|rfl|rfl|rfl|rfl<;>first|rfl) hN 20 rfl rfl ?_)
 clear hN
 intro zx (hN:ak w none_ zx [_,_,_,_,_,_,_,_,_,_,_,_,_,_,_,_,_,_,_,_,_])
 refine RL.ev (v:=.int .i64 (5)) rfl rfl aa (RL.nil (ag (RW.ret (aD (aL (RV.bV rfl rfl (bI (hN.aA 20 rfl) U8 rfl dJ)) ?_)))))
 rw[GL,if_neg (fun h_=>HM h_.2.1)]
 exact⟨rfl,hN.aE⟩
 rw[decide_eq_false HM]
 refine RQ.on rfl rfl rfl rfl (fun w hS=>(aG (cs:=[.int .i64 (n6),v6,(vh xl),mM,kr,ku,kj,kq,gz,gB]) U8 rfl dJ rfl (hS.aA 0 rfl))) (RQ.on (v:=v) rfl rfl rfl rfl (fun w hS=>U) (RQ.on rfl rfl rfl rfl (fun w hS=>(eD U1 Vu VO (hv.ext hS.aE) rfl)) ?_))
 refine RQ.qz rfl rfl rfl rfl (aM Tryz.func56 rfl rfl rfl ((qc n6 GS zo vv wM nb j0 mZ tk tn _ _ _ _ _ _ _ _ _ _ _ _ _ _ _ (hN.sm 17 rfl) ((hN.dx 14 rfl).2 _ _ _ E1.1 E1.2).1 (hN.sm 15 rfl) ⟨(hN.sl 2 rfl).o,(hN.sl 3 rfl).o,(hN.dx 4 rfl),(hN.sl 5 rfl).o,(hN.qy 6 rfl),(hN.sl 7 rfl).o,(hN.qy 8 rfl),(hN.sl 9 rfl).o,(hN.dx 10 rfl),(hN.sl 11 rfl).o,(hN.dx 12 rfl)⟩ (Vf fY.ar (by omega)) (Vf fY.rk (by omega)) (Vf fY.ws (by omega)) (Vf fY.g (by omega)) ⟨Vf fY.far.1 (by omega),fun r hr=>Vf (fY.far.2 r hr) (by omega)⟩ ⟨Vf fY.outs.1 (by omega),fun r hr=>Vf (fY.outs.2 r hr) (by omega)⟩ ⟨Vf fY.ins.1 (by omega),fun r hr=>Vf (fY.ins.2 r hr) (by omega)⟩ ⟨Vf fY.so.1 (by omega),fun r hr=>Vf (fY.so.2 r hr) (by omega)⟩ ⟨Vf fY.si.1 (by omega),fun r hr=>Vf (fY.si.2 r hr) (by omega)⟩ (by omega)).mono ?_))
 rintro Uo BM ⟨cx,aW⟩
 replace hN:ak w none_ BM [_,_,_,_,_,_,_,_,_,_,_,_,_,_,_,_,_,_,_,_,_,_]:=hN.bx (l:=cX (mq n6 GS zo vv wM nb j0 mZ tk tn)) cx aW
 clear cx aW
 refine⟨(hN.sub [1,2,3,4,5,6,7,8,9,10,11,12,13,14,15,16,17,18,19,20,21] (by decide) rfl),?_⟩
 refine RQ.qz rfl rfl rfl rfl (dQ.ev (eD U1 Vu VO (hN.sl 0 rfl) rfl) ⟨(hN.sub [1,2,3,4,5,6,7,8,9,10,11,12,13,14,15,16,17,18,19,20,21] (by decide) rfl),?_⟩)
 refine RQ.on rfl rfl rfl rfl (fun w hS=>(kz rfl rfl)) (RQ.ev (v:=.bool (decide (¬(cX (mq n6 GS zo vv wM nb j0 mZ tk tn))=l))) rfl rfl (fun w hS=>(aH rfl)) (RQ.done (by kernel_rfl) (ag ?_)))
 refine RW.aN _ rfl (fun fF=>?_) (fun fF=>?_)
 refine RW.seq (RW.region (RL.ev rfl rfl (bh (cs:=[.int .i64 (0),.slice none 0 0,.slice none 0 0,.slice none 0 0,.slice none 0 0,.slice none 0 0,.slice none 0 0,.slice none 0 0,.slice none 0 0,.slice none 0 0]) U8 dG (places:=#[(0,2),(2,2),(4,6)]) (by intro w;kernel_rfl) (pl:=[]) rfl (ps:=[]) rfl (zc:=[.int .i64 (0),.slice none 0 0,.slice none 0 0,.slice none 0 0,.slice none 0 0,.slice none 0 0,.slice none 0 0,.slice none 0 0,.slice none 0 0,.slice none 0 0]) rfl rfl) ?_))
 refine RL.op rfl rfl (aC (vs:=[.int .i64 (0),.slice none 0 0,.slice none 0 0,.slice none 0 0,.slice none 0 0,.slice none 0 0,.slice none 0 0,.slice none 0 0,.slice none 0 0,.slice none 0 0]) dJ rfl rfl rfl (by intro u hu;simp only[U9,U2,or_false]at hu;rcases hu with rfl|rfl|rfl|rfl|rfl|rfl|rfl|rfl|rfl|rfl<;>first|rfl) hN 21 rfl rfl ?_)
 clear hN
 intro Gs (hN:ak w none_ Gs [_,_,_,_,_,_,_,_,_,_,_,_,_,_,_,_,_,_,_,_,_,_])
 refine RL.ev (v:=.int .i64 (5)) rfl rfl aa (RL.nil (ag (RW.ret (aD (aL (RV.bV rfl rfl (bI (hN.aA 21 rfl) U8 rfl dJ)) ?_)))))
 rw[GL,if_neg (fun h_=>fF h_.2.2)]
 exact⟨rfl,hN.aE⟩
 refine RW.skip (ag (RW.seq (RW.region (RL.ev rfl rfl (aG (cs:=[.int .i64 (n6),v6,(vh xl),mM,kr,ku,kj,kq,gz,gB]) U8 rfl dJ rfl (hN.aA 1 rfl)) ?_))))
 refine RL.op rfl rfl (aC (vs:=[.int .i64 (n6),v6,(vh xl),mM,kr,ku,kj,kq,gz,gB]) dJ rfl rfl rfl (by intro u hu;simp only[U9,U2,or_false]at hu;rcases hu with rfl|rfl|rfl|rfl|rfl|rfl|rfl|rfl|rfl|rfl<;>first|rfl|exact(hN.sl 10 rfl).bJ|exact(hN.sl 12 rfl).bJ|exact(hN.sl 3 rfl).bJ|exact(hN.sl 4 rfl).bJ|exact(hN.sl 6 rfl).bJ|exact(hN.sl 8 rfl).bJ|exact(hN.sm 16 rfl).bJ|exact(hN.sm 18 rfl).bJ) hN 21 rfl rfl ?_)
 clear hN
 intro NR (hN:ak w none_ NR [_,_,_,_,_,_,_,_,_,_,_,_,_,_,_,_,_,_,_,_,_,_])
 refine RL.ev (v:=.int .i64 (0)) rfl rfl aa (RL.nil (ag (RW.ret (aL (RV.bV rfl rfl (bI (hN.aA 21 rfl) U8 rfl dJ)) ?_))))
 rw[GL,if_pos ⟨⟨rfl,rfl,Vi.1 GJ⟩,Vi.1 HM,Vi.1 fF⟩]
 exact⟨_,xl,_,_,_,_,_,_,_,_,_,_,_,_,_,_,rfl,E1,hN.sub [18,15,16,3,4,5,6,7,8,9,10,11,12,13] (by decide) rfl⟩
end Go.Proofs.YtngkdkbpgoddlaaGreat
namespace Go.Proofs.YtngkdkbpgoddlaaGreat
open Go.RowKit Go.Rl
open Go.Gr Go.cP Go.hO
def nA (b:List UInt8):List UInt8:=(bz b).headD []
def n7 (b:List UInt8):Prop:=(bz b).length=4∧(nA b).length=11∧(nA b).take 3=[80,82,49]
instance (b:List UInt8):Decidable (n7 b):=inferInstanceAs (Decidable (_∧_))
def rP (b:List UInt8):Nat:=if n7 b then le ((nA b).drop 3)else 0
theorem ic {b:List UInt8} (h:¬n7 b):rP b=0:=if_neg h
theorem uL {b p:List UInt8} (h4:(bz b).length=4) (h0:(bz b)[0]?=some p) (hl:p.length=11) (ht:p.take 3=[80,82,49]):rP b=le (p.drop 3):=by
  have e:nA b=p:=by
    unfold nA
    match hq:bz b,h0 with
    |a::r,h0=>cases h0;rfl
  unfold rP
  rw[if_pos (show n7 b from by unfold n7;rw[e];exact⟨h4,hl,ht⟩),e]
theorem Bp {b p:List UInt8} (h0:(bz b)[0]?=some p):nA b=p:=by
  unfold nA
  match hq:bz b,h0 with
  |a::r,h0=>cases h0;rfl
theorem Hw {p:List UInt8} {j:Nat} {x:UInt8} (h:p[j]?=some x):le (p.drop j)=x.toNat+256*le (p.drop (j+1)):=by
  rw[nG h];rfl
theorem JP {p:List UInt8} (h:p.length=11):(eh ((p.drop 3),0) 8).2=le (p.drop 3):=by
  have hl:(p.drop 3).length=8:=by rw[Vt,h]
  show le (ej ((p.drop 3),0) 8).2=_
  rw[iw rfl (Xn hl.symm)]
  rw[Vo (Xn hl)]
theorem oo (v:Value) (l:List UInt8) (w:World) (hv:Sl vb w v l) (hl:l.length≤1048576):al UY 21 #[v] w fun r w'=>r=.int .u64 ((rP l:Nat):Int)∧Ext w w':=by
 refine al.start aaQ rfl (US rfl) ?_
 rw[bL]
 have hN:=ak.nil w none_
 refine RW.seq (RW.region (RL.ev (v:=.int .u64 (0)) rfl rfl aa (RL.nil (ag (RW.seq (RW.region (RL.ev (v:=v) rfl rfl U ?_)))))))
 refine RL.op rfl rfl (aM Zw rfl rfl rfl ((lU _ l _ (hv.ext hN.aE) hl).mono ?_))
 rintro v1 w1 ⟨iR,bE⟩
 replace hN:ak w none_ w1 [_,_]:=hN.dU bE
 clear bE
 refine RL.ev (v:=v1) rfl rfl aa ?_
 have HK:=(hN.dx 1 rfl).1
 refine RL.nil (ag ?_)
 iterate 2 refine RW.seq ?_
 refine RW.region (RL.ev (v:=v1) rfl rfl U ?_)
 have jb:=(hN.sl 0 rfl).aY
 refine RL.ev rfl rfl (aQ VB (hN.sl 0 rfl) rfl) (RL.ev rfl rfl (bp rfl rfl) (RL.ev (v:=.bool (decide (¬(iR.length:Int)=4))) rfl rfl U ?_))
 by_cases h4:¬(iR.length:Int)=4
 rw[decide_eq_true h4]
 iterate 5 refine RL.off rfl rfl (by decide) rfl rfl ?_
 refine RL.ev (v:=.bool true) rfl rfl (ao rfl) (RL.ev (v:=.bool true) rfl rfl U ?_)
 iterate 6 refine RL.off rfl rfl (by decide) rfl rfl ?_
 refine RL.ev (v:=.bool true) rfl rfl (ao rfl) (RL.nil (ag (RW.bK rfl (RW.seq (RW.region (RL.ev (v:=.int .u64 (0)) rfl rfl aa (RL.nil (ag (RW.ret ?_)))))))))
 refine aD (aL (RV.tmp rfl) ?_)
 rw[ic (fun h_=>h4 (by have:=h_.1;omega))]
 exact⟨rfl,hN.aE⟩
 rw[decide_eq_false h4]
 have aw:∃a_,iR[0]?=some a_:=⟨_,UT (by omega)⟩
 obtain⟨h0,mP⟩:=aw
 have aw:∃a_,(bz l)[0]?=some a_:=⟨_,UT (by omega)⟩
 obtain⟨p,hp⟩:=aw
 have GH:=fy (UZ hp)
 have M9:=Bp hp
 refine RL.aI (v:=v1) rfl rfl (by decide) rfl rfl U (RL.aI rfl rfl (by decide) rfl rfl (aB VB fq (hN.sl 0 rfl) rfl rfl (by omega) (by omega)) (RL.aI rfl rfl (by decide) rfl rfl (aF (m:=0) (a:=h0) U1 rfl (hN.sl 0 rfl) rfl mP) ?_))
 have qn:=((hN.dx 1 rfl).2 _ _ _ mP hp).1.aY
 refine RL.aI rfl rfl (by decide) rfl rfl (aQ U1 ((hN.dx 1 rfl).2 _ _ _ mP hp).1 rfl) (RL.aI rfl rfl (by decide) rfl rfl (bp rfl rfl) (RL.ev (v:=.bool (decide (¬(p.length:Int)=11))) rfl rfl (aH rfl) (RL.ev (v:=.bool (decide (¬(p.length:Int)=11))) rfl rfl U ?_)))
 by_cases CG:¬(p.length:Int)=11
 rw[decide_eq_true CG]
 iterate 6 refine RL.off rfl rfl (by decide) rfl rfl ?_
 refine RL.ev (v:=.bool true) rfl rfl (ao rfl) (RL.nil (ag (RW.bK rfl (RW.seq (RW.region (RL.ev (v:=.int .u64 (0)) rfl rfl aa (RL.nil (ag (RW.ret ?_)))))))))
 refine aD (aL (RV.tmp rfl) ?_)
 rw[ic (fun h_=>CG (by have:=h_.2.1;rw[M9]at this;omega))]
 exact⟨rfl,hN.aE⟩
 rw[decide_eq_false CG]
 refine RL.aI (v:=v1) rfl rfl (by decide) rfl rfl U (RL.aI rfl rfl (by decide) rfl rfl (aB VB fq (hN.sl 0 rfl) rfl rfl (by omega) (by omega)) (RL.aI rfl rfl (by decide) rfl rfl (aF (m:=0) (a:=h0) U1 rfl (hN.sl 0 rfl) rfl mP) (RL.aI rfl rfl (by decide) rfl rfl (gX U1 lG ((hN.dx 1 rfl).2 _ _ _ mP hp).1 rfl rfl (by omega) (by omega)) (RL.aI rfl rfl (by decide) rfl rfl (eD U1 Vu VO (((hN.dx 1 rfl).2 _ _ _ mP hp).1.nc (by omega)) rfl) (RL.aI rfl rfl (by decide) rfl rfl (kz rfl rfl) (RL.ev (v:=.bool (decide (¬(p.take 3)=[80,82,49]))) rfl rfl (aH rfl) (RL.nil (ag ?_))))))))
 refine RW.aN _ rfl (fun EC=>?_) (fun EC=>?_)
 refine RW.seq (RW.region (RL.ev (v:=.int .u64 (0)) rfl rfl aa (RL.nil (ag (RW.ret (aD (aL (RV.tmp rfl) ?_)))))))
 rw[ic (fun h_=>EC (by have:=h_.2.2;rw[M9]at this;exact this))]
 exact⟨rfl,hN.aE⟩
 refine RW.skip (ag (RW.seq ?_))
 have TO:(p.drop 3).length=8:=by rw[Vt];omega
 refine RW.region (RL.ev (v:=v1) rfl rfl U (RL.ev rfl rfl (aB VB fq (hN.sl 0 rfl) rfl rfl (by omega) (by omega)) (RL.ev rfl rfl (aF (m:=0) (a:=h0) U1 rfl (hN.sl 0 rfl) rfl mP) (RL.ev rfl rfl (eW U1 lG ((hN.dx 1 rfl).2 _ _ _ mP hp).1 rfl rfl (by omega) (by omega)) ?_))))
 refine RL.op rfl rfl (aM YA rfl rfl rfl ((mF _ (p.drop 3) _ (((hN.dx 1 rfl).2 _ _ _ mP hp).1.fM (by omega)) (by omega)).mono ?_))
 rintro _ w7 ⟨g7,rfl,lr,aW⟩
 have fo:=vN hN lr aW
 clear lr aW
 generalize Ty:(w1).heap.size=NV at fo
 generalize TH:(w7).heap.size=N7 at fo
 clear hN
 have hN:ak w none_ w7 [_,_,_]:=fo
 clear fo
 refine RL.op rfl rfl (aR YB rfl rfl rfl rfl ((JO (b8.says hN 0 rfl) (show clip 8=8 from rfl) (eta (eh ((p.drop 3),0) 8))).mono ?_))
 rintro _ w8 ⟨rfl,lr,Iy,_⟩
 replace hN:ak w none_ w8 [_,_,_]:=AZ hN 0 rfl lr Iy
 clear lr Iy
 refine RL.ev (v:=.int .u64 (((eh ((p.drop 3),0) 8).2:Int))) rfl rfl aa (RL.nil (ag (RW.ret (aL (RV.tmp rfl) ?_))))
 rw[uL (by omega) hp (by omega) (Vi.1 EC),←JP (by omega)]
 exact⟨rfl,hN.aE⟩
theorem lh (v:Value) (l:List UInt8) (w:World) (hv:Sl vb w v l) (hl:l.length≤1048576):al UY 22 #[v] w fun r w'=>r=.int .u64 ((rP l:Nat):Int)∧Ext w w':=by
 refine al.start aaR rfl (US rfl) ?_
 rw[bL]
 have hN:=ak.nil w none_
 refine RW.seq (RW.region (RL.ev (v:=.int .u64 (0)) rfl rfl aa (RL.nil (ag (RW.seq (RW.region (RL.ev (v:=v) rfl rfl U ?_)))))))
 refine RL.op rfl rfl (aM aaL rfl rfl rfl ((lQ _ l _ (hv.ext hN.aE) (by omega)).mono ?_))
 rintro _ w1 ⟨v1,iR,rfl,bE⟩
 replace hN:ak w none_ w1 [_,_]:=hN.dU bE
 clear bE
 refine RL.ev (v:=.tuple #[v1,.bool (parts l).isSome]) rfl rfl U ?_
 iterate 2 refine RL.ev rfl rfl (bg rfl rfl) ?_
 refine RL.ev (v:=v1) rfl rfl aa ?_
 have HK:=(hN.dx 1 rfl).1
 refine RL.ev (v:=.bool (parts l).isSome) rfl rfl aa (RL.nil (ag ?_))
 iterate 2 refine RW.seq ?_
 generalize J8:(parts l).isSome=Ov
 cases Ov
 refine RW.region (RL.ev (v:=.bool false) rfl rfl U (RL.ev rfl rfl (fi rfl) (RL.ev (v:=.bool true) rfl rfl U ?_)))
 iterate 3 refine RL.off rfl rfl (by decide) rfl rfl ?_
 refine RL.ev (v:=.bool true) rfl rfl (ao rfl) (RL.ev (v:=.bool true) rfl rfl U ?_)
 iterate 5 refine RL.off rfl rfl (by decide) rfl rfl ?_
 refine RL.ev (v:=.bool true) rfl rfl (ao rfl) (RL.ev (v:=.bool true) rfl rfl U ?_)
 iterate 6 refine RL.off rfl rfl (by decide) rfl rfl ?_
 refine RL.ev (v:=.bool true) rfl rfl (ao rfl) (RL.nil (ag (RW.bK rfl (RW.seq (RW.region (RL.ev (v:=.int .u64 (0)) rfl rfl aa (RL.nil (ag (RW.ret ?_)))))))))
 refine aD (aL (RV.tmp rfl) ?_)
 rw[ic (fun h_=>by have:=h_.1;rw[rQ J8]at this;cases this)]
 exact⟨rfl,hN.aE⟩
 refine RW.region (RL.ev (v:=.bool true) rfl rfl U (RL.ev rfl rfl (fi rfl) (RL.ev (v:=.bool false) rfl rfl U (RL.aI (v:=v1) rfl rfl (by decide) rfl rfl U ?_))))
 have jb:=(hN.sl 0 rfl).aY
 refine RL.aI rfl rfl (by decide) rfl rfl (aQ VB (hN.sl 0 rfl) rfl) (RL.aI rfl rfl (by decide) rfl rfl (bp rfl rfl) (RL.ev (v:=.bool (decide (¬(iR.length:Int)=4))) rfl rfl (aH rfl) (RL.ev (v:=.bool (decide (¬(iR.length:Int)=4))) rfl rfl U ?_)))
 by_cases h4:¬(iR.length:Int)=4
 rw[decide_eq_true h4]
 iterate 5 refine RL.off rfl rfl (by decide) rfl rfl ?_
 refine RL.ev (v:=.bool true) rfl rfl (ao rfl) (RL.ev (v:=.bool true) rfl rfl U ?_)
 iterate 6 refine RL.off rfl rfl (by decide) rfl rfl ?_
 refine RL.ev (v:=.bool true) rfl rfl (ao rfl) (RL.nil (ag (RW.bK rfl (RW.seq (RW.region (RL.ev (v:=.int .u64 (0)) rfl rfl aa (RL.nil (ag (RW.ret ?_)))))))))
 refine aD (aL (RV.tmp rfl) ?_)
 rw[ic (fun h_=>h4 (by have:=h_.1;omega))]
 exact⟨rfl,hN.aE⟩
 rw[decide_eq_false h4]
 have aw:∃a_,iR[0]?=some a_:=⟨_,UT (by omega)⟩
 obtain⟨h0,mP⟩:=aw
 have aw:∃a_,(bz l)[0]?=some a_:=⟨_,UT (by omega)⟩
 obtain⟨p,hp⟩:=aw
 have GH:=fy (UZ hp)
 have M9:=Bp hp
 refine RL.aI (v:=v1) rfl rfl (by decide) rfl rfl U (RL.aI rfl rfl (by decide) rfl rfl (aB VB fq (hN.sl 0 rfl) rfl rfl (by omega) (by omega)) (RL.aI rfl rfl (by decide) rfl rfl (aF (m:=0) (a:=h0) U1 rfl (hN.sl 0 rfl) rfl mP) ?_))
 have qn:=((hN.dx 1 rfl).2 _ _ _ mP hp).1.aY
 refine RL.aI rfl rfl (by decide) rfl rfl (aQ U1 ((hN.dx 1 rfl).2 _ _ _ mP hp).1 rfl) (RL.aI rfl rfl (by decide) rfl rfl (bp rfl rfl) (RL.ev (v:=.bool (decide (¬(p.length:Int)=11))) rfl rfl (aH rfl) (RL.ev (v:=.bool (decide (¬(p.length:Int)=11))) rfl rfl U ?_)))
 by_cases CG:¬(p.length:Int)=11
 rw[decide_eq_true CG]
 iterate 6 refine RL.off rfl rfl (by decide) rfl rfl ?_
 refine RL.ev (v:=.bool true) rfl rfl (ao rfl) (RL.nil (ag (RW.bK rfl (RW.seq (RW.region (RL.ev (v:=.int .u64 (0)) rfl rfl aa (RL.nil (ag (RW.ret ?_)))))))))
 refine aD (aL (RV.tmp rfl) ?_)
 rw[ic (fun h_=>CG (by have:=h_.2.1;rw[M9]at this;omega))]
 exact⟨rfl,hN.aE⟩
 rw[decide_eq_false CG]
 refine RL.aI (v:=v1) rfl rfl (by decide) rfl rfl U (RL.aI rfl rfl (by decide) rfl rfl (aB VB fq (hN.sl 0 rfl) rfl rfl (by omega) (by omega)) (RL.aI rfl rfl (by decide) rfl rfl (aF (m:=0) (a:=h0) U1 rfl (hN.sl 0 rfl) rfl mP) (RL.aI rfl rfl (by decide) rfl rfl (gX U1 lG ((hN.dx 1 rfl).2 _ _ _ mP hp).1 rfl rfl (by omega) (by omega)) (RL.aI rfl rfl (by decide) rfl rfl (eD U1 Vu VO (((hN.dx 1 rfl).2 _ _ _ mP hp).1.nc (by omega)) rfl) (RL.aI rfl rfl (by decide) rfl rfl (kz rfl rfl) (RL.ev (v:=.bool (decide (¬(p.take 3)=[80,82,49]))) rfl rfl (aH rfl) (RL.nil (ag ?_))))))))
 refine RW.aN _ rfl (fun EC=>?_) (fun EC=>?_)
 refine RW.seq (RW.region (RL.ev (v:=.int .u64 (0)) rfl rfl aa (RL.nil (ag (RW.ret (aD (aL (RV.tmp rfl) ?_)))))))
 rw[ic (fun h_=>EC (by have:=h_.2.2;rw[M9]at this;exact this))]
 exact⟨rfl,hN.aE⟩
 refine RW.skip (ag (RW.seq (RW.region (RL.ev (v:=.int .u64 (0)) rfl rfl aa (RL.nil (ag ?_))))))
 iterate 2 refine RW.seq ?_
 refine RW.region (RL.ev (v:=.int .i64 (10)) rfl rfl aa (RL.nil (ag (RW.block ?_))))
 refine RW.loop (fun k R0 bT=>∃j:Nat,∃nn:Nat,R0 3=v1∧R0 5=.int .u64 ((nn:Int))∧R0 6=.int .i64 (((j:Int)-1))∧ak w none_ bT [.own vh 38 (v1) (iR),.dT vb (iR) (bz l)]∧(j+0=k+2)∧(nn=le (p.drop j))∧(j≤11∧3≤j)) (9) ?_ ?_
 exact⟨11,0,rfl,rfl,rfl,hN,by omega,by rw[WQ (by omega)];rfl,by omega⟩
 clear hN
 rintro k R0 bT ⟨j,nn,ca,bM,dd,hN,wy,Rv,hj⟩
 have bY:∃b6,R0=(aZ (aZ (aZ b6 3 _) 5 _) 6 _):=⟨R0,by rw[ai ca,ai bM,ai dd]⟩
 obtain⟨b6,rfl⟩:=bY
 clear ca bM dd
 iterate 2 refine RW.seq ?_
 refine RW.region (RL.ev (v:=.int .i64 (((j:Int)-1))) rfl rfl U (RL.ev rfl rfl (da rfl rfl) (RL.nil (ag ?_))))
 refine RW.aN _ rfl (fun GK=>?_) (fun GK=>?_)
 refine RW.skip (ag (RW.seq (RW.block ?_)))
 have aw:∃a_,p[j-1]?=some a_:=⟨_,UT (by omega)⟩
 obtain⟨x,hx⟩:=aw
 have QY:=abe x
 have hle:=Hw hx
 rw[show j-1+1=j by omega,←Rv]at hle
 have tU:=qP (p.drop (j-1)) (by rw[Vt];omega)
 refine RW.region (RL.ev (v:=.int .u64 ((nn:Int))) rfl rfl U (RL.ev rfl rfl (an rfl rfl rfl (show arith .mul .u64 256 (nn:Int)=256*(nn:Int)from vw (by omega) (by omega))) (RL.ev (v:=v1) rfl rfl U (RL.ev rfl rfl (aB VB fq (hN.sl 0 rfl) rfl rfl (by omega) (by omega)) (RL.ev rfl rfl (aF (m:=0) (a:=h0) U1 rfl (hN.sl 0 rfl) rfl mP) (RL.ev (v:=.int .i64 (((j:Int)-1))) rfl rfl U (RL.ev rfl rfl (aB U1 lG ((hN.dx 1 rfl).2 _ _ _ mP hp).1 rfl rfl (by omega) (by omega)) ?_)))))))
 have RB:=abe x
 refine RL.ev rfl rfl (aF (m:=(((j:Int)-1)).toNat) (a:=x) Vu rfl ((hN.dx 1 rfl).2 _ _ _ mP hp).1 rfl (by rw[show((j:Int)-1).toNat=j-1 by omega];exact hx)) (RL.ev rfl rfl (cw Vu VA rfl (vw (by omega) (by omega))) (RL.ev rfl rfl (an rfl rfl rfl (show arith .add .u64 (256*(nn:Int)) (x.toNat:Int)=((x.toNat+256*nn:Nat):Int)from(vw (by omega) (by omega)).trans (by omega))) (RL.ev (v:=.int .u64 (((x.toNat+256*nn:Nat):Int))) rfl rfl aa (RL.nil (a7 (ag (RW.region (RL.ev (v:=.int .i64 (((j:Int)-1))) rfl rfl U (RL.ev rfl rfl (an rfl rfl rfl (show arith .sub .i64 ((j:Int)-1) 1=((j-1:Nat):Int)-1 from(kc (by omega) (by omega)).trans (by omega))) ?_)))))))))
 refine RL.ev (v:=.int .i64 ((((j-1:Nat):Int)-1))) rfl rfl aa (RL.nil (ag ?_))
 exact⟨k-1,by omega,j-1,x.toNat+256*nn,rfl,rfl,rfl,hN,by omega,hle.symm,by omega⟩
 refine RW.exit ?_
 iterate 2 refine bm ?_
 refine aO (ag (RW.seq (RW.region (RL.ev (v:=.int .u64 ((nn:Int))) rfl rfl U (RL.ev (v:=.int .u64 ((nn:Int))) rfl rfl aa (RL.nil (ag (RW.ret (aL (RV.tmp rfl) ?_)))))))))
 have Cu:j=3:=by omega
 subst Cu
 rw[uL (by omega) hp (by omega) (Vi.1 EC),←Rv]
 exact⟨rfl,hN.aE⟩
end Go.Proofs.YtngkdkbpgoddlaaGreat
namespace Go.Proofs.YtngkdkbpgoddlaaGreat
open Go.RowKit Go.Rl
open Go.Gr
theorem En {a b:I2}:(a.1=b.1∧a.2=b.2)↔a=b:=⟨fun h=>V7 h.1 h.2,fun h=>by rw[h];exact⟨rfl,rfl⟩⟩
theorem Em {a b:I3}:(a.1=b.1∧a.2.1=b.2.1∧a.2.2=b.2.2)↔a=b:=⟨fun h=>V7 h.1 (V7 h.2.1 h.2.2),fun h=>by rw[h];exact⟨rfl,rfl,rfl⟩⟩
theorem El {a b:I5}:(a.1=b.1∧a.2.1=b.2.1∧a.2.2.1=b.2.2.1∧a.2.2.2.1=b.2.2.2.1∧a.2.2.2.2=b.2.2.2.2)↔a=b:=⟨fun h=>V7 h.1 (V7 h.2.1 (V7 h.2.2.1 (V7 h.2.2.2.1 h.2.2.2.2))),fun h=>by rw[h];exact⟨rfl,rfl,rfl,rfl,rfl⟩⟩
theorem tr (av bv:Value) (a b:List I2) (w:World) (ha:Sm bk w av a) (hb:Sm bk w bv b):al UY 154 #[av,bv] w fun r w'=>r=.bool (decide (a=b))∧Ext w w':=by
 refine al.start acm rfl (US rfl) ?_
 rw[cc]
 have hN:=ak.nil w none_
 refine RW.seq (RW.region (RL.ev (v:=.bool false) rfl rfl aa (RL.nil (ag ?_))))
 iterate 2 refine RW.seq ?_
 refine RW.region (RL.ev (v:=av) rfl rfl U ?_)
 have iF:=(ha.o.now hN).aY
 refine RL.ev rfl rfl (bQ Vy (ha.o.now hN) rfl) (RL.ev (v:=bv) rfl rfl U ?_)
 have jb:=(hb.o.now hN).aY
 refine RL.ev rfl rfl (bQ Vy (hb.o.now hN) rfl) (RL.ev rfl rfl (bp rfl rfl) (RL.nil (ag ?_)))
 refine RW.aN _ rfl (fun di=>?_) (fun di=>?_)
 refine RW.seq (RW.region (RL.ev (v:=.bool false) rfl rfl aa (RL.nil (ag (RW.ret (aD (aL (RV.tmp rfl) ?_)))))))
 exact⟨congrArg Vd (decide_eq_false (fun e:a=b=>di (by rw[e]))).symm,hN.aE⟩
 refine RW.skip (ag ?_)
 iterate 2 refine RW.seq ?_
 refine RW.region (RL.ev (v:=.int .i64 (0)) rfl rfl aa (RL.nil (ag (RW.block ?_))))
 refine RW.loop (fun k R0 bT=>∃i:Nat,R0 0=av∧R0 1=bv∧R0 5=.int .i64 ((i:Int))∧ak w none_ bT []∧(i+k=a.length)∧(a.length=b.length)∧(a.take i=b.take i)) (a.length) ?_ ?_
 exact⟨0,rfl,rfl,rfl,hN,by omega,by omega,rfl⟩
 clear hN
 rintro k R0 bT ⟨i,bN,bw,bM,hN,eR,Ls,ht⟩
 have bY:∃b6,R0=(aZ (aZ (aZ b6 0 _) 1 _) 5 _):=⟨R0,by rw[ai bN,ai bw,ai bM]⟩
 obtain⟨b6,rfl⟩:=bY
 clear bN bw bM
 iterate 2 refine RW.seq ?_
 refine RW.region (RL.ev (v:=.int .i64 ((i:Int))) rfl rfl U (RL.ev (v:=av) rfl rfl U (RL.ev rfl rfl (bQ Vy (ha.o.now hN) rfl) (RL.ev rfl rfl (aV rfl rfl) (RL.nil (ag ?_))))))
 refine RW.aN _ rfl (fun bW=>?_) (fun bW=>?_)
 refine RW.skip (ag (RW.seq (RW.block (RW.seq ?_))))
 replace hN:=hN.ext (Ext.drew bT)
 refine RW.cb rfl (fun u=>ak w none_ u []) 9 [(0,0),(1,0),(2,0),(3,0),(4,0),(5,0),(6,0),(7,0),(8,0)] (by intro _ _ _ h;exact h) (by kernel_rfl) hN (RQ.ev (v:=av) rfl rfl (fun w hS=>U) (RQ.ev (v:=.int .i64 ((i:Int))) rfl rfl (fun w hS=>U) (RQ.ev rfl rfl (fun w hS=>(bn Vy eY bP (by decide) (ha.o.now hS) rfl rfl (by omega) (by omega))) ?_)))
 have aw:∃a_,(a)[i]?=some a_:=⟨_,UT (by omega)⟩
 obtain⟨ap,bG⟩:=aw
 refine RQ.ev rfl rfl (fun w hS=>(bU (m:=i) (a:=ap) VE rfl eY bP (by decide) (ha.o.now hS) rfl bG (cs:=[.int .i64 (ap.1),.int .i64 (ap.2)]) rfl)) (RQ.ev (v:=bv) rfl rfl (fun w hS=>U) (RQ.ev (v:=.int .i64 ((i:Int))) rfl rfl (fun w hS=>U) (RQ.ev rfl rfl (fun w hS=>(bn Vy eY bP (by decide) (hb.o.now hS) rfl rfl (by omega) (by omega))) ?_)))
 have aw:∃a_,(b)[i]?=some a_:=⟨_,UT (by omega)⟩
 obtain⟨aq,iT⟩:=aw
 refine RQ.ev rfl rfl (fun w hS=>(bU (m:=i) (a:=aq) VE rfl eY bP (by decide) (hb.o.now hS) rfl iT (cs:=[.int .i64 (aq.1),.int .i64 (aq.2)]) rfl)) (RQ.ev rfl rfl (fun w hS=>(oC (p:=ap.1=aq.1∧ap.2=aq.2) rfl rfl (by kernel_rfl) (lE.iff (lE.struct VE (by kernel_rfl) rfl (oP.cons (by decide) (cR.leaf UU rfl) (cR.leaf UU rfl) (lE.int UU) (oP.cons (by decide) (cR.leaf UU rfl) (cR.leaf UU rfl) (lE.int UU) oP.nil))) (by simp only[VZ,decide_eq_true_eq,and_true])))) (RQ.done (by kernel_rfl) (ag ?_)))
 refine RW.aN _ rfl (fun iY=>?_) (fun iY=>?_)
 refine RW.seq (RW.region (RL.ev (v:=.bool false) rfl rfl aa (RL.nil (ag (RW.ret (aJ ?_))))))
 iterate 2 refine aD ?_
 refine aJ (aD (aL (RV.tmp rfl) ?_))
 exact⟨congrArg Vd (decide_eq_false (fun e:a=b=>iY (by subst e;rw[bG]at iT;exact En.2 (Vq iT)))).symm,hN.aE⟩
 refine RW.skip (a7 (ag (RW.region (RL.ev (v:=.int .i64 ((i:Int))) rfl rfl U (RL.ev rfl rfl (an rfl rfl rfl (bc (by omega) (by omega))) (RL.ev (v:=.int .i64 ((i:Int)+1)) rfl rfl aa (RL.nil (ag ?_))))))))
 exact⟨k-1,by omega,i+1,rfl,rfl,rfl,hN,by omega,by omega,by rw[dH bG,dH iT,ht,En.1 (Vi.1 iY)]⟩
 refine RW.exit ?_
 iterate 2 refine bm ?_
 refine aO (ag (RW.seq (RW.region (RL.ev (v:=.bool true) rfl rfl aa (RL.nil (ag (RW.ret (aL (RV.tmp rfl) ?_))))))))
 rw[show i=a.length by omega,Vz,Vo (by omega)]at ht
 exact⟨congrArg Vd (decide_eq_true ht).symm,hN.aE⟩
theorem rz (av bv:Value) (a b:List I5) (w:World) (ha:Sm bC w av a) (hb:Sm bC w bv b):al UY 87 #[av,bv] w fun r w'=>r=.bool (decide (a=b))∧Ext w w':=by
 refine al.start Tryz.func87 rfl (US rfl) ?_
 rw[cc]
 have hN:=ak.nil w none_
 refine RW.seq (RW.region (RL.ev (v:=.bool false) rfl rfl aa (RL.nil (ag ?_))))
 iterate 2 refine RW.seq ?_
 refine RW.region (RL.ev (v:=av) rfl rfl U ?_)
 have iF:=(ha.o.now hN).aY
 refine RL.ev rfl rfl (bQ Vg (ha.o.now hN) rfl) (RL.ev (v:=bv) rfl rfl U ?_)
 have jb:=(hb.o.now hN).aY
 refine RL.ev rfl rfl (bQ Vg (hb.o.now hN) rfl) (RL.ev rfl rfl (bp rfl rfl) (RL.nil (ag ?_)))
 refine RW.aN _ rfl (fun di=>?_) (fun di=>?_)
 refine RW.seq (RW.region (RL.ev (v:=.bool false) rfl rfl aa (RL.nil (ag (RW.ret (aD (aL (RV.tmp rfl) ?_)))))))
 exact⟨congrArg Vd (decide_eq_false (fun e:a=b=>di (by rw[e]))).symm,hN.aE⟩
 refine RW.skip (ag ?_)
 iterate 2 refine RW.seq ?_
 refine RW.region (RL.ev (v:=.int .i64 (0)) rfl rfl aa (RL.nil (ag (RW.block ?_))))
 refine RW.loop (fun k R0 bT=>∃i:Nat,R0 0=av∧R0 1=bv∧R0 5=.int .i64 ((i:Int))∧ak w none_ bT []∧(i+k=a.length)∧(a.length=b.length)∧(a.take i=b.take i)) (a.length) ?_ ?_
 exact⟨0,rfl,rfl,rfl,hN,by omega,by omega,rfl⟩
 clear hN
 rintro k R0 bT ⟨i,bN,bw,bM,hN,eR,Ls,ht⟩
 have bY:∃b6,R0=(aZ (aZ (aZ b6 0 _) 1 _) 5 _):=⟨R0,by rw[ai bN,ai bw,ai bM]⟩
 obtain⟨b6,rfl⟩:=bY
 clear bN bw bM
 iterate 2 refine RW.seq ?_
 refine RW.region (RL.ev (v:=.int .i64 ((i:Int))) rfl rfl U (RL.ev (v:=av) rfl rfl U (RL.ev rfl rfl (bQ Vg (ha.o.now hN) rfl) (RL.ev rfl rfl (aV rfl rfl) (RL.nil (ag ?_))))))
 refine RW.aN _ rfl (fun bW=>?_) (fun bW=>?_)
 refine RW.skip (ag (RW.seq (RW.block (RW.seq ?_))))
 replace hN:=hN.ext (Ext.drew bT)
 refine RW.cb rfl (fun u=>ak w none_ u []) 9 [(0,0),(1,0),(2,0),(3,0),(4,0),(5,0),(6,0),(7,0),(8,0)] (by intro _ _ _ h;exact h) (by kernel_rfl) hN (RQ.ev (v:=av) rfl rfl (fun w hS=>U) (RQ.ev (v:=.int .i64 ((i:Int))) rfl rfl (fun w hS=>U) (RQ.ev rfl rfl (fun w hS=>(bn Vg dj bb (by decide) (ha.o.now hS) rfl rfl (by omega) (by omega))) ?_)))
 have aw:∃a_,(a)[i]?=some a_:=⟨_,UT (by omega)⟩
 obtain⟨ap,bG⟩:=aw
 refine RQ.ev rfl rfl (fun w hS=>(bU (m:=i) (a:=ap) U0 rfl dj bb (by decide) (ha.o.now hS) rfl bG (cs:=[.int .i64 (ap.1),.int .i64 (ap.2.1),.int .i64 (ap.2.2.1),.int .i64 (ap.2.2.2.1),.int .i64 (ap.2.2.2.2)]) rfl)) (RQ.ev (v:=bv) rfl rfl (fun w hS=>U) (RQ.ev (v:=.int .i64 ((i:Int))) rfl rfl (fun w hS=>U) (RQ.ev rfl rfl (fun w hS=>(bn Vg dj bb (by decide) (hb.o.now hS) rfl rfl (by omega) (by omega))) ?_)))
 have aw:∃a_,(b)[i]?=some a_:=⟨_,UT (by omega)⟩
 obtain⟨aq,iT⟩:=aw
 refine RQ.ev rfl rfl (fun w hS=>(bU (m:=i) (a:=aq) U0 rfl dj bb (by decide) (hb.o.now hS) rfl iT (cs:=[.int .i64 (aq.1),.int .i64 (aq.2.1),.int .i64 (aq.2.2.1),.int .i64 (aq.2.2.2.1),.int .i64 (aq.2.2.2.2)]) rfl)) (RQ.ev rfl rfl (fun w hS=>(oC (p:=ap.1=aq.1∧ap.2.1=aq.2.1∧ap.2.2.1=aq.2.2.1∧ap.2.2.2.1=aq.2.2.2.1∧ap.2.2.2.2=aq.2.2.2.2) rfl rfl (by kernel_rfl) (lE.iff (lE.struct U0 (by kernel_rfl) rfl (oP.cons (by decide) (cR.leaf UU rfl) (cR.leaf UU rfl) (lE.int UU) (oP.cons (by decide) (cR.leaf UU rfl) (cR.leaf UU rfl) (lE.int UU) (oP.cons (by decide) (cR.agg Vj dk rfl) (cR.agg Vj dk rfl) (lE.struct Vj (by kernel_rfl) rfl (oP.cons (by decide) (cR.leaf UU rfl) (cR.leaf UU rfl) (lE.int UU) (oP.cons (by decide) (cR.leaf UU rfl) (cR.leaf UU rfl) (lE.int UU) (oP.cons (by decide) (cR.leaf UU rfl) (cR.leaf UU rfl) (lE.int UU) oP.nil)))) oP.nil)))) (by simp only[VZ,decide_eq_true_eq,and_true])))) (RQ.done (by kernel_rfl) (ag ?_)))
 refine RW.aN _ rfl (fun iY=>?_) (fun iY=>?_)
 refine RW.seq (RW.region (RL.ev (v:=.bool false) rfl rfl aa (RL.nil (ag (RW.ret (aJ ?_))))))
 iterate 2 refine aD ?_
 refine aJ (aD (aL (RV.tmp rfl) ?_))
 exact⟨congrArg Vd (decide_eq_false (fun e:a=b=>iY (by subst e;rw[bG]at iT;exact El.2 (Vq iT)))).symm,hN.aE⟩
 refine RW.skip (a7 (ag (RW.region (RL.ev (v:=.int .i64 ((i:Int))) rfl rfl U (RL.ev rfl rfl (an rfl rfl rfl (bc (by omega) (by omega))) (RL.ev (v:=.int .i64 ((i:Int)+1)) rfl rfl aa (RL.nil (ag ?_))))))))
 exact⟨k-1,by omega,i+1,rfl,rfl,rfl,hN,by omega,by omega,by rw[dH bG,dH iT,ht,El.1 (Vi.1 iY)]⟩
 refine RW.exit ?_
 iterate 2 refine bm ?_
 refine aO (ag (RW.seq (RW.region (RL.ev (v:=.bool true) rfl rfl aa (RL.nil (ag (RW.ret (aL (RV.tmp rfl) ?_))))))))
 rw[show i=a.length by omega,Vz,Vo (by omega)]at ht
 exact⟨congrArg Vd (decide_eq_true ht).symm,hN.aE⟩
theorem tt (n m:Int) (av bv:Value) (a b:List I3) (w:World) (ha:Sm bf w av a) (hb:Sm bf w bv b):al UY 33 #[.agg #[.int .i64 n,av],.agg #[.int .i64 m,bv]] w fun r w'=>r=.bool (decide (n=m∧a=b))∧Ext w w':=by
 refine al.start Tryz.func33 rfl (US rfl) ?_
 rw[cc]
 have hN:=ak.nil w none_
 refine RW.seq (RW.region ?_)
 refine RL.op rfl rfl (bq (cs:=[.int .i64 (n),av]) rfl rfl hN ?_)
 clear hN
 intro g1 w1 (hN:ak w none_ w1 [_])
 refine RL.op rfl rfl (bq (cs:=[.int .i64 (m),bv]) rfl rfl hN ?_)
 clear hN
 intro g2 w2 (hN:ak w none_ w2 [_,_])
 refine RL.ev (v:=.bool false) rfl rfl aa (RL.nil (ag ?_))
 iterate 2 refine RW.seq ?_
 refine RW.region (RL.ev rfl rfl (ah U4 rfl bu (by decide) rfl) (RL.ev rfl rfl (aj UU rfl rfl (hN.aA 1 rfl) rfl) (RL.ev rfl rfl (ah U4 rfl bu (by decide) rfl) (RL.ev rfl rfl (aj UU rfl rfl (hN.aA 0 rfl) rfl) (RL.ev rfl rfl (bp rfl rfl) (RL.ev (v:=.bool (decide (¬n=m))) rfl rfl U ?_))))))
 by_cases pV:¬n=m
 rw[decide_eq_true pV]
 iterate 7 refine RL.off rfl rfl (by decide) rfl rfl ?_
 refine RL.ev (v:=.bool true) rfl rfl (ao rfl) (RL.nil (ag (RW.bK rfl (RW.seq (RW.region (RL.ev (v:=.bool false) rfl rfl aa (RL.nil (ag (RW.ret ?_)))))))))
 refine aD (aL (RV.tmp rfl) ?_)
 exact⟨congrArg Vd (decide_eq_false (fun e:n=m∧a=b=>by obtain⟨e1,e2⟩:=e;have e3:=congrArg Wc e2;first|contradiction|omega)).symm,hN.aE⟩
 rw[decide_eq_false pV]
 refine RL.aI rfl rfl (by decide) rfl rfl (ah U4 rfl dY (by decide) rfl) (RL.aI rfl rfl (by decide) rfl rfl (aj Va rfl rfl (hN.aA 1 rfl) rfl) ?_)
 have mQ:=(ha.o.now hN).aY
 refine RL.aI rfl rfl (by decide) rfl rfl (bQ Va (ha.o.now hN) rfl) (RL.aI rfl rfl (by decide) rfl rfl (ah U4 rfl dY (by decide) rfl) (RL.aI rfl rfl (by decide) rfl rfl (aj Va rfl rfl (hN.aA 0 rfl) rfl) ?_))
 have qn:=(hb.o.now hN).aY
 refine RL.aI rfl rfl (by decide) rfl rfl (bQ Va (hb.o.now hN) rfl) (RL.aI rfl rfl (by decide) rfl rfl (bp rfl rfl) (RL.ev (v:=.bool (decide (¬(a.length:Int)=(b.length:Int)))) rfl rfl (aH rfl) (RL.nil (ag ?_))))
 refine RW.aN _ rfl (fun di=>?_) (fun di=>?_)
 refine RW.seq (RW.region (RL.ev (v:=.bool false) rfl rfl aa (RL.nil (ag (RW.ret (aD (aL (RV.tmp rfl) ?_)))))))
 exact⟨congrArg Vd (decide_eq_false (fun e:n=m∧a=b=>by obtain⟨e1,e2⟩:=e;have e3:=congrArg Wc e2;first|contradiction|omega)).symm,hN.aE⟩
 refine RW.skip (ag ?_)
 iterate 2 refine RW.seq ?_
 refine RW.region (RL.ev (v:=.int .i64 (0)) rfl rfl aa (RL.nil (ag (RW.block ?_))))
 refine RW.loop (fun k R0 bT=>∃i:Nat,R0 2=.pointer (some ⟨g1,0,none⟩)∧R0 3=.pointer (some ⟨g2,0,none⟩)∧R0 5=.int .i64 ((i:Int))∧ak w none_ bT [.aA g2 [.int .i64 (m),bv] 24,.aA g1 [.int .i64 (n),av] 24]∧(i+k=a.length)∧(a.length=b.length)∧(a.take i=b.take i)) (a.length) ?_ ?_
 exact⟨0,rfl,rfl,rfl,hN,by omega,by omega,rfl⟩
 clear hN
 rintro k R0 bT ⟨i,bF,ca,bM,hN,eR,Ls,ht⟩
 have bY:∃b6,R0=(aZ (aZ (aZ b6 2 _) 3 _) 5 _):=⟨R0,by rw[ai bF,ai ca,ai bM]⟩
 obtain⟨b6,rfl⟩:=bY
 clear bF ca bM
 iterate 2 refine RW.seq ?_
 refine RW.region (RL.ev (v:=.int .i64 ((i:Int))) rfl rfl U (RL.ev rfl rfl (ah U4 rfl dY (by decide) rfl) (RL.ev rfl rfl (aj Va rfl rfl (hN.aA 1 rfl) rfl) (RL.ev rfl rfl (bQ Va (ha.o.now hN) rfl) (RL.ev rfl rfl (aV rfl rfl) (RL.nil (ag ?_)))))))
 refine RW.aN _ rfl (fun bW=>?_) (fun bW=>?_)
 refine RW.skip (ag (RW.seq (RW.block (RW.seq ?_))))
 replace hN:=hN.ext (Ext.drew bT)
 refine RW.cb rfl (fun u=>ak w none_ u [.aA g2 [.int .i64 (m),bv] 24,.aA g1 [.int .i64 (n),av] 24]) 11 [(0,0),(1,0),(2,0),(3,0),(4,0),(5,0),(6,0),(7,0),(8,0),(9,0),(10,0)] (by intro _ _ _ h;exact h) (by kernel_rfl) hN (RQ.ev rfl rfl (fun w hS=>(ah U4 rfl dY (by decide) rfl)) (RQ.ev rfl rfl (fun w hS=>(aj Va rfl rfl (hS.aA 1 rfl) rfl)) (RQ.ev (v:=.int .i64 ((i:Int))) rfl rfl (fun w hS=>U) (RQ.ev rfl rfl (fun w hS=>(bn Va cq aU (by decide) (ha.o.now hS) rfl rfl (by omega) (by omega))) ?_))))
 have aw:∃a_,(a)[i]?=some a_:=⟨_,UT (by omega)⟩
 obtain⟨ap,bG⟩:=aw
 refine RQ.ev rfl rfl (fun w hS=>(bU (m:=i) (a:=ap) Ve rfl cq aU (by decide) (ha.o.now hS) rfl bG (cs:=[.int .i64 (ap.1),.int .i64 (ap.2.1),.int .i64 (ap.2.2)]) rfl)) (RQ.ev rfl rfl (fun w hS=>(ah U4 rfl dY (by decide) rfl)) (RQ.ev rfl rfl (fun w hS=>(aj Va rfl rfl (hS.aA 0 rfl) rfl)) (RQ.ev (v:=.int .i64 ((i:Int))) rfl rfl (fun w hS=>U) (RQ.ev rfl rfl (fun w hS=>(bn Va cq aU (by decide) (hb.o.now hS) rfl rfl (by omega) (by omega))) ?_))))
 have aw:∃a_,(b)[i]?=some a_:=⟨_,UT (by omega)⟩
 obtain⟨aq,iT⟩:=aw
 refine RQ.ev rfl rfl (fun w hS=>(bU (m:=i) (a:=aq) Ve rfl cq aU (by decide) (hb.o.now hS) rfl iT (cs:=[.int .i64 (aq.1),.int .i64 (aq.2.1),.int .i64 (aq.2.2)]) rfl)) (RQ.ev rfl rfl (fun w hS=>(oC (p:=ap.1=aq.1∧ap.2.1=aq.2.1∧ap.2.2=aq.2.2) rfl rfl (by kernel_rfl) (lE.iff (lE.struct Ve (by kernel_rfl) rfl (oP.cons (by decide) (cR.leaf UU rfl) (cR.leaf UU rfl) (lE.int UU) (oP.cons (by decide) (cR.leaf UU rfl) (cR.leaf UU rfl) (lE.int UU) (oP.cons (by decide) (cR.leaf UU rfl) (cR.leaf UU rfl) (lE.int UU) oP.nil)))) (by simp only[VZ,decide_eq_true_eq,and_true])))) (RQ.done (by kernel_rfl) (ag ?_)))
 refine RW.aN _ rfl (fun iY=>?_) (fun iY=>?_)
 refine RW.seq (RW.region (RL.ev (v:=.bool false) rfl rfl aa (RL.nil (ag (RW.ret (aJ ?_))))))
 iterate 2 refine aD ?_
 refine aJ (aD (aL (RV.tmp rfl) ?_))
 exact⟨congrArg Vd (decide_eq_false (fun e:n=m∧a=b=>iY (by have e:=e.2;subst e;rw[bG]at iT;exact Em.2 (Vq iT)))).symm,hN.aE⟩
 refine RW.skip (a7 (ag (RW.region (RL.ev (v:=.int .i64 ((i:Int))) rfl rfl U (RL.ev rfl rfl (an rfl rfl rfl (bc (by omega) (by omega))) (RL.ev (v:=.int .i64 ((i:Int)+1)) rfl rfl aa (RL.nil (ag ?_))))))))
 exact⟨k-1,by omega,i+1,rfl,rfl,rfl,hN,by omega,by omega,by rw[dH bG,dH iT,ht,Em.1 (Vi.1 iY)]⟩
 refine RW.exit ?_
 iterate 2 refine bm ?_
 refine aO (ag (RW.seq (RW.region (RL.ev (v:=.bool true) rfl rfl aa (RL.nil (ag (RW.ret (aL (RV.tmp rfl) ?_))))))))
 rw[show i=a.length by omega,Vz,Vo (by omega)]at ht
 exact⟨congrArg Vd (decide_eq_true ⟨by omega,ht⟩).symm,hN.aE⟩
end Go.Proofs.YtngkdkbpgoddlaaGreat
namespace Go.Proofs.YtngkdkbpgoddlaaGreat
open Go.RowKit Go.Rl
open Go.Gr Go.cP
theorem rB (rv wv C7 C3:Value) (rk C8:List Int) (ws Dx:List I5) (w:World) (h1:Sl vI w rv rk) (h2:Sm bC w wv ws) (h3:Sl vI w C7 C8) (h4:Sm bC w C3 Dx):al UY 34 #[.agg #[rv,wv],.agg #[C7,C3]] w fun r w'=>r=.bool (decide (rk=C8∧ws=Dx))∧Ext w w':=by
 refine al.start Tryz.func34 rfl (US rfl) ?_
 rw[cc]
 have hN:=ak.nil w none_
 refine RW.seq (RW.region ?_)
 refine RL.op rfl rfl (bq (cs:=[rv,wv]) rfl rfl hN ?_)
 clear hN
 intro g1 w1 (hN:ak w none_ w1 [_])
 refine RL.op rfl rfl (bq (cs:=[C7,C3]) rfl rfl hN ?_)
 clear hN
 intro g2 w2 (hN:ak w none_ w2 [_,_])
 refine RL.ev (v:=.bool false) rfl rfl aa (RL.nil (ag ?_))
 iterate 2 refine RW.seq ?_
 refine RW.region (RL.ev rfl rfl (ah Vb rfl b7 (by decide) rfl) (RL.ev rfl rfl (aj UW rfl rfl (hN.aA 1 rfl) rfl) ?_))
 have mQ:=(h1.o.now hN).aY
 refine RL.ev rfl rfl (aQ UW (h1.o.now hN) rfl) (RL.ev rfl rfl (ah Vb rfl b7 (by decide) rfl) (RL.ev rfl rfl (aj UW rfl rfl (hN.aA 0 rfl) rfl) ?_))
 have qn:=(h3.o.now hN).aY
 refine RL.ev rfl rfl (aQ UW (h3.o.now hN) rfl) (RL.ev rfl rfl (bp rfl rfl) (RL.nil (ag ?_)))
 refine RW.aN _ rfl (fun di=>?_) (fun di=>?_)
 refine RW.seq (RW.region (RL.ev (v:=.bool false) rfl rfl aa (RL.nil (ag (RW.ret (aD (aL (RV.tmp rfl) ?_)))))))
 exact⟨congrArg Vd (decide_eq_false (fun e=>di (by rw[e.1]))).symm,hN.aE⟩
 refine RW.skip (ag ?_)
 iterate 2 refine RW.seq ?_
 refine RW.region (RL.ev (v:=.int .i64 (0)) rfl rfl aa (RL.nil (ag (RW.block ?_))))
 refine RW.loop (fun k R0 bT=>∃i:Nat,R0 2=.pointer (some ⟨g1,0,none⟩)∧R0 3=.pointer (some ⟨g2,0,none⟩)∧R0 5=.int .i64 ((i:Int))∧ak w none_ bT [.aA g2 [C7,C3] 28,.aA g1 [rv,wv] 28]∧(i+k=rk.length)∧(rk.length=C8.length)∧(rk.take i=C8.take i)) (rk.length) ?_ ?_
 exact⟨0,rfl,rfl,rfl,hN,by omega,by omega,rfl⟩
 clear hN
 rintro k R0 bT ⟨i,bF,ca,bM,hN,eR,Ls,ht⟩
 have bY:∃b6,R0=(aZ (aZ (aZ b6 2 _) 3 _) 5 _):=⟨R0,by rw[ai bF,ai ca,ai bM]⟩
 obtain⟨b6,rfl⟩:=bY
 clear bF ca bM
 iterate 2 refine RW.seq ?_
 refine RW.region (RL.ev (v:=.int .i64 ((i:Int))) rfl rfl U (RL.ev rfl rfl (ah Vb rfl b7 (by decide) rfl) (RL.ev rfl rfl (aj UW rfl rfl (hN.aA 1 rfl) rfl) (RL.ev rfl rfl (aQ UW (h1.o.now hN) rfl) (RL.ev rfl rfl (aV rfl rfl) (RL.nil (ag ?_)))))))
 refine RW.aN _ rfl (fun bW=>?_) (fun bW=>?_)
 refine RW.skip (ag (RW.seq (RW.block (RW.seq ?_))))
 replace hN:=hN.ext (Ext.drew bT)
 refine RW.cb rfl (fun u=>ak w none_ u [.aA g2 [C7,C3] 28,.aA g1 [rv,wv] 28]) 11 [(0,0),(1,0),(2,0),(3,0),(4,0),(5,0),(6,0),(7,0),(8,0),(9,0),(10,0)] (by intro _ _ _ h;exact h) (by kernel_rfl) hN (RQ.ev rfl rfl (fun w hS=>(ah Vb rfl b7 (by decide) rfl)) (RQ.ev rfl rfl (fun w hS=>(aj UW rfl rfl (hS.aA 1 rfl) rfl)) (RQ.ev (v:=.int .i64 ((i:Int))) rfl rfl (fun w hS=>U) (RQ.ev rfl rfl (fun w hS=>(aB UW bu (h1.o.now hS) rfl rfl (by omega) (by omega))) ?_))))
 have aw:∃a_,(rk)[i]?=some a_:=⟨_,UT (by omega)⟩
 obtain⟨ap,bG⟩:=aw
 refine RQ.ev rfl rfl (fun w hS=>(aF (m:=i) (a:=ap) UU rfl (h1.o.now hS) rfl bG)) (RQ.ev rfl rfl (fun w hS=>(ah Vb rfl b7 (by decide) rfl)) (RQ.ev rfl rfl (fun w hS=>(aj UW rfl rfl (hS.aA 0 rfl) rfl)) (RQ.ev (v:=.int .i64 ((i:Int))) rfl rfl (fun w hS=>U) (RQ.ev rfl rfl (fun w hS=>(aB UW bu (h3.o.now hS) rfl rfl (by omega) (by omega))) ?_))))
 have aw:∃a_,(C8)[i]?=some a_:=⟨_,UT (by omega)⟩
 obtain⟨aq,iT⟩:=aw
 refine RQ.ev rfl rfl (fun w hS=>(aF (m:=i) (a:=aq) UU rfl (h3.o.now hS) rfl iT)) (RQ.ev rfl rfl (fun w hS=>(bp rfl rfl)) (RQ.done (by kernel_rfl) (ag ?_)))
 refine RW.aN _ rfl (fun iY=>?_) (fun iY=>?_)
 refine RW.seq (RW.region (RL.ev (v:=.bool false) rfl rfl aa (RL.nil (ag (RW.ret (aJ ?_))))))
 iterate 2 refine aD ?_
 refine aJ (aD (aL (RV.tmp rfl) ?_))
 exact⟨congrArg Vd (decide_eq_false (fun e=>iY (by have e:=e.1;subst e;rw[bG]at iT;exact Vq iT))).symm,hN.aE⟩
 refine RW.skip (a7 (ag (RW.region (RL.ev (v:=.int .i64 ((i:Int))) rfl rfl U (RL.ev rfl rfl (an rfl rfl rfl (bc (by omega) (by omega))) (RL.ev (v:=.int .i64 ((i:Int)+1)) rfl rfl aa (RL.nil (ag ?_))))))))
 exact⟨k-1,by omega,i+1,rfl,rfl,rfl,hN,by omega,by omega,by rw[dH bG,dH iT,ht,Vi.1 iY]⟩
 refine RW.exit ?_
 iterate 2 refine bm ?_
 refine aO (ag (RW.seq (RW.region (RL.ev rfl rfl (ah Vb rfl fJ (by decide) rfl) (RL.ev rfl rfl (aj Vg rfl rfl (hN.aA 1 rfl) rfl) (RL.ev rfl rfl (ah Vb rfl fJ (by decide) rfl) (RL.ev rfl rfl (aj Vg rfl rfl (hN.aA 0 rfl) rfl) ?_)))))))
 refine RL.op rfl rfl (aR Tryz.func87 rfl rfl rfl rfl ((rz _ _ ws Dx _ (h2.o.now hN) (h4.o.now hN)).mono ?_))
 rintro _ w5 ⟨rfl,aW⟩
 replace hN:=hN.ext aW
 clear aW
 refine RL.ev (v:=.bool (decide (ws=Dx))) rfl rfl aa (RL.nil (ag (RW.ret (aL (RV.tmp rfl) ?_))))
 rw[show i=rk.length by omega,Vz,Vo (by omega)]at ht
 exact⟨congrArg Vd (decide_eq_decide.2 ⟨fun h=>⟨ht,h⟩,fun h=>h.2⟩),hN.aE⟩
theorem jK (av bv:Value) (iR ff:List Hd) (zp Be:List (List I2)) (w:World) (ha:Sl vh w av iR) (hb:Sl vh w bv ff) (HL:dM none_ bk w iR zp) (IP:dM none_ bk w ff Be):al UY 90 #[av,bv] w fun r w'=>r=.bool (decide (zp=Be))∧Ext w w':=by
 refine al.start aaS rfl (US rfl) ?_
 rw[cc]
 have hN:=ak.nil w none_
 have wx:=HL.1
 have tU:=IP.1
 refine RW.seq (RW.region (RL.ev (v:=.bool false) rfl rfl aa (RL.nil (ag ?_))))
 iterate 2 refine RW.seq ?_
 refine RW.region (RL.ev (v:=av) rfl rfl U ?_)
 have iF:=(ha.o.now hN).aY
 refine RL.ev rfl rfl (aQ Vr (ha.o.now hN) rfl) (RL.ev (v:=bv) rfl rfl U ?_)
 have jb:=(hb.o.now hN).aY
 refine RL.ev rfl rfl (aQ Vr (hb.o.now hN) rfl) (RL.ev rfl rfl (bp rfl rfl) (RL.nil (ag ?_)))
 refine RW.aN _ rfl (fun di=>?_) (fun di=>?_)
 refine RW.seq (RW.region (RL.ev (v:=.bool false) rfl rfl aa (RL.nil (ag (RW.ret (aD (aL (RV.tmp rfl) ?_)))))))
 exact⟨congrArg Vd (decide_eq_false (fun e:zp=Be=>di (by rw[wx,tU,e]))).symm,hN.aE⟩
 refine RW.skip (ag ?_)
 iterate 2 refine RW.seq ?_
 refine RW.region (RL.ev (v:=.int .i64 (0)) rfl rfl aa (RL.nil (ag (RW.block ?_))))
 refine RW.loop (fun k R0 bT=>∃i:Nat,R0 0=av∧R0 1=bv∧R0 5=.int .i64 ((i:Int))∧ak w none_ bT []∧(i+k=iR.length)∧(iR.length=ff.length)∧(zp.take i=Be.take i)) (iR.length) ?_ ?_
 exact⟨0,rfl,rfl,rfl,hN,by omega,by omega,rfl⟩
 clear hN
 rintro k R0 bT ⟨i,bN,bw,bM,hN,eR,Ls,ht⟩
 have bY:∃b6,R0=(aZ (aZ (aZ b6 0 _) 1 _) 5 _):=⟨R0,by rw[ai bN,ai bw,ai bM]⟩
 obtain⟨b6,rfl⟩:=bY
 clear bN bw bM
 iterate 2 refine RW.seq ?_
 refine RW.region (RL.ev (v:=.int .i64 ((i:Int))) rfl rfl U (RL.ev (v:=av) rfl rfl U (RL.ev rfl rfl (aQ Vr (ha.o.now hN) rfl) (RL.ev rfl rfl (aV rfl rfl) (RL.nil (ag ?_))))))
 refine RW.aN _ rfl (fun bW=>?_) (fun bW=>?_)
 refine RW.skip (ag (RW.seq (RW.block (RW.seq ?_))))
 have aw:∃a_,iR[i]?=some a_:=⟨_,UT (by omega)⟩
 obtain⟨ap,bG⟩:=aw
 have aw:∃a_,ff[i]?=some a_:=⟨_,UT (by omega)⟩
 obtain⟨aq,iT⟩:=aw
 have aw:∃a_,zp[i]?=some a_:=⟨_,UT (by omega)⟩
 obtain⟨lp,dp⟩:=aw
 have aw:∃a_,Be[i]?=some a_:=⟨_,UT (by omega)⟩
 obtain⟨lq,Bk⟩:=aw
 replace hN:=hN.ext (Ext.drew bT)
 refine RW.cb rfl (fun u=>ak w none_ u []) 10 [(0,0),(1,0),(2,0),(3,0),(4,0),(5,0),(6,0),(7,0),(8,1),(9,0)] (by intro _ _ _ h;exact h) (by kernel_rfl) hN (RQ.ev (v:=av) rfl rfl (fun w hS=>U) (RQ.ev (v:=.int .i64 ((i:Int))) rfl rfl (fun w hS=>U) (RQ.ev rfl rfl (fun w hS=>(aB Vr jJ (ha.o.now hS) rfl rfl (by omega) (by omega))) (RQ.ev rfl rfl (fun w hS=>(aF (m:=i) (a:=ap) Vy rfl (ha.o.now hS) rfl bG)) (RQ.ev (v:=bv) rfl rfl (fun w hS=>U) (RQ.ev (v:=.int .i64 ((i:Int))) rfl rfl (fun w hS=>U) (RQ.ev rfl rfl (fun w hS=>(aB Vr jJ (hb.o.now hS) rfl rfl (by omega) (by omega))) (RQ.ev rfl rfl (fun w hS=>(aF (m:=i) (a:=aq) Vy rfl (hb.o.now hS) rfl iT)) ?_))))))))
 refine RQ.do rfl rfl (aR acm rfl rfl rfl rfl ((tr _ _ lp lq _ ((HL.fX bG dp).now hN) ((IP.fX iT Bk).now hN)).mono ?_))
 rintro _ w5 ⟨rfl,aW⟩
 replace hN:=hN.ext aW
 clear aW
 refine⟨hN,?_⟩
 refine RQ.ev rfl rfl (fun w hS=>(cM rfl)) (RQ.done (by kernel_rfl) (ag ?_))
 refine RW.aN _ rfl (fun iY=>?_) (fun iY=>?_)
 refine RW.seq (RW.region (RL.ev (v:=.bool false) rfl rfl aa (RL.nil (ag (RW.ret (aJ ?_))))))
 iterate 2 refine aD ?_
 refine aJ (aD (aL (RV.tmp rfl) ?_))
 exact⟨congrArg Vd (decide_eq_false (fun e:zp=Be=>iY (by subst e;rw[dp]at Bk;exact Vq Bk))).symm,hN.aE⟩
 refine RW.skip (a7 (ag (RW.region (RL.ev (v:=.int .i64 ((i:Int))) rfl rfl U (RL.ev rfl rfl (an rfl rfl rfl (bc (by omega) (by omega))) (RL.ev (v:=.int .i64 ((i:Int)+1)) rfl rfl aa (RL.nil (ag ?_))))))))
 exact⟨k-1,by omega,i+1,rfl,rfl,rfl,hN,by omega,by omega,by rw[dH dp,dH Bk,ht,Vi.1 iY]⟩
 refine RW.exit ?_
 iterate 2 refine bm ?_
 refine aO (ag (RW.seq (RW.region (RL.ev (v:=.bool true) rfl rfl aa (RL.nil (ag (RW.ret (aL (RV.tmp rfl) ?_))))))))
 rw[show i=zp.length by omega,Vz,Vo (by omega)]at ht
 exact⟨congrArg Vd (decide_eq_true ht).symm,hN.aE⟩
theorem iL (av bv:Value) (iR ff:List Hd) (zp Be:List (List Int)) (w:World) (ha:Sl vh w av iR) (hb:Sl vh w bv ff) (HL:ep none_ vI w iR zp) (IP:ep none_ vI w ff Be):al UY 89 #[av,bv] w fun r w'=>r=.bool (decide (zp=Be))∧Ext w w':=by
 refine al.start Zz rfl (US rfl) ?_
 rw[cc]
 have hN:=ak.nil w none_
 have wx:=HL.1
 have tU:=IP.1
 refine RW.seq (RW.region (RL.ev (v:=.bool false) rfl rfl aa (RL.nil (ag ?_))))
 iterate 2 refine RW.seq ?_
 refine RW.region (RL.ev (v:=av) rfl rfl U ?_)
 have iF:=(ha.o.now hN).aY
 refine RL.ev rfl rfl (aQ U7 (ha.o.now hN) rfl) (RL.ev (v:=bv) rfl rfl U ?_)
 have jb:=(hb.o.now hN).aY
 refine RL.ev rfl rfl (aQ U7 (hb.o.now hN) rfl) (RL.ev rfl rfl (bp rfl rfl) (RL.nil (ag ?_)))
 refine RW.aN _ rfl (fun di=>?_) (fun di=>?_)
 refine RW.seq (RW.region (RL.ev (v:=.bool false) rfl rfl aa (RL.nil (ag (RW.ret (aD (aL (RV.tmp rfl) ?_)))))))
 exact⟨congrArg Vd (decide_eq_false (fun e:zp=Be=>di (by rw[wx,tU,e]))).symm,hN.aE⟩
 refine RW.skip (ag ?_)
 iterate 2 refine RW.seq ?_
 refine RW.region (RL.ev (v:=.int .i64 (0)) rfl rfl aa (RL.nil (ag (RW.block ?_))))
 refine RW.loop (fun k R0 bT=>∃i:Nat,R0 0=av∧R0 1=bv∧R0 5=.int .i64 ((i:Int))∧ak w none_ bT []∧(i+k=iR.length)∧(iR.length=ff.length)∧(zp.take i=Be.take i)) (iR.length) ?_ ?_
 exact⟨0,rfl,rfl,rfl,hN,by omega,by omega,rfl⟩
 clear hN
 rintro k R0 bT ⟨i,bN,bw,bM,hN,eR,Ls,ht⟩
 have bY:∃b6,R0=(aZ (aZ (aZ b6 0 _) 1 _) 5 _):=⟨R0,by rw[ai bN,ai bw,ai bM]⟩
 obtain⟨b6,rfl⟩:=bY
 clear bN bw bM
 iterate 2 refine RW.seq ?_
 refine RW.region (RL.ev (v:=.int .i64 ((i:Int))) rfl rfl U (RL.ev (v:=av) rfl rfl U (RL.ev rfl rfl (aQ U7 (ha.o.now hN) rfl) (RL.ev rfl rfl (aV rfl rfl) (RL.nil (ag ?_))))))
 refine RW.aN _ rfl (fun bW=>?_) (fun bW=>?_)
 refine RW.skip (ag (RW.seq (RW.block ?_)))
 iterate 2 refine RW.seq ?_
 have aw:∃a_,iR[i]?=some a_:=⟨_,UT (by omega)⟩
 obtain⟨ap,bG⟩:=aw
 have aw:∃a_,ff[i]?=some a_:=⟨_,UT (by omega)⟩
 obtain⟨aq,iT⟩:=aw
 have aw:∃a_,zp[i]?=some a_:=⟨_,UT (by omega)⟩
 obtain⟨lp,dp⟩:=aw
 have aw:∃a_,Be[i]?=some a_:=⟨_,UT (by omega)⟩
 obtain⟨lq,Bk⟩:=aw
 replace hN:=hN.ext (Ext.drew bT)
 refine RW.cb rfl (fun u=>ak w none_ u []) 11 [(0,0),(1,0),(2,0),(3,0),(4,0),(5,0),(6,0),(7,0),(8,0),(9,0),(10,0)] (by intro _ _ _ h;exact h) (by kernel_rfl) hN (RQ.ev (v:=av) rfl rfl (fun w hS=>U) (RQ.ev (v:=.int .i64 ((i:Int))) rfl rfl (fun w hS=>U) (RQ.ev rfl rfl (fun w hS=>(aB U7 b7 (ha.o.now hS) rfl rfl (by omega) (by omega))) (RQ.ev rfl rfl (fun w hS=>(aF (m:=i) (a:=ap) UW rfl (ha.o.now hS) rfl bG)) ?_))))
 have qn:=((HL.fX bG dp).now hN).aY
 refine RQ.ev rfl rfl (fun w hS=>(aQ UW ((HL.fX bG dp).now hS) rfl)) (RQ.ev (v:=bv) rfl rfl (fun w hS=>U) (RQ.ev (v:=.int .i64 ((i:Int))) rfl rfl (fun w hS=>U) (RQ.ev rfl rfl (fun w hS=>(aB U7 b7 (hb.o.now hS) rfl rfl (by omega) (by omega))) (RQ.ev rfl rfl (fun w hS=>(aF (m:=i) (a:=aq) UW rfl (hb.o.now hS) rfl iT)) ?_))))
 have CF:=((IP.fX iT Bk).now hN).aY
 refine RQ.ev rfl rfl (fun w hS=>(aQ UW ((IP.fX iT Bk).now hS) rfl)) (RQ.ev rfl rfl (fun w hS=>(bp rfl rfl)) (RQ.done (by kernel_rfl) (ag ?_)))
 refine RW.aN _ rfl (fun MM=>?_) (fun MM=>?_)
 refine RW.seq (RW.region (RL.ev (v:=.bool false) rfl rfl aa (RL.nil (ag (RW.ret (aD (aJ ?_)))))))
 iterate 2 refine aD ?_
 refine aJ (aD (aL (RV.tmp rfl) ?_))
 exact⟨congrArg Vd (decide_eq_false (fun e:zp=Be=>MM (by subst e;rw[dp]at Bk;rw[Vq Bk]))).symm,hN.aE⟩
 refine RW.skip (ag (RW.seq (RW.region (RL.ev (v:=.int .i64 (0)) rfl rfl aa (RL.nil (ag (RW.block ?_)))))))
 refine RW.loop (fun k2 R1 fI=>∃q:Nat,R1 0=av∧R1 1=bv∧R1 5=.int .i64 ((i:Int))∧R1 6=.int .i64 ((q:Int))∧ak w none_ fI []∧(q+k2=lp.length)∧(lp.length=lq.length)∧(lp.take q=lq.take q)) (lp.length) ?_ ?_
 exact⟨0,rfl,rfl,rfl,rfl,hN,by omega,by omega,rfl⟩
 clear hN
 rintro k2 R1 fI ⟨q,bN,bw,bM,dd,hN,J7,UA,OV⟩
 have bY:∃gY,R1=(aZ (aZ (aZ (aZ gY 0 _) 1 _) 5 _) 6 _):=⟨R1,by rw[ai bN,ai bw,ai bM,ai dd]⟩
 obtain⟨gY,rfl⟩:=bY
 clear bN bw bM dd
 iterate 2 refine RW.seq ?_
 refine RW.region (RL.ev (v:=.int .i64 ((q:Int))) rfl rfl U (RL.ev (v:=av) rfl rfl U (RL.ev (v:=.int .i64 ((i:Int))) rfl rfl U (RL.ev rfl rfl (aB U7 b7 (ha.o.now hN) rfl rfl (by omega) (by omega)) (RL.ev rfl rfl (aF (m:=i) (a:=ap) UW rfl (ha.o.now hN) rfl bG) (RL.ev rfl rfl (aQ UW ((HL.fX bG dp).now hN) rfl) (RL.ev rfl rfl (aV rfl rfl) (RL.nil (ag ?_)))))))))
 refine RW.aN _ rfl (fun eI=>?_) (fun eI=>?_)
 refine RW.skip (ag (RW.seq (RW.block (RW.seq ?_))))
 replace hN:=hN.ext (Ext.drew fI)
 refine RW.cb rfl (fun u=>ak w none_ u []) 15 [(0,0),(1,0),(2,0),(3,0),(4,0),(5,0),(6,0),(7,0),(8,0),(9,0),(10,0),(11,0),(12,0),(13,0),(14,0)] (by intro _ _ _ h;exact h) (by kernel_rfl) hN (RQ.ev (v:=av) rfl rfl (fun w hS=>U) (RQ.ev (v:=.int .i64 ((i:Int))) rfl rfl (fun w hS=>U) (RQ.ev rfl rfl (fun w hS=>(aB U7 b7 (ha.o.now hS) rfl rfl (by omega) (by omega))) (RQ.ev rfl rfl (fun w hS=>(aF (m:=i) (a:=ap) UW rfl (ha.o.now hS) rfl bG)) (RQ.ev (v:=.int .i64 ((q:Int))) rfl rfl (fun w hS=>U) (RQ.ev rfl rfl (fun w hS=>(aB UW bu ((HL.fX bG dp).now hS) rfl rfl (by omega) (by omega))) ?_))))))
 have aw:∃a_,(lp)[q]?=some a_:=⟨_,UT (by omega)⟩
 obtain⟨ac,jC⟩:=aw
 refine RQ.ev rfl rfl (fun w hS=>(aF (m:=q) (a:=ac) UU rfl ((HL.fX bG dp).now hS) rfl jC)) (RQ.ev (v:=bv) rfl rfl (fun w hS=>U) (RQ.ev (v:=.int .i64 ((i:Int))) rfl rfl (fun w hS=>U) (RQ.ev rfl rfl (fun w hS=>(aB U7 b7 (hb.o.now hS) rfl rfl (by omega) (by omega))) (RQ.ev rfl rfl (fun w hS=>(aF (m:=i) (a:=aq) UW rfl (hb.o.now hS) rfl iT)) (RQ.ev (v:=.int .i64 ((q:Int))) rfl rfl (fun w hS=>U) (RQ.ev rfl rfl (fun w hS=>(aB UW bu ((IP.fX iT Bk).now hS) rfl rfl (by omega) (by omega))) ?_))))))
 have aw:∃a_,(lq)[q]?=some a_:=⟨_,UT (by omega)⟩
 obtain⟨ad,Dk⟩:=aw
 refine RQ.ev rfl rfl (fun w hS=>(aF (m:=q) (a:=ad) UU rfl ((IP.fX iT Bk).now hS) rfl Dk)) (RQ.ev rfl rfl (fun w hS=>(bp rfl rfl)) (RQ.done (by kernel_rfl) (ag ?_)))
 refine RW.aN _ rfl (fun Ki=>?_) (fun Ki=>?_)
 refine RW.seq (RW.region (RL.ev (v:=.bool false) rfl rfl aa (RL.nil (ag (RW.ret (aJ ?_))))))
 iterate 2 refine aD ?_
 iterate 2 refine aJ ?_
 iterate 2 refine aD ?_
 refine aJ (aD (aL (RV.tmp rfl) ?_))
 exact⟨congrArg Vd (decide_eq_false (fun e:zp=Be=>Ki (by subst e;rw[dp]at Bk;cases Bk;rw[jC]at Dk;exact Vq Dk))).symm,hN.aE⟩
 refine RW.skip (a7 (ag (RW.region (RL.ev (v:=.int .i64 ((q:Int))) rfl rfl U (RL.ev rfl rfl (an rfl rfl rfl (bc (by omega) (by omega))) (RL.ev (v:=.int .i64 ((q:Int)+1)) rfl rfl aa (RL.nil (ag ?_))))))))
 exact⟨k2-1,by omega,q+1,rfl,rfl,rfl,rfl,hN,by omega,by omega,by rw[dH jC,dH Dk,OV,Vi.1 Ki]⟩
 refine RW.exit ?_
 iterate 2 refine bm ?_
 refine aO (a7 (ag (RW.region (RL.ev (v:=.int .i64 ((i:Int))) rfl rfl U (RL.ev rfl rfl (an rfl rfl rfl (bc (by omega) (by omega))) (RL.ev (v:=.int .i64 ((i:Int)+1)) rfl rfl aa (RL.nil (ag ?_))))))))
 exact⟨k-1,by omega,i+1,rfl,rfl,rfl,hN,by omega,by omega,by rw[show q=lp.length by omega,Vz,Vo (by omega)]at OV;rw[dH dp,dH Bk,ht,OV]⟩
 refine RW.exit ?_
 iterate 2 refine bm ?_
 refine aO (ag (RW.seq (RW.region (RL.ev (v:=.bool true) rfl rfl aa (RL.nil (ag (RW.ret (aL (RV.tmp rfl) ?_))))))))
 rw[show i=zp.length by omega,Vz,Vo (by omega)]at ht
 exact⟨congrArg Vd (decide_eq_true ht).symm,hN.aE⟩
end Go.Proofs.YtngkdkbpgoddlaaGreat
namespace Go.Proofs.YtngkdkbpgoddlaaGreat
open Go.RowKit Go.Rl
open Go.Gr Go.cP
theorem tp (w:World) (GN:Value) (FT:List Int) (N8:Sl vI w GN FT) (GP:Value) (K3:List Hd) (Dp:List (List Int)) (PY:Sl vh w GP K3) (KB:ep none_ vI w K3 Dp) (Gw:Value) (JN:List Hd) (Da:List (List I2)) (ka:Sl vh w Gw JN) (Kf:dM none_ bk w JN Da) (GC:Value) (JX:List Hd) (Dc:List (List I2)) (Bl:Sl vh w GC JX) (Kt:dM none_ bk w JX Dc) (tj:Value) (zH:List Hd) (p9:List (List Int)) (J2:Sl vh w tj zH) (Eu:ep none_ vI w zH p9) (tm:Value) (zJ:List Hd) (rr:List (List Int)) (J5:Sl vh w tm zJ) (Ex:ep none_ vI w zJ rr) (GM:Value) (FR:List Int) (PU:Sl vI w GM FR) (GO:Value) (K2:List Hd) (Dn:List (List Int)) (PV:Sl vh w GO K2) (KA:ep none_ vI w K2 Dn) (Gv:Value) (JM:List Hd) (C9:List (List I2)) (xj:Sl vh w Gv JM) (Ke:dM none_ bk w JM C9) (GB:Value) (JW:List Hd) (Db:List (List I2)) (xk:Sl vh w GB JW) (Ks:dM none_ bk w JW Db) (th:Value) (zG:List Hd) (p8:List (List Int)) (J1:Sl vh w th zG) (Et:ep none_ vI w zG p8) (tl:Value) (zI:List Hd) (rq:List (List Int)) (J4:Sl vh w tl zI) (Ew:ep none_ vI w zI rq):al UY 35 #[.agg #[GN,GP,Gw,GC,tj,tm],.agg #[GM,GO,Gv,GB,th,tl]] w fun r w'=>r=.bool (decide (FT=FR∧Dp=Dn∧Da=C9∧Dc=Db∧p9=p8∧rr=rq))∧Ext w w':=by
 refine al.start Tryz.func35 rfl (US rfl) ?_
 rw[cc]
 have hN:=ak.nil w none_
 refine RW.seq (RW.region ?_)
 refine RL.op rfl rfl (bq (cs:=[GN,GP,Gw,GC,tj,tm]) rfl rfl hN ?_)
 clear hN
 intro g1 w1 (hN:ak w none_ w1 [_])
 refine RL.op rfl rfl (bq (cs:=[GM,GO,Gv,GB,th,tl]) rfl rfl hN ?_)
 clear hN
 intro g2 w2 (hN:ak w none_ w2 [_,_])
 refine RL.ev (v:=.bool false) rfl rfl aa (RL.nil (ag (RW.seq (RW.region (RL.ev rfl rfl (ah Vh rfl b7 (by decide) rfl) (RL.ev rfl rfl (aj UW rfl rfl (hN.aA 1 rfl) rfl) (RL.ev rfl rfl (ah Vh rfl b7 (by decide) rfl) (RL.ev rfl rfl (aj UW rfl rfl (hN.aA 0 rfl) rfl) ?_))))))))
 refine RL.op rfl rfl (aR Tryz.func88 rfl rfl rfl rfl ((rA _ _ FT FR _ (N8.o.now hN) (PU.o.now hN)).mono ?_))
 rintro _ w3 ⟨rfl,aW⟩
 replace hN:=hN.ext aW
 clear aW
 refine RL.ev (v:=.bool (decide (FT=FR))) rfl rfl U ?_
 by_cases pV:FT=FR
 rw[decide_eq_true pV]
 refine RL.aI rfl rfl (by decide) rfl rfl (ah Vh rfl gK (by decide) rfl) (RL.aI rfl rfl (by decide) rfl rfl (aj U7 rfl rfl (hN.aA 1 rfl) rfl) (RL.aI rfl rfl (by decide) rfl rfl (ah Vh rfl gK (by decide) rfl) (RL.aI rfl rfl (by decide) rfl rfl (aj U7 rfl rfl (hN.aA 0 rfl) rfl) ?_)))
 refine RL.on rfl rfl (by decide) rfl rfl (aR Zz rfl rfl rfl rfl ((iL _ _ K3 K2 Dp Dn _ (PY.o.now hN) (PV.o.now hN) (KB.gR hN) (KA.gR hN)).mono ?_))
 rintro _ w4 ⟨rfl,aW⟩
 replace hN:=hN.ext aW
 clear aW
 refine RL.ev (v:=.bool (decide (Dp=Dn))) rfl rfl (ao rfl) (RL.ev (v:=.bool (decide (Dp=Dn))) rfl rfl U ?_)
 by_cases sB:Dp=Dn
 rw[decide_eq_true sB]
 refine RL.aI rfl rfl (by decide) rfl rfl (ah Vh rfl kD (by decide) rfl) (RL.aI rfl rfl (by decide) rfl rfl (aj Vr rfl rfl (hN.aA 1 rfl) rfl) (RL.aI rfl rfl (by decide) rfl rfl (ah Vh rfl kD (by decide) rfl) (RL.aI rfl rfl (by decide) rfl rfl (aj Vr rfl rfl (hN.aA 0 rfl) rfl) ?_)))
 refine RL.on rfl rfl (by decide) rfl rfl (aR aaS rfl rfl rfl rfl ((jK _ _ JN JM Da C9 _ (ka.o.now hN) (xj.o.now hN) (Kf.ext hN.aE) (Ke.ext hN.aE)).mono ?_))
 rintro _ w5 ⟨rfl,aW⟩
 replace hN:=hN.ext aW
 clear aW
 refine RL.ev (v:=.bool (decide (Da=C9))) rfl rfl (ao rfl) (RL.ev (v:=.bool (decide (Da=C9))) rfl rfl U ?_)
 by_cases Fk:Da=C9
 rw[decide_eq_true Fk]
 refine RL.aI rfl rfl (by decide) rfl rfl (ah Vh rfl kD (by decide) rfl) (RL.aI rfl rfl (by decide) rfl rfl (aj Vr rfl rfl (hN.aA 1 rfl) rfl) (RL.aI rfl rfl (by decide) rfl rfl (ah Vh rfl kD (by decide) rfl) (RL.aI rfl rfl (by decide) rfl rfl (aj Vr rfl rfl (hN.aA 0 rfl) rfl) ?_)))
 refine RL.on rfl rfl (by decide) rfl rfl (aR aaS rfl rfl rfl rfl ((jK _ _ JX JW Dc Db _ (Bl.o.now hN) (xk.o.now hN) (Kt.ext hN.aE) (Ks.ext hN.aE)).mono ?_))
 rintro _ w6 ⟨rfl,aW⟩
 replace hN:=hN.ext aW
 clear aW
 refine RL.ev (v:=.bool (decide (Dc=Db))) rfl rfl (ao rfl) (RL.ev (v:=.bool (decide (Dc=Db))) rfl rfl U ?_)
 by_cases Fj:Dc=Db
 rw[decide_eq_true Fj]
 refine RL.aI rfl rfl (by decide) rfl rfl (ah Vh rfl gK (by decide) rfl) (RL.aI rfl rfl (by decide) rfl rfl (aj U7 rfl rfl (hN.aA 1 rfl) rfl) (RL.aI rfl rfl (by decide) rfl rfl (ah Vh rfl gK (by decide) rfl) (RL.aI rfl rfl (by decide) rfl rfl (aj U7 rfl rfl (hN.aA 0 rfl) rfl) ?_)))
 refine RL.on rfl rfl (by decide) rfl rfl (aR Zz rfl rfl rfl rfl ((iL _ _ zH zG p9 p8 _ (J2.o.now hN) (J1.o.now hN) (Eu.gR hN) (Et.gR hN)).mono ?_))
 rintro _ w7 ⟨rfl,aW⟩
 replace hN:=hN.ext aW
 clear aW
 refine RL.ev (v:=.bool (decide (p9=p8))) rfl rfl (ao rfl) (RL.ev (v:=.bool (decide (p9=p8))) rfl rfl U ?_)
 by_cases Fi:p9=p8
 rw[decide_eq_true Fi]
 refine RL.aI rfl rfl (by decide) rfl rfl (ah Vh rfl gK (by decide) rfl) (RL.aI rfl rfl (by decide) rfl rfl (aj U7 rfl rfl (hN.aA 1 rfl) rfl) (RL.aI rfl rfl (by decide) rfl rfl (ah Vh rfl gK (by decide) rfl) (RL.aI rfl rfl (by decide) rfl rfl (aj U7 rfl rfl (hN.aA 0 rfl) rfl) ?_)))
 refine RL.on rfl rfl (by decide) rfl rfl (aR Zz rfl rfl rfl rfl ((iL _ _ zJ zI rr rq _ (J5.o.now hN) (J4.o.now hN) (Ex.gR hN) (Ew.gR hN)).mono ?_))
 rintro _ w8 ⟨rfl,aW⟩
 replace hN:=hN.ext aW
 clear aW
 refine RL.ev (v:=.bool (decide (rr=rq))) rfl rfl (ao rfl) (RL.ev (v:=.bool (decide (rr=rq))) rfl rfl aa (RL.nil (ag (RW.ret (aL (RV.tmp rfl) ?_)))))
 exact⟨congrArg Vd (decide_eq_decide.2 ⟨fun h=>by refine⟨?_,?_,?_,?_,?_,?_⟩<;>first|exact h|assumption,fun e=>by obtain⟨e0,e1,e2,e3,e4,e5⟩:=e;assumption⟩),hN.aE⟩
 rw[decide_eq_false Fi]
 iterate 5 refine RL.off rfl rfl (by decide) rfl rfl ?_
 refine RL.ev (v:=.bool false) rfl rfl (aH rfl) (RL.ev (v:=.bool false) rfl rfl aa (RL.nil (ag (RW.ret (aL (RV.tmp rfl) ?_)))))
 exact⟨congrArg Vd (decide_eq_false (fun e=>by obtain⟨e0,e1,e2,e3,e4,e5⟩:=e;contradiction)).symm,hN.aE⟩
 rw[decide_eq_false Fj]
 iterate 5 refine RL.off rfl rfl (by decide) rfl rfl ?_
 refine RL.ev (v:=.bool false) rfl rfl (aH rfl) (RL.ev (v:=.bool false) rfl rfl U ?_)
 iterate 5 refine RL.off rfl rfl (by decide) rfl rfl ?_
 refine RL.ev (v:=.bool false) rfl rfl (aH rfl) (RL.ev (v:=.bool false) rfl rfl aa (RL.nil (ag (RW.ret (aL (RV.tmp rfl) ?_)))))
 exact⟨congrArg Vd (decide_eq_false (fun e=>by obtain⟨e0,e1,e2,e3,e4,e5⟩:=e;contradiction)).symm,hN.aE⟩
 rw[decide_eq_false Fk]
 iterate 5 refine RL.off rfl rfl (by decide) rfl rfl ?_
 refine RL.ev (v:=.bool false) rfl rfl (aH rfl) (RL.ev (v:=.bool false) rfl rfl U ?_)
 iterate 5 refine RL.off rfl rfl (by decide) rfl rfl ?_
 refine RL.ev (v:=.bool false) rfl rfl (aH rfl) (RL.ev (v:=.bool false) rfl rfl U ?_)
 iterate 5 refine RL.off rfl rfl (by decide) rfl rfl ?_
 refine RL.ev (v:=.bool false) rfl rfl (aH rfl) (RL.ev (v:=.bool false) rfl rfl aa (RL.nil (ag (RW.ret (aL (RV.tmp rfl) ?_)))))
 exact⟨congrArg Vd (decide_eq_false (fun e=>by obtain⟨e0,e1,e2,e3,e4,e5⟩:=e;contradiction)).symm,hN.aE⟩
 rw[decide_eq_false sB]
 iterate 5 refine RL.off rfl rfl (by decide) rfl rfl ?_
 refine RL.ev (v:=.bool false) rfl rfl (aH rfl) (RL.ev (v:=.bool false) rfl rfl U ?_)
 iterate 5 refine RL.off rfl rfl (by decide) rfl rfl ?_
 refine RL.ev (v:=.bool false) rfl rfl (aH rfl) (RL.ev (v:=.bool false) rfl rfl U ?_)
 iterate 5 refine RL.off rfl rfl (by decide) rfl rfl ?_
 refine RL.ev (v:=.bool false) rfl rfl (aH rfl) (RL.ev (v:=.bool false) rfl rfl U ?_)
 iterate 5 refine RL.off rfl rfl (by decide) rfl rfl ?_
 refine RL.ev (v:=.bool false) rfl rfl (aH rfl) (RL.ev (v:=.bool false) rfl rfl aa (RL.nil (ag (RW.ret (aL (RV.tmp rfl) ?_)))))
 exact⟨congrArg Vd (decide_eq_false (fun e=>by obtain⟨e0,e1,e2,e3,e4,e5⟩:=e;contradiction)).symm,hN.aE⟩
 rw[decide_eq_false pV]
 iterate 5 refine RL.off rfl rfl (by decide) rfl rfl ?_
 refine RL.ev (v:=.bool false) rfl rfl (aH rfl) (RL.ev (v:=.bool false) rfl rfl U ?_)
 iterate 5 refine RL.off rfl rfl (by decide) rfl rfl ?_
 refine RL.ev (v:=.bool false) rfl rfl (aH rfl) (RL.ev (v:=.bool false) rfl rfl U ?_)
 iterate 5 refine RL.off rfl rfl (by decide) rfl rfl ?_
 refine RL.ev (v:=.bool false) rfl rfl (aH rfl) (RL.ev (v:=.bool false) rfl rfl U ?_)
 iterate 5 refine RL.off rfl rfl (by decide) rfl rfl ?_
 refine RL.ev (v:=.bool false) rfl rfl (aH rfl) (RL.ev (v:=.bool false) rfl rfl U ?_)
 iterate 5 refine RL.off rfl rfl (by decide) rfl rfl ?_
 refine RL.ev (v:=.bool false) rfl rfl (aH rfl) (RL.ev (v:=.bool false) rfl rfl aa (RL.nil (ag (RW.ret (aL (RV.tmp rfl) ?_)))))
 exact⟨congrArg Vd (decide_eq_false (fun e=>by obtain⟨e0,e1,e2,e3,e4,e5⟩:=e;contradiction)).symm,hN.aE⟩
theorem mT (w:World) (n1:Int) (LF Lp Lk:Value) (l1:List I3) (Lq:List Int) (Ll:List I5) (Nr:Sm bf w LF l1) (j9:Sl vI w Lp Lq) (S9:Sm bC w Lk Ll) (GN:Value) (FT:List Int) (N8:Sl vI w GN FT) (GP:Value) (K3:List Hd) (Dp:List (List Int)) (PY:Sl vh w GP K3) (KB:ep none_ vI w K3 Dp) (Gw:Value) (JN:List Hd) (Da:List (List I2)) (ka:Sl vh w Gw JN) (Kf:dM none_ bk w JN Da) (GC:Value) (JX:List Hd) (Dc:List (List I2)) (Bl:Sl vh w GC JX) (Kt:dM none_ bk w JX Dc) (tj:Value) (zH:List Hd) (p9:List (List Int)) (J2:Sl vh w tj zH) (Eu:ep none_ vI w zH p9) (tm:Value) (zJ:List Hd) (rr:List (List Int)) (J5:Sl vh w tm zJ) (Ex:ep none_ vI w zJ rr) (n2:Int) (LD C7 C3:Value) (l2:List I3) (C8:List Int) (Dx:List I5) (T0:Sm bf w LD l2) (pP:Sl vI w C7 C8) (S8:Sm bC w C3 Dx) (GM:Value) (FR:List Int) (PU:Sl vI w GM FR) (GO:Value) (K2:List Hd) (Dn:List (List Int)) (PV:Sl vh w GO K2) (KA:ep none_ vI w K2 Dn) (Gv:Value) (JM:List Hd) (C9:List (List I2)) (xj:Sl vh w Gv JM) (Ke:dM none_ bk w JM C9) (GB:Value) (JW:List Hd) (Db:List (List I2)) (xk:Sl vh w GB JW) (Ks:dM none_ bk w JW Db) (th:Value) (zG:List Hd) (p8:List (List Int)) (J1:Sl vh w th zG) (Et:ep none_ vI w zG p8) (tl:Value) (zI:List Hd) (rq:List (List Int)) (J4:Sl vh w tl zI) (Ew:ep none_ vI w zI rq):al UY 12 #[.agg #[.int .i64 n1,LF,Lp,Lk,GN,GP,Gw,GC,tj,tm],.agg #[.int .i64 n2,LD,C7,C3,GM,GO,Gv,GB,th,tl]] w fun r w'=>r=.bool (decide ((n1=n2∧l1=l2)∧(Lq=C8∧Ll=Dx)∧FT=FR∧Dp=Dn∧Da=C9∧Dc=Db∧p9=p8∧rr=rq))∧Ext w w':=by
 refine al.start aaT rfl (US rfl) ?_
 rw[cc]
 have hN:=ak.nil w none_
 refine RW.seq (RW.region ?_)
 refine RL.op rfl rfl (bq (cs:=[.int .i64 (n1),LF,Lp,Lk,GN,GP,Gw,GC,tj,tm]) rfl rfl hN ?_)
 clear hN
 intro g1 w1 (hN:ak w none_ w1 [_])
 refine RL.op rfl rfl (bq (cs:=[.int .i64 (n2),LD,C7,C3,GM,GO,Gv,GB,th,tl]) rfl rfl hN ?_)
 clear hN
 intro g2 w2 (hN:ak w none_ w2 [_,_])
 refine RL.ev (v:=.bool false) rfl rfl aa (RL.nil (ag (RW.seq (RW.region (RL.ev rfl rfl (ah U8 rfl db (by decide) rfl) (RL.ev rfl rfl (cr (cs:=[.int .i64 (n1),LF,Lp,Lk,GN,GP,Gw,GC,tj,tm]) (j:=0) (m:=2) U4 rfl db rfl (hN.aA 1 rfl) (US rfl)) (RL.ev rfl rfl (ah U8 rfl db (by decide) rfl) (RL.ev rfl rfl (cr (cs:=[.int .i64 (n2),LD,C7,C3,GM,GO,Gv,GB,th,tl]) (j:=0) (m:=2) U4 rfl db rfl (hN.aA 0 rfl) (US rfl)) ?_))))))))
 refine RL.op rfl rfl (aR Tryz.func33 rfl rfl rfl rfl ((tt (n1) (n2) _ _ l1 l2 _ (Nr.o.now hN) (T0.o.now hN)).mono ?_))
 rintro _ w3 ⟨rfl,aW⟩
 replace hN:=hN.ext aW
 clear aW
 refine RL.ev (v:=.bool (decide (n1=n2∧l1=l2))) rfl rfl U ?_
 by_cases pV:n1=n2∧l1=l2
 rw[decide_eq_true pV]
 refine RL.aI rfl rfl (by decide) rfl rfl (ah U8 rfl dr (by decide) rfl) (RL.aI rfl rfl (by decide) rfl rfl (cr (cs:=[.int .i64 (n1),LF,Lp,Lk,GN,GP,Gw,GC,tj,tm]) (j:=2) (m:=2) Vb rfl dr rfl (hN.aA 1 rfl) (US rfl)) (RL.aI rfl rfl (by decide) rfl rfl (ah U8 rfl dr (by decide) rfl) (RL.aI rfl rfl (by decide) rfl rfl (cr (cs:=[.int .i64 (n2),LD,C7,C3,GM,GO,Gv,GB,th,tl]) (j:=2) (m:=2) Vb rfl dr rfl (hN.aA 0 rfl) (US rfl)) ?_)))
 refine RL.on rfl rfl (by decide) rfl rfl (aR Tryz.func34 rfl rfl rfl rfl ((rB _ _ _ _ Lq C8 Ll Dx _ (j9.o.now hN) (S9.o.now hN) (pP.o.now hN) (S8.o.now hN)).mono ?_))
 rintro _ w4 ⟨rfl,aW⟩
 replace hN:=hN.ext aW
 clear aW
 refine RL.ev (v:=.bool (decide (Lq=C8∧Ll=Dx))) rfl rfl (ao rfl) (RL.ev (v:=.bool (decide (Lq=C8∧Ll=Dx))) rfl rfl U ?_)
 by_cases sB:Lq=C8∧Ll=Dx
 rw[decide_eq_true sB]
 refine RL.aI rfl rfl (by decide) rfl rfl (ah U8 rfl ga (by decide) rfl) (RL.aI rfl rfl (by decide) rfl rfl (cr (cs:=[.int .i64 (n1),LF,Lp,Lk,GN,GP,Gw,GC,tj,tm]) (j:=4) (m:=6) Vh rfl ga rfl (hN.aA 1 rfl) (US rfl)) (RL.aI rfl rfl (by decide) rfl rfl (ah U8 rfl ga (by decide) rfl) (RL.aI rfl rfl (by decide) rfl rfl (cr (cs:=[.int .i64 (n2),LD,C7,C3,GM,GO,Gv,GB,th,tl]) (j:=4) (m:=6) Vh rfl ga rfl (hN.aA 0 rfl) (US rfl)) ?_)))
 refine RL.on rfl rfl (by decide) rfl rfl (aR Tryz.func35 rfl rfl rfl rfl ((tp _ _ FT (N8.o.now hN) _ K3 Dp (PY.o.now hN) (KB.gR hN) _ JN Da (ka.o.now hN) (Kf.ext hN.aE) _ JX Dc (Bl.o.now hN) (Kt.ext hN.aE) _ zH p9 (J2.o.now hN) (Eu.gR hN) _ zJ rr (J5.o.now hN) (Ex.gR hN) _ FR (PU.o.now hN) _ K2 Dn (PV.o.now hN) (KA.gR hN) _ JM C9 (xj.o.now hN) (Ke.ext hN.aE) _ JW Db (xk.o.now hN) (Ks.ext hN.aE) _ zG p8 (J1.o.now hN) (Et.gR hN) _ zI rq (J4.o.now hN) (Ew.gR hN)).mono ?_))
 rintro _ w5 ⟨rfl,aW⟩
 replace hN:=hN.ext aW
 clear aW
 refine RL.ev (v:=.bool (decide (FT=FR∧Dp=Dn∧Da=C9∧Dc=Db∧p9=p8∧rr=rq))) rfl rfl (ao rfl) (RL.ev (v:=.bool (decide (FT=FR∧Dp=Dn∧Da=C9∧Dc=Db∧p9=p8∧rr=rq))) rfl rfl aa (RL.nil (ag (RW.ret (aL (RV.tmp rfl) ?_)))))
 exact⟨congrArg Vd (decide_eq_decide.2 ⟨fun h=>by refine⟨?_,?_,?_⟩<;>first|exact h|assumption,fun e=>by obtain⟨e0,e1,e2⟩:=e;assumption⟩),hN.aE⟩
 rw[decide_eq_false sB]
 iterate 5 refine RL.off rfl rfl (by decide) rfl rfl ?_
 refine RL.ev (v:=.bool false) rfl rfl (aH rfl) (RL.ev (v:=.bool false) rfl rfl aa (RL.nil (ag (RW.ret (aL (RV.tmp rfl) ?_)))))
 exact⟨congrArg Vd (decide_eq_false (fun e=>by obtain⟨e0,e1,e2⟩:=e;contradiction)).symm,hN.aE⟩
 rw[decide_eq_false pV]
 iterate 5 refine RL.off rfl rfl (by decide) rfl rfl ?_
 refine RL.ev (v:=.bool false) rfl rfl (aH rfl) (RL.ev (v:=.bool false) rfl rfl U ?_)
 iterate 5 refine RL.off rfl rfl (by decide) rfl rfl ?_
 refine RL.ev (v:=.bool false) rfl rfl (aH rfl) (RL.ev (v:=.bool false) rfl rfl aa (RL.nil (ag (RW.ret (aL (RV.tmp rfl) ?_)))))
 exact⟨congrArg Vd (decide_eq_false (fun e=>by obtain⟨e0,e1,e2⟩:=e;contradiction)).symm,hN.aE⟩
end Go.Proofs.YtngkdkbpgoddlaaGreat
namespace Go.Proofs.YtngkdkbpgoddlaaGreat
open Go.RowKit Go.Rl
open Go.Gr
end Go.Proofs.YtngkdkbpgoddlaaGreat
namespace Go.Proofs.YtngkdkbpgoddlaaGreat
open Go.RowKit Go.Rl
open Go.Gr
end Go.Proofs.YtngkdkbpgoddlaaGreat
namespace Go.Proofs.YtngkdkbpgoddlaaGreat
open Go.RowKit Go.Rl
open Go.Gr
end Go.Proofs.YtngkdkbpgoddlaaGreat
namespace Go.Proofs.YtngkdkbpgoddlaaGreat
open Go.RowKit Go.Rl
open Go.Gr
end Go.Proofs.YtngkdkbpgoddlaaGreat
namespace Go.Proofs.YtngkdkbpgoddlaaGreat
open Go.RowKit Go.Rl
open Go.Gr
end Go.Proofs.YtngkdkbpgoddlaaGreat
namespace Go.Proofs.YtngkdkbpgoddlaaGreat
open Go.RowKit Go.Rl
open Go.Gr
end Go.Proofs.YtngkdkbpgoddlaaGreat
namespace Go.Proofs.YtngkdkbpgoddlaaGreat
open Go.RowKit Go.Rl
open Go.Gr
end Go.Proofs.YtngkdkbpgoddlaaGreat
namespace Go.Proofs.YtngkdkbpgoddlaaGreat
open Go.RowKit Go.Rl
open Go.Gr
end Go.Proofs.YtngkdkbpgoddlaaGreat
namespace Go.Proofs.YtngkdkbpgoddlaaGreat
open Go.RowKit Go.Rl
open Go.Gr
end Go.Proofs.YtngkdkbpgoddlaaGreat
namespace Go.Proofs.YtngkdkbpgoddlaaGreat
open Go.RowKit Go.Rl
open Go.Gr
end Go.Proofs.YtngkdkbpgoddlaaGreat
namespace Go.Proofs.YtngkdkbpgoddlaaGreat
open Go.RowKit Go.Rl
open Go.Gr
end Go.Proofs.YtngkdkbpgoddlaaGreat
namespace Go.Proofs.YtngkdkbpgoddlaaGreat
open Go.RowKit Go.Rl
open Go.Gr
end Go.Proofs.YtngkdkbpgoddlaaGreat
namespace Go.Proofs.YtngkdkbpgoddlaaGreat
open Go.RowKit Go.Rl
open Go.Gr
end Go.Proofs.YtngkdkbpgoddlaaGreat
namespace Go.Proofs.YtngkdkbpgoddlaaGreat
open Go.RowKit Go.Rl
open Go.Gr
end Go.Proofs.YtngkdkbpgoddlaaGreat
namespace Go.Proofs.YtngkdkbpgoddlaaGreat
open Go.RowKit Go.Rl
open Go.Gr Go.cP Go.hO
theorem lY (w:World):al UY 13 #[] w fun r w'=>r=.bool true∧Ext w w':=by
 refine al.start ZA rfl (US rfl) ?_
 rw[Jb]
 have hN:=ak.nil w none_
 refine RW.seq (RW.region (RL.ev (v:=.bool false) rfl rfl aa (RL.nil (ag (RW.seq (RW.region ?_))))))
 refine RL.op rfl rfl (D6 vb U1 lG rfl hN ?_)
 clear hN
 intro v1 w1 (hN:ak w none_ w1 [_])
 have aw:=(hN.C5 0 rfl).hd
 obtain⟨h3,eM⟩:=aw
 subst eM
 refine RL.op rfl rfl (bS (enc:=vh) (l:=[h3]) (xs:=[.tmp 2]) VB fq Dq rfl rfl (fun _=>rfl) rfl (by decide) (by decide) hN ?_)
 clear hN
 intro g2 w2 (hN:ak w none_ w2 [_,_])
 refine RL.op rfl rfl (aM Zs rfl rfl rfl ((nv _ ([h3]) [[]] _ (hN.sl 0 rfl) (ep.cons (hN.C5 1 rfl) (py.none _ _) (ep.nil _ _ _)) (by decide)).mono ?_))
 rintro v4 w4 ⟨cx,aW⟩
 replace hN:ak w none_ w4 [_,_,_]:=hN.bx (l:=cX [[]]) cx aW
 clear cx aW
 replace hN:=hN.lP 0 rfl (show _=[4,0,0,0,0,0,0,0]from uU)
 replace hN:ak w none_ w4 [_,_,_]:=hN
 refine RL.ev (v:=v4) rfl rfl aa (RL.nil (ag (RW.seq (RW.region ?_))))
 refine RL.op rfl rfl (aM Zs rfl rfl rfl ((nv _ [] [] _ (Sl.nil _ _) (ep.nil _ _ _) (by decide)).mono ?_))
 rintro v5 w5 ⟨cx,aW⟩
 replace hN:ak w none_ w5 [_,_,_,_]:=hN.bx (l:=cX []) cx aW
 clear cx aW
 have CF:=(hN.sl 0 rfl).aY
 refine RL.ev rfl rfl (aQ U1 (hN.sl 0 rfl) rfl) (RL.ev rfl rfl (cS (cI rfl rfl) rfl) (RL.ev (v:=.bool true) rfl rfl U (RL.aI (v:=v4) rfl rfl (by decide) rfl rfl U ?_)))
 have HW:=(hN.sl 1 rfl).aY
 refine RL.aI rfl rfl (by decide) rfl rfl (aQ U1 (hN.sl 1 rfl) rfl) (RL.aI rfl rfl (by decide) rfl rfl (cS (cI rfl rfl) rfl) (RL.ev (v:=.bool true) rfl rfl (ao rfl) (RL.ev (v:=.bool true) rfl rfl U (RL.aI (v:=v4) rfl rfl (by decide) rfl rfl U (RL.aI rfl rfl (by decide) rfl rfl (aB U1 lG (hN.sl 1 rfl) rfl rfl (by decide) (by decide)) (RL.aI rfl rfl (by decide) rfl rfl (aF (m:=0) (a:=4) Vu rfl (hN.sl 1 rfl) rfl rfl) (RL.aI rfl rfl (by decide) rfl rfl (cS (cI rfl rfl) rfl) (RL.ev (v:=.bool true) rfl rfl (ao rfl) (RL.ev (v:=.bool true) rfl rfl U ?_)))))))))
 refine RL.aI (v:=v4) rfl rfl (by decide) rfl rfl U (RL.aI rfl rfl (by decide) rfl rfl (aB U1 lG (hN.sl 1 rfl) rfl rfl (by decide) (by decide)) (RL.aI rfl rfl (by decide) rfl rfl (aF (m:=7) (a:=0) Vu rfl (hN.sl 1 rfl) rfl rfl) (RL.aI rfl rfl (by decide) rfl rfl (cS (cI rfl rfl) rfl) (RL.ev (v:=.bool true) rfl rfl (ao rfl) (RL.ev (v:=.bool true) rfl rfl U (RL.aI (v:=v4) rfl rfl (by decide) rfl rfl U ?_))))))
 refine RL.on rfl rfl (by decide) rfl rfl (aM Zw rfl rfl rfl ((lU _ ([4,0,0,0,0,0,0,0]) _ (hN.sl 1 rfl) (by decide)).mono ?_))
 rintro v10 jH ⟨Mi,bE⟩
 replace hN:ak w none_ jH [_,_,_,_,_,_]:=hN.dU bE
 clear bE
 have Lv:=ns [[]] (by decide)
 rw[uU]at Lv
 have HK:=(hN.dx 1 rfl).1
 rw[Lv]at HK
 have Se:=(hN.sl 0 rfl).aY
 refine RL.aI rfl rfl (by decide) rfl rfl (aQ VB (hN.sl 0 rfl) rfl) (RL.aI rfl rfl (by decide) rfl rfl (cS (cI rfl rfl) (by rw[HK];rfl)) (RL.ev (v:=.bool true) rfl rfl (ao rfl) (RL.ev (v:=.bool true) rfl rfl aa (RL.nil (ag (RW.ret (aL (RV.tmp rfl) ?_)))))))
 exact⟨rfl,hN.aE⟩
end Go.Proofs.YtngkdkbpgoddlaaGreat
namespace Go.Proofs.YtngkdkbpgoddlaaGreat
open Go.RowKit Go.Rl
open Go.Gr Go.cP Go.hO
theorem oF (v:Value) (l:List UInt8) (w:World) (hv:Sl vb w v l) (hl:l.length≤1048576) (hd:kX l=none):al UY 15 #[v] w fun r w'=>r=.tuple #[.agg #[.int .i64 (0),.slice none 0 0,.slice none 0 0,.slice none 0 0,.slice none 0 0,.slice none 0 0,.slice none 0 0,.slice none 0 0,.slice none 0 0,.slice none 0 0],.int .i64 5]∧Ext w w':=
  (oG v l w hv hl).mono fun _ _ h=>by rw[hd]at h;exact h
theorem oE {x:oO} (v:Value) (l:List UInt8) (w:World) (hv:Sl vb w v l) (hl:l.length≤1048576) (hd:kX l=some x):al UY 15 #[v] w fun r w'=>∃v rv wv gv fv ov iv cD cE hf ho fk gL gF,r=.tuple #[.agg #[.int .i64 x.n,v,rv,wv,gv,fv,ov,iv,cD,cE],.int .i64 0]∧ak w none_ w' [.cV bf 3 100 v x.ar,.own vI 3 rv x.rk,.cV bC 5 98 wv x.ws,.own vI 3 gv x.g,.own vh 25 fv hf,.dT vI hf x.far,.own vh 118 ov ho,.ek bk ho x.outs,.own vh 118 iv fk,.ek bk fk x.ins,.own vh 25 cD gL,.dT vI gL x.so,.own vh 25 cE gF,.dT vI gF x.si]:=
  (oG v l w hv hl).mono fun _ _ h=>by rw[hd]at h;exact h
theorem lS (v:Value) (l:List UInt8) (w:World) (hv:Sl vb w v l) (hl:l.length≤30000) (hd:kX l=none):al UY 20 #[v] w fun r w'=>r=.tuple #[.agg #[.int .i64 (0),.slice none 0 0,.slice none 0 0,.slice none 0 0,.slice none 0 0,.slice none 0 0,.slice none 0 0,.slice none 0 0,.slice none 0 0,.slice none 0 0],.int .i64 5]∧Ext w w':=
  (lj v l w hv hl).mono fun _ _ h=>by rw[BA hl,hd]at h;exact h
theorem lR {x:oO} (v:Value) (l:List UInt8) (w:World) (hv:Sl vb w v l) (hl:l.length≤30000) (hd:kX l=some x):al UY 20 #[v] w fun r w'=>∃v h0 hs ls wv gv fv ov iv cD cE hf ho fk gL gF,r=.tuple #[.agg #[.int .i64 x.n,v,vh h0,wv,gv,fv,ov,iv,cD,cE],.int .i64 0]∧(hs[0]?=some h0∧ls[0]?=some x.rk)∧ak w none_ w' [.cV bf 3 100 v x.ar,.dT vi hs ls,.cV bC 5 98 wv x.ws,.own vI 3 gv x.g,.own vh 25 fv hf,.dT vI hf x.far,.own vh 118 ov ho,.ek bk ho x.outs,.own vh 118 iv fk,.ek bk fk x.ins,.own vh 25 cD gL,.dT vI gL x.so,.own vh 25 cE gF,.dT vI gF x.si]:=
  (lj v l w hv hl).mono fun _ _ h=>by rw[BA hl,hd]at h;exact h
theorem nw (v:Value) (l:List UInt8) (w:World) (hv:Sl vb w v l):al UY 6 #[v] w fun r w'=>r=.bool true∧Ext w w':=by
 refine al.start aa3 rfl (US rfl) ?_
 rw[bL]
 have hN:=ak.nil w none_
 refine RW.seq (RW.region (RL.ev (v:=.bool false) rfl rfl aa (RL.nil (ag ?_))))
 iterate 2 refine RW.seq ?_
 refine RW.region (RL.ev (v:=v) rfl rfl U ?_)
 have iF:=(hv.ext hN.aE).aY
 refine RL.ev rfl rfl (aQ U1 (hv.ext hN.aE) rfl) (RL.ev rfl rfl (cN rfl rfl) (RL.nil (ag ?_)))
 refine RW.aN _ rfl (fun AB=>?_) (fun AB=>?_)
 refine RW.seq (RW.region ?_)
 refine RL.op rfl rfl (oa ZA rfl rfl ((lY _).mono ?_))
 rintro _ w2 ⟨rfl,aW⟩
 replace hN:=hN.ext aW
 clear aW
 refine RL.ev (v:=.bool true) rfl rfl aa (RL.nil (ag (RW.ret (aD (aL (RV.tmp rfl) ?_)))))
 exact⟨rfl,hN.aE⟩
 refine RW.skip (ag (RW.seq ?_))
 rcases hd:kX l with _|x
 refine RW.region (RL.ev (v:=v) rfl rfl U ?_)
 refine RL.op rfl rfl (aM aaN rfl rfl rfl ((oF _ l _ (hv.ext hN.aE) (by omega) hd).mono ?_))
 rintro _ w3 ⟨rfl,aW⟩
 replace hN:=hN.ext aW
 clear aW
 refine RL.ev (v:=.tuple #[.agg #[.int .i64 (0),.slice none 0 0,.slice none 0 0,.slice none 0 0,.slice none 0 0,.slice none 0 0,.slice none 0 0,.slice none 0 0,.slice none 0 0,.slice none 0 0],.int .i64 (5)]) rfl rfl U ?_
 iterate 2 refine RL.ev rfl rfl (bg rfl rfl) ?_
 refine RL.op rfl rfl (aX (cs:=[.int .i64 (0),.slice none 0 0,.slice none 0 0,.slice none 0 0,.slice none 0 0,.slice none 0 0,.slice none 0 0,.slice none 0 0,.slice none 0 0,.slice none 0 0]) dG rfl hN ?_)
 clear hN
 intro g4 w4 (hN:ak w none_ w4 [_])
 refine RL.op rfl rfl (aC (vs:=[.int .i64 (0),.slice none 0 0,.slice none 0 0,.slice none 0 0,.slice none 0 0,.slice none 0 0,.slice none 0 0,.slice none 0 0,.slice none 0 0,.slice none 0 0]) dJ rfl rfl rfl (by intro u hu;simp only[U9,U2,or_false]at hu;rcases hu with rfl|rfl|rfl|rfl|rfl|rfl|rfl|rfl|rfl|rfl<;>first|rfl) hN 0 rfl rfl ?_)
 clear hN
 intro w5 (hN:ak w none_ w5 [_])
 refine RL.ev (v:=.int .i64 (5)) rfl rfl aa (RL.nil (ag (RW.seq (RW.region (RL.ev (v:=v) rfl rfl U ?_)))))
 refine RL.op rfl rfl (aM aaP rfl rfl rfl ((lS _ l _ (hv.ext hN.aE) (by omega) hd).mono ?_))
 rintro _ w6 ⟨rfl,aW⟩
 replace hN:=hN.ext aW
 clear aW
 refine RL.ev (v:=.tuple #[.agg #[.int .i64 (0),.slice none 0 0,.slice none 0 0,.slice none 0 0,.slice none 0 0,.slice none 0 0,.slice none 0 0,.slice none 0 0,.slice none 0 0,.slice none 0 0],.int .i64 (5)]) rfl rfl U ?_
 iterate 2 refine RL.ev rfl rfl (bg rfl rfl) ?_
 refine RL.op rfl rfl (aX (cs:=[.int .i64 (0),.slice none 0 0,.slice none 0 0,.slice none 0 0,.slice none 0 0,.slice none 0 0,.slice none 0 0,.slice none 0 0,.slice none 0 0,.slice none 0 0]) dG rfl hN ?_)
 clear hN
 intro g7 w7 (hN:ak w none_ w7 [_,_])
 refine RL.op rfl rfl (aC (vs:=[.int .i64 (0),.slice none 0 0,.slice none 0 0,.slice none 0 0,.slice none 0 0,.slice none 0 0,.slice none 0 0,.slice none 0 0,.slice none 0 0,.slice none 0 0]) dJ rfl rfl rfl (by intro u hu;simp only[U9,U2,or_false]at hu;rcases hu with rfl|rfl|rfl|rfl|rfl|rfl|rfl|rfl|rfl|rfl<;>first|rfl) hN 0 rfl rfl ?_)
 clear hN
 intro w8 (hN:ak w none_ w8 [_,_])
 refine RL.ev (v:=.int .i64 (5)) rfl rfl aa (RL.nil (ag (RW.seq (RW.region (RL.ev rfl rfl (aG (cs:=[.int .i64 (0),.slice none 0 0,.slice none 0 0,.slice none 0 0,.slice none 0 0,.slice none 0 0,.slice none 0 0,.slice none 0 0,.slice none 0 0,.slice none 0 0]) U8 rfl dJ rfl (hN.aA 1 rfl)) (RL.ev rfl rfl (aG (cs:=[.int .i64 (0),.slice none 0 0,.slice none 0 0,.slice none 0 0,.slice none 0 0,.slice none 0 0,.slice none 0 0,.slice none 0 0,.slice none 0 0,.slice none 0 0]) U8 rfl dJ rfl (hN.aA 0 rfl)) ?_))))))
 refine RL.op rfl rfl (aR aaT rfl rfl rfl rfl ((mT _ (0) _ _ _ ([]) ([]) ([]) (Sm.nil _ _) (Sl.nil _ _) (Sm.nil _ _) _ ([]) (Sl.nil _ _) _ ([]) ([]) (Sl.nil _ _) (ep.nil _ _ _) _ ([]) ([]) (Sl.nil _ _) (dM.nil _ _ _) _ ([]) ([]) (Sl.nil _ _) (dM.nil _ _ _) _ ([]) ([]) (Sl.nil _ _) (ep.nil _ _ _) _ ([]) ([]) (Sl.nil _ _) (ep.nil _ _ _) (0) _ _ _ ([]) ([]) ([]) (Sm.nil _ _) (Sl.nil _ _) (Sm.nil _ _) _ ([]) (Sl.nil _ _) _ ([]) ([]) (Sl.nil _ _) (ep.nil _ _ _) _ ([]) ([]) (Sl.nil _ _) (dM.nil _ _ _) _ ([]) ([]) (Sl.nil _ _) (dM.nil _ _ _) _ ([]) ([]) (Sl.nil _ _) (ep.nil _ _ _) _ ([]) ([]) (Sl.nil _ _) (ep.nil _ _ _)).mono ?_))
 rintro _ w9 ⟨rfl,aW⟩
 rw[decide_eq_true (show((0:Int)=0∧([]:List I3)=[])∧(([]:List Int)=[]∧([]:List I5)=[])∧([]:List Int)=[]∧([]:List (List Int))=[]∧([]:List (List I2))=[]∧([]:List (List I2))=[]∧([]:List (List Int))=[]∧([]:List (List Int))=[]from⟨⟨rfl,rfl⟩,⟨rfl,rfl⟩,rfl,rfl,rfl,rfl,rfl,rfl⟩)]
 replace hN:=hN.ext aW
 clear aW
 refine RL.ev (v:=.bool true) rfl rfl U ?_
 iterate 2 refine RL.aI (v:=.int .i64 (5)) rfl rfl (by decide) rfl rfl U ?_
 refine RL.aI rfl rfl (by decide) rfl rfl (cS (cI rfl rfl) rfl) (RL.ev (v:=.bool true) rfl rfl (ao rfl) (RL.ev (v:=.bool true) rfl rfl U (RL.aI (v:=v) rfl rfl (by decide) rfl rfl U ?_)))
 refine RL.on rfl rfl (by decide) rfl rfl (aM aaQ rfl rfl rfl ((oo _ l _ (hv.ext hN.aE) (by omega)).mono ?_))
 rintro _ jH ⟨rfl,aW⟩
 replace hN:=hN.ext aW
 clear aW
 refine RL.aI (v:=v) rfl rfl (by decide) rfl rfl U ?_
 refine RL.on rfl rfl (by decide) rfl rfl (aM aaR rfl rfl rfl ((lh _ l _ (hv.ext hN.aE) (by omega)).mono ?_))
 rintro _ jj ⟨rfl,aW⟩
 replace hN:=hN.ext aW
 clear aW
 refine RL.aI rfl rfl (by decide) rfl rfl (cS (cI rfl rfl) rfl) (RL.ev (v:=.bool true) rfl rfl (ao rfl) (RL.ev (v:=.bool true) rfl rfl U ?_))
 refine RL.on rfl rfl (by decide) rfl rfl (oa ZA rfl rfl ((lY _).mono ?_))
 rintro _ iP ⟨rfl,aW⟩
 replace hN:=hN.ext aW
 clear aW
 refine RL.ev (v:=.bool true) rfl rfl (ao rfl) (RL.ev (v:=.bool true) rfl rfl aa (RL.nil (ag (RW.ret (aL (RV.tmp rfl) ?_)))))
 exact⟨rfl,hN.aE⟩
 refine RW.region (RL.ev (v:=v) rfl rfl U ?_)
 refine RL.op rfl rfl (aM aaN rfl rfl rfl ((oE _ l _ (hv.ext hN.aE) (by omega) hd).mono ?_))
 rintro _ kC ⟨xw,Jz,Jq,KX,K0,JJ,JT,DH,DL,PX,Pu,PQ,Mf,Mh,rfl,bE⟩
 replace hN:ak w none_ kC [_,_,_,_,_,_,_,_,_,_,_,_,_,_]:=hN.dU bE
 clear bE
 refine RL.ev (v:=.tuple #[.agg #[.int .i64 (x.n),xw,Jz,Jq,KX,K0,JJ,JT,DH,DL],.int .i64 (0)]) rfl rfl U ?_
 iterate 2 refine RL.ev rfl rfl (bg rfl rfl) ?_
 refine RL.op rfl rfl (aX (cs:=[.int .i64 (0),.slice none 0 0,.slice none 0 0,.slice none 0 0,.slice none 0 0,.slice none 0 0,.slice none 0 0,.slice none 0 0,.slice none 0 0,.slice none 0 0]) dG rfl hN ?_)
 clear hN
 intro Oe lF (hN:ak w none_ lF [_,_,_,_,_,_,_,_,_,_,_,_,_,_,_])
 refine RL.op rfl rfl (aC (vs:=[.int .i64 (x.n),xw,Jz,Jq,KX,K0,JJ,JT,DH,DL]) dJ rfl rfl rfl (by intro u hu;simp only[U9,U2,or_false]at hu;rcases hu with rfl|rfl|rfl|rfl|rfl|rfl|rfl|rfl|rfl|rfl<;>first|rfl|exact(hN.sl 11 rfl).bJ|exact(hN.sl 13 rfl).bJ|exact(hN.sl 2 rfl).bJ|exact(hN.sl 4 rfl).bJ|exact(hN.sl 5 rfl).bJ|exact(hN.sl 7 rfl).bJ|exact(hN.sl 9 rfl).bJ|exact(hN.sm 1 rfl).bJ|exact(hN.sm 3 rfl).bJ) hN 0 rfl rfl ?_)
 clear hN
 intro k9 (hN:ak w none_ k9 [_,_,_,_,_,_,_,_,_,_,_,_,_,_,_])
 refine RL.ev (v:=.int .i64 (0)) rfl rfl aa (RL.nil (ag (RW.seq (RW.region (RL.ev (v:=v) rfl rfl U ?_)))))
 refine RL.op rfl rfl (aM aaP rfl rfl rfl ((lR _ l _ (hv.ext hN.aE) (by omega) hd).mono ?_))
 rintro _ oL ⟨AW,KV,O5,SS,Jp,KW,KZ,JI,JS,DG,DK,PW,Pt,PO,Me,Mg,rfl,Iz,bE⟩
 replace hN:ak w none_ oL [_,_,_,_,_,_,_,_,_,_,_,_,_,_,_,_,_,_,_,_,_,_,_,_,_,_,_,_,_]:=hN.dU bE
 clear bE
 refine RL.ev (v:=.tuple #[.agg #[.int .i64 (x.n),AW,(vh KV),Jp,KW,KZ,JI,JS,DG,DK],.int .i64 (0)]) rfl rfl U ?_
 iterate 2 refine RL.ev rfl rfl (bg rfl rfl) ?_
 refine RL.op rfl rfl (aX (cs:=[.int .i64 (0),.slice none 0 0,.slice none 0 0,.slice none 0 0,.slice none 0 0,.slice none 0 0,.slice none 0 0,.slice none 0 0,.slice none 0 0,.slice none 0 0]) dG rfl hN ?_)
 clear hN
 intro Ud uu (hN:ak w none_ uu [_,_,_,_,_,_,_,_,_,_,_,_,_,_,_,_,_,_,_,_,_,_,_,_,_,_,_,_,_,_])
 refine RL.op rfl rfl (aC (vs:=[.int .i64 (x.n),AW,(vh KV),Jp,KW,KZ,JI,JS,DG,DK]) dJ rfl rfl rfl (by intro u hu;simp only[U9,U2,or_false]at hu;rcases hu with rfl|rfl|rfl|rfl|rfl|rfl|rfl|rfl|rfl|rfl<;>first|rfl|exact(hN.sl 11 rfl).bJ|exact(hN.sl 13 rfl).bJ|exact(hN.sl 4 rfl).bJ|exact(hN.sl 5 rfl).bJ|exact(hN.sl 7 rfl).bJ|exact(hN.sl 9 rfl).bJ|exact(hN.sm 1 rfl).bJ|exact(hN.sm 3 rfl).bJ) hN 0 rfl rfl ?_)
 clear hN
 intro vA (hN:ak w none_ vA [_,_,_,_,_,_,_,_,_,_,_,_,_,_,_,_,_,_,_,_,_,_,_,_,_,_,_,_,_,_])
 refine RL.ev (v:=.int .i64 (0)) rfl rfl aa (RL.nil (ag (RW.seq (RW.region (RL.ev rfl rfl (aG (cs:=[.int .i64 (x.n),xw,Jz,Jq,KX,K0,JJ,JT,DH,DL]) U8 rfl dJ rfl (hN.aA 15 rfl)) (RL.ev rfl rfl (aG (cs:=[.int .i64 (x.n),AW,(vh KV),Jp,KW,KZ,JI,JS,DG,DK]) U8 rfl dJ rfl (hN.aA 0 rfl)) ?_))))))
 refine RL.op rfl rfl (aR aaT rfl rfl rfl rfl ((mT _ (x.n) _ _ _ x.ar x.rk x.ws (hN.sm 16 rfl) (hN.sl 17 rfl) (hN.sm 18 rfl) _ x.g (hN.sl 19 rfl) _ PX x.far (hN.sl 20 rfl) (hN.dx 21 rfl) _ Pu x.outs (hN.sl 22 rfl) (hN.qy 23 rfl) _ PQ x.ins (hN.sl 24 rfl) (hN.qy 25 rfl) _ Mf x.so (hN.sl 26 rfl) (hN.dx 27 rfl) _ Mh x.si (hN.sl 28 rfl) (hN.dx 29 rfl) (x.n) _ _ _ x.ar x.rk x.ws (hN.sm 1 rfl) ((hN.dx 2 rfl).2 _ _ _ Iz.1 Iz.2).1 (hN.sm 3 rfl) _ x.g (hN.sl 4 rfl) _ PW x.far (hN.sl 5 rfl) (hN.dx 6 rfl) _ Pt x.outs (hN.sl 7 rfl) (hN.qy 8 rfl) _ PO x.ins (hN.sl 9 rfl) (hN.qy 10 rfl) _ Me x.so (hN.sl 11 rfl) (hN.dx 12 rfl) _ Mg x.si (hN.sl 13 rfl) (hN.dx 14 rfl)).mono ?_))
 rintro _ zy ⟨rfl,aW⟩
 rw[decide_eq_true (show((x.n:Int)=x.n∧(x.ar:List I3)=x.ar)∧((x.rk:List Int)=x.rk∧(x.ws:List I5)=x.ws)∧(x.g:List Int)=x.g∧(x.far:List (List Int))=x.far∧(x.outs:List (List I2))=x.outs∧(x.ins:List (List I2))=x.ins∧(x.so:List (List Int))=x.so∧(x.si:List (List Int))=x.si from⟨⟨rfl,rfl⟩,⟨rfl,rfl⟩,rfl,rfl,rfl,rfl,rfl,rfl⟩)]
 replace hN:=hN.ext aW
 clear aW
 refine RL.ev (v:=.bool true) rfl rfl U ?_
 iterate 2 refine RL.aI (v:=.int .i64 (0)) rfl rfl (by decide) rfl rfl U ?_
 refine RL.aI rfl rfl (by decide) rfl rfl (cS (cI rfl rfl) rfl) (RL.ev (v:=.bool true) rfl rfl (ao rfl) (RL.ev (v:=.bool true) rfl rfl U (RL.aI (v:=v) rfl rfl (by decide) rfl rfl U ?_)))
 refine RL.on rfl rfl (by decide) rfl rfl (aM aaQ rfl rfl rfl ((oo _ l _ (hv.ext hN.aE) (by omega)).mono ?_))
 rintro _ vz ⟨rfl,aW⟩
 replace hN:=hN.ext aW
 clear aW
 refine RL.aI (v:=v) rfl rfl (by decide) rfl rfl U ?_
 refine RL.on rfl rfl (by decide) rfl rfl (aM aaR rfl rfl rfl ((lh _ l _ (hv.ext hN.aE) (by omega)).mono ?_))
 rintro _ zx ⟨rfl,aW⟩
 replace hN:=hN.ext aW
 clear aW
 refine RL.aI rfl rfl (by decide) rfl rfl (cS (cI rfl rfl) rfl) (RL.ev (v:=.bool true) rfl rfl (ao rfl) (RL.ev (v:=.bool true) rfl rfl U ?_))
 refine RL.on rfl rfl (by decide) rfl rfl (oa ZA rfl rfl ((lY _).mono ?_))
 rintro _ BM ⟨rfl,aW⟩
 replace hN:=hN.ext aW
 clear aW
 refine RL.ev (v:=.bool true) rfl rfl (ao rfl) (RL.ev (v:=.bool true) rfl rfl aa (RL.nil (ag (RW.ret (aL (RV.tmp rfl) ?_)))))
 exact⟨rfl,hN.aE⟩
end Go.Proofs.YtngkdkbpgoddlaaGreat
namespace Go.Proofs.YtngkdkbpgoddlaaGreat.imageDecodes
open Go.ChangeShapes Go.WideShapes Go.ChangeAt Go.RowKit Go.Rl
open Go.ChangeMaps (open_string shut_string)
open Go.Gr
theorem own:ownKnob UY.godebug=none:=by kernel_rfl
theorem laidOut:laidOutB UY=true:=by kernel_rfl
theorem lifted (os:Os) (started:os.Started) (H:Type) (enc:TypeId×Value→H):
    ReturnsInHanded {} aaz os 6 .any (Xs.pre6 enc UY ZJ ZT.domain false) (Xs.post enc UY ZJ false true false false):=by
  refine returnsInHanded_of_change_sized (C := aaz) own started (by kernel_rfl) aa3
    (ChangeSpec.witness6 (enc:=enc) (C:=aaz) false ⟨#[],#[.slice none 0 0],[]⟩ 8 (by kernel_rfl) (by kernel_rfl) (by kernel_rfl) (by kernel_rfl)) ?_
  intro W base args ds gs before Iq hW TQ Mc _
  have ew:(YO UY (ZJ.params.toList++Xs.plain.varTypes UY) (ds++gs)).all (·≤reachBytes)=true:=Mc
  have L9:∀(j:Nat) t v,ZJ.params[j]?=some t→args[j]?=some v→Z8 UY W .any base t v:=Iq
  have T1:=hW
  obtain⟨p,q,Od,hV,rfl,LA,pR⟩:=hW
  have hA:DataW.TrodAll enc UY W 0 (fun _=>true) true ZJ.params.toList args.toList ds p:=Od
  rw[Tryz.params6]at hA L9 ew
  obtain⟨v0,Um,d0,UR,p0,q0,u2,rfl,rfl,h0,r0⟩:=trodAll_cons hA
  obtain⟨rfl,rfl,rfl⟩:=trodAll_nil r0
  obtain rfl:args=#[v0]:=by cases args;simp_all
  obtain⟨rfl,rfl⟩:=trodVars_none hV
  have k0:=h0
  have SR:∀x∈p0,x.block<W.heap.size:=by obtain⟨m,hm⟩:=k0;exact DataW.trod_lt m _ _ _ hm
  obtain⟨l0,s0,b0⟩:=CX ew (j:=0) (t:=38) rfl rfl U1 Vu (by kernel_rfl) (by kernel_rfl) (L9 0 38 v0 rfl rfl) h0
  clear Od Iq Mc ew
  refine ZK (nw _ _ W s0) fun e W' hx=>?_
  obtain⟨r,rfl,rfl,dZ⟩:=hx
  have Ss:=dZ.below
  exact⟨_,rfl,_,_,_,[],_,[],T1,trodAll_mk1 (shut_bool WS _),(trodAll_cons_mk (Below.trod laidOut (by kernel_rfl) (of_decide_eq_true (by kernel_rfl)) k0 Ss SR) trodAll_mk0),rfl,Ss.frame _,fun h=>by cases h⟩
theorem over:ZT.holds Tryz.pinned (OpenSpec.ofChange Xs):=
  OpenClaim.holds_of_wide 6 ZJ rfl rfl rfl rfl rfl rfl rfl ⟨rfl, rfl, rfl, rfl, rfl⟩ rfl rfl rfl rfl rfl (by kernel_rfl) aa3 (by kernel_rfl)
    (of_decide_eq_true (by kernel_rfl)) (by unfold Func.isWrapper;first|(rw[if_pos (by decide+kernel)];kernel_rfl)|(rw[if_neg (by decide+kernel)];exact⟨rfl,rfl⟩))
    (fun os started H enc _=>lifted os started H enc)
end Go.Proofs.YtngkdkbpgoddlaaGreat.imageDecodes
namespace Go.Proofs.YtngkdkbpgoddlaaGreat
theorem imageDecodes_holds:Rows.ImageDecodesSaid:=imageDecodes.over
end Go.Proofs.YtngkdkbpgoddlaaGreat
