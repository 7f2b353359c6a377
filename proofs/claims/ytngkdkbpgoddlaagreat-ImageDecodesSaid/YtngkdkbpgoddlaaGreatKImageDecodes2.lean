/- The law ImageDecodes: texts that its row leans on (2). -/
import Derived.Test.YtngkdkbpgoddlaaGreatKImageDecodes1
set_option linter.unusedVariables false
set_option linter.unusedSimpArgs false
set_option linter.unusedSectionVars false
set_option maxHeartbeats 4000000
set_option maxRecDepth 100000
open BitVec renaming ofInt → Wr, toNat_ushiftRight → WH, eq_of_getLsbD_eq → WY, ofNat → Xe, getLsbD_and → Xk, eq_of_toNat_eq → Xq, getLsbD_ushiftRight → Xz, xor_zero → Ym, ushiftRight_xor_distrib → Yn, getLsbD_xor → YF, getLsbD_setWidth → Zd, shiftRight_add → ZI, toNat_ofInt → aab, getLsbD_not → aad
open Bool renaming false_eq_true → VS, false_and → Wl, true_and → ZU
open Classical renaming propDecidable → VG
open Decidable renaming not_not → Vi
open Function renaming comp → ZX
open Go.IntKind renaming bits → V3, signed → V6, u64 → V8, wrap → Ws, u32 → WI, i64 → Xb, u8 → XU
open Go.Proofs.Tryz renaming underlying3 → UU, underlying25 → UW, prog → UY, underlying38 → U1, underlying24 → U4, underlying22 → Va, underlying100 → Ve, underlying169 → Vk, underlying5 → Vu, underlying57 → VA, underlying9 → VO, underlying209 → VT, underlying206 → VV, underlying142 → Wa, underlying211 → Wi, func70 → Wj, underlying75 → Wq, underlying4 → WS, underlying47 → WX, underlying207 → W5, func145 → Xf, func146 → Xg, func149 → Xh, func40 → Xm, func156 → XK, func178 → XM, func66 → X5, func131 → Yo, func153 → Yp, func203 → Yq, func36 → YA, func57 → YB, underlying123 → YG, func152 → Y1, func105 → Y2, func128 → Y3, func67 → Zp, func45 → Zq, underlying246 → aae, func129 → aaf, func205 → aag, func202 → aah, func173 → aai, func37 → aaH, func148 → abw, func192 → abx, func147 → aby, func190 → abz, func191 → abA, func209 → abB, func151 → abC, func150 → abD, func195 → abE, func194 → abF, func157 → abG, func206 → abH, func177 → abI
open Go.Value renaming int → Vn
open Int renaming toNat_natCast → WN, tdiv_eq_ediv_of_nonneg → WR, natCast_nonneg → W4, fdiv_eq_ediv_of_nonneg → W7, tmod_eq_emod_of_nonneg → Xy, natCast_emod → aaY
open List renaming getElem?_eq_getElem → UT, length_append → UX, mem_of_getElem? → UZ, not_mem_nil → U2, length_singleton → U3, getElem?_eq_some_iff → U5, length_cons → U6, mem_cons → U9, length_nil → Vc, length_map → Vl, replicate → Vm, take_of_length_le → Vo, length_take → Vs, length_drop → Vt, length_replicate → Vw, flatten_cons → Vx, take_length → Vz, map_cons → VC, append_assoc → VF, mem_cons_of_mem → VX, mem_singleton → VY, range → V0, mem_cons_self → V2, append_nil → V4, map_append → V5, mem_map → V9, length_set → Wb, map_nil → We, getElem?_map → Wf, nil_append → Wm, take_succ_eq_append_getElem → Wo, getElem?_take → Wt, map_map → Wz, flatten_append → WC, map_congr_left → WZ, mem_append → W6, drop_eq_getElem_cons → W8, flatten_flatten → Xa, ext_getElem → Xv, flatMap_def → Xw, flatten_nil → Xx, length_pos_iff → XC, mem_take_iff_getElem → XE, headD_cons → XG, getElem_range → XJ, drop_drop → XR, tail_cons → XV, take_add_one → X0, findIdx?_eq_some_iff_getElem → X4, getElem_map → Ye, take_append_drop → Yi, sum_cons → YL, findIdx?_eq_none_iff → YT, getElem?_range → Z3, getElem_mem → aaZ, getElem_set → aa0, take_left → aa9, take_zero → aba, drop_zero → abc, sum_nil → abv
open Nat renaming le_of_ble_eq_true → US, le_trans → Vf, le_refl → Vv, lt_of_le_of_lt → VJ, zero_le → VP, shiftRight_eq_div_pow → WE, mul_le_mul_right → WL, min_eq_left → Yl, div_le_self → Zk, add_mul → aaG
open Option renaming map_some → XD, bind_some → aaV
open Option.some renaming inj → Vq
open UInt8 renaming ofNat → Wp, toNat_ofNat' → YE
namespace Go.cP
open Go.Rl
abbrev TV (v:Value) (e:Int):Value:=.agg #[v,.int .i64 e]
theorem jN (A:Option Addr) (m c:Nat) (e:Int):∀u∈[Value.slice A m c,.int .i64 e],u.oneCell'=true:=by
  intro u hu
  simp only[U9,U2,or_false]at hu
  rcases hu with rfl|rfl<;>rfl
theorem Oy (n:Nat) (h:256*n<18446744073709551616):arith .mul .u64 256 (n:Int)=((256*n:Nat):Int):=by
  show V8.wrap (256*(n:Int))=_
  rw[show(256*(n:Int))=((256*n:Nat):Int) by omega,eu _ h]
theorem QJ (a b:Nat) (h:a+b<18446744073709551616):arith .add .u64 (a:Int) (b:Int)=((a+b:Nat):Int):=by
  show V8.wrap ((a:Int)+(b:Int))=_
  rw[show((a:Int)+(b:Int))=((a+b:Nat):Int) by omega,eu _ h]
theorem Hx (l:List UInt8) (k j:Nat) (hj:0<j) (hk:j≤k) (hl:k≤l.length):le ((l.take k).drop (j-1))=256*le ((l.take k).drop j)+(l[j-1]'(by omega)).toNat:=by
  rw[W8 (show j-1<(l.take k).length by simp;omega),le]
  rw[show j-1+1=j by omega,List.getElem_take]
  omega
theorem z8 (l:List UInt8) (k j:Nat) (hk:k≤8):le ((l.take k).drop j)<18446744073709551616:=qP _ (by simp;omega)
def cQ (s:St) (most:Int) (size:Nat):St×Int:=
  if(eh s 4).1.2≠0 then((eh s 4).1,-1)else if most<0∨most<((eh s 4).2:Int)then(([],3),-1)
  else if(eh s 4).1.1.length/size<(eh s 4).2 then(([],10),-1)else((eh s 4).1,((eh s 4).2:Int))
theorem yc (s:St) (most:Int) (size:Nat) (hz:0<size):
    ((cQ s most size).2= -1∧jE s most size=((cQ s most size).1,[]))∨
    (∃n:Nat,(cQ s most size).2=(n:Int)∧(cQ s most size).1.2=0∧n*size≤(cQ s most size).1.1.length∧n<4294967296∧jE s most size=(((cQ s most size).1.1.drop (n*size),0),(cQ s most size).1.1.take (n*size))):=by
  unfold cQ jE
  have hn:=mE s
  generalize (eh s 4).1=t at*
  generalize (eh s 4).2=n at*
  split
  · exact .inl ⟨rfl,rfl⟩
  · split
    · exact .inl ⟨rfl,rfl⟩
    · rename_i h1 h2
      have h0:t.2=0:=Vi.1 h1
      split
      · rename_i h3
        left
        refine⟨rfl,?_⟩
        have:t.1.length<n*size:=by
          have:=Nat.div_lt_iff_lt_mul hz (x:=t.1.length) (y:=n)
          exact this.1 h3
        rw[lK h0 this]
      · rename_i h3
        right
        have:n*size≤t.1.length:=by
          have:=Nat.le_div_iff_mul_le hz (x:=n) (y:=t.1.length)
          exact this.1 (by omega)
        exact⟨n,rfl,h0,this,hn,iw h0 this⟩
theorem Cm (s:St) (most:Int):∃N:Nat,N<4294967296∧(0<N→(cQ s most 8).2=(N:Int))∧(N=0→(cQ s most 8).2≤0)∧N*8≤(cQ s most 8).1.1.length∧(0<N→(cQ s most 8).1.2=0)∧
    (bO s most).1=((cQ s most 8).1.1.drop (N*8),(cQ s most 8).1.2)∧(bO s most).2=fj N (cQ s most 8).1.1:=by
  unfold bO
  rcases yc s most 8 (by decide)with⟨h1,h2⟩|⟨n,h1,h2,h3,h4,h5⟩
  · rw [h2]
    exact⟨0,by omega,by omega,by omega,by omega,by omega,rfl,by simp[fj]⟩
  · rw [h5]
    refine⟨n,h4,fun _=>h1,by omega,h3,fun _=>h2,by rw[h2],?_⟩
    have hl:((cQ s most 8).1.1.take (n*8)).length/8=n:=by rw[Vs];omega
    simp only[hl]
    exact(Ab n _ 0).symm
theorem Ou (a b:Nat) (h:a≤9223372036854775807):Xb.wrap ((a:Int).tdiv (b:Int))=((a/b:Nat):Int):=by
  have hd:a/b≤a:=Zk a b
  rw[WR (W4 _),show((a:Int))/(b:Int)=((a/b:Nat):Int)from rfl]
  generalize a/b=q at hd ⊢
  exact wrap_i64 (by omega) (by omega)
theorem Cg (l:List UInt8) (e:Int) (i:Nat) (h0:e=0) (h:(i+1)*8≤l.length):eh (l.drop (i*8),e) 8=((l.drop ((i+1)*8),0),le ((l.drop (i*8)).take 8)):=by
  subst h0
  unfold eh
  rw[iw rfl (by simp;omega)]
  simp only[XR]
  rw[show i*8+8=(i+1)*8 by omega]
theorem JQ (l:List UInt8):le (l.take 8)<18446744073709551616:=qP _ (by simp;omega)
theorem BN (n:Nat) (h:n<9223372036854775808):Dz n=(n:Int):=by unfold Dz;rw[if_pos h]
theorem BO (s : St) (most : Int) : ((cQ s most 1).2 < 0 ∧ cp s most = ((cQ s most 1).1, [])) ∨
    (0≤(cQ s most 1).2∧(cQ s most 1).2≤(cQ s most 1).1.1.length∧cp s most=(((cQ s most 1).1.1.drop (cQ s most 1).2.toNat,0),(cQ s most 1).1.1.take (cQ s most 1).2.toNat)):=by
  rcases yc s most 1 (by decide)with⟨h1,h2⟩|⟨n,h1,h2,h3,h4,h5⟩
  · left;exact⟨by omega,h2⟩
  · right
    unfold cp
    rw[h5,h1]
    exact⟨by omega,by omega,by simp⟩
end Go.cP
namespace Go.hO
def B9:BitVec 32:=0xedb88320#32
def step (n:BitVec 32):BitVec 32:=(n>>>1)^^^((-(n &&& 1#32)) &&& B9)
def dO:Nat→BitVec 32→BitVec 32
  |0,n=>n
  |k+1,n=>dO k (step n)
theorem Ea (n:BitVec 32):(-(n &&& 1#32)) &&& B9=if n.getLsbD 0 then B9 else 0#32:=by
  have h:n &&& 1#32=if n.getLsbD 0 then 1#32 else 0#32:=by
    apply WY
    intro i hi
    rw[Xk]
    by_cases hb:n.getLsbD 0
    · simp only [hb, if_true]
      match i with
      |0=>simp[hb]
      |i+1=>simp
    · simp only [hb]
      match i with
      |0=>simpa using hb
      |i+1=>simp
  rw[h]
  split
  · decide
  · decide
theorem step_eq (n:BitVec 32):step n=(n>>>1)^^^(if n.getLsbD 0 then B9 else 0#32):=by unfold step;rw[Ea]
theorem zu (x y p:BitVec 32):(x^^^p)^^^(y^^^p)=x^^^y:=by
  rw[show(x^^^p)^^^(y^^^p)=(x^^^y)^^^(p^^^p)from by ac_rfl,BitVec.xor_self,Ym]
theorem DF (a b:BitVec 32):step (a^^^b)=step a^^^step b:=by
  rw[step_eq,step_eq,step_eq]
  have h:(a^^^b)>>>1=(a>>>1)^^^(b>>>1):=by rw[Yn]
  rw[h,YF]
  cases a.getLsbD 0<;>cases b.getLsbD 0
  · simp
  · simp;ac_rfl
  · simp;ac_rfl
  · simp only[if_true,VS,if_false,bne_self_eq_false,zu,Ym]
theorem BW (k:Nat):∀a b:BitVec 32,dO k (a^^^b)=dO k a^^^dO k b:=by
  induction k with
  |zero=>intro a b;rfl
  |succ k ih=>intro a b;simp only[dO,DF,ih]
theorem BZ (j:Nat):∀(k:Nat) (n:BitVec 32),dO (j+k) n=dO k (dO j n):=by
  induction j with
  |zero=>intro k n;simp[dO]
  |succ j ih=>intro k n;rw[show j+1+k=(j+k)+1 from by omega];simp only[dO,ih]
theorem rp (k:Nat) (n:BitVec 32):dO (k+1) n=step (dO k n):=by
  rw[BZ k 1 n];rfl
theorem BX (k:Nat):∀x:BitVec 32,(∀i,i<k→x.getLsbD i=false)→dO k x=x>>>k:=by
  induction k with
  |zero=>intro x _;simp[dO]
  |succ k ih=>
    intro x h
    have h0:=h 0 (by omega)
    have hs:step x=x>>>1:=by rw[step_eq,h0];simp
    rw[dO,hs,ih]
    · rw[←ZI,Nat.add_comm]
    · intro i hi
      rw[Xz]
      exact h _ (by omega)
theorem CY (x:BitVec 32):dO 8 x=(x>>>8)^^^dO 8 (x &&& 255#32):=by
  have hx:x=(x &&& ~~~255#32)^^^(x &&& 255#32):=by
    apply WY
    intro i hi
    simp only[YF,Xk,aad,hi,decide_true,ZU]
    cases x.getLsbD i<;>cases (255#32).getLsbD i<;>rfl
  have h1:dO 8 (x &&& ~~~255#32)=(x &&& ~~~255#32)>>>8:=BX 8 _ fun i hi=>by
    have:(~~~255#32).getLsbD i=false:=by
      match i,hi with
      |0,_=>rfl
      |1,_=>rfl
      |2,_=>rfl
      |3,_=>rfl
      |4,_=>rfl
      |5,_=>rfl
      |6,_=>rfl
      |7,_=>rfl
    rw[Xk,this,Bool.and_false]
  have h2:(x &&& ~~~255#32)>>>8=x>>>8:=by
    apply WY
    intro i hi
    rw[Xz,Xz,Xk]
    by_cases h:8+i<32
    · have:(~~~255#32).getLsbD (8+i)=true:=by
        have hd:∀j:Fin 24,(~~~255#32).getLsbD (8+j.val)=true:=by decide
        exact hd ⟨i,by omega⟩
      rw[this,Bool.and_true]
    · rw[BitVec.getLsbD_of_ge x (8+i) (by omega),Wl]
  calc dO 8 x = dO 8 ((x &&& ~~~255#32) ^^^ (x &&& 255#32)) := by rw [← hx]
    _=_:=by rw[BW,h1,h2]
def wide (c:UInt8):BitVec 32:=Xe 32 c.toNat
theorem ni (c:UInt8):(wide c).toNat=c.toNat:=by
  have:=c.toNat_lt
  simp[wide]
theorem Dy (c:UInt8):wide c>>>8=0#32:=by
  apply Xq
  have:=c.toNat_lt
  simp[WH,ni,WE]
  omega
theorem QC (n:BitVec 32) (c:UInt8):(n>>>8)^^^dO 8 ((n^^^wide c) &&& 255#32)=dO 8 (n^^^wide c):=by
  rw[CY (n^^^wide c),Yn,Dy]
  simp
def ko (n:BitVec 32) (l:List UInt8):BitVec 32:=l.foldl (fun n c=>dO 8 (n^^^wide c)) n
def more (n:BitVec 32) (l:List UInt8):BitVec 32:= ~~~(ko (~~~n) l)
def sum (l:List UInt8):BitVec 32:=more 0#32 l
theorem we (n:BitVec 32) (a b:List UInt8):ko n (a++b)=ko (ko n a) b:=by simp[ko]
theorem rY (n:BitVec 32) (l:List UInt8) (i:Nat) (h:i<l.length):dO 8 (ko n (l.take i)^^^wide l[i])=ko n (l.take (i+1)):=by
  rw[Wo h,we];rfl
def kZ (n:BitVec 32) (k:Nat):UInt8:=Wp (n>>>k).toNat
def ix (n:BitVec 32):List UInt8:=[kZ n 0,kZ n 8,kZ n 16,kZ n 24]
def fA (l:List UInt8):Bool:=decide (4≤l.length∧ix (sum (l.take (l.length-4)))=l.drop (l.length-4))
theorem A4 (l:List UInt8) (h:4≤l.length):l.take (l.length-4)++ix (sum (l.take (l.length-4)))=l↔ix (sum (l.take (l.length-4)))=l.drop (l.length-4):=by
  constructor
  · intro e
    have:=congrArg (List.drop (l.length-4)) e
    rw[List.drop_append_of_le_length (by simp)]at this
    simpa using this
  · intro e
    rw[e,Yi]
def low (n : BitVec 32) : Nat → BitVec 32
  |0=>0#32
  |i+1=>if n.getLsbD i then low n i^^^(1#32<<<i)else low n i
theorem lL (n:BitVec 32):(ix n).length=4:=rfl
theorem Cd (l:List UInt8):fA (l++ix (sum l))=true∧(l++ix (sum l)).take ((l++ix (sum l)).length-4)=l:=by
  have h:(l++ix (sum l)).length-4=l.length:=by simp[lL]
  unfold fA
  rw[h,aa9,List.drop_left]
  exact⟨decide_eq_true ⟨by simp[lL],rfl⟩,rfl⟩
end Go.hO
namespace Go.hO
open Go.Rl
abbrev u32 (x:BitVec 32):Value:=.int .u32 (x.toNat:Int)
theorem wrap_u32 (x:BitVec 32):WI.wrap (x.toNat:Int)=(x.toNat:Int):=by
  have:=x.isLt
  simp only[Ws,V3,V6,Wl,VS,if_false]
  omega
theorem ofInt_u32 (x:BitVec 32):Wr 32 (x.toNat:Int)=x:=by
  apply Xq
  simp
theorem Ja (a b:BitVec 32):arith .and .u32 (a.toNat:Int) (b.toNat:Int)=((a &&& b).toNat:Int):=by
  simp only[arith]
  rw[show WI.bits=32 from rfl,ofInt_u32,ofInt_u32,wrap_u32]
theorem vg (a b:BitVec 32):arith .xor .u32 (a.toNat:Int) (b.toNat:Int)=((a^^^b).toNat:Int):=by
  simp only[arith]
  rw[show WI.bits=32 from rfl,ofInt_u32,ofInt_u32,wrap_u32]
theorem I9 (a:BitVec 32):arith .xor .u32 (if WI.signed then-1 else WI.max) (a.toNat:Int)=((~~~a).toNat:Int):=by
  have h:(if WI.signed then-1 else WI.max)=(((4294967295#32).toNat:Nat):Int):=by decide
  rw[h,vg]
  congr 2
theorem NI (a:BitVec 32):arith .sub .u32 0 (a.toNat:Int)=((-a).toNat:Int):=by
  have:=a.isLt
  simp only[arith,Ws,V3,V6,Wl,VS,if_false,BitVec.toNat_neg]
  omega
theorem zg (a:BitVec 32) (k:Nat) (hk:k≤32):((a.toNat:Int)).fdiv (2^(min (k:Int).toNat WI.bits))=((a>>>k).toNat:Int):=by
  rw[show min (k:Int).toNat WI.bits=k from by simp[V3];omega]
  rw[WH,WE,W7 _ (by exact_mod_cast VP _)]
  norm_cast
theorem NH (a:BitVec 32):XU.wrap (a.toNat:Int)=((a.toNat%256:Nat):Int):=by
  simp only[Ws,V3,V6,Wl,VS,if_false]
  norm_cast
theorem sw (y:BitVec 8):(y.setWidth 32).toNat=y.toNat:=BitVec.toNat_setWidth_of_le (by decide)
theorem La (a:BitVec 32) (c:UInt8):arith .xor .u8 ((a.toNat%256:Nat):Int) (c.toNat:Int)=(((a^^^wide c) &&& 255#32).toNat:Int):=by
  have hc:=c.toNat_lt
  simp only[arith]
  rw[show XU.bits=8 from rfl]
  have h1:Wr 8 ((a.toNat%256:Nat):Int)=a.setWidth 8:=by
    apply Xq
    simp[aab]
    omega
  have h2:Wr 8 (c.toNat:Int)=(wide c).setWidth 8:=by
    apply Xq
    simp[ni]
  have h3:(a^^^wide c) &&& 255#32=((a^^^wide c).setWidth 8).setWidth 32:=by
    apply WY
    intro i hi
    have:∀j:Fin 32,(255#32).getLsbD j.val=decide (j.val<8):=by decide
    rw[Xk,this ⟨i,hi⟩,Zd,Zd]
    simp[hi,Bool.and_comm]
  rw[h1,h2,h3,←BitVec.setWidth_xor]
  have:=((a^^^wide c).setWidth 8).isLt
  simp only[Ws,V3,V6,Wl,VS,if_false]
  rw[sw]
  omega
theorem F9 (i:Nat):WI.wrap (i:Int)=((Xe 32 i).toNat:Int):=by
  simp only[Ws,V3,V6,Wl,VS,if_false,BitVec.toNat_ofNat]
  norm_cast
theorem Gl (x:BitVec 32):(x &&& 255#32).toNat<256:=by
  rw[BitVec.toNat_and]
  exact VJ Nat.and_le_right (by decide)
theorem NF (n:BitVec 32) (c:UInt8):arith .xor .u32 ((n>>>8).toNat:Int) ((dO 8 ((n^^^wide c) &&& 255#32)).toNat:Int)=((dO 8 (n^^^wide c)).toNat:Int):=by rw[vg,QC]
theorem I8 (a:BitVec 32):XU.wrap (a.toNat:Int)=((Wp a.toNat).toNat:Int):=by rw[NH];simp
theorem AN (a:BitVec 32) (k:Nat):XU.wrap ((a>>>k).toNat:Int)=((kZ a k).toNat:Int):=I8 _
theorem H8 (a:BitVec 32):XU.wrap (a.toNat:Int)=((kZ a 0).toNat:Int):=by
  have:=I8 (a>>>0)
  simpa[kZ]using this
theorem Lb (a:BitVec 32):((a.toNat:Int)).tmod 2=((a.toNat%2:Nat):Int):=by rw[Xy (by omega)];norm_cast
theorem Gc (a:BitVec 32):WI.wrap (((a.toNat:Int)).tdiv 2)=((a>>>1).toNat:Int):=by
  rw[WR (by omega)]
  have:((a.toNat:Int)/(2:Int))=((a>>>1).toNat:Int):=by rw[WH,WE];omega
  exact(congrArg _ this).trans (wrap_u32 _)
theorem qN (a:BitVec 32):((a.toNat%2:Nat):Int)=1↔a.getLsbD 0=true:=by
  rw[BitVec.getLsbD,Nat.testBit_zero]
  simp
  omega
def kp (m i:Nat):List Value:=(V0 m).map fun j=>if j<i then u32 (dO 8 (Xe 32 j))else u32 0#32
theorem wg (m i:Nat):(kp m i).length=m:=by simp[kp]
theorem z4 (m:Nat):kp m 0=Vm m (.int .u32 0):=by
  apply Xv
  · simp[kp]
  · intro j h1 h2
    simp[kp]
theorem Ci (m i:Nat):∀u∈kp m i,u.oneCell'=true:=by
  intro u hu
  obtain⟨j,_,rfl⟩:=V9.1 hu
  split<;>rfl
theorem z5 (m i:Nat):kp m (i+1)=(kp m i).set i (u32 (dO 8 (Xe 32 i))):=by
  apply Xv
  · simp[kp]
  · intro j h1 h2
    rw[aa0]
    simp only[kp,Ye,XJ]
    by_cases nz:i=j
    · subst nz;simp
    · rw [if_neg nz]
      by_cases bW:j<i
      · rw[if_pos bW,if_pos (by omega)]
      · rw[if_neg bW,if_neg (by omega)]
theorem not_xor (a:BitVec 32): ~~~a=a^^^4294967295#32:=by
  apply WY
  intro i hi
  have:∀j:Fin 32,(4294967295#32).getLsbD j.val=true:=by decide
  rw[YF,this ⟨i,hi⟩,aad]
  simp[hi]
theorem LK (a:BitVec 32):arith .xor .u32 (a.toNat:Int) 4294967295=((~~~a).toNat:Int):=by
  rw[not_xor];exact vg a 4294967295#32
theorem BL (c:UInt8):WI.wrap (c.toNat:Int)=((wide c).toNat:Int):=by
  have:=c.toNat_lt
  rw[ni]
  simp only[Ws,V3,V6,Wl,VS,if_false]
  omega
theorem Gb (a:BitVec 32):((a.toNat:Int)).tmod 256=((a.toNat%256:Nat):Int):=(Xy (by omega)).trans (aaY a.toNat 256).symm
theorem NG (a:BitVec 32):XU.wrap ((a.toNat%256:Nat):Int)=((Wp a.toNat).toNat:Int):=by
  have h:=YE (n:=a.toNat)
  rw[h]
  simp only[Ws,V3,V6,Wl,VS,if_false]
  omega
theorem Gd (a:BitVec 32):WI.wrap (((a.toNat:Int)).tdiv 256)=((a>>>8).toNat:Int):=by
  rw[WR (by omega)]
  have:((a.toNat:Int)/(256:Int))=((a>>>8).toNat:Int):=by rw[WH,WE];omega
  exact(congrArg _ this).trans (wrap_u32 _)
theorem BR (n:BitVec 32) (i:Nat) (h:i<4):(ix n).take i++[kZ n (8*i)]=(ix n).take (i+1):=by
  match i,h with
  |0,_=>rfl
  |1,_=>rfl
  |2,_=>rfl
  |3,_=>rfl
theorem Cj (m i:Nat) (h:i<m):(kp m m)[i]?=some (u32 (dO 8 (Xe 32 i))):=by
  unfold kp
  rw[Wf,Z3 h]
  simp[h]
def iK (i:Nat):List Value:=kp 256 i
theorem eE (i:Nat):(iK i).length=256:=wg _ _
theorem xA:iK 0=Vm 256 (.int .u32 0):=z4 _
theorem rn (i:Nat):∀u∈iK i,u.oneCell'=true:=Ci _ _
theorem xB (i:Nat):iK (i+1)=(iK i).set i (u32 (dO 8 (Xe 32 i))):=z5 _ _
theorem G6 (x:BitVec 32) (h:x.toNat<256):(iK 256)[((x.toNat:Int)).toNat]?=some (u32 (dO 8 x)):=by
  unfold iK
  rw[WN,Cj 256 _ h]
  simp
end Go.hO
namespace Go.cP
open Go.Rl Go.hO
def iO (l:List UInt8):List UInt8:=l++ix (hO.sum l)
def cX (ls:List (List UInt8)):List UInt8:=(ls.map fun l=>fL (iO l)).flatten
theorem cC (l:List UInt8):(iO l).length=l.length+4:=by unfold iO;rw[UX,lL]
theorem sc {ls:List (List UInt8)} {i:Nat} {l:List UInt8} (h:ls[i]?=some l):cX (ls.take (i+1))=cX (ls.take i)++fL (iO l):=by
  unfold cX
  rw[X0,h];simp
def eA (ls:List (List UInt8)):Nat:=(ls.map fun l=>l.length+8).sum
theorem gS (ls:List (List UInt8)):(cX ls).length=eA ls:=by
  unfold cX eA
  induction ls with
  |nil=>rfl
  |cons l r ih=>simp only[VC,Vx,UX,YL,ih,cv,cC];omega
theorem rZ {ls:List (List UInt8)} {i:Nat} {l:List UInt8} (h:ls[i]?=some l):eA (ls.take (i+1))=eA (ls.take i)+(l.length+8):=by
  unfold eA
  rw[X0,h];simp
theorem ya (ls:List (List UInt8)) (i:Nat):eA (ls.take i)≤eA ls:=by
  unfold eA
  conv=>rhs;rw[←Yi i ls]
  rw[V5,List.sum_append];omega
theorem uS (ls:List (List UInt8)):8*ls.length≤eA ls:=by
  unfold eA
  induction ls with
  |nil=>simp
  |cons l r ih=>simp only[VC,YL,U6];omega
def fz (most : Int) : Nat → List UInt8 → Option (List (List UInt8))
  |0,b=>if b=[]then some []else none
  |k+1,b=>if b=[]then some []else
    if(cp (b,0) most).1.2≠0∨fA (cp (b,0) most).2=false then none
    else(fz most k (cp (b,0) most).1.1).map ((cp (b,0) most).2.take ((cp (b,0) most).2.length-4)::·)
def parts (b:List UInt8):Option (List (List UInt8)):=fz b.length b.length b
def bz (b:List UInt8):List (List UInt8):=(parts b).getD []
theorem nt (most:Int) (k:Nat):fz most k []=some []:=by cases k<;>rfl
theorem jm {most:Int} {k:Nat} {b:List UInt8} (hb:b≠[]) (h:(cp (b,0) most).1.2≠0∨fA (cp (b,0) most).2=false):fz most (k+1) b=none:=by
  unfold fz;rw[if_neg hb,if_pos h]
theorem oY {most:Int} {k:Nat} {b:List UInt8} (hb:b≠[]) (h1:(cp (b,0) most).1.2=0) (h2:fA (cp (b,0) most).2=true):
    fz most (k+1) b=(fz most k (cp (b,0) most).1.1).map ((cp (b,0) most).2.take ((cp (b,0) most).2.length-4)::·):=by
  conv=>lhs;unfold fz
  rw[if_neg hb,if_neg (by simp[h1,h2])]
theorem ri {s:St} {k:Nat} (h:(ej s k).1.2=0):s.2=0∧k≤s.1.length∧(ej s k).1.1.length+k=s.1.length∧(ej s k).2.length=k:=by
  unfold ej at h ⊢
  by_cases h2:s.2≠0
  · rw[if_pos h2]at h;exact absurd h h2
  · rw [if_neg h2] at h ⊢
    by_cases h3:s.1.length<k
    · rw[if_pos h3]at h;exact absurd h (by decide)
    · rw [if_neg h3]
      refine⟨Vi.1 h2,by omega,by simp;omega,by simp;omega⟩
theorem rf (s:St) (most:Int):(cp s most).2.length≤s.1.length:=by
  unfold cp jE
  split
  · exact VP _
  · split
    · exact VP _
    · exact Vf (fb _ _).2 (Hn s 4)
theorem rh {b:List UInt8} {most:Int} (h:(cp (b,0) most).1.2=0):(cp (b,0) most).1.1.length+(cp (b,0) most).2.length+4=b.length:=by
  unfold cp jE at h ⊢
  by_cases h1:(eh (b,0) 4).1.2≠0
  · rw[if_pos h1]at h;exact absurd h h1
  · rw [if_neg h1] at h ⊢
    split at h
    · exact absurd h (by decide)
    · rename_i h2
      rw[if_neg h2]
      have g1:=ri h
      have g0:=ri (s:=(b,0)) (k:=4) (Vi.1 h1)
      have e:(eh (b,0) 4).1.1.length=(ej (b,0) 4).1.1.length:=rfl
      have:(b,(0:Int)).1.length=b.length:=rfl
      omega
theorem xT (most:Int):∀(ls:List (List UInt8)) (k:Nat),(cX ls).length≤k→(cX ls).length<4294967296→((cX ls).length:Int)≤most→fz most k (cX ls)=some ls:=by
  intro ls
  induction ls with
  |nil=>intro k _ _ _;exact nt most k
  |cons l ls ih=>
    intro k hk Sh hm
    have hj:cX (l::ls)=fL (iO l)++cX ls:=by unfold cX;simp
    have hl:(cX (l::ls)).length=8+l.length+(cX ls).length:=by rw[hj,UX,cv,cC];omega
    have ht:cp (cX (l::ls),0) most=((cX ls,0),iO l):=by rw[hj];exact BP _ _ _ (by rw[cC];omega) (by rw[cC];omega)
    have ho:=Cd l
    obtain⟨k,rfl⟩:∃j,k=j+1:=⟨k-1,by omega⟩
    have di:cX (l::ls)≠[]:=by intro e;rw[e]at hl;simp at hl;omega
    rw[oY di (by rw[ht]) (by rw[ht];exact ho.1),ht]
    simp only
    rw[ih k (by omega) (by omega) (by omega)]
    simp only[XD]
    have:(iO l).take ((iO l).length-4)=l:=ho.2
    rw[this]
theorem ns (ls:List (List UInt8)) (h:(cX ls).length<4294967296):bz (cX ls)=ls:=by
  unfold bz parts
  rw[xT _ ls _ (Vv _) h (Int.le_refl _)]
  rfl
theorem uU:cX [[]]=[4,0,0,0,0,0,0,0]:=by decide+kernel
end Go.cP
namespace Go.Gr
open Go.Rl Go.cP Go.hO
def ij (n:Int) (ar:List I3):List (List UInt8):=[aK [n],aK (ar.map fun a=>a.1),aK (ar.map fun a=>a.2.1),aK (ar.map fun a=>a.2.2)]
def eL (rk:List Int) (ws:List I5):List (List UInt8):=[aK rk,aK (ws.map fun a=>a.1),aK (ws.map fun a=>a.2.1),aK (ws.map fun a=>a.2.2.1),aK (ws.map fun a=>a.2.2.2.1),aK (ws.map fun a=>a.2.2.2.2)]
def ct (ls:List (List Int)):List (List UInt8):=aK [(ls.length:Int)]::ls.map aK
def eH (r:List I2):List (List UInt8):=[aK (r.map fun a=>a.1),aK (r.map fun a=>a.2)]
def cu (ls:List (List I2)):List (List UInt8):=aK [(ls.length:Int)]::ls.flatMap eH
def dI (g:List Int) (far:List (List Int)) (outs ins:List (List I2)) (so si:List (List Int)):List (List UInt8):=aK g::(ct far++(cu outs++(cu ins++(ct so++ct si))))
def iD (n:Int) (ar:List I3):List UInt8:=[80,82,49]++put (if dw n ar=0 then(ig n ar).toNat else 0) 8
def mq (n:Int) (ar:List I3) (rk:List Int) (ws:List I5) (g:List Int) (far:List (List Int)) (outs ins:List (List I2)) (so si:List (List Int)):List (List UInt8):=[iD n ar,(ij n ar).flatten,(eL rk ws).flatten,(dI g far outs ins so si).flatten]
theorem yL {n:Int} {ar:List I3} (h:dw n ar=0):iD n ar=[80,82,49]++put (ig n ar).toNat 8:=by unfold iD;rw[if_pos h]
theorem uZ {n:Int} {ar:List I3} (h:¬dw n ar=0):iD n ar=[80,82,49]++put 0 8:=by unfold iD;rw[if_neg h]
theorem uY (n:Int) (ar:List I3):(iD n ar).length=11:=by unfold iD;rw[UX,bR];rfl
theorem D1 {ls:List (List I2)} {i:Nat} {r:List I2} {todo:List (List UInt8)} (h:ls[i]?=some r):(ls.drop i).flatMap eH++todo=aK (r.map fun a=>a.1)::(aK (r.map fun a=>a.2)::((ls.drop (i+1)).flatMap eH++todo)):=by rw[nG h];rfl
theorem LV {ls:List (List Int)} {i:Nat} {r:List Int} {todo:List (List UInt8)} (h:ls[i]?=some r):(ls.drop i).map aK++todo=aK r::((ls.drop (i+1)).map aK++todo):=by rw[nG h];rfl
structure qI (F : Nat → Prop) (w : World) (gv : Value) (g : List Int) (fv : Value) (hf : List Hd) (far : List (List Int)) (ov : Value) (ho : List Hd) (outs : List (List I2)) (iv : Value) (hi : List Hd) (ins : List (List I2))
    (cD:Value) (gL:List Hd) (so:List (List Int)) (cE:Value) (gF:List Hd) (si:List (List Int)):Prop where
  tg:nR F vI w gv g
  tf:nR F vh w fv hf
  NU:ep F vI w hf far
  to:nR F vh w ov ho
  Ju:dM F bk w ho outs
  ti:nR F vh w iv hi
  tie:dM F bk w hi ins
  NS:nR F vh w cD gL
  G1:ep F vI w gL so
  NT:nR F vh w cE gF
  G2:ep F vI w gF si
theorem qI.step {F : Nat → Prop} {w w' : World} {L : List Atom} {gv : Value} {g : List Int} {fv : Value} {hf : List Hd} {far : List (List Int)} {ov : Value} {ho : List Hd} {outs : List (List I2)} {iv : Value} {hi : List Hd} {ins : List (List I2)}
    {cD:Value} {gL:List Hd} {so:List (List Int)} {cE:Value} {gF:List Hd} {si:List (List Int)} (h:qI F w gv g fv hf far ov ho outs iv hi ins cD gL so cE gF si) (hN:ak w F w' L):qI (aT L) w' gv g fv hf far ov ho outs iv hi ins cD gL so cE gF si:=
  ⟨h.tg.step hN,h.tf.step hN,h.NU.step hN,h.to.step hN,h.Ju.step kQ hN,h.ti.step hN,h.tie.step kQ hN,h.NS.step hN,h.G1.step hN,h.NT.step hN,h.G2.step hN⟩
theorem qI.ext {w w' : World} {gv : Value} {g : List Int} {fv : Value} {hf : List Hd} {far : List (List Int)} {ov : Value} {ho : List Hd} {outs : List (List I2)} {iv : Value} {hi : List Hd} {ins : List (List I2)}
    {cD:Value} {gL:List Hd} {so:List (List Int)} {cE:Value} {gF:List Hd} {si:List (List Int)} (h:qI none_ w gv g fv hf far ov ho outs iv hi ins cD gL so cE gF si) (he:Ext w w'):qI none_ w' gv g fv hf far ov ho outs iv hi ins cD gL so cE gF si:=
  ⟨h.tg.ext he,h.tf.ext he,h.NU.ext he,h.to.ext he,h.Ju.ext he,h.ti.ext he,h.tie.ext he,h.NS.ext he,h.G1.ext he,h.NT.ext he,h.G2.ext he⟩
theorem Il {a b c d:List UInt8} {n:Nat} (h:eA [a,b,c,d]≤n):a.length≤n∧b.length≤n∧c.length≤n∧d.length≤n:=by
  simp[eA]at h;omega
end Go.Gr
namespace Go.Gr
open Go.Rl Go.ChangeShapes Go.WideShapes
def Fit (x:Int):Prop:= -9223372036854775808≤x∧x≤9223372036854775807
def QN (a:I3):Prop:=Fit a.1∧Fit a.2.1∧Fit a.2.2
def QO (a:I2):Prop:=Fit a.1∧Fit a.2
def QM (a:I5):Prop:=Fit a.1∧Fit a.2.1∧Fit a.2.2.1∧Fit a.2.2.2.1∧Fit a.2.2.2.2
variable {w:World}
section
variable {H:Type} {enc:TypeId×Value→H} {P:Program} {W:World} {base:Nat} {held:Bool} {t:TypeId} {d:DataW H} {ps:List MemPlace} {v:Value} {ts:List TypeId} {ds:List (DataW H)} {j:Nat}
end
end Go.Gr
namespace Go.Gr
open Go.Rl Go.cP Go.hO
end Go.Gr
namespace Go.Gr
open Go.Rl
abbrev zn (x y:I5):Prop:=¬(x.1=y.1∧x.2.1=y.2.1)
end Go.Gr
namespace Go.Gr
open Go.Rl
end Go.Gr
namespace Go.Gr
open Go.Rl
def Lg (rk:List Int) (lo:Int) (v:Nat):Prop:=∃q,rk[v]?=some q∧lo≤q
def NQ (rk d:List Int) (lo:Int) (v:Nat):Prop:=(∃x,d[v]?=some x∧0≤x)∧∃q,rk[v]?=some q∧q<lo
noncomputable instance (rk:List Int) (lo:Int) (v:Nat):Decidable (Lg rk lo v):=VG _
noncomputable instance (rk d:List Int) (lo:Int) (v:Nat):Decidable (NQ rk d lo v):=VG _
end Go.Gr
namespace Go.Gr
open Go.Rl Go.cP Go.hO
theorem Bt {β:Type} (f:β→List UInt8) (M:Nat):∀(l:List β),(∀x∈l,(f x).length≤M)→((l.map f).flatten).length≤l.length*M:=by
  intro l
  induction l with
  |nil=>intro _;simp
  |cons a r ih=>
    intro h
    have h1:=h a (V2 ..)
    have h2:=ih fun x hx=>h x (VX _ hx)
    simp only[VC,Vx,UX,U6,aaG];omega
theorem rE {ls:List (List Int)} {M:Nat} (h:∀r∈ls,r.length≤M):(ct ls).flatten.length≤12+ls.length*(4+8*M):=by
  unfold ct
  have:=Bt aK (4+8*M) ls fun r hr=>by rw[aS];have:=h r hr;omega
  simp only[Vx,UX,aS,U6,Vc];omega
theorem uF {ls:List (List I2)} {M:Nat} (h:∀r∈ls,r.length≤M):(cu ls).flatten.length≤12+ls.length*(8+16*M):=by
  unfold cu
  have e:(ls.flatMap eH).flatten=(ls.map fun r=>(eH r).flatten).flatten:=by
    rw[Xw,Xa,Wz];rfl
  have:=Bt (fun r=>(eH r).flatten) (8+16*M) ls fun r hr=>by
    have:=h r hr
    simp only[eH,Vx,Xx,UX,Vc,aS,Vl];omega
  simp only[Vx,UX,aS,U6,Vc,e];omega
theorem od (n:Int) (ar:List I3):(ij n ar).flatten.length=24+24*ar.length:=by
  simp only[ij,Vx,Xx,UX,Vc,aS,Vl,U6];omega
theorem mH (rk:List Int) (ws:List I5):(eL rk ws).flatten.length=24+8*rk.length+40*ws.length:=by
  simp only[eL,Vx,Xx,UX,Vc,aS,Vl];omega
structure C1 (A R K:Nat) (ar:List I3) (rk:List Int) (ws:List I5) (g:List Int) (far:List (List Int)) (outs ins:List (List I2)) (so si:List (List Int)):Prop where
  ar:ar.length≤A
  rk:rk.length≤R
  ws:ws.length≤A
  g:g.length≤K
  far:far.length≤K∧∀r∈far,r.length≤K
  outs:outs.length≤K∧∀r∈outs,r.length≤K
  ins:ins.length≤K∧∀r∈ins,r.length≤K
  so:so.length≤K∧∀r∈so,r.length≤K
  si:si.length≤K∧∀r∈si,r.length≤K
theorem C1.LZ {A R K:Nat} {n:Int} {ar:List I3} {rk:List Int} {ws:List I5} {g:List Int} {far:List (List Int)} {outs ins:List (List I2)} {so si:List (List Int)} (h:C1 A R K ar rk ws g far outs ins so si):
    eA (mq n ar rk ws g far outs ins so si)≤159+24*A+8*R+40*A+8*K+3*(K*(4+8*K))+2*(K*(8+16*K)):=by
  have h1:=rE h.far.2
  have h2:=uF h.outs.2
  have h3:=uF h.ins.2
  have h4:=rE h.so.2
  have h5:=rE h.si.2
  have m1:=WL (4+8*K) h.far.1
  have m2:=WL (8+16*K) h.outs.1
  have m3:=WL (8+16*K) h.ins.1
  have m4:=WL (4+8*K) h.so.1
  have m5:=WL (4+8*K) h.si.1
  have:=h.ar
  have:=h.rk
  have:=h.ws
  have:=h.g
  have e:eA (mq n ar rk ws g far outs ins so si)=32+(iD n ar).length+(ij n ar).flatten.length+(eL rk ws).flatten.length+(dI g far outs ins so si).flatten.length:=by
    simp only[mq,eA,VC,We,YL,abv];omega
  rw[e,uY,od,mH]
  unfold dI
  simp only[Vx,WC,UX,aS]
  omega
end Go.Gr
namespace Go.Gr
open Go.Rl Go.cP Go.hO
def mR (l:List Int):Prop:=l.length<4294967296∧∀x∈l,Fit x
theorem Bv {n:Nat} (h:n<4294967296):mR [(n:Int)]:=⟨VJ (Vv 1) (by omega),fun x hx=>by rw[VY]at hx;subst hx;exact⟨by omega,by omega⟩⟩
def zl (ls:List (List Int)):Prop:=ls.length<4294967296∧∀r∈ls,mR r
def vp (r:List I2):Prop:=r.length<4294967296∧∀x∈r,QO x
def vk (ls:List (List I2)):Prop:=ls.length<4294967296∧∀r∈ls,vp r
theorem vp.one {r:List I2} (h:vp r):mR (r.map fun a=>a.1):=⟨by rw[Vl];exact h.1,fun x hx=>by obtain⟨a,ha,rfl⟩:=V9.1 hx;exact(h.2 a ha).1⟩
theorem vp.two {r:List I2} (h:vp r):mR (r.map fun a=>a.2):=⟨by rw[Vl];exact h.1,fun x hx=>by obtain⟨a,ha,rfl⟩:=V9.1 hx;exact(h.2 a ha).2⟩
def Gq (r:List I3):Prop:=r.length<4294967296∧∀x∈r,QN x
def Gp (r:List I5):Prop:=r.length<4294967296∧∀x∈r,QM x
theorem eJ {α:Type} {r:List α} {f:α→Int} (hl:r.length<4294967296) (h:∀x∈r,Fit (f x)):mR (r.map f):=⟨by rw[Vl];exact hl,fun x hx=>by obtain⟨a,ha,rfl⟩:=V9.1 hx;exact h a ha⟩
structure QL (n:Int) (ar:List I3) (rk:List Int) (ws:List I5) (g:List Int) (far:List (List Int)) (outs ins:List (List I2)) (so si:List (List Int)):Prop where
  n:Fit n
  ar:Gq ar
  rk:mR rk
  ws:Gp ws
  g:mR g
  far:zl far
  outs:vk outs
  ins:vk ins
  so:zl so
  si:zl si
end Go.Gr
namespace Go.Gr
open Go.Rl
def j7 {α:Type} (p:α→Prop) [DecidablePred p] (l:List α):Int:=match l.findIdx? fun x=>decide (p x)with|some i=>(i:Int)|none=> -1
theorem nE {α:Type} {p:α→Prop} [DecidablePred p] {l:List α} {i:Nat} {x:α} (hb:∀y∈l.take i,¬p y) (h:l[i]?=some x) (hp:p x):j7 p l=(i:Int):=by
  have hi:=(U5.1 h)
  obtain⟨hi,he⟩:=hi
  have e:l.findIdx? (fun x=>decide (p x))=some i:=by
    rw[X4]
    refine⟨hi,by rw[he];exact decide_eq_true hp,fun j hj=>?_⟩
    have:l[j]∈l.take i:=by
      rw[XE]
      exact⟨j,by omega,rfl⟩
    simpa using hb _ this
  unfold j7;rw[e]
theorem pg {α:Type} {p:α→Prop} [DecidablePred p] {l:List α} (hb:∀y∈l,¬p y):j7 p l= -1:=by
  have e:l.findIdx? (fun x=>decide (p x))=none:=by
    rw[YT]
    intro x hx;simpa using hb x hx
  unfold j7;rw[e]
theorem ei {α:Type} (p:α→Prop) [DecidablePred p] (l:List α):(j7 p l= -1∧∀y∈l,¬p y)∨∃(i:Nat) (x:α),j7 p l=(i:Int)∧l[i]?=some x∧p x∧∀y∈l.take i,¬p y:=by
  cases h:l.findIdx? fun x=>decide (p x)with
  |none=>
    left
    have hb:∀y∈l,¬p y:=fun y hy=>by
      have:=(YT.1 h) y hy
      simpa using this
    exact⟨pg hb,hb⟩
  |some i=>
    right
    obtain⟨hi,h1,h2⟩:=X4.1 h
    have hb:∀y∈l.take i,¬p y:=fun y hy=>by
      obtain⟨j,hj,rfl⟩:=XE.1 hy
      have:=h2 j (by omega)
      simpa using this
    exact⟨i,l[i],nE hb (UT hi) (of_decide_eq_true h1),UT hi,of_decide_eq_true h1,hb⟩
abbrev fH (u v:Int) (x:I5):Prop:=x.1=u∧x.2.1=v
def zk (rk:List Int) (ws:List I5) (x:I5):Prop:=
  x.2.2.2.2= -1∧(0≤x.2.2.2.1∧x.2.2.2.1<rk.length)∧(∀p q,rk[x.2.2.2.1.toNat]?=some p→rk[x.1.toNat]?=some q→p<q)∧(∀p q,rk[x.2.2.2.1.toNat]?=some p→rk[x.2.1.toNat]?=some q→p<q)∧
    ∃(a b:Nat) (y z:I5),j7 (fH x.1 x.2.2.2.1) ws=(a:Int)∧ws[a]?=some y∧j7 (fH x.2.2.2.1 x.2.1) ws=(b:Int)∧ws[b]?=some z∧Xb.wrap (y.2.2.1+z.2.2.1)=x.2.2.1
def xd (rk:List Int) (ws:List I5) (i:Nat) (x:I5):Prop:=(0≤x.1∧x.1<rk.length)∧(0≤x.2.1∧x.2.1<rk.length)∧x.1≠x.2.1∧0≤x.2.2.1∧x.2.2.1≤1152921504606846976∧j7 (fH x.1 x.2.1) ws=(i:Int)
def Oh (rk:List Int) (ws:List I5) (i:Nat) (x:I5):Prop:=xd rk ws i x∧if x.2.2.2.1= -1 then 0≤x.2.2.2.2∧x.2.2.2.2<67108864 else zk rk ws x
def k8 (rk:List Int) (ws:List I5):Prop:=(∀k:Nat,k<rk.length→(k:Int)∈rk)∧∀(i:Nat) (x:I5),ws[i]?=some x→Oh rk ws i x
noncomputable instance (rk:List Int) (ws:List I5) (x:I5):Decidable (zk rk ws x):=VG _
noncomputable instance (rk:List Int) (ws:List I5) (i:Nat) (x:I5):Decidable (Oh rk ws i x):=VG _
noncomputable instance (rk:List Int) (ws:List I5):Decidable (k8 rk ws):=VG _
noncomputable def dm (rk:List Int) (ws:List I5):Int:=if 16777216<rk.length∨67108864<ws.length then 3 else if k8 rk ws then 0 else 2
def iJ (n:Int) (P:Int→Prop) (l:List Int):Prop:=(∀x∈l,(0≤x∧x<n)∧P x)∧∀(i:Nat) (x y:Int),l[i]?=some x→l[i+1]?=some y→x<y
def pH (g:List Int) (gr x:Int):Prop:=gr<2→(if x∈g then 1 else 0:Int)=gr
def cG (least d:Int):Prop:=least≤d∧d≤1152921504606846976
def iu (n:Int) (g:List Int) (ls:List (List I2)):Prop:=(∀r∈ls,(∀x∈r,cG 0 x.2)∧iJ n (pH g 1) (r.map fun x=>x.1))∧(ls.length:Int)=n
def oJ (n:Int) (g:List Int) (ls:List (List Int)):Prop:=(∀r∈ls,iJ n (pH g 0) r)∧(ls.length:Int)=n
def oK (g:List Int) (far:List (List Int)):Prop:=far.length=g.length∧∀(i:Nat) r,far[i]?=some r→r.length=g.length∧r[i]?=some 0∧∀x∈r,cG (-1) x
def sW (n:Int) (g:List Int) (far:List (List Int)) (outs ins:List (List I2)) (so si:List (List Int)):Prop:=
  0≤n∧iJ n (pH g 2) g∧oK g far∧iu n g outs∧iu n g ins∧oJ n g so∧oJ n g si
noncomputable instance (n:Int) (P:Int→Prop) (l:List Int):Decidable (iJ n P l):=VG _
noncomputable instance (n:Int) (g:List Int) (ls:List (List I2)):Decidable (iu n g ls):=VG _
noncomputable instance (n:Int) (g:List Int) (ls:List (List Int)):Decidable (oJ n g ls):=VG _
noncomputable instance (g:List Int) (far:List (List Int)):Decidable (oK g far):=VG _
noncomputable instance (n:Int) (g:List Int) (far:List (List Int)) (outs ins:List (List I2)) (so si:List (List Int)):Decidable (sW n g far outs ins so si):=VG _
instance (least d:Int):Decidable (cG least d):=inferInstanceAs (Decidable (_∧_))
noncomputable def cW (n:Int) (g:List Int) (far:List (List Int)) (outs ins:List (List I2)) (so si:List (List Int)):Int:=if 16777216<n then 3 else if sW n g far outs ins so si then 0 else 2
def j8 (ar:List I3) (ws:List I5):Prop:=∀x∈ws,x.2.2.2.1= -1→ar[x.2.2.2.2.toNat]?=some (x.1,x.2.1,x.2.2.1)
noncomputable instance (ar:List I3) (ws:List I5):Decidable (j8 ar ws):=VG _
noncomputable def cL (n:Int) (ar:List I3) (rk:List Int) (ws:List I5) (g:List Int) (far:List (List Int)) (outs ins:List (List I2)) (so si:List (List Int)):Int:=
  if dw n ar≠0 then dw n ar else if dm rk ws≠0 then dm rk ws else if cW n g far outs ins so si≠0 then cW n g far outs ins so si else if(rk.length:Int)=n∧j8 ar ws then 0 else 2
theorem iA {n:Int} {P:Int→Prop} {l:List Int} {i:Nat} {x:Int} (h:iJ n P (l.take i)) (hx:l[i]?=some x) (h1:0≤x∧x<n) (h2:P x) (h3:∀y,0<i→l[i-1]?=some y→y<x):iJ n P (l.take (i+1)):=by
  refine⟨fun y hy=>?_,fun j a b ha hb=>?_⟩
  · rw [dH hx, W6, VY] at hy
    rcases hy with hy|rfl
    · exact h.1 y hy
    · exact⟨h1,h2⟩
  · rw [Wt] at ha hb
    split at ha
    · split at hb
      · by_cases hj : j + 1 < i
        · exact h.2 j a b (by rw[Wt,if_pos (by omega)];exact ha) (by rw[Wt,if_pos hj];exact hb)
        · have e : j + 1 = i := by omega
          subst e
          rw[hx]at hb;cases hb
          exact h3 a (by omega) (by simpa using ha)
      · cases hb
    · cases ha
theorem Ho (n:Int) (P:Int→Prop):iJ n P []:=⟨fun x h=>absurd h (U2),fun i x y h=>by cases h⟩
theorem cA {g:List Int} {x:Int}:0≤j7 (fun y=>y=x) g↔x∈g:=by
  rcases ei (fun y=>y=x) g with⟨h1,h2⟩|⟨i,y,h1,h2,h3,_⟩
  · rw[h1];exact⟨fun h=>by omega,fun h=>absurd rfl (h2 x h)⟩
  · rw[h1];exact⟨fun _=>h3▸UZ h2,fun _=>by omega⟩
end Go.Gr
namespace Go.Gr
open Go.Rl Go.cP Go.hO
abbrev RS:=St×Bool
def dn (m:Int) (s:RS):RS×List Int:=(((bO s.1 m).1,s.2),(bO s.1 m).2)
def qf (m:Int) (l:List Int):Option Nat:=match l with
  |[x]=>if x<0∨m<x then none else some x.toNat
  |_=>none
def er (m:Int) (s:RS):RS×Nat:=match qf m (dn m s).2 with
  |some n=>((dn m s).1,n)
  |none=>(((dn m s).1.1,true),0)
def Dt {α:Type} (f:List Int→α) (a:List Int) (rest:List (List Int)):List α:=(V0 a.length).map fun i=>f ((a::rest).map fun r=>(r[i]?).getD 0)
def sS {α:Type} (f:List Int→α) (a:List Int) (rest:List (List Int)) (bad:Bool):List α×Bool:=if a=[]then([],bad)else if ∀r∈rest,r.length=a.length then(Dt f a rest,bad)else([],true)
def iV (m : Int) : Nat → RS → RS × List (List Int)
  |0,s=>(s,[])
  |n+1,s=>((iV m n (dn m s).1).1,(dn m s).2::(iV m n (dn m s).1).2)
def cn {α:Type} (f:List Int→α) (m:Int) (n:Nat) (s:RS):RS×List α:=
  let q:=iV m (n+1) s
  let c:=sS f (q.2.headD []) q.2.tail q.1.2
  ((q.1.1,c.2),c.1)
def nD {β : Type} (one : RS → RS × β) : Nat → RS → RS × List β
  |0,s=>(s,[])
  |n+1,s=>if s.1.2≠0 then(s,[])else((nD one n (one s).1).1,(one s).2::(nD one n (one s).1).2)
def dh {β:Type} (m:Int) (one:RS→RS×β) (s:RS):RS×List β:=nD one (er m s).2 (er m s).1
def lT (l:List Int):I3:=((l[0]?).getD 0,(l[1]?).getD 0,(l[2]?).getD 0)
def jF (l:List Int):I5:=((l[0]?).getD 0,(l[1]?).getD 0,(l[2]?).getD 0,(l[3]?).getD 0,(l[4]?).getD 0)
def iQ (l:List Int):I2:=((l[0]?).getD 0,(l[1]?).getD 0)
def lB (m:Int) (s:RS):RS×(Int×List I3):=match (dn m s).2 with
  |[n]=>((cn lT m 2 (dn m s).1).1,(n,(cn lT m 2 (dn m s).1).2))
  |_=>(((dn m s).1.1,true),(0,[]))
def iS (m:Int) (s:RS):RS×(List Int×List I5):=((cn jF m 4 (dn m s).1).1,((dn m s).2,(cn jF m 4 (dn m s).1).2))
abbrev Ic:=List Int×List (List Int)×List (List I2)×List (List I2)×List (List Int)×List (List Int)
def gw (m:Int) (s:RS):RS×Ic:=
  let g:=dn m s
  let far:=dh m (dn m) g.1
  let outs:=dh m (cn iQ m 1) far.1
  let ins:=dh m (cn iQ m 1) outs.1
  let so:=dh m (dn m) ins.1
  let si:=dh m (dn m) so.1
  (si.1,(g.2,far.2,outs.2,ins.2,so.2,si.2))
def G8 (b:List UInt8):RS:=((b,0),false)
def FO (s:RS):Prop:=s.2=false∧jx s.1=0
instance (s:RS):Decidable (FO s):=inferInstanceAs (Decidable (_∧_))
theorem oT (m:Int):∀(i:Nat) (s:RS),iV m (i+1) s=((dn m (iV m i s).1).1,(iV m i s).2++[(dn m (iV m i s).1).2]):=by
  intro i
  induction i with
  |zero=>intro s;rfl
  |succ i ih=>
    intro s
    show((iV m (i+1) (dn m s).1).1,(dn m s).2::(iV m (i+1) (dn m s).1).2)=_
    rw[ih (dn m s).1]
    rfl
theorem ru (m:Int):∀(i:Nat) (s:RS),(iV m i s).2.length=i:=by
  intro i
  induction i with
  |zero=>intro s;rfl
  |succ i ih=>intro s;simp only[iV,U6,ih]
theorem nJ {α:Type} {f:List Int→α} {m:Int} {n:Nat} {s:St} {bd:Bool} {st:St} {ls:List (List Int)} {a:List Int} (h:iV m (n+1) (s,bd)=((st,bd),ls)) (ha:ls[0]?=some a) (yJ:0<a.length→∀r∈ls,r.length=a.length):
    cn f m n (s,bd)=((st,bd),(V0 a.length).map fun q=>f (ls.map fun r=>(r[q]?).getD 0)):=by
  cases ls with
  |nil=>cases ha
  |cons b rest=>
    cases ha
    unfold cn
    rw[h]
    simp only[XG,XV]
    unfold sS
    by_cases e:a=[]
    · subst e;rfl
    · rw [if_neg e, if_pos (fun r hr => yJ (XC.2 e) r (VX _ hr))]
      rfl
theorem pt {α:Type} {f:List Int→α} {m:Int} {n:Nat} {s:St} {bd:Bool} {st:St} {ls:List (List Int)} {a r:List Int} {p:Nat} (h:iV m (n+1) (s,bd)=((st,bd),ls)) (ha:ls[0]?=some a) (h0:0<a.length) (hr:ls[p]?=some r) (di:¬r.length=a.length):
    cn f m n (s,bd)=((st,true),[]):=by
  cases ls with
  |nil=>cases ha
  |cons b rest=>
    cases ha
    cases p with
    |zero=>cases hr;exact absurd rfl di
    |succ p=>
      unfold cn
      rw[h]
      simp only[XG,XV]
      unfold sS
      rw[if_neg (XC.1 h0),if_neg (fun fU=>di (fU r (UZ (by simpa using hr))))]
theorem FP {β:Type} {one:RS→RS×β} {n:Nat} {s:RS} (h:s.1.2≠0):nD one n s=(s,[]):=by
  cases n with
  |zero=>rfl
  |succ n=>simp only[nD];rw[if_pos h]
theorem Ds {α:Type} (f:List Int→α) (a:List Int) (rest:List (List Int)):(Dt f a rest).length=a.length:=by unfold Dt;simp
theorem xK (s:St) (most:Int) (size:Nat):(jE s most size).1.1.length≤s.1.length:=by
  have h1:=(fb s 4).1
  unfold jE
  split
  · exact h1
  · split
    · exact VP _
    · exact Vf (fb _ _).1 h1
theorem dB (s:St) (most:Int):(bO s most).1.1.length≤s.1.length:=xK s most 8
theorem xM (s:St) (most:Int) (size:Nat):(jE s most size).2.length≤s.1.length:=by
  unfold jE
  split
  · exact VP _
  · split
    · exact VP _
    · exact Vf (fb _ _).2 (fb s 4).1
theorem uW:∀(n:Nat) (l:List UInt8),(fj n l).length=n:=by
  intro n
  induction n with
  |zero=>intro l;rfl
  |succ n ih=>intro l;simp only[fj,U6,ih]
theorem jg (s:St) (most:Int):(bO s most).2.length≤s.1.length:=by
  have h:=xM s most 8
  show(fj _ _).length≤_
  rw[uW]
  omega
theorem kd {l:List Int} (y:List UInt8) {m:Int} (bd:Bool) (hl:mR l) (hm:(l.length:Int)≤m):dn m ((aK l++y,0),bd)=(((y,0),bd),l):=by
  unfold dn
  simp only[uV l y m hl.2 hm hl.1]
theorem Cn (n:Nat) (y:List UInt8) {m:Int} (bd:Bool) (hn:n<4294967296) (h1:1≤m) (hm:(n:Int)≤m):er m ((aK [(n:Int)]++y,0),bd)=(((y,0),bd),n):=by
  unfold er
  rw[kd y bd (Bv hn) (by simpa using h1)]
  unfold qf
  simp only
  rw[if_neg (by omega)]
  simp
theorem DP {m:Int}:∀(ls:List (List Int)) (y:List UInt8) (bd:Bool),(∀r∈ls,mR r∧(r.length:Int)≤m)→iV m ls.length (((ls.map aK).flatten++y,0),bd)=(((y,0),bd),ls):=by
  intro ls
  induction ls with
  |nil=>intro y bd _;rfl
  |cons l r ih=>
    intro y bd h
    obtain⟨h1,h2⟩:=h l (V2 ..)
    simp only[VC,Vx,U6,iV,VF]
    rw[kd _ bd h1 h2]
    simp only[ih y bd fun x hx=>h x (VX _ hx)]
theorem HZ {β:Type} {one:RS→RS×β} {bs:β→List UInt8}:∀(ls:List β) (y:List UInt8) (bd:Bool),(∀x∈ls,∀y,one ((bs x++y,0),bd)=(((y,0),bd),x))→nD one ls.length (((ls.map bs).flatten++y,0),bd)=(((y,0),bd),ls):=by
  intro ls
  induction ls with
  |nil=>intro y bd _;rfl
  |cons l r ih=>
    intro y bd h
    simp only[VC,Vx,U6,nD,VF]
    rw[if_neg (by simp),h l (V2 ..)]
    simp only[ih y bd fun x hx=>h x (VX _ hx)]
theorem uE {β:Type} {one:RS→RS×β} {bs:β→List UInt8} (ls:List β) (y:List UInt8) {m:Int} (bd:Bool) (Sh:ls.length<4294967296) (h1:1≤m) (hm:(ls.length:Int)≤m) (h:∀x∈ls,∀y,one ((bs x++y,0),bd)=(((y,0),bd),x)):
    dh m one ((aK [(ls.length:Int)]++((ls.map bs).flatten++y),0),bd)=(((y,0),bd),ls):=by
  unfold dh
  rw[Cn ls.length _ bd Sh h1 hm]
  exact HZ ls y bd h
theorem uo {α:Type} {f:List Int→α} {l:List α} {c:α→Int} {cs:List (α→Int)} (h:∀x∈l,f ((c::cs).map fun g=>g x)=x):Dt f (l.map c) (cs.map fun g=>l.map g)=l:=by
  unfold Dt
  refine Xv (by simp) fun i hi hj=>?_
  simp only[Ye,XJ]
  have hx:=h l[i] (aaZ hj)
  rw[←hx]
  congr 1
  simp only[VC,Wz]
  congr 1
  · rw[Wf,UT hj];simp[hx]
  · apply WZ
    intro g _
    simp only[ZX]
    rw[Wf,UT hj];simp[hx]
theorem AK {α:Type} {f:List Int→α} {l:List α} {c:α→Int} {cs:List (α→Int)} (bd:Bool) (h:∀x∈l,f ((c::cs).map fun g=>g x)=x):sS f (l.map c) (cs.map fun g=>l.map g) bd=(l,bd):=by
  unfold sS
  by_cases e:l=[]
  · subst e;simp
  · rw[if_neg (by simpa using e),if_pos (by intro r hr;obtain⟨g,_,rfl⟩:=V9.1 hr;simp),uo h]
theorem pq {α:Type} {f:List Int→α} {l:List α} {c:α→Int} {cs:List (α→Int)} (y:List UInt8) {m:Int} (bd:Bool) (h:∀x∈l,f ((c::cs).map fun g=>g x)=x) (hf:∀g∈c::cs,mR (l.map g)) (hm:(l.length:Int)≤m):
    cn f m cs.length (((((c::cs).map fun g=>aK (l.map g)).flatten)++y,0),bd)=(((y,0),bd),l):=by
  have h1:=DP (m:=m) ((c::cs).map fun g=>l.map g) y bd fun r hr=>by
    obtain⟨g,hg,rfl⟩:=V9.1 hr
    exact⟨hf g hg,by rw[Vl];exact hm⟩
  rw[Wz,Vl]at h1
  have e:((c::cs).map ((aK)∘fun g=>l.map g))=(c::cs).map fun g=>aK (l.map g):=rfl
  rw[e,U6]at h1
  unfold cn
  rw[h1]
  simp only[VC,XG,XV,AK bd h]
theorem Bu {x:Int} (h:Fit x):mR [x]:=⟨VJ (Vv 1) (by omega),fun y hy=>by rw[VY]at hy;subst hy;exact h⟩
theorem Ed {n:Int} {ar:List I3} (y:List UInt8) {m:Int} (bd:Bool) (hn:Fit n) (ha:Gq ar) (h1:1≤m) (hm:(ar.length:Int)≤m):lB m (((ij n ar).flatten++y,0),bd)=(((y,0),bd),(n,ar)):=by
  have hc:cn lT m 2 ((([aK (ar.map fun a=>a.1),aK (ar.map fun a=>a.2.1),aK (ar.map fun a=>a.2.2)].flatten++y,0),bd))=(((y,0),bd),ar):=
    pq (f:=lT) (c:=fun a:I3=>a.1) (cs:=[fun a=>a.2.1,fun a=>a.2.2]) y bd (fun x _=>rfl) (fun g hg=>by
      simp only[U9,U2,or_false]at hg
      rcases hg with rfl|rfl|rfl
      · exact eJ ha.1 fun x hx=>(ha.2 x hx).1
      · exact eJ ha.1 fun x hx=>(ha.2 x hx).2.1
      · exact eJ ha.1 fun x hx=>(ha.2 x hx).2.2) hm
  unfold ij
  rw[Vx,VF]
  unfold lB
  rw[kd _ bd (Bu hn) (by simpa using h1)]
  simp only[hc]
theorem Cx {rk:List Int} {ws:List I5} (y:List UInt8) {m:Int} (bd:Bool) (hk:mR rk) (hw:Gp ws) (h1:(rk.length:Int)≤m) (hm:(ws.length:Int)≤m):iS m (((eL rk ws).flatten++y,0),bd)=(((y,0),bd),(rk,ws)):=by
  have hc:cn jF m 4 ((([aK (ws.map fun a=>a.1),aK (ws.map fun a=>a.2.1),aK (ws.map fun a=>a.2.2.1),aK (ws.map fun a=>a.2.2.2.1),aK (ws.map fun a=>a.2.2.2.2)].flatten++y,0),bd))=(((y,0),bd),ws):=
    pq (f:=jF) (c:=fun a:I5=>a.1) (cs:=[fun a=>a.2.1,fun a=>a.2.2.1,fun a=>a.2.2.2.1,fun a=>a.2.2.2.2]) y bd (fun x _=>rfl) (fun g hg=>by
      simp only[U9,U2,or_false]at hg
      rcases hg with rfl|rfl|rfl|rfl|rfl
      · exact eJ hw.1 fun x hx=>(hw.2 x hx).1
      · exact eJ hw.1 fun x hx=>(hw.2 x hx).2.1
      · exact eJ hw.1 fun x hx=>(hw.2 x hx).2.2.1
      · exact eJ hw.1 fun x hx=>(hw.2 x hx).2.2.2.1
      · exact eJ hw.1 fun x hx=>(hw.2 x hx).2.2.2.2) hm
  unfold eL
  rw[Vx,VF]
  unfold iS
  rw[kd _ bd hk h1]
  simp only[hc]
theorem oV {ls:List (List Int)} (y:List UInt8) {m:Int} (bd:Bool) (hl:zl ls) (h1:1≤m) (hm:(ls.length:Int)≤m) (hr:∀r∈ls,(r.length:Int)≤m):dh m (dn m) (((ct ls).flatten++y,0),bd)=(((y,0),bd),ls):=by
  unfold ct
  rw[Vx,VF]
  exact uE (bs:=aK) ls y bd hl.1 h1 hm fun x hx y=>kd y bd (hl.2 x hx) (hr x hx)
theorem B4 {r:List I2} (y:List UInt8) {m:Int} (bd:Bool) (hr:vp r) (hm:(r.length:Int)≤m):cn iQ m 1 (((eH r).flatten++y,0),bd)=(((y,0),bd),r):=
  pq (f:=iQ) (c:=fun a:I2=>a.1) (cs:=[fun a=>a.2]) y bd (fun x _=>rfl) (fun g hg=>by
    simp only[U9,U2,or_false]at hg
    rcases hg with rfl|rfl
    · exact hr.one
    · exact hr.two) hm
theorem rH {ls:List (List I2)} (y:List UInt8) {m:Int} (bd:Bool) (hl:vk ls) (h1:1≤m) (hm:(ls.length:Int)≤m) (hr:∀r∈ls,(r.length:Int)≤m):dh m (cn iQ m 1) (((cu ls).flatten++y,0),bd)=(((y,0),bd),ls):=by
  have e:(ls.flatMap eH).flatten=(ls.map fun r=>(eH r).flatten).flatten:=by
    rw[Xw,Xa,Wz];rfl
  unfold cu
  rw[Vx,VF,e]
  exact uE (bs:=fun r=>(eH r).flatten) ls y bd hl.1 h1 hm fun x hx y=>B4 y bd (hl.2 x hx) (hr x hx)
theorem BU {g : List Int} {far so si : List (List Int)} {o i : List (List I2)} (y : List UInt8) {m : Int} (bd : Bool) (h1 : 1 ≤ m) (hg : mR g) (hf : zl far) (ho : vk o) (hi : vk i) (hs : zl so) (ht : zl si)
    (mg:(g.length:Int)≤m) (mf:(far.length:Int)≤m∧∀r∈far,(r.length:Int)≤m) (mo:(o.length:Int)≤m∧∀r∈o,(r.length:Int)≤m) (mi:(i.length:Int)≤m∧∀r∈i,(r.length:Int)≤m) (ms:(so.length:Int)≤m∧∀r∈so,(r.length:Int)≤m) (mt:(si.length:Int)≤m∧∀r∈si,(r.length:Int)≤m):
    gw m (((dI g far o i so si).flatten++y,0),bd)=(((y,0),bd),(g,far,o,i,so,si)):=by
  unfold dI
  simp only[Vx,WC,VF]
  unfold gw
  simp only[kd _ bd hg mg,oV _ bd hf h1 mf.1 mf.2,rH _ bd ho h1 mo.1 mo.2,rH _ bd hi h1 mi.1 mi.2,oV _ bd hs h1 ms.1 ms.2,oV _ bd ht h1 mt.1 mt.2]
end Go.Gr
namespace Go.Gr
open Go.Rl Go.cP Go.hO
structure oO where
  n:Int
  ar:List I3
  rk:List Int
  ws:List I5
  g:List Int
  far:List (List Int)
  outs:List (List I2)
  ins:List (List I2)
  so:List (List Int)
  si:List (List Int)
def eG (x:oO):List (List UInt8):=mq x.n x.ar x.rk x.ws x.g x.far x.outs x.ins x.so x.si
noncomputable def jq (x:oO):Int:=cL x.n x.ar x.rk x.ws x.g x.far x.outs x.ins x.so x.si
def FX (x:oO):Prop:=QL x.n x.ar x.rk x.ws x.g x.far x.outs x.ins x.so x.si
def n4 (p1 p2 p3:List UInt8):Option oO:=
  let m:=lB (p1.length:Int) (G8 p1)
  let h:=iS (p2.length:Int) (G8 p2)
  let t:=gw (p3.length:Int) (G8 p3)
  if FO m.1∧FO h.1∧FO t.1 then some ⟨m.2.1,m.2.2,h.2.1,h.2.2,t.2.1,t.2.2.1,t.2.2.2.1,t.2.2.2.2.1,t.2.2.2.2.2.1,t.2.2.2.2.2.2⟩else none
noncomputable def kX (b:List UInt8):Option oO:=match bz b with
  |[_,p1,p2,p3]=>(n4 p1 p2 p3).bind fun x=>if jq x=0∧cX (eG x)=b then some x else none
  |_=>none
theorem CP {b:List UInt8} {x:oO} (h:kX b=some x):jq x=0∧cX (eG x)=b:=by
  unfold kX at h
  split at h
  · rw [Option.bind_eq_some_iff] at h
    obtain⟨y,_,hy⟩:=h
    split at hy
    · rename_i hc
      cases hy
      exact hc
    · cases hy
  · cases h
theorem qU {β:Type} (f:β→List UInt8):∀(l:List β) (x:β),x∈l→(f x).length≤((l.map f).flatten).length:=by
  intro l
  induction l with
  |nil=>intro x h;cases h
  |cons a r ih=>
    intro x h
    simp only[VC,Vx,UX]
    rcases U9.1 h with rfl|h
    · omega
    · have:=ih x h;omega
theorem yZ {β:Type} (f:β→List UInt8):∀(l:List β),(∀x∈l,1≤(f x).length)→l.length≤((l.map f).flatten).length:=by
  intro l
  induction l with
  |nil=>intro _;exact Vv _
  |cons a r ih=>
    intro h
    have h1:=h a (V2 ..)
    have h2:=ih fun x hx=>h x (VX _ hx)
    simp only[VC,Vx,UX,U6];omega
theorem rF (ls:List (List Int)):ls.length≤(ct ls).flatten.length∧∀r∈ls,r.length≤(ct ls).flatten.length:=by
  unfold ct
  have h1:=yZ aK ls fun x _=>by rw[aS];omega
  simp only[Vx,UX]
  refine⟨by omega,fun r hr=>?_⟩
  have h2:=qU aK ls r hr
  rw[aS]at h2;omega
theorem uG (ls:List (List I2)):ls.length≤(cu ls).flatten.length∧∀r∈ls,r.length≤(cu ls).flatten.length:=by
  have e:(ls.flatMap eH).flatten=(ls.map fun r=>(eH r).flatten).flatten:=by
    rw[Xw,Xa,Wz];rfl
  unfold cu
  have hl:∀r:List I2,(eH r).flatten.length=8+16*r.length:=fun r=>by simp only[eH,Vx,Xx,UX,Vc,aS,Vl];omega
  have h1:=yZ (fun r=>(eH r).flatten) ls fun x _=>by rw[hl];omega
  simp only[Vx,UX,e]
  refine⟨by omega,fun r hr=>?_⟩
  have h2:=qU (fun r=>(eH r).flatten) ls r hr
  simp only[hl]at h2;omega
theorem sN (bd:Bool) (h:bd=false):FO ((([]:List UInt8),0),bd):=⟨h,show jx ([],0)=0 by decide⟩
theorem B6 {x:oO} (hx:FX x):n4 (ij x.n x.ar).flatten (eL x.rk x.ws).flatten (dI x.g x.far x.outs x.ins x.so x.si).flatten=some x:=by
  have m1:lB ((ij x.n x.ar).flatten.length:Int) (G8 (ij x.n x.ar).flatten)=((([],0),false),(x.n,x.ar)):=by
    have:=Ed (n:=x.n) (ar:=x.ar) [] (m:=((ij x.n x.ar).flatten.length:Int)) false hx.n hx.ar (by rw[od];omega) (by rw[od];omega)
    rwa [V4]at this
  have m2:iS ((eL x.rk x.ws).flatten.length:Int) (G8 (eL x.rk x.ws).flatten)=((([],0),false),(x.rk,x.ws)):=by
    have:=Cx (rk:=x.rk) (ws:=x.ws) [] (m:=((eL x.rk x.ws).flatten.length:Int)) false hx.rk hx.ws (by rw[mH];omega) (by rw[mH];omega)
    rwa [V4]at this
  have hL:(dI x.g x.far x.outs x.ins x.so x.si).flatten.length=4+8*x.g.length+((ct x.far).flatten.length+((cu x.outs).flatten.length+((cu x.ins).flatten.length+((ct x.so).flatten.length+(ct x.si).flatten.length)))):=by
    unfold dI
    simp only[Vx,WC,UX,aS]
  have a1:=rF x.far
  have a2:=uG x.outs
  have a3:=uG x.ins
  have a4:=rF x.so
  have a5:=rF x.si
  have m3:gw ((dI x.g x.far x.outs x.ins x.so x.si).flatten.length:Int) (G8 (dI x.g x.far x.outs x.ins x.so x.si).flatten)=((([],0),false),(x.g,x.far,x.outs,x.ins,x.so,x.si)):=by
    have := BU (g := x.g) (far := x.far) (so := x.so) (si := x.si) (o := x.outs) (i := x.ins) [] (m := ((dI x.g x.far x.outs x.ins x.so x.si).flatten.length : Int)) false (by rw [hL]; omega) hx.g hx.far hx.outs hx.ins hx.so hx.si (by rw [hL]; omega)
      ⟨by rw[hL];omega,fun r hr=>by rw[hL];have:=a1.2 r hr;omega⟩ ⟨by rw[hL];omega,fun r hr=>by rw[hL];have:=a2.2 r hr;omega⟩ ⟨by rw[hL];omega,fun r hr=>by rw[hL];have:=a3.2 r hr;omega⟩ ⟨by rw[hL];omega,fun r hr=>by rw[hL];have:=a4.2 r hr;omega⟩ ⟨by rw[hL];omega,fun r hr=>by rw[hL];have:=a5.2 r hr;omega⟩
    rwa [V4]at this
  unfold n4
  simp only[m1,m2,m3]
  rw[if_pos ⟨sN _ rfl,sN _ rfl,sN _ rfl⟩]
theorem F8 {x:oO} (hx:FX x) (hm:eA (eG x)<4294967296) (hc:jq x=0):kX (cX (eG x))=some x:=by
  have e1:=ns (eG x) (by rw[gS];exact hm)
  unfold kX
  rw[e1]
  show(n4 (ij x.n x.ar).flatten (eL x.rk x.ws).flatten (dI x.g x.far x.outs x.ins x.so x.si).flatten).bind _=_
  rw[B6 hx]
  rw[aaV,if_pos ⟨hc,rfl⟩]
end Go.Gr
namespace Go.Proofs.YtngkdkbpgoddlaaGreat
theorem bu:(UY.info? 3).map (·.size)=some 1:=by kernel_rfl
theorem fT:(UY.info? 3).map (fun i=>(i.zero,i.size,i.bytes))=some (some (.int .i64 0),1,8):=by kernel_rfl
theorem mu:((UY.info? 3).bind (·.zero)).isSome=true:=by kernel_rfl
theorem np:(UY.info? 4).map (·.size)=some 1:=by kernel_rfl
theorem OG:(UY.info? 4).map (fun i=>(i.zero,i.size,i.bytes))=some (some (.bool false),1,1):=by kernel_rfl
theorem lG:(UY.info? 5).map (·.size)=some 1:=by kernel_rfl
theorem j4:(UY.info? 5).map (fun i=>(i.zero,i.size,i.bytes))=some (some (.int .u8 0),1,1):=by kernel_rfl
theorem Ie:((UY.info? 5).bind (·.zero)).isSome=true:=by kernel_rfl
theorem dY:(UY.info? 22).map (·.size)=some 1:=by kernel_rfl
theorem db:(UY.info? 24).map (·.size)=some 2:=by kernel_rfl
theorem b7:(UY.info? 25).map (·.size)=some 1:=by kernel_rfl
theorem yh:(UY.info? 25).map (fun i=>(i.zero,i.size,i.bytes))=some (some (.slice none 0 0),1,24):=by kernel_rfl
theorem BJ:((UY.info? 25).bind (·.zero)).isSome=true:=by kernel_rfl
theorem fJ:(UY.info? 26).map (·.size)=some 1:=by kernel_rfl
theorem dr:(UY.info? 28).map (·.size)=some 2:=by kernel_rfl
theorem gK:(UY.info? 29).map (·.size)=some 1:=by kernel_rfl
theorem kD:(UY.info? 30).map (·.size)=some 1:=by kernel_rfl
theorem ga:(UY.info? 32).map (·.size)=some 6:=by kernel_rfl
theorem dJ:(UY.info? 34).map (·.size)=some 10:=by kernel_rfl
theorem fq:(UY.info? 38).map (·.size)=some 1:=by kernel_rfl
theorem Im:(UY.info? 38).map (fun i=>(i.zero,i.size,i.bytes))=some (some (.slice none 0 0),1,24):=by kernel_rfl
theorem Dq:((UY.info? 38).bind (·.zero)).isSome=true:=by kernel_rfl
theorem td:(UY.info? 47).map (·.size)=some 1:=by kernel_rfl
theorem Jv:(UY.info? 57).map (·.size)=some 1:=by kernel_rfl
theorem BV:(UY.info? 75).map (·.size)=some 1:=by kernel_rfl
theorem G7:(UY.info? 82).map (·.size)=some 1:=by kernel_rfl
theorem dk:(UY.info? 96).map (·.size)=some 3:=by kernel_rfl
theorem dj:(UY.info? 98).map (·.size)=some 5:=by kernel_rfl
theorem cq:(UY.info? 100).map (·.size)=some 3:=by kernel_rfl
theorem uB:(UY.info? 111).map (·.size)=some 3:=by kernel_rfl
theorem jJ:(UY.info? 118).map (·.size)=some 1:=by kernel_rfl
theorem Ad:(UY.info? 118).map (fun i=>(i.zero,i.size,i.bytes))=some (some (.slice none 0 0),1,24):=by kernel_rfl
theorem Dr:((UY.info? 118).bind (·.zero)).isSome=true:=by kernel_rfl
theorem eY:(UY.info? 135).map (·.size)=some 2:=by kernel_rfl
theorem DE:(UY.info? 144).map (·.size)=some 1:=by kernel_rfl
theorem cJ:(UY.info? 169).map (·.size)=some 2:=by kernel_rfl
theorem cz:(UY.info? 175).map (·.size)=some 3:=by kernel_rfl
theorem uA:(UY.info? 206).map (·.size)=some 1:=by kernel_rfl
theorem uz:(UY.info? 207).map (·.size)=some 1:=by kernel_rfl
theorem ld:(UY.info? 209).map (·.size)=some 2:=by kernel_rfl
theorem LM:(UY.info? 228).map (·.size)=some 1:=by kernel_rfl
theorem AX:(UY.info? 257).map (·.size)=some 256:=by kernel_rfl
theorem AQ:(UY.info? 3).map (·.zero)=some (some (.int .i64 (0))):=by kernel_rfl
theorem kB:(UY.info? 24).map (·.zero)=some (some (.agg #[.int .i64 (0),.slice none 0 0])):=by kernel_rfl
theorem Dv:(UY.info? 25).map (·.zero)=some (some (.slice none 0 0)):=by kernel_rfl
theorem ng:(UY.info? 28).map (·.zero)=some (some (.agg #[.slice none 0 0,.slice none 0 0])):=by kernel_rfl
theorem oQ:(UY.info? 32).map (·.zero)=some (some (.agg #[.slice none 0 0,.slice none 0 0,.slice none 0 0,.slice none 0 0,.slice none 0 0,.slice none 0 0])):=by kernel_rfl
theorem dG:(UY.info? 34).map (·.zero)=some (some (.agg #[.int .i64 (0),.slice none 0 0,.slice none 0 0,.slice none 0 0,.slice none 0 0,.slice none 0 0,.slice none 0 0,.slice none 0 0,.slice none 0 0,.slice none 0 0])):=by kernel_rfl
theorem Jj:(UY.info? 38).map (·.zero)=some (some (.slice none 0 0)):=by kernel_rfl
theorem Ji:(UY.info? 57).map (·.zero)=some (some (.int .u64 (0))):=by kernel_rfl
theorem Jh:(UY.info? 87).map (·.zero)=some (some (.agg #[.pointer none,.pointer none,.pointer none])):=by kernel_rfl
theorem Jg:(UY.info? 89).map (·.zero)=some (some (.agg #[.pointer none,.int .i64 (0),.bool false])):=by kernel_rfl
theorem Du:(UY.info? 96).map (·.zero)=some (some (.agg #[.int .i64 (0),.int .i64 (0),.int .i64 (0)])):=by kernel_rfl
theorem Bg:(UY.info? 98).map (fun i=>(i.zero,i.size,i.bytes))=some (some (.agg #[.int .i64 (0),.int .i64 (0),.int .i64 (0),.int .i64 (0),.int .i64 (0)]),5,40):=by kernel_rfl
theorem ft:(UY.info? 98).map (·.zero)=some (some (.agg #[.int .i64 (0),.int .i64 (0),.int .i64 (0),.int .i64 (0),.int .i64 (0)])):=by kernel_rfl
theorem se:(UY.info? 100).map (fun i=>(i.zero,i.size,i.bytes))=some (some (.agg #[.int .i64 (0),.int .i64 (0),.int .i64 (0)]),3,24):=by kernel_rfl
theorem eo:(UY.info? 100).map (·.zero)=some (some (.agg #[.int .i64 (0),.int .i64 (0),.int .i64 (0)])):=by kernel_rfl
theorem qJ:(UY.info? 111).map (·.zero)=some (some (.agg #[.int .i64 (0),.slice none 0 0,.slice none 0 0])):=by kernel_rfl
theorem GZ:(UY.info? 132).map (·.zero)=some (some (.agg #[.slice none 0 0,.slice none 0 0])):=by kernel_rfl
theorem wj:(UY.info? 135).map (fun i=>(i.zero,i.size,i.bytes))=some (some (.agg #[.int .i64 (0),.int .i64 (0)]),2,16):=by kernel_rfl
theorem my:(UY.info? 135).map (·.zero)=some (some (.agg #[.int .i64 (0),.int .i64 (0)])):=by kernel_rfl
theorem GY:(UY.info? 161).map (·.zero)=some (some (.agg #[.int .i64 (0),.int .i64 (0),.int .i64 (0)])):=by kernel_rfl
theorem iq:(UY.info? 169).map (·.zero)=some (some (.agg #[.slice none 0 0,.int .i64 (0)])):=by kernel_rfl
theorem dN:(UY.info? 175).map (·.zero)=some (some (.agg #[.slice none 0 0,.int .i64 (0),.int .i64 (0)])):=by kernel_rfl
theorem mw:(UY.info? 209).map (·.zero)=some (some (.agg #[.slice none 0 0,.slice none 0 0])):=by kernel_rfl
theorem GX:(UY.info? 211).map (·.zero)=some (some (.agg #[.int .i64 (0),.slice none 0 0,.slice none 0 0,.slice none 0 0,.slice none 0 0,.slice none 0 0,.slice none 0 0])):=by kernel_rfl
theorem GW:(UY.info? 228).map (·.zero)=some (some (.nilFunc)):=by kernel_rfl
theorem wi:(UY.info? 246).map (fun i=>(i.zero,i.size,i.bytes))=some (some (.agg #[.int .i64 (0),.int .i64 (0),.int .i64 (0)]),3,24):=by kernel_rfl
theorem AR:(UY.info? 246).map (·.zero)=some (some (.agg #[.int .i64 (0),.int .i64 (0),.int .i64 (0)])):=by kernel_rfl
theorem GV:(UY.info? 269).map (·.zero)=some (some (.agg #[.slice none 0 0,.slice none 0 0,.slice none 0 0,.map none,.slice none 0 0,.slice none 0 0])):=by kernel_rfl
theorem iU:(UY.info? 282).map (·.zero)=some (some (.agg #[.int .i64 (0),.int .i64 (0)])):=by kernel_rfl
end Go.Proofs.YtngkdkbpgoddlaaGreat
namespace Go.Proofs.YtngkdkbpgoddlaaGreat
open Go.RowKit Go.Rl
open Go.Gr
theorem gj (k:Int) (gm:Nat) (n:Int) (mv:Value) (ar:List I3) (a:I3) (w:World) (hb:fV w gm [.int .i64 n,mv] 24) (hm:Sm bf w mv ar) (h0:0≤k) (ha:ar[k.toNat]?=some a):al UY 145 #[.int .i64 k,.pointer (some ⟨gm,0,none⟩)] w fun r w'=>r=.int .i64 a.1∧Ext w w':=by
 refine al.start Xf rfl (US rfl) ?_
 rw[cc]
 have hN:=ak.nil w none_
 have bW:=(U5.1 ha).1
 refine RW.seq (RW.region (RL.ev (v:=.int .i64 (0)) rfl rfl aa (RL.nil (ag (RW.seq (RW.region (RL.ev rfl rfl (ah U4 rfl dY (by decide) rfl) (RL.ev rfl rfl (aj Va rfl rfl (hb.ext hN.aE) rfl) (RL.ev (v:=.int .i64 (k)) rfl rfl U ?_)))))))))
 refine RL.ev rfl rfl (bn Va cq aU (by decide) (hm.o.now hN) rfl rfl (by omega) (by omega)) (RL.ev rfl rfl (cH (m:=(k).toNat) (b:=0) Ve rfl bu (by decide) aU (hm.o.now hN) ha rfl rfl) (RL.ev rfl rfl (c9 (m:=(k).toNat) (j:=0) (a:=a) UU rfl aU (hm.o.now hN) rfl ha rfl) (RL.ev (v:=.int .i64 (a.1)) rfl rfl aa (RL.nil (ag (RW.ret (aL (RV.tmp rfl) ?_)))))))
 exact⟨rfl,hN.aE⟩
theorem jk (k:Int) (gm:Nat) (n:Int) (mv:Value) (ar:List I3) (a:I3) (w:World) (hb:fV w gm [.int .i64 n,mv] 24) (hm:Sm bf w mv ar) (h0:0≤k) (ha:ar[k.toNat]?=some a):al UY 146 #[.int .i64 k,.pointer (some ⟨gm,0,none⟩)] w fun r w'=>r=.int .i64 a.2.1∧Ext w w':=by
 refine al.start Xg rfl (US rfl) ?_
 rw[cc]
 have hN:=ak.nil w none_
 have bW:=(U5.1 ha).1
 refine RW.seq (RW.region (RL.ev (v:=.int .i64 (0)) rfl rfl aa (RL.nil (ag (RW.seq (RW.region (RL.ev rfl rfl (ah U4 rfl dY (by decide) rfl) (RL.ev rfl rfl (aj Va rfl rfl (hb.ext hN.aE) rfl) (RL.ev (v:=.int .i64 (k)) rfl rfl U ?_)))))))))
 refine RL.ev rfl rfl (bn Va cq aU (by decide) (hm.o.now hN) rfl rfl (by omega) (by omega)) (RL.ev rfl rfl (cH (m:=(k).toNat) (b:=0) Ve rfl bu (by decide) aU (hm.o.now hN) ha rfl rfl) (RL.ev rfl rfl (c9 (m:=(k).toNat) (j:=1) (a:=a) UU rfl aU (hm.o.now hN) rfl ha rfl) (RL.ev (v:=.int .i64 (a.2.1)) rfl rfl aa (RL.nil (ag (RW.ret (aL (RV.tmp rfl) ?_)))))))
 exact⟨rfl,hN.aE⟩
theorem lM (n:Nat) (lv:Value) (l:List Int) (gm:Nat) (mv:Value) (ar:List I3) (w:World) (hl:Sl vI w lv l) (hb:fV w gm [.int .i64 (n:Int),mv] 24) (hm:Sm bf w mv ar) (eP:∀a∈ar,Gx n a) (hv:∀k∈l,0≤k∧k<(ar.length:Int)) (hn:n≤16777216) (wu:l.length≤67108864):al UY 149 #[.int .i64 (n:Int),lv,.func (.func 145) #[] #[.pointer (some ⟨gm,0,none⟩)]] w fun r w'=>∃os,dy vI 3 w' w.heap.size r os∧Laid l (c7 ar (·.1) l) os l.length∧Ext w w':=by
 refine al.start Xh rfl (US rfl) ?_
 rw[jB]
 have hN:=ak.nil w none_
 have ql:=eF ar (·.1) l
 have Aq:∀x∈(c7 ar (·.1) l),0≤x:=mG hv (fun a ha=>by obtain⟨h0,_,h2,_⟩:=eP a ha;first|exact h0|exact h2)
 refine RW.seq (RW.region (RL.ev (v:=.slice none 0 0) rfl rfl aa (RL.nil (ag (RW.seq (RW.region (RL.ev (v:=.int .i64 ((n:Int))) rfl rfl U (RL.ev rfl rfl (an rfl rfl rfl ((bc (by omega) (by omega)).trans (by omega:(n:Int)+1=((n+1:Nat):Int)))) ?_))))))))
 refine RL.op rfl rfl (iy (enc:=vI) (z:=0) UW fT rfl hN rfl (by omega) (by omega) (by omega) ?_)
 clear hN
 intro v1 w1 (hN:ak w none_ w1 [_])
 refine RL.ev (v:=v1) rfl rfl aa (RL.nil (ag ?_))
 iterate 2 refine RW.seq ?_
 refine RW.region (RL.ev (v:=lv) rfl rfl U ?_)
 have jb:=(hl.o.now hN).aY
 refine RL.ev rfl rfl (aQ UW (hl.o.now hN) rfl) (RL.ev (v:=.int .i64 (0)) rfl rfl U (RL.nil (ag (RW.block ?_))))
 refine RW.loop (fun k R0 bT=>∃cs:List Int,∃i:Nat,R0 0=.int .i64 ((n:Int))∧R0 1=lv∧R0 2=.func (.func 145) #[] #[.pointer (some ⟨gm,0,none⟩)]∧R0 7=v1∧R0 17=lv∧R0 18=.int .i64 ((l.length:Int))∧R0 19=.int .i64 ((i:Int))∧ak w none_ bT [.own vI 3 (v1) (cs)]∧(i+k=l.length)∧(Cs n cs (f0 (c7 ar (·.1) l) i))) (l.length) ?_ ?_
 exact⟨Vm (n+1) 0,0,rfl,rfl,rfl,rfl,rfl,rfl,rfl,hN,by omega,oy⟩
 clear hN
 rintro k R0 bT ⟨cs,i,bN,bw,bF,cd,ee,ed,eC,hN,eR,pW⟩
 have bY:∃b6,R0=(aZ (aZ (aZ (aZ (aZ (aZ (aZ b6 0 _) 1 _) 2 _) 7 _) 17 _) 18 _) 19 _):=⟨R0,by rw[ai bN,ai bw,ai bF,ai cd,ai ee,ai ed,ai eC]⟩
 obtain⟨b6,rfl⟩:=bY
 clear bN bw bF cd ee ed eC
 refine RW.seq (RW.region (RL.ev rfl rfl (aV rfl rfl) (RL.nil (ag (RW.seq ?_)))))
 refine RW.aN _ rfl (fun bW=>?_) (fun bW=>?_)
 refine RW.skip (ag (RW.seq (RW.block (RW.seq (RW.region (RL.ev rfl rfl (aB UW bu (hl.o.now hN) rfl rfl (by omega) (by omega)) ?_))))))
 have aw:∃a_,(l)[i]?=some a_:=⟨_,UT (by omega)⟩
 obtain⟨ap,bG⟩:=aw
 refine RL.ev rfl rfl (aF (m:=i) (a:=ap) UU rfl (hl.o.now hN) rfl bG) (RL.ev (v:=.int .i64 (ap)) rfl rfl aa (RL.nil (ag ?_)))
 have Di:=pW.len
 refine RW.region (RL.ev (v:=v1) rfl rfl U (RL.ev (v:=.func (.func 145) #[] #[.pointer (some ⟨gm,0,none⟩)]) rfl rfl U (RL.ev (v:=.int .i64 (ap)) rfl rfl U ?_)))
 have Kn:0≤ap∧ap<(ar.length:Int):=hv ap (UZ bG)
 have aw:∃a_,ar[(ap).toNat]?=some a_:=⟨_,UT (by omega)⟩
 obtain⟨b4,u1⟩:=aw
 have aw:=eP b4 (UZ u1)
 obtain⟨Pf,Pe,Pd,Pc,Pb,Pa⟩:=aw
 refine RL.op rfl rfl (bB (first:=#[]) (captured:=#[.pointer (some ⟨gm,0,none⟩)]) (v0:=.int .i64 (ap)) (args:=#[.int .i64 (ap),.pointer (some ⟨gm,0,none⟩)]) Xf rfl rfl (by simp) rfl rfl ((gj (ap) gm ((n:Int)) _ ar b4 _ (hb.ext hN.aE) (hm.o.now hN) Kn.1 u1).mono ?_))
 rintro _ w3 ⟨rfl,aW⟩
 replace hN:=hN.ext aW
 clear aW
 refine RL.ev rfl rfl (an rfl rfl rfl (bc (by omega) (by omega))) (RL.ev rfl rfl (aB UW bu (hN.sl 0 rfl) rfl rfl (by omega) (by omega)) ?_)
 have aw:∃a_,(cs)[(b4.1+1).toNat]?=some a_:=⟨_,UT (by omega)⟩
 obtain⟨ac,jC⟩:=aw
 refine RL.ev rfl rfl (aF (m:=(b4.1+1).toNat) (a:=ac) UU rfl (hN.sl 0 rfl) rfl jC) ?_
 have fF:=qW pW (gE bG u1) (by omega) (by omega) jC
 obtain⟨qR,qQ,fF⟩:=fF
 refine RL.ev rfl rfl (an rfl rfl rfl (bc (by omega) (by omega))) (RL.ev rfl rfl (aB UW bu (hN.sl 0 rfl) rfl rfl (by omega) (by omega)) ?_)
 refine RL.op rfl rfl (ck (m:=(b4.1+1).toNat) (a:=(ac+1)) bu hN 0 rfl rfl (by omega) rfl rfl rfl rfl ?_)
 clear hN
 intro w5 (hN:ak w none_ w5 [_])
 refine RL.nil (a7 (ag (RW.region (RL.ev rfl rfl (an rfl rfl rfl (bc (by omega) (by omega))) (RL.ev (v:=.int .i64 ((i:Int)+1)) rfl rfl U (RL.nil (ag ?_)))))))
 exact⟨k-1,by omega,(cs).set (b4.1+1).toNat ((ac+1)),i+1,rfl,rfl,rfl,rfl,rfl,rfl,rfl,hN,by omega,fF⟩
 refine RW.exit ?_
 iterate 2 refine bm ?_
 refine aO (ag ?_)
 iterate 2 refine RW.seq ?_
 refine RW.region (RL.ev (v:=.int .i64 ((n:Int))) rfl rfl U (RL.ev (v:=.int .i64 (0)) rfl rfl U (RL.nil (ag (RW.block ?_)))))
 refine RW.loop (fun k1 R1 fI=>∃lD:List Int,∃v:Nat,R1 1=lv∧R1 2=.func (.func 145) #[] #[.pointer (some ⟨gm,0,none⟩)]∧R1 7=v1∧R1 33=.int .i64 ((n:Int))∧R1 34=.int .i64 ((v:Int))∧ak w none_ fI [.own vI 3 (v1) (lD)]∧(v+k1=n)∧(Cs n lD (f1 (c7 ar (·.1) l) v))) (n) ?_ ?_
 exact⟨cs,0,rfl,rfl,rfl,rfl,rfl,hN,by omega,ox (by rw[ql,←(show i=l.length by omega)];exact pW) Aq⟩
 clear hN
 rintro k1 R1 fI ⟨lD,v,bw,bF,cd,mc,mb,hN,OQ,mm⟩
 have bY:∃gY,R1=(aZ (aZ (aZ (aZ (aZ gY 1 _) 2 _) 7 _) 33 _) 34 _):=⟨R1,by rw[ai bw,ai bF,ai cd,ai mc,ai mb]⟩
 obtain⟨gY,rfl⟩:=bY
 clear bw bF cd mc mb
 refine RW.seq (RW.region (RL.ev rfl rfl (aV rfl rfl) (RL.nil (ag (RW.seq ?_)))))
 refine RW.aN _ rfl (fun Ao=>?_) (fun Ao=>?_)
 refine RW.skip (ag (RW.seq (RW.block (RW.seq (RW.region (RL.ev (v:=.int .i64 ((v:Int))) rfl rfl U (RL.ev (v:=.int .i64 ((v:Int))) rfl rfl aa (RL.nil (ag ?_)))))))))
 have Di:=mm.len
 have aw:∃a_,lD[v+1]?=some a_:=⟨_,UT (by omega)⟩
 obtain⟨ax,Br⟩:=aw
 have aw:∃a_,lD[v]?=some a_:=⟨_,UT (by omega)⟩
 obtain⟨ay,lI⟩:=aw
 have fF:=qV mm (by omega) Br lI
 obtain⟨qR,qQ,OK,OJ,fF⟩:=fF
 replace hN:=hN.ext (Ext.drew fI)
 refine RW.cb rfl (fun u=>ak w none_ u [.own vI 3 (v1) (lD)]) 11 [(0,0),(1,0),(2,0),(3,0),(4,0),(5,0),(6,0),(7,0),(8,0),(9,0),(10,0),(11,2)] (by intro _ _ _ h;exact h) (by kernel_rfl) hN (RQ.ev (v:=v1) rfl rfl (fun w hS=>U) (RQ.ev (v:=.int .i64 ((v:Int))) rfl rfl (fun w hS=>U) (RQ.ev rfl rfl (fun w hS=>(an rfl rfl rfl ((bc (by omega) (by omega)).trans (by omega:(v:Int)+1=((v+1:Nat):Int))))) (RQ.ev rfl rfl (fun w hS=>(aB UW bu (hS.sl 0 rfl) rfl rfl (by omega) (by omega))) (RQ.ev rfl rfl (fun w hS=>(aF (m:=(v+1)) (a:=ax) UU rfl (hS.sl 0 rfl) rfl Br)) (RQ.ev (v:=v1) rfl rfl (fun w hS=>U) (RQ.ev (v:=.int .i64 ((v:Int))) rfl rfl (fun w hS=>U) (RQ.ev rfl rfl (fun w hS=>(aB UW bu (hS.sl 0 rfl) rfl rfl (by omega) (by omega))) (RQ.ev rfl rfl (fun w hS=>(aF (m:=v) (a:=ay) UU rfl (hS.sl 0 rfl) rfl lI)) ?_)))))))))
 refine RQ.ev rfl rfl (fun w hS=>(an rfl rfl rfl (bc (by omega) (by omega)))) (RQ.ev rfl rfl (fun w hS=>(aB UW bu (hS.sl 0 rfl) rfl rfl (by omega) (by omega))) ?_)
 refine RQ.last rfl rfl (ck (m:=(v+1)) (a:=(ax+ay)) bu hN 0 rfl rfl (by omega) rfl rfl rfl rfl ?_)
 clear hN
 intro w8 (hN:ak w none_ w8 [_])
 refine RZ.done (by kernel_rfl) (a7 (ag (RW.region (RL.ev rfl rfl (an rfl rfl rfl (bc (by omega) (by omega))) (RL.ev (v:=.int .i64 ((v:Int)+1)) rfl rfl U (RL.nil (ag ?_)))))))
 exact⟨k1-1,by omega,(lD).set (v+1) ((ax+ay)),v+1,rfl,rfl,rfl,rfl,rfl,hN,by omega,fF⟩
 refine RW.exit ?_
 iterate 2 refine bm ?_
 refine aO (ag (RW.seq (RW.region (RL.ev (v:=lv) rfl rfl U (RL.ev rfl rfl (aQ UW (hl.o.now hN) rfl) ?_)))))
 refine RL.op rfl rfl (iy (enc:=vI) (z:=0) UW fT rfl hN rfl (by omega) (by omega) (by omega) ?_)
 clear hN
 intro v9 w9 (hN:ak w none_ w9 [_,_])
 refine RL.ev (v:=v9) rfl rfl aa (RL.nil (ag ?_))
 iterate 2 refine RW.seq ?_
 refine RW.region (RL.ev (v:=lv) rfl rfl U (RL.ev rfl rfl (aQ UW (hl.o.now hN) rfl) (RL.ev (v:=.int .i64 (0)) rfl rfl U (RL.nil (ag (RW.block ?_))))))
 refine RW.loop (fun k2 R2 AV=>∃CQ:List Int,∃os:List Int,∃j:Nat,R2 2=.func (.func 145) #[] #[.pointer (some ⟨gm,0,none⟩)]∧R2 7=v1∧R2 11=v9∧R2 52=lv∧R2 53=.int .i64 ((l.length:Int))∧R2 54=.int .i64 ((j:Int))∧ak w none_ AV [.own vI 3 (v9) (os),.own vI 3 (v1) (CQ)]∧(j+k2=l.length)∧(Cs n CQ (f2 (c7 ar (·.1) l) j))∧(Laid l (c7 ar (·.1) l) os j)) (l.length) ?_ ?_
 have Fy:Cs n lD (f1 (c7 ar (·.1) l) n):=by
   have e_:v=n:=by omega
   rw[e_]at mm;exact mm
 exact⟨lD,Vm l.length 0,0,rfl,rfl,rfl,rfl,rfl,rfl,hN,by omega,y1 Fy,Laid.start⟩
 clear hN
 rintro k2 R2 AV ⟨CQ,os,j,bF,cd,iC,yp,yo,yn,hN,wy,Fz,Ap⟩
 have bY:∃BI,R2=(aZ (aZ (aZ (aZ (aZ (aZ BI 2 _) 7 _) 11 _) 52 _) 53 _) 54 _):=⟨R2,by rw[ai bF,ai cd,ai iC,ai yp,ai yo,ai yn]⟩
 obtain⟨BI,rfl⟩:=bY
 clear bF cd iC yp yo yn
 refine RW.seq (RW.region (RL.ev rfl rfl (aV rfl rfl) (RL.nil (ag (RW.seq ?_)))))
 refine RW.aN _ rfl (fun eI=>?_) (fun eI=>?_)
 refine RW.skip (ag (RW.seq (RW.block (RW.seq (RW.region (RL.ev rfl rfl (aB UW bu (hl.o.now hN) rfl rfl (by omega) (by omega)) ?_))))))
 have aw:∃a_,(l)[j]?=some a_:=⟨_,UT (by omega)⟩
 obtain⟨aq,iT⟩:=aw
 refine RL.ev rfl rfl (aF (m:=j) (a:=aq) UU rfl (hl.o.now hN) rfl iT) (RL.ev (v:=.int .i64 (aq)) rfl rfl aa (RL.nil (ag (RW.seq ?_))))
 have Di:=Fz.len
 refine RW.region (RL.ev (v:=v9) rfl rfl U (RL.ev (v:=v1) rfl rfl U (RL.ev (v:=.func (.func 145) #[] #[.pointer (some ⟨gm,0,none⟩)]) rfl rfl U (RL.ev (v:=.int .i64 (aq)) rfl rfl U ?_))))
 have ET:0≤aq∧aq<(ar.length:Int):=hv aq (UZ iT)
 have aw:∃a_,ar[(aq).toNat]?=some a_:=⟨_,UT (by omega)⟩
 obtain⟨xm,sG⟩:=aw
 have aw:=eP xm (UZ sG)
 obtain⟨MA,Mz,My,Mx,Mw,Mv⟩:=aw
 refine RL.op rfl rfl (bB (first:=#[]) (captured:=#[.pointer (some ⟨gm,0,none⟩)]) (v0:=.int .i64 (aq)) (args:=#[.int .i64 (aq),.pointer (some ⟨gm,0,none⟩)]) Xf rfl rfl (by simp) rfl rfl ((gj (aq) gm ((n:Int)) _ ar xm _ (hb.ext hN.aE) (hm.o.now hN) ET.1 sG).mono ?_))
 rintro _ jH ⟨rfl,aW⟩
 replace hN:=hN.ext aW
 clear aW
 refine RL.ev rfl rfl (aB UW bu (hN.sl 1 rfl) rfl rfl (by omega) (by omega)) ?_
 have aw:∃a_,(CQ)[(xm.1).toNat]?=some a_:=⟨_,UT (by omega)⟩
 obtain⟨ad,Dk⟩:=aw
 refine RL.ev rfl rfl (aF (m:=(xm.1).toNat) (a:=ad) UU rfl (hN.sl 1 rfl) rfl Dk) ?_
 have fF:=Bx Fz (gE iT sG) (by omega) (by omega) Dk
 obtain⟨qR,qQ,Lt,fF⟩:=fF
 have wx:=Ap.step ql iT (gE iT sG) Lt
 have Pq:=Ap.len
 refine RL.ev (v:=.int .i64 (aq)) rfl rfl U (RL.ev rfl rfl (aB UW bu (hN.sl 0 rfl) rfl rfl (by omega) (by omega)) ?_)
 refine RL.op rfl rfl (ck (m:=(ad).toNat) (a:=aq) bu hN 0 rfl rfl (by omega) rfl rfl rfl rfl ?_)
 clear hN
 intro iP (hN:ak w none_ iP [_,_])
 refine RL.nil (ag (RW.region (RL.ev (v:=v1) rfl rfl U (RL.ev (v:=.func (.func 145) #[] #[.pointer (some ⟨gm,0,none⟩)]) rfl rfl U (RL.ev (v:=.int .i64 (aq)) rfl rfl U ?_)))))
 have ES:0≤aq∧aq<(ar.length:Int):=hv aq (UZ iT)
 have aw:∃a_,ar[(aq).toNat]?=some a_:=⟨_,UT (by omega)⟩
 obtain⟨AO,AD⟩:=aw
 have aw:=eP AO (UZ AD)
 obtain⟨Mu,Mt,Ms,Mr,Mq,Mp⟩:=aw
 refine RL.op rfl rfl (bB (first:=#[]) (captured:=#[.pointer (some ⟨gm,0,none⟩)]) (v0:=.int .i64 (aq)) (args:=#[.int .i64 (aq),.pointer (some ⟨gm,0,none⟩)]) Xf rfl rfl (by simp) rfl rfl ((gj (aq) gm ((n:Int)) _ ar AO _ (hb.ext hN.aE) (hm.o.now hN) ES.1 AD).mono ?_))
 rintro _ kC ⟨rfl,aW⟩
 replace hN:=hN.ext aW
 clear aW
 have sE:AO=xm:=Vq (AD.symm.trans sG)
 subst sE
 refine RL.ev rfl rfl (aB UW bu (hN.sl 1 rfl) rfl rfl (by omega) (by omega)) ?_
 have aw:∃a_,(CQ)[(AO.1).toNat]?=some a_:=⟨_,UT (by omega)⟩
 obtain⟨ae,Nq⟩:=aw
 refine RL.ev rfl rfl (aF (m:=(AO.1).toNat) (a:=ae) UU rfl (hN.sl 1 rfl) rfl Nq) ?_
 have KF:ae=ad:=Vq (Nq.symm.trans Dk)
 rw[←KF]at fF
 refine RL.ev rfl rfl (an rfl rfl rfl (bc (by omega) (by omega))) (RL.ev rfl rfl (aB UW bu (hN.sl 1 rfl) rfl rfl (by omega) (by omega)) ?_)
 refine RL.op rfl rfl (ck (m:=(AO.1).toNat) (a:=(ae+1)) bu hN 1 rfl rfl (by omega) rfl rfl rfl rfl ?_)
 clear hN
 intro k9 (hN:ak w none_ k9 [_,_])
 refine RL.nil (a7 (ag (RW.region (RL.ev rfl rfl (an rfl rfl rfl (bc (by omega) (by omega))) (RL.ev (v:=.int .i64 ((j:Int)+1)) rfl rfl U (RL.nil (ag ?_)))))))
 exact⟨k2-1,by omega,(CQ).set (AO.1).toNat ((ae+1)),(os).set (ad).toNat (aq),j+1,rfl,rfl,rfl,rfl,rfl,rfl,hN,by omega,fF,wx⟩
 refine RW.exit ?_
 iterate 2 refine bm ?_
 refine aO (ag (RW.seq (RW.region (RL.ev (v:=v9) rfl rfl U (RL.ev (v:=v9) rfl rfl aa (RL.nil (ag (RW.ret (aL (RV.tmp rfl) ?_)))))))))
 have Cu:j=l.length:=by omega
 subst Cu
 exact⟨os,hN.dA 0 rfl,Ap,hN.aE⟩
theorem oS (n:Nat) (lv:Value) (l:List Int) (gm:Nat) (mv:Value) (ar:List I3) (w:World) (hl:Sl vI w lv l) (hb:fV w gm [.int .i64 (n:Int),mv] 24) (hm:Sm bf w mv ar) (eP:∀a∈ar,Gx n a) (hv:∀k∈l,0≤k∧k<(ar.length:Int)) (hn:n≤16777216) (wu:l.length≤67108864):al UY 149 #[.int .i64 (n:Int),lv,.func (.func 146) #[] #[.pointer (some ⟨gm,0,none⟩)]] w fun r w'=>∃os,dy vI 3 w' w.heap.size r os∧Laid l (c7 ar (·.2.1) l) os l.length∧Ext w w':=by
 refine al.start Xh rfl (US rfl) ?_
 rw[jB]
 have hN:=ak.nil w none_
 have ql:=eF ar (·.2.1) l
 have Aq:∀x∈(c7 ar (·.2.1) l),0≤x:=mG hv (fun a ha=>by obtain⟨h0,_,h2,_⟩:=eP a ha;first|exact h0|exact h2)
 refine RW.seq (RW.region (RL.ev (v:=.slice none 0 0) rfl rfl aa (RL.nil (ag (RW.seq (RW.region (RL.ev (v:=.int .i64 ((n:Int))) rfl rfl U (RL.ev rfl rfl (an rfl rfl rfl ((bc (by omega) (by omega)).trans (by omega:(n:Int)+1=((n+1:Nat):Int)))) ?_))))))))
 refine RL.op rfl rfl (iy (enc:=vI) (z:=0) UW fT rfl hN rfl (by omega) (by omega) (by omega) ?_)
 clear hN
 intro v1 w1 (hN:ak w none_ w1 [_])
 refine RL.ev (v:=v1) rfl rfl aa (RL.nil (ag ?_))
 iterate 2 refine RW.seq ?_
 refine RW.region (RL.ev (v:=lv) rfl rfl U ?_)
 have jb:=(hl.o.now hN).aY
 refine RL.ev rfl rfl (aQ UW (hl.o.now hN) rfl) (RL.ev (v:=.int .i64 (0)) rfl rfl U (RL.nil (ag (RW.block ?_))))
 refine RW.loop (fun k R0 bT=>∃cs:List Int,∃i:Nat,R0 0=.int .i64 ((n:Int))∧R0 1=lv∧R0 2=.func (.func 146) #[] #[.pointer (some ⟨gm,0,none⟩)]∧R0 7=v1∧R0 17=lv∧R0 18=.int .i64 ((l.length:Int))∧R0 19=.int .i64 ((i:Int))∧ak w none_ bT [.own vI 3 (v1) (cs)]∧(i+k=l.length)∧(Cs n cs (f0 (c7 ar (·.2.1) l) i))) (l.length) ?_ ?_
 exact⟨Vm (n+1) 0,0,rfl,rfl,rfl,rfl,rfl,rfl,rfl,hN,by omega,oy⟩
 clear hN
 rintro k R0 bT ⟨cs,i,bN,bw,bF,cd,ee,ed,eC,hN,eR,pW⟩
 have bY:∃b6,R0=(aZ (aZ (aZ (aZ (aZ (aZ (aZ b6 0 _) 1 _) 2 _) 7 _) 17 _) 18 _) 19 _):=⟨R0,by rw[ai bN,ai bw,ai bF,ai cd,ai ee,ai ed,ai eC]⟩
 obtain⟨b6,rfl⟩:=bY
 clear bN bw bF cd ee ed eC
 refine RW.seq (RW.region (RL.ev rfl rfl (aV rfl rfl) (RL.nil (ag (RW.seq ?_)))))
 refine RW.aN _ rfl (fun bW=>?_) (fun bW=>?_)
 refine RW.skip (ag (RW.seq (RW.block (RW.seq (RW.region (RL.ev rfl rfl (aB UW bu (hl.o.now hN) rfl rfl (by omega) (by omega)) ?_))))))
 have aw:∃a_,(l)[i]?=some a_:=⟨_,UT (by omega)⟩
 obtain⟨ap,bG⟩:=aw
 refine RL.ev rfl rfl (aF (m:=i) (a:=ap) UU rfl (hl.o.now hN) rfl bG) (RL.ev (v:=.int .i64 (ap)) rfl rfl aa (RL.nil (ag ?_)))
 have Di:=pW.len
 refine RW.region (RL.ev (v:=v1) rfl rfl U (RL.ev (v:=.func (.func 146) #[] #[.pointer (some ⟨gm,0,none⟩)]) rfl rfl U (RL.ev (v:=.int .i64 (ap)) rfl rfl U ?_)))
 have Kn:0≤ap∧ap<(ar.length:Int):=hv ap (UZ bG)
 have aw:∃a_,ar[(ap).toNat]?=some a_:=⟨_,UT (by omega)⟩
 obtain⟨b4,u1⟩:=aw
 have aw:=eP b4 (UZ u1)
 obtain⟨Pf,Pe,Pd,Pc,Pb,Pa⟩:=aw
 refine RL.op rfl rfl (bB (first:=#[]) (captured:=#[.pointer (some ⟨gm,0,none⟩)]) (v0:=.int .i64 (ap)) (args:=#[.int .i64 (ap),.pointer (some ⟨gm,0,none⟩)]) Xg rfl rfl (by simp) rfl rfl ((jk (ap) gm ((n:Int)) _ ar b4 _ (hb.ext hN.aE) (hm.o.now hN) Kn.1 u1).mono ?_))
 rintro _ w3 ⟨rfl,aW⟩
 replace hN:=hN.ext aW
 clear aW
 refine RL.ev rfl rfl (an rfl rfl rfl (bc (by omega) (by omega))) (RL.ev rfl rfl (aB UW bu (hN.sl 0 rfl) rfl rfl (by omega) (by omega)) ?_)
 have aw:∃a_,(cs)[(b4.2.1+1).toNat]?=some a_:=⟨_,UT (by omega)⟩
 obtain⟨ac,jC⟩:=aw
 refine RL.ev rfl rfl (aF (m:=(b4.2.1+1).toNat) (a:=ac) UU rfl (hN.sl 0 rfl) rfl jC) ?_
 have fF:=qW pW (gE bG u1) (by omega) (by omega) jC
 obtain⟨qR,qQ,fF⟩:=fF
 refine RL.ev rfl rfl (an rfl rfl rfl (bc (by omega) (by omega))) (RL.ev rfl rfl (aB UW bu (hN.sl 0 rfl) rfl rfl (by omega) (by omega)) ?_)
 refine RL.op rfl rfl (ck (m:=(b4.2.1+1).toNat) (a:=(ac+1)) bu hN 0 rfl rfl (by omega) rfl rfl rfl rfl ?_)
 clear hN
 intro w5 (hN:ak w none_ w5 [_])
 refine RL.nil (a7 (ag (RW.region (RL.ev rfl rfl (an rfl rfl rfl (bc (by omega) (by omega))) (RL.ev (v:=.int .i64 ((i:Int)+1)) rfl rfl U (RL.nil (ag ?_)))))))
 exact⟨k-1,by omega,(cs).set (b4.2.1+1).toNat ((ac+1)),i+1,rfl,rfl,rfl,rfl,rfl,rfl,rfl,hN,by omega,fF⟩
 refine RW.exit ?_
 iterate 2 refine bm ?_
 refine aO (ag ?_)
 iterate 2 refine RW.seq ?_
 refine RW.region (RL.ev (v:=.int .i64 ((n:Int))) rfl rfl U (RL.ev (v:=.int .i64 (0)) rfl rfl U (RL.nil (ag (RW.block ?_)))))
 refine RW.loop (fun k1 R1 fI=>∃lD:List Int,∃v:Nat,R1 1=lv∧R1 2=.func (.func 146) #[] #[.pointer (some ⟨gm,0,none⟩)]∧R1 7=v1∧R1 33=.int .i64 ((n:Int))∧R1 34=.int .i64 ((v:Int))∧ak w none_ fI [.own vI 3 (v1) (lD)]∧(v+k1=n)∧(Cs n lD (f1 (c7 ar (·.2.1) l) v))) (n) ?_ ?_
 exact⟨cs,0,rfl,rfl,rfl,rfl,rfl,hN,by omega,ox (by rw[ql,←(show i=l.length by omega)];exact pW) Aq⟩
 clear hN
 rintro k1 R1 fI ⟨lD,v,bw,bF,cd,mc,mb,hN,OQ,mm⟩
 have bY:∃gY,R1=(aZ (aZ (aZ (aZ (aZ gY 1 _) 2 _) 7 _) 33 _) 34 _):=⟨R1,by rw[ai bw,ai bF,ai cd,ai mc,ai mb]⟩
 obtain⟨gY,rfl⟩:=bY
 clear bw bF cd mc mb
 refine RW.seq (RW.region (RL.ev rfl rfl (aV rfl rfl) (RL.nil (ag (RW.seq ?_)))))
 refine RW.aN _ rfl (fun Ao=>?_) (fun Ao=>?_)
 refine RW.skip (ag (RW.seq (RW.block (RW.seq (RW.region (RL.ev (v:=.int .i64 ((v:Int))) rfl rfl U (RL.ev (v:=.int .i64 ((v:Int))) rfl rfl aa (RL.nil (ag ?_)))))))))
 have Di:=mm.len
 have aw:∃a_,lD[v+1]?=some a_:=⟨_,UT (by omega)⟩
 obtain⟨ax,Br⟩:=aw
 have aw:∃a_,lD[v]?=some a_:=⟨_,UT (by omega)⟩
 obtain⟨ay,lI⟩:=aw
 have fF:=qV mm (by omega) Br lI
 obtain⟨qR,qQ,OK,OJ,fF⟩:=fF
 replace hN:=hN.ext (Ext.drew fI)
 refine RW.cb rfl (fun u=>ak w none_ u [.own vI 3 (v1) (lD)]) 11 [(0,0),(1,0),(2,0),(3,0),(4,0),(5,0),(6,0),(7,0),(8,0),(9,0),(10,0),(11,2)] (by intro _ _ _ h;exact h) (by kernel_rfl) hN (RQ.ev (v:=v1) rfl rfl (fun w hS=>U) (RQ.ev (v:=.int .i64 ((v:Int))) rfl rfl (fun w hS=>U) (RQ.ev rfl rfl (fun w hS=>(an rfl rfl rfl ((bc (by omega) (by omega)).trans (by omega:(v:Int)+1=((v+1:Nat):Int))))) (RQ.ev rfl rfl (fun w hS=>(aB UW bu (hS.sl 0 rfl) rfl rfl (by omega) (by omega))) (RQ.ev rfl rfl (fun w hS=>(aF (m:=(v+1)) (a:=ax) UU rfl (hS.sl 0 rfl) rfl Br)) (RQ.ev (v:=v1) rfl rfl (fun w hS=>U) (RQ.ev (v:=.int .i64 ((v:Int))) rfl rfl (fun w hS=>U) (RQ.ev rfl rfl (fun w hS=>(aB UW bu (hS.sl 0 rfl) rfl rfl (by omega) (by omega))) (RQ.ev rfl rfl (fun w hS=>(aF (m:=v) (a:=ay) UU rfl (hS.sl 0 rfl) rfl lI)) ?_)))))))))
 refine RQ.ev rfl rfl (fun w hS=>(an rfl rfl rfl (bc (by omega) (by omega)))) (RQ.ev rfl rfl (fun w hS=>(aB UW bu (hS.sl 0 rfl) rfl rfl (by omega) (by omega))) ?_)
 refine RQ.last rfl rfl (ck (m:=(v+1)) (a:=(ax+ay)) bu hN 0 rfl rfl (by omega) rfl rfl rfl rfl ?_)
 clear hN
 intro w8 (hN:ak w none_ w8 [_])
 refine RZ.done (by kernel_rfl) (a7 (ag (RW.region (RL.ev rfl rfl (an rfl rfl rfl (bc (by omega) (by omega))) (RL.ev (v:=.int .i64 ((v:Int)+1)) rfl rfl U (RL.nil (ag ?_)))))))
 exact⟨k1-1,by omega,(lD).set (v+1) ((ax+ay)),v+1,rfl,rfl,rfl,rfl,rfl,hN,by omega,fF⟩
 refine RW.exit ?_
 iterate 2 refine bm ?_
 refine aO (ag (RW.seq (RW.region (RL.ev (v:=lv) rfl rfl U (RL.ev rfl rfl (aQ UW (hl.o.now hN) rfl) ?_)))))
 refine RL.op rfl rfl (iy (enc:=vI) (z:=0) UW fT rfl hN rfl (by omega) (by omega) (by omega) ?_)
 clear hN
 intro v9 w9 (hN:ak w none_ w9 [_,_])
 refine RL.ev (v:=v9) rfl rfl aa (RL.nil (ag ?_))
 iterate 2 refine RW.seq ?_
 refine RW.region (RL.ev (v:=lv) rfl rfl U (RL.ev rfl rfl (aQ UW (hl.o.now hN) rfl) (RL.ev (v:=.int .i64 (0)) rfl rfl U (RL.nil (ag (RW.block ?_))))))
 refine RW.loop (fun k2 R2 AV=>∃CQ:List Int,∃os:List Int,∃j:Nat,R2 2=.func (.func 146) #[] #[.pointer (some ⟨gm,0,none⟩)]∧R2 7=v1∧R2 11=v9∧R2 52=lv∧R2 53=.int .i64 ((l.length:Int))∧R2 54=.int .i64 ((j:Int))∧ak w none_ AV [.own vI 3 (v9) (os),.own vI 3 (v1) (CQ)]∧(j+k2=l.length)∧(Cs n CQ (f2 (c7 ar (·.2.1) l) j))∧(Laid l (c7 ar (·.2.1) l) os j)) (l.length) ?_ ?_
 have Fy:Cs n lD (f1 (c7 ar (·.2.1) l) n):=by
   have e_:v=n:=by omega
   rw[e_]at mm;exact mm
 exact⟨lD,Vm l.length 0,0,rfl,rfl,rfl,rfl,rfl,rfl,hN,by omega,y1 Fy,Laid.start⟩
 clear hN
 rintro k2 R2 AV ⟨CQ,os,j,bF,cd,iC,yp,yo,yn,hN,wy,Fz,Ap⟩
 have bY:∃BI,R2=(aZ (aZ (aZ (aZ (aZ (aZ BI 2 _) 7 _) 11 _) 52 _) 53 _) 54 _):=⟨R2,by rw[ai bF,ai cd,ai iC,ai yp,ai yo,ai yn]⟩
 obtain⟨BI,rfl⟩:=bY
 clear bF cd iC yp yo yn
 refine RW.seq (RW.region (RL.ev rfl rfl (aV rfl rfl) (RL.nil (ag (RW.seq ?_)))))
 refine RW.aN _ rfl (fun eI=>?_) (fun eI=>?_)
 refine RW.skip (ag (RW.seq (RW.block (RW.seq (RW.region (RL.ev rfl rfl (aB UW bu (hl.o.now hN) rfl rfl (by omega) (by omega)) ?_))))))
 have aw:∃a_,(l)[j]?=some a_:=⟨_,UT (by omega)⟩
 obtain⟨aq,iT⟩:=aw
 refine RL.ev rfl rfl (aF (m:=j) (a:=aq) UU rfl (hl.o.now hN) rfl iT) (RL.ev (v:=.int .i64 (aq)) rfl rfl aa (RL.nil (ag (RW.seq ?_))))
 have Di:=Fz.len
 refine RW.region (RL.ev (v:=v9) rfl rfl U (RL.ev (v:=v1) rfl rfl U (RL.ev (v:=.func (.func 146) #[] #[.pointer (some ⟨gm,0,none⟩)]) rfl rfl U (RL.ev (v:=.int .i64 (aq)) rfl rfl U ?_))))
 have ET:0≤aq∧aq<(ar.length:Int):=hv aq (UZ iT)
 have aw:∃a_,ar[(aq).toNat]?=some a_:=⟨_,UT (by omega)⟩
 obtain⟨xm,sG⟩:=aw
 have aw:=eP xm (UZ sG)
 obtain⟨MA,Mz,My,Mx,Mw,Mv⟩:=aw
 refine RL.op rfl rfl (bB (first:=#[]) (captured:=#[.pointer (some ⟨gm,0,none⟩)]) (v0:=.int .i64 (aq)) (args:=#[.int .i64 (aq),.pointer (some ⟨gm,0,none⟩)]) Xg rfl rfl (by simp) rfl rfl ((jk (aq) gm ((n:Int)) _ ar xm _ (hb.ext hN.aE) (hm.o.now hN) ET.1 sG).mono ?_))
 rintro _ jH ⟨rfl,aW⟩
 replace hN:=hN.ext aW
 clear aW
 refine RL.ev rfl rfl (aB UW bu (hN.sl 1 rfl) rfl rfl (by omega) (by omega)) ?_
 have aw:∃a_,(CQ)[(xm.2.1).toNat]?=some a_:=⟨_,UT (by omega)⟩
 obtain⟨ad,Dk⟩:=aw
 refine RL.ev rfl rfl (aF (m:=(xm.2.1).toNat) (a:=ad) UU rfl (hN.sl 1 rfl) rfl Dk) ?_
 have fF:=Bx Fz (gE iT sG) (by omega) (by omega) Dk
 obtain⟨qR,qQ,Lt,fF⟩:=fF
 have wx:=Ap.step ql iT (gE iT sG) Lt
 have Pq:=Ap.len
 refine RL.ev (v:=.int .i64 (aq)) rfl rfl U (RL.ev rfl rfl (aB UW bu (hN.sl 0 rfl) rfl rfl (by omega) (by omega)) ?_)
 refine RL.op rfl rfl (ck (m:=(ad).toNat) (a:=aq) bu hN 0 rfl rfl (by omega) rfl rfl rfl rfl ?_)
 clear hN
 intro iP (hN:ak w none_ iP [_,_])
 refine RL.nil (ag (RW.region (RL.ev (v:=v1) rfl rfl U (RL.ev (v:=.func (.func 146) #[] #[.pointer (some ⟨gm,0,none⟩)]) rfl rfl U (RL.ev (v:=.int .i64 (aq)) rfl rfl U ?_)))))
 have ES:0≤aq∧aq<(ar.length:Int):=hv aq (UZ iT)
 have aw:∃a_,ar[(aq).toNat]?=some a_:=⟨_,UT (by omega)⟩
 obtain⟨AO,AD⟩:=aw
 have aw:=eP AO (UZ AD)
 obtain⟨Mu,Mt,Ms,Mr,Mq,Mp⟩:=aw
 refine RL.op rfl rfl (bB (first:=#[]) (captured:=#[.pointer (some ⟨gm,0,none⟩)]) (v0:=.int .i64 (aq)) (args:=#[.int .i64 (aq),.pointer (some ⟨gm,0,none⟩)]) Xg rfl rfl (by simp) rfl rfl ((jk (aq) gm ((n:Int)) _ ar AO _ (hb.ext hN.aE) (hm.o.now hN) ES.1 AD).mono ?_))
 rintro _ kC ⟨rfl,aW⟩
 replace hN:=hN.ext aW
 clear aW
 have sE:AO=xm:=Vq (AD.symm.trans sG)
 subst sE
 refine RL.ev rfl rfl (aB UW bu (hN.sl 1 rfl) rfl rfl (by omega) (by omega)) ?_
 have aw:∃a_,(CQ)[(AO.2.1).toNat]?=some a_:=⟨_,UT (by omega)⟩
 obtain⟨ae,Nq⟩:=aw
 refine RL.ev rfl rfl (aF (m:=(AO.2.1).toNat) (a:=ae) UU rfl (hN.sl 1 rfl) rfl Nq) ?_
 have KF:ae=ad:=Vq (Nq.symm.trans Dk)
 rw[←KF]at fF
 refine RL.ev rfl rfl (an rfl rfl rfl (bc (by omega) (by omega))) (RL.ev rfl rfl (aB UW bu (hN.sl 1 rfl) rfl rfl (by omega) (by omega)) ?_)
 refine RL.op rfl rfl (ck (m:=(AO.2.1).toNat) (a:=(ae+1)) bu hN 1 rfl rfl (by omega) rfl rfl rfl rfl ?_)
 clear hN
 intro k9 (hN:ak w none_ k9 [_,_])
 refine RL.nil (a7 (ag (RW.region (RL.ev rfl rfl (an rfl rfl rfl (bc (by omega) (by omega))) (RL.ev (v:=.int .i64 ((j:Int)+1)) rfl rfl U (RL.nil (ag ?_)))))))
 exact⟨k2-1,by omega,(CQ).set (AO.2.1).toNat ((ae+1)),(os).set (ad).toNat (aq),j+1,rfl,rfl,rfl,rfl,rfl,rfl,hN,by omega,fF,wx⟩
 refine RW.exit ?_
 iterate 2 refine bm ?_
 refine aO (ag (RW.seq (RW.region (RL.ev (v:=v9) rfl rfl U (RL.ev (v:=v9) rfl rfl aa (RL.nil (ag (RW.ret (aL (RV.tmp rfl) ?_)))))))))
 have Cu:j=l.length:=by omega
 subst Cu
 exact⟨os,hN.dA 0 rfl,Ap,hN.aE⟩
end Go.Proofs.YtngkdkbpgoddlaaGreat
namespace Go.Proofs.YtngkdkbpgoddlaaGreat
open Go.RowKit Go.Rl
open Go.Gr
theorem yf (i:Int) (a:I3) (w:World):al UY 148 #[.int .i64 i,.agg #[.int .i64 a.1,.int .i64 a.2.1,.int .i64 a.2.2]] w fun r w'=>r=.bool (decide (¬a.1=a.2.1))∧Ext w w':=by
 refine al.start abw rfl (US rfl) ?_
 rw[cc]
 have hN:=ak.nil w none_
 refine RW.seq (RW.region ?_)
 refine RL.op rfl rfl (bq (cs:=[.int .i64 (a.1),.int .i64 (a.2.1),.int .i64 (a.2.2)]) rfl rfl hN ?_)
 clear hN
 intro g1 w1 (hN:ak w none_ w1 [_])
 refine RL.ev (v:=.bool false) rfl rfl aa (RL.nil (ag (RW.seq (RW.region (RL.ev rfl rfl (ah Ve rfl bu (by decide) rfl) (RL.ev rfl rfl (aj UU rfl rfl (hN.aA 0 rfl) rfl) (RL.ev rfl rfl (ah Ve rfl bu (by decide) rfl) (RL.ev rfl rfl (aj UU rfl rfl (hN.aA 0 rfl) rfl) (RL.ev rfl rfl (bp rfl rfl) ?_)))))))))
 refine RL.ev (v:=.bool (decide (¬a.1=a.2.1))) rfl rfl aa (RL.nil (ag (RW.ret (aL (RV.tmp rfl) ?_))))
 exact⟨rfl,hN.aE⟩
theorem z9 (i:Int) (b:Bool) (w:World):al UY 192 #[.int .i64 i,.bool (decide (b=true))] w fun r w'=>r=.bool (decide (b=true))∧Ext w w':=by
 refine al.start abx rfl (US rfl) ?_
 rw[cc]
 have hN:=ak.nil w none_
 refine RW.seq (RW.region (RL.ev (v:=.bool false) rfl rfl aa (RL.nil (ag (RW.seq (RW.region (RL.ev (v:=.bool (decide (b=true))) rfl rfl U (RL.ev (v:=.bool (decide (b=true))) rfl rfl aa (RL.nil ?_)))))))))
 refine ag (RW.ret (aL (RV.tmp rfl) ?_))
 exact⟨rfl,hN.aE⟩
theorem wc (v:Value) (ar:List I3) (w:World) (hv:Sm bf w v ar):al UY 147 #[v,.func (.func 148) #[] #[]] w fun r w'=>∃gp gq,r=.func (.func 190) #[] #[.pointer (some ⟨gp,0,none⟩),.pointer (some ⟨gq,0,none⟩)]∧ak w none_ w' [.aA gp [v] 22,.aA gq [.func (.func 148) #[] #[]] 215]:=by
 refine al.start aby rfl (US rfl) ?_
 rw[cc]
 have hN:=ak.nil w none_
 refine RW.seq (RW.region ?_)
 refine RL.op rfl rfl (bq (cs:=[v]) rfl (hv.o.now hN).cO hN ?_)
 clear hN
 intro g1 w1 (hN:ak w none_ w1 [_])
 refine RL.op rfl rfl (bq (cs:=[.func (.func 148) #[] #[]]) rfl rfl hN ?_)
 clear hN
 intro g2 w2 (hN:ak w none_ w2 [_,_])
 refine RL.ev rfl rfl aa (RL.nil (ag (RW.seq (RW.region (RL.ev rfl rfl (c8 (vs:=[.pointer (some ⟨g1,0,none⟩),.pointer (some ⟨g2,0,none⟩)]) (xs:=[.tmp 2,.tmp 3]) rfl rfl) (RL.ev (v:=.func (.func 190) #[] #[.pointer (some ⟨g1,0,none⟩),.pointer (some ⟨g2,0,none⟩)]) rfl rfl aa (RL.nil (ag (RW.ret ?_)))))))))
 refine aL (RV.tmp rfl) ?_
 exact⟨_,_,rfl,hN.sub [1,0] (by decide) rfl⟩
theorem tO (ar:List I3) {σ:Type} (l:Nat) (C:Bool→σ→Atom) (T:σ→Int→Bool→σ→Prop) (s0:σ) {F:Nat→Prop} (w:World) (hT:∀s x b s',T s x b s'→b=true) (hY:nf UY l C T id s0 (ec (lZ ar) 0 ar.length) Oi H2) (gp gq:Nat) (v:Value) (hN:ak w F w [C true s0,.aA gp [v] 22,.aA gq [.func (.func 148) #[] #[]] 215]) (hv:qZ F bf w v ar) (fG:ar.length≤67108864):al UY 190 #[.func (.yield l) #[] #[],.pointer (some ⟨gp,0,none⟩),.pointer (some ⟨gq,0,none⟩)] w fun _ w'=>∃s',tc T id s0 (ec (lZ ar) 0 ar.length) s'∧ak w F w' [C true s']:=by
 refine al.jV abz rfl (US rfl) ?_
 rw[jB]
 refine XW.seq (XW.region rfl (RL.ev rfl rfl (aj Va rfl rfl (hN.aA 1 rfl) rfl) ?_))
 have iF:=(hv.now hN).aY
 refine RL.ev rfl rfl (bQ Va (hv.now hN) rfl) (RL.ev (v:=.int .i64 (0)) rfl rfl U (RL.nil (bA (bj (XW.block ?_)))))
 refine XW.loop (fun k R0 bT=>∃si:σ,∃i:Nat,R0 0=.func (.yield l) #[] #[]∧R0 2=.pointer (some ⟨gq,0,none⟩)∧R0 6=v∧R0 7=.int .i64 ((ar.length:Int))∧R0 8=.int .i64 ((i:Int))∧ak w F bT [C true si,.aA gp [v] 22,.aA gq [.func (.func 148) #[] #[]] 215]∧(i+k=ar.length)∧(dW T id s0 (ec (lZ ar) 0 ar.length) si (ec (lZ ar) i k))) (ar.length) ?_ ?_
 exact⟨s0,0,rfl,rfl,rfl,rfl,rfl,hN,by omega,dW.start⟩
 clear hN
 rintro k R0 bT ⟨si,i,bN,bF,dd,cd,cl,hN,eR,hg⟩
 have bY:∃b6,R0=(aZ (aZ (aZ (aZ (aZ b6 0 _) 2 _) 6 _) 7 _) 8 _):=⟨R0,by rw[ai bN,ai bF,ai dd,ai cd,ai cl]⟩
 obtain⟨b6,rfl⟩:=bY
 clear bN bF dd cd cl
 refine XW.seq (XW.region rfl (RL.ev rfl rfl (aV rfl rfl) (RL.nil (bA (bj (XW.seq ?_))))))
 refine XW.aN _ rfl (fun bW=>?_) (fun bW=>?_)
 refine XW.skip (bj (XW.seq (XW.block (XW.seq (XW.region rfl (RL.ev (v:=.int .i64 ((i:Int))) rfl rfl U (RL.ev rfl rfl (bn Va cq aU (by decide) (hv.now hN) rfl rfl (by omega) (by omega)) ?_)))))))
 have aw:∃a_,(ar)[i]?=some a_:=⟨_,UT (by omega)⟩
 obtain⟨ap,bG⟩:=aw
 refine RL.ev rfl rfl (bU (m:=i) (a:=ap) Ve rfl cq aU (by decide) (hv.now hN) rfl bG (cs:=[.int .i64 (ap.1),.int .i64 (ap.2.1),.int .i64 (ap.2.2)]) rfl) ?_
 refine RL.op rfl rfl (aX (cs:=[.int .i64 (0),.int .i64 (0),.int .i64 (0)]) eo rfl hN ?_)
 clear hN
 intro g2 w2 (hN:ak w F w2 [_,_,_,_])
 refine RL.ev (v:=.int .i64 ((i:Int))) rfl rfl aa ?_
 refine RL.op rfl rfl (aC (vs:=[.int .i64 (ap.1),.int .i64 (ap.2.1),.int .i64 (ap.2.2)]) cq rfl rfl rfl (by intro u hu;simp only[U9,U2,or_false]at hu;rcases hu with rfl|rfl|rfl<;>first|rfl) hN 0 rfl rfl ?_)
 clear hN
 intro w3 (hN:ak w F w3 [_,_,_,_])
 refine RL.nil (bA (bj (XW.seq (XW.qM (XL.ev rfl rfl rfl (aj Tryz.underlying215 rfl rfl (hN.aA 3 rfl) rfl) (XL.ev (v:=.int .i64 ((i:Int))) rfl rfl rfl U (XL.ev rfl rfl rfl (aG (cs:=[.int .i64 (ap.1),.int .i64 (ap.2.1),.int .i64 (ap.2.2)]) Ve rfl cq rfl (hN.aA 0 rfl)) ?_)))))))
 refine XL.op rfl rfl (k7.of rfl (uN (first:=#[]) (captured:=#[]) (v0:=.int .i64 ((i:Int))) (v1:=.agg #[.int .i64 (ap.1),.int .i64 (ap.2.1),.int .i64 (ap.2.2)]) (args:=#[.int .i64 ((i:Int)),.agg #[.int .i64 (ap.1),.int .i64 (ap.2.1),.int .i64 (ap.2.2)]]) abw rfl rfl (by simp) rfl rfl rfl ((yf ((i:Int)) ap _).mono ?_)))
 rintro _ w4 ⟨rfl,aW⟩
 replace hN:=hN.ext aW
 clear aW
 refine XL.ev (v:=.bool (decide (¬ap.1=ap.2.1))) rfl rfl rfl U ?_
 by_cases hq:¬ap.1=ap.2.1
 rw[decide_eq_true hq]
 refine XL.aI (v:=.func (.yield l) #[] #[]) rfl rfl (by decide) rfl rfl rfl U (XL.aI (v:=.int .i64 ((i:Int))) rfl rfl (by decide) rfl rfl rfl U ?_)
 replace hg:=hg.as (uH (by omega) (Hz bG hq))
 refine XL.on rfl rfl (by decide) rfl rfl (cy rfl rfl ((dW.yield hT hY (i:Int) hg (hN.bZ (M:=[_]) [1] (by decide) rfl) trivial).mono ?_))
 rintro _ w5 ⟨s5,rfl,fD,bE⟩
 replace hg:=fD
 clear fD
 replace hN:ak w F w5 [_,_,_,_]:=ak.bX (M:=[_]) (N:=[_,_,_]) (hN.sub [1,0,2,3] (by decide) rfl) bE
 clear bE
 refine XL.aI rfl rfl (by decide) rfl rfl rfl (fi rfl) (XL.ev (v:=.bool false) rfl rfl rfl (ao rfl) (XL.nil (bj (XW.dD rfl (XW.skip (dX (bj (XW.region rfl (RL.ev rfl rfl (an rfl rfl rfl (bc (by omega) (by omega))) ?_)))))))))
 refine RL.ev (v:=.int .i64 ((i:Int)+1)) rfl rfl U (RL.nil (bA (bj ?_)))
 exact⟨rfl,k-1,by omega,s5,i+1,rfl,rfl,rfl,rfl,rfl,(hN.sub [0,2,3] (by decide) rfl),by omega,hg⟩
 rw[decide_eq_false hq]
 iterate 4 refine XL.off rfl rfl (by decide) rfl rfl ?_
 refine XL.ev (v:=.bool false) rfl rfl rfl (aH rfl) (XL.nil (bj (XW.dD rfl (XW.skip (dX (bj (XW.region rfl (RL.ev rfl rfl (an rfl rfl rfl (bc (by omega) (by omega))) (RL.ev (v:=.int .i64 ((i:Int)+1)) rfl rfl U ?_)))))))))
 refine RL.nil (bA (bj ?_))
 replace hg:=hg.as (uI (by omega) (HA bG hq))
 exact⟨rfl,k-1,by omega,si,i+1,rfl,rfl,rfl,rfl,rfl,(hN.sub [1,2,3] (by decide) rfl),by omega,hg⟩
 refine XW.exit ?_
 iterate 2 refine lJ ?_
 refine gu (uq (RV.zero rfl) ?_)
 have PK:k=0:=by omega
 subst PK
 exact⟨_,hg.done,hN.sub [0] (by decide) rfl⟩
theorem x7 (ar:List I3) (gp gq:Nat) (v:Value) (fG:ar.length≤67108864):sZ UY 190 #[.pointer (some ⟨gp,0,none⟩),.pointer (some ⟨gq,0,none⟩)] [.aA gp [v] 22,.aA gq [.func (.func 148) #[] #[]] 215] (fun F w=>qZ F bf w v ar) id H2 Oi (ec (lZ ar) 0 ar.length):=by
  intro σ l C T s0 w0 w F hT hY Dg hN
  have h1:=hN.bZ (M:=[_,_,_]) [0,1,2] (by decide) rfl
  refine(tO ar l C T s0 w hT hY gp gq v h1 (qZ.step ny Dg hN) fG).mono ?_
  rintro _ w' ⟨s',hr,h2⟩
  exact⟨s',hr,ak.bX (M:=[_,_,_]) (N:=[]) hN h2⟩
theorem tN (v:Value) (ar:List Bool) (w:World) (hv:Sl vB w v ar):al UY 191 #[v,.func (.func 192) #[] #[]] w fun r w'=>∃gp gq,r=.func (.func 209) #[] #[.pointer (some ⟨gp,0,none⟩),.pointer (some ⟨gq,0,none⟩)]∧ak w none_ w' [.aA gp [v] 206,.aA gq [.func (.func 192) #[] #[]] 256]:=by
 refine al.start abA rfl (US rfl) ?_
 rw[cc]
 have hN:=ak.nil w none_
 refine RW.seq (RW.region ?_)
 refine RL.op rfl rfl (bq (cs:=[v]) rfl (hv.o.now hN).cO hN ?_)
 clear hN
 intro g1 w1 (hN:ak w none_ w1 [_])
 refine RL.op rfl rfl (bq (cs:=[.func (.func 192) #[] #[]]) rfl rfl hN ?_)
 clear hN
 intro g2 w2 (hN:ak w none_ w2 [_,_])
 refine RL.ev rfl rfl aa (RL.nil (ag (RW.seq (RW.region (RL.ev rfl rfl (c8 (vs:=[.pointer (some ⟨g1,0,none⟩),.pointer (some ⟨g2,0,none⟩)]) (xs:=[.tmp 2,.tmp 3]) rfl rfl) (RL.ev (v:=.func (.func 209) #[] #[.pointer (some ⟨g1,0,none⟩),.pointer (some ⟨g2,0,none⟩)]) rfl rfl aa (RL.nil (ag (RW.ret ?_)))))))))
 refine aL (RV.tmp rfl) ?_
 exact⟨_,_,rfl,hN.sub [1,0] (by decide) rfl⟩
theorem rW (ar:List Bool) {σ:Type} (l:Nat) (C:Bool→σ→Atom) (T:σ→Int→Bool→σ→Prop) (s0:σ) {F:Nat→Prop} (w:World) (hT:∀s x b s',T s x b s'→b=true) (hY:nf UY l C T id s0 (ec (mO ar) 0 ar.length) Oi H2) (gp gq:Nat) (v:Value) (hN:ak w F w [C true s0,.aA gp [v] 206,.aA gq [.func (.func 192) #[] #[]] 256]) (hv:nR F vB w v ar) (fG:ar.length≤67108864):al UY 209 #[.func (.yield l) #[] #[],.pointer (some ⟨gp,0,none⟩),.pointer (some ⟨gq,0,none⟩)] w fun _ w'=>∃s',tc T id s0 (ec (mO ar) 0 ar.length) s'∧ak w F w' [C true s']:=by
 refine al.jV abB rfl (US rfl) ?_
 rw[jB]
 refine XW.seq (XW.region rfl (RL.ev rfl rfl (aj VV rfl rfl (hN.aA 1 rfl) rfl) ?_))
 have iF:=(hv.now hN).aY
 refine RL.ev rfl rfl (aQ VV (hv.now hN) rfl) (RL.ev (v:=.int .i64 (0)) rfl rfl U (RL.nil (bA (bj (XW.block ?_)))))
 refine XW.loop (fun k R0 bT=>∃si:σ,∃i:Nat,R0 0=.func (.yield l) #[] #[]∧R0 2=.pointer (some ⟨gq,0,none⟩)∧R0 6=v∧R0 7=.int .i64 ((ar.length:Int))∧R0 8=.int .i64 ((i:Int))∧ak w F bT [C true si,.aA gp [v] 206,.aA gq [.func (.func 192) #[] #[]] 256]∧(i+k=ar.length)∧(dW T id s0 (ec (mO ar) 0 ar.length) si (ec (mO ar) i k))) (ar.length) ?_ ?_
 exact⟨s0,0,rfl,rfl,rfl,rfl,rfl,hN,by omega,dW.start⟩
 clear hN
 rintro k R0 bT ⟨si,i,bN,bF,dd,cd,cl,hN,eR,hg⟩
 have bY:∃b6,R0=(aZ (aZ (aZ (aZ (aZ b6 0 _) 2 _) 6 _) 7 _) 8 _):=⟨R0,by rw[ai bN,ai bF,ai dd,ai cd,ai cl]⟩
 obtain⟨b6,rfl⟩:=bY
 clear bN bF dd cd cl
 refine XW.seq (XW.region rfl (RL.ev rfl rfl (aV rfl rfl) (RL.nil (bA (bj (XW.seq ?_))))))
 refine XW.aN _ rfl (fun bW=>?_) (fun bW=>?_)
 refine XW.skip (bj (XW.seq (XW.block (XW.seq (XW.region rfl (RL.ev (v:=.int .i64 ((i:Int))) rfl rfl U (RL.ev rfl rfl (aB VV np (hv.now hN) rfl rfl (by omega) (by omega)) ?_)))))))
 have aw:∃a_,(ar)[i]?=some a_:=⟨_,UT (by omega)⟩
 obtain⟨ap,bG⟩:=aw
 refine RL.ev rfl rfl (aF (m:=i) (a:=ap) WS rfl (hv.now hN) rfl bG) (RL.ev (v:=.int .i64 ((i:Int))) rfl rfl aa (RL.ev (v:=.bool (decide (ap=true))) rfl rfl aa (RL.nil (bA (bj (XW.seq (XW.qM (XL.ev rfl rfl rfl (aj Tryz.underlying256 rfl rfl (hN.aA 2 rfl) rfl) (XL.ev (v:=.int .i64 ((i:Int))) rfl rfl rfl U ?_)))))))))
 refine XL.ev (v:=.bool (decide (ap=true))) rfl rfl rfl U ?_
 refine XL.op rfl rfl (k7.of rfl (uN (first:=#[]) (captured:=#[]) (v0:=.int .i64 ((i:Int))) (v1:=.bool (decide (ap=true))) (args:=#[.int .i64 ((i:Int)),.bool (decide (ap=true))]) abx rfl rfl (by simp) rfl rfl rfl ((z9 ((i:Int)) ap _).mono ?_)))
 rintro _ w2 ⟨rfl,aW⟩
 replace hN:=hN.ext aW
 clear aW
 refine XL.ev (v:=.bool (decide (ap=true))) rfl rfl rfl U ?_
 by_cases hq:ap=true
 rw[decide_eq_true hq]
 refine XL.aI (v:=.func (.yield l) #[] #[]) rfl rfl (by decide) rfl rfl rfl U (XL.aI (v:=.int .i64 ((i:Int))) rfl rfl (by decide) rfl rfl rfl U ?_)
 replace hg:=hg.as (uH (by omega) (JU bG hq))
 refine XL.on rfl rfl (by decide) rfl rfl (cy rfl rfl ((dW.yield hT hY (i:Int) hg (hN.bZ (M:=[_]) [0] (by decide) rfl) trivial).mono ?_))
 rintro _ w3 ⟨s3,rfl,fD,bE⟩
 replace hg:=fD
 clear fD
 replace hN:ak w F w3 [_,_,_]:=ak.bX (M:=[_]) (N:=[_,_]) (hN.sub [0,1,2] (by decide) rfl) bE
 clear bE
 refine XL.aI rfl rfl (by decide) rfl rfl rfl (fi rfl) (XL.ev (v:=.bool false) rfl rfl rfl (ao rfl) (XL.nil (bj (XW.dD rfl (XW.skip (dX (bj (XW.region rfl (RL.ev rfl rfl (an rfl rfl rfl (bc (by omega) (by omega))) ?_)))))))))
 refine RL.ev (v:=.int .i64 ((i:Int)+1)) rfl rfl U (RL.nil (bA (bj ?_)))
 exact⟨rfl,k-1,by omega,s3,i+1,rfl,rfl,rfl,rfl,rfl,hN,by omega,hg⟩
 rw[decide_eq_false hq]
 iterate 4 refine XL.off rfl rfl (by decide) rfl rfl ?_
 refine XL.ev (v:=.bool false) rfl rfl rfl (aH rfl) (XL.nil (bj (XW.dD rfl (XW.skip (dX (bj (XW.region rfl (RL.ev rfl rfl (an rfl rfl rfl (bc (by omega) (by omega))) (RL.ev (v:=.int .i64 ((i:Int)+1)) rfl rfl U ?_)))))))))
 refine RL.nil (bA (bj ?_))
 replace hg:=hg.as (uI (by omega) (JV bG hq))
 exact⟨rfl,k-1,by omega,si,i+1,rfl,rfl,rfl,rfl,rfl,hN,by omega,hg⟩
 refine XW.exit ?_
 iterate 2 refine lJ ?_
 refine gu (uq (RV.zero rfl) ?_)
 have PK:k=0:=by omega
 subst PK
 exact⟨_,hg.done,hN.sub [0] (by decide) rfl⟩
theorem wb (ar:List Bool) (gp gq:Nat) (v:Value) (fG:ar.length≤67108864):sZ UY 209 #[.pointer (some ⟨gp,0,none⟩),.pointer (some ⟨gq,0,none⟩)] [.aA gp [v] 206,.aA gq [.func (.func 192) #[] #[]] 256] (fun F w=>nR F vB w v ar) id H2 Oi (ec (mO ar) 0 ar.length):=by
  intro σ l C T s0 w0 w F hT hY Dg hN
  have h1:=hN.bZ (M:=[_,_,_]) [0,1,2] (by decide) rfl
  refine(rW ar l C T s0 w hT hY gp gq v h1 (Dg.step hN) fG).mono ?_
  rintro _ w' ⟨s',hr,h2⟩
  exact⟨s',hr,ak.bX (M:=[_,_,_]) (N:=[]) hN h2⟩
end Go.Proofs.YtngkdkbpgoddlaaGreat
namespace Go.Proofs.YtngkdkbpgoddlaaGreat
open Go.RowKit Go.Rl
open Go.Gr
theorem yd (g:Nat) (c0 c1 c2 c3 c4 c5 kv:Value) (bs:List Bool) (w:World) (hb:fV w g [c0,c1,c2,c3,c4,c5,kv] 211) (hk:Sl vB w kv bs) (hl:bs.length≤67108864):al UY 151 #[.pointer (some ⟨g,0,none⟩)] w fun r w'=>dy vI 3 w' w.heap.size r (ec (mO bs) 0 bs.length)∧Ext w w':=by
 refine al.jV abC rfl (US rfl) ?_
 rw[bL]
 have hN:=ak.nil w none_
 refine XW.seq (XW.region rfl (RL.ev (v:=.slice none 0 0) rfl rfl aa (RL.nil (bA (bj (XW.seq (XW.region rfl ?_)))))))
 refine RL.op rfl rfl (aX (cs:=[.slice none 0 0]) Dv rfl hN ?_)
 clear hN
 intro g1 w1 (hN:ak w none_ w1 [_])
 refine RL.nil (bA (bj ?_))
 iterate 2 refine XW.seq ?_
 refine XW.region rfl (RL.ev (v:=.pointer (some ⟨g,0,none⟩)) rfl rfl U (RL.ev rfl rfl (cm (iI YG rfl rfl) (by simp)) (RL.nil (bA (bj (XW.dD rfl (XW.skip (bj ?_))))))))
 iterate 2 refine XW.seq ?_
 replace hN:=hN.cj vI 3
 replace hN:ak w none_ w1 [.own vI 3 (.slice none 0 0) ([]),.aA g1 [.slice none 0 0] 25]:=hN
 refine XW.region rfl (RL.ev (v:=.pointer (some ⟨g,0,none⟩)) rfl rfl U (RL.ev rfl rfl (bt rfl) (RL.ev rfl rfl (ah Wi rfl uA (by decide) rfl) (RL.ev rfl rfl (aj VV rfl rfl (hb.ext hN.aE) rfl) ?_))))
 refine RL.op rfl rfl (aR abA rfl rfl rfl rfl ((tN _ bs _ (hk.o.now hN)).mono ?_))
 rintro _ w2 ⟨Sq,Sp,rfl,bE⟩
 replace hN:ak w none_ w2 [_,_,_,_]:=hN.dU bE
 clear bE
 refine RL.nil (bA (bj (XW.block ?_)))
 refine XW.zU (gf:=209) (lb:=#[.pointer (some ⟨Sq,0,none⟩),.pointer (some ⟨Sp,0,none⟩)]) (M:=[_,_]) (fun s:Value×List Int=>[.aA g1 [s.1] 25,.own vI 3 s.1 s.2]) (zm Int) (.slice none 0 0,[]) (hN.sub [3,2,0,1] (by decide) rfl) rfl abB rfl rfl (wb bs Sq Sp _ (by omega)) zm.on hk.o (fun _=>rfl) (by decide) ?_ ?_
 clear hN
 rintro l_ D_ Ij FF ⟨v_,a_⟩ x_ LW Ik wr eB HB Lu hN
 change XW _ _ _ _ _ _ (aZ _ 12 (.int .i64 (x_))) _
 replace hN:ak wr FF wr [.obj l_ (.loop (Ij .ready none)),.obj D_ (.deferred (some [])),.aA g1 [v_] 25,.own vI 3 (v_) (a_)]:=hN
 have KP:a_.length<((ec (mO bs) 0 bs.length)).length:=BH eB rfl HB
 have OL:=mB (mO bs) bs.length 0
 refine XW.region rfl (RL.ev (v:=.int .i64 (x_)) rfl rfl aa (RL.nil (bA (sV ?_))))
 clear hN
 intro w3 (hN:ak wr FF w3 [.obj l_ (.loop (Ij .busy none)),.obj D_ (.deferred (some [])),.aA g1 [v_] 25,.own vI 3 (v_) (a_)])
 refine XW.block (XW.region rfl (RL.ev rfl rfl (aj UW rfl rfl (hN.aA 2 rfl) rfl) (RL.ev (v:=.int .i64 (x_)) rfl rfl U ?_)))
 refine RL.op rfl rfl (bS (enc:=vI) (l:=[x_]) (xs:=[.tmp 14]) UW bu mu rfl rfl (fun _=>rfl) rfl (by decide) (by decide) hN ?_)
 clear hN
 intro g4 w4 (hN:ak wr FF w4 [_,_,_,_,_])
 refine RL.op rfl rfl (bD UW fT rfl (fun _=>rfl) hN 4 rfl rfl (hN.sl 0 rfl) rfl (by(try simp only[UX,Vs,Vt,Vc,U6,U3,Vw,UX,Vl]);omega) (by decide) ?_)
 clear hN
 intro v5 w5 (hN:ak wr FF w5 [_,_,_,_,_])
 refine RL.op rfl rfl (b9 b7 rfl rfl (hN.sl 4 rfl).cO (hN.sl 4 rfl).bJ hN 3 rfl (US rfl) ?_)
 clear hN
 intro w6 (hN:ak wr FF w6 [_,_,_,_,_])
 refine RL.nil (bA (dX ?_))
 exact vH ⟨v5,a_++[x_]⟩ ⟨rfl,rfl⟩ (hN.sub [1,2,3,4] (by decide) rfl)
 clear hN
 rintro l_ D_ o_ ⟨v_,a_⟩ w7 eB hN
 replace hN:ak w none_ w7 [.obj l_ o_,.obj D_ (.deferred (some [])),.aA g1 [v_] 25,.own vI 3 (v_) (a_)]:=hN
 have LB:a_=(ec (mO bs) 0 bs.length):=xa eB
 refine dX (bj (XW.seq (XW.region rfl (RL.ev rfl rfl (aj UW rfl rfl (hN.aA 2 rfl) rfl) (RL.ev (v:=v_) rfl rfl aa (RL.nil (bA (bj (XW.ret ?_)))))))))
 refine Dw hN (.inl rfl) 1 rfl ?_
 clear hN
 intro w8 (hN:ak w none_ w8 [_,_,_,_])
 refine⟨_,RV.tmp rfl,?_⟩
 exact⟨(hN.dA 3 rfl).lP LB,hN.aE⟩
theorem wX (n k q:Int) (mv:Value) (ar:List I3) (a b:I3) (w:World) (hm:Sm bf w mv ar) (h0:0≤k) (ha:ar[k.toNat]?=some a) (h1:0≤q) (hb:ar[q.toNat]?=some b):al UY 150 #[.agg #[.int .i64 n,mv],.int .i64 k,.int .i64 q] w fun r w'=>r=.bool (decide (a.2.2<b.2.2))∧Ext w w':=by
 refine al.start abD rfl (US rfl) ?_
 rw[jB]
 have hN:=ak.nil w none_
 have bW:=(U5.1 ha).1
 have eI:=(U5.1 hb).1
 refine RW.seq (RW.region ?_)
 refine RL.op rfl rfl (bq (cs:=[.int .i64 (n),mv]) rfl rfl hN ?_)
 clear hN
 intro g1 w1 (hN:ak w none_ w1 [_])
 refine RL.ev (v:=.bool false) rfl rfl aa (RL.nil (ag (RW.seq ?_)))
 replace hN:=hN.ext (Ext.drew w1)
 refine RW.cb rfl (fun u=>ak w none_ u [.aA g1 [.int .i64 (n),mv] 24]) 14 [(0,0),(1,0),(2,0),(3,0),(4,0),(5,0),(6,0),(7,0),(8,0),(9,0),(10,0),(11,0),(12,0),(13,0)] (by intro _ _ _ h;exact h) (by kernel_rfl) hN (RQ.ev rfl rfl (fun w hS=>(ah U4 rfl dY (by decide) rfl)) (RQ.ev rfl rfl (fun w hS=>(aj Va rfl rfl (hS.aA 0 rfl) rfl)) (RQ.ev (v:=.int .i64 (k)) rfl rfl (fun w hS=>U) (RQ.ev rfl rfl (fun w hS=>(bn Va cq aU (by decide) (hm.o.now hS) rfl rfl (by omega) (by omega))) (RQ.ev rfl rfl (fun w hS=>(cH (m:=(k).toNat) (b:=0) Ve rfl bu (by decide) aU (hm.o.now hS) ha rfl rfl)) (RQ.ev rfl rfl (fun w hS=>(c9 (m:=(k).toNat) (j:=2) (a:=a) UU rfl aU (hm.o.now hS) rfl ha rfl)) (RQ.ev rfl rfl (fun w hS=>(ah U4 rfl dY (by decide) rfl)) (RQ.ev rfl rfl (fun w hS=>(aj Va rfl rfl (hS.aA 0 rfl) rfl)) (RQ.ev (v:=.int .i64 (q)) rfl rfl (fun w hS=>U) ?_)))))))))
 refine RQ.ev rfl rfl (fun w hS=>(bn Va cq aU (by decide) (hm.o.now hS) rfl rfl (by omega) (by omega))) (RQ.ev rfl rfl (fun w hS=>(cH (m:=(q).toNat) (b:=0) Ve rfl bu (by decide) aU (hm.o.now hS) hb rfl rfl)) (RQ.ev rfl rfl (fun w hS=>(c9 (m:=(q).toNat) (j:=2) (a:=b) UU rfl aU (hm.o.now hS) rfl hb rfl)) (RQ.ev rfl rfl (fun w hS=>(aV rfl rfl)) (RQ.ev (v:=.bool (decide (a.2.2<b.2.2))) rfl rfl (fun w hS=>aa) (RQ.done (by kernel_rfl) (ag (RW.ret (aL (RV.tmp rfl) ?_))))))))
 exact⟨rfl,hN.aE⟩
theorem Ei (n:Nat) (lv:Value) (l:List Int) (gm:Nat) (mv:Value) (ar:List I3) (w:World) (hl:Sl vI w lv l) (hb:fV w gm [.int .i64 (n:Int),mv] 24) (hm:Sm bf w mv ar) (eP:∀a∈ar,Gx n a) (hv:∀k∈l,0≤k∧k<(ar.length:Int)) (hn:n≤16777216) (wu:l.length≤67108864):al UY 152 #[.agg #[.int .i64 (n:Int),mv],lv,.func (.func 145) #[] #[.pointer (some ⟨gm,0,none⟩)],.func (.func 146) #[] #[.pointer (some ⟨gm,0,none⟩)]] w fun r w'=>∃bv ev bs es os Hi,r=.agg #[bv,ev]∧ak w none_ w' [.own vI 3 bv bs,.cV bf 3 246 ev es]∧Cs n bs (f1 (c7 ar (·.1) os) n)∧es=os.map (po ar (·.2.1))∧Laid Hi (c7 ar (·.1) Hi) os Hi.length∧Laid l (c7 ar (·.2.1) l) Hi l.length:=by
 refine al.start Y1 rfl (US rfl) ?_
 rw[p7]
 have hN:=ak.nil w none_
 refine RW.seq (RW.region ?_)
 refine RL.op rfl rfl (bq (cs:=[.int .i64 ((n:Int)),mv]) rfl rfl hN ?_)
 clear hN
 intro g1 w1 (hN:ak w none_ w1 [_])
 refine RL.op rfl rfl (aX (cs:=[.slice none 0 0,.slice none 0 0]) mw rfl hN ?_)
 clear hN
 intro g2 w2 (hN:ak w none_ w2 [_,_])
 refine RL.nil (ag (RW.seq (RW.region (RL.ev rfl rfl (ah U4 rfl bu (by decide) rfl) (RL.ev rfl rfl (aj UU rfl rfl (hN.aA 1 rfl) rfl) (RL.ev rfl rfl (an rfl rfl rfl ((bc (by omega) (by omega)).trans (by omega:(n:Int)+1=((n+1:Nat):Int)))) ?_))))))
 refine RL.op rfl rfl (iy (enc:=vI) (z:=0) UW fT rfl hN rfl (by omega) (by omega) (by omega) ?_)
 clear hN
 intro v3 w3 (hN:ak w none_ w3 [_,_,_])
 refine RL.ev rfl rfl (bh (cs:=[v3,.slice none 0 0]) VT mw (places:=#[(0,1),(1,1)]) (by intro w;kernel_rfl) (pl:=[(0,.tmp 16)]) rfl (ps:=[(0,v3)]) rfl (zc:=[.slice none 0 0,.slice none 0 0]) rfl (aP (vs:=[v3]) (hN.sl 0 rfl).cO rfl (US rfl) rfl)) ?_
 refine RL.op rfl rfl (aX (cs:=[.slice none 0 0,.slice none 0 0]) mw rfl hN ?_)
 clear hN
 intro g4 w4 (hN:ak w none_ w4 [_,_,_,_])
 refine RL.op rfl rfl (aC (vs:=[v3,.slice none 0 0]) ld rfl rfl rfl (by intro u hu;simp only[U9,U2,or_false]at hu;rcases hu with rfl|rfl<;>first|rfl|exact(hN.sl 1 rfl).bJ) hN 0 rfl rfl ?_)
 clear hN
 intro w5 (hN:ak w none_ w5 [_,_,_,_])
 refine RL.nil (ag ?_)
 iterate 2 refine RW.seq ?_
 replace hN:=hN.ext (Ext.drew w5)
 refine RW.cb rfl (fun u=>ak w none_ u [.aA g4 [v3,.slice none 0 0] 209,.own vI 3 (v3) (Vm (n+1) 0),.aA g2 [.slice none 0 0,.slice none 0 0] 209,.aA g1 [.int .i64 ((n:Int)),mv] 24]) 11 [(0,0),(1,0),(2,0),(3,0),(4,0),(5,0),(7,0),(10,0),(6,1),(8,1),(9,1)] (by intro _ _ _ h;exact h) (by kernel_rfl) hN (RQ.ev rfl rfl (fun w hS=>(ah U4 rfl bu (by decide) rfl)) (RQ.ev rfl rfl (fun w hS=>(aj UU rfl rfl (hS.aA 3 rfl) rfl)) (RQ.ev rfl rfl (fun w hS=>(ah U4 rfl bu (by decide) rfl)) (RQ.ev rfl rfl (fun w hS=>(aj UU rfl rfl (hS.aA 3 rfl) rfl)) (RQ.ev (v:=lv) rfl rfl (fun w hS=>U) (RQ.ev (v:=.func (.func 146) #[] #[.pointer (some ⟨gm,0,none⟩)]) rfl rfl (fun w hS=>U) (RQ.ev (v:=.func (.func 145) #[] #[.pointer (some ⟨gm,0,none⟩)]) rfl rfl (fun w hS=>U) (RQ.ev (v:=.int .i64 (0)) rfl rfl (fun w hS=>U) ?_))))))))
 refine RQ.do rfl rfl (cF Xh rfl rfl rfl rfl rfl ((oS n _ l gm _ ar _ (hl.o.now hN) (hb.ext hN.aE) (hm.o.now hN) eP hv (by omega) (by omega)).mono ?_))
 rintro v6 w6 ⟨xV,cx,EP,aW⟩
 replace hN:ak w none_ w6 [_,_,_,_,_]:=hN.bx cx aW
 clear cx aW
 have EE:=EP.perm (eF _ _ _)
 have PC:=EE.length_eq
 have Er:∀x∈xV,0≤x∧x<(ar.length:Int):=fun x hx=>hv x (EE.mem_iff.1 hx)
 refine⟨(hN.sub [1,2,3,4] (by decide) rfl),?_⟩
 refine RQ.do rfl rfl (cF Xh rfl rfl rfl rfl rfl ((lM n _ xV gm _ ar _ (hN.sl 0 rfl) (hb.ext hN.aE) (hm.o.now hN) eP Er (by omega) (by omega)).mono ?_))
 rintro v7 w7 ⟨km,cx,EO,aW⟩
 replace hN:ak w none_ w7 [_,_,_,_,_,_]:=hN.bx cx aW
 clear cx aW
 have ED:=EO.perm (eF _ _ _)
 have PB:=ED.length_eq
 have Ep:∀x∈km,0≤x∧x<(ar.length:Int):=fun x hx=>Er x (ED.mem_iff.1 hx)
 refine⟨(hN.sub [2,3,4,5] (by decide) rfl),?_⟩
 have KU:=(hN.sl 0 rfl).aY
 refine RQ.do rfl rfl (dQ.ev (aQ UW (hN.sl 0 rfl) rfl) ⟨(hN.sub [2,3,4,5] (by decide) rfl),?_⟩)
 replace hN:=hN.eK bf 3 246
 replace hN:ak w none_ w7 [.cV bf 3 246 (.slice none 0 0) ([]),.own vI 3 (v7) (km),.own vI 3 (v6) (xV),.aA g4 [v3,.slice none 0 0] 209,.own vI 3 (v3) (Vm (n+1) 0),.aA g2 [.slice none 0 0,.slice none 0 0] 209,.aA g1 [.int .i64 ((n:Int)),mv] 24]:=hN
 have ql:=eF ar (·.1) km
 have Aq:∀x∈(c7 ar (·.1) km),0≤x:=mG Ep (fun a ha=>by obtain⟨h0,_,h2,_⟩:=eP a ha;first|exact h0|exact h2)
 refine RQ.done (by kernel_rfl) (ag (RW.block ?_))
 refine RW.loop (fun k R0 bT=>∃cs:List Int,∃ve:Value,∃es:List I3,∃i:Nat,R0 2=.func (.func 145) #[] #[.pointer (some ⟨gm,0,none⟩)]∧R0 3=.func (.func 146) #[] #[.pointer (some ⟨gm,0,none⟩)]∧R0 4=.pointer (some ⟨g1,0,none⟩)∧R0 8=.pointer (some ⟨g2,0,none⟩)∧R0 9=.pointer (some ⟨g4,0,none⟩)∧R0 26=v7∧R0 27=.int .i64 ((km.length:Int))∧R0 28=.int .i64 ((i:Int))∧ak w none_ bT [.cV bf 3 246 (ve) (es),.own vI 3 (v7) (km),.own vI 3 (v6) (xV),.aA g4 [v3,ve] 209,.own vI 3 (v3) (cs),.aA g2 [.slice none 0 0,.slice none 0 0] 209,.aA g1 [.int .i64 ((n:Int)),mv] 24]∧(i+k=km.length)∧(Cs n cs (f0 (c7 ar (·.1) km) i))∧(es=(km.take i).map (po ar (·.2.1)))∧(es.length=i)) (km.length) ?_ ?_
 exact⟨Vm (n+1) 0,.slice none 0 0,[],0,rfl,rfl,rfl,rfl,rfl,rfl,rfl,rfl,hN,by omega,oy,rfl,rfl⟩
 clear hN
 rintro k R0 bT ⟨cs,ve,es,i,bF,ca,cg,cl,dc,fC,yw,yv,hN,eR,pW,KC,ef⟩
 have bY:∃b6,R0=(aZ (aZ (aZ (aZ (aZ (aZ (aZ (aZ b6 2 _) 3 _) 4 _) 8 _) 9 _) 26 _) 27 _) 28 _):=⟨R0,by rw[ai bF,ai ca,ai cg,ai cl,ai dc,ai fC,ai yw,ai yv]⟩
 obtain⟨b6,rfl⟩:=bY
 clear bF ca cg cl dc fC yw yv
 refine RW.seq (RW.region (RL.ev rfl rfl (aV rfl rfl) (RL.nil (ag (RW.seq ?_)))))
 refine RW.aN _ rfl (fun bW=>?_) (fun bW=>?_)
 refine RW.skip (ag (RW.seq (RW.block (RW.seq (RW.region (RL.ev rfl rfl (aB UW bu (hN.sl 1 rfl) rfl rfl (by omega) (by omega)) ?_))))))
 have aw:∃a_,(km)[i]?=some a_:=⟨_,UT (by omega)⟩
 obtain⟨ap,bG⟩:=aw
 refine RL.ev rfl rfl (aF (m:=i) (a:=ap) UU rfl (hN.sl 1 rfl) rfl bG) (RL.ev (v:=.int .i64 (ap)) rfl rfl aa ?_)
 have aw:=Ep ap (UZ bG)
 obtain⟨M5,M4⟩:=aw
 have aw:∃a_,ar[(ap).toNat]?=some a_:=⟨_,UT (by omega)⟩
 obtain⟨br,Dj⟩:=aw
 refine RL.nil (ag (RW.seq ?_))
 replace hN:=hN.ext (Ext.drew bT)
 refine RW.cb rfl (fun u=>ak w none_ u [.own vI 3 (v7) (km),.own vI 3 (v6) (xV),.aA g4 [v3,ve] 209,.own vI 3 (v3) (cs),.aA g2 [.slice none 0 0,.slice none 0 0] 209,.aA g1 [.int .i64 ((n:Int)),mv] 24]) 16 [(0,0),(1,0),(2,0),(3,0),(5,0),(6,0),(7,0),(8,0),(9,0),(10,0),(11,0),(4,1),(12,0),(13,1),(14,1),(15,0),(16,2)] (by intro _ _ _ h;exact h) (by kernel_rfl) (hN.sub [1,2,3,4,5,6] (by decide) rfl) (RQ.ev rfl rfl (fun w hS=>(ah VT rfl uz (by decide) rfl)) (RQ.ev rfl rfl (fun w hS=>(aj W5 rfl rfl (hS.aA 2 rfl) rfl)) (RQ.ev (v:=.func (.func 146) #[] #[.pointer (some ⟨gm,0,none⟩)]) rfl rfl (fun w hS=>U) (RQ.ev (v:=.int .i64 (ap)) rfl rfl (fun w hS=>U) (RQ.ev rfl rfl (fun w hS=>(ah U4 rfl dY (by decide) rfl)) (RQ.ev rfl rfl (fun w hS=>(aj Va rfl rfl (hS.aA 5 rfl) rfl)) (RQ.ev (v:=.int .i64 (ap)) rfl rfl (fun w hS=>U) (RQ.ev rfl rfl (fun w hS=>(bn Va cq aU (by decide) (hm.o.now hS) rfl rfl (by omega) (by omega))) (RQ.ev rfl rfl (fun w hS=>(cH (m:=(ap).toNat) (b:=0) Ve rfl bu (by decide) aU (hm.o.now hS) Dj rfl rfl)) ?_)))))))))
 refine RQ.ev rfl rfl (fun w hS=>(c9 (m:=(ap).toNat) (j:=2) (a:=br) UU rfl aU (hm.o.now hS) rfl Dj rfl)) (RQ.ev (v:=.int .i64 (ap)) rfl rfl (fun w hS=>U) ?_)
 have EU:0≤ap∧ap<(ar.length:Int):=⟨by omega,by omega⟩
 have aw:∃a_,ar[(ap).toNat]?=some a_:=⟨_,UT (by omega)⟩
 obtain⟨Lc,yO⟩:=aw
 have aw:=eP Lc (UZ yO)
 obtain⟨MG,MF,ME,MD,MC,MB⟩:=aw
 refine RQ.do rfl rfl (bB (first:=#[]) (captured:=#[.pointer (some ⟨gm,0,none⟩)]) (v0:=.int .i64 (ap)) (args:=#[.int .i64 (ap),.pointer (some ⟨gm,0,none⟩)]) Xg rfl rfl (by simp) rfl rfl ((jk (ap) gm ((n:Int)) _ ar Lc _ (hb.ext hN.aE) (hm.o.now hN) EU.1 yO).mono ?_))
 rintro _ w9 ⟨rfl,aW⟩
 replace hN:=hN.ext aW
 clear aW
 refine⟨(hN.sub [1,2,3,4,5,6] (by decide) rfl),?_⟩
 have sE:br=Lc:=Vq (Dj.symm.trans yO)
 subst sE
 refine RQ.ev rfl rfl (fun w hS=>(bh (cs:=[.int .i64 (br.2.1),.int .i64 (br.2.2),.int .i64 (ap)]) aae AR (places:=#[(0,1),(1,1),(2,1)]) (by intro w;kernel_rfl) (pl:=[(0,.tmp 36),(1,.tmp 42),(2,.tmp 43)]) rfl (ps:=[(0,.int .i64 (br.2.1)),(1,.int .i64 (br.2.2)),(2,.int .i64 (ap))]) rfl (zc:=[.int .i64 (0),.int .i64 (0),.int .i64 (0)]) rfl (aP (vs:=[.int .i64 (br.2.1)]) rfl rfl (US rfl) (aP (vs:=[.int .i64 (br.2.2)]) rfl rfl (US rfl) (aP (vs:=[.int .i64 (ap)]) rfl rfl (US rfl) rfl))))) ?_
 refine RQ.do rfl rfl (iz (cf:=bf) (s:=3) (pl:=[(0,.tmp 44)]) (ps:=[(0,.agg #[.int .i64 (br.2.1),.int .i64 (br.2.2),.int .i64 (ap)])]) (zc:=[.int .i64 (0),.int .i64 (0),.int .i64 (0)]) (l:=[(br.2.1,br.2.2,ap)]) W5 wi (by kernel_rfl) rfl rfl (aP (vs:=[.int .i64 (br.2.1),.int .i64 (br.2.2),.int .i64 (ap)]) rfl rfl (US rfl) rfl) aU rfl (by decide) (by decide) (by decide) hN ?_)
 clear hN
 intro I4 jj (hN:ak w none_ jj [_,_,_,_,_,_,_,_])
 refine⟨(hN.sub [2,3,4,5,6,7] (by decide) rfl),?_⟩
 refine RQ.do rfl rfl (ez W5 wi rfl (by decide) iB aU hN 1 rfl rfl (hN.sm 0 rfl) rfl (by rw[ef];simp only[U3,U6,Vc];omega) (by decide) ?_)
 clear hN
 intro xx iP (hN:ak w none_ iP [_,_,_,_,_,_,_,_])
 refine⟨(hN.sub [2,3,4,5,6,7] (by decide) rfl),?_⟩
 refine RQ.ev rfl rfl (fun w hS=>(ah VT rfl uz (by decide) rfl)) ?_
 refine RQ.last rfl rfl (b9 uz rfl rfl (hN.sm 1 rfl).cO (hN.sm 1 rfl).bJ hN 4 rfl (US rfl) ?_)
 clear hN
 intro kC (hN:ak w none_ kC [_,_,_,_,_,_,_,_])
 refine RZ.done (by kernel_rfl) (ag ?_)
 have Di:=pW.len
 replace hN:=hN.ext (Ext.drew kC)
 refine RW.cb rfl (fun u=>ak w none_ u [.cV bf 3 246 (.slice (some ⟨I4,0,none⟩) 1 1) ([(br.2.1,br.2.2,ap)]),.cV bf 3 246 (xx) (es++[(br.2.1,br.2.2,ap)]),.own vI 3 (v7) (km),.own vI 3 (v6) (xV),.aA g4 [v3,xx] 209,.own vI 3 (v3) (cs),.aA g2 [.slice none 0 0,.slice none 0 0] 209,.aA g1 [.int .i64 ((n:Int)),mv] 24]) 10 [(0,0),(1,0),(2,0),(3,0),(4,1),(5,0),(6,0),(7,0),(8,0),(9,0),(10,2)] (by intro _ _ _ h;exact h) (by kernel_rfl) hN (RQ.ev rfl rfl (fun w hS=>(ah VT rfl b7 (by decide) rfl)) (RQ.ev rfl rfl (fun w hS=>(aj UW rfl rfl (hS.aA 4 rfl) rfl)) (RQ.ev (v:=.func (.func 145) #[] #[.pointer (some ⟨gm,0,none⟩)]) rfl rfl (fun w hS=>U) (RQ.ev (v:=.int .i64 (ap)) rfl rfl (fun w hS=>U) ?_))))
 have ER:0≤ap∧ap<(ar.length:Int):=⟨by omega,by omega⟩
 have aw:∃a_,ar[(ap).toNat]?=some a_:=⟨_,UT (by omega)⟩
 obtain⟨CZ,sF⟩:=aw
 have aw:=eP CZ (UZ sF)
 obtain⟨Mo,Mn,Mm,Ml,Mk,Mj⟩:=aw
 refine RQ.do rfl rfl (bB (first:=#[]) (captured:=#[.pointer (some ⟨gm,0,none⟩)]) (v0:=.int .i64 (ap)) (args:=#[.int .i64 (ap),.pointer (some ⟨gm,0,none⟩)]) Xf rfl rfl (by simp) rfl rfl ((gj (ap) gm ((n:Int)) _ ar CZ _ (hb.ext hN.aE) (hm.o.now hN) ER.1 sF).mono ?_))
 rintro _ lF ⟨rfl,aW⟩
 replace hN:=hN.ext aW
 clear aW
 refine⟨hN,?_⟩
 have sE:br=CZ:=Vq (Dj.symm.trans sF)
 subst sE
 refine RQ.ev rfl rfl (fun w hS=>(an rfl rfl rfl (bc (by omega) (by omega)))) (RQ.ev rfl rfl (fun w hS=>(aB UW bu (hS.sl 5 rfl) rfl rfl (by omega) (by omega))) ?_)
 have aw:∃a_,(cs)[(br.1+1).toNat]?=some a_:=⟨_,UT (by omega)⟩
 obtain⟨ac,jC⟩:=aw
 refine RQ.ev rfl rfl (fun w hS=>(aF (m:=(br.1+1).toNat) (a:=ac) UU rfl (hS.sl 5 rfl) rfl jC)) ?_
 have fF:=qW pW (gE bG sF) (by omega) (by omega) jC
 obtain⟨qR,qQ,fF⟩:=fF
 refine RQ.ev rfl rfl (fun w hS=>(an rfl rfl rfl (bc (by omega) (by omega)))) (RQ.ev rfl rfl (fun w hS=>(aB UW bu (hS.sl 5 rfl) rfl rfl (by omega) (by omega))) ?_)
 refine RQ.last rfl rfl (ck (m:=(br.1+1).toNat) (a:=(ac+1)) bu hN 5 rfl rfl (by omega) rfl rfl rfl rfl ?_)
 clear hN
 intro oL (hN:ak w none_ oL [_,_,_,_,_,_,_,_])
 refine RZ.done (by kernel_rfl) (a7 (ag (RW.region (RL.ev rfl rfl (an rfl rfl rfl (bc (by omega) (by omega))) (RL.ev (v:=.int .i64 ((i:Int)+1)) rfl rfl U (RL.nil (ag ?_)))))))
 exact⟨k-1,by omega,(cs).set (br.1+1).toNat ((ac+1)),xx,es++[(br.2.1,br.2.2,ap)],i+1,rfl,rfl,rfl,rfl,rfl,rfl,rfl,rfl,(hN.sub [1,2,3,4,5,6,7] (by decide) rfl),by omega,fF,by rw[cZ _ bG,KC,vc sF],by rw[UX,ef];rfl⟩
 refine RW.exit ?_
 iterate 2 refine bm ?_
 refine aO (ag ?_)
 iterate 2 refine RW.seq ?_
 refine RW.region (RL.ev rfl rfl (ah U4 rfl bu (by decide) rfl) (RL.ev rfl rfl (aj UU rfl rfl (hN.aA 6 rfl) rfl) (RL.ev (v:=.int .i64 (0)) rfl rfl U (RL.nil (ag (RW.block ?_))))))
 refine RW.loop (fun k1 R1 fI=>∃lD:List Int,∃v:Nat,R1 8=.pointer (some ⟨g2,0,none⟩)∧R1 9=.pointer (some ⟨g4,0,none⟩)∧R1 60=.int .i64 ((n:Int))∧R1 61=.int .i64 ((v:Int))∧ak w none_ fI [.cV bf 3 246 (ve) (es),.own vI 3 (v7) (km),.own vI 3 (v6) (xV),.aA g4 [v3,ve] 209,.own vI 3 (v3) (lD),.aA g2 [.slice none 0 0,.slice none 0 0] 209,.aA g1 [.int .i64 ((n:Int)),mv] 24]∧(v+k1=n)∧(Cs n lD (f1 (c7 ar (·.1) km) v))) (n) ?_ ?_
 have KG:Cs n cs (f0 (c7 ar (·.1) km) (c7 ar (·.1) km).length):=by rw[ql,←(show i=km.length by omega)];exact pW
 exact⟨cs,0,rfl,rfl,rfl,rfl,hN,by omega,ox KG Aq⟩
 clear hN
 rintro k1 R1 fI ⟨lD,v,cl,dc,ym,yl,hN,OQ,mm⟩
 have bY:∃gY,R1=(aZ (aZ (aZ (aZ gY 8 _) 9 _) 60 _) 61 _):=⟨R1,by rw[ai cl,ai dc,ai ym,ai yl]⟩
 obtain⟨gY,rfl⟩:=bY
 clear cl dc ym yl
 refine RW.seq (RW.region (RL.ev rfl rfl (aV rfl rfl) (RL.nil (ag (RW.seq ?_)))))
 refine RW.aN _ rfl (fun Ao=>?_) (fun Ao=>?_)
 refine RW.skip (ag (RW.seq (RW.block (RW.seq (RW.region (RL.ev (v:=.int .i64 ((v:Int))) rfl rfl U (RL.ev (v:=.int .i64 ((v:Int))) rfl rfl aa (RL.nil (ag ?_)))))))))
 have Di:=mm.len
 have aw:∃a_,lD[v+1]?=some a_:=⟨_,UT (by omega)⟩
 obtain⟨ax,Br⟩:=aw
 have aw:∃a_,lD[v]?=some a_:=⟨_,UT (by omega)⟩
 obtain⟨ay,lI⟩:=aw
 have fF:=qV mm (by omega) Br lI
 obtain⟨qR,qQ,OK,OJ,fF⟩:=fF
 replace hN:=hN.ext (Ext.drew fI)
 refine RW.cb rfl (fun u=>ak w none_ u [.cV bf 3 246 (ve) (es),.own vI 3 (v7) (km),.own vI 3 (v6) (xV),.aA g4 [v3,ve] 209,.own vI 3 (v3) (lD),.aA g2 [.slice none 0 0,.slice none 0 0] 209,.aA g1 [.int .i64 ((n:Int)),mv] 24]) 13 [(0,0),(1,0),(2,0),(3,0),(4,0),(5,0),(6,0),(7,0),(8,0),(9,0),(10,0),(11,0),(12,0),(13,2)] (by intro _ _ _ h;exact h) (by kernel_rfl) hN (RQ.ev rfl rfl (fun w hS=>(ah VT rfl b7 (by decide) rfl)) (RQ.ev rfl rfl (fun w hS=>(aj UW rfl rfl (hS.aA 3 rfl) rfl)) (RQ.ev (v:=.int .i64 ((v:Int))) rfl rfl (fun w hS=>U) (RQ.ev rfl rfl (fun w hS=>(an rfl rfl rfl ((bc (by omega) (by omega)).trans (by omega:(v:Int)+1=((v+1:Nat):Int))))) (RQ.ev rfl rfl (fun w hS=>(aB UW bu (hS.sl 4 rfl) rfl rfl (by omega) (by omega))) (RQ.ev rfl rfl (fun w hS=>(aF (m:=(v+1)) (a:=ax) UU rfl (hS.sl 4 rfl) rfl Br)) (RQ.ev rfl rfl (fun w hS=>(ah VT rfl b7 (by decide) rfl)) (RQ.ev rfl rfl (fun w hS=>(aj UW rfl rfl (hS.aA 3 rfl) rfl)) (RQ.ev (v:=.int .i64 ((v:Int))) rfl rfl (fun w hS=>U) ?_)))))))))
 refine RQ.ev rfl rfl (fun w hS=>(aB UW bu (hS.sl 4 rfl) rfl rfl (by omega) (by omega))) (RQ.ev rfl rfl (fun w hS=>(aF (m:=v) (a:=ay) UU rfl (hS.sl 4 rfl) rfl lI)) (RQ.ev rfl rfl (fun w hS=>(an rfl rfl rfl (bc (by omega) (by omega)))) (RQ.ev rfl rfl (fun w hS=>(aB UW bu (hS.sl 4 rfl) rfl rfl (by omega) (by omega))) ?_)))
 refine RQ.last rfl rfl (ck (m:=(v+1)) (a:=(ax+ay)) bu hN 4 rfl rfl (by omega) rfl rfl rfl rfl ?_)
 clear hN
 intro zy (hN:ak w none_ zy [_,_,_,_,_,_,_])
 refine RZ.done (by kernel_rfl) (a7 (ag (RW.region (RL.ev rfl rfl (an rfl rfl rfl (bc (by omega) (by omega))) (RL.ev (v:=.int .i64 ((v:Int)+1)) rfl rfl U (RL.nil (ag ?_)))))))
 exact⟨k1-1,by omega,(lD).set (v+1) ((ax+ay)),v+1,rfl,rfl,rfl,rfl,hN,by omega,fF⟩
 refine RW.exit ?_
 iterate 2 refine bm ?_
 refine aO (ag (RW.seq (RW.region (RL.ev rfl rfl (aG (cs:=[v3,ve]) VT rfl ld rfl (hN.aA 3 rfl)) ?_))))
 refine RL.op rfl rfl (aC (vs:=[v3,ve]) ld rfl rfl rfl (by intro u hu;simp only[U9,U2,or_false]at hu;rcases hu with rfl|rfl<;>first|rfl|exact(hN.sl 4 rfl).bJ|exact(hN.sm 0 rfl).bJ) hN 5 rfl rfl ?_)
 clear hN
 intro vz (hN:ak w none_ vz [_,_,_,_,_,_,_])
 refine RL.nil (ag (RW.ret (aL (RV.cell rfl rfl (hN.aA 5 rfl) VT rfl ld) ?_)))
 have OR:v=n:=by omega
 subst OR
 have fk:i=km.length:=by omega
 rw[fk,Vz]at KC
 exact⟨_,_,lD,es,_,_,rfl,hN.sub [4,0] (by decide) rfl,mm,KC,EO,EP⟩
theorem JR (n:Nat) (lv:Value) (l:List Int) (gm:Nat) (mv:Value) (ar:List I3) (w:World) (hl:Sl vI w lv l) (hb:fV w gm [.int .i64 (n:Int),mv] 24) (hm:Sm bf w mv ar) (eP:∀a∈ar,Gx n a) (hv:∀k∈l,0≤k∧k<(ar.length:Int)) (hn:n≤16777216) (wu:l.length≤67108864):al UY 152 #[.agg #[.int .i64 (n:Int),mv],lv,.func (.func 146) #[] #[.pointer (some ⟨gm,0,none⟩)],.func (.func 145) #[] #[.pointer (some ⟨gm,0,none⟩)]] w fun r w'=>∃bv ev bs es os Hi,r=.agg #[bv,ev]∧ak w none_ w' [.own vI 3 bv bs,.cV bf 3 246 ev es]∧Cs n bs (f1 (c7 ar (·.2.1) os) n)∧es=os.map (po ar (·.1))∧Laid Hi (c7 ar (·.2.1) Hi) os Hi.length∧Laid l (c7 ar (·.1) l) Hi l.length:=by
 refine al.start Y1 rfl (US rfl) ?_
 rw[p7]
 have hN:=ak.nil w none_
 refine RW.seq (RW.region ?_)
 refine RL.op rfl rfl (bq (cs:=[.int .i64 ((n:Int)),mv]) rfl rfl hN ?_)
 clear hN
 intro g1 w1 (hN:ak w none_ w1 [_])
 refine RL.op rfl rfl (aX (cs:=[.slice none 0 0,.slice none 0 0]) mw rfl hN ?_)
 clear hN
 intro g2 w2 (hN:ak w none_ w2 [_,_])
 refine RL.nil (ag (RW.seq (RW.region (RL.ev rfl rfl (ah U4 rfl bu (by decide) rfl) (RL.ev rfl rfl (aj UU rfl rfl (hN.aA 1 rfl) rfl) (RL.ev rfl rfl (an rfl rfl rfl ((bc (by omega) (by omega)).trans (by omega:(n:Int)+1=((n+1:Nat):Int)))) ?_))))))
 refine RL.op rfl rfl (iy (enc:=vI) (z:=0) UW fT rfl hN rfl (by omega) (by omega) (by omega) ?_)
 clear hN
 intro v3 w3 (hN:ak w none_ w3 [_,_,_])
 refine RL.ev rfl rfl (bh (cs:=[v3,.slice none 0 0]) VT mw (places:=#[(0,1),(1,1)]) (by intro w;kernel_rfl) (pl:=[(0,.tmp 16)]) rfl (ps:=[(0,v3)]) rfl (zc:=[.slice none 0 0,.slice none 0 0]) rfl (aP (vs:=[v3]) (hN.sl 0 rfl).cO rfl (US rfl) rfl)) ?_
 refine RL.op rfl rfl (aX (cs:=[.slice none 0 0,.slice none 0 0]) mw rfl hN ?_)
 clear hN
 intro g4 w4 (hN:ak w none_ w4 [_,_,_,_])
 refine RL.op rfl rfl (aC (vs:=[v3,.slice none 0 0]) ld rfl rfl rfl (by intro u hu;simp only[U9,U2,or_false]at hu;rcases hu with rfl|rfl<;>first|rfl|exact(hN.sl 1 rfl).bJ) hN 0 rfl rfl ?_)
 clear hN
 intro w5 (hN:ak w none_ w5 [_,_,_,_])
 refine RL.nil (ag ?_)
 iterate 2 refine RW.seq ?_
 replace hN:=hN.ext (Ext.drew w5)
 refine RW.cb rfl (fun u=>ak w none_ u [.aA g4 [v3,.slice none 0 0] 209,.own vI 3 (v3) (Vm (n+1) 0),.aA g2 [.slice none 0 0,.slice none 0 0] 209,.aA g1 [.int .i64 ((n:Int)),mv] 24]) 11 [(0,0),(1,0),(2,0),(3,0),(4,0),(5,0),(7,0),(10,0),(6,1),(8,1),(9,1)] (by intro _ _ _ h;exact h) (by kernel_rfl) hN (RQ.ev rfl rfl (fun w hS=>(ah U4 rfl bu (by decide) rfl)) (RQ.ev rfl rfl (fun w hS=>(aj UU rfl rfl (hS.aA 3 rfl) rfl)) (RQ.ev rfl rfl (fun w hS=>(ah U4 rfl bu (by decide) rfl)) (RQ.ev rfl rfl (fun w hS=>(aj UU rfl rfl (hS.aA 3 rfl) rfl)) (RQ.ev (v:=lv) rfl rfl (fun w hS=>U) (RQ.ev (v:=.func (.func 145) #[] #[.pointer (some ⟨gm,0,none⟩)]) rfl rfl (fun w hS=>U) (RQ.ev (v:=.func (.func 146) #[] #[.pointer (some ⟨gm,0,none⟩)]) rfl rfl (fun w hS=>U) (RQ.ev (v:=.int .i64 (0)) rfl rfl (fun w hS=>U) ?_))))))))
 refine RQ.do rfl rfl (cF Xh rfl rfl rfl rfl rfl ((lM n _ l gm _ ar _ (hl.o.now hN) (hb.ext hN.aE) (hm.o.now hN) eP hv (by omega) (by omega)).mono ?_))
 rintro v6 w6 ⟨xV,cx,EP,aW⟩
 replace hN:ak w none_ w6 [_,_,_,_,_]:=hN.bx cx aW
 clear cx aW
 have EE:=EP.perm (eF _ _ _)
 have PC:=EE.length_eq
 have Er:∀x∈xV,0≤x∧x<(ar.length:Int):=fun x hx=>hv x (EE.mem_iff.1 hx)
 refine⟨(hN.sub [1,2,3,4] (by decide) rfl),?_⟩
 refine RQ.do rfl rfl (cF Xh rfl rfl rfl rfl rfl ((oS n _ xV gm _ ar _ (hN.sl 0 rfl) (hb.ext hN.aE) (hm.o.now hN) eP Er (by omega) (by omega)).mono ?_))
 rintro v7 w7 ⟨km,cx,EO,aW⟩
 replace hN:ak w none_ w7 [_,_,_,_,_,_]:=hN.bx cx aW
 clear cx aW
 have ED:=EO.perm (eF _ _ _)
 have PB:=ED.length_eq
 have Ep:∀x∈km,0≤x∧x<(ar.length:Int):=fun x hx=>Er x (ED.mem_iff.1 hx)
 refine⟨(hN.sub [2,3,4,5] (by decide) rfl),?_⟩
 have KU:=(hN.sl 0 rfl).aY
 refine RQ.do rfl rfl (dQ.ev (aQ UW (hN.sl 0 rfl) rfl) ⟨(hN.sub [2,3,4,5] (by decide) rfl),?_⟩)
 replace hN:=hN.eK bf 3 246
 replace hN:ak w none_ w7 [.cV bf 3 246 (.slice none 0 0) ([]),.own vI 3 (v7) (km),.own vI 3 (v6) (xV),.aA g4 [v3,.slice none 0 0] 209,.own vI 3 (v3) (Vm (n+1) 0),.aA g2 [.slice none 0 0,.slice none 0 0] 209,.aA g1 [.int .i64 ((n:Int)),mv] 24]:=hN
 have ql:=eF ar (·.2.1) km
 have Aq:∀x∈(c7 ar (·.2.1) km),0≤x:=mG Ep (fun a ha=>by obtain⟨h0,_,h2,_⟩:=eP a ha;first|exact h0|exact h2)
 refine RQ.done (by kernel_rfl) (ag (RW.block ?_))
 refine RW.loop (fun k R0 bT=>∃cs:List Int,∃ve:Value,∃es:List I3,∃i:Nat,R0 2=.func (.func 146) #[] #[.pointer (some ⟨gm,0,none⟩)]∧R0 3=.func (.func 145) #[] #[.pointer (some ⟨gm,0,none⟩)]∧R0 4=.pointer (some ⟨g1,0,none⟩)∧R0 8=.pointer (some ⟨g2,0,none⟩)∧R0 9=.pointer (some ⟨g4,0,none⟩)∧R0 26=v7∧R0 27=.int .i64 ((km.length:Int))∧R0 28=.int .i64 ((i:Int))∧ak w none_ bT [.cV bf 3 246 (ve) (es),.own vI 3 (v7) (km),.own vI 3 (v6) (xV),.aA g4 [v3,ve] 209,.own vI 3 (v3) (cs),.aA g2 [.slice none 0 0,.slice none 0 0] 209,.aA g1 [.int .i64 ((n:Int)),mv] 24]∧(i+k=km.length)∧(Cs n cs (f0 (c7 ar (·.2.1) km) i))∧(es=(km.take i).map (po ar (·.1)))∧(es.length=i)) (km.length) ?_ ?_
 exact⟨Vm (n+1) 0,.slice none 0 0,[],0,rfl,rfl,rfl,rfl,rfl,rfl,rfl,rfl,hN,by omega,oy,rfl,rfl⟩
 clear hN
 rintro k R0 bT ⟨cs,ve,es,i,bF,ca,cg,cl,dc,fC,yw,yv,hN,eR,pW,KC,ef⟩
 have bY:∃b6,R0=(aZ (aZ (aZ (aZ (aZ (aZ (aZ (aZ b6 2 _) 3 _) 4 _) 8 _) 9 _) 26 _) 27 _) 28 _):=⟨R0,by rw[ai bF,ai ca,ai cg,ai cl,ai dc,ai fC,ai yw,ai yv]⟩
 obtain⟨b6,rfl⟩:=bY
 clear bF ca cg cl dc fC yw yv
 refine RW.seq (RW.region (RL.ev rfl rfl (aV rfl rfl) (RL.nil (ag (RW.seq ?_)))))
 refine RW.aN _ rfl (fun bW=>?_) (fun bW=>?_)
 refine RW.skip (ag (RW.seq (RW.block (RW.seq (RW.region (RL.ev rfl rfl (aB UW bu (hN.sl 1 rfl) rfl rfl (by omega) (by omega)) ?_))))))
 have aw:∃a_,(km)[i]?=some a_:=⟨_,UT (by omega)⟩
 obtain⟨ap,bG⟩:=aw
 refine RL.ev rfl rfl (aF (m:=i) (a:=ap) UU rfl (hN.sl 1 rfl) rfl bG) (RL.ev (v:=.int .i64 (ap)) rfl rfl aa ?_)
 have aw:=Ep ap (UZ bG)
 obtain⟨M5,M4⟩:=aw
 have aw:∃a_,ar[(ap).toNat]?=some a_:=⟨_,UT (by omega)⟩
 obtain⟨br,Dj⟩:=aw
 refine RL.nil (ag (RW.seq ?_))
 replace hN:=hN.ext (Ext.drew bT)
 refine RW.cb rfl (fun u=>ak w none_ u [.own vI 3 (v7) (km),.own vI 3 (v6) (xV),.aA g4 [v3,ve] 209,.own vI 3 (v3) (cs),.aA g2 [.slice none 0 0,.slice none 0 0] 209,.aA g1 [.int .i64 ((n:Int)),mv] 24]) 16 [(0,0),(1,0),(2,0),(3,0),(5,0),(6,0),(7,0),(8,0),(9,0),(10,0),(11,0),(4,1),(12,0),(13,1),(14,1),(15,0),(16,2)] (by intro _ _ _ h;exact h) (by kernel_rfl) (hN.sub [1,2,3,4,5,6] (by decide) rfl) (RQ.ev rfl rfl (fun w hS=>(ah VT rfl uz (by decide) rfl)) (RQ.ev rfl rfl (fun w hS=>(aj W5 rfl rfl (hS.aA 2 rfl) rfl)) (RQ.ev (v:=.func (.func 145) #[] #[.pointer (some ⟨gm,0,none⟩)]) rfl rfl (fun w hS=>U) (RQ.ev (v:=.int .i64 (ap)) rfl rfl (fun w hS=>U) (RQ.ev rfl rfl (fun w hS=>(ah U4 rfl dY (by decide) rfl)) (RQ.ev rfl rfl (fun w hS=>(aj Va rfl rfl (hS.aA 5 rfl) rfl)) (RQ.ev (v:=.int .i64 (ap)) rfl rfl (fun w hS=>U) (RQ.ev rfl rfl (fun w hS=>(bn Va cq aU (by decide) (hm.o.now hS) rfl rfl (by omega) (by omega))) (RQ.ev rfl rfl (fun w hS=>(cH (m:=(ap).toNat) (b:=0) Ve rfl bu (by decide) aU (hm.o.now hS) Dj rfl rfl)) ?_)))))))))
 refine RQ.ev rfl rfl (fun w hS=>(c9 (m:=(ap).toNat) (j:=2) (a:=br) UU rfl aU (hm.o.now hS) rfl Dj rfl)) (RQ.ev (v:=.int .i64 (ap)) rfl rfl (fun w hS=>U) ?_)
 have EU:0≤ap∧ap<(ar.length:Int):=⟨by omega,by omega⟩
 have aw:∃a_,ar[(ap).toNat]?=some a_:=⟨_,UT (by omega)⟩
 obtain⟨Lc,yO⟩:=aw
 have aw:=eP Lc (UZ yO)
 obtain⟨MG,MF,ME,MD,MC,MB⟩:=aw
 refine RQ.do rfl rfl (bB (first:=#[]) (captured:=#[.pointer (some ⟨gm,0,none⟩)]) (v0:=.int .i64 (ap)) (args:=#[.int .i64 (ap),.pointer (some ⟨gm,0,none⟩)]) Xf rfl rfl (by simp) rfl rfl ((gj (ap) gm ((n:Int)) _ ar Lc _ (hb.ext hN.aE) (hm.o.now hN) EU.1 yO).mono ?_))
 rintro _ w9 ⟨rfl,aW⟩
 replace hN:=hN.ext aW
 clear aW
 refine⟨(hN.sub [1,2,3,4,5,6] (by decide) rfl),?_⟩
 have sE:br=Lc:=Vq (Dj.symm.trans yO)
 subst sE
 refine RQ.ev rfl rfl (fun w hS=>(bh (cs:=[.int .i64 (br.1),.int .i64 (br.2.2),.int .i64 (ap)]) aae AR (places:=#[(0,1),(1,1),(2,1)]) (by intro w;kernel_rfl) (pl:=[(0,.tmp 36),(1,.tmp 42),(2,.tmp 43)]) rfl (ps:=[(0,.int .i64 (br.1)),(1,.int .i64 (br.2.2)),(2,.int .i64 (ap))]) rfl (zc:=[.int .i64 (0),.int .i64 (0),.int .i64 (0)]) rfl (aP (vs:=[.int .i64 (br.1)]) rfl rfl (US rfl) (aP (vs:=[.int .i64 (br.2.2)]) rfl rfl (US rfl) (aP (vs:=[.int .i64 (ap)]) rfl rfl (US rfl) rfl))))) ?_
 refine RQ.do rfl rfl (iz (cf:=bf) (s:=3) (pl:=[(0,.tmp 44)]) (ps:=[(0,.agg #[.int .i64 (br.1),.int .i64 (br.2.2),.int .i64 (ap)])]) (zc:=[.int .i64 (0),.int .i64 (0),.int .i64 (0)]) (l:=[(br.1,br.2.2,ap)]) W5 wi (by kernel_rfl) rfl rfl (aP (vs:=[.int .i64 (br.1),.int .i64 (br.2.2),.int .i64 (ap)]) rfl rfl (US rfl) rfl) aU rfl (by decide) (by decide) (by decide) hN ?_)
 clear hN
 intro I4 jj (hN:ak w none_ jj [_,_,_,_,_,_,_,_])
 refine⟨(hN.sub [2,3,4,5,6,7] (by decide) rfl),?_⟩
 refine RQ.do rfl rfl (ez W5 wi rfl (by decide) iB aU hN 1 rfl rfl (hN.sm 0 rfl) rfl (by rw[ef];simp only[U3,U6,Vc];omega) (by decide) ?_)
 clear hN
 intro xx iP (hN:ak w none_ iP [_,_,_,_,_,_,_,_])
 refine⟨(hN.sub [2,3,4,5,6,7] (by decide) rfl),?_⟩
 refine RQ.ev rfl rfl (fun w hS=>(ah VT rfl uz (by decide) rfl)) ?_
 refine RQ.last rfl rfl (b9 uz rfl rfl (hN.sm 1 rfl).cO (hN.sm 1 rfl).bJ hN 4 rfl (US rfl) ?_)
 clear hN
 intro kC (hN:ak w none_ kC [_,_,_,_,_,_,_,_])
 refine RZ.done (by kernel_rfl) (ag ?_)
 have Di:=pW.len
 replace hN:=hN.ext (Ext.drew kC)
 refine RW.cb rfl (fun u=>ak w none_ u [.cV bf 3 246 (.slice (some ⟨I4,0,none⟩) 1 1) ([(br.1,br.2.2,ap)]),.cV bf 3 246 (xx) (es++[(br.1,br.2.2,ap)]),.own vI 3 (v7) (km),.own vI 3 (v6) (xV),.aA g4 [v3,xx] 209,.own vI 3 (v3) (cs),.aA g2 [.slice none 0 0,.slice none 0 0] 209,.aA g1 [.int .i64 ((n:Int)),mv] 24]) 10 [(0,0),(1,0),(2,0),(3,0),(4,1),(5,0),(6,0),(7,0),(8,0),(9,0),(10,2)] (by intro _ _ _ h;exact h) (by kernel_rfl) hN (RQ.ev rfl rfl (fun w hS=>(ah VT rfl b7 (by decide) rfl)) (RQ.ev rfl rfl (fun w hS=>(aj UW rfl rfl (hS.aA 4 rfl) rfl)) (RQ.ev (v:=.func (.func 146) #[] #[.pointer (some ⟨gm,0,none⟩)]) rfl rfl (fun w hS=>U) (RQ.ev (v:=.int .i64 (ap)) rfl rfl (fun w hS=>U) ?_))))
 have ER:0≤ap∧ap<(ar.length:Int):=⟨by omega,by omega⟩
 have aw:∃a_,ar[(ap).toNat]?=some a_:=⟨_,UT (by omega)⟩
 obtain⟨CZ,sF⟩:=aw
 have aw:=eP CZ (UZ sF)
 obtain⟨Mo,Mn,Mm,Ml,Mk,Mj⟩:=aw
 refine RQ.do rfl rfl (bB (first:=#[]) (captured:=#[.pointer (some ⟨gm,0,none⟩)]) (v0:=.int .i64 (ap)) (args:=#[.int .i64 (ap),.pointer (some ⟨gm,0,none⟩)]) Xg rfl rfl (by simp) rfl rfl ((jk (ap) gm ((n:Int)) _ ar CZ _ (hb.ext hN.aE) (hm.o.now hN) ER.1 sF).mono ?_))
 rintro _ lF ⟨rfl,aW⟩
 replace hN:=hN.ext aW
 clear aW
 refine⟨hN,?_⟩
 have sE:br=CZ:=Vq (Dj.symm.trans sF)
 subst sE
 refine RQ.ev rfl rfl (fun w hS=>(an rfl rfl rfl (bc (by omega) (by omega)))) (RQ.ev rfl rfl (fun w hS=>(aB UW bu (hS.sl 5 rfl) rfl rfl (by omega) (by omega))) ?_)
 have aw:∃a_,(cs)[(br.2.1+1).toNat]?=some a_:=⟨_,UT (by omega)⟩
 obtain⟨ac,jC⟩:=aw
 refine RQ.ev rfl rfl (fun w hS=>(aF (m:=(br.2.1+1).toNat) (a:=ac) UU rfl (hS.sl 5 rfl) rfl jC)) ?_
 have fF:=qW pW (gE bG sF) (by omega) (by omega) jC
 obtain⟨qR,qQ,fF⟩:=fF
 refine RQ.ev rfl rfl (fun w hS=>(an rfl rfl rfl (bc (by omega) (by omega)))) (RQ.ev rfl rfl (fun w hS=>(aB UW bu (hS.sl 5 rfl) rfl rfl (by omega) (by omega))) ?_)
 refine RQ.last rfl rfl (ck (m:=(br.2.1+1).toNat) (a:=(ac+1)) bu hN 5 rfl rfl (by omega) rfl rfl rfl rfl ?_)
 clear hN
 intro oL (hN:ak w none_ oL [_,_,_,_,_,_,_,_])
 refine RZ.done (by kernel_rfl) (a7 (ag (RW.region (RL.ev rfl rfl (an rfl rfl rfl (bc (by omega) (by omega))) (RL.ev (v:=.int .i64 ((i:Int)+1)) rfl rfl U (RL.nil (ag ?_)))))))
 exact⟨k-1,by omega,(cs).set (br.2.1+1).toNat ((ac+1)),xx,es++[(br.1,br.2.2,ap)],i+1,rfl,rfl,rfl,rfl,rfl,rfl,rfl,rfl,(hN.sub [1,2,3,4,5,6,7] (by decide) rfl),by omega,fF,by rw[cZ _ bG,KC,vc sF],by rw[UX,ef];rfl⟩
 refine RW.exit ?_
 iterate 2 refine bm ?_
 refine aO (ag ?_)
 iterate 2 refine RW.seq ?_
 refine RW.region (RL.ev rfl rfl (ah U4 rfl bu (by decide) rfl) (RL.ev rfl rfl (aj UU rfl rfl (hN.aA 6 rfl) rfl) (RL.ev (v:=.int .i64 (0)) rfl rfl U (RL.nil (ag (RW.block ?_))))))
 refine RW.loop (fun k1 R1 fI=>∃lD:List Int,∃v:Nat,R1 8=.pointer (some ⟨g2,0,none⟩)∧R1 9=.pointer (some ⟨g4,0,none⟩)∧R1 60=.int .i64 ((n:Int))∧R1 61=.int .i64 ((v:Int))∧ak w none_ fI [.cV bf 3 246 (ve) (es),.own vI 3 (v7) (km),.own vI 3 (v6) (xV),.aA g4 [v3,ve] 209,.own vI 3 (v3) (lD),.aA g2 [.slice none 0 0,.slice none 0 0] 209,.aA g1 [.int .i64 ((n:Int)),mv] 24]∧(v+k1=n)∧(Cs n lD (f1 (c7 ar (·.2.1) km) v))) (n) ?_ ?_
 have KG:Cs n cs (f0 (c7 ar (·.2.1) km) (c7 ar (·.2.1) km).length):=by rw[ql,←(show i=km.length by omega)];exact pW
 exact⟨cs,0,rfl,rfl,rfl,rfl,hN,by omega,ox KG Aq⟩
 clear hN
 rintro k1 R1 fI ⟨lD,v,cl,dc,ym,yl,hN,OQ,mm⟩
 have bY:∃gY,R1=(aZ (aZ (aZ (aZ gY 8 _) 9 _) 60 _) 61 _):=⟨R1,by rw[ai cl,ai dc,ai ym,ai yl]⟩
 obtain⟨gY,rfl⟩:=bY
 clear cl dc ym yl
 refine RW.seq (RW.region (RL.ev rfl rfl (aV rfl rfl) (RL.nil (ag (RW.seq ?_)))))
 refine RW.aN _ rfl (fun Ao=>?_) (fun Ao=>?_)
 refine RW.skip (ag (RW.seq (RW.block (RW.seq (RW.region (RL.ev (v:=.int .i64 ((v:Int))) rfl rfl U (RL.ev (v:=.int .i64 ((v:Int))) rfl rfl aa (RL.nil (ag ?_)))))))))
 have Di:=mm.len
 have aw:∃a_,lD[v+1]?=some a_:=⟨_,UT (by omega)⟩
 obtain⟨ax,Br⟩:=aw
 have aw:∃a_,lD[v]?=some a_:=⟨_,UT (by omega)⟩
 obtain⟨ay,lI⟩:=aw
 have fF:=qV mm (by omega) Br lI
 obtain⟨qR,qQ,OK,OJ,fF⟩:=fF
 replace hN:=hN.ext (Ext.drew fI)
 refine RW.cb rfl (fun u=>ak w none_ u [.cV bf 3 246 (ve) (es),.own vI 3 (v7) (km),.own vI 3 (v6) (xV),.aA g4 [v3,ve] 209,.own vI 3 (v3) (lD),.aA g2 [.slice none 0 0,.slice none 0 0] 209,.aA g1 [.int .i64 ((n:Int)),mv] 24]) 13 [(0,0),(1,0),(2,0),(3,0),(4,0),(5,0),(6,0),(7,0),(8,0),(9,0),(10,0),(11,0),(12,0),(13,2)] (by intro _ _ _ h;exact h) (by kernel_rfl) hN (RQ.ev rfl rfl (fun w hS=>(ah VT rfl b7 (by decide) rfl)) (RQ.ev rfl rfl (fun w hS=>(aj UW rfl rfl (hS.aA 3 rfl) rfl)) (RQ.ev (v:=.int .i64 ((v:Int))) rfl rfl (fun w hS=>U) (RQ.ev rfl rfl (fun w hS=>(an rfl rfl rfl ((bc (by omega) (by omega)).trans (by omega:(v:Int)+1=((v+1:Nat):Int))))) (RQ.ev rfl rfl (fun w hS=>(aB UW bu (hS.sl 4 rfl) rfl rfl (by omega) (by omega))) (RQ.ev rfl rfl (fun w hS=>(aF (m:=(v+1)) (a:=ax) UU rfl (hS.sl 4 rfl) rfl Br)) (RQ.ev rfl rfl (fun w hS=>(ah VT rfl b7 (by decide) rfl)) (RQ.ev rfl rfl (fun w hS=>(aj UW rfl rfl (hS.aA 3 rfl) rfl)) (RQ.ev (v:=.int .i64 ((v:Int))) rfl rfl (fun w hS=>U) ?_)))))))))
 refine RQ.ev rfl rfl (fun w hS=>(aB UW bu (hS.sl 4 rfl) rfl rfl (by omega) (by omega))) (RQ.ev rfl rfl (fun w hS=>(aF (m:=v) (a:=ay) UU rfl (hS.sl 4 rfl) rfl lI)) (RQ.ev rfl rfl (fun w hS=>(an rfl rfl rfl (bc (by omega) (by omega)))) (RQ.ev rfl rfl (fun w hS=>(aB UW bu (hS.sl 4 rfl) rfl rfl (by omega) (by omega))) ?_)))
 refine RQ.last rfl rfl (ck (m:=(v+1)) (a:=(ax+ay)) bu hN 4 rfl rfl (by omega) rfl rfl rfl rfl ?_)
 clear hN
 intro zy (hN:ak w none_ zy [_,_,_,_,_,_,_])
 refine RZ.done (by kernel_rfl) (a7 (ag (RW.region (RL.ev rfl rfl (an rfl rfl rfl (bc (by omega) (by omega))) (RL.ev (v:=.int .i64 ((v:Int)+1)) rfl rfl U (RL.nil (ag ?_)))))))
 exact⟨k1-1,by omega,(lD).set (v+1) ((ax+ay)),v+1,rfl,rfl,rfl,rfl,hN,by omega,fF⟩
 refine RW.exit ?_
 iterate 2 refine bm ?_
 refine aO (ag (RW.seq (RW.region (RL.ev rfl rfl (aG (cs:=[v3,ve]) VT rfl ld rfl (hN.aA 3 rfl)) ?_))))
 refine RL.op rfl rfl (aC (vs:=[v3,ve]) ld rfl rfl rfl (by intro u hu;simp only[U9,U2,or_false]at hu;rcases hu with rfl|rfl<;>first|rfl|exact(hN.sl 4 rfl).bJ|exact(hN.sm 0 rfl).bJ) hN 5 rfl rfl ?_)
 clear hN
 intro vz (hN:ak w none_ vz [_,_,_,_,_,_,_])
 refine RL.nil (ag (RW.ret (aL (RV.cell rfl rfl (hN.aA 5 rfl) VT rfl ld) ?_)))
 have OR:v=n:=by omega
 subst OR
 have fk:i=km.length:=by omega
 rw[fk,Vz]at KC
 exact⟨_,_,lD,es,_,_,rfl,hN.sub [4,0] (by decide) rfl,mm,KC,EO,EP⟩
end Go.Proofs.YtngkdkbpgoddlaaGreat
namespace Go.Proofs.YtngkdkbpgoddlaaGreat
open Go.RowKit Go.Rl
open Go.Gr
theorem kT (n:Int) (v:Value) (l:List I3) (w:World) (hv:Sm bf w v l):al UY 105 #[.agg #[.int .i64 n,v]] w fun r w'=>r=.int .i64 (dw n l)∧Ext w w':=by
 refine al.start Y2 rfl (US rfl) ?_
 rw[bL]
 have hN:=ak.nil w none_
 refine RW.seq (RW.region ?_)
 refine RL.op rfl rfl (bq (cs:=[.int .i64 (n),v]) rfl rfl hN ?_)
 clear hN
 intro g1 w1 (hN:ak w none_ w1 [_])
 refine RL.ev (v:=.int .i64 (0)) rfl rfl aa (RL.nil (ag ?_))
 iterate 2 refine RW.seq ?_
 refine RW.region (RL.ev rfl rfl (ah U4 rfl bu (by decide) rfl) (RL.ev rfl rfl (aj UU rfl rfl (hN.aA 0 rfl) rfl) (RL.ev rfl rfl (cN rfl rfl) (RL.ev (v:=.bool (decide (16777216<n))) rfl rfl U ?_))))
 by_cases jQ:16777216<n
 rw[decide_eq_true jQ]
 iterate 4 refine RL.off rfl rfl (by decide) rfl rfl ?_
 refine RL.ev (v:=.bool true) rfl rfl (ao rfl) (RL.nil (ag (RW.bK rfl (RW.seq (RW.region (RL.ev (v:=.int .i64 (3)) rfl rfl aa (RL.nil (ag (RW.ret ?_)))))))))
 refine aD (aL (RV.tmp rfl) ?_)
 exact⟨congrArg (Vn .i64) (if_pos (by omega)).symm,hN.aE⟩
 rw[decide_eq_false jQ]
 refine RL.aI rfl rfl (by decide) rfl rfl (ah U4 rfl dY (by decide) rfl) (RL.aI rfl rfl (by decide) rfl rfl (aj Va rfl rfl (hN.aA 0 rfl) rfl) ?_)
 have jb:=(hv.o.now hN).aY
 refine RL.aI rfl rfl (by decide) rfl rfl (bQ Va (hv.o.now hN) rfl) (RL.aI rfl rfl (by decide) rfl rfl (cN rfl rfl) (RL.ev (v:=.bool (decide (67108864<(l.length:Int)))) rfl rfl (aH rfl) (RL.nil (ag ?_))))
 refine RW.aN _ rfl (fun ja=>?_) (fun ja=>?_)
 refine RW.seq (RW.region (RL.ev (v:=.int .i64 (3)) rfl rfl aa (RL.nil (ag (RW.ret (aD (aL (RV.tmp rfl) ?_)))))))
 exact⟨congrArg (Vn .i64) (if_pos (by omega)).symm,hN.aE⟩
 refine RW.skip (ag ?_)
 iterate 2 refine RW.seq ?_
 refine RW.region (RL.ev rfl rfl (ah U4 rfl bu (by decide) rfl) (RL.ev rfl rfl (aj UU rfl rfl (hN.aA 0 rfl) rfl) (RL.ev rfl rfl (aV rfl rfl) (RL.nil (ag ?_)))))
 refine RW.aN _ rfl (fun nC=>?_) (fun nC=>?_)
 refine RW.seq (RW.region (RL.ev (v:=.int .i64 (2)) rfl rfl aa (RL.nil (ag (RW.ret (aD (aL (RV.tmp rfl) ?_)))))))
 refine⟨congrArg (Vn .i64) ?_,hN.aE⟩
 unfold dw
 rw[if_neg (by omega),if_pos (by omega)]
 refine RW.skip (ag ?_)
 iterate 2 refine RW.seq ?_
 refine RW.region (RL.ev rfl rfl (ah U4 rfl dY (by decide) rfl) (RL.ev rfl rfl (aj Va rfl rfl (hN.aA 0 rfl) rfl) (RL.ev rfl rfl (bQ Va (hv.o.now hN) rfl) (RL.ev (v:=.int .i64 (0)) rfl rfl U (RL.nil (ag (RW.block ?_)))))))
 refine RW.loop (fun k R0 bT=>∃i:Nat,R0 1=.pointer (some ⟨g1,0,none⟩)∧R0 18=v∧R0 19=.int .i64 ((l.length:Int))∧R0 20=.int .i64 ((i:Int))∧ak w none_ bT [.aA g1 [.int .i64 (n),v] 24]∧(i+k=l.length)∧(∀a∈l.take i,Gx n a)) (l.length) ?_ ?_
 exact⟨0,rfl,rfl,rfl,rfl,hN,by omega,fun a ha=>by cases ha⟩
 clear hN
 rintro k R0 bT ⟨i,bw,ed,eC,yy,hN,eR,eP⟩
 have bY:∃b6,R0=(aZ (aZ (aZ (aZ b6 1 _) 18 _) 19 _) 20 _):=⟨R0,by rw[ai bw,ai ed,ai eC,ai yy]⟩
 obtain⟨b6,rfl⟩:=bY
 clear bw ed eC yy
 refine RW.seq (RW.region (RL.ev rfl rfl (aV rfl rfl) (RL.nil (ag (RW.seq ?_)))))
 refine RW.aN _ rfl (fun bW=>?_) (fun bW=>?_)
 refine RW.skip (ag (RW.seq (RW.block (RW.seq (RW.region (RL.ev rfl rfl (bn Va cq aU (by decide) (hv.o.now hN) rfl rfl (by omega) (by omega)) ?_))))))
 have aw:∃a_,(l)[i]?=some a_:=⟨_,UT (by omega)⟩
 obtain⟨ap,bG⟩:=aw
 refine RL.ev rfl rfl (bU (m:=i) (a:=ap) Ve rfl cq aU (by decide) (hv.o.now hN) rfl bG (cs:=[.int .i64 (ap.1),.int .i64 (ap.2.1),.int .i64 (ap.2.2)]) rfl) ?_
 refine RL.op rfl rfl (aX (cs:=[.int .i64 (0),.int .i64 (0),.int .i64 (0)]) eo rfl hN ?_)
 clear hN
 intro g3 w3 (hN:ak w none_ w3 [_,_])
 refine RL.op rfl rfl (aC (vs:=[.int .i64 (ap.1),.int .i64 (ap.2.1),.int .i64 (ap.2.2)]) cq rfl rfl rfl (by intro u hu;simp only[U9,U2,or_false]at hu;rcases hu with rfl|rfl|rfl<;>first|rfl) hN 0 rfl rfl ?_)
 clear hN
 intro w4 (hN:ak w none_ w4 [_,_])
 refine RL.nil (ag (RW.seq (RW.region (RL.ev rfl rfl (ah Ve rfl bu (by decide) rfl) (RL.ev rfl rfl (aj UU rfl rfl (hN.aA 0 rfl) rfl) (RL.ev rfl rfl (ah Ve rfl bu (by decide) rfl) (RL.ev rfl rfl (aj UU rfl rfl (hN.aA 0 rfl) rfl) (RL.ev rfl rfl (ah Ve rfl bu (by decide) rfl) (RL.ev rfl rfl (aj UU rfl rfl (hN.aA 0 rfl) rfl) ?_)))))))))
 refine RL.ev rfl rfl (Bz rfl rfl rfl) (RL.ev rfl rfl (aV rfl rfl) (RL.ev (v:=.bool (decide ((min (min (ap.1) (ap.2.1)) (ap.2.2))<0))) rfl rfl U ?_))
 by_cases IB:(min (min (ap.1) (ap.2.1)) (ap.2.2))<0
 rw[decide_eq_true IB]
 iterate 8 refine RL.off rfl rfl (by decide) rfl rfl ?_
 refine RL.ev (v:=.bool true) rfl rfl (ao rfl) (RL.ev (v:=.bool true) rfl rfl U ?_)
 iterate 3 refine RL.off rfl rfl (by decide) rfl rfl ?_
 refine RL.ev (v:=.bool true) rfl rfl (ao rfl) (RL.nil (ag (RW.bK rfl (RW.seq (RW.region (RL.ev (v:=.int .i64 (2)) rfl rfl aa (RL.nil (ag (RW.ret ?_)))))))))
 refine aJ ?_
 iterate 2 refine aD ?_
 refine aJ (aD (aL (RV.tmp rfl) ?_))
 refine⟨congrArg (Vn .i64) ?_,hN.aE⟩
 unfold dw
 rw[if_neg (by omega),if_neg (by omega),if_neg]
 intro fU
 have aw:=fU ap (UZ bG)
 obtain⟨h1,h2,h3,h4,h5,h6⟩:=aw
 omega
 rw[decide_eq_false IB]
 refine RL.aI rfl rfl (by decide) rfl rfl (ah Ve rfl bu (by decide) rfl) (RL.aI rfl rfl (by decide) rfl rfl (aj UU rfl rfl (hN.aA 0 rfl) rfl) (RL.aI rfl rfl (by decide) rfl rfl (ah Ve rfl bu (by decide) rfl) (RL.aI rfl rfl (by decide) rfl rfl (aj UU rfl rfl (hN.aA 0 rfl) rfl) (RL.aI rfl rfl (by decide) rfl rfl (AJ rfl rfl) (RL.aI rfl rfl (by decide) rfl rfl (ah U4 rfl bu (by decide) rfl) (RL.aI rfl rfl (by decide) rfl rfl (aj UU rfl rfl (hN.aA 1 rfl) rfl) (RL.aI rfl rfl (by decide) rfl rfl (da rfl rfl) (RL.ev (v:=.bool (decide (n≤(max (ap.1) (ap.2.1))))) rfl rfl (aH rfl) (RL.ev (v:=.bool (decide (n≤(max (ap.1) (ap.2.1))))) rfl rfl U ?_)))))))))
 by_cases sv:n≤(max (ap.1) (ap.2.1))
 rw[decide_eq_true sv]
 iterate 3 refine RL.off rfl rfl (by decide) rfl rfl ?_
 refine RL.ev (v:=.bool true) rfl rfl (ao rfl) (RL.nil (ag (RW.bK rfl (RW.seq (RW.region (RL.ev (v:=.int .i64 (2)) rfl rfl aa (RL.nil (ag (RW.ret ?_)))))))))
 refine aJ ?_
 iterate 2 refine aD ?_
 refine aJ (aD (aL (RV.tmp rfl) ?_))
 refine⟨congrArg (Vn .i64) ?_,hN.aE⟩
 unfold dw
 rw[if_neg (by omega),if_neg (by omega),if_neg]
 intro fU
 have aw:=fU ap (UZ bG)
 obtain⟨h1,h2,h3,h4,h5,h6⟩:=aw
 omega
 rw[decide_eq_false sv]
 refine RL.aI rfl rfl (by decide) rfl rfl (ah Ve rfl bu (by decide) rfl) (RL.aI rfl rfl (by decide) rfl rfl (aj UU rfl rfl (hN.aA 0 rfl) rfl) (RL.aI rfl rfl (by decide) rfl rfl (cN rfl rfl) (RL.ev (v:=.bool (decide (2147483648<ap.2.2))) rfl rfl (aH rfl) (RL.nil (ag ?_)))))
 refine RW.aN _ rfl (fun P9=>?_) (fun P9=>?_)
 refine RW.seq (RW.region (RL.ev (v:=.int .i64 (2)) rfl rfl aa (RL.nil (ag (RW.ret (aJ ?_))))))
 iterate 2 refine aD ?_
 refine aJ (aD (aL (RV.tmp rfl) ?_))
 refine⟨congrArg (Vn .i64) ?_,hN.aE⟩
 unfold dw
 rw[if_neg (by omega),if_neg (by omega),if_neg]
 intro fU
 have aw:=fU ap (UZ bG)
 obtain⟨h1,h2,h3,h4,h5,h6⟩:=aw
 omega
 refine RW.skip (a7 (ag (RW.region (RL.ev rfl rfl (an rfl rfl rfl (bc (by omega) (by omega))) (RL.ev (v:=.int .i64 ((i:Int)+1)) rfl rfl U (RL.nil (ag ?_)))))))
 exact⟨k-1,by omega,i+1,rfl,rfl,rfl,rfl,(hN.sub [1] (by decide) rfl),by omega,fun a ha=>(cT bG ha).elim (eP a) (fun e=>e▸⟨by omega,by omega,by omega,by omega,by omega,by omega⟩)⟩
 refine RW.exit ?_
 iterate 2 refine bm ?_
 refine aO (ag (RW.seq (RW.region (RL.ev (v:=.int .i64 (0)) rfl rfl aa (RL.nil (ag (RW.ret (aL (RV.tmp rfl) ?_))))))))
 refine⟨congrArg (Vn .i64) ?_,hN.aE⟩
 unfold dw
 rw[if_neg (by omega),if_neg (by omega),if_pos]
 rw[Vo (by omega)]at eP
 exact eP
end Go.Proofs.YtngkdkbpgoddlaaGreat
namespace Go.Proofs.YtngkdkbpgoddlaaGreat
open Go.RowKit Go.Rl
open Go.Gr
theorem yV (n:Int) (v:Value) (l:List I3) (w:World) (hv:Sm bf w v l) (h:dw n l=0):al UY 105 #[.agg #[.int .i64 n,v]] w fun r w'=>r=.int .i64 0∧Ext w w':=(kT n v l w hv).mono fun r w' hr=>by rw[h]at hr;exact hr
theorem sM (n:Nat) (v:Value) (ar:List I3) (w:World) (hv:Sm bf w v ar) (EG:dw (n:Int) ar=0):al UY 67 #[.agg #[.int .i64 (n:Int),v]] w fun r w'=>∃g mv c0 c1 c2 c3 c4,r=.pointer (some ⟨g,0,none⟩)∧fV w' g [.int .i64 (n:Int),mv,c0,c1,c2,c3,c4] 211∧Sm bf w' mv ar∧Ext w w':=by
 refine al.jV Zp rfl (US rfl) ?_
 rw[bL]
 have hN:=ak.nil w none_
 have aw:=qO EG
 obtain⟨UE,UD,fG,eP⟩:=aw
 refine XW.seq (XW.region rfl ?_)
 refine RL.op rfl rfl (bq (cs:=[.int .i64 ((n:Int)),v]) rfl rfl hN ?_)
 clear hN
 intro g1 w1 (hN:ak w none_ w1 [_])
 refine RL.ev (v:=.pointer none) rfl rfl aa (RL.nil (bA (bj (XW.scope ?_))))
 iterate 2 refine XW.seq ?_
 refine XW.region rfl (RL.ev rfl rfl (aG (cs:=[.int .i64 ((n:Int)),v]) U4 rfl db rfl (hN.aA 0 rfl)) ?_)
 refine RL.op rfl rfl (aM Y2 rfl rfl rfl ((yV ((n:Int)) _ ar _ (hv.o.now hN) EG).mono ?_))
 rintro _ w2 ⟨rfl,aW⟩
 replace hN:=hN.ext aW
 clear aW
 refine RL.ev rfl rfl (cm (bp rfl rfl) (fun h=>h rfl)) (RL.nil (bA (bj (XW.dD rfl (XW.skip (bj (XW.seq (XW.region rfl (RL.ev rfl rfl (ah U4 rfl dY (by decide) rfl) ?_)))))))))
 refine RL.ev rfl rfl (aj Va rfl rfl (hN.aA 0 rfl) rfl) ?_
 replace hN:=hN.eK bf 3 100
 refine RL.op rfl rfl (ez Va se rfl (by decide) iB aU hN 0 rfl rfl (hv.o.now hN) rfl (by simp only[Vc];omega) (by decide) ?_)
 clear hN
 intro v3 w3 (hN:ak w none_ w3 [_,_])
 replace hN:=hN.Hc 0 rfl (show _=ar from Wm _)
 replace hN:ak w none_ w3 [_,_]:=hN
 refine RL.ev rfl rfl (ah U4 rfl dY (by decide) rfl) ?_
 refine RL.op rfl rfl (b9 dY rfl rfl (hN.sm 0 rfl).cO (hN.sm 0 rfl).bJ hN 1 rfl (US rfl) ?_)
 clear hN
 intro w4 (hN:ak w none_ w4 [_,_])
 refine RL.nil (bA (bj (XW.seq ?_)))
 replace hN:=hN.ext (Ext.drew w4)
 refine XW.cb rfl (by kernel_rfl) (fun u=>ak w none_ u [.cV bf 3 100 (v3) (ar),.aA g1 [.int .i64 ((n:Int)),v3] 24]) 8 [(0,0),(1,0),(2,0),(3,0),(4,1),(5,1),(6,1),(7,0)] (by kernel_rfl) hN (RQ.ev rfl rfl (fun w hS=>(aG (cs:=[.int .i64 ((n:Int)),v3]) U4 rfl db rfl (hS.aA 1 rfl))) (RQ.ev rfl rfl (fun w hS=>(ah U4 rfl dY (by decide) rfl)) (RQ.ev rfl rfl (fun w hS=>(aj Va rfl rfl (hS.aA 1 rfl) rfl)) ?_)))
 have pd:=(hN.sm 0 rfl).aY
 refine RQ.ev rfl rfl (fun w hS=>(bQ Va (hS.sm 0 rfl) rfl)) ?_
 refine RQ.do rfl rfl (iy (enc:=vB) (z:=false) VV OG rfl hN rfl (by omega) (by omega) (by omega) ?_)
 clear hN
 intro v6 w6 (hN:ak w none_ w6 [_,_,_])
 refine⟨(hN.sub [1,2] (by decide) rfl),?_⟩
 refine RQ.do rfl rfl (dQ.ev (bh (cs:=[.int .i64 ((n:Int)),v3,.slice none 0 0,.slice none 0 0,.slice none 0 0,.slice none 0 0,v6]) Wi GX (places:=#[(0,2),(2,2),(4,2),(6,1)]) (by intro w;kernel_rfl) (pl:=[(0,.tmp 19),(3,.tmp 23)]) rfl (ps:=[(0,.agg #[.int .i64 ((n:Int)),v3]),(3,v6)]) rfl (zc:=[.int .i64 (0),.slice none 0 0,.slice none 0 0,.slice none 0 0,.slice none 0 0,.slice none 0 0,.slice none 0 0]) rfl (aP (vs:=[.int .i64 ((n:Int)),v3]) rfl rfl (US rfl) (aP (vs:=[v6]) (hN.sl 0 rfl).cO rfl (US rfl) rfl))) ⟨(hN.sub [1,2] (by decide) rfl),?_⟩)
 refine RQ.do rfl rfl (bq (cs:=[.int .i64 ((n:Int)),v3,.slice none 0 0,.slice none 0 0,.slice none 0 0,.slice none 0 0,v6]) rfl rfl hN ?_)
 clear hN
 intro g7 w7 (hN:ak w none_ w7 [_,_,_,_])
 refine⟨(hN.sub [2,3] (by decide) rfl),?_⟩
 refine RQ.ev (v:=.pointer (some ⟨g7,0,none⟩)) rfl rfl (fun w hS=>aa) (RQ.done (by kernel_rfl) (bA (bj (XW.seq (XW.region rfl (RL.ev rfl rfl (c8 (vs:=[.pointer (some ⟨g1,0,none⟩)]) (xs:=[.tmp 1]) rfl rfl) (RL.ev (v:=.func (.func 145) #[] #[.pointer (some ⟨g1,0,none⟩)]) rfl rfl aa (RL.nil (bA ?_)))))))))
 refine bj (XW.seq (XW.region rfl (RL.ev rfl rfl (c8 (vs:=[.pointer (some ⟨g1,0,none⟩)]) (xs:=[.tmp 1]) rfl rfl) (RL.ev (v:=.func (.func 146) #[] #[.pointer (some ⟨g1,0,none⟩)]) rfl rfl aa (RL.nil (bA (bj (XW.seq (XW.region rfl ?_)))))))))
 refine RL.op rfl rfl (aX (cs:=[.slice none 0 0]) Dv rfl hN ?_)
 clear hN
 intro g8 w8 (hN:ak w none_ w8 [_,_,_,_,_])
 refine RL.nil (bA (bj ?_))
 iterate 2 refine XW.seq ?_
 have Dm:=hN.Jx (M:=[.aA g8 [.slice none 0 0] 25,.aA g7 [.int .i64 ((n:Int)),v3,.slice none 0 0,.slice none 0 0,.slice none 0 0,.slice none 0 0,v6] 211,.own vB 4 (v6) (Vm (((ar).length:Int)).toNat false)]) 3 rfl [0,1,2] rfl rfl
 have ow:=hN.K9 (M:=[.aA g8 [.slice none 0 0] 25,.aA g7 [.int .i64 ((n:Int)),v3,.slice none 0 0,.slice none 0 0,.slice none 0 0,.slice none 0 0,v6] 211,.own vB 4 (v6) (Vm (((ar).length:Int)).toNat false)]) 4 rfl [0,1,2] rfl rfl
 have Ny:ak w none_ w8 [.aA g8 [.slice none 0 0] 25,.aA g7 [.int .i64 ((n:Int)),v3,.slice none 0 0,.slice none 0 0,.slice none 0 0,.slice none 0 0,v6] 211,.own vB 4 (v6) (Vm (((ar).length:Int)).toNat false)]:=hN.sub [0,1,2] (by decide) rfl
 clear hN
 have hN:=Ny.here
 replace hN:ak w8 (aT [.aA g8 [.slice none 0 0] 25,.aA g7 [.int .i64 ((n:Int)),v3,.slice none 0 0,.slice none 0 0,.slice none 0 0,.slice none 0 0,v6] 211,.own vB 4 (v6) (Vm (((ar).length:Int)).toNat false)]) w8 [.aA g8 [.slice none 0 0] 25,.aA g7 [.int .i64 ((n:Int)),v3,.slice none 0 0,.slice none 0 0,.slice none 0 0,.slice none 0 0,v6] 211,.own vB 4 (v6) (Vm (((ar).length:Int)).toNat false)]:=hN
 replace hN:=hN.cj vI 3
 replace hN:ak w8 (aT [.aA g8 [.slice none 0 0] 25,.aA g7 [.int .i64 ((n:Int)),v3,.slice none 0 0,.slice none 0 0,.slice none 0 0,.slice none 0 0,v6] 211,.own vB 4 (v6) (Vm (((ar).length:Int)).toNat false)]) w8 [.own vI 3 (.slice none 0 0) ([]),.aA g8 [.slice none 0 0] 25,.aA g7 [.int .i64 ((n:Int)),v3,.slice none 0 0,.slice none 0 0,.slice none 0 0,.slice none 0 0,v6] 211,.own vB 4 (v6) (Vm (((ar).length:Int)).toNat false)]:=hN
 refine XW.region rfl (RL.ev rfl rfl (ah U4 rfl dY (by decide) rfl) (RL.ev rfl rfl (aj Va rfl rfl (ow.now hN) rfl) ?_))
 refine RL.op rfl rfl (aR aby rfl rfl rfl rfl ((wc _ (ar) _ (Dm.now hN)).mono ?_))
 rintro _ iP ⟨NB,NA,rfl,bE⟩
 replace hN:ak w8 (aT [.aA g8 [.slice none 0 0] 25,.aA g7 [.int .i64 ((n:Int)),v3,.slice none 0 0,.slice none 0 0,.slice none 0 0,.slice none 0 0,v6] 211,.own vB 4 (v6) (Vm (((ar).length:Int)).toNat false)]) iP [_,_,_,_,_,_]:=hN.dU bE
 clear bE
 refine RL.nil (bA (bj (XW.block ?_)))
 refine XW.zU (gf:=190) (lb:=#[.pointer (some ⟨NB,0,none⟩),.pointer (some ⟨NA,0,none⟩)]) (M:=[_,_]) (fun s:Value×List Int=>[.aA g8 [s.1] 25,.own vI 3 s.1 s.2,.aA g7 [.int .i64 ((n:Int)),v3,.slice none 0 0,.slice none 0 0,.slice none 0 0,.slice none 0 0,v6] 211,.own vB 4 (v6) (Vm (((ar).length:Int)).toNat false)]) (zm Int) (.slice none 0 0,[]) (hN.sub [3,2,4,5,0,1] (by decide) rfl) rfl abz rfl rfl (x7 (ar) NB NA _ (by omega)) zm.on Dm (fun _=>rfl) (by decide) ?_ ?_
 clear hN
 rintro l_ D_ Ij FF ⟨v_,a_⟩ x_ LW Ik wr eB HB Lu hN
 change XW _ _ _ _ _ _ (aZ _ 31 (.int .i64 (x_))) _
 replace hN:ak wr FF wr [.obj l_ (.loop (Ij .ready none)),.obj D_ (.deferred (some [])),.aA g8 [v_] 25,.own vI 3 (v_) (a_),.aA g7 [.int .i64 ((n:Int)),v3,.slice none 0 0,.slice none 0 0,.slice none 0 0,.slice none 0 0,v6] 211,.own vB 4 (v6) (Vm (((ar).length:Int)).toNat false)]:=hN
 have KP:a_.length<((ec (lZ ar) 0 ar.length)).length:=BH eB rfl HB
 have OL:=mB (lZ ar) ar.length 0
 refine XW.region rfl (RL.ev (v:=.int .i64 (x_)) rfl rfl aa (RL.nil (bA (sV ?_))))
 clear hN
 intro kC (hN:ak wr FF kC [.obj l_ (.loop (Ij .busy none)),.obj D_ (.deferred (some [])),.aA g8 [v_] 25,.own vI 3 (v_) (a_),.aA g7 [.int .i64 ((n:Int)),v3,.slice none 0 0,.slice none 0 0,.slice none 0 0,.slice none 0 0,v6] 211,.own vB 4 (v6) (Vm (((ar).length:Int)).toNat false)])
 refine XW.block (XW.region rfl (RL.ev rfl rfl (aj UW rfl rfl (hN.aA 2 rfl) rfl) (RL.ev (v:=.int .i64 (x_)) rfl rfl U ?_)))
 refine RL.op rfl rfl (bS (enc:=vI) (l:=[x_]) (xs:=[.tmp 33]) UW bu mu rfl rfl (fun _=>rfl) rfl (by decide) (by decide) hN ?_)
 clear hN
 intro Oe lF (hN:ak wr FF lF [_,_,_,_,_,_,_])
 refine RL.op rfl rfl (bD UW fT rfl (fun _=>rfl) hN 4 rfl rfl (hN.sl 0 rfl) rfl (by(try simp only[UX,Vs,Vt,Vc,U6,U3,Vw,UX,Vl]);omega) (by decide) ?_)
 clear hN
 intro C4 k9 (hN:ak wr FF k9 [_,_,_,_,_,_,_])
 refine RL.op rfl rfl (b9 b7 rfl rfl (hN.sl 4 rfl).cO (hN.sl 4 rfl).bJ hN 3 rfl (US rfl) ?_)
 clear hN
 intro oL (hN:ak wr FF oL [_,_,_,_,_,_,_])
 refine RL.nil (bA (dX ?_))
 exact vH ⟨C4,a_++[x_]⟩ ⟨rfl,rfl⟩ (hN.sub [1,2,3,4,5,6] (by decide) rfl)
 clear hN
 rintro l_ D_ o_ ⟨v_,a_⟩ uu eB hN
 replace hN:ak w8 (aT [.aA g8 [.slice none 0 0] 25,.aA g7 [.int .i64 ((n:Int)),v3,.slice none 0 0,.slice none 0 0,.slice none 0 0,.slice none 0 0,v6] 211,.own vB 4 (v6) (Vm (((ar).length:Int)).toNat false)]) uu [.obj l_ o_,.obj D_ (.deferred (some [])),.aA g8 [v_] 25,.own vI 3 (v_) (a_),.aA g7 [.int .i64 ((n:Int)),v3,.slice none 0 0,.slice none 0 0,.slice none 0 0,.slice none 0 0,v6] 211,.own vB 4 (v6) (Vm (((ar).length:Int)).toNat false)]:=hN
 have LB:a_=(ec (lZ ar) 0 ar.length):=xa eB
 refine dX (bj (XW.seq ?_))
 have OP:=mB (lZ ar) ar.length 0
 have L7:∀x∈a_,0≤x∧x<(ar.length:Int):=fun x hx=>by
   rw[LB]at hx
   have aw:=uR.1 hx
   obtain⟨j,_,hj,_,rfl⟩:=aw
   omega
 have KP:a_.length≤ar.length:=by rw[LB];exact OP
 refine XW.region rfl (RL.ev (v:=.int .i64 (-1)) rfl rfl aa (RL.nil (bA (bj (XW.seq (XW.label (bj ?_)))))))
 iterate 2 refine XW.seq ?_
 replace hN:=hN.ext (Ext.drew uu)
 refine XW.cb rfl (by kernel_rfl) (fun u=>ak w8 (aT [.aA g8 [.slice none 0 0] 25,.aA g7 [.int .i64 ((n:Int)),v3,.slice none 0 0,.slice none 0 0,.slice none 0 0,.slice none 0 0,v6] 211,.own vB 4 (v6) (Vm (((ar).length:Int)).toNat false)]) u [.obj l_ o_,.obj D_ (.deferred (some [])),.aA g8 [v_] 25,.own vI 3 (v_) (a_),.aA g7 [.int .i64 ((n:Int)),v3,.slice none 0 0,.slice none 0 0,.slice none 0 0,.slice none 0 0,v6] 211,.own vB 4 (v6) (Vm (((ar).length:Int)).toNat false)]) 11 [(0,0),(1,0),(2,0),(3,0),(4,0),(5,0),(7,0),(10,0),(6,1),(8,1),(9,1)] (by kernel_rfl) hN (RQ.ev rfl rfl (fun w hS=>(ah U4 rfl bu (by decide) rfl)) (RQ.ev rfl rfl (fun w hS=>(aj UU rfl rfl (ow.now hS) rfl)) (RQ.ev rfl rfl (fun w hS=>(ah U4 rfl bu (by decide) rfl)) (RQ.ev rfl rfl (fun w hS=>(aj UU rfl rfl (ow.now hS) rfl)) (RQ.ev rfl rfl (fun w hS=>(aj UW rfl rfl (hS.aA 2 rfl) rfl)) (RQ.ev (v:=.func (.func 146) #[] #[.pointer (some ⟨g1,0,none⟩)]) rfl rfl (fun w hS=>U) (RQ.ev (v:=.func (.func 145) #[] #[.pointer (some ⟨g1,0,none⟩)]) rfl rfl (fun w hS=>U) (RQ.ev (v:=.int .i64 (0)) rfl rfl (fun w hS=>U) ?_))))))))
 refine RQ.do rfl rfl (cF Xh rfl rfl rfl rfl rfl ((oS n _ a_ g1 _ ar _ (hN.sl 3 rfl) (ow.now hN) (Dm.now hN) eP L7 (by omega) (by omega)).mono ?_))
 rintro QT vA ⟨Hh,cx,MV,aW⟩
 replace hN:ak w8 (aT [.aA g8 [.slice none 0 0] 25,.aA g7 [.int .i64 ((n:Int)),v3,.slice none 0 0,.slice none 0 0,.slice none 0 0,.slice none 0 0,v6] 211,.own vB 4 (v6) (Vm (((ar).length:Int)).toNat false)]) vA [_,_,_,_,_,_,_]:=hN.bx cx aW
 clear cx aW
 have Ix:=MV.perm (eF _ _ _)
 have RD:=Ix.length_eq
 have Ip:∀x∈Hh,0≤x∧x<(ar.length:Int):=fun x hx=>L7 x (Ix.mem_iff.1 hx)
 refine⟨(hN.sub [1,2,3,4,5,6] (by decide) rfl),?_⟩
 refine RQ.do rfl rfl (cF Xh rfl rfl rfl rfl rfl ((lM n _ Hh g1 _ ar _ (hN.sl 0 rfl) (ow.now hN) (Dm.now hN) eP Ip (by omega) (by omega)).mono ?_))
 rintro LL zy ⟨zX,cx,MU,aW⟩
 replace hN:ak w8 (aT [.aA g8 [.slice none 0 0] 25,.aA g7 [.int .i64 ((n:Int)),v3,.slice none 0 0,.slice none 0 0,.slice none 0 0,.slice none 0 0,v6] 211,.own vB 4 (v6) (Vm (((ar).length:Int)).toNat false)]) zy [_,_,_,_,_,_,_,_]:=hN.bx cx aW
 clear cx aW
 have Iw:=MU.perm (eF _ _ _)
 have RC:=Iw.length_eq
 have L8:∀x∈zX,0≤x∧x<(ar.length:Int):=fun x hx=>Ip x (Iw.mem_iff.1 hx)
 refine⟨(hN.sub [2,3,4,5,6,7] (by decide) rfl),?_⟩
 have Nx:=(hN.sl 0 rfl).aY
 refine RQ.do rfl rfl (dQ.ev (aQ UW (hN.sl 0 rfl) rfl) ⟨(hN.sub [2,3,4,5,6,7] (by decide) rfl),?_⟩)
 refine RQ.done (by kernel_rfl) (bA (bj (XW.block ?_)))
 refine XW.loop (fun k R0 bT=>∃la:Int,∃kl:List Bool,∃i:Nat,R0 1=.pointer (some ⟨g1,0,none⟩)∧R0 3=.pointer (some ⟨g7,0,none⟩)∧R0 4=.func (.func 145) #[] #[.pointer (some ⟨g1,0,none⟩)]∧R0 5=.func (.func 146) #[] #[.pointer (some ⟨g1,0,none⟩)]∧R0 8=.int .i64 (la)∧R0 44=LL∧R0 45=.int .i64 ((zX.length:Int))∧R0 46=.int .i64 ((i:Int))∧ak w8 (aT [.aA g8 [.slice none 0 0] 25,.aA g7 [.int .i64 ((n:Int)),v3,.slice none 0 0,.slice none 0 0,.slice none 0 0,.slice none 0 0,v6] 211,.own vB 4 (v6) (Vm (((ar).length:Int)).toNat false)]) bT [.own vI 3 (LL) (zX),.own vI 3 (QT) (Hh),.obj l_ o_,.obj D_ (.deferred (some [])),.aA g8 [v_] 25,.own vI 3 (v_) (a_),.aA g7 [.int .i64 ((n:Int)),v3,.slice none 0 0,.slice none 0 0,.slice none 0 0,.slice none 0 0,v6] 211,.own vB 4 (v6) (kl)]∧(i+k=zX.length)∧(la= -1∨(0≤la∧la<(ar.length:Int)))∧(kl.length=ar.length)) (zX.length) ?_ ?_
 exact⟨-1,Vm ar.length false,0,rfl,rfl,rfl,rfl,rfl,rfl,rfl,rfl,hN,by omega,.inl rfl,Vw⟩
 clear hN
 rintro k R0 bT ⟨la,kl,i,bw,ca,cg,bM,cl,It,Is,Ir,hN,eR,wx,ql⟩
 have bY:∃b6,R0=(aZ (aZ (aZ (aZ (aZ (aZ (aZ (aZ b6 1 _) 3 _) 4 _) 5 _) 8 _) 44 _) 45 _) 46 _):=⟨R0,by rw[ai bw,ai ca,ai cg,ai bM,ai cl,ai It,ai Is,ai Ir]⟩
 obtain⟨b6,rfl⟩:=bY
 clear bw ca cg bM cl It Is Ir
 refine XW.seq (XW.region rfl (RL.ev rfl rfl (aV rfl rfl) (RL.nil (bA (bj (XW.seq ?_))))))
 refine XW.aN _ rfl (fun bW=>?_) (fun bW=>?_)
 refine XW.skip (bj (XW.seq (XW.block (XW.seq (XW.region rfl (RL.ev rfl rfl (aB UW bu (hN.sl 0 rfl) rfl rfl (by omega) (by omega)) ?_))))))
 have aw:∃a_,(zX)[i]?=some a_:=⟨_,UT (by omega)⟩
 obtain⟨ap,bG⟩:=aw
 refine RL.ev rfl rfl (aF (m:=i) (a:=ap) UU rfl (hN.sl 0 rfl) rfl bG) (RL.ev (v:=.int .i64 (ap)) rfl rfl aa ?_)
 have aw:=L8 ap (UZ bG)
 obtain⟨M5,M4⟩:=aw
 refine RL.nil (bA (bj ?_))
 iterate 2 refine XW.seq ?_
 refine XW.region rfl (RL.ev (v:=.int .i64 (la)) rfl rfl U (RL.ev rfl rfl (da rfl rfl) (RL.ev (v:=.bool (decide (0≤la))) rfl rfl U ?_)))
 by_cases Fm:0≤la
 rw[decide_eq_true Fm]
 refine RL.aI (v:=.func (.func 145) #[] #[.pointer (some ⟨g1,0,none⟩)]) rfl rfl (by decide) rfl rfl U (RL.aI (v:=.int .i64 (la)) rfl rfl (by decide) rfl rfl U ?_)
 have M3:0≤la∧la<(ar.length:Int):=⟨by omega,by omega⟩
 have aw:∃a_,ar[(la).toNat]?=some a_:=⟨_,UT (by omega)⟩
 obtain⟨NK,Nm⟩:=aw
 have aw:=eP NK (UZ Nm)
 obtain⟨Rr,Rq,Rp,Ro,Rn,Rm⟩:=aw
 refine RL.on rfl rfl (by decide) rfl rfl (bB (first:=#[]) (captured:=#[.pointer (some ⟨g1,0,none⟩)]) (v0:=.int .i64 (la)) (args:=#[.int .i64 (la),.pointer (some ⟨g1,0,none⟩)]) Xf rfl rfl (by simp) rfl rfl ((gj (la) g1 ((n:Int)) _ ar NK _ (ow.now hN) (Dm.now hN) M3.1 Nm).mono ?_))
 rintro _ zx ⟨rfl,aW⟩
 replace hN:=hN.ext aW
 clear aW
 refine RL.aI (v:=.func (.func 145) #[] #[.pointer (some ⟨g1,0,none⟩)]) rfl rfl (by decide) rfl rfl U (RL.aI (v:=.int .i64 (ap)) rfl rfl (by decide) rfl rfl U ?_)
 have M0:0≤ap∧ap<(ar.length:Int):=⟨by omega,by omega⟩
 have aw:∃a_,ar[(ap).toNat]?=some a_:=⟨_,UT (by omega)⟩
 obtain⟨NJ,Nl⟩:=aw
 have aw:=eP NJ (UZ Nl)
 obtain⟨Rk,Rj,Ri,Rh,Rg,Rf⟩:=aw
 refine RL.on rfl rfl (by decide) rfl rfl (bB (first:=#[]) (captured:=#[.pointer (some ⟨g1,0,none⟩)]) (v0:=.int .i64 (ap)) (args:=#[.int .i64 (ap),.pointer (some ⟨g1,0,none⟩)]) Xf rfl rfl (by simp) rfl rfl ((gj (ap) g1 ((n:Int)) _ ar NJ _ (ow.now hN) (Dm.now hN) M0.1 Nl).mono ?_))
 rintro _ Gs ⟨rfl,aW⟩
 replace hN:=hN.ext aW
 clear aW
 refine RL.aI rfl rfl (by decide) rfl rfl (cI rfl rfl) (RL.ev (v:=.bool (decide (NK.1=NJ.1))) rfl rfl (ao rfl) (RL.ev (v:=.bool (decide (NK.1=NJ.1))) rfl rfl U ?_))
 by_cases Bo:NK.1=NJ.1
 rw[decide_eq_true Bo]
 refine RL.aI (v:=.func (.func 146) #[] #[.pointer (some ⟨g1,0,none⟩)]) rfl rfl (by decide) rfl rfl U (RL.aI (v:=.int .i64 (la)) rfl rfl (by decide) rfl rfl U ?_)
 have MZ:0≤la∧la<(ar.length:Int):=⟨by omega,by omega⟩
 have aw:∃a_,ar[(la).toNat]?=some a_:=⟨_,UT (by omega)⟩
 obtain⟨QG,Nk⟩:=aw
 have aw:=eP QG (UZ Nk)
 obtain⟨Re,Rc,Rb,Ra,Q9,Q8⟩:=aw
 refine RL.on rfl rfl (by decide) rfl rfl (bB (first:=#[]) (captured:=#[.pointer (some ⟨g1,0,none⟩)]) (v0:=.int .i64 (la)) (args:=#[.int .i64 (la),.pointer (some ⟨g1,0,none⟩)]) Xg rfl rfl (by simp) rfl rfl ((jk (la) g1 ((n:Int)) _ ar QG _ (ow.now hN) (Dm.now hN) MZ.1 Nk).mono ?_))
 rintro _ Lm ⟨rfl,aW⟩
 replace hN:=hN.ext aW
 clear aW
 refine RL.aI (v:=.func (.func 146) #[] #[.pointer (some ⟨g1,0,none⟩)]) rfl rfl (by decide) rfl rfl U (RL.aI (v:=.int .i64 (ap)) rfl rfl (by decide) rfl rfl U ?_)
 have MY:0≤ap∧ap<(ar.length:Int):=⟨by omega,by omega⟩
 have aw:∃a_,ar[(ap).toNat]?=some a_:=⟨_,UT (by omega)⟩
 obtain⟨QF,Nj⟩:=aw
 have aw:=eP QF (UZ Nj)
 obtain⟨Q7,Q6,Q5,Q4,Q3,Q2⟩:=aw
 refine RL.on rfl rfl (by decide) rfl rfl (bB (first:=#[]) (captured:=#[.pointer (some ⟨g1,0,none⟩)]) (v0:=.int .i64 (ap)) (args:=#[.int .i64 (ap),.pointer (some ⟨g1,0,none⟩)]) Xg rfl rfl (by simp) rfl rfl ((jk (ap) g1 ((n:Int)) _ ar QF _ (ow.now hN) (Dm.now hN) MY.1 Nj).mono ?_))
 rintro _ Ul ⟨rfl,aW⟩
 replace hN:=hN.ext aW
 clear aW
 refine RL.aI rfl rfl (by decide) rfl rfl (cI rfl rfl) (RL.ev (v:=.bool (decide (QG.2.1=QF.2.1))) rfl rfl (ao rfl) (RL.nil (bA (bj ?_))))
 refine XW.aN _ rfl (fun P6=>?_) (fun P6=>?_)
 iterate 2 refine XW.seq ?_
 refine XW.region rfl (RL.ev rfl rfl (aG (cs:=[.int .i64 ((n:Int)),v3]) U4 rfl db rfl (ow.now hN)) (RL.ev (v:=.int .i64 (ap)) rfl rfl U (RL.ev (v:=.int .i64 (la)) rfl rfl U ?_)))
 have aw:∃a_,ar[(ap).toNat]?=some a_:=⟨_,UT (by omega)⟩
 obtain⟨Ui,P1⟩:=aw
 have aw:∃a_,ar[(la).toNat]?=some a_:=⟨_,UT (by omega)⟩
 obtain⟨Uh,P0⟩:=aw
 refine RL.op rfl rfl (cF abD rfl rfl rfl rfl rfl ((wX ((n:Int)) (ap) (la) _ ar Ui Uh _ (Dm.now hN) (by omega) P1 (by omega) P0).mono ?_))
 rintro _ QS ⟨rfl,aW⟩
 replace hN:=hN.ext aW
 clear aW
 refine RL.ev rfl rfl (cM rfl) (RL.nil (bA (bj ?_)))
 refine XW.aN _ rfl (fun P5=>?_) (fun P5=>?_)
 refine XW.exit ?_
 iterate 2 refine lJ ?_
 refine gu (bj (XW.region rfl (RL.ev rfl rfl (an rfl rfl rfl (bc (by omega) (by omega))) (RL.ev (v:=.int .i64 ((i:Int)+1)) rfl rfl U (RL.nil (bA (bj ?_)))))))
 exact⟨rfl,k-1,by omega,la,kl,i+1,rfl,rfl,rfl,rfl,rfl,rfl,rfl,rfl,hN,by omega,wx,by(try simp only[Wb]);exact ql⟩
 refine XW.skip (bj (XW.region rfl (RL.ev (v:=.pointer (some ⟨g7,0,none⟩)) rfl rfl U (RL.ev rfl rfl (bt rfl) (RL.ev rfl rfl (ah Wi rfl uA (by decide) rfl) (RL.ev rfl rfl (aj VV rfl rfl (hN.aA 6 rfl) rfl) (RL.ev (v:=.int .i64 (la)) rfl rfl U (RL.ev rfl rfl (aB VV np (hN.sl 7 rfl) rfl rfl (by omega) (by omega)) ?_))))))))
 refine RL.op rfl rfl (ck (m:=(la).toNat) (a:=false) np hN 7 rfl rfl (by omega) rfl rfl rfl rfl ?_)
 clear hN
 intro Om (hN:ak w8 (aT [.aA g8 [.slice none 0 0] 25,.aA g7 [.int .i64 ((n:Int)),v3,.slice none 0 0,.slice none 0 0,.slice none 0 0,.slice none 0 0,v6] 211,.own vB 4 (v6) (Vm (((ar).length:Int)).toNat false)]) Om [_,_,_,_,_,_,_,_])
 refine RL.nil (bA (bj ?_))
 have Ko:((kl).set (la).toNat (false)).length=ar.length:=by(try simp only[Wb]);exact ql
 refine XW.region rfl (RL.ev (v:=.pointer (some ⟨g7,0,none⟩)) rfl rfl U (RL.ev rfl rfl (bt rfl) (RL.ev rfl rfl (ah Wi rfl uA (by decide) rfl) (RL.ev rfl rfl (aj VV rfl rfl (hN.aA 6 rfl) rfl) ?_))))
 iterate 2 refine RL.ev (v:=.int .i64 (ap)) rfl rfl U ?_
 refine RL.ev rfl rfl (aB VV np (hN.sl 7 rfl) rfl rfl (by omega) (by omega)) ?_
 refine RL.op rfl rfl (ck (m:=(ap).toNat) (a:=true) np hN 7 rfl rfl (by omega) rfl rfl rfl rfl ?_)
 clear hN
 intro SH (hN:ak w8 (aT [.aA g8 [.slice none 0 0] 25,.aA g7 [.int .i64 ((n:Int)),v3,.slice none 0 0,.slice none 0 0,.slice none 0 0,.slice none 0 0,v6] 211,.own vB 4 (v6) (Vm (((ar).length:Int)).toNat false)]) SH [_,_,_,_,_,_,_,_])
 refine RL.ev (v:=.int .i64 (ap)) rfl rfl aa (RL.nil (bA (dX (bj (XW.region rfl (RL.ev rfl rfl (an rfl rfl rfl (bc (by omega) (by omega))) (RL.ev (v:=.int .i64 ((i:Int)+1)) rfl rfl U (RL.nil (bA ?_)))))))))
 refine bj ?_
 exact⟨rfl,k-1,by omega,ap,((kl).set (la).toNat (false)).set (ap).toNat (true),i+1,rfl,rfl,rfl,rfl,rfl,rfl,rfl,rfl,hN,by omega,.inr ⟨by omega,by omega⟩,by(try simp only[Wb]);exact ql⟩
 refine XW.skip (bj ?_)
 have Ko:(kl).length=ar.length:=by(try simp only[Wb]);exact ql
 refine XW.region rfl (RL.ev (v:=.pointer (some ⟨g7,0,none⟩)) rfl rfl U (RL.ev rfl rfl (bt rfl) (RL.ev rfl rfl (ah Wi rfl uA (by decide) rfl) (RL.ev rfl rfl (aj VV rfl rfl (hN.aA 6 rfl) rfl) ?_))))
 iterate 2 refine RL.ev (v:=.int .i64 (ap)) rfl rfl U ?_
 refine RL.ev rfl rfl (aB VV np (hN.sl 7 rfl) rfl rfl (by omega) (by omega)) ?_
 refine RL.op rfl rfl (ck (m:=(ap).toNat) (a:=true) np hN 7 rfl rfl (by omega) rfl rfl rfl rfl ?_)
 clear hN
 intro SG (hN:ak w8 (aT [.aA g8 [.slice none 0 0] 25,.aA g7 [.int .i64 ((n:Int)),v3,.slice none 0 0,.slice none 0 0,.slice none 0 0,.slice none 0 0,v6] 211,.own vB 4 (v6) (Vm (((ar).length:Int)).toNat false)]) SG [_,_,_,_,_,_,_,_])
 refine RL.ev (v:=.int .i64 (ap)) rfl rfl aa (RL.nil (bA (dX (bj (XW.region rfl (RL.ev rfl rfl (an rfl rfl rfl (bc (by omega) (by omega))) (RL.ev (v:=.int .i64 ((i:Int)+1)) rfl rfl U (RL.nil (bA ?_)))))))))
 refine bj ?_
 exact⟨rfl,k-1,by omega,ap,(kl).set (ap).toNat (true),i+1,rfl,rfl,rfl,rfl,rfl,rfl,rfl,rfl,hN,by omega,.inr ⟨by omega,by omega⟩,by(try simp only[Wb]);exact ql⟩
 rw[decide_eq_false Bo]
 iterate 7 refine RL.off rfl rfl (by decide) rfl rfl ?_
 refine RL.ev (v:=.bool false) rfl rfl (aH rfl) (RL.nil (bA (bj (XW.dD rfl (XW.skip (bj ?_))))))
 have Ko:(kl).length=ar.length:=by(try simp only[Wb]);exact ql
 refine XW.region rfl (RL.ev (v:=.pointer (some ⟨g7,0,none⟩)) rfl rfl U (RL.ev rfl rfl (bt rfl) (RL.ev rfl rfl (ah Wi rfl uA (by decide) rfl) (RL.ev rfl rfl (aj VV rfl rfl (hN.aA 6 rfl) rfl) ?_))))
 iterate 2 refine RL.ev (v:=.int .i64 (ap)) rfl rfl U ?_
 refine RL.ev rfl rfl (aB VV np (hN.sl 7 rfl) rfl rfl (by omega) (by omega)) ?_
 refine RL.op rfl rfl (ck (m:=(ap).toNat) (a:=true) np hN 7 rfl rfl (by omega) rfl rfl rfl rfl ?_)
 clear hN
 intro SF (hN:ak w8 (aT [.aA g8 [.slice none 0 0] 25,.aA g7 [.int .i64 ((n:Int)),v3,.slice none 0 0,.slice none 0 0,.slice none 0 0,.slice none 0 0,v6] 211,.own vB 4 (v6) (Vm (((ar).length:Int)).toNat false)]) SF [_,_,_,_,_,_,_,_])
 refine RL.ev (v:=.int .i64 (ap)) rfl rfl aa (RL.nil (bA (dX (bj (XW.region rfl (RL.ev rfl rfl (an rfl rfl rfl (bc (by omega) (by omega))) (RL.ev (v:=.int .i64 ((i:Int)+1)) rfl rfl U (RL.nil (bA ?_)))))))))
 refine bj ?_
 exact⟨rfl,k-1,by omega,ap,(kl).set (ap).toNat (true),i+1,rfl,rfl,rfl,rfl,rfl,rfl,rfl,rfl,hN,by omega,.inr ⟨by omega,by omega⟩,by(try simp only[Wb]);exact ql⟩
 rw[decide_eq_false Fm]
 iterate 7 refine RL.off rfl rfl (by decide) rfl rfl ?_
 refine RL.ev (v:=.bool false) rfl rfl (aH rfl) (RL.ev (v:=.bool false) rfl rfl U ?_)
 iterate 7 refine RL.off rfl rfl (by decide) rfl rfl ?_
 refine RL.ev (v:=.bool false) rfl rfl (aH rfl) (RL.nil (bA (bj (XW.dD rfl (XW.skip (bj ?_))))))
 have Ko:(kl).length=ar.length:=by(try simp only[Wb]);exact ql
 refine XW.region rfl (RL.ev (v:=.pointer (some ⟨g7,0,none⟩)) rfl rfl U (RL.ev rfl rfl (bt rfl) (RL.ev rfl rfl (ah Wi rfl uA (by decide) rfl) (RL.ev rfl rfl (aj VV rfl rfl (hN.aA 6 rfl) rfl) ?_))))
 iterate 2 refine RL.ev (v:=.int .i64 (ap)) rfl rfl U ?_
 refine RL.ev rfl rfl (aB VV np (hN.sl 7 rfl) rfl rfl (by omega) (by omega)) ?_
 refine RL.op rfl rfl (ck (m:=(ap).toNat) (a:=true) np hN 7 rfl rfl (by omega) rfl rfl rfl rfl ?_)
 clear hN
 intro SE (hN:ak w8 (aT [.aA g8 [.slice none 0 0] 25,.aA g7 [.int .i64 ((n:Int)),v3,.slice none 0 0,.slice none 0 0,.slice none 0 0,.slice none 0 0,v6] 211,.own vB 4 (v6) (Vm (((ar).length:Int)).toNat false)]) SE [_,_,_,_,_,_,_,_])
 refine RL.ev (v:=.int .i64 (ap)) rfl rfl aa (RL.nil (bA (dX (bj (XW.region rfl (RL.ev rfl rfl (an rfl rfl rfl (bc (by omega) (by omega))) (RL.ev (v:=.int .i64 ((i:Int)+1)) rfl rfl U (RL.nil (bA ?_)))))))))
 refine bj ?_
 exact⟨rfl,k-1,by omega,ap,(kl).set (ap).toNat (true),i+1,rfl,rfl,rfl,rfl,rfl,rfl,rfl,rfl,hN,by omega,.inr ⟨by omega,by omega⟩,by(try simp only[Wb]);exact ql⟩
 refine XW.exit ?_
 iterate 2 refine lJ ?_
 refine gu (bj (XW.seq (XW.region rfl (RL.ev (v:=.pointer (some ⟨g7,0,none⟩)) rfl rfl U ?_))))
 refine RL.op rfl rfl (aM abC rfl rfl rfl ((yd g7 (.int .i64 ((n:Int))) (v3) (.slice none 0 0) (.slice none 0 0) (.slice none 0 0) (.slice none 0 0) _ kl _ (hN.aA 6 rfl) (hN.sl 7 rfl) (by omega)).mono ?_))
 rintro Oo QR ⟨cx,aW⟩
 replace hN:ak w8 (aT [.aA g8 [.slice none 0 0] 25,.aA g7 [.int .i64 ((n:Int)),v3,.slice none 0 0,.slice none 0 0,.slice none 0 0,.slice none 0 0,v6] 211,.own vB 4 (v6) (Vm (((ar).length:Int)).toNat false)]) QR [_,_,_,_,_,_,_,_,_]:=hN.bx (l:=(ec (mO kl) 0 kl.length)) cx aW
 clear cx aW
 have MX:∀x∈(ec (mO kl) 0 kl.length),0≤x∧x<(ar.length:Int):=fun x hx=>by
   have aw:=uR.1 hx
   obtain⟨j,_,hj,_,rfl⟩:=aw
   omega
 have TA:=mB (mO kl) kl.length 0
 refine RL.ev (v:=Oo) rfl rfl aa (RL.nil (bA (bj (XW.seq ?_))))
 replace hN:=hN.ext (Ext.drew QR)
 refine XW.cb rfl (by kernel_rfl) (fun u=>ak w8 (aT [.aA g8 [.slice none 0 0] 25,.aA g7 [.int .i64 ((n:Int)),v3,.slice none 0 0,.slice none 0 0,.slice none 0 0,.slice none 0 0,v6] 211,.own vB 4 (v6) (Vm (((ar).length:Int)).toNat false)]) u [.own vI 3 (LL) (zX),.own vI 3 (QT) (Hh),.obj l_ o_,.obj D_ (.deferred (some [])),.aA g8 [v_] 25,.own vI 3 (v_) (a_),.own vB 4 (v6) (kl)]) 18 [(0,0),(1,0),(2,0),(3,0),(4,0),(5,0),(7,0),(8,0),(9,0),(10,0),(6,1),(11,1),(12,0),(13,0),(14,1),(15,0),(16,0),(17,1)] (by kernel_rfl) (hN.sub [1,2,3,4,5,6,8] (by decide) rfl) ?_
 iterate 2 refine RQ.ev (v:=.pointer (some ⟨g7,0,none⟩)) rfl rfl (fun w hS=>U) ?_
 refine RQ.ev rfl rfl (fun w hS=>(aG (cs:=[.int .i64 ((n:Int)),v3]) U4 rfl db rfl (ow.now hS))) (RQ.ev (v:=Oo) rfl rfl (fun w hS=>U) (RQ.ev (v:=.func (.func 145) #[] #[.pointer (some ⟨g1,0,none⟩)]) rfl rfl (fun w hS=>U) (RQ.ev (v:=.func (.func 146) #[] #[.pointer (some ⟨g1,0,none⟩)]) rfl rfl (fun w hS=>U) (RQ.ev rfl rfl (fun w hS=>(aG (cs:=[.int .i64 ((n:Int)),v3]) U4 rfl db rfl (ow.now hS))) (RQ.ev (v:=Oo) rfl rfl (fun w hS=>U) (RQ.ev (v:=.func (.func 146) #[] #[.pointer (some ⟨g1,0,none⟩)]) rfl rfl (fun w hS=>U) (RQ.ev (v:=.func (.func 145) #[] #[.pointer (some ⟨g1,0,none⟩)]) rfl rfl (fun w hS=>U) ?_)))))))
 refine RQ.do rfl rfl (eZ Y1 rfl rfl rfl rfl rfl rfl ((Ei n _ (ec (mO kl) 0 kl.length) g1 _ ar _ (hN.sl 0 rfl) (ow.now hN) (Dm.now hN) eP MX (by omega) (by omega)).mono ?_))
 rintro _ SD ⟨QE,Qy,Uk,Ug,SQ,SO,rfl,bE,_,_,_,_⟩
 replace hN:ak w8 (aT [.aA g8 [.slice none 0 0] 25,.aA g7 [.int .i64 ((n:Int)),v3,.slice none 0 0,.slice none 0 0,.slice none 0 0,.slice none 0 0,v6] 211,.own vB 4 (v6) (Vm (((ar).length:Int)).toNat false)]) SD [_,_,_,_,_,_,_,_,_,_,_]:=hN.dU bE
 clear bE
 refine⟨(hN.sub [3,4,5,6,7,8,10] (by decide) rfl),?_⟩
 refine RQ.do rfl rfl (eZ Y1 rfl rfl rfl rfl rfl rfl ((JR n _ (ec (mO kl) 0 kl.length) g1 _ ar _ (hN.sl 2 rfl) (ow.now hN) (Dm.now hN) eP MX (by omega) (by omega)).mono ?_))
 rintro _ SC ⟨QD,Qx,Uj,Uf,SP,SN,rfl,bE,_,_,_,_⟩
 replace hN:ak w8 (aT [.aA g8 [.slice none 0 0] 25,.aA g7 [.int .i64 ((n:Int)),v3,.slice none 0 0,.slice none 0 0,.slice none 0 0,.slice none 0 0,v6] 211,.own vB 4 (v6) (Vm (((ar).length:Int)).toNat false)]) SC [_,_,_,_,_,_,_,_,_,_,_,_,_]:=hN.dU bE
 clear bE
 refine⟨(hN.sub [5,6,7,8,9,10,12] (by decide) rfl),?_⟩
 refine RQ.ev rfl rfl (fun w hS=>(bt rfl)) (RQ.ev rfl rfl (fun w hS=>(ah Wi rfl ld (by decide) rfl)) ?_)
 refine RQ.do rfl rfl (oc (vs:=[QE,Qy]) ld rfl rfl rfl (by intro u hu;simp only[U9,U2,or_false]at hu;rcases hu with rfl|rfl<;>first|rfl|exact(hN.sl 2 rfl).bJ|exact(hN.sm 3 rfl).bJ) hN 11 rfl (US rfl) ?_)
 clear hN
 intro SB (hN:ak w8 (aT [.aA g8 [.slice none 0 0] 25,.aA g7 [.int .i64 ((n:Int)),v3,.slice none 0 0,.slice none 0 0,.slice none 0 0,.slice none 0 0,v6] 211,.own vB 4 (v6) (Vm (((ar).length:Int)).toNat false)]) SB [_,_,_,_,_,_,_,_,_,_,_,_,_])
 refine⟨(hN.sub [5,6,7,8,9,10,12] (by decide) rfl),?_⟩
 refine RQ.ev rfl rfl (fun w hS=>(bt rfl)) (RQ.ev rfl rfl (fun w hS=>(ah Wi rfl ld (by decide) rfl)) ?_)
 refine RQ.do rfl rfl (oc (vs:=[QD,Qx]) ld rfl rfl rfl (by intro u hu;simp only[U9,U2,or_false]at hu;rcases hu with rfl|rfl<;>first|rfl|exact(hN.sl 0 rfl).bJ|exact(hN.sm 1 rfl).bJ) hN 11 rfl (US rfl) ?_)
 clear hN
 intro SA (hN:ak w8 (aT [.aA g8 [.slice none 0 0] 25,.aA g7 [.int .i64 ((n:Int)),v3,.slice none 0 0,.slice none 0 0,.slice none 0 0,.slice none 0 0,v6] 211,.own vB 4 (v6) (Vm (((ar).length:Int)).toNat false)]) SA [_,_,_,_,_,_,_,_,_,_,_,_,_])
 refine⟨(hN.sub [5,6,7,8,9,10,12] (by decide) rfl),?_⟩
 refine RQ.done (by kernel_rfl) (bA (bj (XW.seq (XW.region rfl (RL.ev (v:=.pointer (some ⟨g7,0,none⟩)) rfl rfl U (RL.ev (v:=.pointer (some ⟨g7,0,none⟩)) rfl rfl aa (RL.nil (bA (bj ?_)))))))))
 refine XW.ret (AU (Dw hN (.inl rfl) 8 rfl ?_))
 clear hN
 intro Sz (hN:ak w8 (aT [.aA g8 [.slice none 0 0] 25,.aA g7 [.int .i64 ((n:Int)),v3,.slice none 0 0,.slice none 0 0,.slice none 0 0,.slice none 0 0,v6] 211,.own vB 4 (v6) (Vm (((ar).length:Int)).toNat false)]) Sz [_,_,_,_,_,_,_,_,_,_,_,_,_])
 refine⟨_,RV.tmp rfl,?_⟩
 exact⟨_,_,_,_,_,_,_,rfl,(hN.aA 11 rfl),(Dm.now hN),(Ny.back hN).aE⟩
theorem wJ (n:Int) (v:Value) (ar:List I3) (w:World) (hv:Sm bf w v ar) (CB:¬dw n ar=0):al UY 67 #[.agg #[.int .i64 n,v]] w fun r w'=>r=.pointer none∧Ext w w':=by
 refine al.jV Zp rfl (US rfl) ?_
 rw[bL]
 have hN:=ak.nil w none_
 refine XW.seq (XW.region rfl ?_)
 refine RL.op rfl rfl (bq (cs:=[.int .i64 (n),v]) rfl rfl hN ?_)
 clear hN
 intro g1 w1 (hN:ak w none_ w1 [_])
 refine RL.ev (v:=.pointer none) rfl rfl aa (RL.nil (bA (bj (XW.scope ?_))))
 iterate 2 refine XW.seq ?_
 refine XW.region rfl (RL.ev rfl rfl (aG (cs:=[.int .i64 (n),v]) U4 rfl db rfl (hN.aA 0 rfl)) ?_)
 refine RL.op rfl rfl (aM Y2 rfl rfl rfl ((kT (n) _ ar _ (hv.o.now hN)).mono ?_))
 rintro _ w2 ⟨rfl,aW⟩
 replace hN:=hN.ext aW
 clear aW
 refine RL.ev rfl rfl (cS (bp rfl rfl) CB) (RL.nil (bA (bj (XW.bK rfl (XW.seq (XW.region rfl (RL.ev (v:=.pointer none) rfl rfl aa (RL.nil (bA ?_)))))))))
 refine bj (XW.ret (Jo (AU (LJ (RV.tmp rfl) ?_))))
 exact⟨rfl,hN.aE⟩
end Go.Proofs.YtngkdkbpgoddlaaGreat
namespace Go.Proofs.YtngkdkbpgoddlaaGreat
open Go.RowKit Go.Rl
open Go.Gr
theorem kE (h:xe) (x:Int) (w:World):al UY 131 #[.int .u64 (h.toNat:Int),.int .i64 x] w fun r w'=>r=.int .u64 ((jU h x).toNat:Int)∧w=w':=by
 refine al.start Yo rfl (US rfl) ?_
 rw[cc]
 have hN:=ak.nil w none_
 refine RW.seq (RW.region (RL.ev (v:=.int .u64 (0)) rfl rfl aa (RL.nil (ag (RW.seq (RW.region (RL.ev (v:=.int .u64 (((h).toNat:Int))) rfl rfl U (RL.ev (v:=.int .i64 (x)) rfl rfl U (RL.ev rfl rfl (cw UU VA rfl (DR x)) ?_)))))))))
 refine RL.ev rfl rfl (an rfl rfl rfl (AY _ _)) (RL.ev rfl rfl (an rfl rfl rfl (Ih _)) (RL.ev (v:=.int .u64 (((mixed h x).toNat:Int))) rfl rfl aa (RL.nil (ag (RW.seq (RW.region ?_))))))
 iterate 2 refine RL.ev (v:=.int .u64 (((mixed h x).toNat:Int))) rfl rfl U ?_
 refine RL.ev rfl rfl (ph rfl rfl (by decide) (LP _)) (RL.ev rfl rfl (an rfl rfl rfl (AY _ _)) (RL.ev (v:=.int .u64 (((jU h x).toNat:Int))) rfl rfl aa (RL.nil (ag (RW.ret (aL (RV.tmp rfl) ?_))))))
 exact⟨rfl,rfl⟩
end Go.Proofs.YtngkdkbpgoddlaaGreat
namespace Go.Proofs.YtngkdkbpgoddlaaGreat
open Go.RowKit Go.Rl
open Go.Gr
theorem mL (h:xe) (x:Int) (g:Nat) (w:World) (hN:ak w (aT [.aA g [.int .u64 ((h).toNat:Int)] 57]) w [.aA g [.int .u64 ((h).toNat:Int)] 57]):al UY 153 #[.int .i64 x,.pointer (some ⟨g,0,none⟩)] w fun r w'=>r=.tuple #[]∧ak w (aT [.aA g [.int .u64 ((h).toNat:Int)] 57]) w' [.aA g [.int .u64 ((jU h x).toNat:Int)] 57]:=by
 refine al.start Yp rfl (US rfl) ?_
 rw[cc]
 refine RW.seq (RW.region (RL.ev rfl rfl (aj VA rfl rfl (hN.aA 0 rfl) rfl) (RL.ev (v:=.int .i64 (x)) rfl rfl U (RL.ev rfl rfl (cw UU VA rfl (DR x)) (RL.ev rfl rfl (an rfl rfl rfl (AY _ _)) (RL.ev rfl rfl (an rfl rfl rfl (Ih _)) ?_))))))
 refine RL.op rfl rfl (b9 Jv rfl rfl rfl rfl hN 0 rfl (US rfl) ?_)
 clear hN
 intro w1 (hN:ak w (aT [.aA g [.int .u64 ((h).toNat:Int)] 57]) w1 [_])
 refine RL.nil (ag (RW.region ?_))
 iterate 2 refine RL.ev rfl rfl (aj VA rfl rfl (hN.aA 0 rfl) rfl) ?_
 refine RL.ev rfl rfl (mn rfl rfl (by decide) (LO _)) (RL.ev rfl rfl (an rfl rfl rfl (AY _ _)) ?_)
 refine RL.op rfl rfl (b9 Jv rfl rfl rfl rfl hN 0 rfl (US rfl) ?_)
 clear hN
 intro w2 (hN:ak w (aT [.aA g [.int .u64 ((h).toNat:Int)] 57]) w2 [_])
 refine RL.nil (LU (RV.zero rfl) ?_)
 exact⟨rfl,hN⟩
end Go.Proofs.YtngkdkbpgoddlaaGreat
namespace Go.Proofs.YtngkdkbpgoddlaaGreat
open Go.RowKit Go.Rl
open Go.cP
theorem sU (wide:Int) (w:World):al UY 129 #[vi wide] w fun r w'=>r=vi (clip wide:Nat)∧w=w':=by
 refine al.start aaf rfl (US rfl) ?_
 rw[bL]
 refine RW.seq (RW.region (RL.ev rfl rfl aa (RL.nil (ag (RW.seq (RW.region (RL.ev rfl rfl U (RL.ev rfl rfl (F1 rfl rfl) (RL.ev rfl rfl (AJ rfl rfl) ?_)))))))))
 refine RL.ev rfl rfl aa (RL.nil (ag (RW.ret (aL (RV.tmp rfl) ?_))))
 refine⟨?_,rfl⟩
 show Vn .i64 (max 0 (min wide 8))=_
 unfold clip vi;congr 1;omega
theorem ki (n:Nat) (wide:Int) (w:World) (hn:n<18446744073709551616):al UY 66 #[.int .u64 (n:Int),vi wide] w fun r w'=>dy vb 5 w' w.heap.size r (put n (clip wide))∧Ext w w':=by
 refine al.start X5 rfl (US rfl) ?_
 rw[cc]
 refine RW.seq (RW.region (RL.ev rfl rfl aa (RL.nil (ag (RW.seq (RW.region (RL.ev rfl rfl U ?_)))))))
 refine RL.op rfl rfl (aM aaf rfl rfl rfl ((sU wide _).mono ?_))
 rintro _ _ ⟨rfl,rfl⟩
 have KJ:=qX wide
 generalize hk:clip wide=kk at KJ
 refine RL.op rfl rfl (A7 (enc:=vb) (z:=0) U1 j4 rfl rfl (by omega) (by omega) (by omega) ?_)
 intro w1 ka iN gM iR
 simp only[WN]at ka iN ⊢
 rw[←vO n]at ka
 refine RL.ev rfl rfl aa (RL.nil (ag ?_))
 iterate 2 refine RW.seq ?_
 refine RW.region (RL.ev rfl rfl U (RL.ev rfl rfl (aQ U1 ka.sl rfl) ?_))
 rw[jl]
 refine RL.ev rfl rfl U (RL.nil (ag (RW.block ?_)))
 refine RW.loop (fun k R w'=>∃i:Nat,R 12=.int .i64 (i:Int)∧R 11=.int .i64 (kk:Int)∧R 0=.int .u64 (n:Int)∧R 5=.slice (some ⟨w.heap.size,0,none⟩) kk kk∧(i+k=kk)∧(dy vb 5 w' w.heap.size (.slice (some ⟨w.heap.size,0,none⟩) kk kk) (gO n kk i))∧(Ext w w')) kk ?_ ?_
 exact⟨0,rfl,rfl,rfl,rfl,by omega,ka,gM⟩
 rintro k R w' ⟨i,gI,iC,bN,bM,eR,ho,dZ⟩
 have bY:∃R0,R=(aZ (aZ (aZ (aZ R0 12 _) 11 _) 0 _) 5 _):=⟨R,by rw[ai gI,ai iC,ai bN,ai bM]⟩
 obtain⟨R0,rfl⟩:=bY
 clear gI iC bN bM
 refine RW.seq (RW.region (RL.ev rfl rfl (aV rfl rfl) (RL.nil (ag (RW.seq ?_)))))
 refine RW.aN _ rfl (fun bW=>?_) (fun bW=>?_)
 refine RW.skip (ag (RW.seq (RW.block (RW.seq (RW.region (RL.ev rfl rfl U (RL.ev rfl rfl aa (RL.nil (ag ?_)))))))))
 refine RW.region ?_
 iterate 4 refine RL.ev rfl rfl U ?_
 refine RL.ev rfl rfl (an rfl rfl rfl (rX (by omega) (by omega))) (RL.ev rfl rfl (mn rfl rfl (by omega) (DM n i (by omega))) (RL.ev rfl rfl (cw VA Vu rfl (xp _)) (RL.ev rfl rfl (aB U1 lG ho.sl rfl rfl (by omega) (by rw[jl];omega)) ?_)))
 refine RL.op rfl rfl (pE (a:=Wp (n/256^i)) lG ho rfl (by rw[jl];omega) rfl rfl rfl rfl ?_)
 intro w2 xj EL ff
 rw[WN,←vP]at xj
 have jh:Ext w w2:=dZ.then EL (fun x hx e=>by have:=(ho.lt _ e).1;omega)
 refine RL.nil (a7 (ag (RW.region (RL.ev rfl rfl (an rfl rfl rfl (bc (by omega) (by omega))) (RL.ev rfl rfl U (RL.nil (ag ?_)))))))
 exact⟨k-1,by omega,i+1,rfl,rfl,rfl,rfl,by omega,xj,jh⟩
 refine RW.exit ?_
 iterate 2 refine bm ?_
 refine aO (ag (RW.seq (RW.region (RL.ev rfl rfl U (RL.ev rfl rfl aa (RL.nil (ag (RW.ret (aL (RV.tmp rfl) ?_)))))))))
 refine⟨?_,dZ⟩
 have hi:i=kk:=by omega
 subst hi
 rw[vQ]at ho
 exact ho
theorem cY (v:Value) (l:List Int) (w:World) (hv:Sl vi w v l) (hl:l.length*8≤140737488351232):al UY 70 #[v] w fun r w'=>dy vb 5 w' w.heap.size r (aK l)∧Ext w w':=by
 refine al.start Wj rfl (US rfl) ?_
 rw[bL]
 refine RW.seq (RW.region (RL.ev rfl rfl aa (RL.nil (ag (RW.seq (RW.region (RL.ev rfl rfl U (RL.ev rfl rfl (aQ UW hv rfl) (RL.ev rfl rfl (cw UU VA rfl (eu _ (by omega))) ?_)))))))))
 refine RL.op rfl rfl (aR X5 rfl rfl rfl rfl ((ki l.length 4 _ (by omega)).mono ?_))
 rintro v1 w1 ⟨ka,gM⟩
 rw[nL]at ka
 refine RL.ev rfl rfl aa (RL.nil (ag ?_))
 iterate 2 refine RW.seq ?_
 refine RW.region (RL.ev rfl rfl U (RL.ev rfl rfl (aQ UW (hv.ext gM) rfl) (RL.ev rfl rfl U (RL.nil (ag (RW.block ?_))))))
 refine RW.loop (fun k R w'=>∃i:Nat,∃vo:Value,R 12=.int .i64 (i:Int)∧R 11=.int .i64 (l.length:Int)∧R 10=v∧R 3=vo∧(i+k=l.length)∧(dy vb 5 w' w.heap.size vo (put l.length 4++(l.take i).flatMap fun x=>put (nk x) 8))∧(Ext w w')) l.length ?_ ?_
 exact⟨0,v1,rfl,rfl,rfl,rfl,by omega,by simpa using ka,gM⟩
 rintro k R w' ⟨i,vo,gI,iC,cB,ca,eR,ho,dZ⟩
 have bY:∃R0,R=(aZ (aZ (aZ (aZ R0 12 _) 11 _) 10 _) 3 _):=⟨R,by rw[ai gI,ai iC,ai cB,ai ca]⟩
 obtain⟨R0,rfl⟩:=bY
 clear gI iC cB ca
 refine RW.seq (RW.region (RL.ev rfl rfl (aV rfl rfl) (RL.nil (ag (RW.seq ?_)))))
 refine RW.aN _ rfl (fun bW=>?_) (fun bW=>?_)
 refine RW.skip (ag (RW.seq (RW.block (RW.seq (RW.region (RL.ev rfl rfl (aB UW bu (hv.ext dZ) rfl rfl (by omega) (by omega)) (RL.ev rfl rfl (iH UU rfl (hv.ext dZ) rfl (by omega)) (RL.ev rfl rfl aa (RL.nil ?_)))))))))
 refine ag (RW.region ?_)
 iterate 2 refine RL.ev rfl rfl U ?_
 refine RL.ev rfl rfl (cw UU VA rfl (wrap_u64 _)) ?_
 refine RL.op rfl rfl (aR X5 rfl rfl rfl rfl ((ki (nk (l[(i:Int).toNat]'(by omega))) 8 _ (zz _)).mono ?_))
 rintro v2 w2 ⟨xj,jh⟩
 rw[wV]at xj
 refine RL.op rfl rfl (eg U1 j4 rfl hZ (ho.ext jh) rfl xj.sl rfl (by simp only[UX,bR];rw[iG];simp only[Vs];omega) (by decide) (by have:=dZ.size;have:=jh.size;omega) ?_)
 intro v3 w3 HF Bi PI
 have ml:Ext w w3:=(dZ.trans jh).then Bi (fun x hx e=>by have:=(ho.lt _ e).1;omega)
 refine RL.ev rfl rfl aa (RL.nil (a7 (ag (RW.region (RL.ev rfl rfl (an rfl rfl rfl (bc (by omega) (by omega))) (RL.ev rfl rfl U (RL.nil (ag ?_))))))))
 refine⟨k-1,by omega,i+1,v3,rfl,rfl,rfl,rfl,by omega,?_,ml⟩
 rw[u4 l i (by omega),←VF]
 simpa using HF
 refine RW.exit ?_
 iterate 2 refine bm ?_
 refine aO (ag (RW.seq (RW.region (RL.ev rfl rfl U (RL.ev rfl rfl aa (RL.nil (ag (RW.ret (aL (RV.tmp rfl) ?_)))))))))
 refine⟨?_,dZ⟩
 rw[Vo (by omega)]at ho
 exact ho
theorem zC (s:List UInt8) (w:World) (hl:s.length≤140737488351232):al UY 48 #[str s] w fun r w'=>dy vb 5 w' w.heap.size r (fL s)∧Ext w w':=by
 refine al.start Tryz.func48 rfl (US rfl) ?_
 rw[bL]
 refine RW.seq (RW.region (RL.ev rfl rfl aa (RL.nil (ag (RW.seq (RW.region (RL.ev rfl rfl U (RL.ev rfl rfl (y6 VO rfl) (RL.ev rfl rfl (cw UU VA rfl (eu _ (by omega))) ?_)))))))))
 refine RL.op rfl rfl (aR X5 rfl rfl rfl rfl ((ki s.length 4 _ (by omega)).mono ?_))
 rintro v1 w1 ⟨ka,gM⟩
 rw[nL]at ka
 refine RL.ev rfl rfl U ?_
 refine RL.op rfl rfl (ob U1 VO j4 ka rfl rfl (by rw[bR];omega) gM.size ?_)
 intro v2 w2 xj EL
 have jh:Ext w w2:=gM.then EL (fun x hx e=>by have:=(ka.lt _ e).1;omega)
 refine RL.ev rfl rfl aa (RL.nil (ag (RW.ret (aL (RV.tmp rfl) ?_))))
 refine⟨?_,jh⟩
 exact xj
end Go.Proofs.YtngkdkbpgoddlaaGreat
namespace Go.Proofs.YtngkdkbpgoddlaaGreat
open Go.RowKit Go.Rl
open Go.cP
theorem Jf:(UY.info? 142).map (·.zero)=some (some (.agg #[.slice none 0 0,.int .i64 0])):=by kernel_rfl
theorem mF (v:Value) (l:List UInt8) (w:World) (hv:Sl vb w v l) (hl:l.length≤140737488355328):al UY 36 #[v] w fun r w'=>∃g,r=.pointer (some ⟨g,0,none⟩)∧Rd 142 w' w.heap.size w'.heap.size g (l,0)∧Ext w w':=by
 refine al.start YA rfl (US rfl) ?_
 rw[bL]
 refine RW.seq (RW.region (RL.ev rfl rfl aa (RL.nil (ag (RW.seq (RW.region (RL.ev rfl rfl U ?_)))))))
 refine RL.op rfl rfl (eg (l:=[]) U1 j4 rfl hZ (dy.nil vb 5 w w.heap.size) rfl hv rfl (by simp;omega) (by decide) (Vv _) ?_)
 intro v1 w1 ka fZ Ar
 rw[Wm]at ka
 have gM:Ext w w1:=fZ.mono (by intro i _ h;cases h)
 have iR:=ka.sl
 have iN:=ka.lt
 obtain⟨A1,c1,rfl,TS,fZ,KI⟩:=iR
 refine RL.ev rfl rfl (oB (cs:=[.slice A1 l.length c1,.int .i64 0]) Wa Jf (places:=#[(0,1),(1,1)]) (by intro w;kernel_rfl) (pl:=[(0,.tmp 4)]) rfl rfl rfl) ?_
 refine RL.op rfl rfl (oZ (cs:=[.slice A1 l.length c1,.int .i64 0]) rfl rfl ?_)
 intro w2 jR jh ff
 refine RL.ev rfl rfl aa (RL.nil (ag (RW.ret (aL (RV.tmp rfl) ?_))))
 refine⟨w1.heap.size,rfl,⟨gM.size,by omega,_,jR,Sl.ext ⟨A1,c1,rfl,TS,fZ,KI⟩ jh,fun k hk=>?_⟩,gM.trans jh⟩
 have:=iN k hk
 exact⟨this.1,by omega,by omega⟩
theorem jv (lo hi g:Nat) (s:St) (e:Int) (w:World) (hr:Rd 142 w lo hi g s):al UY 156 #[.pointer (some ⟨g,0,none⟩),vi e] w fun r w'=>Rd 142 w' lo hi g ([],e)∧Rl.Mod (fun k=>k=g) w w'∧w'.heap.size=w.heap.size:=by
 refine al.start XK rfl (US rfl) ?_
 rw[cc]
 obtain⟨nO,mj,v,hb,hs,hv⟩:=hr
 refine RW.region ?_
 iterate 3 refine RL.ev rfl rfl U ?_
 refine RL.ev rfl rfl (bt rfl) (RL.ev rfl rfl (ah Wa rfl fq (by decide) rfl) ?_)
 refine RL.op rfl rfl (kn (v:=.slice none 0 0) fq rfl rfl rfl rfl hb (by simp) ?_)
 intro w1 iN fZ iR
 refine RL.ev rfl rfl (bt rfl) (RL.ev rfl rfl (ah Wa rfl td (by decide) rfl) ?_)
 refine RL.op rfl rfl (kn (v:=vi e) td rfl rfl rfl rfl iN (by simp) ?_)
 intro w2 jR EL ff
 refine RL.nil (LU (RV.zero rfl) ?_)
 exact⟨⟨nO,mj,_,jR,Sl.nil _ _,fun k hk=>by cases hk⟩,Mod.trans fZ EL (fun _ _=>id) (fun _ _=>id),by omega⟩
theorem nm (lo hi g:Nat) (s:St) (n:Nat) (w:World) (hr:Rd 142 w lo hi g s):al UY 128 #[.pointer (some ⟨g,0,none⟩),vi (n:Int)] w fun r w'=>∃x b,r=.tuple #[x,.bool b]∧Sl vb w' x (ej s n).2∧(∀k,x.ownBlock=some k→lo≤k∧k<hi∧k≠g)∧Rd 142 w' lo hi g (ej s n).1∧Rl.Mod (fun k=>k=g) w w'∧w'.heap.size=w.heap.size:=by
 refine al.start Y3 rfl (US rfl) ?_
 rw[cc]
 have Aj:=hr
 obtain⟨nO,mj,v,hb,hs,hv⟩:=hr
 refine RW.seq (RW.region ?_)
 iterate 2 refine RL.ev rfl rfl aa ?_
 refine RL.nil (ag (RW.seq (RW.block (RW.seq (RW.region (RL.ev rfl rfl U (RL.ev rfl rfl (cm (iI Wq rfl rfl) (by simp)) (RL.ev rfl rfl U (RL.aI rfl rfl (by decide) rfl rfl U ?_)))))))))
 refine RL.aI rfl rfl (by decide) rfl rfl (bt rfl) (RL.aI rfl rfl (by decide) rfl rfl (ah Wa rfl td (by decide) rfl) (RL.aI rfl rfl (by decide) rfl rfl (aj WX rfl rfl hb rfl) (RL.aI rfl rfl (by decide) rfl rfl (bp rfl rfl) (RL.ev rfl rfl (aH rfl) (RL.ev rfl rfl aa (RL.nil (ag ?_)))))))
 refine RW.aN _ rfl (fun di=>?_) (fun di=>?_)
 refine RW.seq (RW.region ?_)
 iterate 2 refine RL.ev rfl rfl aa ?_
 refine RL.nil (ag (RW.ret (aJ (aD (aL (RV.fR rfl) ?_)))))
 rw[uy n di]
 exact⟨_,_,rfl,Sl.nil _ _,(fun k hk=>by cases hk),Aj,Mod.refl _ _,rfl⟩
 refine RW.seq (RW.region ?_)
 have hz:s.2=0:=Vi.1 di
 have hlen:=hs.aY
 iterate 2 refine RL.ev rfl rfl U ?_
 refine RL.ev rfl rfl (bt rfl) (RL.ev rfl rfl (ah Wa rfl fq (by decide) rfl) (RL.ev rfl rfl (aj U1 rfl rfl hb rfl) (RL.ev rfl rfl (aQ U1 hs rfl) (RL.ev rfl rfl (cN rfl rfl) (RL.ev rfl rfl aa (RL.nil (ag ?_)))))))
 refine RW.aN _ rfl (fun bW=>?_) (fun bW=>?_)
 refine RW.seq (RW.region (RL.ev rfl rfl U ?_))
 refine RL.op rfl rfl (aR XK rfl rfl rfl rfl ((jv lo hi g s 10 _ Aj).mono ?_))
 rintro _ w1 ⟨j9,fZ,iR⟩
 refine RL.nil (ag (RW.seq (RW.region ?_)))
 iterate 2 refine RL.ev rfl rfl aa ?_
 refine RL.nil (ag (RW.ret (aJ (aD (aL (RV.fR rfl) ?_)))))
 rw[lK hz (by omega)]
 exact⟨_,_,rfl,Sl.nil _ _,(fun k hk=>by cases hk),j9,fZ,iR⟩
 refine RW.skip (a7 (ag (RW.seq (RW.region (RL.ev rfl rfl U (RL.ev rfl rfl (bt rfl) (RL.ev rfl rfl (ah Wa rfl fq (by decide) rfl) (RL.ev rfl rfl (aj U1 rfl rfl hb rfl) ?_))))))))
 iterate 2 refine RL.ev rfl rfl U ?_
 refine RL.ev rfl rfl (K7 U1 lG hs rfl rfl rfl (by omega) (by omega)) (RL.ev rfl rfl aa (RL.nil (ag (RW.seq (RW.region ?_)))))
 iterate 2 refine RL.ev rfl rfl U ?_
 refine RL.ev rfl rfl (bt rfl) (RL.ev rfl rfl (ah Wa rfl fq (by decide) rfl) (RL.ev rfl rfl (aj U1 rfl rfl hb rfl) (RL.ev rfl rfl U (RL.ev rfl rfl (eW U1 lG hs rfl rfl (by omega) (by omega)) (RL.ev rfl rfl (bt rfl) (RL.ev rfl rfl (ah Wa rfl fq (by decide) rfl) ?_))))))
 refine RL.op rfl rfl (kn (v:=jy v (n:Int).toNat s.1.length) fq rfl rfl (by obtain⟨A1,c1,rfl,_⟩:=hs;rfl) (by obtain⟨A1,c1,rfl,_⟩:=hs;rfl) hb (by simp) ?_)
 intro w1 iN fZ iR
 refine RL.nil (ag (RW.seq (RW.region (RL.ev rfl rfl U ?_))))
 iterate 2 refine RL.ev rfl rfl aa ?_
 refine RL.nil (ag (RW.ret (aL (RV.fR rfl) ?_)))
 rw[iw hz (by omega)]
 simp only[WN]at iN ⊢
 have iR:=hs.mod fZ (fun k hk e=>(hv k hk).2.2 e)
 refine⟨CW v n,true,rfl,iR.CW (by omega),fun k hk=>hv k (by rw[AM iR]at hk;exact hk),⟨nO,mj,_,by rw[hz]at iN;exact iN,iR.fM (by omega),fun k hk=>hv k (by rw[ik iR]at hk;exact hk)⟩,fZ,by omega⟩
theorem mD (lo hi g:Nat) (s:St) (wide:Int) (w:World) (hr:Rd 142 w lo hi g s):al UY 57 #[.pointer (some ⟨g,0,none⟩),vi wide] w fun r w'=>r=.int .u64 ((eh s (clip wide)).2:Int)∧Rd 142 w' lo hi g (eh s (clip wide)).1∧Rl.Mod (fun k=>k=g) w w'∧w'.heap.size=w.heap.size:=by
 refine al.start YB rfl (US rfl) ?_
 rw[cc]
 refine RW.seq (RW.region (RL.ev rfl rfl aa (RL.nil (ag (RW.seq (RW.region ?_))))))
 iterate 2 refine RL.ev rfl rfl U ?_
 refine RL.op rfl rfl (aM aaf rfl rfl rfl ((sU wide _).mono ?_))
 rintro _ _ ⟨rfl,rfl⟩
 refine RL.op rfl rfl (aR Y3 rfl rfl rfl rfl ((nm lo hi g s (clip wide) _ hr).mono ?_))
 rintro _ w1 ⟨x,b,rfl,hx,NW,j9,fZ,iR⟩
 have hlen:=uw s (clip wide)
 have KJ:=qX wide
 have hle:∀i,le ((ej s (clip wide)).2.take i)<256^((ej s (clip wide)).2.take i).length:=fun i=>Eh _
 unfold eh
 generalize hl:(ej s (clip wide)).2=l at hx hlen hle
 refine RL.ev rfl rfl U ?_
 iterate 2 refine RL.ev rfl rfl (bg rfl rfl) ?_
 iterate 2 refine RL.ev rfl rfl aa ?_
 refine RL.nil (ag (RW.seq (RW.region (RL.ev rfl rfl aa (RL.nil (ag ?_))))))
 iterate 2 refine RW.seq ?_
 refine RW.region (RL.ev rfl rfl U (RL.ev rfl rfl (aQ U1 hx rfl) (RL.ev rfl rfl U (RL.nil (ag (RW.block ?_))))))
 refine RW.loop (fun k R w'=>∃i:Nat,R 19=.int .i64 (i:Int)∧R 18=.int .i64 (l.length:Int)∧R 17=x∧R 7=.int .u64 (le (l.take i):Int)∧(i+k=l.length)∧(w1=w')) l.length ?_ ?_
 exact⟨0,rfl,rfl,rfl,rfl,by omega,rfl⟩
 rintro k R w' ⟨i,eC,ed,ee,cd,eR,hw⟩
 have bY:∃R0,R=(aZ (aZ (aZ (aZ R0 19 _) 18 _) 17 _) 7 _):=⟨R,by rw[ai eC,ai ed,ai ee,ai cd]⟩
 obtain⟨R0,rfl⟩:=bY
 clear eC ed ee cd
 subst hw
 refine RW.seq (RW.region (RL.ev rfl rfl (aV rfl rfl) (RL.nil (ag (RW.seq ?_)))))
 refine RW.aN _ rfl (fun bW=>?_) (fun bW=>?_)
 refine RW.skip (ag (RW.seq (RW.block (RW.seq (RW.region (RL.ev rfl rfl U (RL.ev rfl rfl (aB U1 lG hx rfl rfl (by omega) (by omega)) (RL.ev rfl rfl (iH Vu rfl hx rfl (by omega)) ?_))))))))
 iterate 2 refine RL.ev rfl rfl aa ?_
 refine RL.nil (ag (RW.region ?_))
 iterate 2 refine RL.ev rfl rfl U ?_
 refine RL.ev rfl rfl (cw Vu VA rfl (eu _ (by have:=(l[(i:Int).toNat]'(by omega)).toNat_lt;omega))) (RL.ev rfl rfl U (RL.ev rfl rfl (an rfl rfl rfl (rX (by omega) (by omega))) (RL.ev rfl rfl (K4 rfl rfl (by omega) (DN _ i (by omega))) (RL.ev rfl rfl (an rfl rfl rfl (Hj _ _ i (by have:=hle i;rwa [Vs,Yl (by omega)]at this) (l[(i:Int).toNat]'(by omega)).toNat_lt (by omega))) (RL.ev rfl rfl aa (RL.nil (a7 (ag (RW.region ?_)))))))))
 refine RL.ev rfl rfl (an rfl rfl rfl (bc (by omega) (by omega))) (RL.ev rfl rfl U (RL.nil (ag ?_)))
 refine⟨k-1,by omega,i+1,rfl,rfl,rfl,?_,by omega,rfl⟩
 rw[Hu l i (by omega)];rfl
 refine RW.exit ?_
 iterate 2 refine bm ?_
 refine aO (ag (RW.seq (RW.region (RL.ev rfl rfl U (RL.ev rfl rfl aa (RL.nil (ag (RW.ret (aL (RV.tmp rfl) ?_)))))))))
 refine⟨?_,j9,fZ,iR⟩
 exact congrArg (fun l=>Vn .u64 ((le l:Nat):Int)) (Vo (by omega))
theorem sb (lo hi g:Nat) (s:St) (w:World) (hr:Rd 142 w lo hi g s):al UY 37 #[.pointer (some ⟨g,0,none⟩)] w fun r w'=>r=vi (s.1.length:Int)∧w=w':=by
 refine al.start aaH rfl (US rfl) ?_
 rw[bL]
 obtain⟨nO,mj,v,hb,hs,hv⟩:=hr
 refine RW.seq (RW.region (RL.ev rfl rfl aa (RL.nil (ag ?_))))
 iterate 2 refine RW.seq ?_
 refine RW.region (RL.ev rfl rfl U (RL.ev rfl rfl (cm (iI Wq rfl rfl) (by simp)) (RL.nil (ag (RW.dD rfl (RW.skip (ag (RW.seq (RW.region ?_)))))))))
 refine RL.ev rfl rfl U (RL.ev rfl rfl (bt rfl) (RL.ev rfl rfl (ah Wa rfl fq (by decide) rfl) (RL.ev rfl rfl (aj U1 rfl rfl hb rfl) (RL.ev rfl rfl (aQ U1 hs rfl) (RL.ev rfl rfl aa (RL.nil (ag (RW.ret (aL (RV.tmp rfl) ?_)))))))))
 exact⟨rfl,rfl⟩
theorem eV (lo hi g:Nat) (s:St) (w:World) (hr:Rd 142 w lo hi g s):al UY 40 #[.pointer (some ⟨g,0,none⟩)] w fun r w'=>r=vi s.2∧w=w':=by
 refine al.start Xm rfl (US rfl) ?_
 rw[bL]
 obtain⟨nO,mj,v,hb,hs,hv⟩:=hr
 refine RW.seq (RW.region (RL.ev rfl rfl aa (RL.nil (ag ?_))))
 iterate 2 refine RW.seq ?_
 refine RW.region (RL.ev rfl rfl U (RL.ev rfl rfl (cm (iI Wq rfl rfl) (by simp)) (RL.nil (ag (RW.dD rfl (RW.skip (ag (RW.seq (RW.region ?_)))))))))
 refine RL.ev rfl rfl U (RL.ev rfl rfl (bt rfl) (RL.ev rfl rfl (ah Wa rfl td (by decide) rfl) (RL.ev rfl rfl (aj WX rfl rfl hb rfl) (RL.ev rfl rfl aa (RL.nil (ag (RW.ret (aL (RV.tmp rfl) ?_))))))))
 exact⟨rfl,rfl⟩
theorem pn (lo hi g:Nat) (s:St) (w:World) (hr:Rd 142 w lo hi g s):al UY 45 #[.pointer (some ⟨g,0,none⟩)] w fun r w'=>r=vi (jx s)∧w=w':=by
 refine al.start Zq rfl (US rfl) ?_
 rw[bL]
 refine RW.seq (RW.region (RL.ev rfl rfl aa (RL.nil (ag ?_))))
 iterate 2 refine RW.seq ?_
 refine RW.region (RL.ev rfl rfl U ?_)
 refine RL.op rfl rfl (aM Xm rfl rfl rfl ((eV lo hi g s _ hr).mono ?_))
 rintro _ _ ⟨rfl,rfl⟩
 refine RL.ev rfl rfl aa (RL.nil (ag (RW.seq (RW.region (RL.ev rfl rfl U (RL.ev rfl rfl (bp rfl rfl) (RL.nil (ag ?_))))))))
 refine RW.aN _ rfl (fun di=>?_) (fun di=>?_)
 refine RW.seq (RW.region (RL.ev rfl rfl U (RL.ev rfl rfl aa (RL.nil (ag (RW.ret (aD (aL (RV.tmp rfl) ?_))))))))
 refine⟨?_,rfl⟩
 unfold jx;rw[if_pos di];rfl
 refine RW.skip (ag ?_)
 iterate 2 refine RW.seq ?_
 refine RW.region (RL.ev rfl rfl U ?_)
 refine RL.op rfl rfl (aM aaH rfl rfl rfl ((sb lo hi g s _ hr).mono ?_))
 rintro _ _ ⟨rfl,rfl⟩
 refine RL.ev rfl rfl (cN rfl rfl) (RL.nil (ag ?_))
 refine RW.aN _ rfl (fun bW=>?_) (fun bW=>?_)
 refine RW.seq (RW.region (RL.ev rfl rfl aa (RL.nil (ag (RW.ret (aD (aL (RV.tmp rfl) ?_)))))))
 refine⟨?_,rfl⟩
 unfold jx;rw[if_neg di,if_pos (by omega)];rfl
 refine RW.skip (ag (RW.seq (RW.region (RL.ev rfl rfl aa (RL.nil (ag (RW.ret (aL (RV.tmp rfl) ?_))))))))
 refine⟨?_,rfl⟩
 unfold jx;rw[if_neg di,if_neg (by omega)];rfl
theorem wh (v:Value) (l:List UInt8) (w:World) (hv:Sl vb w v l) (hl:l.length=8):al UY 195 #[v] w fun r w'=>r=vi (Dz (le l))∧Ext w w':=by
 refine al.start abE rfl (US rfl) ?_
 rw[bL]
 refine RW.seq (RW.region (RL.ev rfl rfl aa (RL.nil (ag (RW.seq (RW.region (RL.ev rfl rfl U ?_)))))))
 refine RL.op rfl rfl (aM YA rfl rfl rfl ((mF v l _ hv (by omega)).mono ?_))
 rintro _ w1 ⟨g,rfl,j9,gM⟩
 refine RL.op rfl rfl (aR YB rfl rfl rfl rfl ((mD _ _ g _ 8 _ j9).mono ?_))
 rintro _ w2 ⟨rfl,pP,EL,ff⟩
 have EI:(eh (l,0) (clip 8)).2=le l:=by
   unfold eh;rw[wV,iw rfl (show 8≤l.length by omega)]
   exact congrArg le (Vo (show l.length≤8 by omega))
 rw[EI]
 have hg:=j9.lt
 refine RL.ev rfl rfl (cw VA UU rfl (oR _ (qP l (by omega)))) (RL.ev rfl rfl aa (RL.nil (ag (RW.ret (aL (RV.tmp rfl) ?_)))))
 exact⟨rfl,gM.then EL (fun i hi e=>by omega)⟩
theorem ui (v:Value) (b:UInt8) (w:World) (hv:Sl vb w v [b]):al UY 94 #[v] w fun r w'=>r=vb b∧w=w':=by
 refine al.start Tryz.func94 rfl (US rfl) ?_
 rw[bL]
 refine RW.seq (RW.region (RL.ev rfl rfl aa (RL.nil (ag (RW.seq (RW.region (RL.ev rfl rfl U (RL.ev rfl rfl (aB U1 lG hv rfl rfl (by decide) (by simp)) (RL.ev rfl rfl (aF Vu rfl hv rfl (m:=0) rfl) ?_)))))))))
 refine RL.ev rfl rfl aa (RL.nil (ag (RW.ret (aL (RV.tmp rfl) ?_))))
 exact⟨rfl,rfl⟩
theorem vG (lo hi g:Nat) (s:St) (most:Int) (w:World) (hr:Rd 142 w lo hi g s) (mj:hi≤w.heap.size) (iM: -9223372036854775808≤most) (fZ:most≤9223372036854775807) (j5:s.1.length≤140737488351232):al UY 194 #[.pointer (some ⟨g,0,none⟩),vi most,vi 8,.func (.func 195) #[] #[]] w fun r w'=>dy vi 3 w' w.heap.size r (fj ((jE s most 8).2.length/8) (jE s most 8).2)∧Rd 142 w' lo hi g (jE s most 8).1∧Rl.Mod (fun k=>k=g) w w':=by
 refine al.start abF rfl (US rfl) ?_
 rw[p7]
 refine RW.seq (RW.region (RL.ev rfl rfl aa (RL.nil (ag (RW.seq (RW.region (RL.ev rfl rfl U ?_)))))))
 refine RL.op rfl rfl (aR YB rfl rfl rfl rfl ((mD lo hi g s 4 _ hr).mono ?_))
 rintro _ w1 ⟨rfl,j9,wq,iR⟩
 rw[nL]at j9 ⊢
 have Cr:=mE s
 have J3:(eh s 4).1.1.length≤s.1.length:=(fb s 4).1
 unfold jE
 generalize (eh s 4).1=s1 at j9 J3 ⊢
 generalize (eh s 4).2=m at Cr ⊢
 have J6:=j9
 obtain⟨nO,TI,v1,iN,O1,Es⟩:=J6
 refine RL.ev rfl rfl aa (RL.nil (ag ?_))
 iterate 2 refine RW.seq ?_
 refine RW.region (RL.ev rfl rfl U (RL.ev rfl rfl (cm (iI Wq rfl rfl) (by simp)) (RL.ev rfl rfl U (RL.aI rfl rfl (by decide) rfl rfl U (RL.aI rfl rfl (by decide) rfl rfl (bt rfl) (RL.aI rfl rfl (by decide) rfl rfl (ah Wa rfl td (by decide) rfl) (RL.aI rfl rfl (by decide) rfl rfl (aj WX rfl rfl iN rfl) (RL.aI rfl rfl (by decide) rfl rfl (bp rfl rfl) (RL.ev rfl rfl (aH rfl) ?_)))))))))
 refine RL.nil (ag ?_)
 refine RW.aN _ rfl (fun di=>?_) (fun di=>?_)
 refine RW.seq (RW.region (RL.ev rfl rfl aa (RL.nil (ag (RW.ret (aD (aL (RV.tmp rfl) ?_)))))))
 rw[if_pos di]
 exact⟨vS _ _ _,j9,wq⟩
 refine RW.skip (ag ?_)
 iterate 2 refine RW.seq ?_
 rcases(show most<0∨(¬most<0∧most<(m:Int))∨(¬most<0∧¬most<(m:Int)) by omega)with hc|hc|hc
 refine RW.region ?_
 have hz:s1.2=0:=Vi.1 di
 rw[if_neg di]
 refine RL.ev rfl rfl U (RL.ev rfl rfl (cS (aV rfl rfl) hc) (RL.ev rfl rfl U ?_))
 iterate 4 refine RL.off rfl rfl (by decide) rfl rfl ?_
 refine RL.ev rfl rfl (ao rfl) (RL.nil (ag (RW.bK rfl (RW.seq (RW.region (RL.ev rfl rfl U ?_))))))
 refine RL.op rfl rfl (aR XK rfl rfl rfl rfl ((jv lo hi g s1 3 _ j9).mono ?_))
 rintro _ w2 ⟨pP,ss,ff⟩
 refine RL.nil (ag (RW.seq (RW.region (RL.ev rfl rfl aa (RL.nil (ag (RW.ret (aD (aL (RV.tmp rfl) ?_)))))))))
 rw[if_pos (show most<0∨most<(m:Int) by omega)]
 exact⟨vS _ _ _,pP,Mod.trans wq ss (fun _ _=>id) (fun _ _=>id)⟩
 refine RW.region ?_
 have hz:s1.2=0:=Vi.1 di
 rw[if_neg di]
 refine RL.ev rfl rfl U (RL.ev rfl rfl (cm (aV rfl rfl) hc.1) (RL.ev rfl rfl U ?_))
 iterate 2 refine RL.aI rfl rfl (by decide) rfl rfl U ?_
 refine RL.aI rfl rfl (by decide) rfl rfl (cw UU VA rfl ((wrap_u64 most).trans (show(nk most:Int)=most by unfold nk;omega))) (RL.aI rfl rfl (by decide) rfl rfl (cS (cN rfl rfl) hc.2) (RL.ev rfl rfl (aH rfl) (RL.nil (ag (RW.bK rfl (RW.seq (RW.region (RL.ev rfl rfl U ?_))))))))
 refine RL.op rfl rfl (aR XK rfl rfl rfl rfl ((jv lo hi g s1 3 _ j9).mono ?_))
 rintro _ w2 ⟨pP,ss,ff⟩
 refine RL.nil (ag (RW.seq (RW.region (RL.ev rfl rfl aa (RL.nil (ag (RW.ret (aD (aL (RV.tmp rfl) ?_)))))))))
 rw[if_pos (show most<0∨most<(m:Int) by omega)]
 exact⟨vS _ _ _,pP,Mod.trans wq ss (fun _ _=>id) (fun _ _=>id)⟩
 refine RW.region ?_
 have hz:s1.2=0:=Vi.1 di
 rw[if_neg di]
 refine RL.ev rfl rfl U (RL.ev rfl rfl (cm (aV rfl rfl) hc.1) (RL.ev rfl rfl U ?_))
 iterate 2 refine RL.aI rfl rfl (by decide) rfl rfl U ?_
 refine RL.aI rfl rfl (by decide) rfl rfl (cw UU VA rfl ((wrap_u64 most).trans (show(nk most:Int)=most by unfold nk;omega))) (RL.aI rfl rfl (by decide) rfl rfl (cm (cN rfl rfl) hc.2) (RL.ev rfl rfl (aH rfl) (RL.nil (ag (RW.dD rfl (RW.skip (ag (RW.seq (RW.region ?_)))))))))
 iterate 2 refine RL.ev rfl rfl U ?_
 refine RL.ev rfl rfl (cw VA UU rfl (wrap_i64 (by omega) (by omega))) (RL.ev rfl rfl U (RL.ev rfl rfl (an rfl rfl rfl ((rX (by omega) (by omega)).trans (show(m:Int)*8=((m*8:Nat):Int) by norm_cast))) ?_))
 refine RL.op rfl rfl (aR Y3 rfl rfl rfl rfl ((nm lo hi g s1 (m*8) _ j9).mono ?_))
 rintro _ w2 ⟨x,b,rfl,hx,NW,pP,ss,ff⟩
 have sL:Rl.Mod (fun k=>k=g) w w2:=Mod.trans wq ss (fun _ _=>id) (fun _ _=>id)
 rw[if_neg (show ¬(most<0∨most<(m:Int)) by omega)]
 have Fu:=ux s1 m 8
 have eI:=(fb s1 (m*8)).2
 have Eo:=hx.aY
 generalize (ej s1 (m*8)).1=s2 at pP ⊢
 generalize (ej s1 (m*8)).2=l at hx Fu eI Eo ⊢
 refine RL.ev rfl rfl U ?_
 iterate 2 refine RL.ev rfl rfl (bg rfl rfl) ?_
 iterate 2 refine RL.ev rfl rfl aa ?_
 refine RL.nil (ag (RW.seq (RW.region (RL.ev rfl rfl aa (RL.nil (ag (RW.seq (RW.block ?_))))))))
 refine RW.loop (fun k R w'=>∃i:Nat,∃vo:Value,∃xr:Value,R 12=vo∧R 10=xr∧R 2=vi 8∧R 3=.func (.func 195) #[] #[]∧(i*8+k=l.length)∧(Sl vb w' xr (l.drop (i*8)))∧(xr.ownBlock=x.ownBlock)∧(dy vi 3 w' w.heap.size vo (fj i l))∧(Ext w2 w')) l.length ?_ ?_
 exact⟨0,.slice none 0 0,x,rfl,rfl,rfl,rfl,by simp,by simpa using hx,rfl,dy.nil _ _ _ _,Mod.refl _ _⟩
 rintro k R w' ⟨i,vo,xr,gI,cB,bF,ca,eR,HC,L5,ho,dZ⟩
 have bY:∃R0,R=(aZ (aZ (aZ (aZ R0 12 _) 10 _) 2 _) 3 _):=⟨R,by rw[ai gI,ai cB,ai bF,ai ca]⟩
 obtain⟨R0,rfl⟩:=bY
 clear gI cB bF ca
 iterate 2 refine RW.seq ?_
 refine RW.region (RL.ev rfl rfl U (RL.ev rfl rfl (aQ U1 HC rfl) (RL.ev rfl rfl (cN rfl rfl) (RL.nil (ag ?_)))))
 refine RW.aN _ rfl (fun gg=>?_) (fun gg=>?_)
 refine RW.skip (ag (RW.seq (RW.block (RW.region ?_))))
 have Dh:(l.drop (i*8)).length=l.length-i*8:=by simp
 rw[Dh]at gg
 have h8:8≤l.length-i*8:=by obtain⟨c,hc⟩:=Fu;omega
 have M8:i<l.length:=by omega
 have O0:=sL.size
 have OZ:=dZ.size
 iterate 4 refine RL.ev rfl rfl U ?_
 refine RL.ev rfl rfl (gX U1 lG HC rfl rfl (by decide) (by rw[Dh];omega)) ?_
 refine RL.op rfl rfl (uP abE rfl rfl rfl rfl ((wh _ _ _ (HC.nc (hi:=8) (by rw[Dh];omega)) (by rw[Vs,Dh];omega)).mono ?_))
 rintro _ w3 ⟨rfl,ml⟩
 refine RL.op rfl rfl (nu (enc:=vi) (l:=[Dz (le ((l.drop (i*8)).take 8))]) (xs:=[.tmp 54]) UW bu mu rfl rfl (fun _=>rfl) rfl (by decide) (by decide) ?_)
 intro w4 MK u1 yM GF
 have OY:=ml.size
 have OX:=yM.size
 refine RL.op rfl rfl (eg UW fT rfl (fun _=>rfl) (ho.ext (ml.trans yM)) rfl MK.sl rfl (by simp only[UX,U6,Vc,oq];omega) (by decide) (by omega) ?_)
 intro v5 w5 Kg yA PH
 have Af:=(HC.ext (ml.trans yM)).mod yA (fun k hk e=>by have h1:=(ho.lt _ e).1;rw[L5]at hk;have h2:=(NW _ hk).2.1;omega)
 have HE:=ho.lt
 refine RL.ev rfl rfl aa (RL.nil (a7 (ag (RW.region ?_))))
 iterate 2 refine RL.ev rfl rfl U ?_
 refine RL.ev rfl rfl (eW U1 lG Af rfl rfl (by decide) (by rw[Dh];omega)) (RL.ev rfl rfl aa (RL.nil (ag ?_)))
 have nQ:=Af.fM (lo:=8) (by rw[Dh];omega)
 rw[XR,show i*8+8=(i+1)*8 by omega]at nQ
 refine⟨k-8,by omega,i+1,v5,_,rfl,rfl,rfl,rfl,by omega,nQ,(ik Af _ _).trans L5,?_,(dZ.trans (ml.trans yM)).then yA (fun x hx e=>by have:=(ho.lt _ e).1;omega)⟩
 rw[sd]
 exact Kg
 refine RW.exit ?_
 iterate 2 refine bm ?_
 refine aO (ag (RW.seq (RW.region (RL.ev rfl rfl U (RL.ev rfl rfl aa (RL.nil (ag (RW.ret (aL (RV.tmp rfl) ?_)))))))))
 rw[Vt]at gg
 have hi:i*8=l.length:=by omega
 refine⟨?_,pP.ext dZ,Mod.trans sL dZ (fun _ _=>id) (fun _ _ h=>h.elim)⟩
 rw[show l.length/8=i by omega]
 exact ho
theorem tz (lo hi g:Nat) (s:St) (most:Int) (w:World) (hr:Rd 142 w lo hi g s) (mj:hi≤w.heap.size) (iM: -9223372036854775808≤most) (fZ:most≤9223372036854775807) (j5:s.1.length≤140737488351232):al UY 93 #[.pointer (some ⟨g,0,none⟩),vi most,vi 1,.func (.func 94) #[] #[]] w fun r w'=>dy vb 5 w' w.heap.size r (jE s most 1).2∧Rd 142 w' lo hi g (jE s most 1).1∧Rl.Mod (fun k=>k=g) w w':=by
 refine al.start Tryz.func93 rfl (US rfl) ?_
 rw[p7]
 refine RW.seq (RW.region (RL.ev rfl rfl aa (RL.nil (ag (RW.seq (RW.region (RL.ev rfl rfl U ?_)))))))
 refine RL.op rfl rfl (aR YB rfl rfl rfl rfl ((mD lo hi g s 4 _ hr).mono ?_))
 rintro _ w1 ⟨rfl,j9,wq,iR⟩
 rw[nL]at j9 ⊢
 have Cr:=mE s
 have J3:(eh s 4).1.1.length≤s.1.length:=(fb s 4).1
 unfold jE
 generalize (eh s 4).1=s1 at j9 J3 ⊢
 generalize (eh s 4).2=m at Cr ⊢
 have J6:=j9
 obtain⟨nO,TI,v1,iN,O1,Es⟩:=J6
 refine RL.ev rfl rfl aa (RL.nil (ag ?_))
 iterate 2 refine RW.seq ?_
 refine RW.region (RL.ev rfl rfl U (RL.ev rfl rfl (cm (iI Wq rfl rfl) (by simp)) (RL.ev rfl rfl U (RL.aI rfl rfl (by decide) rfl rfl U (RL.aI rfl rfl (by decide) rfl rfl (bt rfl) (RL.aI rfl rfl (by decide) rfl rfl (ah Wa rfl td (by decide) rfl) (RL.aI rfl rfl (by decide) rfl rfl (aj WX rfl rfl iN rfl) (RL.aI rfl rfl (by decide) rfl rfl (bp rfl rfl) (RL.ev rfl rfl (aH rfl) ?_)))))))))
 refine RL.nil (ag ?_)
 refine RW.aN _ rfl (fun di=>?_) (fun di=>?_)
 refine RW.seq (RW.region (RL.ev rfl rfl aa (RL.nil (ag (RW.ret (aD (aL (RV.tmp rfl) ?_)))))))
 rw[if_pos di]
 exact⟨dy.nil _ _ _ _,j9,wq⟩
 refine RW.skip (ag ?_)
 iterate 2 refine RW.seq ?_
 rcases(show most<0∨(¬most<0∧most<(m:Int))∨(¬most<0∧¬most<(m:Int)) by omega)with hc|hc|hc
 refine RW.region ?_
 have hz:s1.2=0:=Vi.1 di
 rw[if_neg di]
 refine RL.ev rfl rfl U (RL.ev rfl rfl (cS (aV rfl rfl) hc) (RL.ev rfl rfl U ?_))
 iterate 4 refine RL.off rfl rfl (by decide) rfl rfl ?_
 refine RL.ev rfl rfl (ao rfl) (RL.nil (ag (RW.bK rfl (RW.seq (RW.region (RL.ev rfl rfl U ?_))))))
 refine RL.op rfl rfl (aR XK rfl rfl rfl rfl ((jv lo hi g s1 3 _ j9).mono ?_))
 rintro _ w2 ⟨pP,ss,ff⟩
 refine RL.nil (ag (RW.seq (RW.region (RL.ev rfl rfl aa (RL.nil (ag (RW.ret (aD (aL (RV.tmp rfl) ?_)))))))))
 rw[if_pos (show most<0∨most<(m:Int) by omega)]
 exact⟨dy.nil _ _ _ _,pP,Mod.trans wq ss (fun _ _=>id) (fun _ _=>id)⟩
 refine RW.region ?_
 have hz:s1.2=0:=Vi.1 di
 rw[if_neg di]
 refine RL.ev rfl rfl U (RL.ev rfl rfl (cm (aV rfl rfl) hc.1) (RL.ev rfl rfl U ?_))
 iterate 2 refine RL.aI rfl rfl (by decide) rfl rfl U ?_
 refine RL.aI rfl rfl (by decide) rfl rfl (cw UU VA rfl ((wrap_u64 most).trans (show(nk most:Int)=most by unfold nk;omega))) (RL.aI rfl rfl (by decide) rfl rfl (cS (cN rfl rfl) hc.2) (RL.ev rfl rfl (aH rfl) (RL.nil (ag (RW.bK rfl (RW.seq (RW.region (RL.ev rfl rfl U ?_))))))))
 refine RL.op rfl rfl (aR XK rfl rfl rfl rfl ((jv lo hi g s1 3 _ j9).mono ?_))
 rintro _ w2 ⟨pP,ss,ff⟩
 refine RL.nil (ag (RW.seq (RW.region (RL.ev rfl rfl aa (RL.nil (ag (RW.ret (aD (aL (RV.tmp rfl) ?_)))))))))
 rw[if_pos (show most<0∨most<(m:Int) by omega)]
 exact⟨dy.nil _ _ _ _,pP,Mod.trans wq ss (fun _ _=>id) (fun _ _=>id)⟩
 refine RW.region ?_
 have hz:s1.2=0:=Vi.1 di
 rw[if_neg di]
 refine RL.ev rfl rfl U (RL.ev rfl rfl (cm (aV rfl rfl) hc.1) (RL.ev rfl rfl U ?_))
 iterate 2 refine RL.aI rfl rfl (by decide) rfl rfl U ?_
 refine RL.aI rfl rfl (by decide) rfl rfl (cw UU VA rfl ((wrap_u64 most).trans (show(nk most:Int)=most by unfold nk;omega))) (RL.aI rfl rfl (by decide) rfl rfl (cm (cN rfl rfl) hc.2) (RL.ev rfl rfl (aH rfl) (RL.nil (ag (RW.dD rfl (RW.skip (ag (RW.seq (RW.region ?_)))))))))
 iterate 2 refine RL.ev rfl rfl U ?_
 refine RL.ev rfl rfl (cw VA UU rfl (wrap_i64 (by omega) (by omega))) (RL.ev rfl rfl U (RL.ev rfl rfl (an rfl rfl rfl ((rX (by omega) (by omega)).trans (show(m:Int)*1=((m*1:Nat):Int) by norm_cast))) ?_))
 refine RL.op rfl rfl (aR Y3 rfl rfl rfl rfl ((nm lo hi g s1 (m*1) _ j9).mono ?_))
 rintro _ w2 ⟨x,b,rfl,hx,NW,pP,ss,ff⟩
 have sL:Rl.Mod (fun k=>k=g) w w2:=Mod.trans wq ss (fun _ _=>id) (fun _ _=>id)
 rw[if_neg (show ¬(most<0∨most<(m:Int)) by omega)]
 have Fu:=ux s1 m 1
 have eI:=(fb s1 (m*1)).2
 have Eo:=hx.aY
 generalize (ej s1 (m*1)).1=s2 at pP ⊢
 generalize (ej s1 (m*1)).2=l at hx Fu eI Eo ⊢
 refine RL.ev rfl rfl U ?_
 iterate 2 refine RL.ev rfl rfl (bg rfl rfl) ?_
 iterate 2 refine RL.ev rfl rfl aa ?_
 refine RL.nil (ag (RW.seq (RW.region (RL.ev rfl rfl aa (RL.nil (ag (RW.seq (RW.block ?_))))))))
 refine RW.loop (fun k R w'=>∃i:Nat,∃vo:Value,∃xr:Value,R 12=vo∧R 10=xr∧R 2=vi 1∧R 3=.func (.func 94) #[] #[]∧(i*1+k=l.length)∧(Sl vb w' xr (l.drop (i*1)))∧(xr.ownBlock=x.ownBlock)∧(dy vb 5 w' w.heap.size vo (l.take i))∧(Ext w2 w')) l.length ?_ ?_
 exact⟨0,.slice none 0 0,x,rfl,rfl,rfl,rfl,by simp,by simpa using hx,rfl,by simpa using dy.nil _ _ _ _,Mod.refl _ _⟩
 rintro k R w' ⟨i,vo,xr,gI,cB,bF,ca,eR,HC,L5,ho,dZ⟩
 have bY:∃R0,R=(aZ (aZ (aZ (aZ R0 12 _) 10 _) 2 _) 3 _):=⟨R,by rw[ai gI,ai cB,ai bF,ai ca]⟩
 obtain⟨R0,rfl⟩:=bY
 clear gI cB bF ca
 iterate 2 refine RW.seq ?_
 refine RW.region (RL.ev rfl rfl U (RL.ev rfl rfl (aQ U1 HC rfl) (RL.ev rfl rfl (cN rfl rfl) (RL.nil (ag ?_)))))
 refine RW.aN _ rfl (fun gg=>?_) (fun gg=>?_)
 refine RW.skip (ag (RW.seq (RW.block (RW.region ?_))))
 have Dh:(l.drop (i*1)).length=l.length-i*1:=by simp
 rw[Dh]at gg
 have h8:1≤l.length-i*1:=by obtain⟨c,hc⟩:=Fu;omega
 have M8:i<l.length:=by omega
 have O0:=sL.size
 have OZ:=dZ.size
 iterate 4 refine RL.ev rfl rfl U ?_
 refine RL.ev rfl rfl (gX U1 lG HC rfl rfl (by decide) (by rw[Dh];omega)) ?_
 refine RL.op rfl rfl (uP Tryz.func94 rfl rfl rfl rfl ((ui _ (l[i]'M8) _ (by have h:=HC.nc (hi:=1) (by rw[Dh];omega);rwa [Nat.mul_one,W8 M8,List.take_succ_cons,aba]at h)).mono ?_))
 rintro _ w3 ⟨rfl,rfl⟩
 have ml:Ext w' w':=Mod.refl _ _
 refine RL.op rfl rfl (nu (enc:=vb) (l:=[l[i]'M8]) (xs:=[.tmp 54]) U1 lG Ie rfl rfl (fun _=>rfl) rfl (by decide) (by decide) ?_)
 intro w4 MK u1 yM GF
 have OY:=ml.size
 have OX:=yM.size
 refine RL.op rfl rfl (eg U1 j4 rfl (fun _=>rfl) (ho.ext (ml.trans yM)) rfl MK.sl rfl (by simp only[UX,U6,Vc,Vs];omega) (by decide) (by omega) ?_)
 intro v5 w5 Kg yA PH
 have Af:=(HC.ext (ml.trans yM)).mod yA (fun k hk e=>by have h1:=(ho.lt _ e).1;rw[L5]at hk;have h2:=(NW _ hk).2.1;omega)
 have HE:=ho.lt
 refine RL.ev rfl rfl aa (RL.nil (a7 (ag (RW.region ?_))))
 iterate 2 refine RL.ev rfl rfl U ?_
 refine RL.ev rfl rfl (eW U1 lG Af rfl rfl (by decide) (by rw[Dh];omega)) (RL.ev rfl rfl aa (RL.nil (ag ?_)))
 have nQ:=Af.fM (lo:=1) (by rw[Dh];omega)
 rw[XR,show i*1+1=(i+1)*1 by omega]at nQ
 refine⟨k-1,by omega,i+1,v5,_,rfl,rfl,rfl,rfl,by omega,nQ,(ik Af _ _).trans L5,?_,(dZ.trans (ml.trans yM)).then yA (fun x hx e=>by have:=(ho.lt _ e).1;omega)⟩
 rw[Wo M8]
 exact Kg
 refine RW.exit ?_
 iterate 2 refine bm ?_
 refine aO (ag (RW.seq (RW.region (RL.ev rfl rfl U (RL.ev rfl rfl aa (RL.nil (ag (RW.ret (aL (RV.tmp rfl) ?_)))))))))
 rw[Vt]at gg
 have hi:i*1=l.length:=by omega
 refine⟨?_,pP.ext dZ,Mod.trans sL dZ (fun _ _=>id) (fun _ _ h=>h.elim)⟩
 rw[Vo (by omega)]at ho
 exact ho
end Go.Proofs.YtngkdkbpgoddlaaGreat
namespace Go.Proofs.YtngkdkbpgoddlaaGreat
open Go.RowKit Go.Rl
open Go.cP
theorem xO (lo hi g:Nat) (s:St) (most:Int) (w:World) (hr:Rd 142 w lo hi g s) (mj:hi≤w.heap.size) (iM: -9223372036854775808≤most) (fZ:most≤9223372036854775807) (j5:s.1.length≤140737488351232):al UY 157 #[.pointer (some ⟨g,0,none⟩),vi most] w fun r w'=>dy vi 3 w' w.heap.size r (bO s most).2∧Rd 142 w' lo hi g (bO s most).1∧Rl.Mod (fun k=>k=g) w w':=by
 refine al.start abG rfl (US rfl) ?_
 rw[cc]
 refine RW.seq (RW.region (RL.ev rfl rfl aa (RL.nil (ag (RW.seq (RW.region ?_))))))
 iterate 2 refine RL.ev rfl rfl U ?_
 refine RL.op rfl rfl (eZ abF rfl rfl rfl rfl rfl rfl ((vG lo hi g s most _ hr mj iM fZ j5).mono ?_))
 rintro v1 w1 ⟨ka,j9,fZ⟩
 refine RL.ev rfl rfl aa (RL.nil (ag (RW.ret (aL (RV.tmp rfl) ?_))))
 exact⟨ka,j9,fZ⟩
theorem xG (lo hi g:Nat) (s:St) (most:Int) (w:World) (hr:Rd 142 w lo hi g s) (mj:hi≤w.heap.size) (iM: -9223372036854775808≤most) (fZ:most≤9223372036854775807) (j5:s.1.length≤140737488351232):al UY 39 #[.pointer (some ⟨g,0,none⟩),vi most] w fun r w'=>r=str (cp s most).2∧Rd 142 w' lo hi g (cp s most).1∧Rl.Mod (fun k=>k=g) w w':=by
 refine al.start Tryz.func39 rfl (US rfl) ?_
 rw[cc]
 refine RW.seq (RW.region (RL.ev rfl rfl aa (RL.nil (ag (RW.seq (RW.region ?_))))))
 iterate 2 refine RL.ev rfl rfl U ?_
 refine RL.op rfl rfl (eZ Tryz.func93 rfl rfl rfl rfl rfl rfl ((tz lo hi g s most _ hr mj iM fZ j5).mono ?_))
 rintro v1 w1 ⟨ka,j9,fZ⟩
 refine RL.ev rfl rfl (eD U1 Vu VO ka.sl rfl) (RL.ev rfl rfl aa (RL.nil (ag (RW.ret (aL (RV.tmp rfl) ?_)))))
 exact⟨rfl,j9,fZ⟩
theorem JO {lo hi g:Nat} {s s':St} {wide:Int} {k m:Nat} {w:World} (hr:Rd 142 w lo hi g s) (hk:clip wide=k) (hn:eh s k=(s',m)):
    al UY 57 #[.pointer (some ⟨g,0,none⟩),vi wide] w (fun r w'=>r=.int .u64 (m:Int)∧Rd 142 w' lo hi g s'∧Rl.Mod (fun k=>k=g) w w'∧w'.heap.size=w.heap.size):=by
  subst hk
  have h:=mD lo hi g s wide w hr
  rw[hn]at h
  exact h
theorem DW {lo hi g:Nat} {s s':St} {most:Int} {l:List Int} {w:World} (hr:Rd 142 w lo hi g s) (mj:hi≤w.heap.size) (iM: -9223372036854775808≤most) (fZ:most≤9223372036854775807) (j5:s.1.length≤140737488351232) (hn:bO s most=(s',l)):
    al UY 157 #[.pointer (some ⟨g,0,none⟩),vi most] w (fun r w'=>dy vi 3 w' w.heap.size r l∧Rd 142 w' lo hi g s'∧Rl.Mod (fun k=>k=g) w w'):=by
  have h:=xO lo hi g s most w hr mj iM fZ j5
  rw[hn]at h
  exact h
theorem DU {lo hi g:Nat} {s s':St} {most:Int} {l:List UInt8} {w:World} (hr:Rd 142 w lo hi g s) (mj:hi≤w.heap.size) (iM: -9223372036854775808≤most) (fZ:most≤9223372036854775807) (j5:s.1.length≤140737488351232) (hn:cp s most=(s',l)):
    al UY 39 #[.pointer (some ⟨g,0,none⟩),vi most] w (fun r w'=>r=str l∧Rd 142 w' lo hi g s'∧Rl.Mod (fun k=>k=g) w w'):=by
  have h:=xG lo hi g s most w hr mj iM fZ j5
  rw[hn]at h
  exact h
theorem mX (wide:Int) (w:World):al UY 205 #[vi wide] w fun r w'=>r=vi (clip wide:Nat)∧w=w':=by
 refine al.start aag rfl (US rfl) ?_
 rw[bL]
 refine RW.seq (RW.region (RL.ev rfl rfl aa (RL.nil (ag ?_))))
 iterate 2 refine RW.seq ?_
 refine RW.region (RL.ev rfl rfl U (RL.ev rfl rfl (aV rfl rfl) (RL.nil (ag ?_))))
 refine RW.aN _ rfl (fun h0=>?_) (fun h0=>?_)
 refine RW.seq (RW.region (RL.ev rfl rfl aa (RL.nil (ag (RW.ret (aD (aL (RV.tmp rfl) ?_)))))))
 refine⟨?_,rfl⟩
 unfold clip;rw[show(max 0 (min wide 8)).toNat=0 by omega];rfl
 refine RW.skip (ag ?_)
 iterate 2 refine RW.seq ?_
 refine RW.region (RL.ev rfl rfl U (RL.ev rfl rfl (cN rfl rfl) (RL.nil (ag ?_))))
 refine RW.aN _ rfl (fun h8=>?_) (fun h8=>?_)
 refine RW.seq (RW.region (RL.ev rfl rfl aa (RL.nil (ag (RW.ret (aD (aL (RV.tmp rfl) ?_)))))))
 refine⟨?_,rfl⟩
 unfold clip;rw[show(max 0 (min wide 8)).toNat=8 by omega];rfl
 refine RW.skip (ag (RW.seq (RW.region (RL.ev rfl rfl U (RL.ev rfl rfl aa (RL.nil (ag (RW.ret (aL (RV.tmp rfl) ?_)))))))))
 refine⟨?_,rfl⟩
 unfold clip vi;rw[show(((max 0 (min wide 8)).toNat:Nat):Int)=wide by omega];rfl
theorem gN (n:Nat) (wide:Int) (w:World) (hn:n<18446744073709551616):al UY 178 #[.int .u64 (n:Int),vi wide] w fun r w'=>dy vb 5 w' w.heap.size r (put n (clip wide))∧Ext w w':=by
 refine al.start XM rfl (US rfl) ?_
 rw[cc]
 refine RW.seq (RW.region ?_)
 have KJ:=qX wide
 generalize hk:clip wide=kk at KJ
 refine RL.ev rfl rfl aa (RL.nil (ag (RW.seq (RW.region (RL.ev rfl rfl aa (RL.nil (ag ?_)))))))
 iterate 2 refine RW.seq ?_
 refine RW.region (RL.ev rfl rfl aa (RL.nil (ag (RW.block ?_))))
 refine RW.loop (fun k R w'=>∃i:Nat,∃vo:Value,R 6=.int .i64 (i:Int)∧R 5=vo∧R 1=vi wide∧R 0=.int .u64 ((n/256^i:Nat):Int)∧(i+k=kk)∧(dy vb 5 w' w.heap.size vo (put n i))∧(Ext w w')) kk ?_ ?_
 exact⟨0,.slice none 0 0,rfl,rfl,rfl,by rw[Nat.pow_zero,Nat.div_one];rfl,by omega,dy.nil _ _ _ _,Mod.refl _ _⟩
 rintro k R w' ⟨i,vo,dd,bM,bw,bN,eR,ho,dZ⟩
 have bY:∃R0,R=(aZ (aZ (aZ (aZ R0 6 _) 5 _) 1 _) 0 _):=⟨R,by rw[ai dd,ai bM,ai bw,ai bN]⟩
 obtain⟨R0,rfl⟩:=bY
 clear dd bM bw bN
 iterate 2 refine RW.seq ?_
 refine RW.region ?_
 iterate 2 refine RL.ev rfl rfl U ?_
 refine RL.op rfl rfl (aM aag rfl rfl rfl ((mX wide _).mono ?_))
 rintro _ _ ⟨rfl,rfl⟩
 rw[hk]
 refine RL.ev rfl rfl (aV rfl rfl) (RL.nil (ag ?_))
 refine RW.aN _ rfl (fun bW=>?_) (fun bW=>?_)
 refine RW.skip (ag (RW.seq (RW.block (RW.seq (RW.region ?_)))))
 have o8:n/256^i<18446744073709551616:=VJ (Zk _ _) hn
 iterate 2 refine RL.ev rfl rfl U ?_
 refine RL.ev rfl rfl (AH rfl rfl (by decide) (JC _)) (RL.ev rfl rfl (cw VA Vu rfl (xp _)) ?_)
 refine RL.op rfl rfl (nu (enc:=vb) (l:=[Wp (n/256^i%256)]) (xs:=[.tmp 16]) U1 lG Ie rfl rfl re rfl (by decide) (by decide) ?_)
 intro w1 ka iN gM iR
 rw[Jt]at ka
 refine RL.op rfl rfl (eg U1 j4 rfl hZ (ho.ext gM) rfl ka.sl rfl (by rw[bR];simp only[U6,Vc];omega) (by decide) (by have:=dZ.size;have:=gM.size;omega) ?_)
 intro v3 w3 HF Bi PI
 have ml:Ext w w3:=(dZ.trans gM).then Bi (fun x hx e=>by have:=(ho.lt _ e).1;omega)
 rw[←DY]at HF
 refine RL.ev rfl rfl aa (RL.nil (ag (RW.region (RL.ev rfl rfl U (RL.ev rfl rfl (ph rfl rfl (by decide) (JF n i o8)) (RL.ev rfl rfl aa (RL.nil (a7 (ag ?_)))))))))
 refine RW.region (RL.ev rfl rfl U (RL.ev rfl rfl (an rfl rfl rfl (bc (by omega) (by omega))) (RL.ev rfl rfl aa (RL.nil (ag ?_)))))
 exact⟨k-1,by omega,i+1,v3,rfl,rfl,rfl,rfl,by omega,HF,ml⟩
 refine RW.exit ?_
 iterate 2 refine bm ?_
 refine aO (ag (RW.seq (RW.region (RL.ev rfl rfl U (RL.ev rfl rfl aa (RL.nil (ag (RW.ret (aL (RV.tmp rfl) ?_)))))))))
 refine⟨?_,dZ⟩
 rw[show i=kk by omega]at ho
 exact ho
theorem tG (v:Value) (l:List Int) (w:World) (hv:Sl vi w v l) (hl:l.length*8≤140737488351232):al UY 206 #[v] w fun r w'=>dy vb 5 w' w.heap.size r (aK l)∧Ext w w':=by
 refine al.start abH rfl (US rfl) ?_
 rw[bL]
 refine RW.seq (RW.region (RL.ev rfl rfl aa (RL.nil (ag (RW.seq (RW.region (RL.ev rfl rfl U (RL.ev rfl rfl (aQ UW hv rfl) (RL.ev rfl rfl (cw UU VA rfl (eu _ (by omega))) ?_)))))))))
 refine RL.op rfl rfl (aR XM rfl rfl rfl rfl ((gN l.length 4 _ (by omega)).mono ?_))
 rintro v1 w1 ⟨ka,gM⟩
 rw[nL]at ka
 refine RL.ev rfl rfl aa (RL.nil (ag ?_))
 iterate 2 refine RW.seq ?_
 refine RW.region (RL.ev rfl rfl aa (RL.nil (ag (RW.block ?_))))
 refine RW.loop (fun k R w'=>∃i:Nat,∃vo:Value,R 4=.int .i64 (i:Int)∧R 3=vo∧R 0=v∧(i+k=l.length)∧(dy vb 5 w' w.heap.size vo (put l.length 4++(l.take i).flatMap fun x=>put (nk x) 8))∧(Ext w w')) l.length ?_ ?_
 exact⟨0,v1,rfl,rfl,rfl,by omega,by simpa using ka,gM⟩
 rintro k R w' ⟨i,vo,cg,ca,bN,eR,ho,dZ⟩
 have bY:∃R0,R=(aZ (aZ (aZ R0 4 _) 3 _) 0 _):=⟨R,by rw[ai cg,ai ca,ai bN]⟩
 obtain⟨R0,rfl⟩:=bY
 clear cg ca bN
 iterate 2 refine RW.seq ?_
 refine RW.region ?_
 iterate 2 refine RL.ev rfl rfl U ?_
 refine RL.ev rfl rfl (aQ UW (hv.ext dZ) rfl) (RL.ev rfl rfl (aV rfl rfl) (RL.nil (ag ?_)))
 refine RW.aN _ rfl (fun bW=>?_) (fun bW=>?_)
 refine RW.skip (ag (RW.seq (RW.block (RW.region ?_))))
 iterate 3 refine RL.ev rfl rfl U ?_
 refine RL.ev rfl rfl (aB UW bu (hv.ext dZ) rfl rfl (by omega) (by omega)) (RL.ev rfl rfl (iH UU rfl (hv.ext dZ) rfl (by omega)) (RL.ev rfl rfl (cw UU VA rfl (wrap_u64 _)) ?_))
 refine RL.op rfl rfl (aR XM rfl rfl rfl rfl ((gN (nk (l[(i:Int).toNat]'(by omega))) 8 _ (zz _)).mono ?_))
 rintro v2 w2 ⟨xj,jh⟩
 rw[wV]at xj
 refine RL.op rfl rfl (eg U1 j4 rfl hZ (ho.ext jh) rfl xj.sl rfl (by simp only[UX,bR];rw[iG];simp only[Vs];omega) (by decide) (by have:=dZ.size;have:=jh.size;omega) ?_)
 intro v3 w3 HF Bi PI
 have ml:Ext w w3:=(dZ.trans jh).then Bi (fun x hx e=>by have:=(ho.lt _ e).1;omega)
 refine RL.ev rfl rfl aa (RL.nil (a7 (ag (RW.region (RL.ev rfl rfl U (RL.ev rfl rfl (an rfl rfl rfl (bc (by omega) (by omega))) (RL.ev rfl rfl aa (RL.nil (ag ?_)))))))))
 refine⟨k-1,by omega,i+1,v3,rfl,rfl,rfl,by omega,?_,ml⟩
 rw[u4 l i (by omega),←VF]
 simpa using HF
 refine RW.exit ?_
 iterate 2 refine bm ?_
 refine aO (ag (RW.seq (RW.region (RL.ev rfl rfl U (RL.ev rfl rfl aa (RL.nil (ag (RW.ret (aL (RV.tmp rfl) ?_)))))))))
 refine⟨?_,dZ⟩
 rw[Vo (by omega)]at ho
 exact ho
theorem tB (s:List UInt8) (w:World) (hl:s.length≤140737488351232):al UY 177 #[str s] w fun r w'=>dy vb 5 w' w.heap.size r (fL s)∧Ext w w':=by
 refine al.start abI rfl (US rfl) ?_
 rw[bL]
 refine RW.seq (RW.region (RL.ev rfl rfl aa (RL.nil (ag (RW.seq (RW.region (RL.ev rfl rfl U (RL.ev rfl rfl (y6 VO rfl) (RL.ev rfl rfl (cw UU VA rfl (eu _ (by omega))) ?_)))))))))
 refine RL.op rfl rfl (aR XM rfl rfl rfl rfl ((gN s.length 4 _ (by omega)).mono ?_))
 rintro v1 w1 ⟨ka,gM⟩
 rw[nL]at ka
 refine RL.ev rfl rfl aa (RL.nil (ag (RW.seq (RW.region ?_))))
 iterate 2 refine RL.ev rfl rfl U ?_
 refine RL.op rfl rfl (ob U1 VO j4 ka rfl rfl (by rw[bR];omega) gM.size ?_)
 intro v2 w2 xj EL
 have jh:Ext w w2:=gM.then EL (fun x hx e=>by have:=(ka.lt _ e).1;omega)
 refine RL.ev rfl rfl aa (RL.nil (ag (RW.ret (aL (RV.tmp rfl) ?_))))
 refine⟨?_,jh⟩
 exact xj
theorem rA (a b:Value) (x y:List Int) (w:World) (ha:Sl vi w a x) (hb:Sl vi w b y):al UY 88 #[a,b] w fun r w'=>r=.bool (decide (x=y))∧Ext w w':=by
 refine al.start Tryz.func88 rfl (US rfl) ?_
 rw[cc]
 refine RW.seq (RW.region ?_)
 have hlen:=ha.aY
 refine RL.ev rfl rfl aa (RL.nil (ag ?_))
 iterate 2 refine RW.seq ?_
 refine RW.region (RL.ev rfl rfl U (RL.ev rfl rfl (aQ UW ha rfl) (RL.ev rfl rfl U (RL.ev rfl rfl (aQ UW hb rfl) (RL.ev rfl rfl (bp rfl rfl) (RL.nil (ag ?_)))))))
 refine RW.aN _ rfl (fun di=>?_) (fun di=>?_)
 refine RW.seq (RW.region (RL.ev rfl rfl aa (RL.nil (ag (RW.ret (aD (aL (RV.tmp rfl) ?_)))))))
 refine⟨?_,Mod.refl _ _⟩
 rw[decide_eq_false (fun e:x=y=>di (by rw[e]))];rfl
 refine RW.skip (ag ?_)
 iterate 2 refine RW.seq ?_
 refine RW.region ?_
 have Ls:x.length=y.length:=by omega
 refine RL.ev rfl rfl aa (RL.nil (ag (RW.block ?_)))
 refine RW.loop (fun k R w'=>∃i:Nat,R 5=.int .i64 (i:Int)∧R 0=a∧R 1=b∧(i+k=x.length)∧(x.take i=y.take i)∧(Ext w w')) x.length ?_ ?_
 exact⟨0,rfl,rfl,rfl,by omega,by simp,Mod.refl _ _⟩
 rintro k R w' ⟨i,bM,bN,bw,eR,OU,dZ⟩
 have bY:∃R0,R=(aZ (aZ (aZ R0 5 _) 0 _) 1 _):=⟨R,by rw[ai bM,ai bN,ai bw]⟩
 obtain⟨R0,rfl⟩:=bY
 clear bM bN bw
 iterate 2 refine RW.seq ?_
 refine RW.region ?_
 iterate 2 refine RL.ev rfl rfl U ?_
 refine RL.ev rfl rfl (aQ UW (ha.ext dZ) rfl) (RL.ev rfl rfl (aV rfl rfl) (RL.nil (ag ?_)))
 refine RW.aN _ rfl (fun bW=>?_) (fun bW=>?_)
 refine RW.skip (ag (RW.seq (RW.block (RW.seq (RW.draw rfl (fun u=>Ext w u) ?_)))))
 have hS:Ext w w'.drew:=dZ.trans (Ext.drew w')
 refine RA.take (i:=0) rfl rfl (by kernel_rfl) (by kernel_rfl) (by kernel_rfl) (by intro _ _ _ h;exact h) rfl hS (fun w hS=>U) (RA.take (i:=1) rfl rfl (by kernel_rfl) (by kernel_rfl) (by kernel_rfl) (by intro _ _ _ h;exact h) rfl hS (fun w hS=>U) (RA.take (i:=2) rfl rfl (by kernel_rfl) (by kernel_rfl) (by kernel_rfl) (by intro _ _ _ h;exact h) rfl hS (fun w hS=>(aB UW bu (ha.ext hS) rfl rfl (by omega) (by omega))) (RA.take (i:=3) rfl rfl (by kernel_rfl) (by kernel_rfl) (by kernel_rfl) (by intro _ _ _ h;exact h) rfl hS (fun w hS=>(iH (m:=(i:Int).toNat) UU rfl (ha.ext hS) rfl (by omega))) (RA.take (i:=4) rfl rfl (by kernel_rfl) (by kernel_rfl) (by kernel_rfl) (by intro _ _ _ h;exact h) rfl hS (fun w hS=>U) (RA.take (i:=5) rfl rfl (by kernel_rfl) (by kernel_rfl) (by kernel_rfl) (by intro _ _ _ h;exact h) rfl hS (fun w hS=>U) (RA.take (i:=6) rfl rfl (by kernel_rfl) (by kernel_rfl) (by kernel_rfl) (by intro _ _ _ h;exact h) rfl hS (fun w hS=>(aB UW bu (hb.ext hS) rfl rfl (by omega) (by omega))) (RA.take (i:=7) rfl rfl (by kernel_rfl) (by kernel_rfl) (by kernel_rfl) (by intro _ _ _ h;exact h) rfl hS (fun w hS=>(iH (m:=(i:Int).toNat) UU rfl (hb.ext hS) rfl (by omega))) (RA.take (i:=8) rfl rfl (by kernel_rfl) (by kernel_rfl) (by kernel_rfl) (by intro _ _ _ h;exact h) rfl hS (fun w hS=>(bp rfl rfl)) (RA.done (by kernel_rfl) ?_)))))))))
 refine ag ?_
 refine RW.aN _ rfl (fun iY=>?_) (fun iY=>?_)
 refine RW.seq (RW.region (RL.ev rfl rfl aa (RL.nil (ag (RW.ret (aJ ?_))))))
 iterate 2 refine aD ?_
 refine aJ (aD (aL (RV.tmp rfl) ?_))
 refine⟨?_,hS⟩
 rw[decide_eq_false (fun e:x=y=>iY (by subst e;rfl))];rfl
 refine RW.skip (a7 (ag (RW.region (RL.ev rfl rfl U (RL.ev rfl rfl (an rfl rfl rfl (bc (by omega) (by omega))) (RL.ev rfl rfl aa (RL.nil (ag ?_))))))))
 refine⟨k-1,by omega,i+1,rfl,rfl,rfl,by omega,?_,hS⟩
 rw[Wo (show i<x.length by omega),Wo (show i<y.length by omega),OU]
 simp only[WN,Vi]at iY
 rw[iY]
 refine RW.exit ?_
 iterate 2 refine bm ?_
 refine aO (ag (RW.seq (RW.region (RL.ev rfl rfl aa (RL.nil (ag (RW.ret (aL (RV.tmp rfl) ?_))))))))
 refine⟨?_,dZ⟩
 rw[Vo (by omega),Vo (by omega)]at OU
 rw[decide_eq_true OU];rfl
end Go.Proofs.YtngkdkbpgoddlaaGreat
namespace Go.Proofs.YtngkdkbpgoddlaaGreat
open Go.RowKit Go.Rl
open Go.cP
theorem nS:(UY.info? 169).map (·.zero)=some (some (.agg #[.slice none 0 0,.int .i64 0])):=by kernel_rfl
theorem ir (e:Int) (w:World):al UY 203 #[vi e] w fun r w'=>r=TV (.slice none 0 0) e∧Ext w w':=by
 refine al.start Yq rfl (US rfl) ?_
 rw[bL]
 refine RW.seq (RW.region ?_)
 refine RL.op rfl rfl (fB (cs:=[.slice none 0 0,.int .i64 0]) nS rfl ?_)
 intro w1 iN gM iR
 refine RL.nil (ag (RW.seq (RW.region (RL.ev rfl rfl U (RL.ev rfl rfl (oB (cs:=[.slice none 0 0,.int .i64 e]) Vk nS (places:=#[(0,1),(1,1)]) (by intro w;kernel_rfl) (pl:=[(1,.tmp 3)]) rfl rfl rfl) ?_)))))
 refine RL.op rfl rfl (cK (vs:=[.slice none 0 0,.int .i64 e]) cJ rfl rfl rfl (jN _ _ _ _) iN rfl ?_)
 intro w2 jR EL ff
 refine RL.nil (ag (RW.ret (aL (RV.cell rfl rfl jR Vk rfl cJ) ?_)))
 exact⟨rfl,gM.then EL (fun i hi e=>by omega)⟩
theorem vL (b:Nat) (v:Value) (s:St) (wide:Int) (w:World) (hB:jD vb b w v s.1) (kS:b≤w.heap.size):al UY 202 #[TV v s.2,vi wide] w fun r w'=>∃x,r=.tuple #[TV x (eh s (clip wide)).1.2,.int .u64 ((eh s (clip wide)).2:Int)]∧jD vb b w' x (eh s (clip wide)).1.1∧Ext w w':=by
 refine al.start aah rfl (US rfl) ?_
 rw[cc]
 have hv:=hB.sl
 have aw:=id hv
 obtain⟨A0,c0,Es,P4,MN,dv⟩:=aw
 subst Es
 refine RW.seq (RW.region ?_)
 refine RL.op rfl rfl (oZ (cs:=[.slice A0 s.1.length c0,.int .i64 s.2]) rfl rfl ?_)
 intro w1 iN gM iR
 refine RL.op rfl rfl (fB (cs:=[.slice none 0 0,.int .i64 0]) nS rfl ?_)
 intro w2 jR jh ff
 replace iN:=iN.ext jh
 have Ma:=(hv.ext gM).ext jh
 have OI:=gM.size
 have hlen:=hv.aY
 refine RL.ev rfl rfl aa (RL.nil (ag (RW.seq (RW.region (RL.ev rfl rfl U ?_)))))
 refine RL.op rfl rfl (aM aag rfl rfl rfl ((mX wide _).mono ?_))
 rintro _ _ ⟨rfl,rfl⟩
 have KJ:=qX wide
 generalize hk:clip wide=kk at KJ ⊢
 refine RL.ev rfl rfl aa (RL.nil (ag ?_))
 iterate 2 refine RW.seq ?_
 refine RW.region (RL.ev rfl rfl (ah Vk rfl bu (by decide) rfl) (RL.ev rfl rfl (aj UU rfl rfl iN rfl) (RL.ev rfl rfl (bp rfl rfl) (RL.nil (ag ?_)))))
 refine RW.aN _ rfl (fun di=>?_) (fun di=>?_)
 refine RW.seq (RW.region (RL.ev rfl rfl (aG (cs:=[.slice A0 s.1.length c0,.int .i64 s.2]) Vk rfl cJ rfl iN) ?_))
 refine RL.op rfl rfl (cK (vs:=[.slice A0 s.1.length c0,.int .i64 s.2]) cJ rfl rfl rfl (jN _ _ _ _) jR rfl ?_)
 intro w3 KO Bi NZ
 refine RL.ev rfl rfl aa (RL.nil (ag (RW.ret (aD ?_))))
 rw[D8 kk di]
 have hE:Ext w w3:=(gM.trans jh).then Bi (fun i hi e=>by omega)
 refine aL (RV.bV rfl rfl (bI KO Vk rfl cJ)) ?_
 exact⟨_,rfl,hB.ext hE,hE⟩
 refine RW.skip (ag ?_)
 iterate 2 refine RW.seq ?_
 refine RW.region ?_
 have hz:s.2=0:=Vi.1 di
 refine RL.ev rfl rfl (ah Vk rfl fq (by decide) rfl) (RL.ev rfl rfl (aj U1 rfl rfl iN rfl) (RL.ev rfl rfl (aQ U1 Ma rfl) (RL.ev rfl rfl U (RL.ev rfl rfl (aV rfl rfl) (RL.nil (ag ?_))))))
 refine RW.aN _ rfl (fun bW=>?_) (fun bW=>?_)
 refine RW.seq (RW.region ?_)
 refine RL.op rfl rfl (aM Yq rfl rfl rfl ((ir 10 _).mono ?_))
 rintro _ w3 ⟨rfl,ml⟩
 replace jR:=jR.ext ml
 refine RL.op rfl rfl (cK (vs:=[.slice none 0 0,.int .i64 10]) cJ rfl rfl rfl (jN _ _ _ _) jR rfl ?_)
 intro w4 u1 MO GF
 refine RL.ev rfl rfl aa (RL.nil (ag (RW.ret (aD ?_))))
 rw[z1 hz (by omega)]
 have hE:Ext w w4:=((gM.trans jh).trans ml).then MO (fun i hi e=>by omega)
 refine aL (RV.bV rfl rfl (bI u1 Vk rfl cJ)) ?_
 exact⟨_,rfl,jD.nil _ _ _,hE⟩
 refine RW.skip (ag (RW.seq (RW.region ?_)))
 have ql:kk≤s.1.length:=by omega
 refine RL.ev rfl rfl aa (RL.nil (ag ?_))
 iterate 2 refine RW.seq ?_
 refine RW.region (RL.ev rfl rfl U (RL.ev rfl rfl (an rfl rfl rfl (kc (by omega) (by omega))) (RL.ev rfl rfl aa (RL.nil (ag (RW.block ?_))))))
 refine RW.loop (fun k R w'=>∃j:Nat,∃z:Int,∃nn:Nat,R 8=vi z∧R 7=.int .u64 (nn:Int)∧R 6=vi (kk:Int)∧R 2=.pointer (some ⟨w.heap.size,0,none⟩)∧R 4=.pointer (some ⟨w1.heap.size,0,none⟩)∧(j=k)∧(z=(j:Int)-1)∧(j≤kk)∧(nn=le ((s.1.take kk).drop j))∧(w'=w2)) kk ?_ ?_
 exact⟨kk,_,0,rfl,rfl,rfl,rfl,rfl,rfl,rfl,Vv _,by rw[List.drop_of_length_le (by simp;omega)];rfl,rfl⟩
 rintro k R w' ⟨j,z,nn,cl,cd,dd,bF,cg,wy,OI,Kp,hn,hw⟩
 have bY:∃R0,R=(aZ (aZ (aZ (aZ (aZ R0 8 _) 7 _) 6 _) 2 _) 4 _):=⟨R,by rw[ai cl,ai cd,ai dd,ai bF,ai cg]⟩
 obtain⟨R0,rfl⟩:=bY
 clear cl cd dd bF cg
 subst hw
 iterate 2 refine RW.seq ?_
 refine RW.region (RL.ev rfl rfl U (RL.ev rfl rfl (da rfl rfl) (RL.nil (ag ?_))))
 refine RW.aN _ rfl (fun GK=>?_) (fun GK=>?_)
 refine RW.skip (ag (RW.seq (RW.block (RW.region ?_))))
 have RH:(z.toNat)=j-1:=by omega
 have RO:=Hx s.1 kk j (by omega) Kp ql
 have HQ:=z8 s.1 kk (j-1) KJ
 rw[←hn]at RO
 refine RL.ev rfl rfl U (RL.ev rfl rfl (an rfl rfl rfl (Oy nn (by omega))) (RL.ev rfl rfl (ah Vk rfl fq (by decide) rfl) (RL.ev rfl rfl (aj U1 rfl rfl iN rfl) (RL.ev rfl rfl U (RL.ev rfl rfl (aB U1 lG Ma rfl rfl (by omega) (by omega)) ?_)))))
 refine RL.ev rfl rfl (aF (m:=z.toNat) (a:=s.1[j-1]'(by omega)) Vu rfl Ma rfl (by rw[RH];exact UT _)) ?_
 refine RL.ev rfl rfl (cw Vu VA rfl (eu _ (by omega))) (RL.ev rfl rfl (an rfl rfl rfl (QJ _ _ (by omega))) (RL.ev rfl rfl aa (RL.nil (a7 (ag (RW.region (RL.ev rfl rfl U (RL.ev rfl rfl (an rfl rfl rfl (kc (by omega) (by omega))) (RL.ev rfl rfl aa ?_)))))))))
 refine RL.nil (ag ?_)
 exact⟨k-1,by omega,j-1,_,_,rfl,rfl,rfl,rfl,rfl,by omega,by omega,by omega,RO.symm,rfl⟩
 refine RW.exit ?_
 iterate 2 refine bm ?_
 refine aO (ag (RW.seq (RW.region (RL.ev rfl rfl (ah Vk rfl fq (by decide) rfl) (RL.ev rfl rfl (aj U1 rfl rfl iN rfl) (RL.ev rfl rfl U (RL.ev rfl rfl (eW U1 lG Ma rfl rfl (by omega) (by omega)) (RL.ev rfl rfl (oB (cs:=[jy (.slice A0 s.1.length c0) kk s.1.length,.int .i64 0]) Vk nS (places:=#[(0,1),(1,1)]) (by intro w;kernel_rfl) (pl:=[(0,.tmp 39)]) rfl rfl rfl) (RL.ev rfl rfl U ?_)))))))))
 refine RL.op rfl rfl (cK (vs:=[jy (.slice A0 s.1.length c0) kk s.1.length,.int .i64 0]) cJ rfl rfl rfl (jN _ _ _ _) jR rfl ?_)
 intro w5 HR yA O4
 refine RL.ev rfl rfl aa (RL.nil (ag (RW.ret ?_)))
 rw[show eh s kk=((s.1.drop kk,0),le (s.1.take kk)) by unfold eh;rw[iw hz ql]]
 have hE:Ext w w5:=(gM.trans jh).then yA (fun i hi e=>by omega)
 refine aL (RV.bV rfl rfl (bI HR Vk rfl cJ)) ?_
 have HI:j=0:=by omega
 subst HI
 rw[abc]at hn
 subst hn
 exact⟨_,rfl,(hB.ext hE).fM ql,hE⟩
theorem uJ {v:Value} {s s':St} {wide:Int} {k m:Nat} {w:World} {b:Nat} (hB:jD vb b w v s.1) (kS:b≤w.heap.size) (hk:clip wide=k) (hn:eh s k=(s',m)):
    al UY 202 #[TV v s.2,vi wide] w (fun r w'=>∃x,r=.tuple #[TV x s'.2,.int .u64 (m:Int)]∧jD vb b w' x s'.1∧Ext w w'):=by
  subst hk
  have h:=vL b v s wide w hB kS
  rw[hn]at h
  exact h
theorem mW (b:Nat) (v:Value) (s:St) (most:Int) (size:Nat) (w:World) (hB:jD vb b w v s.1) (kS:b≤w.heap.size) (QX:0<size) (iM: -9223372036854775808≤most) (fZ:most≤9223372036854775807):al UY 173 #[TV v s.2,vi most,vi (size:Int)] w fun r w'=>∃x,r=.tuple #[TV x (cQ s most size).1.2,vi (cQ s most size).2]∧jD vb b w' x (cQ s most size).1.1∧Ext w w':=by
 refine al.start aai rfl (US rfl) ?_
 rw[jB]
 have hv:=hB.sl
 have aw:=id hv
 obtain⟨A0,c0,Es,P4,MN,dv⟩:=aw
 subst Es
 have Cr:=mE s
 unfold cQ
 generalize hq:eh s 4=q at Cr ⊢
 obtain⟨t,n⟩:=q
 simp only at Cr ⊢
 refine RW.seq (RW.region ?_)
 refine RL.op rfl rfl (oZ (cs:=[.slice A0 s.1.length c0,.int .i64 s.2]) rfl rfl ?_)
 intro w1 iN gM iR
 refine RL.op rfl rfl (fB (cs:=[.slice none 0 0,.int .i64 0]) nS rfl ?_)
 intro w2 jR jh ff
 replace iN:=iN.ext jh
 have Ma:=(hv.ext gM).ext jh
 have OI:=gM.size
 refine RL.ev rfl rfl aa (RL.nil (ag (RW.seq (RW.region (RL.ev rfl rfl (aG (cs:=[.slice A0 s.1.length c0,.int .i64 s.2]) Vk rfl cJ rfl iN) ?_)))))
 refine RL.op rfl rfl (aR aah rfl rfl rfl rfl ((uJ ((hB.ext gM).ext jh) (by omega) nL hq).mono ?_))
 rintro _ w3 ⟨x,rfl,hx,ml⟩
 have aw:=id hx.sl
 obtain⟨A3,c3,qQ,_,Kj,_⟩:=aw
 subst qQ
 replace jR:=jR.ext ml
 have S2:=ml.size
 refine RL.ev rfl rfl U ?_
 iterate 2 refine RL.ev rfl rfl (bg rfl rfl) ?_
 refine RL.op rfl rfl (fB (cs:=[.slice none 0 0,.int .i64 0]) nS rfl ?_)
 intro w4 u1 yM GF
 replace jR:=jR.ext yM
 replace hx:=hx.ext yM
 refine RL.op rfl rfl (cK (vs:=[.slice A3 t.1.length c3,.int .i64 t.2]) cJ rfl rfl rfl (jN _ _ _ _) u1 rfl ?_)
 intro w5 HR yA O4
 replace jR:=jR.mod yA (fun e=>by omega)
 have HX:Ext w w5:=(((gM.trans jh).trans ml).trans yM).then yA (fun i hi e=>by omega)
 replace hx:=hx.mod yA (fun k hk e=>by omega)
 have L6:=hx.sl
 refine RL.ev rfl rfl aa (RL.nil (ag ?_))
 iterate 2 refine RW.seq ?_
 refine RW.region (RL.ev rfl rfl (ah Vk rfl bu (by decide) rfl) (RL.ev rfl rfl (aj UU rfl rfl HR rfl) (RL.ev rfl rfl (bp rfl rfl) (RL.nil (ag ?_)))))
 refine RW.aN _ rfl (fun di=>?_) (fun di=>?_)
 refine RW.seq (RW.region (RL.ev rfl rfl (aG (cs:=[.slice A3 t.1.length c3,.int .i64 t.2]) Vk rfl cJ rfl HR) ?_))
 refine RL.op rfl rfl (cK (vs:=[.slice A3 t.1.length c3,.int .i64 t.2]) cJ rfl rfl rfl (jN _ _ _ _) jR rfl ?_)
 intro w6 TU Rz Te
 refine RL.ev rfl rfl aa (RL.nil (ag (RW.ret (aD ?_))))
 rw[if_pos di]
 have hE:Ext w w6:=(HX).then Rz (fun i hi e=>by omega)
 refine aL (RV.bV rfl rfl (bI TU Vk rfl cJ)) ?_
 exact⟨_,rfl,hx.mod Rz (fun k hk e=>by omega),hE⟩
 refine RW.skip (ag ?_)
 iterate 2 refine RW.seq ?_
 rcases(show most<0∨(¬most<0∧most<(n:Int))∨(¬most<0∧¬most<(n:Int)) by omega)with hc|hc|hc
 refine RW.region (RL.ev rfl rfl U (RL.ev rfl rfl (cS (aV rfl rfl) hc) (RL.ev rfl rfl U ?_)))
 iterate 4 refine RL.off rfl rfl (by decide) rfl rfl ?_
 refine RL.ev rfl rfl (ao rfl) (RL.nil (ag (RW.bK rfl (RW.seq (RW.region ?_)))))
 refine RL.op rfl rfl (aM Yq rfl rfl rfl ((ir 3 _).mono ?_))
 rintro _ w6 ⟨rfl,Ax⟩
 replace jR:=jR.ext Ax
 refine RL.op rfl rfl (cK (vs:=[.slice none 0 0,.int .i64 3]) cJ rfl rfl rfl (jN _ _ _ _) jR rfl ?_)
 intro w7 IW Lx O3
 refine RL.ev rfl rfl aa (RL.nil (ag (RW.ret (aD ?_))))
 rw[if_neg di,if_pos (by omega)]
 have hE:Ext w w7:=(HX.trans Ax).then Lx (fun i hi e=>by omega)
 refine aL (RV.bV rfl rfl (bI IW Vk rfl cJ)) ?_
 exact⟨_,rfl,jD.nil _ _ _,hE⟩
 refine RW.region (RL.ev rfl rfl U (RL.ev rfl rfl (cm (aV rfl rfl) hc.1) (RL.ev rfl rfl U ?_)))
 iterate 2 refine RL.aI rfl rfl (by decide) rfl rfl U ?_
 refine RL.aI rfl rfl (by decide) rfl rfl (cw UU VA rfl ((wrap_u64 most).trans (show(nk most:Int)=most by unfold nk;omega))) (RL.aI rfl rfl (by decide) rfl rfl (cS (cN rfl rfl) hc.2) (RL.ev rfl rfl (aH rfl) (RL.nil (ag (RW.bK rfl (RW.seq (RW.region ?_)))))))
 refine RL.op rfl rfl (aM Yq rfl rfl rfl ((ir 3 _).mono ?_))
 rintro _ w6 ⟨rfl,Ax⟩
 replace jR:=jR.ext Ax
 refine RL.op rfl rfl (cK (vs:=[.slice none 0 0,.int .i64 3]) cJ rfl rfl rfl (jN _ _ _ _) jR rfl ?_)
 intro w7 IW Lx O3
 refine RL.ev rfl rfl aa (RL.nil (ag (RW.ret (aD ?_))))
 rw[if_neg di,if_pos (by omega)]
 have hE:Ext w w7:=(HX.trans Ax).then Lx (fun i hi e=>by omega)
 refine aL (RV.bV rfl rfl (bI IW Vk rfl cJ)) ?_
 exact⟨_,rfl,jD.nil _ _ _,hE⟩
 refine RW.region (RL.ev rfl rfl U (RL.ev rfl rfl (cm (aV rfl rfl) hc.1) (RL.ev rfl rfl U ?_)))
 iterate 2 refine RL.aI rfl rfl (by decide) rfl rfl U ?_
 refine RL.aI rfl rfl (by decide) rfl rfl (cw UU VA rfl ((wrap_u64 most).trans (show(nk most:Int)=most by unfold nk;omega))) (RL.aI rfl rfl (by decide) rfl rfl (cm (cN rfl rfl) hc.2) (RL.ev rfl rfl (aH rfl) (RL.nil (ag (RW.dD rfl (RW.skip (ag ?_)))))))
 iterate 2 refine RW.seq ?_
 refine RW.region (RL.ev rfl rfl U (RL.ev rfl rfl (ah Vk rfl fq (by decide) rfl) (RL.ev rfl rfl (aj U1 rfl rfl HR rfl) (RL.ev rfl rfl (aQ U1 L6 rfl) (RL.ev rfl rfl U (RL.ev rfl rfl (ph rfl rfl (by omega) (Ou t.1.length size (by have:=L6.aY;omega))) (RL.ev rfl rfl (cw UU VA rfl (eu _ (by have:=Zk t.1.length size;have:=L6.aY;omega))) (RL.ev rfl rfl (cN rfl rfl) (RL.nil ?_)))))))))
 refine ag ?_
 refine RW.aN _ rfl (fun GJ=>?_) (fun GJ=>?_)
 refine RW.seq (RW.region ?_)
 refine RL.op rfl rfl (aM Yq rfl rfl rfl ((ir 10 _).mono ?_))
 rintro _ w6 ⟨rfl,Ax⟩
 replace jR:=jR.ext Ax
 refine RL.op rfl rfl (cK (vs:=[.slice none 0 0,.int .i64 10]) cJ rfl rfl rfl (jN _ _ _ _) jR rfl ?_)
 intro w7 IW Lx O3
 refine RL.ev rfl rfl aa (RL.nil (ag (RW.ret (aD ?_))))
 rw[if_neg di,if_neg (by omega)]
 first
   | rw [if_pos (show t.1.length / size < n by omega)]
     have hE:Ext w w7:=(HX.trans Ax).then Lx (fun i hi e=>by omega)
     refine aL (RV.bV rfl rfl (bI IW Vk rfl cJ)) ?_
     exact⟨_,rfl,jD.nil _ _ _,hE⟩
   | rw [if_neg (show ¬ t.1.length / size < n by omega)]
     have hE:Ext w w8:=(HX).then De (fun i hi e=>by omega)
     refine aL (RV.bV rfl rfl (bI Ob Vk rfl cJ)) ?_
     exact⟨_,rfl,hx.mod De (fun k hk e=>by omega),hE⟩
 refine RW.skip (ag (RW.seq (RW.region (RL.ev rfl rfl (aG (cs:=[.slice A3 t.1.length c3,.int .i64 t.2]) Vk rfl cJ rfl HR) (RL.ev rfl rfl U (RL.ev rfl rfl (cw VA UU rfl ((oR n (by omega)).trans (BN n (by omega)))) ?_))))))
 refine RL.op rfl rfl (cK (vs:=[.slice A3 t.1.length c3,.int .i64 t.2]) cJ rfl rfl rfl (jN _ _ _ _) jR rfl ?_)
 intro w8 Ob De NY
 refine RL.ev rfl rfl aa (RL.nil (ag (RW.ret ?_)))
 rw[if_neg di,if_neg (by omega)]
 first
   | rw [if_pos (show t.1.length / size < n by omega)]
     have hE:Ext w w7:=(HX.trans Ax).then Lx (fun i hi e=>by omega)
     refine aL (RV.bV rfl rfl (bI IW Vk rfl cJ)) ?_
     exact⟨_,rfl,jD.nil _ _ _,hE⟩
   | rw [if_neg (show ¬ t.1.length / size < n by omega)]
     have hE:Ext w w8:=(HX).then De (fun i hi e=>by omega)
     refine aL (RV.bV rfl rfl (bI Ob Vk rfl cJ)) ?_
     exact⟨_,rfl,hx.mod De (fun k hk e=>by omega),hE⟩
end Go.Proofs.YtngkdkbpgoddlaaGreat
