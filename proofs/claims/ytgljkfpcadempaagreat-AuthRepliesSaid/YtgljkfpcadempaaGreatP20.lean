/- Laws and walks that the proof of the statement is made of (part 20). -/
import Derived.Test.YtgljkfpcadempaaGreatP19
set_option linter.unusedSimpArgs false
set_option linter.unusedVariables false
namespace Go.Proofs.X
open Go.RowKit
set_option maxRecDepth 100000
def sB:MsgR:=⟨9,false,0,false,false,true,false,0,[([2,110,115,1,97],1)],[],[],[],0⟩
def KT (up:Bool):List HldR:=[⟨[1,97],PL,[1,97],up⟩]
theorem WP:jW [1,97] FM=0:=by decide +kernel
theorem WQ:pO [1,97] FM=PL:=by decide +kernel
theorem WR:pN [1,97] FM=[1,97]:=by decide +kernel
theorem WS:(cZ (KT true) sB).rcode=0∧(cZ (KT true) sB).auth=true∧(cZ (KT true) sB).an.length=1:=by decide +kernel
theorem WT:(cZ (KT false) sB).rcode=2:=by decide +kernel
theorem WU:(cZ [] sB).rcode=5:=by decide +kernel
theorem WV:(dA sB).2=0∧(dA sB).1.length≤1000:=by decide +kernel
theorem WW:(iO [] (dA sB).1 false).2=true∧(iO [] (dA sB).1 false).1.length≤1000:=by decide +kernel
theorem WX:(fG (iO [] (dA sB).1 false).1).2=0∧(fG (iO [] (dA sB).1 false).1).1.id=9∧(fG (iO [] (dA sB).1 false).1).1.rcode=5:=by decide +kernel
theorem WY:(iO [] [120] false).2=false:=by decide +kernel
theorem HldsAt.nil (w:World):HldsAt w (.slice none 0 0) []:=⟨[],Sl.nil _ _,rfl,fun i h e=>by simp at e⟩
theorem HldsAt.one {w:World} {v z:Value} {up:Bool} {k:Nat} (h:Sl k w v [[aI [1,97],z,aI [1,97], .bool up]]) (hk:k=4) (hz:SetsAt w z PL):HldsAt w v (KT up):=by
 subst hk
 refine ⟨_,h,rfl,fun i x e => ?_⟩
 cases i with
 | zero =>
  simp only [KT,List.getElem?_cons_zero,Option.some.injEq] at e
  subst e
  exact ⟨z,rfl,hz⟩
 | succ i=>simp [KT] at e
theorem RE (up:Bool):∀ h ∈ KT up,∀ s ∈ h.l,s.data.length≤1000000:=by
 intro h hh
 simp only [KT,List.mem_singleton] at hh
 subst hh
 exact VC
set_option maxHeartbeats 1000000 in
theorem DG (w:World):Calls Tryz.prog 11 #[] w (bM w (.bool true)):=by
 go_enter Tryz.func11,Tryz.ntmps11
 refine_lift dJ fun _ _ => ?_
 refine aK (enters_of Tryz.func27 rfl rfl) rfl rfl (ND _) ?_
 intro v1 w1 x1 hv1
 refine aA ?_
 refine_lift bG ?_
 refine aK (enters_of Tryz.func26 rfl rfl) rfl rfl (SE [1,97] v1 FM _ hv1 (by decide) VD) ?_
 rintro _ w4 x4 ⟨z,rfl,hz⟩
 rw [WP,WR]
 rw [WQ] at hz
 have hz:=hz.sets
 have hz1:z.oneCell'=true:=by obtain ⟨css,h,_⟩:=hz;exact h.one
 have hx4:=x1.trans x4
 refine aA ?_
 refine_lift bG ?_
 refine aL (z:=mU) rfl (by decide +kernel) ?_
 intro w5 x5 s5 h5
 refine aA ?_
 refine aG (v:=.agg #[aI [1,97],z]) rfl rfl rfl h5 (show aR Tryz.prog 50 2=true by decide +kernel) rfl (yL hz1) ?_
 intro w6 p6
 have x6:Ext w4 w6:=x5.move p6.mv (by rintro k ⟨⟩;exact Nat.le_refl _)
 have hp6:=aE (cs:=[aI [1,97],z]) p6.this
 have hz6:=hz.ext x6
 have hx6:=hx4.trans x6
 clear p6 h5 x5 hz hv1
 refine_lift dJ fun _ _ => ?_
 refine aT (v:=.agg #[aI [1,97],z,aI [1,97], .bool true]) (Runs.build rfl (by obtain ⟨_,hq,_⟩:=hz6.sl;obtain ⟨_,_,rfl,_⟩:=hq.out;kernel_rfl)) ?_
 refine aA ?_
 refine bN (e:=65) (k:=4) (bytes:=64) (xs:=[.agg #[aI [1,97],z,aI [1,97], .bool true]]) rfl rfl rfl (by intro x hx;simp at hx;subst hx;simp [Value.cells]) (by decide +kernel) (by simp) ?_
 intro v7 w7 x7 _ sl7 o7
 refine aA ?_
 have hz7:=hz6.ext x7
 have hx7:=hx6.trans x7
 have o7:Own w6.heap.size 4 65 w7 v7 [[aI [1,97],z,aI [1,97], .bool true]]:=o7
 refine_lift dJ fun _ _ => ?_
 refine aT (v:=.agg #[aI [2,110,115,1,97], .int .i64 1]) (Runs.build rfl (by kernel_rfl)) ?_
 refine aA ?_
 refine bN (e:=54) (k:=2) (bytes:=24) (xs:=[.agg #[aI [2,110,115,1,97], .int .i64 1]]) rfl rfl rfl (by intro x hx;simp at hx;subst hx;simp [Value.cells]) (by decide +kernel) (by simp) ?_
 intro qv w8 x8 _ sl8 o8
 refine aA ?_
 have sl8:Sl 2 w8 qv (cU sB.qs):=sl8
 have hqf:=sl8.slf
 refine aT (v:=.agg (aW sB qv aH aH aH).toArray) (Runs.build (vals:=[(0, .int .i64 9),(5, .bool true),(8,qv)]) rfl (by obtain ⟨_,_,_,rfl⟩:=hqf;kernel_rfl)) ?_
 refine aA ?_
 refine aL (z:=gO) rfl (by decide +kernel) ?_
 intro w9 x9 s9 h9
 refine aA ?_
 have hm9:MsgV w9 sB qv aH aH aH:=⟨sl8.ext x9,Sl.nil _ _,Sl.nil _ _,Sl.nil _ _⟩
 refine aG (v:=.agg (aW sB qv aH aH aH).toArray) rfl rfl rfl h9 (show aR Tryz.prog 26 13=true by decide +kernel) rfl (cM hm9) ?_
 intro w10 p10
 have x810:Ext w8 w10:=x9.move p10.mv (by rintro k ⟨⟩;exact Nat.le_refl _)
 have hB10:w10.heap[w8.heap.size]? = some (.cells (aW sB qv aH aH aH).toArray 26 (0,0)):=p10.this
 have x710:=x8.trans x810
 have hm10:MsgV w10 sB qv aH aH aH:=⟨sl8.ext x810,Sl.nil _ _,Sl.nil _ _,Sl.nil _ _⟩
 have o10:=o7.ext x710
 have hz10:=hz7.ext x710
 have hx10:=hx7.trans x710
 have hp10:=aE (cs:=aW sB qv aH aH aH) hB10
 have h68:w6.heap.size≤w8.heap.size:=by have:=x7.size;have:=x8.size;omega
 have h610:Ext w6 w10:=x7.trans x710
 have q10:Own w7.heap.size 2 54 w10 qv (cU sB.qs):=Own.ext (show Own w7.heap.size 2 54 w8 qv (cU sB.qs) from o8) x810
 clear p10 h9 x9 hm9 sl7 sl8 o8 hp6
 generalize w8.heap.size=mb at *
 unfold aW at hp10
 refine_lift dJ fun _ _ => ?_
 obtain ⟨ra1,ra2,ra3⟩:=WS
 refine aK (enters_of Tryz.func13 rfl rfl) rfl rfl (tJ v7 (KT true) sB qv aH aH aH _ (HldsAt.one o10.sl rfl hz10) hm10 (by decide) (RE true)) ?_
 rintro _ w11 x11 ⟨qa,aa,ua,ea,rfl,hma0⟩
 have hma:=hma0.msg
 generalize cZ (KT true) sB=RA at *
 refine aA ?_
 refine aL (z:=gO) rfl (by decide +kernel) ?_
 intro w12 x12 s12 h12
 refine aA ?_
 have hma12:=hma.ext x12
 refine aG (v:=.agg (aW RA qa aa ua ea).toArray) rfl rfl rfl h12 (show aR Tryz.prog 26 13=true by decide +kernel) rfl (cM hma12) ?_
 intro w13 p13
 have x1113:Ext w11 w13:=x12.move p13.mv (by rintro k ⟨⟩;exact Nat.le_refl _)
 have hA13:w13.heap[w11.heap.size]? = some (.cells (aW RA qa aa ua ea).toArray 26 (0,0)):=p13.this
 have x13:=x11.trans x1113
 have o13:=o10.ext x13
 have q13:=q10.ext x13
 have lna:(aO RA.an).length=1:=by rw [aQ];exact ra3
 have hsa:=hma.an
 have hB13:=x13.at hB10
 have hm13:=hm10.ext x13
 have hz13:=hz10.ext x13
 have hx13:=hx10.trans x13
 clear p13 h12 x12 hma12 hp10 hB10
 generalize w11.heap.size=ab at *
 have slo:=o13.sl
 refine_lift dJ fun _ _ => ?_
 obtain ⟨bb,oo,hep,-⟩:=(slo.elem (i:=0) rfl).out
 refine aT (Runs.fieldA (off:=3) hep (by decide +kernel)) ?_
 refine aA ?_
 refine EZ (i:=0) (j:=3) (k:=4) (c:=.bool false) rfl (congrArg (fun p=>dT p 3) hep.symm) rfl o13 rfl (by omega) (by decide +kernel) rfl ?_
 intro w14 o14 m14
 have o14:Own w6.heap.size 4 65 w14 v7 [[aI [1,97],z,aI [1,97], .bool false]]:=o14
 have x614:Ext w6 w14:=o13.mvx m14 (h610.trans x13) (Nat.le_refl _)
 have hz14:=hz6.ext x614
 have q14:=q13.mv m14 (q13.ne o13 (by decide))
 have hM:=m14.at hB13 (fun e9=>(o13.neBlock hB13 (by decide)) e9.symm)
 have hA:=m14.at hA13 (fun e9=>(o13.neBlock hA13 (by decide)) e9.symm)
 have hm14:MsgV w14 sB qv aH aH aH:=⟨q14.sl,Sl.nil _ _,Sl.nil _ _,Sl.nil _ _⟩
 have hx14:=hx6.trans x614
 have hpq:=aE (cs:=aW sB qv aH aH aH) hM
 unfold aW at hpq
 clear slo hB13 hA13 o13 m14
 refine_lift dJ fun _ _ => ?_
 refine aK (enters_of Tryz.func13 rfl rfl) rfl rfl (tJ v7 (KT false) sB qv aH aH aH _ (HldsAt.one o14.sl rfl hz14) hm14 (by decide) (RE false)) ?_
 rintro _ w15 x15 ⟨qB,aB,uB,eB,rfl,hmB0⟩
 have hmB:=hmB0.msg
 have rb:=WT
 generalize cZ (KT false) sB=RB at *
 refine aA ?_
 refine aL (z:=gO) rfl (by decide +kernel) ?_
 intro w16 x16 s16 h16
 refine aA ?_
 have hmB2:=hmB.ext x16
 refine aG (v:=.agg (aW RB qB aB uB eB).toArray) rfl rfl rfl h16 (show aR Tryz.prog 26 13=true by decide +kernel) rfl (cM hmB2) ?_
 intro w17 p17
 have y17:Ext w15 w17:=x16.move p17.mv (by rintro k ⟨⟩;exact Nat.le_refl _)
 have hbB:w17.heap[w15.heap.size]? = some (.cells (aW RB qB aB uB eB).toArray 26 (0,0)):=p17.this
 have x17:=x15.trans y17
 have hx17:=hx14.trans x17
 have hM:=x17.at hM
 have hA:=x17.at hA
 clear p17 h16 x16 hmB2
 generalize w15.heap.size=Bb at *
 have hm17:=hm14.ext x17
 have hpq:=hpq.ext x17
 refine_lift dJ fun _ _ => ?_
 refine aK (enters_of Tryz.func13 rfl rfl) rfl rfl (tJ (.slice none 0 0) [] sB qv aH aH aH _ (HldsAt.nil _) hm17 (by decide) (by simp)) ?_
 rintro _ w18 x18 ⟨qC,aC,uC,eC,rfl,hmC0⟩
 have hmC:=hmC0.msg
 have rc:=WU
 generalize cZ [] sB=RC at *
 refine aA ?_
 refine aL (z:=gO) rfl (by decide +kernel) ?_
 intro w19 x19 s19 h19
 refine aA ?_
 have hmC2:=hmC.ext x19
 refine aG (v:=.agg (aW RC qC aC uC eC).toArray) rfl rfl rfl h19 (show aR Tryz.prog 26 13=true by decide +kernel) rfl (cM hmC2) ?_
 intro w20 p20
 have y20:Ext w18 w20:=x19.move p20.mv (by rintro k ⟨⟩;exact Nat.le_refl _)
 have hbC:w20.heap[w18.heap.size]? = some (.cells (aW RC qC aC uC eC).toArray 26 (0,0)):=p20.this
 have x20:=x18.trans y20
 have hx20:=hx17.trans x20
 have hM:=x20.at hM
 have hA:=x20.at hA
 have hbB:=x20.at hbB
 clear p20 h19 x19 hmC2
 generalize w18.heap.size=Cb at *
 have hm20:=hm17.ext x20
 have hpq:=hpq.ext x20
 refine_lift dJ fun _ _ => ?_
 obtain ⟨re1,re2⟩:=WV
 obtain ⟨rs1,rs2⟩:=WW
 obtain ⟨rd1,rd2,rd3⟩:=WX
 have rx:=WY
 refine aD (enters_of Tryz.func23 rfl rfl) rfl rfl (tK hm20) ?_;intro w21 x21;refine aA ?_
 generalize dA sB=EE at *
 refine_lift dJ fun _ _ => ?_
 refine aD (enters_of Tryz.func16 rfl rfl) rfl rfl (JB (.slice none 0 0) [] EE.1 false _ (HldsAt.nil _) (by decide) (by simp) (by omega)) ?_;intro w22 x22;refine aA ?_
 generalize iO [] EE.1 false=SS at *
 refine_lift dJ fun _ _ => ?_
 refine aN (vs:=[aI SS.1]) (enters_of Tryz.func19 rfl rfl) rfl rfl (FY SS.1 (by omega)) ?_
 rintro _ w23 ⟨qd,ad,ud,xd,rfl,hmd,x23⟩
 refine ⟨_,rfl,?_⟩
 generalize fG SS.1=DD at *
 refine aA ?_
 refine_lift bG ?_
 refine aL (z:=gO) rfl (by decide +kernel) ?_
 intro w24 x24 s24 h24
 refine aA ?_
 have hmd2:=hmd.ext x24
 refine aG (v:=.agg (aW DD.1 qd ad ud xd).toArray) rfl rfl rfl h24 (show aR Tryz.prog 26 13=true by decide +kernel) rfl (cM hmd2) ?_
 intro w25 p25
 have y25:Ext w23 w25:=x24.move p25.mv (by rintro k ⟨⟩;exact Nat.le_refl _)
 have hbD:w25.heap[w23.heap.size]? = some (.cells (aW DD.1 qd ad ud xd).toArray 26 (0,0)):=p25.this
 have x2025:=(x21.trans x22).trans (x23.trans y25)
 have hx25:=hx20.trans x2025
 clear p25 h24 x24 hmd2
 generalize w23.heap.size=Db at *
 refine_lift dJ fun _ _ => ?_
 refine aD (enters_of Tryz.func16 rfl rfl) rfl rfl (JB (.slice none 0 0) [] [120] false _ (HldsAt.nil _) (by decide) (by simp) (by decide)) ?_;intro w26 x26;refine aA ?_
 generalize iO [] [120] false=XX at *
 have x2026:=x2025.trans x26
 have pA:=aE (x2026.at hA)
 have pB:=aE (x2026.at hbB)
 have pC:=aE (x2026.at hbC)
 have pD:=aE (x26.at hbD)
 unfold aW at pA pB pC pD
 rw [ra1,ra2] at pA
 rw [rb] at pB
 rw [rc] at pC
 rw [rd2,rd3] at pD
 rw [re1,rs1,rd1,rx]
 clear hpq
 refine_lift dJ fun _ _ => ?_
 refine aT (Runs.lenW hsa (by decide +kernel)) ?_
 refine aA ?_
 rw [lna]
 refine_lift CA (fun hc => ?_) (fun hc => ?_)
 ·go_ret
  exact ⟨rfl,hx25.trans x26⟩
 ·exact absurd (show ((1:Nat):Int)=1 from rfl) (by assumption)
def zE (hs:List HldR):Bool:=decide (hs.length≤4) && hs.all fun h=>(decide ((h.o.length:Int)≤300) && sP h.l) && decide ((h.org.length:Int)≤300)
set_option maxHeartbeats 2000000 in
theorem OB (v:Value) (hs:List HldR) (w:World) (hv:HldsAt w v hs) (hl:hs.length≤1000):Calls Tryz.prog 14 #[v] w (oA w fun r w'=>HldsAt w' r hs):=by
 obtain ⟨css,hsl,hcl,hrow⟩:=hv
 go_enter Tryz.func14,Tryz.ntmps14
 refine_lift vZ ?_;intro _ _ _
 go_loopw [3,4] (fun out iv wr=>∃ k:Nat,k≤hs.length∧iv=.int .i64 k∧Ext w wr∧Own w.heap.size 4 65 wr out (css.take k)) (fun _ iv _=>hs.length - (intOf iv).toNat)
 case atStart=>exact ⟨0,Nat.zero_le _,rfl,Ext.refl _,Own.nil _ _ _ _⟩
 case round =>
  obtain ⟨k,hk,rfl,hx,ho⟩:=hrel
  have hsr:=hsl.ext hx
  by_cases hlt:k < hs.length
  ·obtain ⟨x,hck,hsx⟩:=hrow k _ (List.getElem?_eq_getElem hlt)
   have hel:=hsr.elem hck
   obtain ⟨bb,oo,hep,-⟩:=hel.out
   rw [hep] at hel
   have hso:=ho.sl
   have hx1:x.oneCell'=true:=by obtain ⟨_,hq,_⟩:=hsx.sl;exact hq.one
   have hxf:∃ a n c,x=.slice a n c:=by obtain ⟨_,hq,_⟩:=hsx.sl;exact hq.slf
   have hkl:k < css.length:=by omega
   generalize hs[k]=H at *
   refine_lift xI ?_;intro _ _ _ _
   refine bV 18 (Ext wr) (by decide +kernel) ?_
   intro w1 x1 _
   refine ⟨x1,?_⟩
   refine cV 0 ?_;refine cV 1 ?_;refine cV 2 ?_
   refine bD (i:=3) (v:=.pointer (some ⟨bb,oo,none⟩)) rfl rfl (by decide +kernel) (by decide +kernel) (by decide +kernel) (by decide +kernel) (by decide +kernel) rfl (fun w' hF=>by rw [← hep];exact Runs.idxT rfl (hsr.ext hF) hkl (by decide +kernel)) (fun _ _ _ h=>h) ?_
   refine aA ?_
   have hel0:Pts wr (dT (.pointer (some ⟨bb,oo,none⟩)) 0) [aI H.o,x]:=(hel.front 2).part 0
   refine cV 4 ?_;refine cV 5 ?_;refine cV 6 ?_;refine cV 7 ?_
   clear hel0
   refine bD (i:=8) (v:=.pointer (some ⟨bb,oo,none⟩)) rfl rfl (by decide +kernel) (by decide +kernel) (by decide +kernel) (by decide +kernel) (by decide +kernel) rfl (fun w' hF=>by rw [← hep];exact Runs.idxT rfl (hsr.ext hF) hkl (by decide +kernel)) (fun _ _ _ h=>h) ?_
   refine aA ?_
   refine cV 9 ?_;refine cV 10 ?_;refine cV 11 ?_;refine cV 12 ?_
   refine bD (i:=13) (v:=.pointer (some ⟨bb,oo,none⟩)) rfl rfl (by decide +kernel) (by decide +kernel) (by decide +kernel) (by decide +kernel) (by decide +kernel) rfl (fun w' hF=>by rw [← hep];exact Runs.idxT rfl (hsr.ext hF) hkl (by decide +kernel)) (fun _ _ _ h=>h) ?_
   refine aA ?_
   refine cV 14 ?_;refine cV 15 ?_
   refine TR 16 (v:=.agg #[aI H.o,x,aI H.org, .bool H.up]) rfl (fun _=>Runs.build rfl (by obtain ⟨_,_,_,rfl⟩:=hxf;kernel_rfl)) ?_
   refine aA ?_
   refine bE (i:=17) (by decide +kernel) rfl rfl ?_
   refine bN (e:=65) (k:=4) (bytes:=64) (xs:=[.agg #[aI H.o,x,aI H.org, .bool H.up]]) rfl rfl rfl (by intro y hy;simp at hy;subst hy;simp [Value.cells]) (by decide +kernel) (by simp) ?_
   intro u2 w2 x2 _ sl2 _
   refine aA ?_
   have sl2:Sl 4 w2 u2 [[aI H.o,x,aI H.org, .bool H.up]]:=sl2
   refine aJ ⟨cC (x1.trans x2),?_⟩
   refine bE (i:=18) (by decide +kernel) rfl rfl ?_
   refine bU (e:=65) (k:=4) rfl (ho.ext (x1.trans x2)) rfl sl2 (by intro f hf u hu;simp only [List.mem_singleton] at hf;subst hf;simp only [List.mem_cons,List.not_mem_nil,or_false] at hu;rcases hu with rfl | rfl | rfl | rfl <;> first | rfl | exact hx1) (hx.trans (x1.trans x2)).size (by simp;omega) ?_
   intro v3 w3 o3 m3 _
   refine aA ?_
   refine aJ ⟨bT rfl,?_⟩
   refine zL 19 ?_
   refine cN (by decide +kernel) ?_
   have hx3:=(ho.ext (x1.trans x2)).mvx m3 (hx.trans (x1.trans x2)) (Nat.le_refl _)
   refine_lift bG ?_
   refine ⟨⟨k + 1,by omega,by go_num,hx3,?_⟩,by simp [intOf];omega⟩
   rw [List.take_add_one,hck]
   exact o3
  ·have hk2:k=hs.length:=by omega
   subst hk2
   rw [List.take_of_length_le (by omega)] at ho
   refine_lift nK fun _ => ?_
   go_ret
   exact ⟨_,rfl,hx,⟨css,ho.sl,hcl,fun i h hi=>by obtain ⟨y,e1,e2⟩:=hrow i h hi;exact ⟨y,e1,e2.ext hx⟩⟩⟩
set_option maxHeartbeats 2000000 in
theorem QD (v:Value) (hs:List HldR) (w:World) (hv:HldsAt w v hs):Calls Tryz.prog 9 #[v] w (bM w (.bool (zE hs))):=by
 obtain ⟨css,hsl,hcl,hrow⟩:=hv
 go_enter Tryz.func9,Tryz.ntmps9
 have hle:=hsl.le
 by_cases c4:hs.length≤4
 ·have hF:zE hs=hs.all fun h=>(decide ((h.o.length:Int)≤300) && sP h.l) && decide ((h.org.length:Int)≤300):=by unfold zE;rw [decide_eq_true c4];rfl
  refine_lift vZ fun _ _ _ => ?_
  all_goals first
   | (have hh:False:=by omega
      exact hh.elim)
   | skip
  go_loopw [3] (fun iv wr=>∃ k:Nat,k≤hs.length∧iv=.int .i64 k∧Ext w wr∧((hs.take k).all fun h=>(decide ((h.o.length:Int)≤300) && sP h.l) && decide ((h.org.length:Int)≤300))=true) (fun iv _=>hs.length - (intOf iv).toNat)
  case atStart=>exact ⟨0,Nat.zero_le _,rfl,Ext.refl _,rfl⟩
  case round =>
   obtain ⟨k,hk,rfl,hx,hall⟩:=hrel
   have hsr:=hsl.ext hx
   by_cases hlt:k < hs.length
   ·obtain ⟨x,hck,hsx⟩:=hrow k _ (List.getElem?_eq_getElem hlt)
    have hel:=hsr.elem hck
    obtain ⟨bb,oo,hep,-⟩:=hel.out
    have hkl:k < css.length:=by omega
    have hTk:(hs.take (k + 1))=hs.take k ++ [hs[k]]:=by rw [List.take_succ_eq_append_getElem hlt]
    have hbad:((decide ((hs[k].o.length:Int)≤300) && sP hs[k].l) && decide ((hs[k].org.length:Int)≤300))=false→zE hs=false:=fun h9=>by
     rw [hF,List.all_eq_false]
     exact ⟨_,List.getElem_mem hlt,by rw [h9];decide⟩
    generalize hs[k]=H at *
    have hel0:Pts wr (dT (dN v (k * 4)) 0) [aI H.o,x]:=(hel.front 2).part 0
    refine_lift GI ?_;intro _ _ _ _ _ _
    refine aD (enters_of Tryz.func24 rfl rfl) rfl rfl (SH H.o x H.l _ (hsx.ext hx)) ?_;intro w1 x1;refine aA ?_
    have hx1:=hx.trans x1
    have hsr1:=hsr.ext x1
    have hel1:=hel.ext x1
    rw [hep] at hel1
    clear hel0 hel
    cases hd:(decide ((H.o.length:Int)≤300) && sP H.l) with
    | false =>
     refine_lift bG ?_
     go_ret
     rw [hbad (by rw [hd];rfl)]
     exact ⟨rfl,hx1⟩
    | true =>
     refine_lift bG ?_
     refine aT (Runs.fieldA (off:=2) hep (by decide +kernel)) ?_
     refine aA ?_
     by_cases c3:(H.org.length:Int)≤300
     ·refine_lift nK fun _ => ?_
      all_goals first
       | (have hh:False:=by omega
          exact hh.elim)
       | skip
      refine ⟨⟨k + 1,by omega,by go_num,hx1,?_⟩,by simp [intOf];omega⟩
      rw [hTk,List.all_append,hall]
      simp [hd,c3]
     ·refine_lift nK fun _ => ?_
      all_goals first
       | (have hh:False:=by omega
          exact hh.elim)
       | skip
      go_ret
      rw [hbad (by rw [decide_eq_false c3,Bool.and_false])]
      exact ⟨rfl,hx1⟩
   ·have hk2:k=hs.length:=by omega
    subst hk2
    rw [List.take_length] at hall
    refine_lift nK fun _ => ?_
    go_ret
    rw [hF,hall]
    exact ⟨rfl,hx⟩
 ·have hF:zE hs=false:=by unfold zE;rw [decide_eq_false c4];rfl
  refine_lift nK fun _ => ?_
  all_goals first
   | (have hh:False:=by omega
      exact hh.elim)
   | skip
  go_ret
  rw [hF]
  exact ⟨rfl,Ext.refl _⟩
theorem TG {hs:List HldR} (h:zE hs=true):hs.length≤4∧∀ x ∈ hs,∀ s ∈ x.l,s.data.length≤1000000:=by
 simp only [zE,Bool.and_eq_true,decide_eq_true_eq,List.all_eq_true] at h
 refine ⟨h.1,fun x hx s hs => ?_⟩
 have:=(yS (h.2 x hx).1.2).2.1 s hs
 omega
def VQ:Option Nat→Int
 | none=>-1
 | some i=>(i:Nat)
def WZ (hs:List HldR) (b:Option Nat) (most:Int):Prop:=(b=none∧most=-1)∨∃ j,b=some j∧∃ h:j < hs.length,most=((gL hs[j].org:Nat):Int)
set_option maxHeartbeats 4000000 in
theorem TH (v:Value) (hs:List HldR) (n:List UInt8) (w:World) (hv:HldsAt w v hs) (hl:hs.length≤1000):Calls Tryz.prog 22 #[v,aI n] w (bM w (.int .i64 (VQ (OF hs n)))):=by
 obtain ⟨css,hsl,hcl,hrow⟩:=hv
 have hgo:uH n (hs.drop 0) 0 none (-1)=OF hs n:=rfl
 generalize OF hs n=RES at *
 go_enter Tryz.func22,Tryz.ntmps22
 refine_lift dJ fun _ _ => ?_
 go_loopw [5,6] (fun bv iv wr=>∃ (k:Nat) (b:Option Nat) (most:Int),k≤hs.length∧iv=.int .i64 k∧bv=.int .i64 (VQ b)∧WZ hs b most∧Ext w wr∧uH n (hs.drop k) k b most=RES) (fun _ iv _=>hs.length - (intOf iv).toNat)
 case atStart=>exact ⟨0,none,-1,Nat.zero_le _,rfl,rfl, .inl ⟨rfl,rfl⟩,Ext.refl _,hgo⟩
 case round =>
  obtain ⟨k,b,most,hk,rfl,rfl,hM,hx,hg⟩:=hrel
  have hsr:=hsl.ext hx
  by_cases hlt:k < hs.length
  ·obtain ⟨x,hck,hsx⟩:=hrow k _ (List.getElem?_eq_getElem hlt)
   rw [List.drop_eq_getElem_cons hlt] at hg
   unfold uH at hg
   have hel:=hsr.elem hck
   obtain ⟨bb,oo,hep,-⟩:=hel.out
   rw [hep] at hel
   have hkl:k < css.length:=by omega
   have hlk:=CY hs[k].org
   have hMk:WZ hs (some k) ((gL hs[k].org:Nat):Int):=.inr ⟨k,rfl,hlt,rfl⟩
   have hlb:(aP ((aV hs[k].org).getD [])).length=gL hs[k].org:=by simp [aP,gL]
   generalize hHk:hs[k]=H at *
   refine_lift GI ?_;intro _ _ _ _ _ _
   refine dS (S:=fun w'=>Ext wr w') (by decide +kernel) ?_
   intro w1 x1 _
   refine iF 0 ?_;refine aA ?_;refine iF 1 ?_;refine aA ?_;refine iF 2 ?_;refine aA ?_
   refine cO (i:=3) (v:=.pointer (some ⟨bb,oo,none⟩)) rfl rfl (by decide +kernel) (by decide +kernel) (by decide +kernel) rfl x1 (fun w' hF=>by rw [← hep];exact Runs.idxT rfl (hsr.ext hF) hkl (by decide +kernel)) (fun _ _ _ h=>h) ?_
   refine aA ?_
   refine iF 4 ?_;refine aA ?_;refine iF 5 ?_;refine aA ?_
   refine cA (i:=6) (by decide +kernel) rfl rfl ?_
   refine aD (enters_of Tryz.func52 rfl rfl) rfl rfl (mS n H.org _) ?_;intro w2 x2;refine aA ?_
   have x02:Ext wr w2:=x1.trans x2
   refine aJ ⟨x02,?_⟩
   cases hu:bQ n H.org with
   | false =>
    rw [if_neg (by rintro ⟨h,_⟩;rw [hu] at h;cases h)] at hg
    refine iF 7 ?_;refine aA ?_
    refine gS 8 ?_;refine aA ?_;refine gS 9 ?_;refine aA ?_;refine gS 10 ?_;refine aA ?_;refine gS 11 ?_;refine aA ?_;refine gS 12 ?_;refine aA ?_;refine gS 13 ?_;refine aA ?_;refine gS 14 ?_;refine aA ?_;refine gS 15 ?_;refine aA ?_;refine gS 16 ?_;refine aA ?_;refine gS 17 ?_;refine aA ?_;refine gS 18 ?_;refine aA ?_;refine gS 19 ?_;refine aA ?_;refine gS 20 ?_;refine aA ?_;refine gS 21 ?_;refine aA ?_;refine gS 22 ?_;refine aA ?_;refine gS 23 ?_;refine aA ?_;refine gS 24 ?_;refine aA ?_;refine gS 25 ?_;refine aA ?_;refine gS 26 ?_;refine aA ?_
    refine iF 27 ?_;refine aA ?_
    refine dK (by decide +kernel) ?_
    have hx2:=hx.trans x02
    refine_lift bG ?_
    exact ⟨⟨k + 1,b,most,by omega,by go_num,rfl,hM,hx2,hg⟩,by simp [intOf];omega⟩
   | true =>
    rcases hM with ⟨rfl,rfl⟩ | ⟨j,rfl,hj,rfl⟩
    ·rw [if_pos ⟨hu,by omega⟩] at hg
     refine iF 7 ?_;refine aA ?_;refine iF 8 ?_;refine aA ?_;refine iF 9 ?_;refine aA ?_
     rw [show decide (VQ none < 0)=true from rfl]
     refine iF 10 ?_;refine aA ?_
     refine gS 11 ?_;refine aA ?_;refine gS 12 ?_;refine aA ?_;refine gS 13 ?_;refine aA ?_;refine gS 14 ?_;refine aA ?_;refine gS 15 ?_;refine aA ?_;refine gS 16 ?_;refine aA ?_;refine gS 17 ?_;refine aA ?_;refine gS 18 ?_;refine aA ?_;refine gS 19 ?_;refine aA ?_;refine gS 20 ?_;refine aA ?_;refine gS 21 ?_;refine aA ?_;refine gS 22 ?_;refine aA ?_;refine gS 23 ?_;refine aA ?_;refine gS 24 ?_;refine aA ?_;refine gS 25 ?_;refine aA ?_
     refine iF 26 ?_;refine aA ?_;refine iF 27 ?_;refine aA ?_
     refine dK (by decide +kernel) ?_
     have hx2:=hx.trans x02
     refine_lift bG ?_
     exact ⟨⟨k + 1,some k,_,by omega,by go_num,rfl,hMk,hx2,hg⟩,by simp [intOf];omega⟩
    ·obtain ⟨y,hcj,hsy⟩:=hrow j _ (List.getElem?_eq_getElem hj)
     have hej:=hsr.elem hcj
     obtain ⟨cb,co,hep2,-⟩:=hej.out
     rw [hep2] at hej
     have hjl:j < css.length:=by omega
     have hlj:=CY hs[j].org
     have hlb2:(aP ((aV hs[j].org).getD [])).length=gL hs[j].org:=by simp [aP,gL]
     have hMj:WZ hs (some j) ((gL hs[j].org:Nat):Int):=.inr ⟨j,rfl,hj,rfl⟩
     generalize hHj:hs[j]=G at *
     refine iF 7 ?_;refine aA ?_;refine iF 8 ?_;refine aA ?_;refine iF 9 ?_;refine aA ?_
     rw [show decide (VQ (some j) < 0)=false by rw [decide_eq_false];show ¬ ((j:Nat):Int) < 0;omega]
     refine iF 10 ?_;refine aA ?_;refine iF 11 ?_;refine aA ?_;refine iF 12 ?_;refine aA ?_
     refine cO (i:=13) (v:=.pointer (some ⟨bb,oo,none⟩)) rfl rfl (by decide +kernel) (by decide +kernel) (by decide +kernel) rfl x02 (fun w' hF=>by rw [← hep];exact Runs.idxT rfl (hsr.ext hF) hkl (by decide +kernel)) (fun _ _ _ h=>h) ?_
     refine aA ?_
     refine iF 14 ?_;refine aA ?_;refine iF 15 ?_;refine aA ?_;refine iF 18 ?_;refine aA ?_;refine iF 19 ?_;refine aA ?_
     refine cO (i:=20) (v:=.pointer (some ⟨cb,co,none⟩)) rfl rfl (by decide +kernel) (by decide +kernel) (by decide +kernel) rfl x02 (fun w' hF=>by rw [← hep2];exact Runs.idxT rfl (hsr.ext hF) hjl (by decide +kernel)) (fun _ _ _ h=>h) ?_
     refine aA ?_
     refine iF 21 ?_;refine aA ?_;refine iF 22 ?_;refine aA ?_
     refine cA (i:=16) (by decide +kernel) rfl rfl ?_
     refine aK (enters_of Tryz.func53 rfl rfl) rfl rfl (mP H.org _) ?_
     intro v3 w3 x3 o3
     refine aA ?_
     have x03:Ext wr w3:=x02.trans x3
     have hs3:=o3.sl
     refine aJ ⟨x03,?_⟩
     refine cO (i:=17) (v:=.int .i64 ((gL H.org:Nat):Int)) rfl rfl (by decide +kernel) (by decide +kernel) (by decide +kernel) rfl x03 (fun w' hF=>by rw [← hlb];exact Runs.lenW hs3 (by decide +kernel)) (fun _ _ _ h=>h) ?_
     refine aA ?_
     refine cA (i:=23) (by decide +kernel) rfl rfl ?_
     refine aK (enters_of Tryz.func53 rfl rfl) rfl rfl (mP G.org _) ?_
     intro v4 w4 x4 o4
     refine aA ?_
     have x04:Ext wr w4:=x03.trans x4
     have hs4:=o4.sl
     refine aJ ⟨x04,?_⟩
     refine cO (i:=24) (v:=.int .i64 ((gL G.org:Nat):Int)) rfl rfl (by decide +kernel) (by decide +kernel) (by decide +kernel) rfl x04 (fun w' hF=>by rw [← hlb2];exact Runs.lenW hs4 (by decide +kernel)) (fun _ _ _ h=>h) ?_
     refine aA ?_
     refine iF 25 ?_;refine aA ?_;refine iF 26 ?_;refine aA ?_;refine iF 27 ?_;refine aA ?_
     refine dK (by decide +kernel) ?_
     have hx4:=hx.trans x04
     by_cases hc:((gL G.org:Nat):Int) < ((gL H.org:Nat):Int)
     ·rw [if_pos ⟨hu,hc⟩] at hg
      refine_lift nK fun _ => ?_
      all_goals first
       | (have hh:False:=by omega
          exact hh.elim)
       | skip
      exact ⟨⟨k + 1,some k,_,by omega,by go_num,rfl,hMk,hx4,hg⟩,by simp [intOf];omega⟩
     ·rw [if_neg (fun h=>hc h.2)] at hg
      refine_lift nK fun _ => ?_
      all_goals first
       | (have hh:False:=by omega
          exact hh.elim)
       | skip
      exact ⟨⟨k + 1,some j,_,by omega,by go_num,rfl,hMj,hx4,hg⟩,by simp [intOf];omega⟩
  ·have hk2:k=hs.length:=by omega
   subst hk2
   rw [List.drop_length] at hg
   unfold uH at hg
   refine_lift nK fun _ => ?_
   go_ret
   rw [← hg]
   exact ⟨rfl,hx⟩
theorem GA (o:List UInt8) (v:Value) (l:List RSet) (n:List UInt8) (w:World) (hv:SetsAt w v l):Calls Tryz.prog 82 #[.agg #[aI o,v],aI n] w (bM w (.bool (nQ o l n))):=by
 obtain ⟨cv,hv1,hvl⟩:=hv.sl
 have hle:=hv1.le
 go_enter Tryz.func82,Tryz.ntmps82
 refine_lift lF fun _ _ => ?_
 refine bJ (vs:=[aI o,v]) rfl rfl ?_
 intro p w1 x1 hp
 refine aA ?_
 refine_lift xI fun _ _ _ _ => ?_
 refine aD (enters_of Tryz.func52 rfl rfl) rfl rfl (mS n o _) ?_;intro w2 x2;refine aA ?_
 have hp2:=hp.ext x2
 have x02:=x1.trans x2
 cases hu:bQ n o with
 | false =>
  refine_lift bG ?_
  go_ret
  rw [nQ,hu]
  exact ⟨rfl,x02⟩
 | true =>
  have hT:nQ o l n=l.any fun s=>bQ s.name n:=by rw [nQ,hu];rfl
  refine_lift dJ fun _ _ => ?_
  go_loopw [5] (fun iv wr=>∃ k:Nat,k≤l.length∧iv=.int .i64 k∧Ext w2 wr∧((l.take k).any fun s=>bQ s.name n)=false) (fun iv _=>l.length - (intOf iv).toNat)
  case atStart=>exact ⟨0,Nat.zero_le _,rfl,Ext.refl _,rfl⟩
  case round =>
   obtain ⟨k,hk,rfl,hx,hno⟩:=hrel
   have hpx:=hp2.ext hx
   have hvx:=(hv1.ext x02).ext hx
   by_cases hlt:k < l.length
   ·obtain ⟨x,hel,hsx⟩:=((hv.ext x02).ext hx).elem (List.getElem?_eq_getElem hlt)
    refine_lift GI ?_;intro _ _ _ _ _ _
    refine aD (enters_of Tryz.func52 rfl rfl) rfl rfl (mS l[k].name n _) ?_;intro w3 x3;refine aA ?_
    have hx3:=hx.trans x3
    cases hk2:bQ l[k].name n with
    | true =>
     refine_lift bG ?_
     go_ret
     rw [hT,CG hlt hk2]
     exact ⟨rfl,x02.trans hx3⟩
    | false =>
     refine_lift bG ?_
     exact ⟨⟨k + 1,by omega,by go_num,hx3,iL hlt hno hk2⟩,by simp [intOf];omega⟩
   ·have:k=l.length:=by omega
    subst this
    rw [List.take_length] at hno
    refine_lift nK fun _ => ?_
    go_ret
    rw [hT,hno]
    exact ⟨rfl,x02.trans hx⟩
theorem TI (o:List UInt8) (v:Value) (l:List RSet) (n:List UInt8) (w:World) (hv:SetsAt w v l) (hb:∀ s ∈ l,s.data.length≤1000000) (hd:∀ s ∈ l,∀ d ∈ s.data,d.length≤4611686018427387904) (hz:bZ o l=0):Calls Tryz.prog 78 #[.agg #[aI o,v],aI n] w (bM w (.tuple #[aI (kI o l n).1, .bool (kI o l n).2])):=by
 go_enter Tryz.func78,Tryz.ntmps78
 refine_lift lF fun _ _ => ?_
 refine bJ (vs:=[aI o,v]) rfl rfl ?_
 intro p w1 x1 hp
 refine aA ?_
 refine_lift xI fun _ _ _ _ => ?_
 refine aD (enters_of Tryz.func74 rfl rfl) rfl rfl (yC o v l _ (hv.ext x1) hb hd) ?_;intro w2 x2;refine aA ?_
 rw [hz]
 have hp2:=hp.ext x2
 refine_lift dJ fun _ _ => ?_
 refine aD (enters_of Tryz.func137 rfl rfl) rfl rfl (CL o v l n _ (hv.ext (x1.trans x2))) ?_;intro w3 x3;refine aA ?_
 refine_lift bG ?_
 go_ret2
 exact ⟨rfl,(x1.trans x2).trans x3⟩
theorem KU {nm x:List UInt8} {t:List (List UInt8)} (w:World) (h:aV nm=some (x :: t)):Calls Tryz.prog 139 #[aI nm] w (bM w (.tuple #[aI (enc t), .int .i64 0])):=by
 have hf:=dG h
 have hj:jG t=some (enc t):=by
  unfold jG
  rw [if_pos]
  refine ⟨?_,?_⟩
  ·have:=hf.1
   simp only [List.all_cons,Bool.and_eq_true] at this
   exact this.2
  ·have h1:=hf.2.1
   have h2:=hf.2.2
   rw [← h1] at h2
   simp [enc] at h2 ⊢
   omega
 go_enter Tryz.func139,Tryz.ntmps139
 refine_lift dJ fun _ _ => ?_
 refine aK (enters_of Tryz.func85 rfl rfl) rfl rfl (mF nm _) ?_
 intro v w1 x1 hv
 rw [h] at hv
 obtain ⟨s,rfl,hs⟩:=hv
 have hsl:=hs.sl
 have hsl1:(aP (x :: t)).length=t.length + 1:=by simp [aP]
 refine aA ?_
 refine_lift vZ fun _ _ _ => ?_
 all_goals first
  | (have hh:False:=by omega
     exact hh.elim)
  | skip
 have hsc:Sl 1 w1 (dU s 1 1 (aP (x :: t)).length) (aP t):=by
  have:=hsl.cut (m:=1) (n:=(aP (x :: t)).length) (by omega) (Nat.le_refl _)
  rw [List.take_length] at this
  exact this
 refine aD (enters_of Tryz.func87 rfl rfl) rfl rfl (CD _ t _ hsc) ?_;intro w2 x2;refine aA ?_
 rw [hj]
 refine_lift bG ?_
 go_ret2
 exact ⟨rfl,x1.trans x2⟩
theorem nZ (k:Int) (d:List UInt8) (w:World) (hl:d.length≤4611686018427387904):Calls Tryz.prog 84 #[.int .i64 k,aI d] w (bM w (.tuple #[aI (aY k d).1, .int .i64 (aY k d).2])):=by
 go_enter Tryz.func84,Tryz.ntmps84
 refine_lift dJ fun _ _ => ?_
 refine aD (enters_of Tryz.func140 rfl rfl) rfl rfl (EH k _) ?_;intro w1 x1;refine aA ?_
 refine_lift TZ (fun _ _ _ _ _ hc => ?_) (fun _ _ _ hc => ?_) (fun _ => ?_)
 ·have hc:=‹dY k < 0›
  go_ret2
  refine ⟨?_,x1⟩
  rw [aY,if_pos hc]
  rfl
 ·have hc:¬ dY k < 0:=by have:=‹0≤dY k›;omega
  have hc2:¬ (d.length:Int) < dY k:=by assumption
  refine aD (enters_of Tryz.func141 rfl rfl) rfl rfl (tU (d.drop (dY k).toNat) _ (by simp;omega)) ?_;intro w2 x2;refine aA ?_
  cases hh:eX (d.drop (dY k).toNat) with
  | none =>
   simp only [Option.isSome_none]
   refine_lift bG ?_
   go_ret2
   refine ⟨?_,x1.trans x2⟩
   rw [aY,if_neg hc,if_neg hc2,hh]
   rfl
  | some n =>
   have hhs:=rP hh
   have hdl:=congrArg List.length hhs.1
   simp only [List.length_drop,List.length_append,List.length_cons,List.length_nil] at hdl
   simp only [Option.isSome_some]
   refine_lift bG ?_
   go_ret2
   refine ⟨?_,x1.trans x2⟩
   rw [aY,if_neg hc,if_neg hc2,hh]
   have e:List.drop (dY k).toNat (List.take ((d.length:Int) - 1).toNat d)=n:=by
    rw [List.drop_take,hhs.1]
    rw [show ((d.length:Int) - 1).toNat - (dY k).toNat=n.length by omega]
    simp
   show Ending.returned (Value.tuple #[aI (List.drop (dY k).toNat (List.take ((d.length:Int) - 1).toNat d)),_])=_
   rw [e]
   rfl
 ·have hc:¬ dY k < 0:=by have:=‹0≤dY k›;omega
  have hc2:=‹(d.length:Int) < dY k›
  go_ret2
  refine ⟨?_,x1⟩
  rw [aY,if_neg hc,if_pos hc2]
  rfl
set_option maxHeartbeats 2000000 in
theorem KV (o:List UInt8) (v:Value) (l:List RSet) (w:World) (hv:SetsAt w v l) (hz:ZoneOk o l):Calls Tryz.prog 76 #[.agg #[aI o,v]] w (bM w (.tuple #[mG (dV o l), .int .i64 0])):=by
 have hb:=mX hz
 have hd:=gD hz
 have hzr:=mT hz
 obtain ⟨s,hf,hs,hn,hk,hdat,hpar,hlen⟩:=hz.soaSet
 have hden:dV o l=⟨o,6,min s.ttl (eF o l).minimum,jJ o l⟩:=by rw [dV,hf];rfl
 go_enter Tryz.func76,Tryz.ntmps76
 refine_lift lF fun _ _ => ?_
 refine bJ (vs:=[aI o,v]) rfl rfl ?_
 intro p w1 x1 hp
 refine aA ?_
 refine aL (z:=KD) rfl (by decide +kernel) ?_
 intro w2 x2 s2 h2
 refine aA ?_
 have hx2:=x1.trans x2
 have hp2:=hp.ext x2
 have hv2:=hv.ext hx2
 refine_lift dJ fun _ _ => ?_
 refine aD (enters_of Tryz.func135 rfl rfl) rfl rfl (SD o v l _ hv2 hb hd) ?_;intro w3 x3;refine aA ?_
 have h3:=x3.at h2
 have hp3:=hp2.ext x3
 have hv3:=hv2.ext x3
 rw [hzr]
 refine_lift bG ?_
 refine aL (z:=bK) rfl (by decide +kernel) ?_
 intro w4 x4 s4 h4
 refine aA ?_
 refine aG (v:=.agg (eF o l).cells.toArray) rfl rfl rfl h4 (show aR Tryz.prog 160 7=true by decide +kernel) rfl (pL _) ?_
 intro w5 p5
 have x5:Ext w3 w5:=x4.move p5.mv (by rintro k ⟨⟩;exact Nat.le_refl _)
 have h5:=x5.at h3
 have hs5:=aE (cs:=(eF o l).cells) p5.this
 have hp5:=hp3.ext x5
 have hv5:=hv3.ext x5
 have hx5:=hx2.trans (x3.trans x5)
 clear p5 h4 x4
 refine_lift dJ fun _ _ => ?_
 refine aK (enters_of Tryz.func79 rfl rfl) rfl rfl (nR v l o 6 _ hv5 hb) ?_
 intro r6 w6 x6 hr6
 rw [hf] at hr6
 obtain ⟨y,rfl,oy⟩:=hr6
 have h6:=x6.at h5
 have hs6:=hs5.ext x6
 refine_lift bG ?_
 refine aL (z:=fX) rfl (by decide +kernel) ?_
 intro w7 x7 s7 h7
 refine aA ?_
 refine aG (v:=.agg #[aI s.name, .int .i64 s.kind, .int .i64 s.ttl,y]) rfl rfl rfl h7 (show aR Tryz.prog 131 4=true by decide +kernel) rfl (eR rfl rfl rfl oy.one) ?_
 intro w8 p8
 have x8:Ext w6 w8:=x7.move p8.mv (by rintro k ⟨⟩;exact Nat.le_refl _)
 have b8:w8.heap[w6.heap.size]? = some (.cells [aI s.name, .int .i64 s.kind, .int .i64 s.ttl,y].toArray 131 (0,0)):=p8.this
 have hp8:=aE b8
 have h8:=x8.at h6
 have hs8:=hs6.ext x8
 have hy8:=oy.sl.ext x8
 have hx8:=hx5.trans (x6.trans x8)
 have hpz:=(hp5.ext x6).ext x8
 clear p8 h7 x7 hp hp2 hp3 hp5 hs5 hs6
 rw [hdat] at hy8
 have hyl:(aP [jJ o l]).length=1:=rfl
 have hye:=hy8.elem (i:=0) (e:=[aI (jJ o l)]) rfl
 have hsm:∀ b,Pts w8 b (eF o l).cells→Pts w8 b [aI (eF o l).main,aI (eF o l).mail, .int .i64 (eF o l).serial, .int .i64 (eF o l).refresh, .int .i64 (eF o l).retry, .int .i64 (eF o l).expire, .int .i64 (eF o l).minimum]:=fun b h=>h
 have hs8:=hsm _ hs8
 clear hsm
 refine_lift dJ fun _ _ => ?_
 refine bV 12 (Ext w8) (by decide +kernel) ?_
 intro w9 x9 _
 refine ⟨x9,?_⟩
 refine cV 0 ?_;refine cV 1 ?_;refine cV 2 ?_;refine cV 3 ?_;refine cV 4 ?_;refine cV 5 ?_;refine cV 6 ?_;refine cV 7 ?_;refine cV 8 ?_;refine cV 9 ?_;refine cV 10 ?_
 refine TR 11 (v:=mG (dV o l)) rfl (fun _=>Runs.build rfl (by rw [hden];kernel_rfl)) ?_
 refine aA ?_
 refine bE (i:=12) (by decide +kernel) rfl rfl ?_
 have h9:=x9.at h8
 refine aG (v:=mG (dV o l)) rfl rfl rfl h9 (show aR Tryz.prog 106 4=true by decide +kernel) rfl (eR rfl rfl rfl rfl) ?_
 intro w10 p10
 have x10:Ext w w10:=(hx8.trans x9).move p10.mv (by rintro k ⟨⟩;exact x1.size)
 refine aJ ⟨bT rfl,?_⟩
 refine zL 13 ?_
 refine cN (by decide +kernel) ?_
 refine_lift bG ?_
 refine bodyPost_ret (aU (cs:=[aI (dV o l).name, .int .i64 (dV o l).kind, .int .i64 (dV o l).ttl,aI (dV o l).data]) rfl rfl p10.this (show cP Tryz.prog 106 4=true by decide +kernel)) rfl ⟨rfl,x10⟩
set_option maxHeartbeats 2000000 in
theorem RF (o:List UInt8) (v:Value) (l:List RSet) (n a:List UInt8) (w:World) (hv:SetsAt w v l) (hl:l.length≤100000) (hb:∀ s ∈ l,s.data.length≤1000000) :
 Calls Tryz.prog 81 #[.agg #[aI o,v],aI n,aI a] w (oA w fun r w'=>SetsV w.heap.size w' r (BJ l n a)):=by
 obtain ⟨cv,hv1,hvl⟩:=hv.sl
 go_enter Tryz.func81,Tryz.ntmps81
 refine_lift zN ?_;intro _ _ _
 refine eK (vs:=[aI o,v]) rfl rfl ?_
 intro w1 x1 s1 hb1
 refine aA ?_
 have hp:=aE (cs:=[aI o,v]) hb1
 refine_lift dJ fun _ _ => ?_
 go_loopw [7,8,9] (fun r iv _ wr=>∃ (k:Nat) (css:List (List Value)),k≤l.length∧iv=.int .i64 k∧Ext w wr∧wr.heap[w.heap.size]? = some (.cells [aI o,v].toArray 50 (0,0))∧Own w.heap.size 4 131 wr r css∧SetsW w.heap.size wr css (BJ (l.take k) n a)) (fun _ iv _ _=>l.length - (intOf iv).toNat)
 case atStart=>exact ⟨0,[],Nat.zero_le _,rfl,x1,hb1,Own.nil _ _ _ _,SetsW.nil _ _⟩
 case round =>
  obtain ⟨k,css,hk,rfl,hxr,hbr,ho,hc⟩:=hrel
  have hvr:=hv1.ext hxr
  have hpr:=aE (cs:=[aI o,v]) hbr
  by_cases hlt:k < l.length
  ·obtain ⟨x,h4,h4d⟩:=(hv.ext hxr).elem (List.getElem?_eq_getElem hlt)
   have hst:=IM (n:=n) (a:=a) hlt
   have hcl:=hc.len
   have hal:=HK (l.take k) n a
   rw [List.length_take] at hal
   have hbk:=hb _ (List.getElem_mem hlt)
   by_cases hm:l[k].name=n
   ·rw [if_pos hm] at hst
    refine_lift XJ ?_;intro _ _ _ _ _ _ _
    all_goals first
     | (exact absurd hm (by assumption))
     | skip
    refine aK (enters_of Tryz.func138 rfl rfl) rfl rfl (II l[k] x _ h4d hbk) ?_
    rintro _ w2 x2 ⟨y,rfl,oy⟩
    refine aA ?_
    refine aL (z:=fX) rfl (by decide +kernel) ?_
    intro w3 x3 s3 h3
    refine aA ?_
    refine aG (v:=.agg #[aI l[k].name, .int .i64 l[k].kind, .int .i64 l[k].ttl,y]) rfl rfl rfl h3 (show aR Tryz.prog 131 4=true by decide +kernel) rfl (eR rfl rfl rfl oy.one) ?_
    intro w4 p4
    have b4:w4.heap[w2.heap.size]? = some (.cells [aI l[k].name, .int .i64 l[k].kind, .int .i64 l[k].ttl,y].toArray 131 (0,0)):=p4.this
    have x24:Ext w2 w4:=x3.move p4.mv (by rintro k ⟨⟩;exact Nat.le_refl _)
    refine_lift dJ fun _ _ => ?_
    refine aM (n:=0) (v:=aI a) b4 rfl rfl rfl (by simp) (by decide +kernel) rfl ?_
    intro w5 p5
    have x25:Ext w2 w5:=x24.move p5.mv (by rintro k ⟨⟩;exact Nat.le_refl _)
    have hpb:Pts w5 (.pointer (some ⟨w2.heap.size,0,none⟩)) [aI a, .int .i64 l[k].kind, .int .i64 l[k].ttl,y]:=aE p5.this
    have xr5:=x2.trans x25
    have oy5:=oy.ext x25
    have ho5:=ho.ext xr5
    have hc5:=hc.ext xr5
    clear p4 p5 b4 h3 x3 x24
    refine_lift bG ?_
    refine bN (e:=131) (k:=4) (bytes:=56) (xs:=[.agg #[aI a, .int .i64 l[k].kind, .int .i64 l[k].ttl,y]]) rfl rfl rfl (by simp [Value.cells]) (by decide +kernel) (by simp) ?_
    intro v6 w6 x6 _ sl6 _
    refine aA ?_
    have oy6:=oy5.ext x6
    refine bU (e:=131) (k:=4) (fs:=[[aI a, .int .i64 l[k].kind, .int .i64 l[k].ttl,y]]) rfl (ho5.ext x6) rfl sl6 (by intro f hf u hu;simp only [List.mem_singleton] at hf;subst hf;simp only [List.mem_cons,List.not_mem_nil,or_false] at hu;rcases hu with rfl | rfl | rfl | rfl <;> first | rfl | exact oy6.one) (hxr.trans (xr5.trans x6)).size (by simp;omega) ?_
    intro v7 w7 o7 m7 _
    refine aA ?_
    have hx7:=(ho5.ext x6).mvx m7 (hxr.trans (xr5.trans x6)) (Nat.le_refl _)
    refine_lift bG ?_
    have hb7:=m7.at ((xr5.trans x6).at hbr) (fun e9=>((ho5.ext x6).neBlock ((xr5.trans x6).at hbr) (by decide)) e9.symm)
    have hc7:=(hc5.ext x6).mv (ho5.ext x6) (by decide) m7
    have oy7:Own w.heap.size 1 9 w7 y (aP l[k].data):=(oy6.mv m7 (oy6.ne (ho5.ext x6) (by decide))).weaken hxr.size
    exact ⟨⟨k + 1,_,by omega,by go_num,hx7,hb7,o7,by rw [hst];exact hc7.append (SetsW.one (s:=⟨a,l[k].kind,l[k].ttl,l[k].data⟩) oy7)⟩,by simp [intOf];omega⟩
   ·rw [if_neg hm,List.append_nil] at hst
    refine_lift dJ fun _ _ => ?_
    all_goals first
     | (exact absurd (by assumption) hm)
     | skip
    exact ⟨⟨k + 1,css,by omega,by go_num,hxr,hbr,ho,by rw [hst];exact hc⟩,by simp [intOf];omega⟩
  ·have:k=l.length:=by omega
   subst this
   rw [List.take_length] at hc
   refine_lift nK fun _ => ?_
   go_ret
   exact ⟨_,rfl,hxr,_,ho,hc⟩
theorem GB {l:List RSet} {a b:List UInt8} (h:dB a=dB b):nV l a=nV l b:=by
 unfold nV bQ
 rw [h]
theorem HX {x o:List UInt8} {t:List (List UInt8)} (hf:aV (enc (x :: t))=some (x :: t)) (ht:aV (enc t)=some t) (h:bQ (enc (x :: t)) o=true) (hne:dB o≠dB (enc (x :: t))):bQ (enc t) o=true:=by
 obtain ⟨a,b,ha,hb,e⟩:=gM h
 have h1:dB (enc (x :: t))=some (kH (x :: t)):=by rw [fN,hf];rfl
 have h2:dB (enc t)=some (kH t):=by rw [fN,ht];rfl
 rw [h1] at ha
 obtain rfl:=Option.some.inj ha
 have hr:kH (x :: t)=kH t ++ [low x]:=by simp [kH]
 rw [kQ h2 hb,decide_eq_true_eq]
 have hl:=pJ e
 have hne2:b≠kH (x :: t):=fun e2=>hne (by rw [hb,h1,e2])
 by_cases hc:b.length≤(kH t).length
 ·rw [hr,List.take_append_of_le_length hc] at e
  exact e
 ·exfalso
  apply hne2
  have h3:(kH (x :: t)).length=(kH t).length + 1:=by rw [hr];simp
  rw [← e]
  exact List.take_of_length_le (by omega)
theorem zG {o:List UInt8} {l:List RSet} {n:List UInt8} (h:bQ n o=true):nQ o l n=nV l n:=by
 unfold nQ nV
 rw [h,Bool.true_and]
set_option maxHeartbeats 2000000 in
theorem QE (o:List UInt8) (v:Value) (l:List RSet) (n:List UInt8) (w:World) (hv:SetsAt w v l) (hz:ZoneOk o l) (hu:bQ n o=true) :
 Calls Tryz.prog 83 #[.agg #[aI o,v],aI n] w (bM w (aI (oI l n))):=by
 obtain ⟨hn,-⟩:=kK hu
 obtain ⟨ls0,hls0⟩:=Option.isSome_iff_exists.1 hn
 obtain ⟨f1,f2,f3⟩:=dG hls0
 have hoi:nV l o=true:=by rw [← zG (nS (kK hu).2)];exact hz.origin
 go_enter Tryz.func83,Tryz.ntmps83
 refine_lift lF fun _ _ => ?_
 refine bJ (vs:=[aI o,v]) rfl rfl ?_
 intro p w1 x1 hp
 refine aA ?_
 refine_lift dJ fun _ _ => ?_
 go_loopw [1] (fun nv wr=>∃ ls:List (List UInt8),nv=aI (enc ls)∧Ext w1 wr∧ls.all iI=true∧(enc ls).length≤254∧iX l ls=iX l ls0∧bQ (enc ls) o=true) (fun nv _=>rB nv)
 case atStart=>exact ⟨ls0,by rw [f2],Ext.refl _,f1,by rw [f2];exact f3,rfl,by rw [f2];exact hu⟩
 case round =>
  obtain ⟨ls,rfl,hx,g1,g2,g3,g4⟩:=hrel
  have hpr:=hp.ext hx
  have hxr:=x1.trans hx
  refine_lift LQ ?_;intro _ _ _ _ _
  refine aD (enters_of Tryz.func82 rfl rfl) rfl rfl (GA o v l (enc ls) _ (hv.ext hxr)) ?_;intro w4 x4;refine aA ?_
  rw [zG g4]
  have hx4:=hx.trans x4
  cases hi4:nV l (enc ls) with
  | false =>
   cases ls with
   | nil=>rw [show enc []=[] from rfl,BL hz] at hi4;cases hi4
   | cons x t =>
    have g1t:t.all iI=true:=by simp at g1;simp;exact g1.2
    have ht:=FH x t
    have lt:=iC g1t (by omega)
    have gu:=HX (iC g1 g2) lt g4 (fun e9=>by rw [← GB e9,hoi] at hi4;cases hi4)
    refine_lift bG ?_
    refine aD (enters_of Tryz.func139 rfl rfl) rfl rfl (KU _ (iC g1 g2)) ?_;intro w5 x5;refine aA ?_
    refine_lift bG ?_
    exact ⟨⟨t,rfl,hx4.trans x5,g1t,by omega,by rw [← g3,FG hi4],gu⟩,by simp [kW];omega⟩
  | true =>
   have hab:iX l ls=ls:=yN hi4
   rw [hab] at g3
   refine_lift dJ fun _ _ => ?_
   refine bN (e:=9) (k:=1) (bytes:=16) (xs:=[aI [42]]) rfl rfl rfl (by simp [aI,Value.cells]) (by decide +kernel) (by simp) ?_
   intro v5 w5 x5 _ sl5 o5
   refine aA ?_
   refine_lift bG ?_
   refine aK (enters_of Tryz.func53 rfl rfl) rfl rfl (mP (enc ls) _) ?_
   intro v6 w6 x6 o6
   rw [iC g1 g2] at o6
   refine aA ?_
   have o5':=(show Own _ 1 9 w5 v5 (aP [[42]]) from o5).ext x6
   have hlen:ls.length≤254:=by have:=fH ls;omega
   refine bU (e:=9) (k:=1) rfl o5' rfl o6.sl pS (Nat.le_trans x5.size x6.size) (by simp [aP];omega) ?_
   intro v7 w7 o7 m7 _
   refine aA ?_
   have x7:=o5'.mvx m7 (x5.trans x6) (Nat.le_refl _)
   have hst:oI l n=(jG ([42] :: ls)).getD []:=by rw [oI,hls0,Option.getD_some,← g3]
   have hx7:=x1.trans (hx4.trans x7)
   refine_lift bG ?_
   obtain ⟨e8,c8⟩:∃ e:Int,Calls Tryz.prog 87 #[v7] w7 (bM w7 (.tuple #[aI (oI l n), .int .i64 e])):=by
    have h:=CD v7 ([42] :: ls) w7 o7.sl
    rw [hst]
    cases hj:jG ([42] :: ls) with
    | none=>rw [hj] at h;exact ⟨1,h⟩
    | some m=>rw [hj] at h;exact ⟨0,h⟩
   refine aD (enters_of Tryz.func87 rfl rfl) rfl rfl (c8) ?_;intro w8 x8;refine aA ?_
   refine_lift bG ?_
   go_ret
   exact ⟨rfl,hx7.trans x8⟩
theorem vM {l:List RSet} (rs:List Rec):∀ k,k≤rs.length→(eP l (rs.take k)).1.length≤k
 | 0,_=>by simp [eP]
 | k + 1,h=>by
   rw [nW h]
   have ih:=vM (l:=l) rs k (by omega)
   unfold gN
   split
   ·omega
   ·simp
    omega
theorem uK {w:World} {s:RSet} {y v:Value} (h:Sl 1 w y (aP s.data)) (hv:Sl 4 w v [[aI s.name, .int .i64 s.kind, .int .i64 s.ttl,y]]):SetsAt w v [s]:=(SetsC.one h).sets hv
set_option maxHeartbeats 8000000 in
theorem GD (o:List UInt8) (v u:Value) (l:List RSet) (rs:List Rec) (w:World) (hv:SetsAt w v l) (hu:Sl 4 w u (aO rs)) (hz:ZoneOk o l) (hr:rs.length≤10000) (hd:∀ r ∈ rs,r.data.length≤4611686018427387904) (hh:∀ r ∈ rs,oJ r.kind=true→(aY r.kind r.data).2=0) :
 Calls Tryz.prog 136 #[.agg #[aI o,v],u] w (oA w fun r w'=>Own w.heap.size 4 106 w' r (aO (tY l rs))):=by
 have hb20:∀ s ∈ l,s.data.length≤20:=fun s hs=>(lM (hz.may hs)).2
 have hbd:=mX hz
 have hle:=aQ rs
 go_enter Tryz.func136,Tryz.ntmps136
 refine_lift zN ?_;intro _ _ _
 refine eK (vs:=[aI o,v]) rfl rfl ?_
 intro w1 x1 s1 hb1
 refine aA ?_
 refine_lift dJ fun _ _ => ?_
 go_loopw [5,6,7,8,9,10,11,12,13,14,15] (fun out nm iv _ _ _ _ _ _ _ _ wr=>∃ k:Nat,k≤rs.length∧iv=.int .i64 k∧Ext w wr∧wr.heap[w.heap.size]? = some (.cells [aI o,v].toArray 50 (0,0))∧Own w.heap.size 1 47 wr nm (aP (eP l (rs.take k)).1)∧Own w.heap.size 4 106 wr out (aO (eP l (rs.take k)).2)) (fun _ _ iv _ _ _ _ _ _ _ _ _=>rs.length - (intOf iv).toNat)
 case atStart=>exact ⟨0,Nat.zero_le _,rfl,x1,hb1,Own.nil _ _ _ _,Own.nil _ _ _ _⟩
 case round =>
  obtain ⟨k,hk,rfl,hx,hbx,hN,hO⟩:=hrel
  have hur:=hu.ext hx
  by_cases hlt:k < rs.length
  ·have h4:=hur.elem (gJ hlt)
   have hst:=nW (l:=l) hlt
   have hdk:=hd _ (List.getElem_mem hlt)
   have hhk:=hh _ (List.getElem_mem hlt)
   have hnl:=vM (l:=l) rs k (by omega)
   have hrl:=tZ hb20 rs k (by omega)
   generalize rs[k]=r at *
   generalize eP l (rs.take k)=E at *
   generalize hEe:eP l (rs.take (k + 1))=E' at *
   cases hK:oJ r.kind with
   | false =>
    have hE:E'=E:=by rw [hst];unfold gN;rw [if_pos (.inr (.inl hK))]
    have k1:¬ r.kind=2∧¬ r.kind=15∧¬ r.kind=33:=by
     simp only [oJ,Bool.or_eq_false_iff,decide_eq_false_iff_not] at hK
     exact ⟨hK.1.1,hK.1.2,hK.2⟩
    obtain ⟨k1,k2,k3⟩:=k1
    (repeat' first | ((with_reducible refine cY ?_);go_step) | ((with_reducible refine cJ ?_);first | refine iZ ?_ | (refine dD ?_ ?_ <;> intro hc)) | fail)
    all_goals first
     | exact ⟨⟨k + 1,by omega,by go_num,hx,hbx,by rw [hEe,hE];exact hN,by rw [hEe,hE];exact hO⟩,by simp [intOf];omega⟩
     | (have hh:False:=by omega
        exact hh.elim)
     | (have hh:False:=by (have h9:=‹(!decide (r.kind=2))=false›;rw [decide_eq_false k1] at h9;cases h9)
        exact hh.elim)
     | (have hh:False:=by (have h9:=‹(!decide (r.kind=15))=false›;rw [decide_eq_false k2] at h9;cases h9)
        exact hh.elim)
     | (have hh:False:=by (have h9:=‹(!decide (r.kind=33))=false›;rw [decide_eq_false k3] at h9;cases h9)
        exact hh.elim)
   | true =>
    have hP:=hhk hK
    have hE:E'=if fold (aY r.kind r.data).1 ∈ E.1 then E else (E.1 ++ [fold (aY r.kind r.data).1],E.2 ++ eO (bB l (fold (aY r.kind r.data).1) 1) ++ eO (bB l (fold (aY r.kind r.data).1) 28)):=by
     rw [hst]
     unfold gN
     by_cases hm:fold (aY r.kind r.data).1 ∈ E.1
     ·rw [if_pos (.inr (.inr hm)),if_pos hm]
     ·rw [if_neg (by rintro (h | h | h);exact h hP;rw [hK] at h;cases h;exact hm h),if_neg hm]
    have hck:=fun w'=>nZ r.kind r.data w' hdk
    have hk3:r.kind=2∨r.kind=15∨r.kind=33:=by simpa [oJ,or_assoc] using hK
    generalize aY r.kind r.data=PH at *
    obtain ⟨N,hNe⟩:∃ N,fold PH.1=N:=⟨_,rfl⟩
    rw [hNe] at hE
    rcases hk3 with hk3 | hk3 | hk3
    all_goals (
     (repeat' first | ((with_reducible refine cY ?_);go_step) | ((with_reducible refine cJ ?_);first | refine iZ ?_ | (refine dD ?_ ?_ <;> intro hc)) | fail)
     all_goals first
      | (have hh:False:=by omega
         exact hh.elim)
      | (have hh:False:=by (have h9:=‹(!decide (r.kind=2))=true›;rw [decide_eq_true hk3] at h9;cases h9)
         exact hh.elim)
      | (have hh:False:=by (have h9:=‹(!decide (r.kind=15))=true›;rw [decide_eq_true hk3] at h9;cases h9)
         exact hh.elim)
      | (have hh:False:=by (have h9:=‹(!decide (r.kind=33))=true›;rw [decide_eq_true hk3] at h9;cases h9)
         exact hh.elim)
      | (have hh:False:=by (have h9:=‹(!decide (r.kind=2))=false›;rw [decide_eq_false (by omega)] at h9;cases h9)
         exact hh.elim)
      | (have hh:False:=by (have h9:=‹(!decide (r.kind=15))=false›;rw [decide_eq_false (by omega)] at h9;cases h9)
         exact hh.elim)
      | skip
     refine cB (by decide +kernel) (by decide +kernel) ?_
     refine_lift qR ?_
     refine dX (enters_of Tryz.func84 rfl rfl) rfl rfl (fun w' x'=>hck w') ?_
     refine aA ?_
     refine_lift qR ?_
     intro w2 x2
     have hx2:=hx.trans x2
     have hb2:=x2.at hbx
     have hN2:=hN.ext x2
     have hO2:=hO.ext x2
     refine_lift dJ fun _ _ => ?_
     refine aD (enters_of Tryz.func36 rfl rfl) rfl rfl (kG PH.1 _) ?_;intro w3 x3;refine aA ?_
     rw [hNe]
     have hx3:=hx2.trans x3
     have hb3:=x3.at hb2
     have hN3:=hN2.ext x3
     have hO3:=hO2.ext x3
     have hNs:=hN3.sl
     have htl:=bA E.1
     refine_lift dJ fun _ _ => ?_
     go_loopw [10,11] (fun sv jv wr=>∃ j:Nat,j≤E.1.length∧jv=.int .i64 j∧sv=.bool (decide (N ∈ E.1.take j))∧Ext w3 wr) (fun _ jv _=>E.1.length - (intOf jv).toNat)
     case atStart=>exact ⟨0,Nat.zero_le _,rfl,by simp,Ext.refl _⟩
     case round =>
      obtain ⟨j,hj,rfl,rfl,hy⟩:=hrel
      have hNy:=hNs.ext hy
      by_cases hjl:j < E.1.length
      ·have h5:=hNy.elem (i:=j) (e:=[aI E.1[j]]) (by rw [aP,List.getElem?_map,List.getElem?_eq_getElem hjl];rfl)
       have hT:(N ∈ E.1.take (j + 1))↔(N ∈ E.1.take j∨E.1[j]=N):=by
        rw [List.take_succ_eq_append_getElem hjl,List.mem_append,List.mem_singleton]
        exact ⟨fun h=>h.imp_right Eq.symm,fun h=>h.imp_right Eq.symm⟩
       by_cases hm:N ∈ E.1.take j
       ·rw [decide_eq_true hm]
        refine_lift nK fun _ => ?_
        exact ⟨⟨j + 1,by omega,by go_num,by rw [decide_eq_true (hT.2 (.inl hm))],hy⟩,by simp [intOf];omega⟩
       ·rw [decide_eq_false hm]
        refine_lift nK fun _ => ?_
        refine ⟨⟨j + 1,by omega,by go_num,?_,hy⟩,by simp [intOf];omega⟩
        congr 1
        exact decide_eq_decide.2 ⟨fun h=>hT.2 (.inr h),fun h=>(hT.1 h).resolve_left hm⟩
      ·have hjE:j=E.1.length:=by omega
       subst hjE
       rw [List.take_length]
       have hN4:=hN3.ext hy
       have hO4:=hO3.ext hy
       have hb4:=hy.at hb3
       have hx4:=hx3.trans hy
       by_cases hm:N ∈ E.1
       ·rw [if_pos hm] at hE
        rw [decide_eq_true hm]
        refine_lift vZ fun _ _ _ => ?_
        exact ⟨⟨k + 1,by omega,by go_num,hx4,hb4,by rw [hEe,hE];exact hN4,by rw [hEe,hE];exact hO4⟩,by simp [intOf];omega⟩
       ·rw [if_neg hm] at hE
        rw [decide_eq_false hm]
        refine_lift vZ fun _ _ _ => ?_
        refine bN (e:=47) (k:=1) (bytes:=16) (xs:=[aI N]) rfl rfl rfl (by simp [aI,Value.cells]) (by decide +kernel) (by simp) ?_
        intro v5 w5 x5 _ sl5 _
        refine aA ?_
        have sl5:Sl 1 w5 v5 (aP [N]):=sl5
        have hN5:=hN4.ext x5
        have hx5:=hx4.trans x5
        refine bU (e:=47) (k:=1) rfl hN5 rfl sl5 pS hx5.size (by simp [aP];omega) ?_
        intro v6 w6 o6 m6 _
        refine aA ?_
        have hx6:=hN5.mvx m6 hx5 (Nat.le_refl _)
        have hb6:=m6.at (x5.at hb4) (fun e9=>(hN5.neBlock (x5.at hb4) (by decide)) e9.symm)
        have hO6:=(hO4.ext x5).mv m6 ((hO4.ext x5).ne hN5 (by decide))
        have o6:Own w.heap.size 1 47 w6 v6 (aP (E.1 ++ [N])):=by rw [show aP (E.1 ++ [N])=aP E.1 ++ aP [N] by simp [aP]];exact o6
        have tz6:=aE (cs:=[aI o,v]) hb6
        refine_lift dJ fun _ _ => ?_
        refine aK (enters_of Tryz.func79 rfl rfl) rfl rfl (nR v l N 1 _ (hv.ext hx6) hbd) ?_
        intro rz20 w20 x20 hr20
        obtain ⟨y20,rfl,hy20⟩:=lL hr20
        clear hr20
        refine aA ?_
        refine_lift bG ?_
        refine aL (z:=fX) rfl (by decide +kernel) ?_
        intro w21 x21 s21 h21
        refine aA ?_
        refine aG (v:=.agg #[aI ((bB l N 1).getD bW).name, .int .i64 ((bB l N 1).getD bW).kind, .int .i64 ((bB l N 1).getD bW).ttl,y20]) rfl rfl rfl h21 (show aR Tryz.prog 131 4=true by decide +kernel) rfl (eR rfl rfl rfl hy20.one) ?_
        intro w22 p22
        have z20:Ext w20 w22:=x21.move p22.mv (by rintro k ⟨⟩;exact Nat.le_refl _)
        have qz20:=aE (cs:=[aI ((bB l N 1).getD bW).name, .int .i64 ((bB l N 1).getD bW).kind, .int .i64 ((bB l N 1).getD bW).ttl,y20]) p22.this
        have uz20:=hy20.ext z20
        have ez20:=x20.trans z20
        have hx22:=hx6.trans ez20
        have hb22:=ez20.at hb6
        have hN22:=o6.ext ez20
        have hO22:=hO6.ext ez20
        have tz20:=aE (cs:=[aI o,v]) hb22
        have rl20:=fI hb20 N 1
        clear p22 h21 x21
        cases hf20:(bB l N 1).isSome with
        | false =>
         have nz20:eO (bB l N 1)=[]:=by
          cases hff:(bB l N 1) with
          | none=>rfl
          | some s=>rw [hff] at hf20;cases hf20
         refine_lift vZ fun _ _ _ => ?_
         refine aK (enters_of Tryz.func79 rfl rfl) rfl rfl (nR v l N 28 _ (hv.ext hx22) hbd) ?_
         intro rz40 w40 x40 hr40
         obtain ⟨y40,rfl,hy40⟩:=lL hr40
         clear hr40
         refine aA ?_
         refine_lift bG ?_
         refine aL (z:=fX) rfl (by decide +kernel) ?_
         intro w41 x41 s41 h41
         refine aA ?_
         refine aG (v:=.agg #[aI ((bB l N 28).getD bW).name, .int .i64 ((bB l N 28).getD bW).kind, .int .i64 ((bB l N 28).getD bW).ttl,y40]) rfl rfl rfl h41 (show aR Tryz.prog 131 4=true by decide +kernel) rfl (eR rfl rfl rfl hy40.one) ?_
         intro w42 p42
         have z40:Ext w40 w42:=x41.move p42.mv (by rintro k ⟨⟩;exact Nat.le_refl _)
         have qz40:=aE (cs:=[aI ((bB l N 28).getD bW).name, .int .i64 ((bB l N 28).getD bW).kind, .int .i64 ((bB l N 28).getD bW).ttl,y40]) p42.this
         have uz40:=hy40.ext z40
         have ez40:=x40.trans z40
         have hx42:=hx22.trans ez40
         have hb42:=ez40.at hb22
         have hN42:=hN22.ext ez40
         have hO42:=hO22.ext ez40
         have tz40:=aE (cs:=[aI o,v]) hb42
         have rl40:=fI hb20 N 28
         clear p42 h41 x41
         cases hf40:(bB l N 28).isSome with
         | false =>
          have nz40:eO (bB l N 28)=[]:=by
           cases hff:(bB l N 28) with
           | none=>rfl
           | some s=>rw [hff] at hf40;cases hf40
          refine_lift nK fun _ => ?_
          exact ⟨⟨k + 1,by omega,by go_num,hx42,hb42,by rw [hEe,hE];exact hN42,by rw [hEe,hE];simp only [nz20,nz40,List.append_nil];exact hO42⟩,by simp [intOf];omega⟩
         | true =>
          refine_lift nK fun _ => ?_
          refine bN (e:=131) (k:=4) (bytes:=56) (xs:=[.agg #[aI ((bB l N 28).getD bW).name, .int .i64 ((bB l N 28).getD bW).kind, .int .i64 ((bB l N 28).getD bW).ttl,y40]]) rfl rfl rfl (by simp [Value.cells]) (by decide +kernel) (by simp) ?_
          intro v43 w43 x43 _ sl43 _
          refine aA ?_
          have dz43:SetsAt w43 v43 [(bB l N 28).getD bW]:=uK (uz40.ext x43) sl43
          refine_lift bG ?_
          refine aK (enters_of Tryz.func80 rfl rfl) rfl rfl (fK v43 _ _ dz43 (by rw [← eI];omega)) ?_
          intro rz44 w44 x44 o44
          rw [← eI] at o44
          refine aA ?_
          have z44:=x43.trans x44
          have hO44:=hO42.ext z44
          have hx44:=hx42.trans z44
          refine bU (e:=106) (k:=4) rfl hO44 rfl o44.sl eA hx44.size (by rw [aQ,aQ];(try rw [List.length_append]);omega) ?_
          intro v45 w45 o45 m45 _
          refine aA ?_
          have hx45:=hO44.mvx m45 hx44 (Nat.le_refl _)
          have hb45:=m45.at (z44.at hb42) (fun e9=>(hO44.neBlock (z44.at hb42) (by decide)) e9.symm)
          have hN45:=(hN42.ext z44).mv m45 ((hN42.ext z44).ne hO44 (by decide))
          have tz45:=aE (cs:=[aI o,v]) hb45
          rw [← rU] at o45
          clear tz40 qz40
          refine_lift bG ?_
          exact ⟨⟨k + 1,by omega,by go_num,hx45,hb45,by rw [hEe,hE];exact hN45,by rw [hEe,hE];simp only [nz20,List.append_nil];exact o45⟩,by simp [intOf];omega⟩
        | true =>
         refine_lift vZ fun _ _ _ => ?_
         refine bN (e:=131) (k:=4) (bytes:=56) (xs:=[.agg #[aI ((bB l N 1).getD bW).name, .int .i64 ((bB l N 1).getD bW).kind, .int .i64 ((bB l N 1).getD bW).ttl,y20]]) rfl rfl rfl (by simp [Value.cells]) (by decide +kernel) (by simp) ?_
         intro v23 w23 x23 _ sl23 _
         refine aA ?_
         have dz23:SetsAt w23 v23 [(bB l N 1).getD bW]:=uK (uz20.ext x23) sl23
         refine_lift bG ?_
         refine aK (enters_of Tryz.func80 rfl rfl) rfl rfl (fK v23 _ _ dz23 (by rw [← eI];omega)) ?_
         intro rz24 w24 x24 o24
         rw [← eI] at o24
         refine aA ?_
         have z24:=x23.trans x24
         have hO24:=hO22.ext z24
         have hx24:=hx22.trans z24
         refine bU (e:=106) (k:=4) rfl hO24 rfl o24.sl eA hx24.size (by rw [aQ,aQ];(try rw [List.length_append]);omega) ?_
         intro v25 w25 o25 m25 _
         refine aA ?_
         have hx25:=hO24.mvx m25 hx24 (Nat.le_refl _)
         have hb25:=m25.at (z24.at hb22) (fun e9=>(hO24.neBlock (z24.at hb22) (by decide)) e9.symm)
         have hN25:=(hN22.ext z24).mv m25 ((hN22.ext z24).ne hO24 (by decide))
         have tz25:=aE (cs:=[aI o,v]) hb25
         rw [← rU] at o25
         clear tz20 qz20
         refine_lift dJ fun _ _ => ?_
         refine aK (enters_of Tryz.func79 rfl rfl) rfl rfl (nR v l N 28 _ (hv.ext hx25) hbd) ?_
         intro rz40 w40 x40 hr40
         obtain ⟨y40,rfl,hy40⟩:=lL hr40
         clear hr40
         refine aA ?_
         refine_lift bG ?_
         refine aL (z:=fX) rfl (by decide +kernel) ?_
         intro w41 x41 s41 h41
         refine aA ?_
         refine aG (v:=.agg #[aI ((bB l N 28).getD bW).name, .int .i64 ((bB l N 28).getD bW).kind, .int .i64 ((bB l N 28).getD bW).ttl,y40]) rfl rfl rfl h41 (show aR Tryz.prog 131 4=true by decide +kernel) rfl (eR rfl rfl rfl hy40.one) ?_
         intro w42 p42
         have z40:Ext w40 w42:=x41.move p42.mv (by rintro k ⟨⟩;exact Nat.le_refl _)
         have qz40:=aE (cs:=[aI ((bB l N 28).getD bW).name, .int .i64 ((bB l N 28).getD bW).kind, .int .i64 ((bB l N 28).getD bW).ttl,y40]) p42.this
         have uz40:=hy40.ext z40
         have ez40:=x40.trans z40
         have hx42:=hx25.trans ez40
         have hb42:=ez40.at hb25
         have hN42:=hN25.ext ez40
         have hO42:=o25.ext ez40
         have tz40:=aE (cs:=[aI o,v]) hb42
         have rl40:=fI hb20 N 28
         clear p42 h41 x41
         cases hf40:(bB l N 28).isSome with
         | false =>
          have nz40:eO (bB l N 28)=[]:=by
           cases hff:(bB l N 28) with
           | none=>rfl
           | some s=>rw [hff] at hf40;cases hf40
          refine_lift nK fun _ => ?_
          exact ⟨⟨k + 1,by omega,by go_num,hx42,hb42,by rw [hEe,hE];exact hN42,by rw [hEe,hE];simp only [nz40,List.append_nil];exact hO42⟩,by simp [intOf];omega⟩
         | true =>
          refine_lift nK fun _ => ?_
          refine bN (e:=131) (k:=4) (bytes:=56) (xs:=[.agg #[aI ((bB l N 28).getD bW).name, .int .i64 ((bB l N 28).getD bW).kind, .int .i64 ((bB l N 28).getD bW).ttl,y40]]) rfl rfl rfl (by simp [Value.cells]) (by decide +kernel) (by simp) ?_
          intro v43 w43 x43 _ sl43 _
          refine aA ?_
          have dz43:SetsAt w43 v43 [(bB l N 28).getD bW]:=uK (uz40.ext x43) sl43
          refine_lift bG ?_
          refine aK (enters_of Tryz.func80 rfl rfl) rfl rfl (fK v43 _ _ dz43 (by rw [← eI];omega)) ?_
          intro rz44 w44 x44 o44
          rw [← eI] at o44
          refine aA ?_
          have z44:=x43.trans x44
          have hO44:=hO42.ext z44
          have hx44:=hx42.trans z44
          refine bU (e:=106) (k:=4) rfl hO44 rfl o44.sl eA hx44.size (by rw [aQ,aQ];(try rw [List.length_append]);omega) ?_
          intro v45 w45 o45 m45 _
          refine aA ?_
          have hx45:=hO44.mvx m45 hx44 (Nat.le_refl _)
          have hb45:=m45.at (z44.at hb42) (fun e9=>(hO44.neBlock (z44.at hb42) (by decide)) e9.symm)
          have hN45:=(hN42.ext z44).mv m45 ((hN42.ext z44).ne hO44 (by decide))
          have tz45:=aE (cs:=[aI o,v]) hb45
          rw [← rU] at o45
          clear tz40 qz40
          refine_lift bG ?_
          exact ⟨⟨k + 1,by omega,by go_num,hx45,hb45,by rw [hEe,hE];exact hN45,by rw [hEe,hE];exact o45⟩,by simp [intOf];omega⟩)
  ·have:k=rs.length:=by omega
   subst this
   rw [List.take_length] at hO
   refine_lift nK fun _ => ?_
   go_ret
   exact ⟨_,rfl,hx,hO⟩
end Go.Proofs.X
