/- Laws and walks that the proof of the statement is made of (part 23). -/
import Derived.Test.YtgljkfpcadempaaGreatRows
import Derived.Test.YtgljkfpcadempaaGreatP22
set_option linter.unusedSimpArgs false
set_option linter.unusedVariables false
namespace Go.Proofs.X
open Go.RowKit
set_option maxRecDepth 100000
def vP (m:MsgR) (code:Int):MsgR:=⟨m.id,true,m.op,false,false,m.want,false,code,m.qs,[],[],[],1232⟩
def BW (m:MsgR) (code:Int):MsgR:=⟨m.id,true,m.op,false,false,m.want,false,code,[],[],[],[],0⟩
set_option maxHeartbeats 4000000 in
theorem iQ (m:MsgR) (q a u e:Value) (code:Int) (w:World) (hm:MsgV w m q a u e) (hl:m.qs.length≤1000):Calls Tryz.prog 34 #[.agg (aW m q a u e).toArray, .int .i64 code] w (oA w fun r w'=>∃ q',r=.agg (aW (bareR m code) q' aH aH aH).toArray∧Own w.heap.size 2 54 w' q' (cU m.qs)):=by
 have hql:=cI m.qs
 go_enter Tryz.func34,Tryz.ntmps34
 refine_lift zN ?_;intro _ _ _
 refine eK (vs:=aW m q a u e) rfl rfl ?_
 intro w1 x1 s1 hb1
 refine aA ?_
 refine aL (z:=gO) rfl (by decide +kernel) ?_
 intro w2 x2 s2 h2
 refine aA ?_
 have x02:=x1.trans x2
 have hb2:=x2.at hb1
 have hpM:=aE (cs:=aW m q a u e) hb2
 unfold aW at hpM
 have hq2:=hm.qs.ext x02
 have z1:=x1.size
 refine_lift dJ fun _ _ => ?_
 refine cH (v:=.agg (aW (BW m code) aH aH aH aH).toArray) rfl (Runs.build (vals:=[(0, .int .i64 m.id),(2, .int .i64 m.op),(5, .bool m.want),(1, .bool true),(7, .int .i64 code)]) rfl (by kernel_rfl)) ?_
 refine aA ?_
 refine_lift bG ?_
 refine aL (z:=gO) rfl (by decide +kernel) ?_
 intro w3 x3 s3 h3
 refine aA ?_
 refine aG (v:=.agg (aW (BW m code) aH aH aH aH).toArray) rfl rfl rfl h3 (show aR Tryz.prog 26 13=true by decide +kernel) rfl (cM (m:=BW m code) (w:=w3) ⟨Sl.nil _ _,Sl.nil _ _,Sl.nil _ _,Sl.nil _ _⟩) ?_
 intro w4 p4
 have x4:Ext w2 w4:=x3.move p4.mv (by rintro k ⟨⟩;exact Nat.le_refl _)
 have hB4:w4.heap[w2.heap.size]? = some (.cells (aW (BW m code) aH aH aH aH).toArray 26 (0,0)):=p4.this
 clear p4 h3 x3
 generalize hBk:w2.heap.size=B at *
 have hpB:=aE (cs:=aW (BW m code) aH aH aH aH) hB4
 unfold aW BW at hpB
 have hpM4:=hpM.ext x4
 have hq4:=hq2.ext x4
 have hh2:=x4.at h2
 refine_lift dJ fun _ _ => ?_
 refine bU (e:=54) (k:=2) rfl (Own.nil w.heap.size 2 54 w4) rfl hq4 (yV) (x02.trans x4).size (by simp;omega) ?_
 intro v5 w5 o5 m5 _
 refine aA ?_
 have hB5:=m5.at hB4 (by rintro ⟨⟩)
 have hh5:=m5.at hh2 (by rintro ⟨⟩)
 have x5:Ext w4 w5:=(Own.nil w4.heap.size 2 54 w4).mvx m5 (Ext.refl _) (Nat.le_refl _)
 have x25:=x4.trans x5
 have hpM5:=hpM.ext x25
 rw [List.nil_append] at o5
 clear hpB hpM4
 refine_lift bG ?_
 refine aM (n:=8) (v:=v5) hB5 rfl rfl rfl (by simp [aW]) (by decide +kernel) o5.sl.one ?_
 intro w6 p6
 have hB6:w6.heap[B]? = some (.cells (aW (bareN m code) v5 aH aH aH).toArray 26 (0,0)):=p6.this
 have x26:Ext w2 w6:=x25.move p6.mv (by rintro k ⟨⟩;exact Nat.le_of_eq hBk)
 have o6:=o5.mv p6.mv (.inr (o5.neBlock hB5 (by decide)))
 have hpM6:=hpM.ext x26
 have hh6:=p6.mv.at hh5 (by intro e9;have:=Option.some.inj e9;omega)
 have hpB6:=aE (cs:=aW (bareN m code) v5 aH aH aH) hB6
 clear hpM5
 unfold aW bareN at hpB6
 by_cases c0:m.size=0
 ·have hR:bareR m code=bareN m code:=by unfold bareR bareN;rw [if_pos c0]
  refine_lift oZ (fun _ _ _ => ?_) (fun _ _ _ => ?_)
  all_goals first
   | (have hh:False:=by have h9:=‹(!decide (m.size=0))=true›;rw [decide_eq_true c0] at h9;cases h9
      exact hh.elim)
   | skip
  have hmF:MsgV w6 (bareN m code) v5 aH aH aH:=⟨o6.sl,Sl.nil _ _,Sl.nil _ _,Sl.nil _ _⟩
  refine aG (v:=.agg (aW (bareN m code) v5 aH aH aH).toArray) rfl rfl rfl hh6 (show aR Tryz.prog 26 13=true by decide +kernel) rfl (cM hmF) ?_
  intro w7 p7
  refine_lift bG ?_
  refine bodyPost_ret (bH (cs:=aW (bareN m code) v5 aH aH aH) rfl rfl p7.this (show cP Tryz.prog 26 13=true by decide +kernel)) rfl ⟨_,rfl,(x02.trans x26).move p7.mv (by rintro k ⟨⟩;exact z1),v5,by rw [hR],?_⟩
  exact o6.mv p7.mv (.inr (o6.neBlock hh6 (by decide)))
 ·have hR:bareR m code=vP m code:=by unfold bareR vP;rw [if_neg c0]
  refine_lift oZ (fun _ _ _ => ?_) (fun _ _ _ => ?_)
  all_goals first
   | (have hh:False:=by have h9:=‹(!decide (m.size=0))=false›;rw [decide_eq_false c0] at h9;cases h9
      exact hh.elim)
   | skip
  refine aM (n:=12) (v:=.int .i64 1232) hB6 rfl rfl rfl (by simp [aW]) (by decide +kernel) rfl ?_
  intro w7 p7
  have hB7:w7.heap[B]? = some (.cells (aW (vP m code) v5 aH aH aH).toArray 26 (0,0)):=p7.this
  have x27:Ext w2 w7:=x26.move p7.mv (by rintro k ⟨⟩;exact Nat.le_of_eq hBk)
  have o7:=o6.mv p7.mv (.inr (o6.neBlock hB6 (by decide)))
  have hh7:=p7.mv.at hh6 (by intro e9;have:=Option.some.inj e9;omega)
  have hpB7:=aE (cs:=aW (vP m code) v5 aH aH aH) hB7
  clear hpB6
  unfold aW vP at hpB7
  refine_lift dJ fun _ _ => ?_
  have hmF:MsgV w7 (vP m code) v5 aH aH aH:=⟨o7.sl,Sl.nil _ _,Sl.nil _ _,Sl.nil _ _⟩
  refine aG (v:=.agg (aW (vP m code) v5 aH aH aH).toArray) rfl rfl rfl hh7 (show aR Tryz.prog 26 13=true by decide +kernel) rfl (cM hmF) ?_
  intro w8 p8
  refine_lift bG ?_
  refine bodyPost_ret (bH (cs:=aW (vP m code) v5 aH aH aH) rfl rfl p8.this (show cP Tryz.prog 26 13=true by decide +kernel)) rfl ⟨_,rfl,(x02.trans x27).move p8.mv (by rintro k ⟨⟩;exact z1),v5,by rw [hR],?_⟩
  exact o7.mv p8.mv (.inr (o7.neBlock hh7 (by decide)))
set_option maxHeartbeats 4000000 in
theorem KY (v:Value) (hs:List HldR) (m:MsgR) (q a u e:Value) (w:World) (hv:HldsAt w v hs) (hm:MsgV w m q a u e) (hl:hs.length≤1000) (hb:∀ h ∈ hs,∀ s ∈ h.l,s.data.length≤1000000) (hd:∀ h ∈ hs,∀ s ∈ h.l,∀ d ∈ s.data,d.length≤4611686018427387904) (hmd:∀ r,r ∈ m.an∨r ∈ m.au∨r ∈ m.ex→r.data.length≤4611686018427387904):Calls Tryz.prog 15 #[v, .agg (aW m q a u e).toArray] w (oA w (NV w (cZ hs m))):=by
 obtain ⟨css,hsl,hcl⟩:=hv.sl
 go_enter Tryz.func15,Tryz.ntmps15
 refine_lift lF fun _ _ => ?_
 refine eK (vs:=aW m q a u e) rfl rfl ?_
 intro w1 x1 s1 hb1
 refine aA ?_
 refine aL (z:=gO) rfl (by decide +kernel) ?_
 intro w2 x2 s2 hz2
 refine aA ?_
 have x02:=x1.trans x2
 have hpM:=aE (cs:=aW m q a u e) (x2.at hb1)
 unfold aW at hpM
 have hm2:=hm.ext x02
 refine_lift xI fun _ _ _ _ => ?_
 refine aD (enters_of Tryz.func33 rfl rfl) rfl rfl (NG m q a u e _ hm2 hmd) ?_;intro w3 x3;refine aA ?_
 have x03:=x02.trans x3
 have hz3:=x3.at hz2
 have hm3:=hm2.ext x3
 have hpM:=hpM.ext x3
 by_cases cc:dH m=0
 ·have hok:=qN cc
  have hlq:m.qs.length≤1000:=by have:=hok.ql;omega
  have hql:=cI m.qs
  cases cr:m.resp with
  | true =>
   have hR:cZ hs m=bareR m 1:=by unfold cZ;rw [if_neg (by simpa using cc),if_pos cr]
   rw [cr] at hpM
   refine_lift VZ (fun _ _ _ _ _ => ?_) (fun _ _ _ => ?_)
   all_goals first
    | (exfalso;omega)
    | (exfalso;rename_i hz9;simp at hz9;omega)
    | (exfalso;simp_all;done)
    | skip
   rw [← cr]
   refine aK (enters_of Tryz.func34 rfl rfl) rfl rfl (iQ m q a u e 1 _ (hm3) hlq) ?_
   intro _ wb xb ⟨qb,er,ob⟩
   subst er
   refine aA ?_
   have hmb:MsgV wb (bareR m 1) qb aH aH aH:=⟨ob.sl,Sl.nil _ _,Sl.nil _ _,Sl.nil _ _⟩
   have hzb:=xb.at hz3
   refine aG (v:=.agg (aW (bareR m 1) qb aH aH aH).toArray) rfl rfl rfl hzb (show aR Tryz.prog 26 13=true by decide +kernel) rfl (cM hmb) ?_
   intro wc pc
   have xc:Ext w wc:=((x03).trans xb).move pc.mv (by rintro k ⟨⟩;exact x1.size)
   refine_lift bG ?_
   refine bodyPost_ret (bH (cs:=aW (bareR m 1) qb aH aH aH) rfl rfl pc.this (show cP Tryz.prog 26 13=true by decide +kernel)) rfl ⟨_,rfl,xc,qb,aH,aH,aH,by rw [hR],?_⟩
   rw [hR]
   exact ⟨(ob.mv pc.mv (.inr (ob.neBlock hzb (by decide)))).weaken (x03).size,Own.nil _ _ _ _,Own.nil _ _ _ _,Own.nil _ _ _ _⟩
  | false =>
   have hR0:cZ hs m=_:=rfl
   conv at hR0=>rhs;unfold cZ;rw [if_neg (by simpa using cc),if_neg (by rw [cr];decide)]
   rw [cr] at hpM
   by_cases co:m.op=0
   ·rw [if_neg (by simpa using co)] at hR0
    have hq3:=hm3.qs
    by_cases c1:m.qs.length=1
    ·rw [if_neg (by simpa using c1)] at hR0
     obtain ⟨⟨xn,xk⟩,hx1⟩:∃ x,m.qs=[x]:=List.length_eq_one_iff.1 c1
     have hxh:m.qs.head! = (xn,xk):=by rw [hx1];rfl
     rw [hxh] at hR0
     dsimp only at hR0
     have hqe:=hq3.elem (i:=0) (e:=[aI xn, .int .i64 xk]) (by rw [hx1];rfl)
     refine_lift LP (fun _ _ _ _ _ _ => ?_) (fun _ _ _ _ _ _ _ => ?_) (fun _ _ _ _ _ => ?_) (fun _ _ _ => ?_)
     all_goals first
      | (exfalso;omega)
      | (exfalso;rename_i hz9;simp at hz9;omega)
      | (exfalso;simp_all;done)
      | skip
     refine aL (z:=[aI [], .int .i64 0]) rfl (by decide +kernel) ?_
     intro w4 x4 s4 h4
     refine aA ?_
     refine aG (v:=.agg #[aI xn, .int .i64 xk]) rfl rfl rfl h4 (show aR Tryz.prog 54 2=true by decide +kernel) rfl (QB rfl rfl) ?_
     intro w5 p5
     have x5:Ext w3 w5:=x4.move p5.mv (by rintro k ⟨⟩;exact Nat.le_refl _)
     have hpx:=aE (cs:=[aI xn, .int .i64 xk]) p5.this
     have hpM:=hpM.ext x5
     have hm5:=hm3.ext x5
     have hz5:=x5.at hz3
     have x05:=x03.trans x5
     clear p5 h4 x4 hqe
     generalize w3.heap.size=c at *
     by_cases ct:xk=252∨xk=251
     ·have hR:cZ hs m=bareR m 4:=by rw [hR0,if_pos ct]
      refine_lift RT (fun _ _ hc _ _ => ?_) (fun _ _ hc _ _ _ => ?_)
      all_goals first
       | (exfalso;omega)
       | skip
      all_goals rw [← cr]
      all_goals refine aK (enters_of Tryz.func34 rfl rfl) rfl rfl (iQ m q a u e 4 _ (hm5) hlq) ?_
      all_goals intro _ wb xb ⟨qb,er,ob⟩
      all_goals subst er
      all_goals refine aA ?_
      all_goals have hmb:MsgV wb (bareR m 4) qb aH aH aH:=⟨ob.sl,Sl.nil _ _,Sl.nil _ _,Sl.nil _ _⟩
      all_goals have hzb:=xb.at hz5
      all_goals refine aG (v:=.agg (aW (bareR m 4) qb aH aH aH).toArray) rfl rfl rfl hzb (show aR Tryz.prog 26 13=true by decide +kernel) rfl (cM hmb) ?_
      all_goals intro wc pc
      all_goals have xc:Ext w wc:=((x05).trans xb).move pc.mv (by rintro k ⟨⟩;exact x1.size)
      all_goals refine_lift bG ?_
      all_goals refine bodyPost_ret (bH (cs:=aW (bareR m 4) qb aH aH aH) rfl rfl pc.this (show cP Tryz.prog 26 13=true by decide +kernel)) rfl ⟨_,rfl,xc,qb,aH,aH,aH,by rw [hR],?_⟩
      all_goals rw [hR]
      all_goals exact ⟨(ob.mv pc.mv (.inr (ob.neBlock hzb (by decide)))).weaken (x05).size,Own.nil _ _ _ _,Own.nil _ _ _ _,Own.nil _ _ _ _⟩
     ·rw [if_neg ct] at hR0
      refine_lift UF (fun _ _ hc _ _ => ?_) (fun hc _ _ _ => ?_)
      all_goals first
       | (exfalso;omega)
       | skip
      refine aD (enters_of Tryz.func22 rfl rfl) rfl rfl (TH v hs xn _ (hv.ext x05) hl) ?_;intro w6 x6;refine aA ?_
      have hpM:=hpM.ext x6
      have hpx:=hpx.ext x6
      have hm6:=hm5.ext x6
      have hz6:=x6.at hz5
      have x06:=x05.trans x6
      cases hof:OF hs xn with
      | none =>
       rw [hof] at hR0
       have hR:cZ hs m=bareR m 5:=hR0
       refine_lift LQ fun _ _ _ _ _ => ?_
       rw [← cr]
       refine aK (enters_of Tryz.func34 rfl rfl) rfl rfl (iQ m q a u e 5 _ (hm6) hlq) ?_
       intro _ wb xb ⟨qb,er,ob⟩
       subst er
       refine aA ?_
       have hmb:MsgV wb (bareR m 5) qb aH aH aH:=⟨ob.sl,Sl.nil _ _,Sl.nil _ _,Sl.nil _ _⟩
       have hzb:=xb.at hz6
       refine aG (v:=.agg (aW (bareR m 5) qb aH aH aH).toArray) rfl rfl rfl hzb (show aR Tryz.prog 26 13=true by decide +kernel) rfl (cM hmb) ?_
       intro wc pc
       have xc:Ext w wc:=((x06).trans xb).move pc.mv (by rintro k ⟨⟩;exact x1.size)
       refine_lift bG ?_
       refine bodyPost_ret (bH (cs:=aW (bareR m 5) qb aH aH aH) rfl rfl pc.this (show cP Tryz.prog 26 13=true by decide +kernel)) rfl ⟨_,rfl,xc,qb,aH,aH,aH,by rw [hR],?_⟩
       rw [hR]
       exact ⟨(ob.mv pc.mv (.inr (ob.neBlock hzb (by decide)))).weaken (x06).size,Own.nil _ _ _ _,Own.nil _ _ _ _,Own.nil _ _ _ _⟩
      | some i =>
       rw [hof] at hR0
       dsimp only at hR0
       have hil:=NU hof
       have hbang:hs[i]! = hs[i]:=getElem!_pos hs i hil
       rw [hbang] at hR0
       obtain ⟨y,hel,hsy⟩:=(hv.ext x06).elem (List.getElem?_eq_getElem hil)
       have hbi:=hb _ (List.getElem_mem hil)
       have hdi:=hd _ (List.getElem_mem hil)
       generalize hs[i]=H at *
       refine_lift vZ fun _ _ _ => ?_
       refine aL (z:=VI) rfl (by decide +kernel) ?_
       intro w7 x7 s7 h7
       refine aA ?_
       refine aG (v:=.agg #[aI H.o,y,aI H.org, .bool H.up]) rfl rfl rfl h7 (show aR Tryz.prog 52 4=true by decide +kernel) rfl (eR rfl (by obtain ⟨_,hq,_⟩:=hsy.sl;exact hq.one) rfl rfl) ?_
       intro w8 p8
       have x68:Ext w6 w8:=x7.move p8.mv (by rintro k ⟨⟩;exact Nat.le_refl _)
       have hb8:w8.heap[w6.heap.size]? = some (.cells [aI H.o,y,aI H.org, .bool H.up].toArray 52 (0,0)):=p8.this
       have hel8:=aE (cs:=[aI H.o,y,aI H.org, .bool H.up]) hb8
       have hpM:=hpM.ext x68
       have hpx:=hpx.ext x68
       have hm8:=hm6.ext x68
       have hz8:=x68.at hz6
       have hsy8:=hsy.ext x68
       have x08:=x06.trans x68
       clear p8 h7 x7 hel
       generalize w6.heap.size=hB6 at *
       have hH:NT m H (xn,xk)=if H.up=false∨mV H.o H.l xn≠0∨H.o≠fold H.org then bareR m 2 else gH m (pQ H.o H.l xn xk):=rfl
       rw [hH] at hR0
       have hcA:∀ w',Ext w8 w'→Calls Tryz.prog 35 #[.agg #[aI H.o,y], .agg #[aI xn, .int .i64 xk]] w' (oA w' fun r w3=>∃ z,r=.tuple #[z, .int .i64 (mV H.o H.l xn)]∧AnsO w'.heap.size (pQ H.o H.l xn xk) z w3):=fun w' x'=>TJ H.o y H.l xn xk w' (hsy8.ext x') hbi hdi
       generalize mV H.o H.l xn=E at *
       generalize pQ H.o H.l xn xk=A at *
       have hel0:Pts w8 (dT (.pointer (some ⟨hB6,0,none⟩)) 0) [aI H.o,y]:=(hel8.front 2).part 0
       refine_lift dJ fun _ _ => ?_
       refine aK (enters_of Tryz.func35 rfl rfl) rfl rfl (hcA _ (Ext.refl _)) ?_
       rintro _ w20 x20 ⟨z,rfl,u1,u2,u3,rfl,o1,o2,o3⟩
       refine aA ?_
       clear hel0 hpx
       refine_lift bG ?_
       refine aL (z:=kN) rfl (by decide +kernel) ?_
       intro w21 x21 s21 h21
       refine aA ?_
       refine aG (v:=.agg #[.int .i64 A.kind,u1,u2,u3]) rfl rfl rfl h21 (show aR Tryz.prog 75 4=true by decide +kernel) rfl (eR rfl (o1.ext x21).sl.one (o2.ext x21).sl.one (o3.ext x21).sl.one) ?_
       intro w9 p9
       have x209:Ext w20 w9:=x21.move p9.mv (by rintro k ⟨⟩;exact Nat.le_refl _)
       have k7':w9.heap[w20.heap.size]? = some (.cells [.int .i64 A.kind,u1,u2,u3].toArray 75 (0,0)):=p9.this
       have x9:=x20.trans x209
       have o1:=(o1.ext x209).weaken x08.size
       have o2:=(o2.ext x209).weaken x08.size
       have o3:=(o3.ext x209).weaken x08.size
       clear p9 h21 x21 hcA
       generalize w20.heap.size=zk at *
       have hpa:=aE (cs:=[.int .i64 A.kind,u1,u2,u3]) k7'
       have hpM:=hpM.ext x9
       have hel:=hel8.ext x9
       have hm9:=hm8.ext x9
       have hz9:=x9.at hz8
       have x09:=x08.trans x9
       clear hel8
       have hcF:∀ w',Calls Tryz.prog 36 #[aI H.org] w' (bM w' (aI (fold H.org))):=fun w'=>kG H.org w'
       refine_lift xI fun _ _ _ _ => ?_
       cases hup:H.up with
       | false =>
        rw [hup] at hel hR0
        rw [if_pos (.inl rfl)] at hR0
        refine cB (by decide +kernel) (by decide +kernel) ?_
        refine_lift qR ?_
        intro w10 x10
        have hpM:=hpM.ext x10
        refine_lift dJ fun _ _ => ?_
        rw [← cr]
        refine aK (enters_of Tryz.func34 rfl rfl) rfl rfl (iQ m q a u e 2 _ (hm9.ext x10) hlq) ?_
        intro _ wb xb ⟨qb,er,ob⟩
        subst er
        refine aA ?_
        have hmb:MsgV wb (bareR m 2) qb aH aH aH:=⟨ob.sl,Sl.nil _ _,Sl.nil _ _,Sl.nil _ _⟩
        have hzb:=xb.at (x10.at hz9)
        refine aG (v:=.agg (aW (bareR m 2) qb aH aH aH).toArray) rfl rfl rfl hzb (show aR Tryz.prog 26 13=true by decide +kernel) rfl (cM hmb) ?_
        intro wc pc
        have xc:Ext w wc:=((x09.trans x10).trans xb).move pc.mv (by rintro k ⟨⟩;exact x1.size)
        refine_lift bG ?_
        refine bodyPost_ret (bH (cs:=aW (bareR m 2) qb aH aH aH) rfl rfl pc.this (show cP Tryz.prog 26 13=true by decide +kernel)) rfl ⟨_,rfl,xc,qb,aH,aH,aH,by rw [hR0],?_⟩
        rw [hR0]
        exact ⟨(ob.mv pc.mv (.inr (ob.neBlock hzb (by decide)))).weaken (x09.trans x10).size,Own.nil _ _ _ _,Own.nil _ _ _ _,Own.nil _ _ _ _⟩
       | true =>
        rw [hup] at hel hR0
        by_cases hE0:E=0
        ·refine cB (by decide +kernel) (by decide +kernel) ?_
         refine_lift qR ?_
         rw [show (!decide (E=0))=false by rw [hE0];rfl]
         refine_lift qR ?_
         refine dX (enters_of Tryz.func36 rfl rfl) rfl rfl (fun w' x'=>hcF w') ?_
         refine aA ?_
         refine_lift qR ?_
         intro w10 x10
         have hpM:=hpM.ext x10
         have hpa:=hpa.ext x10
         have hm10:=hm9.ext x10
         have hz10:=x10.at hz9
         have x010:=x09.trans x10
         by_cases ho:H.o=fold H.org
         ·rw [if_neg (by rintro (h | h | h);cases h;exact h hE0;exact h ho)] at hR0
          refine_lift oZ (fun _ _ _ => ?_) (fun _ _ _ => ?_)
          all_goals first
           | (have hh:False:=by have hh9:=‹(!decide (H.o=fold H.org))=true›;rw [decide_eq_true ho] at hh9;cases hh9
              exact hh.elim)
           | skip
          rw [← cr]
          refine aK (enters_of Tryz.func34 rfl rfl) rfl rfl (iQ m q a u e 0 _ hm10 hlq) ?_
          intro _ wb xb ⟨qb,er,ob⟩
          subst er
          refine aA ?_
          refine aL (z:=gO) rfl (by decide +kernel) ?_
          intro w11 x11 s11 h11
          refine aA ?_
          have hmb:MsgV w11 (bareR m 0) qb aH aH aH:=⟨(ob.ext x11).sl,Sl.nil _ _,Sl.nil _ _,Sl.nil _ _⟩
          refine aG (v:=.agg (aW (bareR m 0) qb aH aH aH).toArray) rfl rfl rfl h11 (show aR Tryz.prog 26 13=true by decide +kernel) rfl (cM hmb) ?_
          intro w12 p12
          have x12:Ext wb w12:=x11.move p12.mv (by rintro k ⟨⟩;exact Nat.le_refl _)
          have hB:w12.heap[wb.heap.size]? = some (.cells (aW (bareR m 0) qb aH aH aH).toArray 26 (0,0)):=p12.this
          have ob12:=ob.ext x12
          have q1:=o1.one
          have q2:=o2.one
          have q3:=o3.one
          have x10b:=xb.trans x12
          have hBB:w10.heap.size≤wb.heap.size:=xb.size
          have hpa0:=hpa
          have hpa:=hpa.ext x10b
          clear p12 h11 x11 hmb hpM
          generalize wb.heap.size=BB at *
          have hpB:=aE (cs:=aW (bareR m 0) qb aH aH aH) hB
          unfold aW bareR at hpB
          clear hel
          by_cases k2:A.kind=2
          ·have hBa:w12.heap[BB]? = some (.cells [.int .i64 m.id, .bool true, .int .i64 m.op, .bool false, .bool false, .bool m.want, .bool false, .int .i64 0,qb,aH,aH,aH, .int .i64 (if m.size=0 then 0 else 1232)].toArray 26 (0,0)):=hB
           refine_lift vZ fun _ _ _ => ?_
           all_goals first
            | (have hh:False:=by omega
               exact hh.elim)
            | skip
           refine aM (n:=7) (v:=.int .i64 3) hBa rfl rfl rfl (by simp) (by decide +kernel) rfl ?_
           intro w13 p13
           have x13:Ext w10 w13:=x10b.move p13.mv (by rintro k ⟨⟩;exact hBB)
           have hB13:w13.heap[BB]? = some (.cells [.int .i64 m.id, .bool true, .int .i64 m.op, .bool false, .bool false, .bool m.want, .bool false, .int .i64 3,qb,aH,aH,aH, .int .i64 (if m.size=0 then 0 else 1232)].toArray 26 (0,0)):=p13.this
           have ob13:=ob12.mv p13.mv (.inr (ob12.neBlock hBa (by decide)))
           clear hpa
           have hpa:=hpa0.ext x13
           refine_lift dJ fun _ _ => ?_
           refine aM (n:=3) (v:=.bool (!decide (A.kind=3))) hB13 rfl rfl rfl (by simp) (by decide +kernel) rfl ?_
           intro w14 p14
           have x14:Ext w10 w14:=x13.move p14.mv (by rintro k ⟨⟩;exact hBB)
           have hB14:w14.heap[BB]? = some (.cells [.int .i64 m.id, .bool true, .int .i64 m.op, .bool (!decide (A.kind=3)), .bool false, .bool m.want, .bool false, .int .i64 3,qb,aH,aH,aH, .int .i64 (if m.size=0 then 0 else 1232)].toArray 26 (0,0)):=p14.this
           have ob14:=ob13.mv p14.mv (.inr (ob13.neBlock hB13 (by decide)))
           clear hpa
           have hpa:=hpa0.ext x14
           refine_lift dJ fun _ _ => ?_
           refine aM (n:=9) (v:=u1) hB14 rfl rfl rfl (by simp) (by decide +kernel) q1 ?_
           intro w15 p15
           have x15:Ext w10 w15:=x14.move p15.mv (by rintro k ⟨⟩;exact hBB)
           have hB15:w15.heap[BB]? = some (.cells [.int .i64 m.id, .bool true, .int .i64 m.op, .bool (!decide (A.kind=3)), .bool false, .bool m.want, .bool false, .int .i64 3,qb,u1,aH,aH, .int .i64 (if m.size=0 then 0 else 1232)].toArray 26 (0,0)):=p15.this
           have ob15:=ob14.mv p15.mv (.inr (ob14.neBlock hB14 (by decide)))
           clear hpa
           have hpa:=hpa0.ext x15
           refine_lift dJ fun _ _ => ?_
           refine aM (n:=10) (v:=u2) hB15 rfl rfl rfl (by simp) (by decide +kernel) q2 ?_
           intro w16 p16
           have x16:Ext w10 w16:=x15.move p16.mv (by rintro k ⟨⟩;exact hBB)
           have hB16:w16.heap[BB]? = some (.cells [.int .i64 m.id, .bool true, .int .i64 m.op, .bool (!decide (A.kind=3)), .bool false, .bool m.want, .bool false, .int .i64 3,qb,u1,u2,aH, .int .i64 (if m.size=0 then 0 else 1232)].toArray 26 (0,0)):=p16.this
           have ob16:=ob15.mv p16.mv (.inr (ob15.neBlock hB15 (by decide)))
           clear hpa
           have hpa:=hpa0.ext x16
           refine_lift dJ fun _ _ => ?_
           refine aM (n:=11) (v:=u3) hB16 rfl rfl rfl (by simp) (by decide +kernel) q3 ?_
           intro w17 p17
           have x17:Ext w10 w17:=x16.move p17.mv (by rintro k ⟨⟩;exact hBB)
           have hB17:w17.heap[BB]? = some (.cells [.int .i64 m.id, .bool true, .int .i64 m.op, .bool (!decide (A.kind=3)), .bool false, .bool m.want, .bool false, .int .i64 3,qb,u1,u2,u3, .int .i64 (if m.size=0 then 0 else 1232)].toArray 26 (0,0)):=p17.this
           have ob17:=ob16.mv p17.mv (.inr (ob16.neBlock hB16 (by decide)))
           clear hpa
           have hpa:=hpa0.ext x17
           have hT:gH m A=⟨m.id,true,m.op,!decide (A.kind=3),false,m.want,false,3,m.qs,A.ans,A.auth,A.extra,if m.size=0 then 0 else 1232⟩:=by
            unfold gH bareR
            rw [if_pos k2]
           have hpC:=aE (cs:=[.int .i64 m.id, .bool true, .int .i64 m.op, .bool (!decide (A.kind=3)), .bool false, .bool m.want, .bool false, .int .i64 3,qb,u1,u2,u3, .int .i64 (if m.size=0 then 0 else 1232)]) hB17
           refine_lift dJ fun _ _ => ?_
           have xe:Ext w9 w17:=x10.trans x17
           have hmF:MsgV w17 (gH m A) qb u1 u2 u3:=by
            rw [hT]
            exact ⟨ob17.sl,(o1.ext xe).sl,(o2.ext xe).sl,(o3.ext xe).sl⟩
           have hzF:=x17.at hz10
           refine aG (v:=.agg (aW (gH m A) qb u1 u2 u3).toArray) rfl rfl (by rw [hT];rfl) hzF (show aR Tryz.prog 26 13=true by decide +kernel) rfl (cM hmF) ?_
           intro w19 p19
           have x19:Ext w w19:=(x09.trans xe).move p19.mv (by rintro k ⟨⟩;exact x1.size)
           refine_lift bG ?_
           refine bodyPost_ret (bH (cs:=aW (gH m A) qb u1 u2 u3) rfl rfl p19.this (show cP Tryz.prog 26 13=true by decide +kernel)) rfl ⟨_,rfl,x19,qb,u1,u2,u3,by rw [hR0],?_⟩
           rw [hR0,hT]
           have f0:=ob17.mv p19.mv (.inr (ob17.neBlock hzF (by decide)))
           have f1:=(o1.ext xe).mv p19.mv (.inr ((o1.ext xe).neBlock hzF (by decide)))
           have f2:=(o2.ext xe).mv p19.mv (.inr ((o2.ext xe).neBlock hzF (by decide)))
           have f3:=(o3.ext xe).mv p19.mv (.inr ((o3.ext xe).neBlock hzF (by decide)))
           exact ⟨f0.weaken x010.size,f1,f2,f3⟩
          ·have hBa:w12.heap[BB]? = some (.cells [.int .i64 m.id, .bool true, .int .i64 m.op, .bool false, .bool false, .bool m.want, .bool false, .int .i64 0,qb,aH,aH,aH, .int .i64 (if m.size=0 then 0 else 1232)].toArray 26 (0,0)):=hB
           refine_lift vZ fun _ _ _ => ?_
           all_goals first
            | (have hh:False:=by omega
               exact hh.elim)
            | skip
           refine aM (n:=3) (v:=.bool (!decide (A.kind=3))) hBa rfl rfl rfl (by simp) (by decide +kernel) rfl ?_
           intro w13 p13
           have x13:Ext w10 w13:=x10b.move p13.mv (by rintro k ⟨⟩;exact hBB)
           have hB13:w13.heap[BB]? = some (.cells [.int .i64 m.id, .bool true, .int .i64 m.op, .bool (!decide (A.kind=3)), .bool false, .bool m.want, .bool false, .int .i64 0,qb,aH,aH,aH, .int .i64 (if m.size=0 then 0 else 1232)].toArray 26 (0,0)):=p13.this
           have ob13:=ob12.mv p13.mv (.inr (ob12.neBlock hBa (by decide)))
           clear hpa
           have hpa:=hpa0.ext x13
           refine_lift dJ fun _ _ => ?_
           refine aM (n:=9) (v:=u1) hB13 rfl rfl rfl (by simp) (by decide +kernel) q1 ?_
           intro w14 p14
           have x14:Ext w10 w14:=x13.move p14.mv (by rintro k ⟨⟩;exact hBB)
           have hB14:w14.heap[BB]? = some (.cells [.int .i64 m.id, .bool true, .int .i64 m.op, .bool (!decide (A.kind=3)), .bool false, .bool m.want, .bool false, .int .i64 0,qb,u1,aH,aH, .int .i64 (if m.size=0 then 0 else 1232)].toArray 26 (0,0)):=p14.this
           have ob14:=ob13.mv p14.mv (.inr (ob13.neBlock hB13 (by decide)))
           clear hpa
           have hpa:=hpa0.ext x14
           refine_lift dJ fun _ _ => ?_
           refine aM (n:=10) (v:=u2) hB14 rfl rfl rfl (by simp) (by decide +kernel) q2 ?_
           intro w15 p15
           have x15:Ext w10 w15:=x14.move p15.mv (by rintro k ⟨⟩;exact hBB)
           have hB15:w15.heap[BB]? = some (.cells [.int .i64 m.id, .bool true, .int .i64 m.op, .bool (!decide (A.kind=3)), .bool false, .bool m.want, .bool false, .int .i64 0,qb,u1,u2,aH, .int .i64 (if m.size=0 then 0 else 1232)].toArray 26 (0,0)):=p15.this
           have ob15:=ob14.mv p15.mv (.inr (ob14.neBlock hB14 (by decide)))
           clear hpa
           have hpa:=hpa0.ext x15
           refine_lift dJ fun _ _ => ?_
           refine aM (n:=11) (v:=u3) hB15 rfl rfl rfl (by simp) (by decide +kernel) q3 ?_
           intro w16 p16
           have x16:Ext w10 w16:=x15.move p16.mv (by rintro k ⟨⟩;exact hBB)
           have hB16:w16.heap[BB]? = some (.cells [.int .i64 m.id, .bool true, .int .i64 m.op, .bool (!decide (A.kind=3)), .bool false, .bool m.want, .bool false, .int .i64 0,qb,u1,u2,u3, .int .i64 (if m.size=0 then 0 else 1232)].toArray 26 (0,0)):=p16.this
           have ob16:=ob15.mv p16.mv (.inr (ob15.neBlock hB15 (by decide)))
           clear hpa
           have hpa:=hpa0.ext x16
           have hT:gH m A=⟨m.id,true,m.op,!decide (A.kind=3),false,m.want,false,0,m.qs,A.ans,A.auth,A.extra,if m.size=0 then 0 else 1232⟩:=by
            unfold gH bareR
            rw [if_neg k2]
           have hpC:=aE (cs:=[.int .i64 m.id, .bool true, .int .i64 m.op, .bool (!decide (A.kind=3)), .bool false, .bool m.want, .bool false, .int .i64 0,qb,u1,u2,u3, .int .i64 (if m.size=0 then 0 else 1232)]) hB16
           refine_lift dJ fun _ _ => ?_
           have xe:Ext w9 w16:=x10.trans x16
           have hmF:MsgV w16 (gH m A) qb u1 u2 u3:=by
            rw [hT]
            exact ⟨ob16.sl,(o1.ext xe).sl,(o2.ext xe).sl,(o3.ext xe).sl⟩
           have hzF:=x16.at hz10
           refine aG (v:=.agg (aW (gH m A) qb u1 u2 u3).toArray) rfl rfl (by rw [hT];rfl) hzF (show aR Tryz.prog 26 13=true by decide +kernel) rfl (cM hmF) ?_
           intro w19 p19
           have x19:Ext w w19:=(x09.trans xe).move p19.mv (by rintro k ⟨⟩;exact x1.size)
           refine_lift bG ?_
           refine bodyPost_ret (bH (cs:=aW (gH m A) qb u1 u2 u3) rfl rfl p19.this (show cP Tryz.prog 26 13=true by decide +kernel)) rfl ⟨_,rfl,x19,qb,u1,u2,u3,by rw [hR0],?_⟩
           rw [hR0,hT]
           have f0:=ob16.mv p19.mv (.inr (ob16.neBlock hzF (by decide)))
           have f1:=(o1.ext xe).mv p19.mv (.inr ((o1.ext xe).neBlock hzF (by decide)))
           have f2:=(o2.ext xe).mv p19.mv (.inr ((o2.ext xe).neBlock hzF (by decide)))
           have f3:=(o3.ext xe).mv p19.mv (.inr ((o3.ext xe).neBlock hzF (by decide)))
           exact ⟨f0.weaken x010.size,f1,f2,f3⟩
         ·rw [if_pos (.inr (.inr ho))] at hR0
          refine_lift oZ (fun _ _ _ => ?_) (fun _ _ _ => ?_)
          all_goals first
           | (have hh:False:=by have hh9:=‹(!decide (H.o=fold H.org))=false›;rw [decide_eq_false ho] at hh9;cases hh9
              exact hh.elim)
           | skip
          rw [← cr]
          refine aK (enters_of Tryz.func34 rfl rfl) rfl rfl (iQ m q a u e 2 _ (hm10) hlq) ?_
          intro _ wb xb ⟨qb,er,ob⟩
          subst er
          refine aA ?_
          have hmb:MsgV wb (bareR m 2) qb aH aH aH:=⟨ob.sl,Sl.nil _ _,Sl.nil _ _,Sl.nil _ _⟩
          have hzb:=xb.at hz10
          refine aG (v:=.agg (aW (bareR m 2) qb aH aH aH).toArray) rfl rfl rfl hzb (show aR Tryz.prog 26 13=true by decide +kernel) rfl (cM hmb) ?_
          intro wc pc
          have xc:Ext w wc:=((x010).trans xb).move pc.mv (by rintro k ⟨⟩;exact x1.size)
          refine_lift bG ?_
          refine bodyPost_ret (bH (cs:=aW (bareR m 2) qb aH aH aH) rfl rfl pc.this (show cP Tryz.prog 26 13=true by decide +kernel)) rfl ⟨_,rfl,xc,qb,aH,aH,aH,by rw [hR0],?_⟩
          rw [hR0]
          exact ⟨(ob.mv pc.mv (.inr (ob.neBlock hzb (by decide)))).weaken (x010).size,Own.nil _ _ _ _,Own.nil _ _ _ _,Own.nil _ _ _ _⟩
        ·rw [if_pos (.inr (.inl hE0))] at hR0
         refine cB (by decide +kernel) (by decide +kernel) ?_
         refine_lift qR ?_
         rw [show (!decide (E=0))=true by rw [decide_eq_false hE0];rfl]
         refine_lift qR ?_
         intro w10 x10
         have hpM:=hpM.ext x10
         refine_lift dJ fun _ _ => ?_
         rw [← cr]
         refine aK (enters_of Tryz.func34 rfl rfl) rfl rfl (iQ m q a u e 2 _ (hm9.ext x10) hlq) ?_
         intro _ wb xb ⟨qb,er,ob⟩
         subst er
         refine aA ?_
         have hmb:MsgV wb (bareR m 2) qb aH aH aH:=⟨ob.sl,Sl.nil _ _,Sl.nil _ _,Sl.nil _ _⟩
         have hzb:=xb.at (x10.at hz9)
         refine aG (v:=.agg (aW (bareR m 2) qb aH aH aH).toArray) rfl rfl rfl hzb (show aR Tryz.prog 26 13=true by decide +kernel) rfl (cM hmb) ?_
         intro wc pc
         have xc:Ext w wc:=((x09.trans x10).trans xb).move pc.mv (by rintro k ⟨⟩;exact x1.size)
         refine_lift bG ?_
         refine bodyPost_ret (bH (cs:=aW (bareR m 2) qb aH aH aH) rfl rfl pc.this (show cP Tryz.prog 26 13=true by decide +kernel)) rfl ⟨_,rfl,xc,qb,aH,aH,aH,by rw [hR0],?_⟩
         rw [hR0]
         exact ⟨(ob.mv pc.mv (.inr (ob.neBlock hzb (by decide)))).weaken (x09.trans x10).size,Own.nil _ _ _ _,Own.nil _ _ _ _,Own.nil _ _ _ _⟩
    ·have hR:cZ hs m=bareR m 1:=by rw [hR0,if_pos (by simpa using c1)]
     have hd1:¬ ((cU m.qs).length:Int)=1:=by omega
     refine_lift LP (fun _ _ _ _ _ _ => ?_) (fun _ _ _ _ _ _ _ => ?_) (fun _ _ _ _ _ => ?_) (fun _ _ _ => ?_)
     all_goals first
      | (exfalso;exact hd1 (by simpa using ‹(!decide (((cU m.qs).length:Int)=1))=false›))
      | skip
     all_goals first
      | (exfalso;omega)
      | (exfalso;rename_i hz9;simp at hz9;omega)
      | (exfalso;simp_all;done)
      | skip
     rw [← cr]
     refine aK (enters_of Tryz.func34 rfl rfl) rfl rfl (iQ m q a u e 1 _ (hm3) hlq) ?_
     intro _ wb xb ⟨qb,er,ob⟩
     subst er
     refine aA ?_
     have hmb:MsgV wb (bareR m 1) qb aH aH aH:=⟨ob.sl,Sl.nil _ _,Sl.nil _ _,Sl.nil _ _⟩
     have hzb:=xb.at hz3
     refine aG (v:=.agg (aW (bareR m 1) qb aH aH aH).toArray) rfl rfl rfl hzb (show aR Tryz.prog 26 13=true by decide +kernel) rfl (cM hmb) ?_
     intro wc pc
     have xc:Ext w wc:=((x03).trans xb).move pc.mv (by rintro k ⟨⟩;exact x1.size)
     refine_lift bG ?_
     refine bodyPost_ret (bH (cs:=aW (bareR m 1) qb aH aH aH) rfl rfl pc.this (show cP Tryz.prog 26 13=true by decide +kernel)) rfl ⟨_,rfl,xc,qb,aH,aH,aH,by rw [hR],?_⟩
     rw [hR]
     exact ⟨(ob.mv pc.mv (.inr (ob.neBlock hzb (by decide)))).weaken (x03).size,Own.nil _ _ _ _,Own.nil _ _ _ _,Own.nil _ _ _ _⟩
   ·have hR:cZ hs m=bareR m 4:=by rw [hR0,if_pos (by simpa using co)]
    refine_lift UD (fun _ _ _ _ _ _ => ?_) (fun _ _ _ _ _ _ => ?_) (fun _ _ _ => ?_)
    all_goals first
     | (exfalso;omega)
     | (exfalso;rename_i hz9;simp at hz9;omega)
     | (exfalso;simp_all;done)
     | skip
    rw [← cr]
    refine aK (enters_of Tryz.func34 rfl rfl) rfl rfl (iQ m q a u e 4 _ (hm3) hlq) ?_
    intro _ wb xb ⟨qb,er,ob⟩
    subst er
    refine aA ?_
    have hmb:MsgV wb (bareR m 4) qb aH aH aH:=⟨ob.sl,Sl.nil _ _,Sl.nil _ _,Sl.nil _ _⟩
    have hzb:=xb.at hz3
    refine aG (v:=.agg (aW (bareR m 4) qb aH aH aH).toArray) rfl rfl rfl hzb (show aR Tryz.prog 26 13=true by decide +kernel) rfl (cM hmb) ?_
    intro wc pc
    have xc:Ext w wc:=((x03).trans xb).move pc.mv (by rintro k ⟨⟩;exact x1.size)
    refine_lift bG ?_
    refine bodyPost_ret (bH (cs:=aW (bareR m 4) qb aH aH aH) rfl rfl pc.this (show cP Tryz.prog 26 13=true by decide +kernel)) rfl ⟨_,rfl,xc,qb,aH,aH,aH,by rw [hR],?_⟩
    rw [hR]
    exact ⟨(ob.mv pc.mv (.inr (ob.neBlock hzb (by decide)))).weaken (x03).size,Own.nil _ _ _ _,Own.nil _ _ _ _,Own.nil _ _ _ _⟩
 ·have hR:cZ hs m=zC:=by unfold cZ;rw [if_pos cc]
  refine_lift RP (fun _ _ _ _ _ _ => ?_) (fun _ _ _ _ _ _ _ => ?_) (fun _ _ _ _ _ _ _ => ?_) (fun _ _ _ => ?_)
  all_goals first
   | (exfalso;omega)
   | (exfalso;rename_i hz9;simp at hz9;omega)
   | (exfalso;simp_all;done)
   | skip
  refine aT (v:=.agg (aW zC aH aH aH aH).toArray) (Runs.build rfl (by kernel_rfl)) ?_
  refine aA ?_
  have hmb:MsgV w3 zC aH aH aH aH:=⟨Sl.nil _ _,Sl.nil _ _,Sl.nil _ _,Sl.nil _ _⟩
  refine aG (v:=.agg (aW zC aH aH aH aH).toArray) rfl rfl rfl hz3 (show aR Tryz.prog 26 13=true by decide +kernel) rfl (cM hmb) ?_
  intro wc pc
  have xc:Ext w wc:=x03.move pc.mv (by rintro k ⟨⟩;exact x1.size)
  refine_lift bG ?_
  refine bodyPost_ret (bH (cs:=aW zC aH aH aH aH) rfl rfl pc.this (show cP Tryz.prog 26 13=true by decide +kernel)) rfl ⟨_,rfl,xc,aH,aH,aH,aH,by rw [hR],?_⟩
  rw [hR]
  exact ⟨Own.nil _ _ _ _,Own.nil _ _ _ _,Own.nil _ _ _ _,Own.nil _ _ _ _⟩
theorem KZ {m:MsgR} (h:HP m=true):∀ r,r ∈ m.an∨r ∈ m.au∨r ∈ m.ex→r.data.length≤4611686018427387904:=by
 have key:∀ l:List Rec,gR l=true→∀ r ∈ l,r.data.length≤4611686018427387904:=by
  intro l hl r hr
  simp only [gR,kE,Bool.and_eq_true,decide_eq_true_eq,List.all_eq_true] at hl
  have:=hl.2 r hr
  omega
 simp only [HP,Bool.and_eq_true] at h
 obtain ⟨_,⟨h1,h2⟩,h3⟩:=h
 rintro r (hr | hr | hr)
 ·exact key _ h1 r hr
 ·exact key _ h2 r hr
 ·exact key _ h3 r hr
theorem TK {hs:List HldR} (h:zE hs=true):∀ x ∈ hs,∀ s ∈ x.l,∀ d ∈ s.data,d.length≤4611686018427387904:=by
 simp only [zE,Bool.and_eq_true,decide_eq_true_eq,List.all_eq_true] at h
 intro x hx s hs d hd
 have:=(yS (h.2 x hx).1.2).2.2.2 s hs d hd
 omega
set_option maxHeartbeats 4000000 in
theorem GG (v:Value) (hs:List HldR) (m:MsgR) (q a u e:Value) (w:World) (hv:HldsAt w v hs) (hm:MsgV w m q a u e):Calls Tryz.prog 3 #[v, .agg (aW m q a u e).toArray] w (bM w (.bool true)):=by
 go_enter Tryz.func3,Tryz.ntmps3
 refine_lift lF fun _ _ => ?_
 refine eK (vs:=aW m q a u e) rfl rfl ?_
 intro w1 x1 s1 hb1
 refine aA ?_
 have hpM:=aE (cs:=aW m q a u e) hb1
 unfold aW at hpM
 have hm1:=hm.ext x1
 refine_lift xI fun _ _ _ _ => ?_
 refine aD (enters_of Tryz.func9 rfl rfl) rfl rfl (QD v hs _ (hv.ext x1)) ?_;intro w2 x2;refine aA ?_
 have x02:=x1.trans x2
 have hpM2:=hpM.ext x2
 cases hF:zE hs with
 | false =>
  refine_lift dJ fun _ _ => ?_
  refine aD (enters_of Tryz.func11 rfl rfl) rfl rfl (DG _) ?_;intro w3 x3;refine aA ?_
  refine_lift bG ?_
  go_ret
  exact ⟨rfl,x02.trans x3⟩
 | true =>
  refine_lift bG ?_
  obtain ⟨hl4,hbH⟩:=TG hF
  have hdH:=TK hF
  refine aD (enters_of Tryz.func10 rfl rfl) rfl rfl (SP m q a u e _ (hm1.ext x2)) ?_;intro w3 x3;refine aA ?_
  have x03:=x02.trans x3
  have hpM3:=hpM2.ext x3
  have hm3:=(hm1.ext x2).ext x3
  cases hF2:HP m with
  | false =>
   refine_lift dJ fun _ _ => ?_
   refine aD (enters_of Tryz.func11 rfl rfl) rfl rfl (DG _) ?_;intro w4 x4;refine aA ?_
   refine_lift bG ?_
   go_ret
   exact ⟨rfl,x03.trans x4⟩
  | true =>
   have hmd:=KZ hF2
   have hcR:∀ w' v',Ext w3 w'→HldsAt w' v' hs→Calls Tryz.prog 13 #[v', .agg (aW m q a u e).toArray] w' (oA w' (NV w' (cZ hs m))):=fun w' v' x' h'=>tJ v' hs m q a u e w' h' (hm3.ext x') (by omega) hbH
   have hcS:∀ w',Ext w3 w'→Calls Tryz.prog 15 #[v, .agg (aW m q a u e).toArray] w' (oA w' (NV w' (cZ hs m))):=fun w' x'=>KY v hs m q a u e w' ((hv.ext x03).ext x') (hm3.ext x') (by omega) hbH hdH hmd
   generalize cZ hs m=RR at *
   refine_lift dJ fun _ _ => ?_
   refine dS (S:=fun w'=>Ext w3 w') (by decide +kernel) ?_
   intro w21 x21 _
   refine iF 0 ?_;refine aA ?_;refine iF 2 ?_;refine aA ?_;refine iF 4 ?_;refine aA ?_;refine iF 5 ?_;refine aA ?_
   refine TT 1 3 6 7 15 17 20 21 (fun b1 b2 b3 b4=>(!b2 || b1) && (!b4 || b2) && (!b4 || b3)) (fun b1 b2 b3 b4 => !b2) (fun b1 b2 b3 b4=>b1 && !b4) (fun b1 b2 b3 b4 => !b4) (fun b1 b2 b3 b4=>b2 && b3) (fun b1 b2 b3 b4 v1 v2 v3 v4 w'=>∃ q1 a1 u1 e1 q2 a2 u2 e2,Ext w3 w'∧(b1=true→HldsAt w' v1 hs)∧(b2=true→v2=.agg (aW RR q1 a1 u1 e1).toArray∧MsgV w' RR q1 a1 u1 e1)∧(b3=true→v3=.agg (aW RR q2 a2 u2 e2).toArray∧MsgV w' RR q2 a2 u2 e2)∧(b4=true→v4=.bool true)) ?_ ?_ ?_ ?_ ?_ ?_
   ·exact ⟨undef,undef,undef,undef,undef,undef,undef,undef,x21,by simp,by simp,by simp,by simp⟩
   ·rintro b1 b2 b3 b4 v1 v2 v3 v4 w5 hq ⟨q1,a1,u1,e1,q2,a2,u2,e2,x5,f1,f2,f3,f4⟩
    refine aA ?_
    refine aK (enters_of Tryz.func14 rfl rfl) rfl rfl (OB v hs _ ((hv.ext x03).ext x5) (by omega)) ?_
    intro v6 w6 x6 h6
    refine aA ?_
    exact aJ ⟨x5.trans x6,_,rfl,q1,a1,u1,e1,q2,a2,u2,e2,x5.trans x6,fun _=>h6,fun e=>⟨(f2 e).1,(f2 e).2.ext x6⟩,fun e=>⟨(f3 e).1,(f3 e).2.ext x6⟩,f4⟩
   ·rintro b1 b2 b3 b4 v1 v2 v3 v4 w5 hq ⟨q1,a1,u1,e1,q2,a2,u2,e2,x5,f1,f2,f3,f4⟩
    have hb1:b1=true:=by revert hq;cases b1 <;> simp
    subst hb1
    refine aA ?_
    refine aK (enters_of Tryz.func13 rfl rfl) rfl rfl (hcR _ _ x5 (f1 rfl)) ?_
    rintro _ w6 x6 ⟨q1',a1',u1',e1',rfl,hm6⟩
    refine aA ?_
    exact aJ ⟨x5.trans x6,_,rfl,q1',a1',u1',e1',q2,a2,u2,e2,x5.trans x6,fun _=>(f1 rfl).ext x6,fun _=>⟨rfl,hm6.msg⟩,fun e=>⟨(f3 e).1,(f3 e).2.ext x6⟩,f4⟩
   ·rintro b1 b2 b3 b4 v1 v2 v3 v4 w5 hq ⟨q1,a1,u1,e1,q2,a2,u2,e2,x5,f1,f2,f3,f4⟩
    refine aA ?_
    refine aK (enters_of Tryz.func15 rfl rfl) rfl rfl (hcS _ x5) ?_
    rintro _ w6 x6 ⟨q2',a2',u2',e2',rfl,hm6⟩
    refine aA ?_
    exact aJ ⟨x5.trans x6,_,rfl,q1,a1,u1,e1,q2',a2',u2',e2',x5.trans x6,fun e=>(f1 e).ext x6,fun e=>⟨(f2 e).1,(f2 e).2.ext x6⟩,fun _=>⟨rfl,hm6.msg⟩,f4⟩
   ·rintro b1 b2 b3 b4 v1 v2 v3 v4 w5 hq ⟨q1,a1,u1,e1,q2,a2,u2,e2,x5,f1,f2,f3,f4⟩
    have hb2:b2=true:=by revert hq;cases b2 <;> simp
    have hb3:b3=true:=by revert hq;cases b3 <;> simp
    subst hb2 hb3
    obtain ⟨rfl,g2⟩:=f2 rfl
    obtain ⟨rfl,g3⟩:=f3 rfl
    refine aA ?_
    have hs6:=PQ RR RR q1 a1 u1 e1 q2 a2 u2 e2 _ g2 g3
    rw [decide_eq_true rfl] at hs6
    refine aD (enters_of Tryz.func12 rfl rfl) rfl rfl (hs6) ?_;intro w6 x6;refine aA ?_
    exact aJ ⟨x5.trans x6,_,rfl,q1,a1,u1,e1,q2,a2,u2,e2,x5.trans x6,fun _=>(f1 (by first | rfl | assumption)).ext x6,fun _=>⟨rfl,g2.ext x6⟩,fun _=>⟨rfl,g3.ext x6⟩,fun _=>rfl⟩
   ·rintro v1 v2 v3 v4 w9 ⟨q1,a1,u1,e1,q2,a2,u2,e2,x9,f1,f2,f3,f4⟩
    have k4:=f4 rfl
    clear f1 f2 f3 f4
    subst k4
    refine aA ?_
    refine iF 8 ?_;refine aA ?_
    refine cA (i:=9) (by decide +kernel) rfl rfl ?_
    refine_lift bG ?_
    refine aD (enters_of Tryz.func11 rfl rfl) rfl rfl (DG _) ?_;intro w30 x30;refine aA ?_
    refine aJ ⟨x9.trans x30,?_⟩
    refine iF 10 ?_;refine aA ?_;refine iF 11 ?_;refine aA ?_
    refine dK (by decide +kernel) ?_
    refine_lift bG ?_
    go_ret
    exact ⟨rfl,x03.trans (x9.trans x30)⟩
open Go.ChangeShapes Go.WideShapes Go.ChangeAt Go.RowKit
set_option maxRecDepth 100000 in
theorem rY (os:Os) (started:os.Started) (H:Type) (enc:TypeId × Value→H) :
 ReturnsInHanded {} Tryz.checked os 3 .any (YtgljkfpcadempaaGreat.Rows.authRepliesSpec.pre6 enc Tryz.prog Tryz.f3 YtgljkfpcadempaaGreat.Rows.authRepliesRow.domain false) (YtgljkfpcadempaaGreat.Rows.authRepliesSpec.post enc Tryz.prog Tryz.f3 false true false false):=by
 refine returnsInHanded_of_change (C:=Tryz.checked) own started (by kernel_rfl) Tryz.func3
  (ChangeSpec.witness6 (enc:=enc) (C:=Tryz.checked) false ⟨#[],#[.slice none 0 0, .agg #[.int .i64 0, .bool false, .int .i64 0, .bool false, .bool false, .bool false, .bool false, .int .i64 0, .slice none 0 0, .slice none 0 0, .slice none 0 0, .slice none 0 0, .int .i64 0]],[]⟩ 8 (by kernel_rfl) (by kernel_rfl) (by kernel_rfl) (by kernel_rfl)) ?_
 intro W base args ds gs before hval0 hW hcnd _
 have hW':=hW
 obtain ⟨p,q,hA0,hV,rfl,hfz,hnd⟩:=hW
 have hA:DataW.TrodAll enc Tryz.prog W 0 (fun _=>true) true Tryz.f3.params.toList args.toList ds p:=hA0
 have hval:∀ (j:Nat) t v,Tryz.f3.params[j]? = some t→args[j]? = some v→Value.okWide Tryz.prog W .any base t v:=hval0
 rw [Tryz.params3] at hA hval
 obtain ⟨v0,vs0,d0,ds0,p0,q0,hargs,rfl,rfl,h0,r0⟩:=trodAll_cons hA
 obtain ⟨v1,vs1,d1,ds1,p1,q1,rfl,rfl,rfl,h1,r1⟩:=trodAll_cons r0
 obtain ⟨rfl,rfl,rfl⟩:=trodAll_nil r1
 obtain rfl:args=#[v0,v1]:=by cases args;simp_all
 obtain ⟨rfl,rfl⟩:=trodVars_none hV
 have k0:=h0
 have k1:=h1
 have lt0:∀ x ∈ p0,x.block < W.heap.size:=by obtain ⟨m,hm⟩:=k0;exact DataW.trod_lt m _ _ _ hm
 have lt1:∀ x ∈ p1,x.block < W.heap.size:=by obtain ⟨m,hm⟩:=k1;exact DataW.trod_lt m _ _ _ hm
 obtain ⟨a0,len0,cap0,rfl⟩:=okWide_slice Tryz.underlying22 (hval 0 22 v0 rfl rfl)
 obtain ⟨l0,g0⟩:∃ hs,HldsAt W (.slice a0 len0 cap0) hs:=by
  obtain ⟨fuel,hf⟩:=h0
  exact HT hf
 obtain ⟨c1,rfl,z1⟩:=okWide_struct Tryz.underlying26 (hval 1 26 v1 rfl rfl)
 obtain ⟨m1,a1,b1,u1,x1,e1,g1⟩:∃ (m:MsgR) (q a u e:Value),c1=(aW m q a u e).toArray∧MsgV W m q a u e:=by
  obtain ⟨fuel,hf⟩:=h1
  obtain ⟨m,q,a,u,e,e1,hu⟩:=NF (cl:=c1.toList) hf
  exact ⟨m,q,a,u,e,by simpa using congrArg List.toArray e1,hu⟩
 subst e1
 clear hA0 hval0
 have h9:=GG _ l0 m1 a1 b1 u1 x1 W g0 g1
 refine h9.mono fun e W' ⟨he,hx⟩ => ?_
 subst he
 have bel:=hx.below
 exact ⟨_,rfl,_,_,_,[],_,[],hW',trodAll_mk1 (shut_bool Tryz.underlying4 _),(trodAll_cons_mk (Below.trod IR (by kernel_rfl) (of_decide_eq_true (by kernel_rfl)) k0 bel lt0) (trodAll_cons_mk (Below.trod IR (by kernel_rfl) (of_decide_eq_true (by kernel_rfl)) k1 bel lt1) trodAll_mk0)),rfl,bel.frame _,fun h=>by cases h⟩
theorem QF:Tryz.checked.prog.mayEnter=true:=by kernel_rfl
theorem TL:(YtgljkfpcadempaaGreat.Rows.authRepliesRow.lifted == Tryz.checked.prog.liftsFinal)=true:=by kernel_rfl
theorem TM:(Tryz.checked.prog.make == some YtgljkfpcadempaaGreat.Rows.authRepliesRow.make)=true:=by kernel_rfl
theorem rZ:joinedFacts Tryz.checked.prog 3 Tryz.f3 YtgljkfpcadempaaGreat.Rows.authRepliesSpec YtgljkfpcadempaaGreat.Rows.authRepliesRow=true:=by
 unfold joinedFacts
 simp only [Bool.and_eq_true]
 repeat' (refine And.intro ?_ ?_)
 all_goals first | (with_reducible exact QF) | (with_reducible exact TL) | (with_reducible exact TM) | kernel_rfl
theorem authReplies_holds:YtgljkfpcadempaaGreat.Rows.AuthRepliesSaid :=
 OpenClaim.holds_of_wide 3 Tryz.f3 rfl rfl rfl rfl rfl rfl rfl ⟨rfl,rfl,rfl,rfl,rfl⟩ rfl rfl rfl rfl rfl (by kernel_rfl) Tryz.func3 rZ
  (of_decide_eq_true (by kernel_rfl)) (by unfold Func.isWrapper;first | (rw [if_pos (by decide +kernel)];kernel_rfl) | (rw [if_neg (by decide +kernel)];exact ⟨rfl,rfl⟩))
  (fun os started H enc _=>rY os started H enc)
end Go.Proofs.X
