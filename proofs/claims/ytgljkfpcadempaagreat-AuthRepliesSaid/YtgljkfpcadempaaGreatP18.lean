/- Laws and walks that the proof of the statement is made of (part 18). -/
import Derived.Test.YtgljkfpcadempaaGreatP17
set_option linter.unusedSimpArgs false
set_option linter.unusedVariables false
namespace Go.Proofs.X
open Go.RowKit
set_option maxRecDepth 100000
def zC:MsgR:={ zeroM with resp:=true,rcode:=1 }
def gH (m:MsgR) (a:AnsR):MsgR:={ bareR m 0 with rcode:=if a.kind=2 then 3 else 0,auth := !decide (a.kind=3),an:=a.ans,au:=a.auth,ex:=a.extra }
def NT (m:MsgR) (h:HldR) (x:qS):MsgR:=if h.up=false∨mV h.o h.l x.1≠0∨h.o≠fold h.org then bareR m 2 else gH m (pQ h.o h.l x.1 x.2)
def cZ (hs:List HldR) (m:MsgR):MsgR :=
 if dH m≠0 then zC else if m.resp=true then bareR m 1 else if m.op≠0 then bareR m 4 else if m.qs.length≠1 then bareR m 1
 else if m.qs.head!.2=252∨m.qs.head!.2=251 then bareR m 4
 else match OF hs m.qs.head!.1 with
  | none=>bareR m 5
  | some i=>NT m hs[i]! m.qs.head!
theorem DE (n:List UInt8):∀ (l:List HldR) (k:Nat) (b:Option Nat) (most:Int) (i:Nat),uH n l k b most=some i→b=some i∨(k≤i∧i < k + l.length)
 | [],k,b,most,i,h=>.inl h
 | x :: l,k,b,most,i,h=>by
   unfold uH at h
   split at h
   ·rcases DE n l (k + 1) _ _ i h with e | e
    ·cases e
     exact .inr ⟨by omega,by simp⟩
    ·exact .inr ⟨by omega,by simp;omega⟩
   ·rcases DE n l (k + 1) _ _ i h with e | e
    ·exact .inl e
    ·exact .inr ⟨by omega,by simp;omega⟩
theorem NU {hs:List HldR} {n:List UInt8} {i:Nat} (h:OF hs n=some i):i < hs.length:=by
 rcases DE n hs 0 none (-1) i h with e | e
 ·cases e
 ·omega
structure MsgW (B:Nat) (w:World) (m:MsgR) (q a u e:Value):Prop where
 oq:Own B 2 54 w q (cU m.qs)
 oa:Own B 4 106 w a (aO m.an)
 ou:Own B 4 106 w u (aO m.au)
 oe:Own B 4 106 w e (aO m.ex)
theorem MsgW.msg {B:Nat} {w:World} {m:MsgR} {q a u e:Value} (h:MsgW B w m q a u e):MsgV w m q a u e:=⟨h.oq.sl,h.oa.sl,h.ou.sl,h.oe.sl⟩
theorem MsgW.ext {B:Nat} {w w':World} {m:MsgR} {q a u e:Value} (h:MsgW B w m q a u e) (x:Ext w w'):MsgW B w' m q a u e:=⟨h.oq.ext x,h.oa.ext x,h.ou.ext x,h.oe.ext x⟩
theorem MsgW.weaken {B C:Nat} {w:World} {m:MsgR} {q a u e:Value} (h:MsgW B w m q a u e) (x:C≤B):MsgW C w m q a u e:=⟨h.oq.weaken x,h.oa.weaken x,h.ou.weaken x,h.oe.weaken x⟩
theorem MsgW.box {B b:Nat} {w w':World} {m:MsgR} {q a u e:Value} {cs:Array Value} {fz:Nat × Nat} (h:MsgW B w m q a u e) (hb:w.heap[b]? = some (.cells cs 26 fz)) (hm:Mv (some b) w w'):MsgW B w' m q a u e :=
 ⟨h.oq.mv hm (.inr (h.oq.neBlock hb (by decide))),h.oa.mv hm (.inr (h.oa.neBlock hb (by decide))),h.ou.mv hm (.inr (h.ou.neBlock hb (by decide))),h.oe.mv hm (.inr (h.oe.neBlock hb (by decide)))⟩
def NV (w:World) (M:MsgR):Value→World→Prop:=fun r w'=>∃ q a u e,r=.agg (aW M q a u e).toArray∧MsgW w.heap.size w' M q a u e
set_option maxHeartbeats 4000000 in
theorem tJ (v:Value) (hs:List HldR) (m:MsgR) (q a u e:Value) (w:World) (hv:HldsAt w v hs) (hm:MsgV w m q a u e) (hl:hs.length≤1000) (hb:∀ h ∈ hs,∀ s ∈ h.l,s.data.length≤1000000):Calls Tryz.prog 13 #[v, .agg (aW m q a u e).toArray] w (oA w (NV w (cZ hs m))):=by
 obtain ⟨css,hsl,hcl⟩:=hv.sl
 go_enter Tryz.func13,Tryz.ntmps13
 refine_lift lF fun _ _ => ?_
 refine eK (vs:=aW m q a u e) rfl rfl ?_
 intro w1 x1 s1 hb1
 refine aA ?_
 refine aL (z:=gO) rfl (by decide +kernel) ?_
 intro w2 x2 s2 hz2
 refine aA ?_
 have x02:=x1.trans x2
 have hpM:=aE (cs:=aW m q a u e) (x2.at hb1)
 unfold aW at hpM
 have hm2:=hm.ext x02
 refine_lift xI fun _ _ _ _ => ?_
 refine aD (enters_of Tryz.func21 rfl rfl) rfl rfl (yU m q a u e _ hm2) ?_;intro w3 x3;refine aA ?_
 have x03:=x02.trans x3
 have hz3:=x3.at hz2
 have hm3:=hm2.ext x3
 have hpM:=hpM.ext x3
 by_cases cc:dH m=0
 ·have hok:=qN cc
  have hlq:m.qs.length≤1000:=by have:=hok.ql;omega
  have hql:=cI m.qs
  cases cr:m.resp with
  | true =>
   have hR:cZ hs m=bareR m 1:=by unfold cZ;rw [if_neg (by simpa using cc),if_pos cr]
   rw [cr] at hpM
   refine_lift oZ (fun _ _ _ => ?_) (fun _ _ _ => ?_)
   all_goals first
    | (exfalso;omega)
    | (exfalso;rename_i hz9;simp at hz9;omega)
    | (exfalso;simp_all;done)
    | skip
   rw [← cr]
   refine aK (enters_of Tryz.func29 rfl rfl) rfl rfl (mI m q a u e 1 _ (hm3) hlq) ?_
   intro _ wb xb ⟨qb,er,ob⟩
   subst er
   refine aA ?_
   have hmb:MsgV wb (bareR m 1) qb aH aH aH:=⟨ob.sl,Sl.nil _ _,Sl.nil _ _,Sl.nil _ _⟩
   have hzb:=xb.at hz3
   refine aG (v:=.agg (aW (bareR m 1) qb aH aH aH).toArray) rfl rfl rfl hzb (show aR Tryz.prog 26 13=true by decide +kernel) rfl (cM hmb) ?_
   intro wc pc
   have xc:Ext w wc:=((x03).trans xb).move pc.mv (by rintro k ⟨⟩;exact x1.size)
   refine_lift bG ?_
   refine bodyPost_ret (bH (cs:=aW (bareR m 1) qb aH aH aH) rfl rfl pc.this (show cP Tryz.prog 26 13=true by decide +kernel)) rfl ⟨_,rfl,xc,qb,aH,aH,aH,by rw [hR],?_⟩
   rw [hR]
   exact ⟨(ob.mv pc.mv (.inr (ob.neBlock hzb (by decide)))).weaken (x03).size,Own.nil _ _ _ _,Own.nil _ _ _ _,Own.nil _ _ _ _⟩
  | false =>
   have hR0:cZ hs m=_:=rfl
   conv at hR0=>rhs;unfold cZ;rw [if_neg (by simpa using cc),if_neg (by rw [cr];decide)]
   rw [cr] at hpM
   by_cases co:m.op=0
   ·rw [if_neg (by simpa using co)] at hR0
    have hq3:=hm3.qs
    by_cases c1:m.qs.length=1
    ·rw [if_neg (by simpa using c1)] at hR0
     obtain ⟨⟨xn,xk⟩,hx1⟩:∃ x,m.qs=[x]:=List.length_eq_one_iff.1 c1
     have hxh:m.qs.head! = (xn,xk):=by rw [hx1];rfl
     rw [hxh] at hR0
     dsimp only at hR0
     have hqe:=hq3.elem (i:=0) (e:=[aI xn, .int .i64 xk]) (by rw [hx1];rfl)
     refine_lift GQ (fun _ _ _ _ => ?_) (fun _ _ _ _ _ => ?_) (fun _ _ _ _ _ => ?_) (fun _ _ _ => ?_)
     all_goals first
      | (exfalso;omega)
      | (exfalso;rename_i hz9;simp at hz9;omega)
      | (exfalso;simp_all;done)
      | skip
     refine aL (z:=[aI [], .int .i64 0]) rfl (by decide +kernel) ?_
     intro w4 x4 s4 h4
     refine aA ?_
     refine aG (v:=.agg #[aI xn, .int .i64 xk]) rfl rfl rfl h4 (show aR Tryz.prog 54 2=true by decide +kernel) rfl (QB rfl rfl) ?_
     intro w5 p5
     have x5:Ext w3 w5:=x4.move p5.mv (by rintro k ⟨⟩;exact Nat.le_refl _)
     have hpx:=aE (cs:=[aI xn, .int .i64 xk]) p5.this
     have hpM:=hpM.ext x5
     have hm5:=hm3.ext x5
     have hz5:=x5.at hz3
     have x05:=x03.trans x5
     clear p5 h4 x4 hqe
     generalize w3.heap.size=c at *
     by_cases ct:xk=252∨xk=251
     ·have hR:cZ hs m=bareR m 4:=by rw [hR0,if_pos ct]
      refine_lift RT (fun _ _ hc _ _ => ?_) (fun _ _ hc _ _ _ => ?_)
      all_goals first
       | (exfalso;omega)
       | skip
      all_goals rw [← cr]
      all_goals refine aK (enters_of Tryz.func29 rfl rfl) rfl rfl (mI m q a u e 4 _ (hm5) hlq) ?_
      all_goals intro _ wb xb ⟨qb,er,ob⟩
      all_goals subst er
      all_goals refine aA ?_
      all_goals have hmb:MsgV wb (bareR m 4) qb aH aH aH:=⟨ob.sl,Sl.nil _ _,Sl.nil _ _,Sl.nil _ _⟩
      all_goals have hzb:=xb.at hz5
      all_goals refine aG (v:=.agg (aW (bareR m 4) qb aH aH aH).toArray) rfl rfl rfl hzb (show aR Tryz.prog 26 13=true by decide +kernel) rfl (cM hmb) ?_
      all_goals intro wc pc
      all_goals have xc:Ext w wc:=((x05).trans xb).move pc.mv (by rintro k ⟨⟩;exact x1.size)
      all_goals refine_lift bG ?_
      all_goals refine bodyPost_ret (bH (cs:=aW (bareR m 4) qb aH aH aH) rfl rfl pc.this (show cP Tryz.prog 26 13=true by decide +kernel)) rfl ⟨_,rfl,xc,qb,aH,aH,aH,by rw [hR],?_⟩
      all_goals rw [hR]
      all_goals exact ⟨(ob.mv pc.mv (.inr (ob.neBlock hzb (by decide)))).weaken (x05).size,Own.nil _ _ _ _,Own.nil _ _ _ _,Own.nil _ _ _ _⟩
     ·rw [if_neg ct] at hR0
      refine_lift UF (fun _ _ hc _ _ => ?_) (fun hc _ _ _ => ?_)
      all_goals first
       | (exfalso;omega)
       | skip
      refine aD (enters_of Tryz.func30 rfl rfl) rfl rfl (WN v hs xn _ (hv.ext x05) hl) ?_;intro w6 x6;refine aA ?_
      have hpM:=hpM.ext x6
      have hpx:=hpx.ext x6
      have hm6:=hm5.ext x6
      have hz6:=x6.at hz5
      have x06:=x05.trans x6
      cases hof:OF hs xn with
      | none =>
       rw [hof] at hR0
       have hR:cZ hs m=bareR m 5:=hR0
       refine_lift xI fun _ _ _ _ => ?_
       rw [← cr]
       refine aK (enters_of Tryz.func29 rfl rfl) rfl rfl (mI m q a u e 5 _ (hm6) hlq) ?_
       intro _ wb xb ⟨qb,er,ob⟩
       subst er
       refine aA ?_
       have hmb:MsgV wb (bareR m 5) qb aH aH aH:=⟨ob.sl,Sl.nil _ _,Sl.nil _ _,Sl.nil _ _⟩
       have hzb:=xb.at hz6
       refine aG (v:=.agg (aW (bareR m 5) qb aH aH aH).toArray) rfl rfl rfl hzb (show aR Tryz.prog 26 13=true by decide +kernel) rfl (cM hmb) ?_
       intro wc pc
       have xc:Ext w wc:=((x06).trans xb).move pc.mv (by rintro k ⟨⟩;exact x1.size)
       refine_lift bG ?_
       refine bodyPost_ret (bH (cs:=aW (bareR m 5) qb aH aH aH) rfl rfl pc.this (show cP Tryz.prog 26 13=true by decide +kernel)) rfl ⟨_,rfl,xc,qb,aH,aH,aH,by rw [hR],?_⟩
       rw [hR]
       exact ⟨(ob.mv pc.mv (.inr (ob.neBlock hzb (by decide)))).weaken (x06).size,Own.nil _ _ _ _,Own.nil _ _ _ _,Own.nil _ _ _ _⟩
      | some i =>
       rw [hof] at hR0
       dsimp only at hR0
       have hil:=NU hof
       have hbang:hs[i]! = hs[i]:=getElem!_pos hs i hil
       rw [hbang] at hR0
       obtain ⟨y,hel,hsy⟩:=(hv.ext x06).elem (List.getElem?_eq_getElem hil)
       have hbi:=hb _ (List.getElem_mem hil)
       generalize hs[i]=H at *
       obtain ⟨ep,hep⟩:∃ ep,WM v (some i)=ep:=⟨_,rfl⟩
       have hep2:dN v (i * 4)=ep:=hep
       rw [hep]
       rw [hep2] at hel
       obtain ⟨pb,po,hpe⟩:∃ pb po,ep=.pointer (some ⟨pb,po,none⟩):=by obtain ⟨b,o,h,_⟩:=hel.out;exact ⟨b,o,h⟩
       subst hpe
       refine_lift dJ fun _ _ => ?_
       have hH:NT m H (xn,xk)=if H.up=false∨mV H.o H.l xn≠0∨H.o≠fold H.org then bareR m 2 else gH m (pQ H.o H.l xn xk):=rfl
       rw [hH] at hR0
       have hcA:∀ w',Ext w6 w'→Calls Tryz.prog 31 #[.agg #[aI H.o,y], .agg #[aI xn, .int .i64 xk]] w' (oA w' fun r w3=>∃ z,r=.tuple #[z, .int .i64 (mV H.o H.l xn)]∧AnsO w'.heap.size (pQ H.o H.l xn xk) z w3):=fun w' x'=>VA H.o y H.l xn xk w' (hsy.ext x') hbi
       generalize mV H.o H.l xn=E at *
       generalize pQ H.o H.l xn xk=A at *
       have hel0:Pts w6 (dT (.pointer (some ⟨pb,po,none⟩)) 0) [aI H.o,y]:=(hel.front 2).part 0
       refine dS (S:=fun w'=>Ext w6 w') (by decide +kernel) ?_
       intro w21 x21 hh21
       refine iF 0 ?_;refine aA ?_;refine iF 1 ?_;refine aA ?_;refine iF 2 ?_;refine aA ?_;refine iF 3 ?_;refine aA ?_;refine iF 4 ?_;refine aA ?_
       refine OM 5 6 7 8 9 10 61 55 62 63 7 (fun b1 b2 b3 b4 b5 b6=>(!b2 || b1) && (!b3 || b2) && (!b4 || b2) && (!b6 || b1) && (!b6 || b3) && (!b6 || b5)) (fun b1 b2 b3 b4 b5 b6 => !b2 && !b6) (fun b1 b2 b3 b4 b5 b6=>b1 && !b3 && !b4) (fun b1 b2 b3 b4 b5 b6=>b2 && !b6) (fun b1 b2 b3 b4 b5 b6=>b2) (fun b1 b2 b3 b4 b5 b6 => !b6) (fun b1 b2 b3 b4 b5 b6=>b1 && b3 && b5) (fun b1 b2 b3 b4 b5 b6 v1 v2 v3 v4 v5 w'=>∃ u1 u2 u3 zk,Ext w6 w'∧(b1=true→v1=.tuple #[.agg #[.int .i64 A.kind,u1,u2,u3], .int .i64 E]∧Own w6.heap.size 4 106 w' u1 (aO A.ans)∧Own w6.heap.size 4 106 w' u2 (aO A.auth)∧Own w6.heap.size 4 106 w' u3 (aO A.extra))∧(b2=true→v2=.tuple #[.agg #[.int .i64 A.kind,u1,u2,u3], .int .i64 E])∧(b3=true→v3=.agg #[.int .i64 A.kind,u1,u2,u3])∧(b4=true→v4=.int .i64 E)∧(b5=true→v5=.pointer (some ⟨zk,0,none⟩)∧w6.heap.size≤zk∧w'.heap[zk]? = some (.cells (bif b6 then [.int .i64 A.kind,u1,u2,u3] else kN).toArray 71 (0,0)))) ?_ ?_ ?_ ?_ ?_ ?_ ?_ ?_
       ·exact ⟨undef,undef,undef,0,x21,by simp,by simp,by simp,by simp,by simp⟩
       ·rintro b1 b2 b3 b4 b5 b6 v1 v2 v3 v4 v5 w2 hq ⟨u1,u2,u3,zk,x2,f1,f2,f3,f4,f5⟩
        have hb2:b2=false:=by revert hq;cases b2 <;> simp
        have hb6:b6=false:=by revert hq;cases b6 <;> simp
        have hb3:b3=false:=by revert hq;subst hb2;cases b3 <;> simp
        have hb4:b4=false:=by revert hq;subst hb2;cases b4 <;> simp
        subst hb2 hb3 hb4 hb6
        refine aA ?_
        refine aK (enters_of Tryz.func31 rfl rfl) rfl rfl (hcA _ x2) ?_
        rintro _ w3 x3 ⟨z,rfl,u1',u2',u3',rfl,o1,o2,o3⟩
        refine aA ?_
        refine aJ ⟨x2.trans x3,_,rfl,u1',u2',u3',zk,x2.trans x3,fun _=>⟨rfl,o1.weaken x2.size,o2.weaken x2.size,o3.weaken x2.size⟩,by simp,by simp,by simp,fun e => ?_⟩
        obtain ⟨g1,g2,g3⟩:=f5 e
        exact ⟨g1,g2,x3.at g3⟩
       ·rintro b1 b2 b3 b4 b5 b6 v1 v2 v3 v4 v5 w2 hq ⟨u1,u2,u3,zk,x2,f1,f2,f3,f4,f5⟩
        have hb1:b1=true:=by revert hq;cases b1 <;> simp
        have hb3:b3=false:=by revert hq;cases b3 <;> simp
        have hb4:b4=false:=by revert hq;cases b4 <;> simp
        subst hb1 hb3 hb4
        obtain ⟨rfl,g1⟩:=f1 rfl
        refine aA ?_
        ((with_reducible refine cJ ?_);(first | (refine jO ?_;refine fV ?_) | (refine oN ?_;refine qV ?_;(with_reducible refine cJ ?_);refine jO ?_;refine fV ?_)))
        refine aJ ⟨x2,_,rfl,u1,u2,u3,zk,x2,fun _=>⟨rfl,g1⟩,fun _=>rfl,by simp,by simp,f5⟩
       ·rintro b1 b2 b3 b4 b5 b6 v1 v2 v3 v4 v5 w2 hq ⟨u1,u2,u3,zk,x2,f1,f2,f3,f4,f5⟩
        have hb2:b2=true:=by revert hq;cases b2 <;> simp
        have hb6:b6=false:=by revert hq;cases b6 <;> simp
        subst hb2 hb6
        have g2:=f2 rfl
        subst g2
        refine aA ?_
        ((with_reducible refine cJ ?_);(first | (refine jO ?_;refine fV ?_) | (refine oN ?_;refine qV ?_;(with_reducible refine cJ ?_);refine jO ?_;refine fV ?_)))
        refine aJ ⟨x2,_,rfl,u1,u2,u3,zk,x2,f1,fun _=>rfl,fun _=>rfl,f4,f5⟩
       ·rintro b1 b2 b3 b4 b5 b6 v1 v2 v3 v4 v5 w2 hq ⟨u1,u2,u3,zk,x2,f1,f2,f3,f4,f5⟩
        have hb2:b2=true:=by revert hq;cases b2 <;> simp
        subst hb2
        have g2:=f2 rfl
        subst g2
        refine aA ?_
        ((with_reducible refine cJ ?_);(first | (refine jO ?_;refine fV ?_) | (refine oN ?_;refine qV ?_;(with_reducible refine cJ ?_);refine jO ?_;refine fV ?_)))
        refine aJ ⟨x2,_,rfl,u1,u2,u3,zk,x2,f1,fun _=>rfl,f3,fun _=>rfl,f5⟩
       ·rintro b1 b2 b3 b4 b5 b6 v1 v2 v3 v4 v5 w2 hq ⟨u1,u2,u3,zk,x2,f1,f2,f3,f4,f5⟩
        have hb6:b6=false:=by revert hq;cases b6 <;> simp
        subst hb6
        refine aA ?_
        refine aL (z:=kN) rfl (by decide +kernel) ?_
        intro w3 x3 s3 h3
        refine aA ?_
        refine aJ ⟨x2.trans x3,_,rfl,u1,u2,u3,_,x2.trans x3,fun e => ?_,f2,f3,f4,fun _=>⟨rfl,x2.size,h3⟩⟩
        obtain ⟨g1,g2,g3,g4⟩:=f1 e
        exact ⟨g1,g2.ext x3,g3.ext x3,g4.ext x3⟩
       ·rintro b1 b2 b3 b4 b5 b6 v1 v2 v3 v4 v5 w2 hq ⟨u1,u2,u3,zk,x2,f1,f2,f3,f4,f5⟩
        have hb1:b1=true:=by revert hq;cases b1 <;> simp
        have hb3:b3=true:=by revert hq;cases b3 <;> simp
        have hb5:b5=true:=by revert hq;cases b5 <;> simp
        subst hb1 hb3 hb5
        have g3:=f3 rfl
        subst g3
        obtain ⟨rfl,g5,g6⟩:=f5 rfl
        obtain ⟨e1,o1,o2,o3⟩:=f1 rfl
        refine aA ?_
        refine aG (v:=.agg #[.int .i64 A.kind,u1,u2,u3]) rfl rfl rfl g6 (show aR Tryz.prog 71 4=true by decide +kernel) rfl (eR rfl o1.one o2.one o3.one) ?_
        intro w3 p3
        have x3:Ext w6 w3:=x2.move p3.mv (by rintro k ⟨⟩;exact g5)
        refine aJ ⟨x3,rfl,u1,u2,u3,zk,x3,fun _=>⟨e1,o1.mv p3.mv (.inr (o1.neBlock g6 (by decide))),o2.mv p3.mv (.inr (o2.neBlock g6 (by decide))),o3.mv p3.mv (.inr (o3.neBlock g6 (by decide)))⟩,f2,fun _=>rfl,f4,fun _=>⟨rfl,g5,p3.this⟩⟩
       ·rintro v1 v2 v3 v4 v5 w9 ⟨u1,u2,u3,zk,x9,f1,f2,f3,f4,f5⟩
        obtain ⟨g1,o1,o2,o3⟩:=f1 rfl
        have k2:=f2 rfl
        have k3:=f3 rfl
        have k4:=f4 rfl
        obtain ⟨k5,k6,k7⟩:=f5 rfl
        clear f1 f2 f3 f4 f5
        subst g1 k2 k3 k4 k5
        refine aA ?_
        refine iF 11 ?_;refine aA ?_
        refine dK (by decide +kernel) ?_
        have k7':w9.heap[zk]? = some (.cells [.int .i64 A.kind,u1,u2,u3].toArray 71 (0,0)):=k7
        have hpa:=aE (cs:=[.int .i64 A.kind,u1,u2,u3]) k7'
        have hpM:=hpM.ext x9
        have hel:=hel.ext x9
        have hm9:=hm6.ext x9
        have hz9:=x9.at hz6
        have x09:=x06.trans x9
        clear k7 hcA hpx x21 hh21
        clear hel0
        have hcF:∀ w',Calls Tryz.prog 32 #[aI H.org] w' (bM w' (aI (fold H.org))):=fun w'=>LR H.org w'
        refine_lift xI fun _ _ _ _ => ?_
        cases hup:H.up with
        | false =>
         rw [hup] at hel hR0
         rw [if_pos (.inl rfl)] at hR0
         refine cB (by decide +kernel) (by decide +kernel) ?_
         refine_lift qR ?_
         intro w10 x10
         have hpM:=hpM.ext x10
         refine_lift dJ fun _ _ => ?_
         rw [← cr]
         refine aK (enters_of Tryz.func29 rfl rfl) rfl rfl (mI m q a u e 2 _ (hm9.ext x10) hlq) ?_
         intro _ wb xb ⟨qb,er,ob⟩
         subst er
         refine aA ?_
         have hmb:MsgV wb (bareR m 2) qb aH aH aH:=⟨ob.sl,Sl.nil _ _,Sl.nil _ _,Sl.nil _ _⟩
         have hzb:=xb.at (x10.at hz9)
         refine aG (v:=.agg (aW (bareR m 2) qb aH aH aH).toArray) rfl rfl rfl hzb (show aR Tryz.prog 26 13=true by decide +kernel) rfl (cM hmb) ?_
         intro wc pc
         have xc:Ext w wc:=((x09.trans x10).trans xb).move pc.mv (by rintro k ⟨⟩;exact x1.size)
         refine_lift bG ?_
         refine bodyPost_ret (bH (cs:=aW (bareR m 2) qb aH aH aH) rfl rfl pc.this (show cP Tryz.prog 26 13=true by decide +kernel)) rfl ⟨_,rfl,xc,qb,aH,aH,aH,by rw [hR0],?_⟩
         rw [hR0]
         exact ⟨(ob.mv pc.mv (.inr (ob.neBlock hzb (by decide)))).weaken (x09.trans x10).size,Own.nil _ _ _ _,Own.nil _ _ _ _,Own.nil _ _ _ _⟩
        | true =>
         rw [hup] at hel hR0
         by_cases hE0:E=0
         ·refine cB (by decide +kernel) (by decide +kernel) ?_
          refine_lift qR ?_
          rw [show (!decide (E=0))=false by rw [hE0];rfl]
          refine_lift qR ?_
          refine dX (enters_of Tryz.func32 rfl rfl) rfl rfl (fun w' x'=>hcF w') ?_
          refine aA ?_
          refine_lift qR ?_
          intro w10 x10
          have hpM:=hpM.ext x10
          have hpa:=hpa.ext x10
          have hm10:=hm9.ext x10
          have hz10:=x10.at hz9
          have x010:=x09.trans x10
          by_cases ho:H.o=fold H.org
          ·rw [if_neg (by rintro (h | h | h);cases h;exact h hE0;exact h ho)] at hR0
           refine_lift oZ (fun _ _ _ => ?_) (fun _ _ _ => ?_)
           all_goals first
            | (exfalso;have hh9:=‹(!decide (H.o=fold H.org))=true›;rw [decide_eq_true ho] at hh9;cases hh9;done)
            | skip
           rw [← cr]
           refine aK (enters_of Tryz.func29 rfl rfl) rfl rfl (mI m q a u e 0 _ hm10 hlq) ?_
           intro _ wb xb ⟨qb,er,ob⟩
           subst er
           refine aA ?_
           refine aL (z:=gO) rfl (by decide +kernel) ?_
           intro w11 x11 s11 h11
           refine aA ?_
           have hmb:MsgV w11 (bareR m 0) qb aH aH aH:=⟨(ob.ext x11).sl,Sl.nil _ _,Sl.nil _ _,Sl.nil _ _⟩
           refine aG (v:=.agg (aW (bareR m 0) qb aH aH aH).toArray) rfl rfl rfl h11 (show aR Tryz.prog 26 13=true by decide +kernel) rfl (cM hmb) ?_
           intro w12 p12
           have x12:Ext wb w12:=x11.move p12.mv (by rintro k ⟨⟩;exact Nat.le_refl _)
           have hB:w12.heap[wb.heap.size]? = some (.cells (aW (bareR m 0) qb aH aH aH).toArray 26 (0,0)):=p12.this
           have x9b:Ext w9 w12:=x10.trans (xb.trans x12)
           have ob12:=ob.ext x12
           have q1:=o1.one
           have q2:=o2.one
           have q3:=o3.one
           have hza10:=x10.at k7'
           have hzkl:=(Array.getElem?_eq_some_iff.1 hza10).1
           have x10b:=xb.trans x12
           have hBB:w10.heap.size≤wb.heap.size:=xb.size
           have hpa0:=hpa
           have hpa:=hpa.ext x10b
           clear p12 h11 x11 hmb hpM
           have hzB:some zk≠some wb.heap.size:=by intro e9;have:=Option.some.inj e9;omega
           generalize wb.heap.size=BB at *
           have hpB:=aE (cs:=aW (bareR m 0) qb aH aH aH) hB
           unfold aW bareR at hpB
           by_cases k2:A.kind=2
           ·refine_lift vZ fun _ _ _ => ?_
            all_goals first
             | (exfalso;omega)
             | skip
            refine aM (n:=7) (v:=.int .i64 3) hB rfl rfl rfl (by simp [aW]) (by decide +kernel) rfl ?_
            intro w13 p13
            have x13:Ext w10 w13:=x10b.move p13.mv (by rintro k ⟨⟩;exact hBB)
            have hB13:w13.heap[BB]? = some (.cells [.int .i64 m.id, .bool true, .int .i64 m.op, .bool false, .bool false, .bool m.want, .bool false, .int .i64 3,qb,aH,aH,aH, .int .i64 (if m.size=0 then 0 else 1232)].toArray 26 (0,0)):=p13.this
            have ob13:=ob12.mv p13.mv (.inr (ob12.neBlock hB (by decide)))
            clear hpB hpa
            have hpa:=hpa0.ext x13
            have hpB:=True.intro
            refine_lift dJ fun _ _ => ?_
            refine aM (n:=3) (v:=.bool (!decide (A.kind=3))) hB13 rfl rfl rfl (by simp [aW]) (by decide +kernel) rfl ?_
            intro w14 p14
            have x14:Ext w10 w14:=(x13).move p14.mv (by rintro k ⟨⟩;exact hBB)
            have hB14:w14.heap[BB]? = some (.cells [.int .i64 m.id, .bool true, .int .i64 m.op, .bool (!decide (A.kind=3)), .bool false, .bool m.want, .bool false, .int .i64 3,qb,aH,aH,aH, .int .i64 (if m.size=0 then 0 else 1232)].toArray 26 (0,0)):=p14.this
            have ob14:=(ob13).mv p14.mv (.inr ((ob13).neBlock hB13 (by decide)))
            clear hpB
            have hpa:=hpa0.ext x14
            refine_lift dJ fun _ _ => ?_
            refine bV 11 (fun w'=>Pts w' (.pointer (some ⟨zk,0,none⟩)) [.int .i64 A.kind,u1,u2,u3]) (by decide +kernel) ?_
            intro w15 x15 _
            have hza15:=x15.at (x14.at hza10)
            have hB15:=x15.at hB14
            have x105:=x14.trans x15
            have ob15:=ob14.ext x15
            refine ⟨aE (cs:=[.int .i64 A.kind,u1,u2,u3]) hza15,?_⟩
            refine cV 0 ?_;refine cV 1 ?_;refine cV 2 ?_;refine cV 3 ?_;refine cV 4 ?_;refine cV 5 ?_
            refine zL 6 ?_
            refine bE (i:=7) (by decide +kernel) rfl rfl ?_
            refine aM (n:=9) (v:=u1) hB15 rfl rfl rfl (by simp) (by decide +kernel) q1 ?_
            intro w16 p16
            have hza16:=p16.mv.at hza15 hzB
            have hB16:w16.heap[BB]? = some (.cells [.int .i64 m.id, .bool true, .int .i64 m.op, .bool (!decide (A.kind=3)), .bool false, .bool m.want, .bool false, .int .i64 3,qb,u1,aH,aH, .int .i64 (if m.size=0 then 0 else 1232)].toArray 26 (0,0)):=p16.this
            have x16:Ext w10 w16:=x105.move p16.mv (by rintro k ⟨⟩;exact hBB)
            have ob16:=ob15.mv p16.mv (.inr (ob15.neBlock hB15 (by decide)))
            refine aJ ⟨cC (aE (cs:=[.int .i64 A.kind,u1,u2,u3]) hza16),?_⟩
            refine zL 8 ?_
            refine bE (i:=9) (by decide +kernel) rfl rfl ?_
            refine aM (n:=10) (v:=u2) hB16 rfl rfl rfl (by simp) (by decide +kernel) q2 ?_
            intro w17 p17
            have hza17:=p17.mv.at hza16 hzB
            have hB17:w17.heap[BB]? = some (.cells [.int .i64 m.id, .bool true, .int .i64 m.op, .bool (!decide (A.kind=3)), .bool false, .bool m.want, .bool false, .int .i64 3,qb,u1,u2,aH, .int .i64 (if m.size=0 then 0 else 1232)].toArray 26 (0,0)):=p17.this
            have x17:Ext w10 w17:=x16.move p17.mv (by rintro k ⟨⟩;exact hBB)
            have ob17:=ob16.mv p17.mv (.inr (ob16.neBlock hB16 (by decide)))
            refine aJ ⟨cC (aE (cs:=[.int .i64 A.kind,u1,u2,u3]) hza17),?_⟩
            refine zL 10 ?_
            refine bE (i:=11) (by decide +kernel) rfl rfl ?_
            refine aM (n:=11) (v:=u3) hB17 rfl rfl rfl (by simp) (by decide +kernel) q3 ?_
            intro w18 p18
            have hB18:w18.heap[BB]? = some (.cells [.int .i64 m.id, .bool true, .int .i64 m.op, .bool (!decide (A.kind=3)), .bool false, .bool m.want, .bool false, .int .i64 3,qb,u1,u2,u3, .int .i64 (if m.size=0 then 0 else 1232)].toArray 26 (0,0)):=p18.this
            have x18:Ext w10 w18:=x17.move p18.mv (by rintro k ⟨⟩;exact hBB)
            have ob18:=ob17.mv p18.mv (.inr (ob17.neBlock hB17 (by decide)))
            refine aJ ⟨bT rfl,?_⟩
            refine cN (by decide +kernel) ?_
            have hT:gH m A=⟨m.id,true,m.op,!decide (A.kind=3),false,m.want,false,3,m.qs,A.ans,A.auth,A.extra,if m.size=0 then 0 else 1232⟩:=by
             unfold gH bareR
             rw [if_pos k2]
            have hpC:=aE (cs:=[.int .i64 m.id, .bool true, .int .i64 m.op, .bool (!decide (A.kind=3)), .bool false, .bool m.want, .bool false, .int .i64 3,qb,u1,u2,u3, .int .i64 (if m.size=0 then 0 else 1232)]) hB18
            refine_lift dJ fun _ _ => ?_
            have xe:Ext w9 w18:=x10.trans x18
            have hmF:MsgV w18 (gH m A) qb u1 u2 u3:=by
             rw [hT]
             exact ⟨ob18.sl,(o1.ext xe).sl,(o2.ext xe).sl,(o3.ext xe).sl⟩
            have hzF:=x18.at hz10
            refine aG (v:=.agg (aW (gH m A) qb u1 u2 u3).toArray) rfl rfl (by rw [hT];rfl) hzF (show aR Tryz.prog 26 13=true by decide +kernel) rfl (cM hmF) ?_
            intro w19 p19
            have x19:Ext w w19:=(x09.trans xe).move p19.mv (by rintro k ⟨⟩;exact x1.size)
            refine_lift bG ?_
            refine bodyPost_ret (bH (cs:=aW (gH m A) qb u1 u2 u3) rfl rfl p19.this (show cP Tryz.prog 26 13=true by decide +kernel)) rfl ⟨_,rfl,x19,qb,u1,u2,u3,by rw [hR0],?_⟩
            rw [hR0,hT]
            have f0:=ob18.mv p19.mv (.inr (ob18.neBlock hzF (by decide)))
            have f1:=(o1.ext xe).mv p19.mv (.inr ((o1.ext xe).neBlock hzF (by decide)))
            have f2:=(o2.ext xe).mv p19.mv (.inr ((o2.ext xe).neBlock hzF (by decide)))
            have f3:=(o3.ext xe).mv p19.mv (.inr ((o3.ext xe).neBlock hzF (by decide)))
            exact ⟨f0.weaken x010.size,f1.weaken x06.size,f2.weaken x06.size,f3.weaken x06.size⟩
           ·refine_lift vZ fun _ _ _ => ?_
            all_goals first
             | (exfalso;omega)
             | skip
            have hB13:w12.heap[BB]? = some (.cells [.int .i64 m.id, .bool true, .int .i64 m.op, .bool false, .bool false, .bool m.want, .bool false, .int .i64 0,qb,aH,aH,aH, .int .i64 (if m.size=0 then 0 else 1232)].toArray 26 (0,0)):=hB
            refine aM (n:=3) (v:=.bool (!decide (A.kind=3))) hB13 rfl rfl rfl (by simp [aW]) (by decide +kernel) rfl ?_
            intro w14 p14
            have x14:Ext w10 w14:=(x10b).move p14.mv (by rintro k ⟨⟩;exact hBB)
            have hB14:w14.heap[BB]? = some (.cells [.int .i64 m.id, .bool true, .int .i64 m.op, .bool (!decide (A.kind=3)), .bool false, .bool m.want, .bool false, .int .i64 0,qb,aH,aH,aH, .int .i64 (if m.size=0 then 0 else 1232)].toArray 26 (0,0)):=p14.this
            have ob14:=(ob12).mv p14.mv (.inr ((ob12).neBlock hB13 (by decide)))
            clear hpB
            have hpa:=hpa0.ext x14
            refine_lift dJ fun _ _ => ?_
            refine bV 11 (fun w'=>Pts w' (.pointer (some ⟨zk,0,none⟩)) [.int .i64 A.kind,u1,u2,u3]) (by decide +kernel) ?_
            intro w15 x15 _
            have hza15:=x15.at (x14.at hza10)
            have hB15:=x15.at hB14
            have x105:=x14.trans x15
            have ob15:=ob14.ext x15
            refine ⟨aE (cs:=[.int .i64 A.kind,u1,u2,u3]) hza15,?_⟩
            refine cV 0 ?_;refine cV 1 ?_;refine cV 2 ?_;refine cV 3 ?_;refine cV 4 ?_;refine cV 5 ?_
            refine zL 6 ?_
            refine bE (i:=7) (by decide +kernel) rfl rfl ?_
            refine aM (n:=9) (v:=u1) hB15 rfl rfl rfl (by simp) (by decide +kernel) q1 ?_
            intro w16 p16
            have hza16:=p16.mv.at hza15 hzB
            have hB16:w16.heap[BB]? = some (.cells [.int .i64 m.id, .bool true, .int .i64 m.op, .bool (!decide (A.kind=3)), .bool false, .bool m.want, .bool false, .int .i64 0,qb,u1,aH,aH, .int .i64 (if m.size=0 then 0 else 1232)].toArray 26 (0,0)):=p16.this
            have x16:Ext w10 w16:=x105.move p16.mv (by rintro k ⟨⟩;exact hBB)
            have ob16:=ob15.mv p16.mv (.inr (ob15.neBlock hB15 (by decide)))
            refine aJ ⟨cC (aE (cs:=[.int .i64 A.kind,u1,u2,u3]) hza16),?_⟩
            refine zL 8 ?_
            refine bE (i:=9) (by decide +kernel) rfl rfl ?_
            refine aM (n:=10) (v:=u2) hB16 rfl rfl rfl (by simp) (by decide +kernel) q2 ?_
            intro w17 p17
            have hza17:=p17.mv.at hza16 hzB
            have hB17:w17.heap[BB]? = some (.cells [.int .i64 m.id, .bool true, .int .i64 m.op, .bool (!decide (A.kind=3)), .bool false, .bool m.want, .bool false, .int .i64 0,qb,u1,u2,aH, .int .i64 (if m.size=0 then 0 else 1232)].toArray 26 (0,0)):=p17.this
            have x17:Ext w10 w17:=x16.move p17.mv (by rintro k ⟨⟩;exact hBB)
            have ob17:=ob16.mv p17.mv (.inr (ob16.neBlock hB16 (by decide)))
            refine aJ ⟨cC (aE (cs:=[.int .i64 A.kind,u1,u2,u3]) hza17),?_⟩
            refine zL 10 ?_
            refine bE (i:=11) (by decide +kernel) rfl rfl ?_
            refine aM (n:=11) (v:=u3) hB17 rfl rfl rfl (by simp) (by decide +kernel) q3 ?_
            intro w18 p18
            have hB18:w18.heap[BB]? = some (.cells [.int .i64 m.id, .bool true, .int .i64 m.op, .bool (!decide (A.kind=3)), .bool false, .bool m.want, .bool false, .int .i64 0,qb,u1,u2,u3, .int .i64 (if m.size=0 then 0 else 1232)].toArray 26 (0,0)):=p18.this
            have x18:Ext w10 w18:=x17.move p18.mv (by rintro k ⟨⟩;exact hBB)
            have ob18:=ob17.mv p18.mv (.inr (ob17.neBlock hB17 (by decide)))
            refine aJ ⟨bT rfl,?_⟩
            refine cN (by decide +kernel) ?_
            have hT:gH m A=⟨m.id,true,m.op,!decide (A.kind=3),false,m.want,false,0,m.qs,A.ans,A.auth,A.extra,if m.size=0 then 0 else 1232⟩:=by
             unfold gH bareR
             rw [if_neg k2]
            have hpC:=aE (cs:=[.int .i64 m.id, .bool true, .int .i64 m.op, .bool (!decide (A.kind=3)), .bool false, .bool m.want, .bool false, .int .i64 0,qb,u1,u2,u3, .int .i64 (if m.size=0 then 0 else 1232)]) hB18
            refine_lift dJ fun _ _ => ?_
            have xe:Ext w9 w18:=x10.trans x18
            have hmF:MsgV w18 (gH m A) qb u1 u2 u3:=by
             rw [hT]
             exact ⟨ob18.sl,(o1.ext xe).sl,(o2.ext xe).sl,(o3.ext xe).sl⟩
            have hzF:=x18.at hz10
            refine aG (v:=.agg (aW (gH m A) qb u1 u2 u3).toArray) rfl rfl (by rw [hT];rfl) hzF (show aR Tryz.prog 26 13=true by decide +kernel) rfl (cM hmF) ?_
            intro w19 p19
            have x19:Ext w w19:=(x09.trans xe).move p19.mv (by rintro k ⟨⟩;exact x1.size)
            refine_lift bG ?_
            refine bodyPost_ret (bH (cs:=aW (gH m A) qb u1 u2 u3) rfl rfl p19.this (show cP Tryz.prog 26 13=true by decide +kernel)) rfl ⟨_,rfl,x19,qb,u1,u2,u3,by rw [hR0],?_⟩
            rw [hR0,hT]
            have f0:=ob18.mv p19.mv (.inr (ob18.neBlock hzF (by decide)))
            have f1:=(o1.ext xe).mv p19.mv (.inr ((o1.ext xe).neBlock hzF (by decide)))
            have f2:=(o2.ext xe).mv p19.mv (.inr ((o2.ext xe).neBlock hzF (by decide)))
            have f3:=(o3.ext xe).mv p19.mv (.inr ((o3.ext xe).neBlock hzF (by decide)))
            exact ⟨f0.weaken x010.size,f1.weaken x06.size,f2.weaken x06.size,f3.weaken x06.size⟩
          ·rw [if_pos (.inr (.inr ho))] at hR0
           refine_lift oZ (fun _ _ _ => ?_) (fun _ _ _ => ?_)
           all_goals first
            | (exfalso;have hh9:=‹(!decide (H.o=fold H.org))=false›;rw [decide_eq_false ho] at hh9;cases hh9;done)
            | skip
           rw [← cr]
           refine aK (enters_of Tryz.func29 rfl rfl) rfl rfl (mI m q a u e 2 _ (hm10) hlq) ?_
           intro _ wb xb ⟨qb,er,ob⟩
           subst er
           refine aA ?_
           have hmb:MsgV wb (bareR m 2) qb aH aH aH:=⟨ob.sl,Sl.nil _ _,Sl.nil _ _,Sl.nil _ _⟩
           have hzb:=xb.at hz10
           refine aG (v:=.agg (aW (bareR m 2) qb aH aH aH).toArray) rfl rfl rfl hzb (show aR Tryz.prog 26 13=true by decide +kernel) rfl (cM hmb) ?_
           intro wc pc
           have xc:Ext w wc:=((x010).trans xb).move pc.mv (by rintro k ⟨⟩;exact x1.size)
           refine_lift bG ?_
           refine bodyPost_ret (bH (cs:=aW (bareR m 2) qb aH aH aH) rfl rfl pc.this (show cP Tryz.prog 26 13=true by decide +kernel)) rfl ⟨_,rfl,xc,qb,aH,aH,aH,by rw [hR0],?_⟩
           rw [hR0]
           exact ⟨(ob.mv pc.mv (.inr (ob.neBlock hzb (by decide)))).weaken (x010).size,Own.nil _ _ _ _,Own.nil _ _ _ _,Own.nil _ _ _ _⟩
         ·rw [if_pos (.inr (.inl hE0))] at hR0
          refine cB (by decide +kernel) (by decide +kernel) ?_
          refine_lift qR ?_
          rw [show (!decide (E=0))=true by rw [decide_eq_false hE0];rfl]
          refine_lift qR ?_
          intro w10 x10
          have hpM:=hpM.ext x10
          refine_lift dJ fun _ _ => ?_
          rw [← cr]
          refine aK (enters_of Tryz.func29 rfl rfl) rfl rfl (mI m q a u e 2 _ (hm9.ext x10) hlq) ?_
          intro _ wb xb ⟨qb,er,ob⟩
          subst er
          refine aA ?_
          have hmb:MsgV wb (bareR m 2) qb aH aH aH:=⟨ob.sl,Sl.nil _ _,Sl.nil _ _,Sl.nil _ _⟩
          have hzb:=xb.at (x10.at hz9)
          refine aG (v:=.agg (aW (bareR m 2) qb aH aH aH).toArray) rfl rfl rfl hzb (show aR Tryz.prog 26 13=true by decide +kernel) rfl (cM hmb) ?_
          intro wc pc
          have xc:Ext w wc:=((x09.trans x10).trans xb).move pc.mv (by rintro k ⟨⟩;exact x1.size)
          refine_lift bG ?_
          refine bodyPost_ret (bH (cs:=aW (bareR m 2) qb aH aH aH) rfl rfl pc.this (show cP Tryz.prog 26 13=true by decide +kernel)) rfl ⟨_,rfl,xc,qb,aH,aH,aH,by rw [hR0],?_⟩
          rw [hR0]
          exact ⟨(ob.mv pc.mv (.inr (ob.neBlock hzb (by decide)))).weaken (x09.trans x10).size,Own.nil _ _ _ _,Own.nil _ _ _ _,Own.nil _ _ _ _⟩
    ·have hR:cZ hs m=bareR m 1:=by rw [hR0,if_pos (by simpa using c1)]
     have hd1:¬ ((cU m.qs).length:Int)=1:=by omega
     refine_lift GQ (fun _ _ _ _ => ?_) (fun _ _ _ _ _ => ?_) (fun _ _ _ _ _ => ?_) (fun _ _ _ => ?_)
     all_goals first
      | (exfalso;exact hd1 (by simpa using ‹(!decide (((cU m.qs).length:Int)=1))=false›))
      | skip
     all_goals first
      | (exfalso;omega)
      | (exfalso;rename_i hz9;simp at hz9;omega)
      | (exfalso;simp_all;done)
      | skip
     rw [← cr]
     refine aK (enters_of Tryz.func29 rfl rfl) rfl rfl (mI m q a u e 1 _ (hm3) hlq) ?_
     intro _ wb xb ⟨qb,er,ob⟩
     subst er
     refine aA ?_
     have hmb:MsgV wb (bareR m 1) qb aH aH aH:=⟨ob.sl,Sl.nil _ _,Sl.nil _ _,Sl.nil _ _⟩
     have hzb:=xb.at hz3
     refine aG (v:=.agg (aW (bareR m 1) qb aH aH aH).toArray) rfl rfl rfl hzb (show aR Tryz.prog 26 13=true by decide +kernel) rfl (cM hmb) ?_
     intro wc pc
     have xc:Ext w wc:=((x03).trans xb).move pc.mv (by rintro k ⟨⟩;exact x1.size)
     refine_lift bG ?_
     refine bodyPost_ret (bH (cs:=aW (bareR m 1) qb aH aH aH) rfl rfl pc.this (show cP Tryz.prog 26 13=true by decide +kernel)) rfl ⟨_,rfl,xc,qb,aH,aH,aH,by rw [hR],?_⟩
     rw [hR]
     exact ⟨(ob.mv pc.mv (.inr (ob.neBlock hzb (by decide)))).weaken (x03).size,Own.nil _ _ _ _,Own.nil _ _ _ _,Own.nil _ _ _ _⟩
   ·have hR:cZ hs m=bareR m 4:=by rw [hR0,if_pos (by simpa using co)]
    refine_lift UC (fun _ _ _ _ => ?_) (fun _ _ _ _ => ?_) (fun _ _ _ => ?_)
    all_goals first
     | (exfalso;omega)
     | (exfalso;rename_i hz9;simp at hz9;omega)
     | (exfalso;simp_all;done)
     | skip
    rw [← cr]
    refine aK (enters_of Tryz.func29 rfl rfl) rfl rfl (mI m q a u e 4 _ (hm3) hlq) ?_
    intro _ wb xb ⟨qb,er,ob⟩
    subst er
    refine aA ?_
    have hmb:MsgV wb (bareR m 4) qb aH aH aH:=⟨ob.sl,Sl.nil _ _,Sl.nil _ _,Sl.nil _ _⟩
    have hzb:=xb.at hz3
    refine aG (v:=.agg (aW (bareR m 4) qb aH aH aH).toArray) rfl rfl rfl hzb (show aR Tryz.prog 26 13=true by decide +kernel) rfl (cM hmb) ?_
    intro wc pc
    have xc:Ext w wc:=((x03).trans xb).move pc.mv (by rintro k ⟨⟩;exact x1.size)
    refine_lift bG ?_
    refine bodyPost_ret (bH (cs:=aW (bareR m 4) qb aH aH aH) rfl rfl pc.this (show cP Tryz.prog 26 13=true by decide +kernel)) rfl ⟨_,rfl,xc,qb,aH,aH,aH,by rw [hR],?_⟩
    rw [hR]
    exact ⟨(ob.mv pc.mv (.inr (ob.neBlock hzb (by decide)))).weaken (x03).size,Own.nil _ _ _ _,Own.nil _ _ _ _,Own.nil _ _ _ _⟩
 ·have hR:cZ hs m=zC:=by unfold cZ;rw [if_pos cc]
  refine_lift GQ (fun _ _ _ _ => ?_) (fun _ _ _ _ _ => ?_) (fun _ _ _ _ _ => ?_) (fun _ _ _ => ?_)
  all_goals first
   | (exfalso;omega)
   | (exfalso;rename_i hz9;simp at hz9;omega)
   | (exfalso;simp_all;done)
   | skip
  refine aT (v:=.agg (aW zC aH aH aH aH).toArray) (Runs.build rfl (by kernel_rfl)) ?_
  refine aA ?_
  have hmb:MsgV w3 zC aH aH aH aH:=⟨Sl.nil _ _,Sl.nil _ _,Sl.nil _ _,Sl.nil _ _⟩
  refine aG (v:=.agg (aW zC aH aH aH aH).toArray) rfl rfl rfl hz3 (show aR Tryz.prog 26 13=true by decide +kernel) rfl (cM hmb) ?_
  intro wc pc
  have xc:Ext w wc:=x03.move pc.mv (by rintro k ⟨⟩;exact x1.size)
  refine_lift bG ?_
  refine bodyPost_ret (bH (cs:=aW zC aH aH aH aH) rfl rfl pc.this (show cP Tryz.prog 26 13=true by decide +kernel)) rfl ⟨_,rfl,xc,aH,aH,aH,aH,by rw [hR],?_⟩
  rw [hR]
  exact ⟨Own.nil _ _ _ _,Own.nil _ _ _ _,Own.nil _ _ _ _,Own.nil _ _ _ _⟩
end Go.Proofs.X
set_option linter.unusedSimpArgs false
set_option linter.unusedVariables false
namespace Go.Proofs.X
open Go.RowKit
end Go.Proofs.X
set_option linter.unusedSimpArgs false
set_option linter.unusedVariables false
namespace Go.Proofs.X
open Go.RowKit
set_option maxRecDepth 100000
section
variable {P:Program} {a:Act} {w:World} {d:Option Nat} {ty:TypeId} {ps:String} {af:Array Edge} {g:Option (Nat × Bool)}
theorem Runs.shlN {t u:TypeId} {x y:Operand} {m:Nat} (hx:a.eval x=.int .i64 (m:Nat)) (hy:a.eval y=.int .u64 11) (h:m * 2048 < 4611686018427387904) :
 Runs P (Oper.mk d (.binOp .shl t x y u) ty ps af g) a w (.int .i64 ((m * 2048:Nat):Int)):=by
 have:=Runs.shl (P:=P) (w:=w) (d:=d) (ty:=ty) (ps:=ps) (af:=af) (g:=g) (t:=t) (u:=u) hx hy (by omega) (by omega) (by simp;omega)
 have e:((m:Nat):Int) * 2 ^ (11:Int).toNat=((m * 2048:Nat):Int):=by simp
 rwa [e] at this
end
theorem KR (is:Bool) (n:Nat):(if is=true then (n:Int) else 0)=((flagN is n:Nat):Int):=by unfold flagN;split <;> simp
theorem WrAt.grow {w0 w w':World} {b m:Nat} {l:List UInt8} {ps:List (List UInt8 × Nat)} (h:WrAt w0 w b m l ps) (x:Ext w w'):WrAt w0 w' b m l ps:=by
 obtain ⟨h1,h2,h3,h4,⟨v,h5,h6⟩,h7⟩:=h
 exact ⟨h1,h2,h3,h4.trans x,⟨v,x.at h5,h6.ext x⟩,h7.at (fun o h=>x.at h)⟩
theorem qO (is:Bool) (n:Nat) (w:World):Calls Tryz.prog 55 #[.bool is, .int .i64 ((n:Nat):Int)] w (bM w (.int .i64 ((flagN is n:Nat):Int))):=by
 rw [← KR]
 exact NN is n w
theorem TD {w:World} {a u e:Value} {la lu le:List (List Value)} (h1:Sl 4 w a la) (h2:Sl 4 w u lu) (h3:Sl 4 w e le):Tryz.prog.built 104 [(0,a),(1,u),(2,e)]=some #[a,u,e]:=by
 obtain ⟨_,_,rfl,_⟩:=h1.out
 obtain ⟨_,_,rfl,_⟩:=h2.out
 obtain ⟨_,_,rfl,_⟩:=h3.out
 kernel_rfl
theorem DF {w0 w:World} {b m:Nat} {l:List UInt8} {ps:List (List UInt8 × Nat)} (h:WrAt w0 w b m l ps) (n:Int) (h0:0≤n) (hn:n≤100000000000000) (hl:l.length + 2≤100000000000000):Calls Tryz.prog 54 #[.pointer (some ⟨b,0,none⟩), .int .i64 n] w (vI w0 w b m (l ++ cG n.toNat) ps):=by
 have:=jS h n.toNat (by omega) hl
 rwa [show ((n.toNat:Nat):Int)=n by omega] at this
theorem QC {w0 w:World} {b m:Nat} {l:List UInt8} {ps:List (List UInt8 × Nat)} (h:WrAt w0 w b m l ps) (n:Int) (h0:0≤n) (hn:n≤100000000000000) (hl:l.length + 4≤100000000000000):Calls Tryz.prog 57 #[.pointer (some ⟨b,0,none⟩), .int .i64 n] w (vI w0 w b m (l ++ pX n.toNat) ps):=by
 have:=NJ h n.toNat (by omega) hl
 rwa [show ((n.toNat:Nat):Int)=n by omega] at this
set_option maxHeartbeats 4000000 in
theorem tK {w:World} {mm:MsgR} {q a u e:Value} (hm:MsgV w mm q a u e):Calls Tryz.prog 23 #[.agg (aW mm q a u e).toArray] w (bM w (.tuple #[aI (dA mm).1, .int .i64 (dA mm).2])):=by
 go_enter Tryz.func23,Tryz.ntmps23
 refine_lift lF fun _ _ => ?_
 refine eK (vs:=aW mm q a u e) rfl rfl ?_
 intro w1 x1 s1 hb1
 refine aA ?_
 have hpM:=aE (cs:=aW mm q a u e) hb1
 unfold aW at hpM
 have hm1:=hm.ext x1
 refine_lift xI fun _ _ _ _ => ?_
 refine aD (enters_of Tryz.func21 rfl rfl) rfl rfl (yU mm q a u e _ hm1) ?_;intro w2 x2;refine aA ?_
 have hb2:=x2.at hb1
 have x02:=x1.trans x2
 have hm2:=hm1.ext x2
 by_cases cc:dH mm=0
 ·refine_lift JN (fun _ _ _ => ?_) (fun _ => ?_)
  all_goals first
   | (exfalso;simp_all;done)
   | skip
  refine oU (kt:=47) rfl ?_
  intro w3 x3 s3 hM3
  refine aA ?_
  refine_lift bG ?_
  refine aT (v:=.agg (zW (.slice none 0 0) w2.heap.size).toArray) (Runs.build rfl (by kernel_rfl)) ?_
  refine aA ?_
  refine eK (vs:=zW (.slice none 0 0) w2.heap.size) rfl rfl ?_
  intro w4 x4 s4 hb4
  refine aA ?_
  have x24:=x3.trans x4
  have hW4:WrAt w2 w4 w3.heap.size w2.heap.size [] []:=⟨x3.size,Nat.le_refl _,by have:=x3.size;omega,x24,⟨.slice none 0 0,hb4,Own.nil _ _ _ _⟩,hM3.at (fun o h=>x4.at h)⟩
  have hb4':=x24.at hb2
  have hpM4:=aE (cs:=aW mm q a u e) hb4'
  unfold aW at hpM4
  clear hpM
  refine_lift dJ fun _ _ => ?_
  have hid:0≤mm.id∧mm.id≤65535∧0≤mm.op∧mm.op≤15∧0≤mm.rcode∧mm.rcode≤15:=by
   unfold dH at cc
   split at cc
   ·rename_i c
    simp [fJ] at c
    omega
   ·cases cc
  have cw:=jS hW4 mm.id.toNat (by omega) (by simp)
  refine aN (vs:=[.pointer (some ⟨w3.heap.size,0,none⟩), .int .i64 ((mm.id.toNat:Nat):Int)]) (enters_of Tryz.func54 rfl rfl) rfl (congrArg (fun z=>[Value.pointer (some ⟨w3.heap.size,0,none⟩),Value.int .i64 z]) (show mm.id=((mm.id.toNat:Nat):Int) by omega)) cw ?_
  rintro _ w5 ⟨rfl,h5,g5⟩
  refine ⟨_,rfl,?_⟩
  refine aA ?_
  have hb5:=g5 _ _ _ _ (by decide) (by decide) hb4'
  have hp5:=aE (cs:=aW mm q a u e) hb5
  unfold aW at hp5
  clear hpM4
  refine_lift dJ fun _ _ => ?_
  refine bV 27 (Ext w5) (by decide +kernel) ?_
  intro w6 x6 _
  refine ⟨x6,?_⟩
  refine cV 0 ?_;refine cV 1 ?_;refine cV 2 ?_;refine cV 4 ?_;refine cV 5 ?_
  refine bD (i:=6) (v:=.int .i64 ((mm.op.toNat * 2048:Nat):Int)) rfl rfl (by decide +kernel) (by decide +kernel) (by decide +kernel) (by decide +kernel) (by decide +kernel) rfl (fun w' hF=>Runs.shlN (congrArg (Value.int .i64) (show mm.op=((mm.op.toNat:Nat):Int) by omega)) rfl (by omega)) (fun _ _ _ h=>h) ?_
  refine aA ?_
  refine cV 8 ?_;refine cV 9 ?_;refine cV 12 ?_;refine cV 13 ?_;refine cV 16 ?_;refine cV 17 ?_;refine cV 20 ?_;refine cV 21 ?_;refine cV 24 ?_;refine cV 25 ?_
  have z0:Ext w5 w6:=x6
  refine bE (i:=3) (by decide +kernel) rfl rfl ?_
  refine aD (enters_of Tryz.func55 rfl rfl) rfl rfl (qO mm.resp 32768 _) ?_;intro w7 x7;refine aA ?_
  have z7:Ext w5 w7:=z0.trans x7
  refine aJ ⟨cC z7,?_⟩
  have hf7:flagN mm.resp 32768 < 65536:=by have:=nB mm.resp 32768;omega
  have ha7:(flagN mm.resp 32768 ||| mm.op.toNat * 2048) < 65536:=KP hf7 (by omega)
  refine bD (i:=7) (v:=.int .i64 (((flagN mm.resp 32768 ||| mm.op.toNat * 2048):Nat):Int)) rfl rfl (by decide +kernel) (by decide +kernel) (by decide +kernel) (by decide +kernel) (by decide +kernel) rfl (fun w' hF=>Runs.orN (m:=flagN mm.resp 32768) (n:=mm.op.toNat * 2048) rfl rfl (by omega) (by omega)) (fun _ _ _ h=>h) ?_
  refine aA ?_
  refine bE (i:=10) (by decide +kernel) rfl rfl ?_
  refine aD (enters_of Tryz.func55 rfl rfl) rfl rfl (qO mm.auth 1024 _) ?_;intro w8 x8;refine aA ?_
  have z8:Ext w5 w8:=z7.trans x8
  refine aJ ⟨cC z8,?_⟩
  have hf8:flagN mm.auth 1024 < 65536:=by have:=nB mm.auth 1024;omega
  have ha8:((flagN mm.resp 32768 ||| mm.op.toNat * 2048) ||| flagN mm.auth 1024) < 65536:=KP ha7 hf8
  refine bD (i:=11) (v:=.int .i64 ((((flagN mm.resp 32768 ||| mm.op.toNat * 2048) ||| flagN mm.auth 1024):Nat):Int)) rfl rfl (by decide +kernel) (by decide +kernel) (by decide +kernel) (by decide +kernel) (by decide +kernel) rfl (fun w' hF=>Runs.orN (m:=(flagN mm.resp 32768 ||| mm.op.toNat * 2048)) (n:=flagN mm.auth 1024) rfl rfl (by omega) (by omega)) (fun _ _ _ h=>h) ?_
  refine aA ?_
  refine bE (i:=14) (by decide +kernel) rfl rfl ?_
  refine aD (enters_of Tryz.func55 rfl rfl) rfl rfl (qO mm.trunc 512 _) ?_;intro w9 x9;refine aA ?_
  have z9:Ext w5 w9:=z8.trans x9
  refine aJ ⟨cC z9,?_⟩
  have hf9:flagN mm.trunc 512 < 65536:=by have:=nB mm.trunc 512;omega
  have ha9:(((flagN mm.resp 32768 ||| mm.op.toNat * 2048) ||| flagN mm.auth 1024) ||| flagN mm.trunc 512) < 65536:=KP ha8 hf9
  refine bD (i:=15) (v:=.int .i64 (((((flagN mm.resp 32768 ||| mm.op.toNat * 2048) ||| flagN mm.auth 1024) ||| flagN mm.trunc 512):Nat):Int)) rfl rfl (by decide +kernel) (by decide +kernel) (by decide +kernel) (by decide +kernel) (by decide +kernel) rfl (fun w' hF=>Runs.orN (m:=((flagN mm.resp 32768 ||| mm.op.toNat * 2048) ||| flagN mm.auth 1024)) (n:=flagN mm.trunc 512) rfl rfl (by omega) (by omega)) (fun _ _ _ h=>h) ?_
  refine aA ?_
  refine bE (i:=18) (by decide +kernel) rfl rfl ?_
  refine aD (enters_of Tryz.func55 rfl rfl) rfl rfl (qO mm.want 256 _) ?_;intro w10 x10;refine aA ?_
  have z10:Ext w5 w10:=z9.trans x10
  refine aJ ⟨cC z10,?_⟩
  have hf10:flagN mm.want 256 < 65536:=by have:=nB mm.want 256;omega
  have ha10:((((flagN mm.resp 32768 ||| mm.op.toNat * 2048) ||| flagN mm.auth 1024) ||| flagN mm.trunc 512) ||| flagN mm.want 256) < 65536:=KP ha9 hf10
  refine bD (i:=19) (v:=.int .i64 ((((((flagN mm.resp 32768 ||| mm.op.toNat * 2048) ||| flagN mm.auth 1024) ||| flagN mm.trunc 512) ||| flagN mm.want 256):Nat):Int)) rfl rfl (by decide +kernel) (by decide +kernel) (by decide +kernel) (by decide +kernel) (by decide +kernel) rfl (fun w' hF=>Runs.orN (m:=(((flagN mm.resp 32768 ||| mm.op.toNat * 2048) ||| flagN mm.auth 1024) ||| flagN mm.trunc 512)) (n:=flagN mm.want 256) rfl rfl (by omega) (by omega)) (fun _ _ _ h=>h) ?_
  refine aA ?_
  refine bE (i:=22) (by decide +kernel) rfl rfl ?_
  refine aD (enters_of Tryz.func55 rfl rfl) rfl rfl (qO mm.avail 128 _) ?_;intro w11 x11;refine aA ?_
  have z11:Ext w5 w11:=z10.trans x11
  refine aJ ⟨cC z11,?_⟩
  have hf11:flagN mm.avail 128 < 65536:=by have:=nB mm.avail 128;omega
  have ha11:(((((flagN mm.resp 32768 ||| mm.op.toNat * 2048) ||| flagN mm.auth 1024) ||| flagN mm.trunc 512) ||| flagN mm.want 256) ||| flagN mm.avail 128) < 65536:=KP ha10 hf11
  refine bD (i:=23) (v:=.int .i64 (((((((flagN mm.resp 32768 ||| mm.op.toNat * 2048) ||| flagN mm.auth 1024) ||| flagN mm.trunc 512) ||| flagN mm.want 256) ||| flagN mm.avail 128):Nat):Int)) rfl rfl (by decide +kernel) (by decide +kernel) (by decide +kernel) (by decide +kernel) (by decide +kernel) rfl (fun w' hF=>Runs.orN (m:=((((flagN mm.resp 32768 ||| mm.op.toNat * 2048) ||| flagN mm.auth 1024) ||| flagN mm.trunc 512) ||| flagN mm.want 256)) (n:=flagN mm.avail 128) rfl rfl (by omega) (by omega)) (fun _ _ _ h=>h) ?_
  refine aA ?_
  have ha12:((((((flagN mm.resp 32768 ||| mm.op.toNat * 2048) ||| flagN mm.auth 1024) ||| flagN mm.trunc 512) ||| flagN mm.want 256) ||| flagN mm.avail 128) ||| mm.rcode.toNat) < 65536:=KP ha11 (by omega)
  refine bD (i:=26) (v:=.int .i64 ((((((((flagN mm.resp 32768 ||| mm.op.toNat * 2048) ||| flagN mm.auth 1024) ||| flagN mm.trunc 512) ||| flagN mm.want 256) ||| flagN mm.avail 128) ||| mm.rcode.toNat):Nat):Int)) rfl rfl (by decide +kernel) (by decide +kernel) (by decide +kernel) (by decide +kernel) (by decide +kernel) rfl (fun w' hF=>Runs.orN (m:=(((((flagN mm.resp 32768 ||| mm.op.toNat * 2048) ||| flagN mm.auth 1024) ||| flagN mm.trunc 512) ||| flagN mm.want 256) ||| flagN mm.avail 128)) (n:=mm.rcode.toNat) rfl (congrArg (Value.int .i64) (show mm.rcode=((mm.rcode.toNat:Nat):Int) by omega)) (by omega) (by omega)) (fun _ _ _ h=>h) ?_
  refine aA ?_
  refine bE (i:=27) (by decide +kernel) rfl rfl ?_
  have cw2:=jS (h5.grow z11) (flagsW mm) (by unfold flagsW;omega) (by simp [cG])
  refine aN (vs:=[.pointer (some ⟨w3.heap.size,0,none⟩), .int .i64 ((flagsW mm:Nat):Int)]) (enters_of Tryz.func54 rfl rfl) rfl rfl cw2 ?_
  rintro _ w12 ⟨rfl,h12,g12⟩
  refine ⟨_,rfl,?_⟩
  refine aA ?_
  refine aJ ⟨bT rfl,?_⟩
  refine cN (by decide +kernel) ?_
  have hb12:=g12 _ _ _ _ (by decide) (by decide) (z11.at hb5)
  have hp12:=aE (cs:=aW mm q a u e) hb12
  unfold aW at hp12
  clear hp5
  refine_lift xI fun _ _ _ _ => ?_
  have hl16:=aQ mm.ex
  have hx02:=x02
  have hm12:MsgV w12 mm q a u e:=hm2.ext h12.ext
  have hq12:=hm12.qs
  have ha12:=hm12.an
  have hu12:=hm12.au
  have he12:=hm12.ex
  refine bV 17 (Ext w12) (by decide +kernel) ?_
  intro w13 x13 _
  refine ⟨x13,?_⟩
  refine zL 18 ?_
  refine cV 0 ?_;refine cV 1 ?_;refine cV 2 ?_;refine cV 3 ?_;refine cV 4 ?_;refine cV 5 ?_;refine cV 6 ?_;refine cV 7 ?_;refine cV 8 ?_;refine cV 9 ?_;refine cV 10 ?_;refine cV 11 ?_;refine cV 12 ?_;refine cV 13 ?_;refine cV 14 ?_
  rw [cI,aQ,aQ,aQ]
  have hok:=qN cc
  have hfl1:=nB (!decide (mm.size=0)) 1
  have hql:=hok.ql
  have hnl:=hok.nl
  have hul:=hok.ul
  have hel:=hok.el
  refine bE (i:=15) (by decide +kernel) rfl rfl ?_
  refine aD (enters_of Tryz.func55 rfl rfl) rfl rfl (qO (!decide (mm.size=0)) 1 _) ?_;intro w14 x14;refine aA ?_
  have z14:Ext w12 w14:=x13.trans x14
  refine aJ ⟨cC z14,?_⟩
  refine bE (i:=16) (by decide +kernel) rfl rfl ?_
  ((with_reducible refine cJ ?_);(first | (refine jO ?_;refine fV ?_) | (refine oN ?_;refine qV ?_;(with_reducible refine cJ ?_);refine jO ?_;refine fV ?_)))
  rw [show ((mm.ex.length:Nat):Int) + ((flagN (!decide (mm.size=0)) 1:Nat):Int)=((mm.ex.length + flagN (!decide (mm.size=0)) 1:Nat):Int) by omega]
  refine aJ ⟨cC z14,?_⟩
  refine bE (i:=17) (by decide +kernel) rfl rfl ?_
  refine aT (v:=.agg ((zA mm).map fun n=>Value.int .i64 (n:Nat)).toArray) (Runs.build rfl (by kernel_rfl)) ?_
  refine aA ?_
  refine aJ ⟨bT rfl,?_⟩
  refine cN (by decide +kernel) ?_
  have h14:=h12.grow z14
  have hcl:(zA mm).length=4:=rfl
  have hcb:∀ x ∈ zA mm,x≤65535:=by
   intro x hx
   simp only [zA,List.mem_cons,List.not_mem_nil,or_false] at hx
   omega
  have hhd:[] ++ cG mm.id.toNat ++ cG (flagsW mm) ++ (zA mm).flatMap cG=jM mm:=by simp [jM,zA]
  have hb2':=hb2
  generalize zA mm=cn at *
  have hbl0:([] ++ cG mm.id.toNat ++ cG (flagsW mm)).length=4:=rfl
  generalize ([] ++ cG mm.id.toNat ++ cG (flagsW mm):List UInt8)=bs at *
  generalize hB:w3.heap.size=B at *
  generalize hMp:w2.heap.size=M at *
  clear hp12
  have hpw:∀ wr,Ext w2 wr→Pts wr (.pointer (some ⟨w.heap.size,0,none⟩)) [.int .i64 mm.id, .bool mm.resp, .int .i64 mm.op, .bool mm.auth, .bool mm.trunc, .bool mm.want, .bool mm.avail, .int .i64 mm.rcode,q,a,u,e, .int .i64 mm.size]:=fun wr x=>aE (cs:=aW mm q a u e) (x.at hb2)
  refine_lift bG ?_
  go_loopw [7,72] (fun _ iv wr=>∃ k:Nat,k≤4∧iv=.int .i64 k∧WrAt w2 wr B M (bs ++ (cn.take k).flatMap cG) []∧((cn.take k).flatMap cG).length=2 * k) (fun _ iv _=>4 - (intOf iv).toNat)
  case atStart=>exact ⟨0,by omega,rfl,by simpa using h14,rfl⟩
  case round =>
   obtain ⟨k,hk,rfl,hW,hlk⟩:=hrel
   by_cases c4:k < 4
   ·have hck:k < cn.length:=by omega
    have hgk:=List.getElem?_eq_getElem hck
    have hmk:=hcb _ (List.getElem_mem hck)
    refine_lift GI ?_;intro _ _ _ _ _ _
    refine aT (v:=.int .i64 (cn[k]:Nat)) (Runs.idxA (i:=k) (n:=4) rfl rfl (by simp [hgk]) (by omega) (by decide +kernel)) ?_
    refine aA ?_
    refine_lift bG ?_
    refine aN (vs:=[.pointer (some ⟨B,0,none⟩), .int .i64 ((cn[k]:Nat):Int)]) (enters_of Tryz.func54 rfl rfl) rfl rfl (jS hW cn[k] (by omega) (by rw [List.length_append];omega)) ?_
    rintro _ w15 ⟨rfl,h15,g15⟩
    refine ⟨_,rfl,?_⟩
    refine aA ?_
    refine_lift bG ?_
    have hT:(cn.take (k + 1)).flatMap cG=(cn.take k).flatMap cG ++ cG cn[k]:=by rw [List.take_succ_eq_append_getElem hck,List.flatMap_append];simp
    refine ⟨⟨k + 1,by omega,by go_num,?_,?_⟩,by simp [intOf];omega⟩
    ·rw [hT,← List.append_assoc]
     exact h15
    ·rw [hT,List.length_append,hlk]
     simp [cG]
     omega
   ·have hk4:k=4:=by omega
    subst hk4
    rw [List.take_of_length_le (by omega),hhd] at hW
    have hlh:(jM mm).length=12:=by simp [jM,cG]
    have hlh':(((mm.qs.take 0).foldl qW (jM mm,[])).1).length=12:=hlh
    have hqE:=hq12
    have hp16:=hpw wr hW.ext
    have hqs16:=hm2.qs.ext hW.ext
    have hqc:=cI mm.qs
    refine_lift vZ fun _ _ _ => ?_
    clear hp16
    go_loopw [9,82] (fun _ iv wr=>∃ k:Nat,k≤mm.qs.length∧iv=.int .i64 k∧WrAt w2 wr B M ((mm.qs.take k).foldl qW (jM mm,[])).1 ((mm.qs.take k).foldl qW (jM mm,[])).2∧Keys ((mm.qs.take k).foldl qW (jM mm,[])).2∧((mm.qs.take k).foldl qW (jM mm,[])).1.length≤12 + 260 * k) (fun _ iv _=>mm.qs.length - (intOf iv).toNat)
    case atStart=>exact ⟨0,by omega,rfl,hW,List.Pairwise.nil,by rw [hlh'];omega⟩
    case round =>
     obtain ⟨k,hk,rfl,hW,hK,hL⟩:=hrel
     by_cases ck:k < mm.qs.length
     ·have hqk:=hok.qs _ (List.getElem_mem ck)
      have hT:(mm.qs.take (k + 1)).foldl qW (jM mm,[])=qW ((mm.qs.take k).foldl qW (jM mm,[])) mm.qs[k]:=by rw [List.take_succ_eq_append_getElem ck,List.foldl_append];rfl
      have hlk:=SW hqk ((mm.qs.take k).foldl qW (jM mm,[]))
      have hkk:=PX ((mm.qs.take k).foldl qW (jM mm,[])) mm.qs[k] hK
      generalize (mm.qs.take k).foldl qW (jM mm,[])=X at *
      obtain ⟨hn1,hn2,hn3⟩:=SX hqk
      obtain ⟨t9,ht1,ht2⟩:=tH hn1 X
      have hq4:=hm2.qs.ext hW.ext
      have h4:=hq4.elem (kT ck)
      refine_lift GI ?_;intro _ _ _ _ _ _
      refine aL (z:=[aI [], .int .i64 0]) rfl (by decide +kernel) ?_
      intro w3' x3' s3' h3'
      refine aA ?_
      refine aG (v:=.agg #[aI mm.qs[k].1, .int .i64 mm.qs[k].2]) rfl rfl rfl h3' (show aR Tryz.prog 54 2=true by decide +kernel) rfl (QB rfl rfl) ?_
      intro w4' p4'
      have x4':Ext wr w4':=x3'.move p4'.mv (by rintro k ⟨⟩;exact Nat.le_refl _)
      have hc4:w4'.heap[wr.heap.size]? = some (.cells [aI mm.qs[k].1, .int .i64 mm.qs[k].2].toArray 54 (0,0)):=p4'.this
      have hpq:=aE (cs:=[aI mm.qs[k].1, .int .i64 mm.qs[k].2]) hc4
      have hW4:=hW.grow x4'
      clear p4' h3' x3' h4
      generalize wr.heap.size=c at *
      refine_lift dJ fun _ _ => ?_
      refine aN (vs:=[.pointer (some ⟨B,0,none⟩),aI mm.qs[k].1]) (enters_of Tryz.func56 rfl rfl) rfl rfl (tF hW4 hK mm.qs[k].1 hn1 (by omega)) ?_
      rintro _ w16 ⟨rfl,h16,g16⟩
      refine ⟨_,rfl,?_⟩
      refine aA ?_
      have hc16:=g16 _ _ _ _ (by decide) (by decide) hc4
      clear hpq
      have hpq:=aE (cs:=[aI mm.qs[k].1, .int .i64 mm.qs[k].2]) hc16
      refine_lift dJ fun _ _ => ?_
      refine aN (vs:=[.pointer (some ⟨B,0,none⟩), .int .i64 mm.qs[k].2]) (enters_of Tryz.func54 rfl rfl) rfl rfl (DF h16 mm.qs[k].2 (by omega) (by omega) (by rw [ht1,List.length_append];omega)) ?_
      rintro _ w17 ⟨rfl,h17,g17⟩
      refine ⟨_,rfl,?_⟩
      refine aA ?_
      refine_lift bG ?_
      refine aN (vs:=[.pointer (some ⟨B,0,none⟩), .int .i64 ((1:Nat):Int)]) (enters_of Tryz.func54 rfl rfl) rfl rfl (jS h17 1 (by omega) (by rw [ht1];simp [cG];omega)) ?_
      rintro _ w18 ⟨rfl,h18,g18⟩
      refine ⟨_,rfl,?_⟩
      refine aA ?_
      refine_lift bG ?_
      refine ⟨⟨k + 1,by omega,by go_num,?_⟩,by simp [intOf];omega⟩
      rw [hT]
      exact ⟨h18,hkk,by omega⟩
     ·have hkq:k=mm.qs.length:=by omega
      subst hkq
      rw [List.take_length] at hW hK hL
      have hp16:=hpw wr hW.ext
      refine_lift LQ fun _ _ _ _ _ => ?_
      have hVL:∀ i,i < 3→∃ v l,([a,u,e]:List Value)[i]? = some v∧[mm.an,mm.au,mm.ex][i]? = some l∧Sl 4 w2 v (aO l)∧l.length≤200∧∀ r ∈ l,bC r=0:=by
       intro i hi
       match i,hi with
       | 0,_=>exact ⟨_,_,rfl,rfl,hm2.an,hok.nl,hok.an⟩
       | 1,_=>exact ⟨_,_,rfl,rfl,hm2.au,hok.ul,hok.au⟩
       | 2,_=>exact ⟨_,_,rfl,rfl,hm2.ex,hok.el,hok.ex⟩
      have hfin:[mm.an,mm.au,mm.ex].foldl (fun x l=>l.foldl lQ x) (mm.qs.foldl qW (jM mm,[]))=vK mm:=rfl
      refine aT (v:=.agg ([a,u,e]:List Value).toArray) (Runs.build rfl (TD hm2.an hm2.au hm2.ex)) ?_
      refine aA ?_
      have hLl:[mm.an,mm.au,mm.ex].length=3:=rfl
      generalize mm.qs.foldl qW (jM mm,[])=X0 at *
      clear hp16 hqs16 hqE hlh'
      generalize hLL:[mm.an,mm.au,mm.ex]=LL at *
      generalize hVV:([a,u,e]:List Value)=VV at *
      refine_lift bG ?_
      go_loopw [11,13,104] (fun _ _ iv wr=>∃ i:Nat,i≤3∧iv=.int .i64 i∧WrAt w2 wr B M ((LL.take i).foldl (fun x l=>l.foldl lQ x) X0).1 ((LL.take i).foldl (fun x l=>l.foldl lQ x) X0).2∧Keys ((LL.take i).foldl (fun x l=>l.foldl lQ x) X0).2∧((LL.take i).foldl (fun x l=>l.foldl lQ x) X0).1.length≤3000 + 1200000 * i) (fun _ _ iv _=>3 - (intOf iv).toNat)
      case atStart=>exact ⟨0,by omega,rfl,hW,hK,by simp only [List.take_zero,List.foldl_nil];omega⟩
      case round =>
       obtain ⟨i,hi,rfl,hW,hK,hL⟩:=hrel
       by_cases ci:i < 3
       ·obtain ⟨v,l,hv1,hl1,hsl,hll,hlr⟩:=hVL i ci
        have hT:(LL.take (i + 1)).foldl (fun x l=>l.foldl lQ x) X0=l.foldl lQ ((LL.take i).foldl (fun x l=>l.foldl lQ x) X0):=by
         rw [List.take_add_one,hl1,List.foldl_append];rfl
        generalize (LL.take i).foldl (fun x l=>l.foldl lQ x) X0=X at *
        refine_lift GI ?_;intro _ _ _ _ _ _
        refine aT (v:=v) (Runs.idxA (i:=i) (n:=3) rfl rfl (by simp [hv1]) (by omega) (by decide +kernel)) ?_
        refine aA ?_
        have hslr:=hsl.ext hW.ext
        have hrl:=aQ l
        refine_lift bG ?_
        go_loopw [13,109] (fun _ jv wr=>∃ k:Nat,k≤l.length∧jv=.int .i64 k∧WrAt w2 wr B M ((l.take k).foldl lQ X).1 ((l.take k).foldl lQ X).2∧Keys ((l.take k).foldl lQ X).2∧((l.take k).foldl lQ X).1.length≤3000 + 1200000 * i + 6000 * k) (fun _ jv _=>l.length - (intOf jv).toNat)
        case atStart=>exact ⟨0,by omega,rfl,hW,hK,by simp only [List.take_zero,List.foldl_nil];omega⟩
        case round =>
         obtain ⟨k,hk,rfl,hW,hK,hL⟩:=hrel
         by_cases ck:k < l.length
         ·have hRk:=KN (hlr _ (List.getElem_mem ck))
          have hT2:(l.take (k + 1)).foldl lQ X=lQ ((l.take k).foldl lQ X) l[k]:=by rw [List.take_succ_eq_append_getElem ck,List.foldl_append];rfl
          generalize (l.take k).foldl lQ X=Y at *
          have hlk:=NM hRk Y
          have hkk:=KO Y l[k] hK
          have hNk:=iE (gX l[k].name) Y.1 Y.2 hK
          obtain ⟨t9,ht1,ht2⟩:=tH hRk.nm Y
          have hsk:=hsl.ext hW.ext
          have h4:=hsk.elem (gJ ck)
          have hk0:=hRk.k0
          have hk1:=hRk.k1
          have ht0:=hRk.t0
          have ht3:=hRk.t1
          refine_lift GI ?_;intro _ _ _ _ _ _
          refine aL (z:=QX) rfl (by decide +kernel) ?_
          intro w3' x3' s3' h3'
          refine aA ?_
          refine aG (v:=mG l[k]) rfl rfl rfl h3' (show aR Tryz.prog 106 4=true by decide +kernel) rfl (eR rfl rfl rfl rfl) ?_
          intro w4' p4'
          have x4':Ext wr w4':=x3'.move p4'.mv (by rintro k ⟨⟩;exact Nat.le_refl _)
          have hc4:w4'.heap[wr.heap.size]? = some (.cells [aI l[k].name, .int .i64 l[k].kind, .int .i64 l[k].ttl,aI l[k].data].toArray 106 (0,0)):=p4'.this
          have hpq:=aE (cs:=[aI l[k].name, .int .i64 l[k].kind, .int .i64 l[k].ttl,aI l[k].data]) hc4
          have hW4:=hW.grow x4'
          clear p4' h3' x3' h4 hsk hslr
          generalize wr.heap.size=c at *
          refine_lift dJ fun _ _ => ?_
          refine aN (vs:=[.pointer (some ⟨B,0,none⟩),aI l[k].name]) (enters_of Tryz.func56 rfl rfl) rfl rfl (tF hW4 hK l[k].name hRk.nm (by omega)) ?_
          rintro _ w20 ⟨rfl,h20,g20⟩
          refine ⟨_,rfl,?_⟩
          refine aA ?_
          have hc20:=g20 _ _ _ _ (by decide) (by decide) hc4
          clear hpq
          have hpq:=aE (cs:=[aI l[k].name, .int .i64 l[k].kind, .int .i64 l[k].ttl,aI l[k].data]) hc20
          refine_lift dJ fun _ _ => ?_
          refine aN (vs:=[.pointer (some ⟨B,0,none⟩), .int .i64 l[k].kind]) (enters_of Tryz.func54 rfl rfl) rfl rfl (DF h20 l[k].kind (by omega) (by omega) (by rw [ht1,List.length_append];omega)) ?_
          rintro _ w21 ⟨rfl,h21,g21⟩
          refine ⟨_,rfl,?_⟩
          refine aA ?_
          have hc21:=g21 _ _ _ _ (by decide) (by decide) hc20
          clear hpq
          have hpq:=aE (cs:=[aI l[k].name, .int .i64 l[k].kind, .int .i64 l[k].ttl,aI l[k].data]) hc21
          refine_lift dJ fun _ _ => ?_
          refine aN (vs:=[.pointer (some ⟨B,0,none⟩), .int .i64 ((1:Nat):Int)]) (enters_of Tryz.func54 rfl rfl) rfl rfl (jS h21 1 (by omega) (by rw [ht1];simp [cG];omega)) ?_
          rintro _ w22 ⟨rfl,h22,g22⟩
          refine ⟨_,rfl,?_⟩
          refine aA ?_
          have hc22:=g22 _ _ _ _ (by decide) (by decide) hc21
          clear hpq
          have hpq:=aE (cs:=[aI l[k].name, .int .i64 l[k].kind, .int .i64 l[k].ttl,aI l[k].data]) hc22
          refine_lift dJ fun _ _ => ?_
          refine aN (vs:=[.pointer (some ⟨B,0,none⟩), .int .i64 l[k].ttl]) (enters_of Tryz.func57 rfl rfl) rfl rfl (QC h22 l[k].ttl (by omega) (by omega) (by rw [ht1];simp [cG];omega)) ?_
          rintro _ w23 ⟨rfl,h23,g23⟩
          refine ⟨_,rfl,?_⟩
          refine aA ?_
          have hc23:=g23 _ _ _ _ (by decide) (by decide) hc22
          clear hpq
          have hpq:=aE (cs:=[aI l[k].name, .int .i64 l[k].kind, .int .i64 l[k].ttl,aI l[k].data]) hc23
          refine_lift bG ?_
          refine aN (vs:=[.pointer (some ⟨B,0,none⟩),mG l[k]]) (enters_of Tryz.func58 rfl rfl) rfl rfl (PW h23 hNk l[k] hRk.d hRk.soa (by rw [ht1];simp [cG,pX];omega)) ?_
          rintro _ w24 ⟨rfl,h24,g24⟩
          refine ⟨_,rfl,?_⟩
          refine aA ?_
          refine_lift bG ?_
          refine ⟨⟨k + 1,by omega,by go_num,?_⟩,by simp [intOf];omega⟩
          rw [hT2]
          exact ⟨h24,hkk,by omega⟩
         ·have hkl:k=l.length:=by omega
          subst hkl
          rw [List.take_length] at hW hK hL
          refine_lift nK fun _ => ?_
          refine ⟨⟨i + 1,by omega,by go_num,?_⟩,by simp [intOf];omega⟩
          rw [hT]
          exact ⟨hW,hK,by omega⟩
       ·have hi3:i=3:=by omega
        subst hi3
        rw [List.take_of_length_le (by omega),hfin] at hW hL
        have hp16:=hpw wr hW.ext
        have hEb:nX mm=(vK mm).1 ++ FV mm:=rfl
        have hK3:Keys (vK mm).2:=by
         rw [List.take_of_length_le (by omega),hfin] at hK
         exact hK
        by_cases cz:mm.size=0
        ·have hZ:WrAt w2 wr B M (nX mm) (vK mm).2:=by
          rw [hEb,show FV mm=[] by unfold FV;rw [if_pos cz],List.append_nil]
          exact hW
         have hLz:(nX mm).length=(vK mm).1.length:=by rw [hEb,show FV mm=[] by unfold FV;rw [if_pos cz],List.append_nil]
         generalize vK mm=Y at *
         refine_lift UJ (fun _ _ _ _ _ _ => ?_) (fun _ _ _ _ _ _ => ?_)
         all_goals first
          | (exfalso;simp_all;done)
          | skip
         obtain ⟨_,_,_,xz,⟨vz,hBz,hoz⟩,_⟩:=hZ
         have hpz:=aE (cs:=zW vz M) hBz
         have hslz:=hoz.sl
         have hbz:(aS (nX mm)).length=(nX mm).length:=by simp [aS]
         have hzl:(nX mm).length≤4000000:=by omega
         have hEn:dA mm=if 65535 < (nX mm).length then ([],4) else (nX mm,0):=by unfold dA;rw [if_neg (by simpa using cc)]
         generalize nX mm=Z at *
         by_cases cl:65535 < Z.length
         ·rw [if_pos cl] at hEn
          refine_lift nK fun _ => ?_
          all_goals first
           | (exfalso;omega)
           | skip
          go_ret2
          rw [hEn]
          exact ⟨by kernel_rfl,x02.trans xz⟩
         ·rw [if_neg cl] at hEn
          refine_lift nK fun _ => ?_
          all_goals first
           | (exfalso;omega)
           | skip
          go_ret2
          rw [hEn]
          exact ⟨by kernel_rfl,x02.trans xz⟩
        ·have hoE:FV mm=[0] ++ cG 41 ++ cG mm.size.toNat ++ pX 0 ++ cG 0:=by unfold FV;rw [if_neg cz]
         have hsz:0≤mm.size∧mm.size≤65535:=by have:=hok.sz;omega
         generalize vK mm=Y at *
         refine_lift UJ (fun _ _ _ _ _ _ => ?_) (fun _ _ _ _ _ _ => ?_)
         all_goals first
          | (exfalso;simp_all;done)
          | skip
         refine aN (vs:=[.pointer (some ⟨B,0,none⟩),aI []]) (enters_of Tryz.func56 rfl rfl) rfl rfl (IX hW hK3 [] rfl (by simp [enc]) (by omega)) ?_
         rintro _ w30 ⟨rfl,h30,g30⟩
         refine ⟨_,rfl,?_⟩
         refine aA ?_
         refine_lift dJ fun _ _ => ?_
         refine aN (vs:=[.pointer (some ⟨B,0,none⟩), .int .i64 ((41:Nat):Int)]) (enters_of Tryz.func54 rfl rfl) rfl rfl (jS h30 41 (by omega) (by simp [eG];omega)) ?_
         rintro _ w31 ⟨rfl,h31,g31⟩
         refine ⟨_,rfl,?_⟩
         refine aA ?_
         have hp31:=hpw w31 h31.ext
         clear hp16
         refine_lift dJ fun _ _ => ?_
         refine aN (vs:=[.pointer (some ⟨B,0,none⟩), .int .i64 mm.size]) (enters_of Tryz.func54 rfl rfl) rfl rfl (DF h31 mm.size (by omega) (by omega) (by simp [eG,cG];omega)) ?_
         rintro _ w32 ⟨rfl,h32,g32⟩
         refine ⟨_,rfl,?_⟩
         refine aA ?_
         refine_lift dJ fun _ _ => ?_
         refine aN (vs:=[.pointer (some ⟨B,0,none⟩), .int .i64 ((0:Nat):Int)]) (enters_of Tryz.func57 rfl rfl) rfl rfl (NJ h32 0 (by omega) (by simp [eG,cG];omega)) ?_
         rintro _ w33 ⟨rfl,h33,g33⟩
         refine ⟨_,rfl,?_⟩
         refine aA ?_
         refine_lift bG ?_
         refine aN (vs:=[.pointer (some ⟨B,0,none⟩), .int .i64 ((0:Nat):Int)]) (enters_of Tryz.func54 rfl rfl) rfl rfl (jS h33 0 (by omega) (by simp [eG,cG,pX];omega)) ?_
         rintro _ w34 ⟨rfl,h34,g34⟩
         refine ⟨_,rfl,?_⟩
         refine aA ?_
         have hZ:WrAt w2 w34 B M (nX mm) (eG [] Y.1 Y.2).2:=by
          rw [hEb,hoE]
          simpa [eG] using h34
         have hLz:(nX mm).length≤Y.1.length + 20:=by
          rw [hEb,hoE]
          simp [cG,pX]
         refine_lift xI fun _ _ _ _ => ?_
         obtain ⟨_,_,_,xz,⟨vz,hBz,hoz⟩,_⟩:=hZ
         have hpz:=aE (cs:=zW vz M) hBz
         have hslz:=hoz.sl
         have hbz:(aS (nX mm)).length=(nX mm).length:=by simp [aS]
         have hzl:(nX mm).length≤4000000:=by omega
         have hEn:dA mm=if 65535 < (nX mm).length then ([],4) else (nX mm,0):=by unfold dA;rw [if_neg (by simpa using cc)]
         generalize nX mm=Z at *
         by_cases cl:65535 < Z.length
         ·rw [if_pos cl] at hEn
          refine_lift nK fun _ => ?_
          all_goals first
           | (exfalso;omega)
           | skip
          go_ret2
          rw [hEn]
          exact ⟨by kernel_rfl,x02.trans xz⟩
         ·rw [if_neg cl] at hEn
          refine_lift nK fun _ => ?_
          all_goals first
           | (exfalso;omega)
           | skip
          go_ret2
          rw [hEn]
          exact ⟨by kernel_rfl,x02.trans xz⟩
 ·refine_lift JN (fun _ _ _ => ?_) (fun _ => ?_)
  all_goals first
   | (exfalso;simp_all;done)
   | skip
  go_ret2
  have hE:dA mm=([],dH mm):=by unfold dA;rw [if_pos cc]
  rw [hE]
  exact ⟨rfl,x02⟩
end Go.Proofs.X
