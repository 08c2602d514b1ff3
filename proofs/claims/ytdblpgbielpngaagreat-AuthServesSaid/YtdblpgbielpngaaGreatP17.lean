/- Laws and walks that the proof of the statement is made of (part 17). -/
import Derived.Test.YtdblpgbielpngaaGreatP16
set_option linter.unusedSimpArgs false
set_option linter.unusedVariables false
set_option maxRecDepth 100000
set_option maxHeartbeats 20000000
namespace Go.Proofs.X
open Go.RowKit
variable {cs:Array Value} {held:Bool} {qt:Int} {ps rs:List (List UInt8 × Nat)} {ls:List (List UInt8)} {css css0 es:List (List Value)} {d l m n o qn s t x y z:List UInt8} {B a b base c e fuel i j k p q:Nat} {fz:Nat × Nat} {row:Option Nat} {r u v:Value} {w w' w0 w1 w2:World}
theorem LE (h:p + 2≤s.length):RdS.number s ⟨(p:Nat),0⟩ 2=((s.getD p 0).toNat * 256 + (s.getD (p + 1) 0).toNat,⟨((p + 2:Nat):Int),0⟩):=by
 have hS:Stands s p [s.getD p 0,s.getD (p + 1) 0]:=by
  refine ⟨s.take p,s.drop (p + 2),?_,by rw [List.length_take];omega⟩;have hb:s.drop p=s.getD p 0 :: s.getD (p + 1) 0 :: s.drop (p + 2):=by
   rw [List.drop_eq_getElem_cons aE,List.drop_eq_getElem_cons aE];simp [List.getD_eq_getElem?_getD,List.getElem?_eq_getElem (show p < s.length by omega),List.getElem?_eq_getElem (show p + 1 < s.length by omega)]
  have:=List.take_append_drop p s;rw [hb] at this
  simpa using this.symm
 have:=hS.number 2 rfl;rw [LD] at this;exact this
theorem WY (s:List UInt8) (hs:s.length≤1000000):Calls Tryz.prog 19 #[aI s] w (fun e w'=>tC s e w w'):=by
 unfold tC;go_enter Tryz.func19,Tryz.ntmps19
 by_cases cl:s.length < 12
 ·rw [if_pos cl];refine_lift jS fun _ => ?_
  all_goals first
   | (have hh:False:=aE
      exact hh.elim)
   | skip
  refine bodyPost_ret (mP rfl _ _ _) rfl ?_;exact ⟨rfl,Ext.refl _⟩
 ·rw [if_neg cl];have h1:fW s=((s.getD 0 0).toNat * 256 + (s.getD 1 0).toNat,⟨((2:Nat):Int),0⟩):=LE (p:=0) aE;have h2:fP s=((s.getD 2 0).toNat * 256 + (s.getD 3 0).toNat,⟨((4:Nat):Int),0⟩):=by
   unfold fP;rw [h1];exact LE (p:=2) aE
  obtain ⟨_,b2,b3,_⟩:=GB (s.getD 2 0).toNat (s.getD 3 0).toNat (UInt8.toNat_lt _) (UInt8.toNat_lt _);rw [h1,h2];dsimp only;rw [b2,b3];clear h1 h2 b2 b3;refine_lift qQ ?_;intro _ _ _ _
  all_goals first
   | (have hh:False:=aE
      exact hh.elim)
   | skip
  have hb0:=UInt8.toNat_lt (s.getD 0 0);have hb1:=UInt8.toNat_lt (s.getD 1 0);have hb2:=UInt8.toNat_lt (s.getD 2 0);refine bS aR aR ?_;refine_lift oR ?_;refine rL (fun w' _=>Runs.quoN (m:=(s.getD 2 0).toNat) (n:=8) rfl rfl aE aE) ?_;refine aD ?_;refine rL (fun w' _=>Runs.remN (m:=(s.getD 2 0).toNat / 8) (n:=16) rfl rfl aE aE) ?_;refine aD ?_;refine_lift oR ?_;intro w2 x2;refine_lift aX ?_;refine bodyPost_ret (mP rfl _ _ _) rfl ?_;refine ⟨?_,x2⟩;have e1:(256 * (((s.getD 0 0).toNat:Nat):Int) + (((s.getD 1 0).toNat:Nat):Int))=(((s.getD 0 0).toNat * 256 + (s.getD 1 0).toNat:Nat):Int):=aE;have e2:decide ((128:Int)≤(((s.getD 2 0).toNat:Nat):Int))=decide (128≤(s.getD 2 0).toNat):=decide_eq_decide.2 aE;rw [← e1,← e2];rfl
theorem QU (v:Value) (hs:List HldR) (s:List UInt8) (stream:Bool) (w:World) (hv:HldsAt w v hs) (hl:hs.length≤1000) (hb:∀ h ∈ hs,∀ s ∈ h.l,s.data.length≤1000000) (hdH:∀ h ∈ hs,∀ s ∈ h.l,∀ d ∈ s.data,d.length≤4611686018427387904) (hsl:s.length≤1000000):Calls Tryz.prog 8 #[v,aI s, .bool stream] w (bC w (.tuple #[aI (fQ hs s stream).1, .bool (fQ hs s stream).2])):=by
 have hch:=fun w'=>WY (w:=w') s hsl;have hcd:=fun w'=>QT (w:=w') s hsl;have hS:fQ hs s stream=fQ hs s stream:=rfl
 conv at hS=>rhs;unfold fQ
 have hlq:(dD s).1.qs.length≤1000:=by
  unfold dD;split
  ·rename_i he;show (KO s).1.length≤1000;have:=CM (s:=s) (lN s).1 [] (QA s);have h9:=CN he;unfold KO;simp at this;omega
  ·exact Nat.zero_le _
 have hDd:(dD s).2=0→∀ r,r ∈ (dD s).1.an∨r ∈ (dD s).1.au∨r ∈ (dD s).1.ex→r.data.length≤4611686018427387904:=fun h r hr=>by
  have ho:=(QN h).1;have hc:aU r=0:=by
   rcases hr with hr | hr | hr
   ·exact ho.an r hr
   ·exact ho.au r hr
   ·exact ho.ex r hr
  have:=(tB hc).d;omega
 have hRd:=UM hs (dD s).1;unfold Bd at hRd;unfold tC at hch;unfold yD at hcd;generalize fQ hs s stream=RES at *;generalize dD s=D at *;go_enter Tryz.func8,Tryz.ntmps8
 by_cases cl:s.length < 12
 ·simp only [if_pos cl] at hch;rw [if_pos (.inl cl)] at hS;refine_lift cC fun _ _ => ?_;refine VC (hch _) fun w1 x1 => ?_;refine_lift jS fun _ => ?_;go_ret2;rw [hS];exact ⟨rfl,x1⟩
 ·simp only [if_neg cl] at hch;refine_lift cC fun _ _ => ?_;refine VC (hch _) fun w1 x1 => ?_;obtain ⟨rb,hrb⟩:∃ rb,bA (fP s).1 32768=rb:=⟨_,rfl⟩;rw [hrb] at hS;rw [hrb];cases rb with
  | true =>
   rw [if_pos (.inr rfl)] at hS;refine_lift jS fun _ => ?_;go_ret2;rw [hS];exact ⟨rfl,x1⟩
  | false =>
   rw [if_neg (by rintro (h | h);exact cl h;cases h)] at hS;refine_lift rI fun _ _ _ => ?_;refine wZ (hcd _) ?_;rintro _ w2 ⟨q,a,u,x,rfl,hm2,x2⟩;refine ⟨_,rfl,?_⟩;refine aD ?_;refine_lift aX ?_;refine fO (z:=fB) fun w3 x3 s3 h3 => ?_;refine aD ?_;have hm3:=hm2.ext x3;refine dS (v:=.agg (aM D.1 q a u x).toArray) h3 (bY hm3) fun w4 p4 => ?_;have x24:=cH x3 p4;have hB4:w4.heap[w2.heap.size]? = some (.cells (aM D.1 q a u x).toArray 48 (0,0)):=p4.this;have hpM:=aA (cs:=aM D.1 q a u x) hB4;unfold aM at hpM;have hm4:=hm2.ext x24;have x04:=x1.trans (x2.trans x24);clear p4 h3 x3 hm3;generalize w2.heap.size=mb at *;by_cases cD:D.2=0
   ·rw [if_neg (by simpa using cD)] at hS;refine_lift OV (fun _ _ _ => ?_) (fun _ _ _ _ _ => ?_)
    all_goals first
     | (have hh:False:=by have h9:=‹(!decide (D.2=0))=true›;rw [decide_eq_true cD] at h9;cases h9
        exact hh.elim)
     | skip
    have hcR:∀ w',Ext w4 w'→Calls Tryz.prog 23 #[v, .agg (aM D.1 q a u x).toArray] w' (oQ w' (UA w' (cT hs D.1))):=fun w' x'=>QM v hs D.1 q a u x w' ((hv.ext x04).ext x') (hm4.ext x') hl hb hdH (hDd cD);have hcF:∀ w' {q1 a1 u1 e1:Value},MsgV w' (cT hs D.1) q1 a1 u1 e1→Calls Tryz.prog 22 #[.agg (aM (cT hs D.1) q1 a1 u1 e1).toArray, .int .i64 (iL D.1.size stream)] w' (oQ w' (HT w' (rG (cT hs D.1) (iL D.1.size stream)))):=fun w' _ _ _ _ h'=>ZF _ _ _ _ _ _ w' h' hRd;have hlim:iL D.1.size stream=iL D.1.size stream:=rfl;generalize rG (cT hs D.1) (iL D.1.size stream)=FF at *;generalize cT hs D.1=R at *;refine dV (S:=fun w'=>Ext w4 w') aR ?_;intro w21 x21 _;refine jI 0 ?_;refine aD ?_;refine jI 1 ?_;refine aD ?_;refine jI 3 ?_;refine aD ?_;refine jI 4 ?_;refine aD ?_;refine KT 2 5 6 7 8 9 10 11 13 14 12 49 52 53 46 54 55 56 16 17 18 (fun b1 b2 b3 b4 b5 b6 b7 b8 b9 b10 b11=>(!b2 || b1) && (!b3 || b1) && (!b3 || b2) && (!b4 || b3) && (!b5 || b4) && (!b6 || b4) && (!b7 || b4) && (!b9 || b6) && (!b9 || b11) && (!b10 || b7) && (!b10 || b9) && (!b11 || b8) && (!b11 || b5)) (fun b1 b2 b3 b4 b5 b6 b7 b8 b9 b10 b11 => !b2 && !b3) (fun b1 b2 b3 b4 b5 b6 b7 b8 b9 b10 b11=>b1 && !b3) (fun b1 b2 b3 b4 b5 b6 b7 b8 b9 b10 b11=>b1 && b2 && !b4) (fun b1 b2 b3 b4 b5 b6 b7 b8 b9 b10 b11=>b3 && !b5 && !b6 && !b7) (fun b1 b2 b3 b4 b5 b6 b7 b8 b9 b10 b11=>b4 && !b11) (fun b1 b2 b3 b4 b5 b6 b7 b8 b9 b10 b11=>b4 && !b9) (fun b1 b2 b3 b4 b5 b6 b7 b8 b9 b10 b11=>b4 && !b10) (fun b1 b2 b3 b4 b5 b6 b7 b8 b9 b10 b11 => !b11) (fun b1 b2 b3 b4 b5 b6 b7 b8 b9 b10 b11=>b6 && b11 && !b10) (fun b1 b2 b3 b4 b5 b6 b7 b8 b9 b10 b11=>b7 && b9) (fun b1 b2 b3 b4 b5 b6 b7 b8 b9 b10 b11=>b8 && b5 && !b9) (fun b1 b2 b3 b4 b5 b6 b7 b8 b9 b10 b11 v1 v2 v3 v4 v5 v6 v7 v8 v9 v10 w'=>∃ q1 a1 u1 e1 q2 a2 u2 e2 zk,Ext w4 w'∧(b1=true→v1=.agg (aM R q1 a1 u1 e1).toArray∧(b3=false→MsgV w' R q1 a1 u1 e1))∧(b2=true→v2=.int .i64 (iL D.1.size stream))∧(b3=true→v3=.tuple #[.agg (aM FF.1 q2 a2 u2 e2).toArray,aI FF.2.1, .int .i64 FF.2.2]∧(∀ x ∈ aM FF.1 q2 a2 u2 e2,x.oneCell'=true))∧(b4=true→v4=.tuple #[.agg (aM FF.1 q2 a2 u2 e2).toArray,aI FF.2.1, .int .i64 FF.2.2])∧(b5=true→v5=.agg (aM FF.1 q2 a2 u2 e2).toArray)∧(b6=true→v6=aI FF.2.1)∧(b7=true→v7=.int .i64 FF.2.2)∧(b8=true→v8=.pointer (some ⟨zk,0,none⟩)∧w4.heap.size≤zk∧(b11=false→w'.heap[zk]? = some (.cells fB.toArray 48 (0,0))))∧(b9=true→v9=aI FF.2.1)∧(b10=true→v10=.int .i64 FF.2.2)) ?_ ?_ ?_ ?_ ?_ ?_ ?_ ?_ ?_ ?_ ?_ ?_ ?_
    ·exact ⟨undef,undef,undef,undef,undef,undef,undef,undef,0,x21,bP,bP,bP,bP,bP,bP,bP,bP,bP,bP⟩
    ·rintro b1 b2 b3 b4 b5 b6 b7 b8 b9 b10 b11 v1 v2 v3 v4 v5 v6 v7 v8 v9 v10 w5 hq ⟨q1,a1,u1,e1,q2,a2,u2,e2,zk,x5,f1,f2,f3,f4,f5,f6,f7,f8,f9,f10⟩;refine aD ?_;refine gE (hcR _ x5) ?_;rintro _ w6 x6 ⟨q1',a1',u1',e1',rfl,hm6⟩;refine aD ?_;refine aG ⟨x5.trans x6,_,rfl,q1',a1',u1',e1',q2,a2,u2,e2,zk,x5.trans x6,fun _=>⟨rfl,fun _=>hm6.msg⟩,f2,f3,f4,f5,f6,f7,fun e=>⟨(f8 e).1,(f8 e).2.1,fun e2=>x6.at ((f8 e).2.2 e2)⟩,f9,f10⟩
    ·rintro b1 b2 b3 b4 b5 b6 b7 b8 b9 b10 b11 v1 v2 v3 v4 v5 v6 v7 v8 v9 v10 w5 hq ⟨q1,a1,u1,e1,q2,a2,u2,e2,zk,x5,f1,f2,f3,f4,f5,f6,f7,f8,f9,f10⟩;refine aD ?_;refine cY (UK D.1 q a u x stream _ (hm4.ext x5)) fun w6 x6 => ?_;refine aG ⟨x5.trans x6,_,rfl,q1,a1,u1,e1,q2,a2,u2,e2,zk,x5.trans x6,fun e=>⟨(f1 e).1,fun e2=>((f1 e).2 e2).ext x6⟩,fun _=>rfl,f3,f4,f5,f6,f7,fun e=>⟨(f8 e).1,(f8 e).2.1,fun e2=>x6.at ((f8 e).2.2 e2)⟩,f9,f10⟩
    ·rintro b1 b2 b3 b4 b5 b6 b7 b8 b9 b10 b11 v1 v2 v3 v4 v5 v6 v7 v8 v9 v10 w5 hq ⟨q1,a1,u1,e1,q2,a2,u2,e2,zk,x5,f1,f2,f3,f4,f5,f6,f7,f8,f9,f10⟩;have hb1:b1=true:=by revert hq;cases b1 <;> simp
     have hb2:b2=true:=by revert hq;cases b2 <;> simp
     have hb4:b4=false:=by revert hq;cases b4 <;> simp
     have hb5:b5=false:=by revert hq;subst hb4;cases b5 <;> simp
     subst hb1 hb2 hb4 hb5;obtain ⟨rfl,g1⟩:=f1 rfl;obtain rfl:=f2 rfl;refine aD ?_;refine gE (hcF _ (g1 rfl)) ?_;rintro _ w6 x6 ⟨q2',a2',u2',e2',rfl,hm6⟩;refine aD ?_;refine aG ⟨x5.trans x6,_,rfl,q1,a1,u1,e1,q2',a2',u2',e2',zk,x5.trans x6,fun _=>⟨rfl,bP⟩,bP,fun _=>⟨rfl,hm6.one⟩,bP,bP,f6,f7,fun e=>⟨(f8 e).1,(f8 e).2.1,fun e2=>x6.at ((f8 e).2.2 e2)⟩,f9,f10⟩
    ·rintro b1 b2 b3 b4 b5 b6 b7 b8 b9 b10 b11 v1 v2 v3 v4 v5 v6 v7 v8 v9 v10 w5 hq ⟨q1,a1,u1,e1,q2,a2,u2,e2,zk,x5,f1,f2,f3,f4,f5,f6,f7,f8,f9,f10⟩;have hb3:b3=true:=by revert hq;cases b3 <;> simp
     subst hb3;obtain ⟨rfl,g1⟩:=f3 rfl;refine aD ?_
     ((with_reducible refine bM ?_);(first | (refine iX ?_;refine fG ?_) | (refine nV ?_;refine oW ?_;(with_reducible refine bM ?_);refine iX ?_;refine fG ?_)))
     refine aG ⟨x5,_,rfl,q1,a1,u1,e1,q2,a2,u2,e2,zk,x5,fun e=>⟨(f1 e).1,bP⟩,f2,fun _=>⟨rfl,g1⟩,fun _=>rfl,f5,f6,f7,f8,f9,f10⟩
    ·rintro b1 b2 b3 b4 b5 b6 b7 b8 b9 b10 b11 v1 v2 v3 v4 v5 v6 v7 v8 v9 v10 w5 hq ⟨q1,a1,u1,e1,q2,a2,u2,e2,zk,x5,f1,f2,f3,f4,f5,f6,f7,f8,f9,f10⟩;have hb4:b4=true:=by revert hq;cases b4 <;> simp
     subst hb4;have g4:=f4 rfl;subst g4;refine aD ?_
     ((with_reducible refine bM ?_);(first | (refine iX ?_;refine fG ?_) | (refine nV ?_;refine oW ?_;(with_reducible refine bM ?_);refine iX ?_;refine fG ?_)))
     refine aG ⟨x5,_,rfl,q1,a1,u1,e1,q2,a2,u2,e2,zk,x5,f1,f2,f3,fun _=>rfl,fun _=>rfl,f6,f7,f8,f9,f10⟩
    ·rintro b1 b2 b3 b4 b5 b6 b7 b8 b9 b10 b11 v1 v2 v3 v4 v5 v6 v7 v8 v9 v10 w5 hq ⟨q1,a1,u1,e1,q2,a2,u2,e2,zk,x5,f1,f2,f3,f4,f5,f6,f7,f8,f9,f10⟩;have hb4:b4=true:=by revert hq;cases b4 <;> simp
     subst hb4;have g4:=f4 rfl;subst g4;refine aD ?_
     ((with_reducible refine bM ?_);(first | (refine iX ?_;refine fG ?_) | (refine nV ?_;refine oW ?_;(with_reducible refine bM ?_);refine iX ?_;refine fG ?_)))
     refine aG ⟨x5,_,rfl,q1,a1,u1,e1,q2,a2,u2,e2,zk,x5,f1,f2,f3,fun _=>rfl,f5,fun _=>rfl,f7,f8,f9,f10⟩
    ·rintro b1 b2 b3 b4 b5 b6 b7 b8 b9 b10 b11 v1 v2 v3 v4 v5 v6 v7 v8 v9 v10 w5 hq ⟨q1,a1,u1,e1,q2,a2,u2,e2,zk,x5,f1,f2,f3,f4,f5,f6,f7,f8,f9,f10⟩;have hb4:b4=true:=by revert hq;cases b4 <;> simp
     subst hb4;have g4:=f4 rfl;subst g4;refine aD ?_
     ((with_reducible refine bM ?_);(first | (refine iX ?_;refine fG ?_) | (refine nV ?_;refine oW ?_;(with_reducible refine bM ?_);refine iX ?_;refine fG ?_)))
     refine aG ⟨x5,_,rfl,q1,a1,u1,e1,q2,a2,u2,e2,zk,x5,f1,f2,f3,fun _=>rfl,f5,f6,fun _=>rfl,f8,f9,f10⟩
    ·rintro b1 b2 b3 b4 b5 b6 b7 b8 b9 b10 b11 v1 v2 v3 v4 v5 v6 v7 v8 v9 v10 w5 hq ⟨q1,a1,u1,e1,q2,a2,u2,e2,zk,x5,f1,f2,f3,f4,f5,f6,f7,f8,f9,f10⟩;refine aD ?_;refine fO (z:=fB) fun w6 x6 s6 h6 => ?_;refine aD ?_;refine aG ⟨x5.trans x6,_,rfl,q1,a1,u1,e1,q2,a2,u2,e2,_,x5.trans x6,fun e=>⟨(f1 e).1,fun e2=>((f1 e).2 e2).ext x6⟩,f2,f3,f4,f5,f6,f7,fun _=>⟨rfl,x5.size,fun _=>h6⟩,f9,f10⟩
    ·rintro b1 b2 b3 b4 b5 b6 b7 b8 b9 b10 b11 v1 v2 v3 v4 v5 v6 v7 v8 v9 v10 w5 hq ⟨q1,a1,u1,e1,q2,a2,u2,e2,zk,x5,f1,f2,f3,f4,f5,f6,f7,f8,f9,f10⟩;have hb6:b6=true:=by revert hq;cases b6 <;> simp
     subst hb6;have g6:=f6 rfl;subst g6;refine aD ?_
     ((with_reducible refine bM ?_);(first | (refine iX ?_;refine fG ?_) | (refine nV ?_;refine oW ?_;(with_reducible refine bM ?_);refine iX ?_;refine fG ?_)))
     refine aG ⟨x5,_,rfl,q1,a1,u1,e1,q2,a2,u2,e2,zk,x5,f1,f2,f3,f4,f5,bP,f7,f8,fun _=>rfl,f10⟩
    ·rintro b1 b2 b3 b4 b5 b6 b7 b8 b9 b10 b11 v1 v2 v3 v4 v5 v6 v7 v8 v9 v10 w5 hq ⟨q1,a1,u1,e1,q2,a2,u2,e2,zk,x5,f1,f2,f3,f4,f5,f6,f7,f8,f9,f10⟩;have hb7:b7=true:=by revert hq;cases b7 <;> simp
     subst hb7;have g7:=f7 rfl;subst g7;refine aD ?_
     ((with_reducible refine bM ?_);(first | (refine iX ?_;refine fG ?_) | (refine nV ?_;refine oW ?_;(with_reducible refine bM ?_);refine iX ?_;refine fG ?_)))
     refine aG ⟨x5,_,rfl,q1,a1,u1,e1,q2,a2,u2,e2,zk,x5,f1,f2,f3,f4,f5,f6,bP,f8,f9,fun _=>rfl⟩
    ·rintro b1 b2 b3 b4 b5 b6 b7 b8 b9 b10 b11 v1 v2 v3 v4 v5 v6 v7 v8 v9 v10 w5 hq ⟨q1,a1,u1,e1,q2,a2,u2,e2,zk,x5,f1,f2,f3,f4,f5,f6,f7,f8,f9,f10⟩;have hb5:b5=true:=by revert hq;cases b5 <;> simp
     have hb8:b8=true:=by revert hq;cases b8 <;> simp
     have hb4:b4=true:=by revert hq;subst hb5;cases b4 <;> simp
     have hb3:b3=true:=by revert hq;subst hb4;cases b3 <;> simp
     subst hb3 hb5 hb8;have g5:=f5 rfl;subst g5;obtain ⟨g2,g3⟩:=f3 rfl;obtain ⟨rfl,g8,g9⟩:=f8 rfl;refine aD ?_;refine dS (v:=.agg (aM FF.1 q2 a2 u2 e2).toArray) (g9 rfl) (by simp only [Value.cells,List.all_toArray,List.all_eq_true];exact g3) fun w6 p6 => ?_;have x6:=cH x5 p6;refine aG ⟨x6,rfl,q1,a1,u1,e1,q2,a2,u2,e2,zk,x6,fun e=>⟨(f1 e).1,bP⟩,f2,fun _=>⟨g2,g3⟩,f4,fun _=>rfl,f6,f7,fun _=>⟨rfl,g8,bP⟩,f9,f10⟩
    ·rintro v1 v2 v3 v4 v5 v6 v7 v8 v9 v10 w9 ⟨q1,a1,u1,e1,q2,a2,u2,e2,zk,x9,f1,f2,f3,f4,f5,f6,f7,f8,f9,f10⟩;have k3:=(f3 rfl).1;have k9:=f9 rfl;have k10:=f10 rfl;clear f1 f2 f3 f4 f5 f6 f7 f8 f9 f10;subst k9 k10;refine aD ?_;refine dR aR ?_;have hB9:=x9.at hB4;have hp9:=aA (cs:=aM D.1 q a u x) hB9;unfold aM at hp9;have hm9:=hm4.ext x9;have x09:=x04.trans x9;clear hpM;by_cases cF:FF.2.2=0
     ·rw [if_neg (by simpa using cF)] at hS;refine_lift LP (fun _ => ?_) (fun _ _ _ => ?_)
      all_goals first
       | (have hh:False:=by have h9:=‹(!decide (FF.2.2=0))=true›;rw [decide_eq_true cF] at h9;cases h9
          exact hh.elim)
       | skip
      go_ret2;rw [hS];exact ⟨by kernel_rfl,x09⟩
     ·rw [if_pos cF] at hS;refine_lift LP (fun _ => ?_) (fun _ _ _ => ?_)
      all_goals first
       | (have hh:False:=by have h9:=‹(!decide (FF.2.2=0))=false›;rw [decide_eq_false cF] at h9;cases h9
          exact hh.elim)
       | skip
      refine gE (jP D.1 q a u x 2 _ hm9 hlq) ?_;intro _ wb xb ⟨qb,er,ob⟩;subst er;refine aD ?_;have hmb:MsgV wb (bareR D.1 2) qb aH aH aH:=⟨ob.sl,Sl.nil _ _,Sl.nil _ _,Sl.nil _ _⟩;have hnb:∀ r,r ∈ (bareR D.1 2).an∨r ∈ (bareR D.1 2).au∨r ∈ (bareR D.1 2).ex→r.data.length≤4611686018427387904:=fun r hr=>by rcases hr with hr | hr | hr <;> cases hr
      refine cY (tG hmb hnb) fun w10 x10 => ?_;refine_lift aX ?_;go_ret2;rw [hS];exact ⟨by kernel_rfl,x09.trans (xb.trans x10)⟩
   ·rw [if_pos cD] at hS;refine_lift OV (fun _ _ _ => ?_) (fun _ _ _ _ _ => ?_)
    all_goals first
     | (have hh:False:=by have h9:=‹(!decide (D.2=0))=false›;rw [decide_eq_false cD] at h9;cases h9
        exact hh.elim)
     | skip
    refine aS (v:=.agg (aM (KU ((fW s).1:Nat) (KV s)) aH aH aH aH).toArray) (Runs.build rfl (by kernel_rfl)) ?_;refine aD ?_;have hma:MsgV w4 (KU ((fW s).1:Nat) (KV s)) aH aH aH aH:=⟨Sl.nil _ _,Sl.nil _ _,Sl.nil _ _,Sl.nil _ _⟩;have hna:∀ r,r ∈ (KU ((fW s).1:Nat) (KV s)).an∨r ∈ (KU ((fW s).1:Nat) (KV s)).au∨r ∈ (KU ((fW s).1:Nat) (KV s)).ex→r.data.length≤4611686018427387904:=fun r hr=>by rcases hr with hr | hr | hr <;> cases hr
    refine cY (tG hma hna) fun w5 x5 => ?_;refine_lift aX ?_;go_ret2;rw [hS];exact ⟨by kernel_rfl,x04.trans x5⟩
section
variable {P:Program} {w:World} {ts:List Value} {df:List Deferred} {d:Option Nat} {ty:TypeId} {ps:String} {af:Array Edge} {g:Option (Nat × Bool)}
theorem Runs.eqB2 {t u:TypeId} {x y:Operand} {a b:Bool} (hx:(Act.mk ts.toArray df).eval x=.bool a) (hy:(Act.mk ts.toArray df).eval y=.bool b) (ht:TI P t=true) :
 Runs P (Oper.mk d (.binOp .eql t x y u) ty ps af g) (Act.mk ts.toArray df) w (.bool (a == b)):=by
 have hu:P.underlying t=some .bool:=by
  unfold TI at ht;split at ht
  ·assumption
  ·cases ht
 constructor;simp [execOp,hx,hy,eqGuard,binOp,run_equal_bool w t a b hu]
end
theorem NB (v:Value) (hs:List HldR) (s:List UInt8) (stream:Bool) (w:World) (hv:HldsAt w v hs) (_:s.length≤9223372036854775807):Calls Tryz.prog 3 #[v,aI s, .bool stream] w (bC w (.bool true)):=by
 go_enter Tryz.func3,Tryz.ntmps3
 refine_lift qQ fun _ _ _ _ => ?_;refine cY (WQ v hs _ hv) fun w2 x2 => ?_;cases hF:CR hs with
 | false =>
  refine_lift cC fun _ _ => ?_;refine cY (AD _) fun w3 x3 => ?_;refine_lift aX ?_;go_ret;exact ⟨rfl,x2.trans x3⟩
 | true =>
  obtain ⟨hl4,hbH⟩:=ZA hF;have hdH:=ZD hF;by_cases hsl:2000 < s.length
  ·refine_lift rI fun _ _ _ => ?_
   all_goals first
    | (have hh:False:=by have h9:=‹¬ (2000:Int) < (s.length:Int)›;omega
       exact hh.elim)
    | skip
   refine cY (AD _) fun w3 x3 => ?_;refine_lift aX ?_;go_ret;exact ⟨rfl,x2.trans x3⟩
  ·have hsl:s.length≤2000:=aE;refine_lift rI fun _ _ _ => ?_
   all_goals first
    | (have hh:False:=by have h9:=‹(2000:Int) < (s.length:Int)›;omega
       exact hh.elim)
    | skip
   have hcS:∀ w' v',HldsAt w' v' hs→Calls Tryz.prog 6 #[v',aI s, .bool stream] w' (bC w' (.tuple #[aI (fQ hs s stream).1, .bool (fQ hs s stream).2])):=fun w' v' h'=>HU v' hs s stream w' h' aE hbH aE;have hcT:∀ w' v',HldsAt w' v' hs→Calls Tryz.prog 8 #[v',aI s, .bool stream] w' (bC w' (.tuple #[aI (fQ hs s stream).1, .bool (fQ hs s stream).2])):=fun w' v' h'=>QU v' hs s stream w' h' aE hbH hdH aE;generalize fQ hs s stream=T at *;obtain ⟨t,is⟩:=T;dsimp only at *;refine EF (UH v hs _ (hv.ext x2) aE) fun v6 w6 x6 h6 => ?_;refine_lift aX ?_;refine cY (hcS _ _ h6) fun w7 x7 => ?_;have x27:=x2.trans (x6.trans x7);refine_lift cC fun _ _ => ?_;refine cY (hcT _ _ (hv.ext x27)) fun w8 x8 => ?_;have x28:=x27.trans x8;cases is with
   | true =>
    refine_lift cC fun _ _ => ?_;refine aS (v:=.bool true) (Runs.eqB2 (a:=true) (b:=true) rfl rfl aR) ?_;refine aD ?_;refine_lift aX ?_;refine cY (AD _) fun w9 x9 => ?_;refine_lift aX ?_;go_ret;exact ⟨rfl,x28.trans x9⟩
   | false =>
    refine_lift cC fun _ _ => ?_;refine aS (v:=.bool true) (Runs.eqB2 (a:=false) (b:=false) rfl rfl aR) ?_;refine aD ?_;refine_lift aX ?_;refine cY (AD _) fun w9 x9 => ?_;refine_lift aX ?_;go_ret;exact ⟨rfl,x28.trans x9⟩
end Go.Proofs.X
