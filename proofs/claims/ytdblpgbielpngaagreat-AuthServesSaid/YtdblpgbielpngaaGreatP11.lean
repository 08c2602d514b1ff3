/- Laws and walks that the proof of the statement is made of (part 11). -/
import Derived.Test.YtdblpgbielpngaaGreatP10
set_option linter.unusedSimpArgs false
set_option linter.unusedVariables false
set_option maxRecDepth 100000
set_option maxHeartbeats 20000000
namespace Go.Proofs.X
open Go.RowKit
variable {cs:Array Value} {held:Bool} {qt:Int} {ps rs:List (List UInt8 × Nat)} {ls:List (List UInt8)} {css css0 es:List (List Value)} {d l m n o qn s t x y z:List UInt8} {B a b base c e fuel i j k p q:Nat} {fz:Nat × Nat} {row:Option Nat} {r u v:Value} {w w' w0 w1 w2:World}
def CL:MsgR:={ zeroM with resp:=true,rcode:=1 }
def iO (m:MsgR) (a:AnsR):MsgR:={ bareR m 0 with rcode:=if a.kind=2 then 3 else 0,auth := !decide (a.kind=3),an:=a.ans,au:=a.auth,ex:=a.extra }
def OD (m:MsgR) (h:HldR) (x:rC):MsgR:=if h.up=false∨nW h.o h.l x.1≠0∨h.o≠fold h.org then bareR m 2 else iO m (rB h.o h.l x.1 x.2)
def cT (hs:List HldR) (m:MsgR):MsgR :=
 if cS m≠0 then CL else if m.resp=true then bareR m 1 else if m.op≠0 then bareR m 4 else if m.qs.length≠1 then bareR m 1
 else if m.qs.head!.2=252∨m.qs.head!.2=251 then bareR m 4
 else match UR hs m.qs.head!.1 with
  | none=>bareR m 5
  | some i=>OD m hs[i]! m.qs.head!
theorem HS (n:List UInt8):∀ (l:List HldR) (k:Nat) (b:Option Nat) (most:Int) (i:Nat),yA n l k b most=some i→b=some i∨(k≤i∧i < k + l.length)
 | [],k,b,most,i,h=>.inl h
 | x :: l,k,b,most,i,h=>by
   unfold yA at h;split at h
   ·rcases HS n l (k + 1) _ _ i h with e | e
    ·cases e
     exact .inr ⟨aE,bP⟩
    ·exact .inr ⟨aE,by simp;omega⟩
   ·rcases HS n l (k + 1) _ _ i h with e | e
    ·exact .inl e
    ·exact .inr ⟨aE,by simp;omega⟩
theorem TZ {hs:List HldR} (h:UR hs n=some i):i < hs.length:=by
 rcases HS n hs 0 none (-1) i h with e | e
 ·cases e
 ·omega
structure MsgW (B:Nat) (w:World) (m:MsgR) (q a u e:Value):Prop where
 oq:Own B 2 45 w q (cR m.qs)
 oa:Own B 4 67 w a (aJ m.an)
 ou:Own B 4 67 w u (aJ m.au)
 oe:Own B 4 67 w e (aJ m.ex)
theorem MsgW.msg {m:MsgR} {q a e:Value} (h:MsgW B w m q a u e):MsgV w m q a u e:=⟨h.oq.sl,h.oa.sl,h.ou.sl,h.oe.sl⟩
theorem MsgW.ext {m:MsgR} {q a e:Value} (h:MsgW B w m q a u e) (x:Ext w w'):MsgW B w' m q a u e:=⟨h.oq.ext x,h.oa.ext x,h.ou.ext x,h.oe.ext x⟩
theorem MsgW.weaken {C:Nat} {m:MsgR} {q a e:Value} (h:MsgW B w m q a u e) (x:C≤B):MsgW C w m q a u e:=⟨h.oq.weaken x,h.oa.weaken x,h.ou.weaken x,h.oe.weaken x⟩
theorem MsgW.box {m:MsgR} {q a e:Value} (h:MsgW B w m q a u e) (hb:w.heap[b]? = some (.cells cs 48 fz)) (hm:Mv (some b) w w'):MsgW B w' m q a u e :=
 ⟨h.oq.mv hm (.inr (h.oq.neBlock hb bG)),h.oa.mv hm (.inr (h.oa.neBlock hb bG)),h.ou.mv hm (.inr (h.ou.neBlock hb bG)),h.oe.mv hm (.inr (h.oe.neBlock hb bG))⟩
def UA (w:World) (M:MsgR):Value→World→Prop:=fun r w'=>∃ q a u e,r=.agg (aM M q a u e).toArray∧MsgW w.heap.size w' M q a u e
theorem AC (v:Value) (hs:List HldR) (m:MsgR) (q a u e:Value) (w:World) (hv:HldsAt w v hs) (hm:MsgV w m q a u e) (hl:hs.length≤1000) (hb:∀ h ∈ hs,∀ s ∈ h.l,s.data.length≤1000000):Calls Tryz.prog 12 #[v, .agg (aM m q a u e).toArray] w (oQ w (UA w (cT hs m))):=by
 obtain ⟨css,hsl,hcl⟩:=hv.sl;go_enter Tryz.func12,Tryz.ntmps12
 refine_lift mS fun _ _ => ?_;refine zV (vs:=aM m q a u e) fun w1 x1 s1 hb1 => ?_;refine aD ?_;refine fO (z:=fB) fun w2 x2 s2 hz2 => ?_;refine aD ?_;have x02:=x1.trans x2;have hpM:=aA (cs:=aM m q a u e) (x2.at hb1);unfold aM at hpM;have hm2:=hm.ext x02;refine_lift qQ fun _ _ _ _ => ?_;refine cY (CF m q a u e _ hm2) fun w3 x3 => ?_;have x03:=x02.trans x3;have hz3:=x3.at hz2;have hm3:=hm2.ext x3;have hpM:=hpM.ext x3;by_cases cc:cS m=0
 ·have hok:=mX cc;have hlq:m.qs.length≤1000:=by have:=hok.ql;omega
  have hql:=dC m.qs;cases cr:m.resp with
  | true =>
   have hR:cT hs m=bareR m 1:=by unfold cT;rw [if_neg (by simpa using cc),if_pos cr]
   rw [cr] at hpM;refine_lift rT (fun _ _ _ => ?_) (fun _ _ _ => ?_)
   all_goals first
    | (exfalso;omega)
    | (exfalso;rename_i hz9;simp at hz9;omega)
    | (exfalso;simp_all;done)
    | skip
   rw [← cr];refine gE (oN m q a u e 1 _ (hm3) hlq) ?_;intro _ wb xb ⟨qb,er,ob⟩;subst er;refine aD ?_;have hmb:MsgV wb (bareR m 1) qb aH aH aH:=⟨ob.sl,Sl.nil _ _,Sl.nil _ _,Sl.nil _ _⟩;have hzb:=xb.at hz3;refine dS (v:=.agg (aM (bareR m 1) qb aH aH aH).toArray) hzb (bY hmb) fun wc pc => ?_;have xc:=cH ((x03).trans xb) pc;refine_lift aX ?_;refine xB (cs:=aM (bareR m 1) qb aH aH aH) pc.this ⟨_,rfl,xc,qb,aH,aH,aH,by rw [hR],?_⟩;rw [hR];exact ⟨(cM ob pc hzb).weaken (x03).size,Own.nil _ _ _ _,Own.nil _ _ _ _,Own.nil _ _ _ _⟩
  | false =>
   have hR0:cT hs m=_:=rfl
   conv at hR0=>rhs;unfold cT;rw [if_neg (by simpa using cc),if_neg (by rw [cr];decide)]
   rw [cr] at hpM;by_cases co:m.op=0
   ·rw [if_neg (by simpa using co)] at hR0;have hq3:=hm3.qs;by_cases c1:m.qs.length=1
    ·rw [if_neg (by simpa using c1)] at hR0;obtain ⟨⟨xn,xk⟩,hx1⟩:∃ x,m.qs=[x]:=List.length_eq_one_iff.1 c1;have hxh:m.qs.head! = (xn,xk):=by rw [hx1];rfl
     rw [hxh] at hR0;dsimp only at hR0;have hqe:=hq3.elem (i:=0) (e:=[aI xn, .int .i64 xk]) (by rw [hx1];rfl);refine_lift LQ (fun _ _ _ _ => ?_) (fun _ _ _ _ _ => ?_) (fun _ _ _ _ _ => ?_) (fun _ _ _ => ?_)
     all_goals first
      | (exfalso;omega)
      | (exfalso;rename_i hz9;simp at hz9;omega)
      | (exfalso;simp_all;done)
      | skip
     refine fO (z:=[aI [], .int .i64 0]) fun w4 x4 s4 h4 => ?_;refine aD ?_;refine dS (v:=.agg #[aI xn, .int .i64 xk]) h4 (TY rfl rfl) fun w5 p5 => ?_;have x5:=cH x4 p5;have hpx:=aA (cs:=[aI xn, .int .i64 xk]) p5.this;have hpM:=hpM.ext x5;have hm5:=hm3.ext x5;have hz5:=x5.at hz3;have x05:=x03.trans x5;clear p5 h4 x4 hqe;generalize w3.heap.size=c at *;by_cases ct:xk=252∨xk=251
     ·have hR:cT hs m=bareR m 4:=by rw [hR0,if_pos ct]
      refine_lift VB (fun _ _ hc _ _ => ?_) (fun _ _ hc _ _ _ => ?_)
      all_goals first
       | (exfalso;omega)
       | skip
      all_goals rw [← cr]
      all_goals refine gE (oN m q a u e 4 _ (hm5) hlq) ?_
      all_goals intro _ wb xb ⟨qb,er,ob⟩
      all_goals subst er
      all_goals refine aD ?_
      all_goals have hmb:MsgV wb (bareR m 4) qb aH aH aH:=⟨ob.sl,Sl.nil _ _,Sl.nil _ _,Sl.nil _ _⟩
      all_goals have hzb:=xb.at hz5
      all_goals refine dS (v:=.agg (aM (bareR m 4) qb aH aH aH).toArray) hzb (bY hmb) ?_
      all_goals intro wc pc
      all_goals have xc:=cH ((x05).trans xb) pc
      all_goals refine_lift aX ?_
      all_goals refine xB (cs:=aM (bareR m 4) qb aH aH aH) pc.this ⟨_,rfl,xc,qb,aH,aH,aH,by rw [hR],?_⟩
      all_goals rw [hR]
      all_goals exact ⟨(cM ob pc hzb).weaken (x05).size,Own.nil _ _ _ _,Own.nil _ _ _ _,Own.nil _ _ _ _⟩
     ·rw [if_neg ct] at hR0
      (repeat' first | ((with_reducible refine cQ ?_);go_step) | ((with_reducible refine bM ?_);first | refine gR ?_ | (refine cV ?_ ?_ <;> intro hc)) | fail)
      all_goals first
       | (exfalso;omega)
       | skip
      refine cY (Bl v hs xn _ (hv.ext x05) hl) fun w6 x6 => ?_;have hpM:=hpM.ext x6;have hpx:=hpx.ext x6;have hm6:=hm5.ext x6;have hz6:=x6.at hz5;have x06:=x05.trans x6;cases hof:UR hs xn with
      | none =>
       rw [hof] at hR0;have hR:cT hs m=bareR m 5:=hR0;refine_lift qQ fun _ _ _ _ => ?_;rw [← cr];refine gE (oN m q a u e 5 _ (hm6) hlq) ?_;intro _ wb xb ⟨qb,er,ob⟩;subst er;refine aD ?_;have hmb:MsgV wb (bareR m 5) qb aH aH aH:=⟨ob.sl,Sl.nil _ _,Sl.nil _ _,Sl.nil _ _⟩;have hzb:=xb.at hz6;refine dS (v:=.agg (aM (bareR m 5) qb aH aH aH).toArray) hzb (bY hmb) fun wc pc => ?_;have xc:=cH ((x06).trans xb) pc;refine_lift aX ?_;refine xB (cs:=aM (bareR m 5) qb aH aH aH) pc.this ⟨_,rfl,xc,qb,aH,aH,aH,by rw [hR],?_⟩;rw [hR];exact ⟨(cM ob pc hzb).weaken (x06).size,Own.nil _ _ _ _,Own.nil _ _ _ _,Own.nil _ _ _ _⟩
      | some i =>
       rw [hof] at hR0;dsimp only at hR0;have hil:=TZ hof;have hbang:hs[i]! = hs[i]:=getElem!_pos hs i hil;rw [hbang] at hR0;obtain ⟨y,hel,hsy⟩:=(hv.ext x06).elem (List.getElem?_eq_getElem hil);have hbi:=hb _ (List.getElem_mem hil);generalize hs[i]=H at *;obtain ⟨ep,hep⟩:∃ ep,Bk v (some i)=ep:=⟨_,rfl⟩;have hep2:dY v (i * 4)=ep:=hep;rw [hep];rw [hep2] at hel;obtain ⟨pb,po,hpe⟩:∃ pb po,ep=.pointer (some ⟨pb,po,none⟩):=by obtain ⟨b,o,h,_⟩:=hel.out;exact ⟨b,o,h⟩
       subst hpe;refine_lift cC fun _ _ => ?_;have hH:OD m H (xn,xk)=if H.up=false∨nW H.o H.l xn≠0∨H.o≠fold H.org then bareR m 2 else iO m (rB H.o H.l xn xk):=rfl
       rw [hH] at hR0;have hcA:∀ w',Ext w6 w'→Calls Tryz.prog 32 #[.agg #[aI H.o,y], .agg #[aI xn, .int .i64 xk]] w' (oQ w' fun r w3=>∃ z,r=.tuple #[z, .int .i64 (nW H.o H.l xn)]∧AnsO w'.heap.size (rB H.o H.l xn xk) z w3):=fun w' x'=>Ah H.o y H.l xn xk w' (hsy.ext x') hbi;generalize nW H.o H.l xn=E at *;generalize rB H.o H.l xn xk=A at *;have hel0:Pts w6 (dZ (.pointer (some ⟨pb,po,none⟩)) 0) [aI H.o,y]:=(hel.front 2).part 0;refine dV (S:=fun w'=>Ext w6 w') aR ?_;intro w21 x21 hh21;refine jI 0 ?_;refine aD ?_;refine jI 1 ?_;refine aD ?_;refine jI 2 ?_;refine aD ?_;refine jI 3 ?_;refine aD ?_;refine jI 4 ?_;refine aD ?_;refine UZ 5 6 7 8 9 10 61 55 62 63 7 (fun b1 b2 b3 b4 b5 b6=>(!b2 || b1) && (!b3 || b2) && (!b4 || b2) && (!b6 || b1) && (!b6 || b3) && (!b6 || b5)) (fun b1 b2 b3 b4 b5 b6 => !b2 && !b6) (fun b1 b2 b3 b4 b5 b6=>b1 && !b3 && !b4) (fun b1 b2 b3 b4 b5 b6=>b2 && !b6) (fun b1 b2 b3 b4 b5 b6=>b2) (fun b1 b2 b3 b4 b5 b6 => !b6) (fun b1 b2 b3 b4 b5 b6=>b1 && b3 && b5) (fun b1 b2 b3 b4 b5 b6 v1 v2 v3 v4 v5 w'=>∃ u1 u2 u3 zk,Ext w6 w'∧(b1=true→v1=.tuple #[.agg #[.int .i64 A.kind,u1,u2,u3], .int .i64 E]∧Own w6.heap.size 4 67 w' u1 (aJ A.ans)∧Own w6.heap.size 4 67 w' u2 (aJ A.auth)∧Own w6.heap.size 4 67 w' u3 (aJ A.extra))∧(b2=true→v2=.tuple #[.agg #[.int .i64 A.kind,u1,u2,u3], .int .i64 E])∧(b3=true→v3=.agg #[.int .i64 A.kind,u1,u2,u3])∧(b4=true→v4=.int .i64 E)∧(b5=true→v5=.pointer (some ⟨zk,0,none⟩)∧w6.heap.size≤zk∧w'.heap[zk]? = some (.cells (bif b6 then [.int .i64 A.kind,u1,u2,u3] else mO).toArray 72 (0,0)))) ?_ ?_ ?_ ?_ ?_ ?_ ?_ ?_
       ·exact ⟨undef,undef,undef,0,x21,bP,bP,bP,bP,bP⟩
       ·rintro b1 b2 b3 b4 b5 b6 v1 v2 v3 v4 v5 w2 hq ⟨u1,u2,u3,zk,x2,f1,f2,f3,f4,f5⟩;have hb2:b2=false:=by revert hq;cases b2 <;> simp
        have hb6:b6=false:=by revert hq;cases b6 <;> simp
        have hb3:b3=false:=by revert hq;subst hb2;cases b3 <;> simp
        have hb4:b4=false:=by revert hq;subst hb2;cases b4 <;> simp
        subst hb2 hb3 hb4 hb6;refine aD ?_;refine gE (hcA _ x2) ?_;rintro _ w3 x3 ⟨z,rfl,u1',u2',u3',rfl,o1,o2,o3⟩;refine aD ?_;refine aG ⟨x2.trans x3,_,rfl,u1',u2',u3',zk,x2.trans x3,fun _=>⟨rfl,o1.weaken x2.size,o2.weaken x2.size,o3.weaken x2.size⟩,bP,bP,bP,fun e => ?_⟩;obtain ⟨g1,g2,g3⟩:=f5 e;exact ⟨g1,g2,x3.at g3⟩
       ·rintro b1 b2 b3 b4 b5 b6 v1 v2 v3 v4 v5 w2 hq ⟨u1,u2,u3,zk,x2,f1,f2,f3,f4,f5⟩;have hb1:b1=true:=by revert hq;cases b1 <;> simp
        have hb3:b3=false:=by revert hq;cases b3 <;> simp
        have hb4:b4=false:=by revert hq;cases b4 <;> simp
        subst hb1 hb3 hb4;obtain ⟨rfl,g1⟩:=f1 rfl;refine aD ?_
        ((with_reducible refine bM ?_);(first | (refine iX ?_;refine fG ?_) | (refine nV ?_;refine oW ?_;(with_reducible refine bM ?_);refine iX ?_;refine fG ?_)))
        refine aG ⟨x2,_,rfl,u1,u2,u3,zk,x2,fun _=>⟨rfl,g1⟩,fun _=>rfl,bP,bP,f5⟩
       ·rintro b1 b2 b3 b4 b5 b6 v1 v2 v3 v4 v5 w2 hq ⟨u1,u2,u3,zk,x2,f1,f2,f3,f4,f5⟩;have hb2:b2=true:=by revert hq;cases b2 <;> simp
        have hb6:b6=false:=by revert hq;cases b6 <;> simp
        subst hb2 hb6;have g2:=f2 rfl;subst g2;refine aD ?_
        ((with_reducible refine bM ?_);(first | (refine iX ?_;refine fG ?_) | (refine nV ?_;refine oW ?_;(with_reducible refine bM ?_);refine iX ?_;refine fG ?_)))
        refine aG ⟨x2,_,rfl,u1,u2,u3,zk,x2,f1,fun _=>rfl,fun _=>rfl,f4,f5⟩
       ·rintro b1 b2 b3 b4 b5 b6 v1 v2 v3 v4 v5 w2 hq ⟨u1,u2,u3,zk,x2,f1,f2,f3,f4,f5⟩;have hb2:b2=true:=by revert hq;cases b2 <;> simp
        subst hb2;have g2:=f2 rfl;subst g2;refine aD ?_
        ((with_reducible refine bM ?_);(first | (refine iX ?_;refine fG ?_) | (refine nV ?_;refine oW ?_;(with_reducible refine bM ?_);refine iX ?_;refine fG ?_)))
        refine aG ⟨x2,_,rfl,u1,u2,u3,zk,x2,f1,fun _=>rfl,f3,fun _=>rfl,f5⟩
       ·rintro b1 b2 b3 b4 b5 b6 v1 v2 v3 v4 v5 w2 hq ⟨u1,u2,u3,zk,x2,f1,f2,f3,f4,f5⟩;have hb6:b6=false:=by revert hq;cases b6 <;> simp
        subst hb6;refine aD ?_;refine fO (z:=mO) fun w3 x3 s3 h3 => ?_;refine aD ?_;refine aG ⟨x2.trans x3,_,rfl,u1,u2,u3,_,x2.trans x3,fun e => ?_,f2,f3,f4,fun _=>⟨rfl,x2.size,h3⟩⟩;obtain ⟨g1,g2,g3,g4⟩:=f1 e;exact ⟨g1,g2.ext x3,g3.ext x3,g4.ext x3⟩
       ·rintro b1 b2 b3 b4 b5 b6 v1 v2 v3 v4 v5 w2 hq ⟨u1,u2,u3,zk,x2,f1,f2,f3,f4,f5⟩;have hb1:b1=true:=by revert hq;cases b1 <;> simp
        have hb3:b3=true:=by revert hq;cases b3 <;> simp
        have hb5:b5=true:=by revert hq;cases b5 <;> simp
        subst hb1 hb3 hb5;have g3:=f3 rfl;subst g3;obtain ⟨rfl,g5,g6⟩:=f5 rfl;obtain ⟨e1,o1,o2,o3⟩:=f1 rfl;refine aD ?_;refine dS (v:=.agg #[.int .i64 A.kind,u1,u2,u3]) g6 (fI rfl o1.one o2.one o3.one) fun w3 p3 => ?_;have x3:=cH x2 p3;refine aG ⟨x3,rfl,u1,u2,u3,zk,x3,fun _=>⟨e1,cM o1 p3 g6,cM o2 p3 g6,cM o3 p3 g6⟩,f2,fun _=>rfl,f4,fun _=>⟨rfl,g5,p3.this⟩⟩
       ·rintro v1 v2 v3 v4 v5 w9 ⟨u1,u2,u3,zk,x9,f1,f2,f3,f4,f5⟩;obtain ⟨g1,o1,o2,o3⟩:=f1 rfl;have k2:=f2 rfl;have k3:=f3 rfl;have k4:=f4 rfl;obtain ⟨k5,k6,k7⟩:=f5 rfl;clear f1 f2 f3 f4 f5;subst g1 k2 k3 k4 k5;refine aD ?_;refine jI 11 ?_;refine aD ?_;refine dR aR ?_;have k7':w9.heap[zk]? = some (.cells [.int .i64 A.kind,u1,u2,u3].toArray 72 (0,0)):=k7;have hpa:=aA (cs:=[.int .i64 A.kind,u1,u2,u3]) k7';have hpM:=hpM.ext x9;have hel:=hel.ext x9;have hm9:=hm6.ext x9;have hz9:=x9.at hz6;have x09:=x06.trans x9;clear k7 hcA hpx x21 hh21;clear hel0;have hcF:∀ w',Calls Tryz.prog 28 #[aI H.org] w' (bC w' (aI (fold H.org))):=fun w'=>RR H.org w';refine_lift qQ fun _ _ _ _ => ?_;cases hup:H.up with
        | false =>
         rw [hup] at hel hR0;rw [if_pos (.inl rfl)] at hR0;refine bS aR aR ?_;refine_lift oR ?_;intro w10 x10;have hpM:=hpM.ext x10;refine_lift cC fun _ _ => ?_;rw [← cr];refine gE (oN m q a u e 2 _ (hm9.ext x10) hlq) ?_;intro _ wb xb ⟨qb,er,ob⟩;subst er;refine aD ?_;have hmb:MsgV wb (bareR m 2) qb aH aH aH:=⟨ob.sl,Sl.nil _ _,Sl.nil _ _,Sl.nil _ _⟩;have hzb:=xb.at (x10.at hz9);refine dS (v:=.agg (aM (bareR m 2) qb aH aH aH).toArray) hzb (bY hmb) fun wc pc => ?_;have xc:=cH ((x09.trans x10).trans xb) pc;refine_lift aX ?_;refine xB (cs:=aM (bareR m 2) qb aH aH aH) pc.this ⟨_,rfl,xc,qb,aH,aH,aH,by rw [hR0],?_⟩;rw [hR0];exact ⟨(cM ob pc hzb).weaken (x09.trans x10).size,Own.nil _ _ _ _,Own.nil _ _ _ _,Own.nil _ _ _ _⟩
        | true =>
         rw [hup] at hel hR0;by_cases hE0:E=0
         ·refine bS aR aR ?_;refine_lift oR ?_;rw [show (!decide (E=0))=false by rw [hE0];rfl];refine_lift oR ?_;refine eJ (enters_of Tryz.func28 rfl rfl) rfl rfl (fun w' x'=>hcF w') ?_;refine aD ?_;refine_lift oR ?_;intro w10 x10;have hpM:=hpM.ext x10;have hpa:=hpa.ext x10;have hm10:=hm9.ext x10;have hz10:=x10.at hz9;have x010:=x09.trans x10;by_cases ho:H.o=fold H.org
          ·rw [if_neg (by rintro (h | h | h);cases h;exact h hE0;exact h ho)] at hR0;refine_lift rT (fun _ _ _ => ?_) (fun _ _ _ => ?_)
           all_goals first
            | (exfalso;have hh9:=‹(!decide (H.o=fold H.org))=true›;rw [decide_eq_true ho] at hh9;cases hh9;done)
            | skip
           rw [← cr];refine gE (oN m q a u e 0 _ hm10 hlq) ?_;intro _ wb xb ⟨qb,er,ob⟩;subst er;refine aD ?_;refine fO (z:=fB) fun w11 x11 s11 h11 => ?_;refine aD ?_;have hmb:MsgV w11 (bareR m 0) qb aH aH aH:=⟨(ob.ext x11).sl,Sl.nil _ _,Sl.nil _ _,Sl.nil _ _⟩;refine dS (v:=.agg (aM (bareR m 0) qb aH aH aH).toArray) h11 (bY hmb) fun w12 p12 => ?_;have x12:=cH x11 p12;have hB:w12.heap[wb.heap.size]? = some (.cells (aM (bareR m 0) qb aH aH aH).toArray 48 (0,0)):=p12.this;have x9b:Ext w9 w12:=x10.trans (xb.trans x12);have ob12:=ob.ext x12;have q1:=o1.one;have q2:=o2.one;have q3:=o3.one;have hza10:=x10.at k7';have hzkl:=(Array.getElem?_eq_some_iff.1 hza10).1;have x10b:=xb.trans x12;have hBB:w10.heap.size≤wb.heap.size:=xb.size;have hpa0:=hpa;have hpa:=hpa.ext x10b;clear p12 h11 x11 hmb hpM;have hzB:some zk≠some wb.heap.size:=by intro e9;have:=Option.some.inj e9;omega
           generalize wb.heap.size=BB at *;have hpB:=aA (cs:=aM (bareR m 0) qb aH aH aH) hB;unfold aM bareR at hpB;by_cases k2:A.kind=2
           ·refine_lift rI fun _ _ _ => ?_
            all_goals first
             | (exfalso;omega)
             | skip
            refine eS 7 (.int .i64 3) hB rfl fun w13 p13 => ?_;have x13:=cH x10b p13;have hB13:w13.heap[BB]? = some (.cells [.int .i64 m.id, .bool true, .int .i64 m.op, .bool false, .bool false, .bool m.want, .bool false, .int .i64 3,qb,aH,aH,aH, .int .i64 (if m.size=0 then 0 else 1232)].toArray 48 (0,0)):=p13.this;have ob13:=cM ob12 p13 hB;clear hpB hpa;have hpa:=hpa0.ext x13;have hpB:=True.intro;refine_lift cC fun _ _ => ?_;refine eS 3 (.bool (!decide (A.kind=3))) hB13 rfl fun w14 p14 => ?_;have x14:=cH (x13) p14;have hB14:w14.heap[BB]? = some (.cells [.int .i64 m.id, .bool true, .int .i64 m.op, .bool (!decide (A.kind=3)), .bool false, .bool m.want, .bool false, .int .i64 3,qb,aH,aH,aH, .int .i64 (if m.size=0 then 0 else 1232)].toArray 48 (0,0)):=p14.this;have ob14:=cM (ob13) p14 hB13;clear hpB;have hpa:=hpa0.ext x14;refine_lift cC fun _ _ => ?_;refine bE 11 (fun w'=>Pts w' (.pointer (some ⟨zk,0,none⟩)) [.int .i64 A.kind,u1,u2,u3]) aR ?_;intro w15 x15 _;have hza15:=x15.at (x14.at hza10);have hB15:=x15.at hB14;have x105:=x14.trans x15;have ob15:=ob14.ext x15;refine ⟨aA (cs:=[.int .i64 A.kind,u1,u2,u3]) hza15,?_⟩;refine cI 0 ?_;refine cI 1 ?_;refine cI 2 ?_;refine cI 3 ?_;refine cI 4 ?_;refine cI 5 ?_;refine zU 6 ?_;refine fR 7 ?_;refine eS 9 u1 hB15 q1 fun w16 p16 => ?_;have hza16:=p16.mv.at hza15 hzB;have hB16:w16.heap[BB]? = some (.cells [.int .i64 m.id, .bool true, .int .i64 m.op, .bool (!decide (A.kind=3)), .bool false, .bool m.want, .bool false, .int .i64 3,qb,u1,aH,aH, .int .i64 (if m.size=0 then 0 else 1232)].toArray 48 (0,0)):=p16.this;have x16:=cH x105 p16;have ob16:=cM ob15 p16 hB15;refine aG ⟨bJ (aA (cs:=[.int .i64 A.kind,u1,u2,u3]) hza16),?_⟩;refine zU 8 ?_;refine fR 9 ?_;refine eS 10 u2 hB16 q2 fun w17 p17 => ?_;have hza17:=p17.mv.at hza16 hzB;have hB17:w17.heap[BB]? = some (.cells [.int .i64 m.id, .bool true, .int .i64 m.op, .bool (!decide (A.kind=3)), .bool false, .bool m.want, .bool false, .int .i64 3,qb,u1,u2,aH, .int .i64 (if m.size=0 then 0 else 1232)].toArray 48 (0,0)):=p17.this;have x17:=cH x16 p17;have ob17:=cM ob16 p17 hB16;refine aG ⟨bJ (aA (cs:=[.int .i64 A.kind,u1,u2,u3]) hza17),?_⟩;refine zU 10 ?_;refine fR 11 ?_;refine eS 11 u3 hB17 q3 fun w18 p18 => ?_;have hB18:w18.heap[BB]? = some (.cells [.int .i64 m.id, .bool true, .int .i64 m.op, .bool (!decide (A.kind=3)), .bool false, .bool m.want, .bool false, .int .i64 3,qb,u1,u2,u3, .int .i64 (if m.size=0 then 0 else 1232)].toArray 48 (0,0)):=p18.this;have x18:=cH x17 p18;have ob18:=cM ob17 p18 hB17;refine aG ⟨bF rfl,?_⟩;refine qR ?_;have hT:iO m A=⟨m.id,true,m.op,!decide (A.kind=3),false,m.want,false,3,m.qs,A.ans,A.auth,A.extra,if m.size=0 then 0 else 1232⟩:=by
             unfold iO bareR;rw [if_pos k2]
            have hpC:=aA (cs:=[.int .i64 m.id, .bool true, .int .i64 m.op, .bool (!decide (A.kind=3)), .bool false, .bool m.want, .bool false, .int .i64 3,qb,u1,u2,u3, .int .i64 (if m.size=0 then 0 else 1232)]) hB18;refine_lift cC fun _ _ => ?_;have xe:Ext w9 w18:=x10.trans x18;have hmF:MsgV w18 (iO m A) qb u1 u2 u3:=by
             rw [hT];exact ⟨ob18.sl,(o1.ext xe).sl,(o2.ext xe).sl,(o3.ext xe).sl⟩
            have hzF:=x18.at hz10;refine iQ (v:=.agg (aM (iO m A) qb u1 u2 u3).toArray) rfl rfl (by rw [hT];rfl) hzF (aR:gL Tryz.prog 48 13=true) rfl (bY hmF) ?_;intro w19 p19;have x19:=cH (x09.trans xe) p19;refine_lift aX ?_;refine xB (cs:=aM (iO m A) qb u1 u2 u3) p19.this ⟨_,rfl,x19,qb,u1,u2,u3,by rw [hR0],?_⟩;rw [hR0,hT];have f0:=cM ob18 p19 hzF;have f1:=cM (o1.ext xe) p19 hzF;have f2:=cM (o2.ext xe) p19 hzF;have f3:=cM (o3.ext xe) p19 hzF;exact ⟨f0.weaken x010.size,f1.weaken x06.size,f2.weaken x06.size,f3.weaken x06.size⟩
           ·refine_lift rI fun _ _ _ => ?_
            all_goals first
             | (exfalso;omega)
             | skip
            have hB13:w12.heap[BB]? = some (.cells [.int .i64 m.id, .bool true, .int .i64 m.op, .bool false, .bool false, .bool m.want, .bool false, .int .i64 0,qb,aH,aH,aH, .int .i64 (if m.size=0 then 0 else 1232)].toArray 48 (0,0)):=hB;refine eS 3 (.bool (!decide (A.kind=3))) hB13 rfl fun w14 p14 => ?_;have x14:=cH (x10b) p14;have hB14:w14.heap[BB]? = some (.cells [.int .i64 m.id, .bool true, .int .i64 m.op, .bool (!decide (A.kind=3)), .bool false, .bool m.want, .bool false, .int .i64 0,qb,aH,aH,aH, .int .i64 (if m.size=0 then 0 else 1232)].toArray 48 (0,0)):=p14.this;have ob14:=cM (ob12) p14 hB13;clear hpB;have hpa:=hpa0.ext x14;refine_lift cC fun _ _ => ?_;refine bE 11 (fun w'=>Pts w' (.pointer (some ⟨zk,0,none⟩)) [.int .i64 A.kind,u1,u2,u3]) aR ?_;intro w15 x15 _;have hza15:=x15.at (x14.at hza10);have hB15:=x15.at hB14;have x105:=x14.trans x15;have ob15:=ob14.ext x15;refine ⟨aA (cs:=[.int .i64 A.kind,u1,u2,u3]) hza15,?_⟩;refine cI 0 ?_;refine cI 1 ?_;refine cI 2 ?_;refine cI 3 ?_;refine cI 4 ?_;refine cI 5 ?_;refine zU 6 ?_;refine fR 7 ?_;refine eS 9 u1 hB15 q1 fun w16 p16 => ?_;have hza16:=p16.mv.at hza15 hzB;have hB16:w16.heap[BB]? = some (.cells [.int .i64 m.id, .bool true, .int .i64 m.op, .bool (!decide (A.kind=3)), .bool false, .bool m.want, .bool false, .int .i64 0,qb,u1,aH,aH, .int .i64 (if m.size=0 then 0 else 1232)].toArray 48 (0,0)):=p16.this;have x16:=cH x105 p16;have ob16:=cM ob15 p16 hB15;refine aG ⟨bJ (aA (cs:=[.int .i64 A.kind,u1,u2,u3]) hza16),?_⟩;refine zU 8 ?_;refine fR 9 ?_;refine eS 10 u2 hB16 q2 fun w17 p17 => ?_;have hza17:=p17.mv.at hza16 hzB;have hB17:w17.heap[BB]? = some (.cells [.int .i64 m.id, .bool true, .int .i64 m.op, .bool (!decide (A.kind=3)), .bool false, .bool m.want, .bool false, .int .i64 0,qb,u1,u2,aH, .int .i64 (if m.size=0 then 0 else 1232)].toArray 48 (0,0)):=p17.this;have x17:=cH x16 p17;have ob17:=cM ob16 p17 hB16;refine aG ⟨bJ (aA (cs:=[.int .i64 A.kind,u1,u2,u3]) hza17),?_⟩;refine zU 10 ?_;refine fR 11 ?_;refine eS 11 u3 hB17 q3 fun w18 p18 => ?_;have hB18:w18.heap[BB]? = some (.cells [.int .i64 m.id, .bool true, .int .i64 m.op, .bool (!decide (A.kind=3)), .bool false, .bool m.want, .bool false, .int .i64 0,qb,u1,u2,u3, .int .i64 (if m.size=0 then 0 else 1232)].toArray 48 (0,0)):=p18.this;have x18:=cH x17 p18;have ob18:=cM ob17 p18 hB17;refine aG ⟨bF rfl,?_⟩;refine qR ?_;have hT:iO m A=⟨m.id,true,m.op,!decide (A.kind=3),false,m.want,false,0,m.qs,A.ans,A.auth,A.extra,if m.size=0 then 0 else 1232⟩:=by
             unfold iO bareR;rw [if_neg k2]
            have hpC:=aA (cs:=[.int .i64 m.id, .bool true, .int .i64 m.op, .bool (!decide (A.kind=3)), .bool false, .bool m.want, .bool false, .int .i64 0,qb,u1,u2,u3, .int .i64 (if m.size=0 then 0 else 1232)]) hB18;refine_lift cC fun _ _ => ?_;have xe:Ext w9 w18:=x10.trans x18;have hmF:MsgV w18 (iO m A) qb u1 u2 u3:=by
             rw [hT];exact ⟨ob18.sl,(o1.ext xe).sl,(o2.ext xe).sl,(o3.ext xe).sl⟩
            have hzF:=x18.at hz10;refine iQ (v:=.agg (aM (iO m A) qb u1 u2 u3).toArray) rfl rfl (by rw [hT];rfl) hzF (aR:gL Tryz.prog 48 13=true) rfl (bY hmF) ?_;intro w19 p19;have x19:=cH (x09.trans xe) p19;refine_lift aX ?_;refine xB (cs:=aM (iO m A) qb u1 u2 u3) p19.this ⟨_,rfl,x19,qb,u1,u2,u3,by rw [hR0],?_⟩;rw [hR0,hT];have f0:=cM ob18 p19 hzF;have f1:=cM (o1.ext xe) p19 hzF;have f2:=cM (o2.ext xe) p19 hzF;have f3:=cM (o3.ext xe) p19 hzF;exact ⟨f0.weaken x010.size,f1.weaken x06.size,f2.weaken x06.size,f3.weaken x06.size⟩
          ·rw [if_pos (.inr (.inr ho))] at hR0;refine_lift rT (fun _ _ _ => ?_) (fun _ _ _ => ?_)
           all_goals first
            | (exfalso;have hh9:=‹(!decide (H.o=fold H.org))=false›;rw [decide_eq_false ho] at hh9;cases hh9;done)
            | skip
           rw [← cr];refine gE (oN m q a u e 2 _ (hm10) hlq) ?_;intro _ wb xb ⟨qb,er,ob⟩;subst er;refine aD ?_;have hmb:MsgV wb (bareR m 2) qb aH aH aH:=⟨ob.sl,Sl.nil _ _,Sl.nil _ _,Sl.nil _ _⟩;have hzb:=xb.at hz10;refine dS (v:=.agg (aM (bareR m 2) qb aH aH aH).toArray) hzb (bY hmb) fun wc pc => ?_;have xc:=cH ((x010).trans xb) pc;refine_lift aX ?_;refine xB (cs:=aM (bareR m 2) qb aH aH aH) pc.this ⟨_,rfl,xc,qb,aH,aH,aH,by rw [hR0],?_⟩;rw [hR0];exact ⟨(cM ob pc hzb).weaken (x010).size,Own.nil _ _ _ _,Own.nil _ _ _ _,Own.nil _ _ _ _⟩
         ·rw [if_pos (.inr (.inl hE0))] at hR0;refine bS aR aR ?_;refine_lift oR ?_;rw [show (!decide (E=0))=true by rw [decide_eq_false hE0];rfl];refine_lift oR ?_;intro w10 x10;have hpM:=hpM.ext x10;refine_lift cC fun _ _ => ?_;rw [← cr];refine gE (oN m q a u e 2 _ (hm9.ext x10) hlq) ?_;intro _ wb xb ⟨qb,er,ob⟩;subst er;refine aD ?_;have hmb:MsgV wb (bareR m 2) qb aH aH aH:=⟨ob.sl,Sl.nil _ _,Sl.nil _ _,Sl.nil _ _⟩;have hzb:=xb.at (x10.at hz9);refine dS (v:=.agg (aM (bareR m 2) qb aH aH aH).toArray) hzb (bY hmb) fun wc pc => ?_;have xc:=cH ((x09.trans x10).trans xb) pc;refine_lift aX ?_;refine xB (cs:=aM (bareR m 2) qb aH aH aH) pc.this ⟨_,rfl,xc,qb,aH,aH,aH,by rw [hR0],?_⟩;rw [hR0];exact ⟨(cM ob pc hzb).weaken (x09.trans x10).size,Own.nil _ _ _ _,Own.nil _ _ _ _,Own.nil _ _ _ _⟩
    ·have hR:cT hs m=bareR m 1:=by rw [hR0,if_pos (by simpa using c1)]
     have hd1:¬ ((cR m.qs).length:Int)=1:=aE;refine_lift LQ (fun _ _ _ _ => ?_) (fun _ _ _ _ _ => ?_) (fun _ _ _ _ _ => ?_) (fun _ _ _ => ?_)
     all_goals first
      | (exfalso;exact hd1 (by simpa using ‹(!decide (((cR m.qs).length:Int)=1))=false›))
      | skip
     all_goals first
      | (exfalso;omega)
      | (exfalso;rename_i hz9;simp at hz9;omega)
      | (exfalso;simp_all;done)
      | skip
     rw [← cr];refine gE (oN m q a u e 1 _ (hm3) hlq) ?_;intro _ wb xb ⟨qb,er,ob⟩;subst er;refine aD ?_;have hmb:MsgV wb (bareR m 1) qb aH aH aH:=⟨ob.sl,Sl.nil _ _,Sl.nil _ _,Sl.nil _ _⟩;have hzb:=xb.at hz3;refine dS (v:=.agg (aM (bareR m 1) qb aH aH aH).toArray) hzb (bY hmb) fun wc pc => ?_;have xc:=cH ((x03).trans xb) pc;refine_lift aX ?_;refine xB (cs:=aM (bareR m 1) qb aH aH aH) pc.this ⟨_,rfl,xc,qb,aH,aH,aH,by rw [hR],?_⟩;rw [hR];exact ⟨(cM ob pc hzb).weaken (x03).size,Own.nil _ _ _ _,Own.nil _ _ _ _,Own.nil _ _ _ _⟩
   ·have hR:cT hs m=bareR m 4:=by rw [hR0,if_pos (by simpa using co)]
    (repeat' first | ((with_reducible refine cQ ?_);go_step) | ((with_reducible refine bM ?_);first | refine gR ?_ | (refine cV ?_ ?_ <;> intro hc)) | fail)
    all_goals first
     | (exfalso;omega)
     | (exfalso;rename_i hz9;simp at hz9;omega)
     | (exfalso;simp_all;done)
     | skip
    rw [← cr];refine gE (oN m q a u e 4 _ (hm3) hlq) ?_;intro _ wb xb ⟨qb,er,ob⟩;subst er;refine aD ?_;have hmb:MsgV wb (bareR m 4) qb aH aH aH:=⟨ob.sl,Sl.nil _ _,Sl.nil _ _,Sl.nil _ _⟩;have hzb:=xb.at hz3;refine dS (v:=.agg (aM (bareR m 4) qb aH aH aH).toArray) hzb (bY hmb) fun wc pc => ?_;have xc:=cH ((x03).trans xb) pc;refine_lift aX ?_;refine xB (cs:=aM (bareR m 4) qb aH aH aH) pc.this ⟨_,rfl,xc,qb,aH,aH,aH,by rw [hR],?_⟩;rw [hR];exact ⟨(cM ob pc hzb).weaken (x03).size,Own.nil _ _ _ _,Own.nil _ _ _ _,Own.nil _ _ _ _⟩
 ·have hR:cT hs m=CL:=by unfold cT;rw [if_pos cc]
  refine_lift LQ (fun _ _ _ _ => ?_) (fun _ _ _ _ _ => ?_) (fun _ _ _ _ _ => ?_) (fun _ _ _ => ?_)
  all_goals first
   | (exfalso;omega)
   | (exfalso;rename_i hz9;simp at hz9;omega)
   | (exfalso;simp_all;done)
   | skip
  refine aS (v:=.agg (aM CL aH aH aH aH).toArray) (Runs.build rfl (by kernel_rfl)) ?_;refine aD ?_;have hmb:MsgV w3 CL aH aH aH aH:=⟨Sl.nil _ _,Sl.nil _ _,Sl.nil _ _,Sl.nil _ _⟩;refine dS (v:=.agg (aM CL aH aH aH aH).toArray) hz3 (bY hmb) fun wc pc => ?_;have xc:=cH x03 pc;refine_lift aX ?_;refine xB (cs:=aM CL aH aH aH aH) pc.this ⟨_,rfl,xc,aH,aH,aH,aH,by rw [hR],?_⟩;rw [hR];exact ⟨Own.nil _ _ _ _,Own.nil _ _ _ _,Own.nil _ _ _ _,Own.nil _ _ _ _⟩
section
variable {P:Program} {w w':World} {a:Act} {d:Option Nat} {ty:TypeId} {ps:String} {af:Array Edge} {g:Option (Nat × Bool)}
theorem Runs.lenW {x:Operand} {t:Nat} (h:Sl k w' (a.eval x) es) (ht:fT P t k=true) :
 Runs P (Oper.mk d (.call ⟨.builtin .len,#[x],#[t]⟩) ty ps af g) a w (.int .i64 es.length):=by
 obtain ⟨ad,cap,h1,_⟩:=h;obtain ⟨e,i,ht,_⟩:=fF ht;constructor;simp [execOp,resolve,invoke,builtin,h1,Builtin.len_,run_underlying ht,goInt]
end
def lO (limit:Int) (x:MsgR):Bool:=decide ((bU x).2=0) && decide (((bU x).1.length:Int)≤limit)
def rF (m:MsgR):MsgR:={ m with trunc:=true,an:=[],au:=[],ex:=[] }
def dQ (m:MsgR) (n:Nat):MsgR:={ m with ex:=m.ex.take n }
def oO (m:MsgR) (limit:Int):MsgR × List UInt8 × Int:=if lO limit (rF m)=true then (rF m,(bU (rF m)).1,0) else (zeroM,[],4)
def tS (m:MsgR) (limit:Int):Nat→MsgR × List UInt8 × Int
 | 0=>if lO limit (dQ m 0)=true then (dQ m 0,(bU (dQ m 0)).1,0) else oO m limit
 | n + 1=>if lO limit (dQ m (n + 1))=true then (dQ m (n + 1),(bU (dQ m (n + 1))).1,0) else tS m limit n
def rG (m:MsgR) (limit:Int):MsgR × List UInt8 × Int:=if cS m≠0∨limit < 1∨65535 < limit then (zeroM,[],1) else tS m limit m.ex.length
def HT (w:World) (o:MsgR × List UInt8 × Int):Value→World→Prop:=fun r w'=>∃ q a u e,r=.tuple #[.agg (aM o.1 q a u e).toArray,aI o.2.1, .int .i64 o.2.2]∧MsgV w' o.1 q a u e
theorem yF {limit:Int} {x:MsgR} (h:lO limit x=true):(bU x).2=0∧((bU x).1.length:Int)≤limit:=by simpa [lO] using h
structure FitIn (w:World) (B b1 b2:Nat) (m:MsgR) (limit:Int) (RES:MsgR × List UInt8 × Int) (cut:Bool) (n:Nat) (mm:MsgR) (q a u e:Value) (wr:World):Prop where
 blk1:wr.heap[b1]? = some (.cells (aM mm q a u e).toArray 48 (0,0))
 blk2:wr.heap[b2]? = some (.cells fB.toArray 48 (0,0))
 ext:Ext w wr
 oq:Own B 2 45 wr q (cR mm.qs)
 oa:Own B 4 67 wr a (aJ mm.an)
 ou:Own B 4 67 wr u (aJ mm.au)
 oe:Own B 4 67 wr e (aJ mm.ex)
 len:m.ex.length≤1000
 spec:(cut=false∧n≤m.ex.length∧mm=dQ m n∧tS m limit n=RES)∨(cut=true∧mm=rF m∧oO m limit=RES)
theorem FitIn.msg {b1 b2:Nat} {m:MsgR} {limit:Int} {RES:MsgR × List UInt8 × Int} {cut:Bool} {n:Nat} {mm:MsgR} {q a e:Value} {wr:World} (h:FitIn w B b1 b2 m limit RES cut n mm q a u e wr):MsgV wr mm q a u e:=⟨h.oq.sl,h.oa.sl,h.ou.sl,h.oe.sl⟩
theorem FitIn.yes {b1 b2:Nat} {m:MsgR} {limit:Int} {RES:MsgR × List UInt8 × Int} {cut:Bool} {n:Nat} {mm:MsgR} {q a e:Value} {wr:World} (h:FitIn w B b1 b2 m limit RES cut n mm q a u e wr) (hf:lO limit mm=true):RES=(mm,(bU mm).1,0):=by
 rcases h.spec with ⟨-,-,h3,h4⟩ | ⟨-,h3,h4⟩
 ·rw [← h4];cases n with
  | zero=>unfold tS;rw [← h3,if_pos hf]
  | succ n=>unfold tS;rw [← h3,if_pos hf]
 ·rw [← h4];unfold oO;rw [← h3,if_pos hf]
theorem FitIn.end_ {b1 b2:Nat} {m:MsgR} {limit:Int} {RES:MsgR × List UInt8 × Int} {n:Nat} {mm:MsgR} {q a e:Value} {wr:World} (h:FitIn w B b1 b2 m limit RES true n mm q a u e wr) (hf:¬ lO limit mm=true):RES=(zeroM,[],4):=by
 rcases h.spec with ⟨h1,-⟩ | ⟨-,h3,h4⟩
 ·cases h1
 ·rw [← h4];unfold oO;rw [← h3,if_neg hf]
theorem FitIn.on {b1 b2:Nat} {m:MsgR} {limit:Int} {RES:MsgR × List UInt8 × Int} {n:Nat} {mm:MsgR} {q a e:Value} {wr:World} (h:FitIn w B b1 b2 m limit RES false n mm q a u e wr) (hf:¬ lO limit mm=true):mm=dQ m n∧n≤m.ex.length∧(n=0→oO m limit=RES)∧(∀ k,n=k + 1→tS m limit k=RES):=by
 rcases h.spec with ⟨h1,h2,h3,h4⟩ | ⟨h1,-⟩
 ·refine ⟨h3,h2,?_,?_⟩
  ·rintro rfl;rw [← h4];show oO m limit=(if lO limit (dQ m 0)=true then (dQ m 0,(bU (dQ m 0)).1,0) else oO m limit);rw [← h3,if_neg hf]
  ·rintro k rfl;rw [← h4];show tS m limit k=(if lO limit (dQ m (k + 1))=true then (dQ m (k + 1),(bU (dQ m (k + 1))).1,0) else tS m limit k);rw [← h3,if_neg hf]
 ·cases h1
def OE (b1:Nat) (a:Act) (w:World):Nat:=match a.tmps.getD 7 undef with
 | .bool true=>0
 | _=>match w.heap[b1]? with
   | some (.cells cs _ _)=>1 + KL (cs[11]?.getD undef)
   | _=>0
theorem FT {b1:Nat} {a:Act} {cs:List Value} {ty:TypeId} {fr:Nat × Nat} (h7:a.tmps.getD 7 undef=.bool false) (h:w.heap[b1]? = some (.cells cs.toArray ty fr)) (hv:cs[11]?.getD undef=v):OE b1 a w=1 + KL v:=by
 unfold OE;rw [h7,h,← hv];simp
theorem KS {b1:Nat} {a:Act} {mm:MsgR} {q a2 e:Value} {ty:TypeId} {fr:Nat × Nat} (h7:a.tmps.getD 7 undef=.bool false) (h:w.heap[b1]? = some (.cells (aM mm q a2 u e).toArray ty fr)):OE b1 a w=1 + KL e:=FT h7 h rfl
theorem Own.cut0 (h:Own B k e w v es) {n:Nat} (hn:n≤es.length):Own B k e w (dG v k 0 n) (es.take n):=by
 rcases h.form with ⟨rfl,rfl⟩ | ⟨g,cap,rfl,_⟩
 ·have:n=0:=by simpa using hn
  subst this
  simpa [dG] using h
 ·have:=h.short hn
  simpa [dG,Addr.add] using this
section
variable {P:Program} {a:Act} {w:World} {d:Option Nat} {ty:TypeId} {ps:String} {af:Array Edge} {g:Option (Nat × Bool)}
theorem Runs.toN {t:TypeId} {x hi:Operand} {n:Nat} (h2:a.eval hi=.int .i64 (n:Nat)) (h:Sl k w (a.eval x) es) (hn:n≤es.length) (ht:fT P t k=true) :
 Runs P (Oper.mk d (.slice t x none (some hi) none) ty ps af g) a w (dG (a.eval x) k 0 n):=by
 obtain ⟨ad,cap,h3,h4,_⟩:=h;obtain ⟨e,ie,ht,hie,hz⟩:=fF ht;constructor;simp [execOp,h3,h2,Instr.sliceAt,Instr.slice,run_underlying ht,Instr.sliceBounds,Instr.sliceBound,asIntOf,sizeOf,typeInfo,hie,hz,show n≤cap by omega,dG]
theorem gF {P:Program} {fn:Func} {ts:List Value} {p q r:Tmp} {t:TypeId} (h:fn.results=#[.cell p t, .tmp q, .tmp r]) {cs:List Value} {ty0:TypeId} {fr:Nat × Nat} (hp:ts.getD p undef=.pointer (some ⟨b,0,none⟩)) (hb:w.heap[b]? = some (.cells cs.toArray ty0 fr)) (ht:qN P t cs.length=true) :
 (results fn ts.toArray).run P w=.ok (.tuple #[.agg cs.toArray,ts.getD q undef,ts.getD r undef]) w:=by
 obtain ⟨u,ie,hu,hn,hie,hz⟩:=pN ht;have hl:=run_loadCells_list (P:=P) w ⟨b,0,none⟩ cs (fun j v hv=>by rw [eI,Nat.zero_add,cell_of_row w b j _ _ _ hb];simpa using hv);have hp':ts[p]?.getD undef=.pointer (some ⟨b,0,none⟩):=by simpa using hp
 simp [results,h,hp',asAddr,loadVar,Sem.run_bind,oT hu hn,sizeOf,typeInfo,hie,hz,hl,Result.andThen]
end
theorem Ar (m:MsgR) (q a u e:Value) (limit:Int) (w:World) (hm:MsgV w m q a u e):Calls Tryz.prog 16 #[.agg (aM m q a u e).toArray, .int .i64 limit] w (oQ w (HT w (rG m limit))):=by
 have hF:cS m=0∧1≤limit∧limit≤65535→tS m limit m.ex.length=rG m limit:=fun cc=>by unfold rG;rw [if_neg aE]
 have hF2:¬ (cS m=0∧1≤limit∧limit≤65535)→rG m limit=(zeroM,[],1):=fun cc=>by unfold rG;rw [if_pos aE]
 generalize rG m limit=RES at *;go_enter Tryz.func16,Tryz.ntmps16
 refine_lift mS fun _ _ => ?_;refine zV (vs:=aM m q a u e) fun w1 x1 s1 hb1 => ?_;refine aD ?_;refine fO (z:=fB) fun w2 x2 s2 hz2 => ?_;refine aD ?_;have x02:=x1.trans x2;have hb2:=x2.at hb1;have hpM:=aA (cs:=aM m q a u e) hb2;unfold aM at hpM;have hm2:=hm.ext x02;have hbb:w.heap.size≠w1.heap.size:=aE;have hw1:w.heap.size≤w1.heap.size:=aE;have hB1:w.heap.size < w2.heap.size:=aE;have hB2:w1.heap.size < w2.heap.size:=aE;have hBw:∀ k,w2.heap.size≤k→w.heap.size≤k:=fun k h=>by omega
 refine_lift aX ?_;generalize hb1e:w.heap.size=b1 at *;generalize hb2e:w1.heap.size=b2 at *;generalize hBe:w2.heap.size=B at *;refine DM 0 (fun a' wr=>∃ (cut:Bool) (n:Nat) (mm:MsgR) (q' a2 u2 e2 u8 u9 u10 u11 u12 u13 u14 u15 u16 u17 u18 u19 u20 u21 u22 u23 u24 u25 u26 u27 u28 u29 u30 u31 u32 u33 u34 u35 u36 u37 u38 u39 u40 u41 u42 u43 u44 u45 u46 u47 u48 u49 u50 u51 u52 u53 u54 u55 u56 u57 u58 u59 u60 u61 u62 u63 u64 u65 u66 u67 u68 u69 u70 u71 u72 u73:Value),a'=Act.mk [.agg (aM m q a u e).toArray, .int .i64 limit, .pointer (some ⟨b1,0,none⟩),undef, .pointer (some ⟨b2,0,none⟩),aI [], .int .i64 0, .bool cut,u8,u9,u10,u11,u12,u13,u14,u15,u16,u17,u18,u19,u20,u21,u22,u23,u24,u25,u26,u27,u28,u29,u30,u31,u32,u33,u34,u35,u36,u37,u38,u39,u40,u41,u42,u43,u44,u45,u46,u47,u48,u49,u50,u51,u52,u53,u54,u55,u56,u57,u58,u59,u60,u61,u62,u63,u64,u65,u66,u67,u68,u69,u70,u71,u72,u73].toArray []∧FitIn w B b1 b2 m limit RES cut n mm q' a2 u2 e2 wr) (OE b1) rfl ?_ ?_
 ·rintro a' wr ⟨cut,n,mm,q',a2,u2,e2,u8,u9,u10,u11,u12,u13,u14,u15,u16,u17,u18,u19,u20,u21,u22,u23,u24,u25,u26,u27,u28,u29,u30,u31,u32,u33,u34,u35,u36,u37,u38,u39,u40,u41,u42,u43,u44,u45,u46,u47,u48,u49,u50,u51,u52,u53,u54,u55,u56,u57,u58,u59,u60,u61,u62,u63,u64,u65,u66,u67,u68,u69,u70,u71,u72,u73,rfl,hI⟩;have hmr:=hI.msg;have hp1:=aA (cs:=aM mm q' a2 u2 e2) hI.blk1;unfold aM at hp1;refine_lift rI ?_;intro _ _ _;refine cY (wR hmr) fun w5 x5 => ?_;have hyes:=hI.yes;have hfe:=yF (limit:=limit) (x:=mm);have hfd:lO limit mm=(decide ((bU mm).2=0) && decide (((bU mm).1.length:Int)≤limit)):=rfl;have hz5:=x5.at hI.blk2;have hb5:=x5.at hI.blk1;have x05:=hI.ext.trans x5;have oq5:=hI.oq.ext x5;have oa5:=hI.oa.ext x5;have ou5:=hI.ou.ext x5;have oe5:=hI.oe.ext x5;generalize bU mm=E at *;obtain ⟨eb,ee⟩:=E;dsimp only at *;have hp1:=hp1.ext x5;by_cases hfit:lO limit mm=true
  ·obtain ⟨f1,f2⟩:=hfe hfit;subst f1;have hR:=hyes hfit;refine_lift QV fun _ _ _ _ _ => ?_
   all_goals first
    | (have hh:False:=aE
       exact hh.elim)
    | skip
   have hm5:=hmr.ext x5;refine dS (v:=.agg (aM mm q' a2 u2 e2).toArray) hz5 (bY hm5) fun w6 p6 => ?_;have x6:=cH x05 p6;refine_lift aX ?_
   (try simp only [Exit.inBlock,Exit.then,Exit.jump])
   refine bodyPost_ret (gF (cs:=aM mm q' a2 u2 e2) rfl rfl p6.this (aR:qN Tryz.prog 48 13=true)) rfl ⟨_,rfl,x6,?_⟩;rw [hR];exact ⟨q',a2,u2,e2,rfl,(cM oq5 p6 hz5).sl,(cM oa5 p6 hz5).sl,(cM ou5 p6 hz5).sl,(cM oe5 p6 hz5).sl⟩
  ·cases cut with
   | true =>
    have hE:=hI.end_ hfit;have hnf:¬ (ee=0∧(eb.length:Int)≤limit):=by rintro ⟨h1,h2⟩;exact hfit (by rw [hfd];simp [h1,h2])
    refine_lift VB (fun _ _ hc _ _ => ?_) (fun _ _ hc _ _ _ => ?_)
    all_goals first
     | (have hh:False:=aE
        exact hh.elim)
     | skip
    all_goals refine aS (v:=.agg fB.toArray) (Runs.build0 (by kernel_rfl)) ?_
    all_goals refine aD ?_
    all_goals refine dS (v:=.agg fB.toArray) hz5 aR ?_
    all_goals intro w6 p6
    all_goals have x6:=cH x05 p6
    all_goals refine_lift aX ?_
    all_goals (try simp only [Exit.inBlock,Exit.then,Exit.jump])
    all_goals refine bodyPost_ret (gF (cs:=fB) rfl rfl p6.this aR) rfl ⟨_,rfl,x6,?_⟩
    all_goals rw [hE]
    all_goals exact ⟨_,_,_,_,rfl,MsgV.zero _⟩
   | false =>
    obtain ⟨hmm,hnl,hn0,hn1⟩:=hI.on hfit;have hnf:¬ (ee=0∧(eb.length:Int)≤limit):=by rintro ⟨h1,h2⟩;exact hfit (by rw [hfd];simp [h1,h2])
    have hrl:=aN mm.ex;have hel:mm.ex.length=n:=by rw [hmm];show (m.ex.take n).length=n;rw [List.length_take];omega
    have hse:=oe5.sl;by_cases hn:n=0
    ·have hEn:=hn0 hn
     (repeat' first | ((with_reducible refine cQ ?_);go_step) | ((with_reducible refine bM ?_);first | refine gR ?_ | (refine cV ?_ ?_ <;> intro hc)) | fail)
     all_goals first
      | (have hh:False:=aE
         exact hh.elim)
      | skip
     all_goals (
      refine eS 4 (.bool true) hb5 rfl fun w6 p6 => ?_;have hb6:w6.heap[b1]? = some (.cells [.int .i64 mm.id, .bool mm.resp, .int .i64 mm.op, .bool mm.auth, .bool true, .bool mm.want, .bool mm.avail, .int .i64 mm.rcode,q',a2,u2,e2, .int .i64 mm.size].toArray 48 (0,0)):=p6.this;refine_lift aX ?_;refine eS 9 aH hb6 rfl fun w7 p7 => ?_;have hb7:w7.heap[b1]? = some (.cells [.int .i64 mm.id, .bool mm.resp, .int .i64 mm.op, .bool mm.auth, .bool true, .bool mm.want, .bool mm.avail, .int .i64 mm.rcode,q',aH,u2,e2, .int .i64 mm.size].toArray 48 (0,0)):=p7.this;refine_lift aX ?_;refine eS 10 aH hb7 rfl fun w8 p8 => ?_;have hb8:w8.heap[b1]? = some (.cells [.int .i64 mm.id, .bool mm.resp, .int .i64 mm.op, .bool mm.auth, .bool true, .bool mm.want, .bool mm.avail, .int .i64 mm.rcode,q',aH,aH,e2, .int .i64 mm.size].toArray 48 (0,0)):=p8.this;refine_lift aX ?_;refine eS 11 aH hb8 rfl fun w9 p9 => ?_;have hb9:w9.heap[b1]? = some (.cells [.int .i64 mm.id, .bool mm.resp, .int .i64 mm.op, .bool mm.auth, .bool true, .bool mm.want, .bool mm.avail, .int .i64 mm.rcode,q',aH,aH,aH, .int .i64 mm.size].toArray 48 (0,0)):=p9.this;have m69:Mv (some b1) w5 w9:=((p6.mv.trans p7.mv).trans p8.mv).trans p9.mv;have oq9:=oq5.mv m69 (.inr (oq5.neBlock hb5 bG));have hz9:=m69.at hz5 (by intro e9;exact hbb (Option.some.inj e9).symm);have x9:Ext w w9:=x05.move m69 (by rintro k ⟨⟩;omega);refine_lift aX ?_
      go_step3
      (try simp only [Exit.inBlock,Exit.then,Exit.jump])
      refine ⟨rfl,⟨true,0,rF m,q',aH,aH,aH,_,_,_,_,_,_,_,_,_,_,_,_,_,_,_,_,_,_,_,_,_,_,_,_,_,_,_,_,_,_,_,_,_,_,_,_,_,_,_,_,_,_,_,_,_,_,_,_,_,_,_,_,_,_,_,_,_,_,_,_,_,_,_,_,_,_,rfl,⟨?_,hz9,x9,?_,Own.nil _ _ _ _,Own.nil _ _ _ _,Own.nil _ _ _ _,hI.len, .inr ⟨rfl,rfl,hEn⟩⟩⟩,?_⟩
      ·rw [hb9,hmm];rfl
      ·rw [hmm] at oq9;exact oq9
      ·rw [KS rfl hI.blk1];show 0 < _;omega)
    ·obtain ⟨k,rfl⟩:∃ k,n=k + 1:=⟨n - 1,aE⟩;have hEn:=hn1 k rfl;have hlen:=hI.len
     (repeat' first | ((with_reducible refine cQ ?_);go_step) | ((with_reducible refine bM ?_);first | refine gR ?_ | (refine cV ?_ ?_ <;> intro hc)) | fail)
     all_goals first
      | (have hh:False:=aE
         exact hh.elim)
      | skip
     all_goals (
      rw [show (((aJ mm.ex).length:Int) - 1).toNat=k by omega];have oc5:=oe5.cut0 (n:=k) aE;refine eS 11 (dG e2 4 0 k) hb5 oc5.one fun w6 p6 => ?_;have hb6:w6.heap[b1]? = some (.cells [.int .i64 mm.id, .bool mm.resp, .int .i64 mm.op, .bool mm.auth, .bool mm.trunc, .bool mm.want, .bool mm.avail, .int .i64 mm.rcode,q',a2,u2,dG e2 4 0 k, .int .i64 mm.size].toArray 48 (0,0)):=p6.this;have m69:=p6.mv;have oq9:=oq5.mv m69 (.inr (oq5.neBlock hb5 bG));have oa9:=oa5.mv m69 (.inr (oa5.neBlock hb5 bG));have ou9:=ou5.mv m69 (.inr (ou5.neBlock hb5 bG));have oe9:=oc5.mv m69 (.inr (oc5.neBlock hb5 bG));have hz9:=m69.at hz5 (by intro e9;exact hbb (Option.some.inj e9).symm);have x9:Ext w w6:=x05.move m69 (by rintro k ⟨⟩;omega);have hex:(aJ mm.ex).take k=aJ (dQ m k).ex:=by
       rw [hmm];simp only [dQ,aJ,← List.map_take,List.take_take];rw [show min k (k + 1)=k by omega]
      rw [hex] at oe9;refine_lift aX ?_
      go_step3
      (try simp only [Exit.inBlock,Exit.then,Exit.jump])
      refine ⟨rfl,⟨false,k,dQ m k,q',a2,u2,dG e2 4 0 k,_,_,_,_,_,_,_,_,_,_,_,_,_,_,_,_,_,_,_,_,_,_,_,_,_,_,_,_,_,_,_,_,_,_,_,_,_,_,_,_,_,_,_,_,_,_,_,_,_,_,_,_,_,_,_,_,_,_,_,_,_,_,_,_,_,_,rfl,⟨?_,hz9,x9,?_,?_,?_,oe9,hI.len, .inl ⟨rfl,aE,rfl,hEn⟩⟩⟩,?_⟩
      ·rw [hb6,hmm];rfl
      ·rw [hmm] at oq9;exact oq9
      ·rw [hmm] at oa9;exact oa9
      ·rw [hmm] at ou9;exact ou9
      ·rw [KS rfl hI.blk1,FT rfl hb6 rfl];show 1 + KL (dG e2 4 0 k) < _;rw [hse.slLen,oe9.sl.slLen,aN,aN];have:(dQ m k).ex.length=k:=by show (m.ex.take k).length=k;rw [List.length_take];omega
       omega)
 ·intro hp;refine_lift QV ?_;intro _ _ _ _ _;refine cY (CF m q a u e _ hm2) fun w3 x3 => ?_;have x03:=x02.trans x3;have hz3:=x3.at hz2;have hb3:=x3.at hb2;have hpM:=hpM.ext x3;have hm3:=hm2.ext x3;by_cases cc:cS m=0∧1≤limit∧limit≤65535
  ·have hok:=mX cc.1;have hRE:=hF cc;obtain ⟨c1,c2,c3⟩:=cc;have hql:=hok.ql;have hnl:=hok.nl;have hul:=hok.ul;have hel:=hok.el
   (repeat' first | ((with_reducible refine cQ ?_);go_step) | ((with_reducible refine bM ?_);first | refine gR ?_ | (refine cV ?_ ?_ <;> intro hc)) | fail)
   all_goals first
    | (have hh:False:=aE
       exact hh.elim)
    | (have hh:False:=by
        have h9:=‹(!decide (cS m=0))=true›;rw [decide_eq_true c1] at h9;cases h9
       exact hh.elim)
    | skip
   refine bE 5 (Ext w3) aR ?_;intro w21 x21 _;refine ⟨x21,?_⟩;refine cI 0 ?_;refine cI 1 ?_;refine cI 3 ?_;refine cI 4 ?_;refine fR 2 ?_;refine EF (KR q m.qs _ (hm3.qs.ext x21) aE) fun qv w22 x22 oqv => ?_;refine aG ⟨bJ (x21.trans x22),?_⟩;refine zU 6 ?_;refine fR 5 ?_;refine EF (wH a m.an _ (hm3.an.ext (x21.trans x22)) aE) fun av w23 x23 oav => ?_;have y21:=(x21.trans x22).trans x23;have hB21:=y21.at hb3;refine aG ⟨bF rfl,?_⟩;refine fR 7 ?_;refine eS 8 qv hB21 oqv.one fun w24 p24 => ?_;have hB24:w24.heap[b1]? = some (.cells [.int .i64 m.id, .bool m.resp, .int .i64 m.op, .bool m.auth, .bool m.trunc, .bool m.want, .bool m.avail, .int .i64 m.rcode,qv,a,u,e, .int .i64 m.size].toArray 48 (0,0)):=p24.this;refine aG ⟨bF rfl,?_⟩;refine zU 8 ?_;refine fR 9 ?_;refine eS 9 av hB24 oav.one fun w25 p25 => ?_;have hB25:w25.heap[b1]? = some (.cells [.int .i64 m.id, .bool m.resp, .int .i64 m.op, .bool m.auth, .bool m.trunc, .bool m.want, .bool m.avail, .int .i64 m.rcode,qv,av,u,e, .int .i64 m.size].toArray 48 (0,0)):=p25.this;refine aG ⟨bF rfl,?_⟩;refine qR ?_;have mv21:=p24.mv.trans p25.mv;have x025:Ext w w25:=(x03.trans y21).move mv21 (by rintro k ⟨⟩;omega);have oq25:=(oqv.ext x23).mv mv21 (.inr ((oqv.ext x23).neBlock hB21 bG));have oa25:=oav.mv mv21 (.inr (oav.neBlock hB21 bG));have hp25:=aA (cs:=[.int .i64 m.id, .bool m.resp, .int .i64 m.op, .bool m.auth, .bool m.trunc, .bool m.want, .bool m.avail, .int .i64 m.rcode,qv,av,u,e, .int .i64 m.size]) hB25;have hz25:=mv21.at (y21.at hz3) (by intro e9;exact hbb (Option.some.inj e9).symm);have hmu:=hm.au.ext x025;have hme:=hm.ex.ext x025;clear hpM;refine_lift cC fun _ _ => ?_;refine bE 5 (Ext w25) aR ?_;intro w31 x31 _;refine ⟨x31,?_⟩;refine cI 0 ?_;refine cI 1 ?_;refine cI 3 ?_;refine cI 4 ?_;refine fR 2 ?_;refine EF (wH u m.au _ (hmu.ext x31) aE) fun uv w32 x32 ouv => ?_;refine aG ⟨bJ (x31.trans x32),?_⟩;refine zU 6 ?_;refine fR 5 ?_;refine EF (wH e m.ex _ (hme.ext (x31.trans x32)) aE) fun ev w33 x33 oev => ?_;have y31:=(x31.trans x32).trans x33;have hB31:=y31.at hB25;refine aG ⟨bF rfl,?_⟩;refine fR 7 ?_;refine eS 10 uv hB31 ouv.one fun w34 p34 => ?_;have hB34:w34.heap[b1]? = some (.cells [.int .i64 m.id, .bool m.resp, .int .i64 m.op, .bool m.auth, .bool m.trunc, .bool m.want, .bool m.avail, .int .i64 m.rcode,qv,av,uv,e, .int .i64 m.size].toArray 48 (0,0)):=p34.this;refine aG ⟨bF rfl,?_⟩;refine zU 8 ?_;refine fR 9 ?_;refine eS 11 ev hB34 oev.one fun w35 p35 => ?_;have hB35:w35.heap[b1]? = some (.cells [.int .i64 m.id, .bool m.resp, .int .i64 m.op, .bool m.auth, .bool m.trunc, .bool m.want, .bool m.avail, .int .i64 m.rcode,qv,av,uv,ev, .int .i64 m.size].toArray 48 (0,0)):=p35.this;refine aG ⟨bF rfl,?_⟩;refine qR ?_;have mv31:=p34.mv.trans p35.mv;have x035:Ext w w35:=(x025.trans y31).move mv31 (by rintro k ⟨⟩;omega);have oq35:=(oq25.ext y31).mv mv31 (.inr ((oq25.ext y31).neBlock hB31 bG));have oa35:=(oa25.ext y31).mv mv31 (.inr ((oa25.ext y31).neBlock hB31 bG));have ou35:=(ouv.ext x33).mv mv31 (.inr ((ouv.ext x33).neBlock hB31 bG));have oe35:=oev.mv mv31 (.inr (oev.neBlock hB31 bG));have hz35:=mv31.at (y31.at hz25) (by intro e9;exact hbb (Option.some.inj e9).symm);have hk3:B≤w3.heap.size:=by have:=x3.size;omega
   have hk21:B≤w21.heap.size:=by have:=x21.size;omega
   have hk22:B≤w22.heap.size:=by have:=x22.size;omega
   have hk25:B≤w25.heap.size:=by have:=x23.size;have:=mv21.size;omega
   have hk31:B≤w31.heap.size:=by have:=x31.size;omega
   have hk32:B≤w32.heap.size:=by have:=x32.size;omega
   have hwm:dQ m m.ex.length=m:=by unfold dQ;rw [List.take_length]
   refine_lift cC fun _ _ => ?_
   go_step3
   (first | ((with_reducible refine cQ ?_);go_step) | fail)
   (first | ((with_reducible refine cQ ?_);go_step) | fail)
   refine hp _ _ ?_;refine ⟨false,m.ex.length,m,qv,av,uv,ev,_,_,_,_,_,_,_,_,_,_,_,_,_,_,_,_,_,_,_,_,_,_,_,_,_,_,_,_,_,_,_,_,_,_,_,_,_,_,_,_,_,_,_,_,_,_,_,_,_,_,_,_,_,_,_,_,_,_,_,_,_,_,_,_,_,_,rfl,hB35,hz35,x035,oq35.weaken hk21,oa35.weaken hk22,ou35.weaken hk31,oe35.weaken hk32,aE, .inl ⟨rfl,Nat.le_refl _,hwm.symm,hRE⟩⟩
  ·have hRE:=hF2 cc
   (repeat' first | ((with_reducible refine cQ ?_);go_step) | ((with_reducible refine bM ?_);first | refine gR ?_ | (refine cV ?_ ?_ <;> intro hc)) | fail)
   all_goals first
    | (have hh:False:=aE
       exact hh.elim)
    | (have hh:False:=by
        have h9:=‹(!decide (cS m=0))=false›;simp only [Bool.not_eq_false',decide_eq_true_eq] at h9;omega
       exact hh.elim)
    | skip
   all_goals (
    refine aS (v:=.agg fB.toArray) (Runs.build0 (by kernel_rfl)) ?_;refine aD ?_;refine dS (v:=.agg fB.toArray) hz3 aR fun w6 p6 => ?_;have x6:=cH x03 p6;refine_lift aX ?_
    (try simp only [Exit.inBlock,Exit.then,Exit.jump])
    refine bodyPost_ret (gF (cs:=fB) rfl rfl p6.this aR) rfl ⟨_,rfl,x6,?_⟩;rw [hRE];exact ⟨_,_,_,_,rfl,MsgV.zero _⟩)
section
variable {P:Program} {Q:Exit→Act→World→Prop} {S:World→Prop} {l:List Oper} {ts:List Value} {df:List Deferred} {w:World} {fuel:Nat} {listed:List Bool}
theorem KT (i1 i2 i3 i4 i5 i6 i7 i8 i9 i10 i11:Nat) (d1 d2 d3 d4 d5 d6 d7 d8 d9 d10:Nat) (c q1 q2 q3 q4 q5 q6 q7 q8 q9 q10 q11:Bool→Bool→Bool→Bool→Bool→Bool→Bool→Bool→Bool→Bool→Bool→Bool) (F:Bool→Bool→Bool→Bool→Bool→Bool→Bool→Bool→Bool→Bool→Bool→Value→Value→Value→Value→Value→Value→Value→Value→Value→Value→World→Prop)
 {fuel2:Nat} {o1 o2 o3 o4 o5 o6 o7 o8 o9 o10 o11:Oper}
 (hF:F false false false false false false false false false false false (List.getD ts d1 undef) (List.getD ts d2 undef) (List.getD ts d3 undef) (List.getD ts d4 undef) (List.getD ts d5 undef) (List.getD ts d6 undef) (List.getD ts d7 undef) (List.getD ts d8 undef) (List.getD ts d9 undef) (List.getD ts d10 undef) w)
 (h1:∀ b1 b2 b3 b4 b5 b6 b7 b8 b9 b10 b11:Bool,∀ v1 v2 v3 v4 v5 v6 v7 v8 v9 v10:Value,∀ w1:World,(q1 false b2 b3 b4 b5 b6 b7 b8 b9 b10 b11 && c false b2 b3 b4 b5 b6 b7 b8 b9 b10 b11)=true→F false b2 b3 b4 b5 b6 b7 b8 b9 b10 b11 v1 v2 v3 v4 v5 v6 v7 v8 v9 v10 w1→wpList P l.toArray (qP Q fun a w2=>S w2∧∃ u,a=Act.mk (List.set (List.set (List.set (List.set (List.set (List.set (List.set (List.set (List.set (List.set ts d1 u) d2 v2) d3 v3) d4 v4) d5 v5) d6 v6) d7 v7) d8 v8) d9 v9) d10 v10).toArray df∧F true b2 b3 b4 b5 b6 b7 b8 b9 b10 b11 u v2 v3 v4 v5 v6 v7 v8 v9 v10 w2) [o1] (Act.mk (List.set (List.set (List.set (List.set (List.set (List.set (List.set (List.set (List.set (List.set ts d1 v1) d2 v2) d3 v3) d4 v4) d5 v5) d6 v6) d7 v7) d8 v8) d9 v9) d10 v10).toArray df) w1)
 (h2:∀ b1 b2 b3 b4 b5 b6 b7 b8 b9 b10 b11:Bool,∀ v1 v2 v3 v4 v5 v6 v7 v8 v9 v10:Value,∀ w1:World,(q2 b1 false b3 b4 b5 b6 b7 b8 b9 b10 b11 && c b1 false b3 b4 b5 b6 b7 b8 b9 b10 b11)=true→F b1 false b3 b4 b5 b6 b7 b8 b9 b10 b11 v1 v2 v3 v4 v5 v6 v7 v8 v9 v10 w1→wpList P l.toArray (qP Q fun a w2=>S w2∧∃ u,a=Act.mk (List.set (List.set (List.set (List.set (List.set (List.set (List.set (List.set (List.set (List.set ts d1 v1) d2 u) d3 v3) d4 v4) d5 v5) d6 v6) d7 v7) d8 v8) d9 v9) d10 v10).toArray df∧F b1 true b3 b4 b5 b6 b7 b8 b9 b10 b11 v1 u v3 v4 v5 v6 v7 v8 v9 v10 w2) [o2] (Act.mk (List.set (List.set (List.set (List.set (List.set (List.set (List.set (List.set (List.set (List.set ts d1 v1) d2 v2) d3 v3) d4 v4) d5 v5) d6 v6) d7 v7) d8 v8) d9 v9) d10 v10).toArray df) w1)
 (h3:∀ b1 b2 b3 b4 b5 b6 b7 b8 b9 b10 b11:Bool,∀ v1 v2 v3 v4 v5 v6 v7 v8 v9 v10:Value,∀ w1:World,(q3 b1 b2 false b4 b5 b6 b7 b8 b9 b10 b11 && c b1 b2 false b4 b5 b6 b7 b8 b9 b10 b11)=true→F b1 b2 false b4 b5 b6 b7 b8 b9 b10 b11 v1 v2 v3 v4 v5 v6 v7 v8 v9 v10 w1→wpList P l.toArray (qP Q fun a w2=>S w2∧∃ u,a=Act.mk (List.set (List.set (List.set (List.set (List.set (List.set (List.set (List.set (List.set (List.set ts d1 v1) d2 v2) d3 u) d4 v4) d5 v5) d6 v6) d7 v7) d8 v8) d9 v9) d10 v10).toArray df∧F b1 b2 true b4 b5 b6 b7 b8 b9 b10 b11 v1 v2 u v4 v5 v6 v7 v8 v9 v10 w2) [o3] (Act.mk (List.set (List.set (List.set (List.set (List.set (List.set (List.set (List.set (List.set (List.set ts d1 v1) d2 v2) d3 v3) d4 v4) d5 v5) d6 v6) d7 v7) d8 v8) d9 v9) d10 v10).toArray df) w1)
 (h4:∀ b1 b2 b3 b4 b5 b6 b7 b8 b9 b10 b11:Bool,∀ v1 v2 v3 v4 v5 v6 v7 v8 v9 v10:Value,∀ w1:World,(q4 b1 b2 b3 false b5 b6 b7 b8 b9 b10 b11 && c b1 b2 b3 false b5 b6 b7 b8 b9 b10 b11)=true→F b1 b2 b3 false b5 b6 b7 b8 b9 b10 b11 v1 v2 v3 v4 v5 v6 v7 v8 v9 v10 w1→wpList P l.toArray (qP Q fun a w2=>S w2∧∃ u,a=Act.mk (List.set (List.set (List.set (List.set (List.set (List.set (List.set (List.set (List.set (List.set ts d1 v1) d2 v2) d3 v3) d4 u) d5 v5) d6 v6) d7 v7) d8 v8) d9 v9) d10 v10).toArray df∧F b1 b2 b3 true b5 b6 b7 b8 b9 b10 b11 v1 v2 v3 u v5 v6 v7 v8 v9 v10 w2) [o4] (Act.mk (List.set (List.set (List.set (List.set (List.set (List.set (List.set (List.set (List.set (List.set ts d1 v1) d2 v2) d3 v3) d4 v4) d5 v5) d6 v6) d7 v7) d8 v8) d9 v9) d10 v10).toArray df) w1)
 (h5:∀ b1 b2 b3 b4 b5 b6 b7 b8 b9 b10 b11:Bool,∀ v1 v2 v3 v4 v5 v6 v7 v8 v9 v10:Value,∀ w1:World,(q5 b1 b2 b3 b4 false b6 b7 b8 b9 b10 b11 && c b1 b2 b3 b4 false b6 b7 b8 b9 b10 b11)=true→F b1 b2 b3 b4 false b6 b7 b8 b9 b10 b11 v1 v2 v3 v4 v5 v6 v7 v8 v9 v10 w1→wpList P l.toArray (qP Q fun a w2=>S w2∧∃ u,a=Act.mk (List.set (List.set (List.set (List.set (List.set (List.set (List.set (List.set (List.set (List.set ts d1 v1) d2 v2) d3 v3) d4 v4) d5 u) d6 v6) d7 v7) d8 v8) d9 v9) d10 v10).toArray df∧F b1 b2 b3 b4 true b6 b7 b8 b9 b10 b11 v1 v2 v3 v4 u v6 v7 v8 v9 v10 w2) [o5] (Act.mk (List.set (List.set (List.set (List.set (List.set (List.set (List.set (List.set (List.set (List.set ts d1 v1) d2 v2) d3 v3) d4 v4) d5 v5) d6 v6) d7 v7) d8 v8) d9 v9) d10 v10).toArray df) w1)
 (h6:∀ b1 b2 b3 b4 b5 b6 b7 b8 b9 b10 b11:Bool,∀ v1 v2 v3 v4 v5 v6 v7 v8 v9 v10:Value,∀ w1:World,(q6 b1 b2 b3 b4 b5 false b7 b8 b9 b10 b11 && c b1 b2 b3 b4 b5 false b7 b8 b9 b10 b11)=true→F b1 b2 b3 b4 b5 false b7 b8 b9 b10 b11 v1 v2 v3 v4 v5 v6 v7 v8 v9 v10 w1→wpList P l.toArray (qP Q fun a w2=>S w2∧∃ u,a=Act.mk (List.set (List.set (List.set (List.set (List.set (List.set (List.set (List.set (List.set (List.set ts d1 v1) d2 v2) d3 v3) d4 v4) d5 v5) d6 u) d7 v7) d8 v8) d9 v9) d10 v10).toArray df∧F b1 b2 b3 b4 b5 true b7 b8 b9 b10 b11 v1 v2 v3 v4 v5 u v7 v8 v9 v10 w2) [o6] (Act.mk (List.set (List.set (List.set (List.set (List.set (List.set (List.set (List.set (List.set (List.set ts d1 v1) d2 v2) d3 v3) d4 v4) d5 v5) d6 v6) d7 v7) d8 v8) d9 v9) d10 v10).toArray df) w1)
 (h7:∀ b1 b2 b3 b4 b5 b6 b7 b8 b9 b10 b11:Bool,∀ v1 v2 v3 v4 v5 v6 v7 v8 v9 v10:Value,∀ w1:World,(q7 b1 b2 b3 b4 b5 b6 false b8 b9 b10 b11 && c b1 b2 b3 b4 b5 b6 false b8 b9 b10 b11)=true→F b1 b2 b3 b4 b5 b6 false b8 b9 b10 b11 v1 v2 v3 v4 v5 v6 v7 v8 v9 v10 w1→wpList P l.toArray (qP Q fun a w2=>S w2∧∃ u,a=Act.mk (List.set (List.set (List.set (List.set (List.set (List.set (List.set (List.set (List.set (List.set ts d1 v1) d2 v2) d3 v3) d4 v4) d5 v5) d6 v6) d7 u) d8 v8) d9 v9) d10 v10).toArray df∧F b1 b2 b3 b4 b5 b6 true b8 b9 b10 b11 v1 v2 v3 v4 v5 v6 u v8 v9 v10 w2) [o7] (Act.mk (List.set (List.set (List.set (List.set (List.set (List.set (List.set (List.set (List.set (List.set ts d1 v1) d2 v2) d3 v3) d4 v4) d5 v5) d6 v6) d7 v7) d8 v8) d9 v9) d10 v10).toArray df) w1)
 (h8:∀ b1 b2 b3 b4 b5 b6 b7 b8 b9 b10 b11:Bool,∀ v1 v2 v3 v4 v5 v6 v7 v8 v9 v10:Value,∀ w1:World,(q8 b1 b2 b3 b4 b5 b6 b7 false b9 b10 b11 && c b1 b2 b3 b4 b5 b6 b7 false b9 b10 b11)=true→F b1 b2 b3 b4 b5 b6 b7 false b9 b10 b11 v1 v2 v3 v4 v5 v6 v7 v8 v9 v10 w1→wpList P l.toArray (qP Q fun a w2=>S w2∧∃ u,a=Act.mk (List.set (List.set (List.set (List.set (List.set (List.set (List.set (List.set (List.set (List.set ts d1 v1) d2 v2) d3 v3) d4 v4) d5 v5) d6 v6) d7 v7) d8 u) d9 v9) d10 v10).toArray df∧F b1 b2 b3 b4 b5 b6 b7 true b9 b10 b11 v1 v2 v3 v4 v5 v6 v7 u v9 v10 w2) [o8] (Act.mk (List.set (List.set (List.set (List.set (List.set (List.set (List.set (List.set (List.set (List.set ts d1 v1) d2 v2) d3 v3) d4 v4) d5 v5) d6 v6) d7 v7) d8 v8) d9 v9) d10 v10).toArray df) w1)
 (h9:∀ b1 b2 b3 b4 b5 b6 b7 b8 b9 b10 b11:Bool,∀ v1 v2 v3 v4 v5 v6 v7 v8 v9 v10:Value,∀ w1:World,(q9 b1 b2 b3 b4 b5 b6 b7 b8 false b10 b11 && c b1 b2 b3 b4 b5 b6 b7 b8 false b10 b11)=true→F b1 b2 b3 b4 b5 b6 b7 b8 false b10 b11 v1 v2 v3 v4 v5 v6 v7 v8 v9 v10 w1→wpList P l.toArray (qP Q fun a w2=>S w2∧∃ u,a=Act.mk (List.set (List.set (List.set (List.set (List.set (List.set (List.set (List.set (List.set (List.set ts d1 v1) d2 v2) d3 v3) d4 v4) d5 v5) d6 v6) d7 v7) d8 v8) d9 u) d10 v10).toArray df∧F b1 b2 b3 b4 b5 b6 b7 b8 true b10 b11 v1 v2 v3 v4 v5 v6 v7 v8 u v10 w2) [o9] (Act.mk (List.set (List.set (List.set (List.set (List.set (List.set (List.set (List.set (List.set (List.set ts d1 v1) d2 v2) d3 v3) d4 v4) d5 v5) d6 v6) d7 v7) d8 v8) d9 v9) d10 v10).toArray df) w1)
 (h10:∀ b1 b2 b3 b4 b5 b6 b7 b8 b9 b10 b11:Bool,∀ v1 v2 v3 v4 v5 v6 v7 v8 v9 v10:Value,∀ w1:World,(q10 b1 b2 b3 b4 b5 b6 b7 b8 b9 false b11 && c b1 b2 b3 b4 b5 b6 b7 b8 b9 false b11)=true→F b1 b2 b3 b4 b5 b6 b7 b8 b9 false b11 v1 v2 v3 v4 v5 v6 v7 v8 v9 v10 w1→wpList P l.toArray (qP Q fun a w2=>S w2∧∃ u,a=Act.mk (List.set (List.set (List.set (List.set (List.set (List.set (List.set (List.set (List.set (List.set ts d1 v1) d2 v2) d3 v3) d4 v4) d5 v5) d6 v6) d7 v7) d8 v8) d9 v9) d10 u).toArray df∧F b1 b2 b3 b4 b5 b6 b7 b8 b9 true b11 v1 v2 v3 v4 v5 v6 v7 v8 v9 u w2) [o10] (Act.mk (List.set (List.set (List.set (List.set (List.set (List.set (List.set (List.set (List.set (List.set ts d1 v1) d2 v2) d3 v3) d4 v4) d5 v5) d6 v6) d7 v7) d8 v8) d9 v9) d10 v10).toArray df) w1)
 (h11:∀ b1 b2 b3 b4 b5 b6 b7 b8 b9 b10 b11:Bool,∀ v1 v2 v3 v4 v5 v6 v7 v8 v9 v10:Value,∀ w1:World,(q11 b1 b2 b3 b4 b5 b6 b7 b8 b9 b10 false && c b1 b2 b3 b4 b5 b6 b7 b8 b9 b10 false)=true→F b1 b2 b3 b4 b5 b6 b7 b8 b9 b10 false v1 v2 v3 v4 v5 v6 v7 v8 v9 v10 w1→wpList P l.toArray (qP Q fun a w2=>S w2∧a=Act.mk (List.set (List.set (List.set (List.set (List.set (List.set (List.set (List.set (List.set (List.set ts d1 v1) d2 v2) d3 v3) d4 v4) d5 v5) d6 v6) d7 v7) d8 v8) d9 v9) d10 v10).toArray df∧F b1 b2 b3 b4 b5 b6 b7 b8 b9 b10 true v1 v2 v3 v4 v5 v6 v7 v8 v9 v10 w2) [o11] (Act.mk (List.set (List.set (List.set (List.set (List.set (List.set (List.set (List.set (List.set (List.set ts d1 v1) d2 v2) d3 v3) d4 v4) d5 v5) d6 v6) d7 v7) d8 v8) d9 v9) d10 v10).toArray df) w1)
 (hG:∀ v1 v2 v3 v4 v5 v6 v7 v8 v9 v10:Value,∀ w1:World,F true true true true true true true true true true true v1 v2 v3 v4 v5 v6 v7 v8 v9 v10 w1→wpAnyH P .any l.toArray Q S fuel (List.set (List.set (List.set (List.set (List.set (List.set (List.set (List.set (List.set (List.set (List.set listed i1 true) i2 true) i3 true) i4 true) i5 true) i6 true) i7 true) i8 true) i9 true) i10 true) i11 true).toArray (Act.mk (List.set (List.set (List.set (List.set (List.set (List.set (List.set (List.set (List.set (List.set ts d1 v1) d2 v2) d3 v3) d4 v4) d5 v5) d6 v6) d7 v7) d8 v8) d9 v9) d10 v10).toArray df) w1)
 (hi:l[i1]? = some o1∧l[i2]? = some o2∧l[i3]? = some o3∧l[i4]? = some o4∧l[i5]? = some o5∧l[i6]? = some o6∧l[i7]? = some o7∧l[i8]? = some o8∧l[i9]? = some o9∧l[i10]? = some o10∧l[i11]? = some o11:=by refine ⟨rfl,rfl,rfl,rfl,rfl,rfl,rfl,rfl,rfl,rfl,rfl⟩)
 (hr:(∀ b1 b2 b3 b4 b5 b6 b7 b8 b9 b10 b11:Bool,c b1 b2 b3 b4 b5 b6 b7 b8 b9 b10 b11=true→(b1 && b2 && b3 && b4 && b5 && b6 && b7 && b8 && b9 && b10 && b11)=false→(decide (0 < (Region.ready .any l.toArray (List.set (List.set (List.set (List.set (List.set (List.set (List.set (List.set (List.set (List.set (List.set listed i1 b1) i2 b2) i3 b3) i4 b4) i5 b5) i6 b6) i7 b7) i8 b8) i9 b9) i10 b10) i11 b11).toArray).length) && (Region.ready .any l.toArray (List.set (List.set (List.set (List.set (List.set (List.set (List.set (List.set (List.set (List.set (List.set listed i1 b1) i2 b2) i3 b3) i4 b4) i5 b5) i6 b6) i7 b7) i8 b8) i9 b9) i10 b10) i11 b11).toArray).all fun i=>(i == i1 && (!b1 && ((q1 false b2 b3 b4 b5 b6 b7 b8 b9 b10 b11 && c false b2 b3 b4 b5 b6 b7 b8 b9 b10 b11) && c true b2 b3 b4 b5 b6 b7 b8 b9 b10 b11))) || (i == i2 && (!b2 && ((q2 b1 false b3 b4 b5 b6 b7 b8 b9 b10 b11 && c b1 false b3 b4 b5 b6 b7 b8 b9 b10 b11) && c b1 true b3 b4 b5 b6 b7 b8 b9 b10 b11))) || (i == i3 && (!b3 && ((q3 b1 b2 false b4 b5 b6 b7 b8 b9 b10 b11 && c b1 b2 false b4 b5 b6 b7 b8 b9 b10 b11) && c b1 b2 true b4 b5 b6 b7 b8 b9 b10 b11))) || (i == i4 && (!b4 && ((q4 b1 b2 b3 false b5 b6 b7 b8 b9 b10 b11 && c b1 b2 b3 false b5 b6 b7 b8 b9 b10 b11) && c b1 b2 b3 true b5 b6 b7 b8 b9 b10 b11))) || (i == i5 && (!b5 && ((q5 b1 b2 b3 b4 false b6 b7 b8 b9 b10 b11 && c b1 b2 b3 b4 false b6 b7 b8 b9 b10 b11) && c b1 b2 b3 b4 true b6 b7 b8 b9 b10 b11))) || (i == i6 && (!b6 && ((q6 b1 b2 b3 b4 b5 false b7 b8 b9 b10 b11 && c b1 b2 b3 b4 b5 false b7 b8 b9 b10 b11) && c b1 b2 b3 b4 b5 true b7 b8 b9 b10 b11))) || (i == i7 && (!b7 && ((q7 b1 b2 b3 b4 b5 b6 false b8 b9 b10 b11 && c b1 b2 b3 b4 b5 b6 false b8 b9 b10 b11) && c b1 b2 b3 b4 b5 b6 true b8 b9 b10 b11))) || (i == i8 && (!b8 && ((q8 b1 b2 b3 b4 b5 b6 b7 false b9 b10 b11 && c b1 b2 b3 b4 b5 b6 b7 false b9 b10 b11) && c b1 b2 b3 b4 b5 b6 b7 true b9 b10 b11))) || (i == i9 && (!b9 && ((q9 b1 b2 b3 b4 b5 b6 b7 b8 false b10 b11 && c b1 b2 b3 b4 b5 b6 b7 b8 false b10 b11) && c b1 b2 b3 b4 b5 b6 b7 b8 true b10 b11))) || (i == i10 && (!b10 && ((q10 b1 b2 b3 b4 b5 b6 b7 b8 b9 false b11 && c b1 b2 b3 b4 b5 b6 b7 b8 b9 false b11) && c b1 b2 b3 b4 b5 b6 b7 b8 b9 true b11))) || (i == i11 && (!b11 && ((q11 b1 b2 b3 b4 b5 b6 b7 b8 b9 b10 false && c b1 b2 b3 b4 b5 b6 b7 b8 b9 b10 false) && c b1 b2 b3 b4 b5 b6 b7 b8 b9 b10 true))))=true):=by decide +kernel) (hc0:c false false false false false false false false false false false=true:=by rfl)
 (hf:fuel2=fuel + 11:=by rfl) (hn:i1≠i2∧i1≠i3∧i1≠i4∧i1≠i5∧i1≠i6∧i1≠i7∧i1≠i8∧i1≠i9∧i1≠i10∧i1≠i11∧i2≠i3∧i2≠i4∧i2≠i5∧i2≠i6∧i2≠i7∧i2≠i8∧i2≠i9∧i2≠i10∧i2≠i11∧i3≠i4∧i3≠i5∧i3≠i6∧i3≠i7∧i3≠i8∧i3≠i9∧i3≠i10∧i3≠i11∧i4≠i5∧i4≠i6∧i4≠i7∧i4≠i8∧i4≠i9∧i4≠i10∧i4≠i11∧i5≠i6∧i5≠i7∧i5≠i8∧i5≠i9∧i5≠i10∧i5≠i11∧i6≠i7∧i6≠i8∧i6≠i9∧i6≠i10∧i6≠i11∧i7≠i8∧i7≠i9∧i7≠i10∧i7≠i11∧i8≠i9∧i8≠i10∧i8≠i11∧i9≠i10∧i9≠i11∧i10≠i11:=by simp) (hl0:(List.set (List.set (List.set (List.set (List.set (List.set (List.set (List.set (List.set (List.set (List.set listed i1 false) i2 false) i3 false) i4 false) i5 false) i6 false) i7 false) i8 false) i9 false) i10 false) i11 false)=listed:=by rfl) (ht0:(List.set (List.set (List.set (List.set (List.set (List.set (List.set (List.set (List.set (List.set ts d1 (List.getD ts d1 undef)) d2 (List.getD ts d2 undef)) d3 (List.getD ts d3 undef)) d4 (List.getD ts d4 undef)) d5 (List.getD ts d5 undef)) d6 (List.getD ts d6 undef)) d7 (List.getD ts d7 undef)) d8 (List.getD ts d8 undef)) d9 (List.getD ts d9 undef)) d10 (List.getD ts d10 undef))=ts:=by rfl)
 : wpAnyH P .any l.toArray Q S fuel2 listed.toArray (Act.mk ts.toArray df) w:=by
 obtain ⟨e1,e2,e3,e4,e5,e6,e7,e8,e9,e10,e11⟩:=hi;obtain ⟨n1_2,n1_3,n1_4,n1_5,n1_6,n1_7,n1_8,n1_9,n1_10,n1_11,n2_3,n2_4,n2_5,n2_6,n2_7,n2_8,n2_9,n2_10,n2_11,n3_4,n3_5,n3_6,n3_7,n3_8,n3_9,n3_10,n3_11,n4_5,n4_6,n4_7,n4_8,n4_9,n4_10,n4_11,n5_6,n5_7,n5_8,n5_9,n5_10,n5_11,n6_7,n6_8,n6_9,n6_10,n6_11,n7_8,n7_9,n7_10,n7_11,n8_9,n8_10,n8_11,n9_10,n9_11,n10_11⟩:=hn;rw [hf];refine vK (Inv:=fun m L a w=>∃ b1 b2 b3 b4 b5 b6 b7 b8 b9 b10 b11:Bool,∃ v1 v2 v3 v4 v5 v6 v7 v8 v9 v10:Value,c b1 b2 b3 b4 b5 b6 b7 b8 b9 b10 b11=true∧m=jQ b1 + jQ b2 + jQ b3 + jQ b4 + jQ b5 + jQ b6 + jQ b7 + jQ b8 + jQ b9 + jQ b10 + jQ b11∧L=(List.set (List.set (List.set (List.set (List.set (List.set (List.set (List.set (List.set (List.set (List.set listed i1 b1) i2 b2) i3 b3) i4 b4) i5 b5) i6 b6) i7 b7) i8 b8) i9 b9) i10 b10) i11 b11)∧a=Act.mk (List.set (List.set (List.set (List.set (List.set (List.set (List.set (List.set (List.set (List.set ts d1 v1) d2 v2) d3 v3) d4 v4) d5 v5) d6 v6) d7 v7) d8 v8) d9 v9) d10 v10).toArray df∧F b1 b2 b3 b4 b5 b6 b7 b8 b9 b10 b11 v1 v2 v3 v4 v5 v6 v7 v8 v9 v10 w) ?_ ?_ 11 listed _ w ⟨false,false,false,false,false,false,false,false,false,false,false,(List.getD ts d1 undef),(List.getD ts d2 undef),(List.getD ts d3 undef),(List.getD ts d4 undef),(List.getD ts d5 undef),(List.getD ts d6 undef),(List.getD ts d7 undef),(List.getD ts d8 undef),(List.getD ts d9 undef),(List.getD ts d10 undef),hc0,by rfl,hl0.symm,by rw [ht0],hF⟩
 ·rintro m L a w ⟨b1,b2,b3,b4,b5,b6,b7,b8,b9,b10,b11,v1,v2,v3,v4,v5,v6,v7,v8,v9,v10,hcc,hm,rfl,rfl,hf⟩;have hb:(b1 && b2 && b3 && b4 && b5 && b6 && b7 && b8 && b9 && b10 && b11)=false:=by
   cases hq:(b1 && b2 && b3 && b4 && b5 && b6 && b7 && b8 && b9 && b10 && b11) with
   | false=>rfl
   | true =>
    exfalso
    simp only [Bool.and_eq_true] at hq;obtain ⟨⟨⟨⟨⟨⟨⟨⟨⟨⟨p1,p2⟩,p3⟩,p4⟩,p5⟩,p6⟩,p7⟩,p8⟩,p9⟩,p10⟩,p11⟩:=hq;subst p1 p2 p3 p4 p5 p6 p7 p8 p9 p10 p11;simp [jQ] at hm
  have hr:=hr b1 b2 b3 b4 b5 b6 b7 b8 b9 b10 b11 hcc hb;simp only [Bool.and_eq_true,decide_eq_true_eq,List.all_eq_true,Bool.or_eq_true,beq_iff_eq,Bool.not_eq_true'] at hr;refine ⟨hr.1,fun i hi => ?_⟩;rcases hr.2 i hi with ((((((((((⟨rfl,rfl,c1,cc1⟩ | ⟨rfl,rfl,c2,cc2⟩) | ⟨rfl,rfl,c3,cc3⟩) | ⟨rfl,rfl,c4,cc4⟩) | ⟨rfl,rfl,c5,cc5⟩) | ⟨rfl,rfl,c6,cc6⟩) | ⟨rfl,rfl,c7,cc7⟩) | ⟨rfl,rfl,c8,cc8⟩) | ⟨rfl,rfl,c9,cc9⟩) | ⟨rfl,rfl,c10,cc10⟩) | ⟨rfl,rfl,c11,cc11⟩)
  ·refine wpOp_mono ?_ (eA (by simpa using e1) (h1 true b2 b3 b4 b5 b6 b7 b8 b9 b10 b11 v1 v2 v3 v4 v5 v6 v7 v8 v9 v10 w (Bool.and_eq_true_iff.2 c1) hf));rintro a w2 ⟨hS,u,rfl,hf2⟩;refine ⟨hS,true,b2,b3,b4,b5,b6,b7,b8,b9,b10,b11,u,v2,v3,v4,v5,v6,v7,v8,v9,v10,cc1,?_,?_,rfl,hf2⟩
   ·simp only [jQ,Bool.false_eq_true,if_true,if_false] at hm ⊢;omega
   ·rw [List.set_comm _ _ n1_11.symm,List.set_comm _ _ n1_10.symm,List.set_comm _ _ n1_9.symm,List.set_comm _ _ n1_8.symm,List.set_comm _ _ n1_7.symm,List.set_comm _ _ n1_6.symm,List.set_comm _ _ n1_5.symm,List.set_comm _ _ n1_4.symm,List.set_comm _ _ n1_3.symm,List.set_comm _ _ n1_2.symm,List.set_set]
  ·refine wpOp_mono ?_ (eA (by simpa using e2) (h2 b1 true b3 b4 b5 b6 b7 b8 b9 b10 b11 v1 v2 v3 v4 v5 v6 v7 v8 v9 v10 w (Bool.and_eq_true_iff.2 c2) hf));rintro a w2 ⟨hS,u,rfl,hf2⟩;refine ⟨hS,b1,true,b3,b4,b5,b6,b7,b8,b9,b10,b11,v1,u,v3,v4,v5,v6,v7,v8,v9,v10,cc2,?_,?_,rfl,hf2⟩
   ·simp only [jQ,Bool.false_eq_true,if_true,if_false] at hm ⊢;omega
   ·rw [List.set_comm _ _ n2_11.symm,List.set_comm _ _ n2_10.symm,List.set_comm _ _ n2_9.symm,List.set_comm _ _ n2_8.symm,List.set_comm _ _ n2_7.symm,List.set_comm _ _ n2_6.symm,List.set_comm _ _ n2_5.symm,List.set_comm _ _ n2_4.symm,List.set_comm _ _ n2_3.symm,List.set_set]
  ·refine wpOp_mono ?_ (eA (by simpa using e3) (h3 b1 b2 true b4 b5 b6 b7 b8 b9 b10 b11 v1 v2 v3 v4 v5 v6 v7 v8 v9 v10 w (Bool.and_eq_true_iff.2 c3) hf));rintro a w2 ⟨hS,u,rfl,hf2⟩;refine ⟨hS,b1,b2,true,b4,b5,b6,b7,b8,b9,b10,b11,v1,v2,u,v4,v5,v6,v7,v8,v9,v10,cc3,?_,?_,rfl,hf2⟩
   ·simp only [jQ,Bool.false_eq_true,if_true,if_false] at hm ⊢;omega
   ·rw [List.set_comm _ _ n3_11.symm,List.set_comm _ _ n3_10.symm,List.set_comm _ _ n3_9.symm,List.set_comm _ _ n3_8.symm,List.set_comm _ _ n3_7.symm,List.set_comm _ _ n3_6.symm,List.set_comm _ _ n3_5.symm,List.set_comm _ _ n3_4.symm,List.set_set]
  ·refine wpOp_mono ?_ (eA (by simpa using e4) (h4 b1 b2 b3 true b5 b6 b7 b8 b9 b10 b11 v1 v2 v3 v4 v5 v6 v7 v8 v9 v10 w (Bool.and_eq_true_iff.2 c4) hf));rintro a w2 ⟨hS,u,rfl,hf2⟩;refine ⟨hS,b1,b2,b3,true,b5,b6,b7,b8,b9,b10,b11,v1,v2,v3,u,v5,v6,v7,v8,v9,v10,cc4,?_,?_,rfl,hf2⟩
   ·simp only [jQ,Bool.false_eq_true,if_true,if_false] at hm ⊢;omega
   ·rw [List.set_comm _ _ n4_11.symm,List.set_comm _ _ n4_10.symm,List.set_comm _ _ n4_9.symm,List.set_comm _ _ n4_8.symm,List.set_comm _ _ n4_7.symm,List.set_comm _ _ n4_6.symm,List.set_comm _ _ n4_5.symm,List.set_set]
  ·refine wpOp_mono ?_ (eA (by simpa using e5) (h5 b1 b2 b3 b4 true b6 b7 b8 b9 b10 b11 v1 v2 v3 v4 v5 v6 v7 v8 v9 v10 w (Bool.and_eq_true_iff.2 c5) hf));rintro a w2 ⟨hS,u,rfl,hf2⟩;refine ⟨hS,b1,b2,b3,b4,true,b6,b7,b8,b9,b10,b11,v1,v2,v3,v4,u,v6,v7,v8,v9,v10,cc5,?_,?_,rfl,hf2⟩
   ·simp only [jQ,Bool.false_eq_true,if_true,if_false] at hm ⊢;omega
   ·rw [List.set_comm _ _ n5_11.symm,List.set_comm _ _ n5_10.symm,List.set_comm _ _ n5_9.symm,List.set_comm _ _ n5_8.symm,List.set_comm _ _ n5_7.symm,List.set_comm _ _ n5_6.symm,List.set_set]
  ·refine wpOp_mono ?_ (eA (by simpa using e6) (h6 b1 b2 b3 b4 b5 true b7 b8 b9 b10 b11 v1 v2 v3 v4 v5 v6 v7 v8 v9 v10 w (Bool.and_eq_true_iff.2 c6) hf));rintro a w2 ⟨hS,u,rfl,hf2⟩;refine ⟨hS,b1,b2,b3,b4,b5,true,b7,b8,b9,b10,b11,v1,v2,v3,v4,v5,u,v7,v8,v9,v10,cc6,?_,?_,rfl,hf2⟩
   ·simp only [jQ,Bool.false_eq_true,if_true,if_false] at hm ⊢;omega
   ·rw [List.set_comm _ _ n6_11.symm,List.set_comm _ _ n6_10.symm,List.set_comm _ _ n6_9.symm,List.set_comm _ _ n6_8.symm,List.set_comm _ _ n6_7.symm,List.set_set]
  ·refine wpOp_mono ?_ (eA (by simpa using e7) (h7 b1 b2 b3 b4 b5 b6 true b8 b9 b10 b11 v1 v2 v3 v4 v5 v6 v7 v8 v9 v10 w (Bool.and_eq_true_iff.2 c7) hf));rintro a w2 ⟨hS,u,rfl,hf2⟩;refine ⟨hS,b1,b2,b3,b4,b5,b6,true,b8,b9,b10,b11,v1,v2,v3,v4,v5,v6,u,v8,v9,v10,cc7,?_,?_,rfl,hf2⟩
   ·simp only [jQ,Bool.false_eq_true,if_true,if_false] at hm ⊢;omega
   ·rw [List.set_comm _ _ n7_11.symm,List.set_comm _ _ n7_10.symm,List.set_comm _ _ n7_9.symm,List.set_comm _ _ n7_8.symm,List.set_set]
  ·refine wpOp_mono ?_ (eA (by simpa using e8) (h8 b1 b2 b3 b4 b5 b6 b7 true b9 b10 b11 v1 v2 v3 v4 v5 v6 v7 v8 v9 v10 w (Bool.and_eq_true_iff.2 c8) hf));rintro a w2 ⟨hS,u,rfl,hf2⟩;refine ⟨hS,b1,b2,b3,b4,b5,b6,b7,true,b9,b10,b11,v1,v2,v3,v4,v5,v6,v7,u,v9,v10,cc8,?_,?_,rfl,hf2⟩
   ·simp only [jQ,Bool.false_eq_true,if_true,if_false] at hm ⊢;omega
   ·rw [List.set_comm _ _ n8_11.symm,List.set_comm _ _ n8_10.symm,List.set_comm _ _ n8_9.symm,List.set_set]
  ·refine wpOp_mono ?_ (eA (by simpa using e9) (h9 b1 b2 b3 b4 b5 b6 b7 b8 true b10 b11 v1 v2 v3 v4 v5 v6 v7 v8 v9 v10 w (Bool.and_eq_true_iff.2 c9) hf));rintro a w2 ⟨hS,u,rfl,hf2⟩;refine ⟨hS,b1,b2,b3,b4,b5,b6,b7,b8,true,b10,b11,v1,v2,v3,v4,v5,v6,v7,v8,u,v10,cc9,?_,?_,rfl,hf2⟩
   ·simp only [jQ,Bool.false_eq_true,if_true,if_false] at hm ⊢;omega
   ·rw [List.set_comm _ _ n9_11.symm,List.set_comm _ _ n9_10.symm,List.set_set]
  ·refine wpOp_mono ?_ (eA (by simpa using e10) (h10 b1 b2 b3 b4 b5 b6 b7 b8 b9 true b11 v1 v2 v3 v4 v5 v6 v7 v8 v9 v10 w (Bool.and_eq_true_iff.2 c10) hf));rintro a w2 ⟨hS,u,rfl,hf2⟩;refine ⟨hS,b1,b2,b3,b4,b5,b6,b7,b8,b9,true,b11,v1,v2,v3,v4,v5,v6,v7,v8,v9,u,cc10,?_,?_,rfl,hf2⟩
   ·simp only [jQ,Bool.false_eq_true,if_true,if_false] at hm ⊢;omega
   ·rw [List.set_comm _ _ n10_11.symm,List.set_set]
  ·refine wpOp_mono ?_ (eA (by simpa using e11) (h11 b1 b2 b3 b4 b5 b6 b7 b8 b9 b10 true v1 v2 v3 v4 v5 v6 v7 v8 v9 v10 w (Bool.and_eq_true_iff.2 c11) hf));rintro a w2 ⟨hS,rfl,hf2⟩;refine ⟨hS,b1,b2,b3,b4,b5,b6,b7,b8,b9,b10,true,v1,v2,v3,v4,v5,v6,v7,v8,v9,v10,cc11,?_,?_,rfl,hf2⟩
   ·simp only [jQ,Bool.false_eq_true,if_true,if_false] at hm ⊢;omega
   ·rw [List.set_set]
 ·rintro L a w ⟨b1,b2,b3,b4,b5,b6,b7,b8,b9,b10,b11,v1,v2,v3,v4,v5,v6,v7,v8,v9,v10,hcc,hm,rfl,rfl,hf⟩;have p1:b1=true:=dE aE;have p2:b2=true:=dE aE;have p3:b3=true:=dE aE;have p4:b4=true:=dE aE;have p5:b5=true:=dE aE;have p6:b6=true:=dE aE;have p7:b7=true:=dE aE;have p8:b8=true:=dE aE;have p9:b9=true:=dE aE;have p10:b10=true:=dE aE;have p11:b11=true:=dE aE;subst p1 p2 p3 p4 p5 p6 p7 p8 p9 p10 p11;exact hG v1 v2 v3 v4 v5 v6 v7 v8 v9 v10 w hf
end
def KU (id op:Int):MsgR:={ zeroM with id:=id,resp:=true,op:=op,rcode:=1 }
def KV (s:List UInt8):Int:=(((fP s).1 / 2048 &&& 15:Nat):Int)
def fQ (hs:List HldR) (s:List UInt8) (stream:Bool):List UInt8 × Bool :=
 if s.length < 12∨bA (fP s).1 32768=true then ([],false)
 else if (dD s).2≠0 then ((bU (KU ((fW s).1:Nat) (KV s))).1,true)
 else if (rG (cT hs (dD s).1) (iL (dD s).1.size stream)).2.2≠0 then ((bU (bareR (dD s).1 2)).1,true)
 else ((rG (cT hs (dD s).1) (iL (dD s).1.size stream)).2.1,true)
theorem CM:∀ (f:Nat) (l:List rC) (r:RdS),(DA s f l r).1.length≤l.length + f:=by
 intro f;induction f with
 | zero=>intro l r;unfold DA;exact Nat.le_refl _
 | succ f ih =>
  intro l r;unfold DA;split
  ·simp
  ·refine Nat.le_trans (ih _ _) ?_;simp;omega
theorem UB:∀ (f:Nat) (l:List rC) (r:RdS),(DA s f l r).2.e=0→r.e=0:=by
 intro f;cases f with
 | zero=>intro l r h;exact h
 | succ f =>
  intro l r h;unfold DA at h;split at h
  ·exact h
  ·rename_i c
   simpa using c
theorem kZ {r:RdS} {n:Nat} {last:Bool} (h:(dX s r n last).2.2.e=0):r.e=0:=by
 unfold dX at h;generalize hq:r.want (decide ((n:Int)≤200 + (if last=true then 1 else 0))) 2=q at h;have hq0:q.e=0:=by
  cases n with
  | zero=>exact h
  | succ n =>
   unfold iN at h;split at h
   ·exact h
   ·rename_i c
    simpa using c
 rw [← hq] at hq0;exact (kJ bG hq0).1
theorem CN (h:(TU s).e=0):(lN s).1≤10:=by
 have h1:=(kJ bG h).1;have h2:=kZ (kZ (kZ h1));have h3:=(kJ bG (UB _ _ _ h2)).2;have:=of_decide_eq_true h3;omega
theorem HU (v:Value) (hs:List HldR) (s:List UInt8) (stream:Bool) (w:World) (hv:HldsAt w v hs) (hl:hs.length≤1000) (hb:∀ h ∈ hs,∀ s ∈ h.l,s.data.length≤1000000) (hsl:s.length≤1000000):Calls Tryz.prog 6 #[v,aI s, .bool stream] w (bC w (.tuple #[aI (fQ hs s stream).1, .bool (fQ hs s stream).2])):=by
 have hch:=fun w'=>YW (w:=w') s hsl;have hcd:=fun w'=>KP (w:=w') s hsl;have hS:fQ hs s stream=fQ hs s stream:=rfl
 conv at hS=>rhs;unfold fQ
 have hlq:(dD s).1.qs.length≤1000:=by
  unfold dD;split
  ·rename_i he;show (KO s).1.length≤1000;have:=CM (s:=s) (lN s).1 [] (QA s);have h9:=CN he;unfold KO;simp at this;omega
  ·exact Nat.zero_le _
 unfold tC at hch;unfold yD at hcd;generalize fQ hs s stream=RES at *;generalize dD s=D at *;go_enter Tryz.func6,Tryz.ntmps6
 by_cases cl:s.length < 12
 ·simp only [if_pos cl] at hch;rw [if_pos (.inl cl)] at hS;refine_lift cC fun _ _ => ?_;refine VC (hch _) fun w1 x1 => ?_;refine_lift jS fun _ => ?_;go_ret2;rw [hS];exact ⟨rfl,x1⟩
 ·simp only [if_neg cl] at hch;refine_lift cC fun _ _ => ?_;refine VC (hch _) fun w1 x1 => ?_;obtain ⟨rb,hrb⟩:∃ rb,bA (fP s).1 32768=rb:=⟨_,rfl⟩;rw [hrb] at hS;rw [hrb];cases rb with
  | true =>
   rw [if_pos (.inr rfl)] at hS;refine_lift jS fun _ => ?_;go_ret2;rw [hS];exact ⟨rfl,x1⟩
  | false =>
   rw [if_neg (by rintro (h | h);exact cl h;cases h)] at hS;refine_lift rI fun _ _ _ => ?_;refine wZ (hcd _) ?_;rintro _ w2 ⟨q,a,u,x,rfl,hm2,x2⟩;refine ⟨_,rfl,?_⟩;refine aD ?_;refine_lift aX ?_;refine fO (z:=fB) fun w3 x3 s3 h3 => ?_;refine aD ?_;have hm3:=hm2.ext x3;refine dS (v:=.agg (aM D.1 q a u x).toArray) h3 (bY hm3) fun w4 p4 => ?_;have x24:=cH x3 p4;have hB4:w4.heap[w2.heap.size]? = some (.cells (aM D.1 q a u x).toArray 48 (0,0)):=p4.this;have hpM:=aA (cs:=aM D.1 q a u x) hB4;unfold aM at hpM;have hm4:=hm2.ext x24;have x04:=x1.trans (x2.trans x24);clear p4 h3 x3 hm3;generalize w2.heap.size=mb at *;by_cases cD:D.2=0
   ·rw [if_neg (by simpa using cD)] at hS;refine_lift OV (fun _ _ _ => ?_) (fun _ _ _ _ _ => ?_)
    all_goals first
     | (have hh:False:=by have h9:=‹(!decide (D.2=0))=true›;rw [decide_eq_true cD] at h9;cases h9
        exact hh.elim)
     | skip
    have hcR:∀ w',Ext w4 w'→Calls Tryz.prog 12 #[v, .agg (aM D.1 q a u x).toArray] w' (oQ w' (UA w' (cT hs D.1))):=fun w' x'=>AC v hs D.1 q a u x w' ((hv.ext x04).ext x') (hm4.ext x') hl hb;have hcF:∀ w' {q1 a1 u1 e1:Value},MsgV w' (cT hs D.1) q1 a1 u1 e1→Calls Tryz.prog 16 #[.agg (aM (cT hs D.1) q1 a1 u1 e1).toArray, .int .i64 (iL D.1.size stream)] w' (oQ w' (HT w' (rG (cT hs D.1) (iL D.1.size stream)))):=fun w' _ _ _ _ h'=>Ar _ _ _ _ _ _ w' h';have hlim:iL D.1.size stream=iL D.1.size stream:=rfl;generalize rG (cT hs D.1) (iL D.1.size stream)=FF at *;generalize cT hs D.1=R at *;refine dV (S:=fun w'=>Ext w4 w') aR ?_;intro w21 x21 _;refine jI 0 ?_;refine aD ?_;refine jI 1 ?_;refine aD ?_;refine jI 3 ?_;refine aD ?_;refine jI 4 ?_;refine aD ?_;refine KT 2 5 6 7 8 9 10 11 13 14 12 47 50 51 44 52 53 54 15 16 11 (fun b1 b2 b3 b4 b5 b6 b7 b8 b9 b10 b11=>(!b2 || b1) && (!b3 || b1) && (!b3 || b2) && (!b4 || b3) && (!b5 || b4) && (!b6 || b4) && (!b7 || b4) && (!b9 || b6) && (!b9 || b11) && (!b10 || b7) && (!b10 || b9) && (!b11 || b8) && (!b11 || b5)) (fun b1 b2 b3 b4 b5 b6 b7 b8 b9 b10 b11 => !b2 && !b3) (fun b1 b2 b3 b4 b5 b6 b7 b8 b9 b10 b11=>b1 && !b3) (fun b1 b2 b3 b4 b5 b6 b7 b8 b9 b10 b11=>b1 && b2 && !b4) (fun b1 b2 b3 b4 b5 b6 b7 b8 b9 b10 b11=>b3 && !b5 && !b6 && !b7) (fun b1 b2 b3 b4 b5 b6 b7 b8 b9 b10 b11=>b4 && !b11) (fun b1 b2 b3 b4 b5 b6 b7 b8 b9 b10 b11=>b4 && !b9) (fun b1 b2 b3 b4 b5 b6 b7 b8 b9 b10 b11=>b4 && !b10) (fun b1 b2 b3 b4 b5 b6 b7 b8 b9 b10 b11 => !b11) (fun b1 b2 b3 b4 b5 b6 b7 b8 b9 b10 b11=>b6 && b11 && !b10) (fun b1 b2 b3 b4 b5 b6 b7 b8 b9 b10 b11=>b7 && b9) (fun b1 b2 b3 b4 b5 b6 b7 b8 b9 b10 b11=>b8 && b5 && !b9) (fun b1 b2 b3 b4 b5 b6 b7 b8 b9 b10 b11 v1 v2 v3 v4 v5 v6 v7 v8 v9 v10 w'=>∃ q1 a1 u1 e1 q2 a2 u2 e2 zk,Ext w4 w'∧(b1=true→v1=.agg (aM R q1 a1 u1 e1).toArray∧(b3=false→MsgV w' R q1 a1 u1 e1))∧(b2=true→v2=.int .i64 (iL D.1.size stream))∧(b3=true→v3=.tuple #[.agg (aM FF.1 q2 a2 u2 e2).toArray,aI FF.2.1, .int .i64 FF.2.2]∧(∀ x ∈ aM FF.1 q2 a2 u2 e2,x.oneCell'=true))∧(b4=true→v4=.tuple #[.agg (aM FF.1 q2 a2 u2 e2).toArray,aI FF.2.1, .int .i64 FF.2.2])∧(b5=true→v5=.agg (aM FF.1 q2 a2 u2 e2).toArray)∧(b6=true→v6=aI FF.2.1)∧(b7=true→v7=.int .i64 FF.2.2)∧(b8=true→v8=.pointer (some ⟨zk,0,none⟩)∧w4.heap.size≤zk∧(b11=false→w'.heap[zk]? = some (.cells fB.toArray 48 (0,0))))∧(b9=true→v9=aI FF.2.1)∧(b10=true→v10=.int .i64 FF.2.2)) ?_ ?_ ?_ ?_ ?_ ?_ ?_ ?_ ?_ ?_ ?_ ?_ ?_
    ·exact ⟨undef,undef,undef,undef,undef,undef,undef,undef,0,x21,bP,bP,bP,bP,bP,bP,bP,bP,bP,bP⟩
    ·rintro b1 b2 b3 b4 b5 b6 b7 b8 b9 b10 b11 v1 v2 v3 v4 v5 v6 v7 v8 v9 v10 w5 hq ⟨q1,a1,u1,e1,q2,a2,u2,e2,zk,x5,f1,f2,f3,f4,f5,f6,f7,f8,f9,f10⟩;refine aD ?_;refine gE (hcR _ x5) ?_;rintro _ w6 x6 ⟨q1',a1',u1',e1',rfl,hm6⟩;refine aD ?_;refine aG ⟨x5.trans x6,_,rfl,q1',a1',u1',e1',q2,a2,u2,e2,zk,x5.trans x6,fun _=>⟨rfl,fun _=>hm6.msg⟩,f2,f3,f4,f5,f6,f7,fun e=>⟨(f8 e).1,(f8 e).2.1,fun e2=>x6.at ((f8 e).2.2 e2)⟩,f9,f10⟩
    ·rintro b1 b2 b3 b4 b5 b6 b7 b8 b9 b10 b11 v1 v2 v3 v4 v5 v6 v7 v8 v9 v10 w5 hq ⟨q1,a1,u1,e1,q2,a2,u2,e2,zk,x5,f1,f2,f3,f4,f5,f6,f7,f8,f9,f10⟩;refine aD ?_;refine cY (WM D.1 q a u x stream _ (hm4.ext x5)) fun w6 x6 => ?_;refine aG ⟨x5.trans x6,_,rfl,q1,a1,u1,e1,q2,a2,u2,e2,zk,x5.trans x6,fun e=>⟨(f1 e).1,fun e2=>((f1 e).2 e2).ext x6⟩,fun _=>rfl,f3,f4,f5,f6,f7,fun e=>⟨(f8 e).1,(f8 e).2.1,fun e2=>x6.at ((f8 e).2.2 e2)⟩,f9,f10⟩
    ·rintro b1 b2 b3 b4 b5 b6 b7 b8 b9 b10 b11 v1 v2 v3 v4 v5 v6 v7 v8 v9 v10 w5 hq ⟨q1,a1,u1,e1,q2,a2,u2,e2,zk,x5,f1,f2,f3,f4,f5,f6,f7,f8,f9,f10⟩;have hb1:b1=true:=by revert hq;cases b1 <;> simp
     have hb2:b2=true:=by revert hq;cases b2 <;> simp
     have hb4:b4=false:=by revert hq;cases b4 <;> simp
     have hb5:b5=false:=by revert hq;subst hb4;cases b5 <;> simp
     subst hb1 hb2 hb4 hb5;obtain ⟨rfl,g1⟩:=f1 rfl;obtain rfl:=f2 rfl;refine aD ?_;refine gE (hcF _ (g1 rfl)) ?_;rintro _ w6 x6 ⟨q2',a2',u2',e2',rfl,hm6⟩;refine aD ?_;refine aG ⟨x5.trans x6,_,rfl,q1,a1,u1,e1,q2',a2',u2',e2',zk,x5.trans x6,fun _=>⟨rfl,bP⟩,bP,fun _=>⟨rfl,hm6.one⟩,bP,bP,f6,f7,fun e=>⟨(f8 e).1,(f8 e).2.1,fun e2=>x6.at ((f8 e).2.2 e2)⟩,f9,f10⟩
    ·rintro b1 b2 b3 b4 b5 b6 b7 b8 b9 b10 b11 v1 v2 v3 v4 v5 v6 v7 v8 v9 v10 w5 hq ⟨q1,a1,u1,e1,q2,a2,u2,e2,zk,x5,f1,f2,f3,f4,f5,f6,f7,f8,f9,f10⟩;have hb3:b3=true:=by revert hq;cases b3 <;> simp
     subst hb3;obtain ⟨rfl,g1⟩:=f3 rfl;refine aD ?_
     ((with_reducible refine bM ?_);(first | (refine iX ?_;refine fG ?_) | (refine nV ?_;refine oW ?_;(with_reducible refine bM ?_);refine iX ?_;refine fG ?_)))
     refine aG ⟨x5,_,rfl,q1,a1,u1,e1,q2,a2,u2,e2,zk,x5,fun e=>⟨(f1 e).1,bP⟩,f2,fun _=>⟨rfl,g1⟩,fun _=>rfl,f5,f6,f7,f8,f9,f10⟩
    ·rintro b1 b2 b3 b4 b5 b6 b7 b8 b9 b10 b11 v1 v2 v3 v4 v5 v6 v7 v8 v9 v10 w5 hq ⟨q1,a1,u1,e1,q2,a2,u2,e2,zk,x5,f1,f2,f3,f4,f5,f6,f7,f8,f9,f10⟩;have hb4:b4=true:=by revert hq;cases b4 <;> simp
     subst hb4;have g4:=f4 rfl;subst g4;refine aD ?_
     ((with_reducible refine bM ?_);(first | (refine iX ?_;refine fG ?_) | (refine nV ?_;refine oW ?_;(with_reducible refine bM ?_);refine iX ?_;refine fG ?_)))
     refine aG ⟨x5,_,rfl,q1,a1,u1,e1,q2,a2,u2,e2,zk,x5,f1,f2,f3,fun _=>rfl,fun _=>rfl,f6,f7,f8,f9,f10⟩
    ·rintro b1 b2 b3 b4 b5 b6 b7 b8 b9 b10 b11 v1 v2 v3 v4 v5 v6 v7 v8 v9 v10 w5 hq ⟨q1,a1,u1,e1,q2,a2,u2,e2,zk,x5,f1,f2,f3,f4,f5,f6,f7,f8,f9,f10⟩;have hb4:b4=true:=by revert hq;cases b4 <;> simp
     subst hb4;have g4:=f4 rfl;subst g4;refine aD ?_
     ((with_reducible refine bM ?_);(first | (refine iX ?_;refine fG ?_) | (refine nV ?_;refine oW ?_;(with_reducible refine bM ?_);refine iX ?_;refine fG ?_)))
     refine aG ⟨x5,_,rfl,q1,a1,u1,e1,q2,a2,u2,e2,zk,x5,f1,f2,f3,fun _=>rfl,f5,fun _=>rfl,f7,f8,f9,f10⟩
    ·rintro b1 b2 b3 b4 b5 b6 b7 b8 b9 b10 b11 v1 v2 v3 v4 v5 v6 v7 v8 v9 v10 w5 hq ⟨q1,a1,u1,e1,q2,a2,u2,e2,zk,x5,f1,f2,f3,f4,f5,f6,f7,f8,f9,f10⟩;have hb4:b4=true:=by revert hq;cases b4 <;> simp
     subst hb4;have g4:=f4 rfl;subst g4;refine aD ?_
     ((with_reducible refine bM ?_);(first | (refine iX ?_;refine fG ?_) | (refine nV ?_;refine oW ?_;(with_reducible refine bM ?_);refine iX ?_;refine fG ?_)))
     refine aG ⟨x5,_,rfl,q1,a1,u1,e1,q2,a2,u2,e2,zk,x5,f1,f2,f3,fun _=>rfl,f5,f6,fun _=>rfl,f8,f9,f10⟩
    ·rintro b1 b2 b3 b4 b5 b6 b7 b8 b9 b10 b11 v1 v2 v3 v4 v5 v6 v7 v8 v9 v10 w5 hq ⟨q1,a1,u1,e1,q2,a2,u2,e2,zk,x5,f1,f2,f3,f4,f5,f6,f7,f8,f9,f10⟩;refine aD ?_;refine fO (z:=fB) fun w6 x6 s6 h6 => ?_;refine aD ?_;refine aG ⟨x5.trans x6,_,rfl,q1,a1,u1,e1,q2,a2,u2,e2,_,x5.trans x6,fun e=>⟨(f1 e).1,fun e2=>((f1 e).2 e2).ext x6⟩,f2,f3,f4,f5,f6,f7,fun _=>⟨rfl,x5.size,fun _=>h6⟩,f9,f10⟩
    ·rintro b1 b2 b3 b4 b5 b6 b7 b8 b9 b10 b11 v1 v2 v3 v4 v5 v6 v7 v8 v9 v10 w5 hq ⟨q1,a1,u1,e1,q2,a2,u2,e2,zk,x5,f1,f2,f3,f4,f5,f6,f7,f8,f9,f10⟩;have hb6:b6=true:=by revert hq;cases b6 <;> simp
     subst hb6;have g6:=f6 rfl;subst g6;refine aD ?_
     ((with_reducible refine bM ?_);(first | (refine iX ?_;refine fG ?_) | (refine nV ?_;refine oW ?_;(with_reducible refine bM ?_);refine iX ?_;refine fG ?_)))
     refine aG ⟨x5,_,rfl,q1,a1,u1,e1,q2,a2,u2,e2,zk,x5,f1,f2,f3,f4,f5,bP,f7,f8,fun _=>rfl,f10⟩
    ·rintro b1 b2 b3 b4 b5 b6 b7 b8 b9 b10 b11 v1 v2 v3 v4 v5 v6 v7 v8 v9 v10 w5 hq ⟨q1,a1,u1,e1,q2,a2,u2,e2,zk,x5,f1,f2,f3,f4,f5,f6,f7,f8,f9,f10⟩;have hb7:b7=true:=by revert hq;cases b7 <;> simp
     subst hb7;have g7:=f7 rfl;subst g7;refine aD ?_
     ((with_reducible refine bM ?_);(first | (refine iX ?_;refine fG ?_) | (refine nV ?_;refine oW ?_;(with_reducible refine bM ?_);refine iX ?_;refine fG ?_)))
     refine aG ⟨x5,_,rfl,q1,a1,u1,e1,q2,a2,u2,e2,zk,x5,f1,f2,f3,f4,f5,f6,bP,f8,f9,fun _=>rfl⟩
    ·rintro b1 b2 b3 b4 b5 b6 b7 b8 b9 b10 b11 v1 v2 v3 v4 v5 v6 v7 v8 v9 v10 w5 hq ⟨q1,a1,u1,e1,q2,a2,u2,e2,zk,x5,f1,f2,f3,f4,f5,f6,f7,f8,f9,f10⟩;have hb5:b5=true:=by revert hq;cases b5 <;> simp
     have hb8:b8=true:=by revert hq;cases b8 <;> simp
     have hb4:b4=true:=by revert hq;subst hb5;cases b4 <;> simp
     have hb3:b3=true:=by revert hq;subst hb4;cases b3 <;> simp
     subst hb3 hb5 hb8;have g5:=f5 rfl;subst g5;obtain ⟨g2,g3⟩:=f3 rfl;obtain ⟨rfl,g8,g9⟩:=f8 rfl;refine aD ?_;refine dS (v:=.agg (aM FF.1 q2 a2 u2 e2).toArray) (g9 rfl) (by simp only [Value.cells,List.all_toArray,List.all_eq_true];exact g3) fun w6 p6 => ?_;have x6:=cH x5 p6;refine aG ⟨x6,rfl,q1,a1,u1,e1,q2,a2,u2,e2,zk,x6,fun e=>⟨(f1 e).1,bP⟩,f2,fun _=>⟨g2,g3⟩,f4,fun _=>rfl,f6,f7,fun _=>⟨rfl,g8,bP⟩,f9,f10⟩
    ·rintro v1 v2 v3 v4 v5 v6 v7 v8 v9 v10 w9 ⟨q1,a1,u1,e1,q2,a2,u2,e2,zk,x9,f1,f2,f3,f4,f5,f6,f7,f8,f9,f10⟩;have k3:=(f3 rfl).1;have k9:=f9 rfl;have k10:=f10 rfl;clear f1 f2 f3 f4 f5 f6 f7 f8 f9 f10;subst k9 k10;refine aD ?_;refine dR aR ?_;have hB9:=x9.at hB4;have hp9:=aA (cs:=aM D.1 q a u x) hB9;unfold aM at hp9;have hm9:=hm4.ext x9;have x09:=x04.trans x9;clear hpM;by_cases cF:FF.2.2=0
     ·rw [if_neg (by simpa using cF)] at hS;refine_lift LP (fun _ => ?_) (fun _ _ _ => ?_)
      all_goals first
       | (have hh:False:=by have h9:=‹(!decide (FF.2.2=0))=true›;rw [decide_eq_true cF] at h9;cases h9
          exact hh.elim)
       | skip
      go_ret2;rw [hS];exact ⟨by kernel_rfl,x09⟩
     ·rw [if_pos cF] at hS;refine_lift LP (fun _ => ?_) (fun _ _ _ => ?_)
      all_goals first
       | (have hh:False:=by have h9:=‹(!decide (FF.2.2=0))=false›;rw [decide_eq_false cF] at h9;cases h9
          exact hh.elim)
       | skip
      refine gE (oN D.1 q a u x 2 _ hm9 hlq) ?_;intro _ wb xb ⟨qb,er,ob⟩;subst er;refine aD ?_;have hmb:MsgV wb (bareR D.1 2) qb aH aH aH:=⟨ob.sl,Sl.nil _ _,Sl.nil _ _,Sl.nil _ _⟩;refine cY (wR hmb) fun w10 x10 => ?_;refine_lift aX ?_;go_ret2;rw [hS];exact ⟨by kernel_rfl,x09.trans (xb.trans x10)⟩
   ·rw [if_pos cD] at hS;refine_lift OV (fun _ _ _ => ?_) (fun _ _ _ _ _ => ?_)
    all_goals first
     | (have hh:False:=by have h9:=‹(!decide (D.2=0))=false›;rw [decide_eq_false cD] at h9;cases h9
        exact hh.elim)
     | skip
    refine aS (v:=.agg (aM (KU ((fW s).1:Nat) (KV s)) aH aH aH aH).toArray) (Runs.build rfl (by kernel_rfl)) ?_;refine aD ?_;have hma:MsgV w4 (KU ((fW s).1:Nat) (KV s)) aH aH aH aH:=⟨Sl.nil _ _,Sl.nil _ _,Sl.nil _ _,Sl.nil _ _⟩;refine cY (wR hma) fun w5 x5 => ?_;refine_lift aX ?_;go_ret2;rw [hS];exact ⟨by kernel_rfl,x04.trans x5⟩
def uY:MsgR:=⟨9,false,0,false,false,true,false,0,[([2,110,115,1,97],1)],[],[],[],0⟩
def QC (up:Bool):List HldR:=[⟨[1,97],VY,[1,97],up⟩]
theorem Bm:mD [1,97] KJ=0:=aR
theorem Bn:sE [1,97] KJ=VY:=aR
theorem Bo:sD [1,97] KJ=[1,97]:=aR
theorem Bp:(cT (QC true) uY).rcode=0∧(cT (QC true) uY).auth=true∧(cT (QC true) uY).an.length=1:=aR
theorem Bq:(cT (QC false) uY).rcode=2:=aR
theorem Br:(cT [] uY).rcode=5:=aR
theorem Bs:(bU uY).2=0∧(bU uY).1.length≤1000:=aR
theorem Bt:(fQ [] (bU uY).1 false).2=true∧(fQ [] (bU uY).1 false).1.length≤1000:=aR
theorem Bu:(dD (fQ [] (bU uY).1 false).1).2=0∧(dD (fQ [] (bU uY).1 false).1).1.id=9∧(dD (fQ [] (bU uY).1 false).1).1.rcode=5:=aR
theorem Bv:(fQ [] [120] false).2=false:=aR
theorem HldsAt.nil (w:World):HldsAt w (.slice none 0 0) []:=⟨[],Sl.nil _ _,rfl,fun i h e=>by simp at e⟩
theorem HldsAt.one {z:Value} {up:Bool} (h:Sl k w v [[aI [1,97],z,aI [1,97], .bool up]]) (hk:k=4) (hz:SetsAt w z VY):HldsAt w v (QC up):=by
 subst hk;refine ⟨_,h,rfl,fun i x e => ?_⟩;cases i with
 | zero =>
  simp only [QC,List.getElem?_cons_zero,Option.some.injEq] at e;subst e;exact ⟨z,rfl,hz⟩
 | succ i=>simp [QC] at e
theorem XP (up:Bool):∀ h ∈ QC up,∀ s ∈ h.l,s.data.length≤1000000:=by
 intro h hh;simp only [QC,List.mem_singleton] at hh;subst hh;exact Aj
theorem AD (w:World):Calls Tryz.prog 5 #[] w (bC w (.bool true)):=by
 go_enter Tryz.func5,Tryz.ntmps5
 refine_lift cC fun _ _ => ?_;refine EF (TH _) fun v1 w1 x1 hv1 => ?_;refine_lift aX ?_;refine gE (YI [1,97] v1 KJ _ hv1 bG Ak) ?_;rintro _ w4 x4 ⟨z,rfl,hz⟩;rw [Bm,Bo];rw [Bn] at hz;have hz:=hz.sets;have hz1:z.oneCell'=true:=by obtain ⟨css,h,_⟩:=hz;exact h.one
 have hx4:=x1.trans x4;refine aD ?_;refine_lift aX ?_;refine fO (z:=pE) fun w5 x5 s5 h5 => ?_;refine aD ?_;refine dS (v:=.agg #[aI [1,97],z]) h5 (BW hz1) fun w6 p6 => ?_;have x6:=cH x5 p6;have hp6:=aA (cs:=[aI [1,97],z]) p6.this;have hz6:=hz.ext x6;have hx6:=hx4.trans x6;clear p6 h5 x5 hz hv1;refine_lift cC fun _ _ => ?_;refine aS (v:=.agg #[aI [1,97],z,aI [1,97], .bool true]) (Runs.build rfl (by obtain ⟨_,hq,_⟩:=hz6.sl;obtain ⟨_,_,rfl,_⟩:=hq.out;kernel_rfl)) ?_;refine aD ?_;refine nG (e:=43) (k:=4) (bytes:=64) (xs:=[.agg #[aI [1,97],z,aI [1,97], .bool true]]) (by intro x hx;simp at hx;subst hx;simp [Value.cells]) fun v7 w7 x7 _ sl7 o7 => ?_;refine aD ?_;have hz7:=hz6.ext x7;have hx7:=hx6.trans x7;have o7:Own w6.heap.size 4 43 w7 v7 [[aI [1,97],z,aI [1,97], .bool true]]:=o7;refine_lift cC fun _ _ => ?_;refine aS (v:=.agg #[aI [2,110,115,1,97], .int .i64 1]) (Runs.build rfl (by kernel_rfl)) ?_;refine aD ?_;refine nG (e:=45) (k:=2) (bytes:=24) (xs:=[.agg #[aI [2,110,115,1,97], .int .i64 1]]) (by intro x hx;simp at hx;subst hx;simp [Value.cells]) fun qv w8 x8 _ sl8 o8 => ?_;refine aD ?_;have sl8:Sl 2 w8 qv (cR uY.qs):=sl8;have hqf:=sl8.slf;refine aS (v:=.agg (aM uY qv aH aH aH).toArray) (Runs.build (vals:=[(0, .int .i64 9),(5, .bool true),(8,qv)]) rfl (by obtain ⟨_,_,_,rfl⟩:=hqf;kernel_rfl)) ?_;refine aD ?_;refine fO (z:=fB) fun w9 x9 s9 h9 => ?_;refine aD ?_;have hm9:MsgV w9 uY qv aH aH aH:=⟨sl8.ext x9,Sl.nil _ _,Sl.nil _ _,Sl.nil _ _⟩;refine dS (v:=.agg (aM uY qv aH aH aH).toArray) h9 (bY hm9) fun w10 p10 => ?_;have x810:=cH x9 p10;have hB10:w10.heap[w8.heap.size]? = some (.cells (aM uY qv aH aH aH).toArray 48 (0,0)):=p10.this;have x710:=x8.trans x810;have hm10:MsgV w10 uY qv aH aH aH:=⟨sl8.ext x810,Sl.nil _ _,Sl.nil _ _,Sl.nil _ _⟩;have o10:=o7.ext x710;have hz10:=hz7.ext x710;have hx10:=hx7.trans x710;have hp10:=aA (cs:=aM uY qv aH aH aH) hB10;have h68:w6.heap.size≤w8.heap.size:=by have:=x7.size;have:=x8.size;omega
 have h610:Ext w6 w10:=x7.trans x710;have q10:Own w7.heap.size 2 45 w10 qv (cR uY.qs):=Own.ext (show Own w7.heap.size 2 45 w8 qv (cR uY.qs) from o8) x810;clear p10 h9 x9 hm9 sl7 sl8 o8 hp6;generalize w8.heap.size=mb at *;unfold aM at hp10;refine_lift cC fun _ _ => ?_;obtain ⟨ra1,ra2,ra3⟩:=Bp;refine gE (AC v7 (QC true) uY qv aH aH aH _ (HldsAt.one o10.sl rfl hz10) hm10 bG (XP true)) ?_;rintro _ w11 x11 ⟨qa,aa,ua,ea,rfl,hma0⟩;have hma:=hma0.msg;generalize cT (QC true) uY=RA at *;refine aD ?_;refine fO (z:=fB) fun w12 x12 s12 h12 => ?_;refine aD ?_;have hma12:=hma.ext x12;refine dS (v:=.agg (aM RA qa aa ua ea).toArray) h12 (bY hma12) fun w13 p13 => ?_;have x1113:=cH x12 p13;have hA13:w13.heap[w11.heap.size]? = some (.cells (aM RA qa aa ua ea).toArray 48 (0,0)):=p13.this;have x13:=x11.trans x1113;have o13:=o10.ext x13;have q13:=q10.ext x13;have lna:(aJ RA.an).length=1:=by rw [aN];exact ra3
 have hsa:=hma.an;have hB13:=x13.at hB10;have hm13:=hm10.ext x13;have hz13:=hz10.ext x13;have hx13:=hx10.trans x13;clear p13 h12 x12 hma12 hp10 hB10;generalize w11.heap.size=ab at *;have slo:=o13.sl;refine_lift cC fun _ _ => ?_;obtain ⟨bb,oo,hep,-⟩:=(slo.elem (i:=0) rfl).out;refine aS (Runs.fieldA (off:=3) hep aR) ?_;refine aD ?_;refine JW (i:=0) (j:=3) (k:=4) (c:=.bool false) rfl (congrArg (fun p=>dZ p 3) hep.symm) rfl o13 rfl aE aR rfl ?_;intro w14 o14 m14;have o14:Own w6.heap.size 4 43 w14 v7 [[aI [1,97],z,aI [1,97], .bool false]]:=o14;have x614:Ext w6 w14:=o13.mvx m14 (h610.trans x13) (Nat.le_refl _);have hz14:=hz6.ext x614;have q14:=q13.mv m14 (q13.ne o13 bG);have hM:=m14.at hB13 (fun e9=>(o13.neBlock hB13 bG) e9.symm);have hA:=m14.at hA13 (fun e9=>(o13.neBlock hA13 bG) e9.symm);have hm14:MsgV w14 uY qv aH aH aH:=⟨q14.sl,Sl.nil _ _,Sl.nil _ _,Sl.nil _ _⟩;have hx14:=hx6.trans x614;have hpq:=aA (cs:=aM uY qv aH aH aH) hM;unfold aM at hpq;clear slo hB13 hA13 o13 m14;refine_lift cC fun _ _ => ?_;refine gE (AC v7 (QC false) uY qv aH aH aH _ (HldsAt.one o14.sl rfl hz14) hm14 bG (XP false)) ?_;rintro _ w15 x15 ⟨qB,aB,uB,eB,rfl,hmB0⟩;have hmB:=hmB0.msg;have rb:=Bq;generalize cT (QC false) uY=RB at *;refine aD ?_;refine fO (z:=fB) fun w16 x16 s16 h16 => ?_;refine aD ?_;have hmB2:=hmB.ext x16;refine dS (v:=.agg (aM RB qB aB uB eB).toArray) h16 (bY hmB2) fun w17 p17 => ?_;have y17:=cH x16 p17;have hbB:w17.heap[w15.heap.size]? = some (.cells (aM RB qB aB uB eB).toArray 48 (0,0)):=p17.this;have x17:=x15.trans y17;have hx17:=hx14.trans x17;have hM:=x17.at hM;have hA:=x17.at hA;clear p17 h16 x16 hmB2;generalize w15.heap.size=Bb at *;have hm17:=hm14.ext x17;have hpq:=hpq.ext x17;refine_lift cC fun _ _ => ?_;refine gE (AC (.slice none 0 0) [] uY qv aH aH aH _ (HldsAt.nil _) hm17 bG bP) ?_;rintro _ w18 x18 ⟨qC,aC,uC,eC,rfl,hmC0⟩;have hmC:=hmC0.msg;have rc:=Br;generalize cT [] uY=RC at *;refine aD ?_;refine fO (z:=fB) fun w19 x19 s19 h19 => ?_;refine aD ?_;have hmC2:=hmC.ext x19;refine dS (v:=.agg (aM RC qC aC uC eC).toArray) h19 (bY hmC2) fun w20 p20 => ?_;have y20:=cH x19 p20;have hbC:w20.heap[w18.heap.size]? = some (.cells (aM RC qC aC uC eC).toArray 48 (0,0)):=p20.this;have x20:=x18.trans y20;have hx20:=hx17.trans x20;have hM:=x20.at hM;have hA:=x20.at hA;have hbB:=x20.at hbB;clear p20 h19 x19 hmC2;generalize w18.heap.size=Cb at *;have hm20:=hm17.ext x20;have hpq:=hpq.ext x20;refine_lift cC fun _ _ => ?_;obtain ⟨re1,re2⟩:=Bs;obtain ⟨rs1,rs2⟩:=Bt;obtain ⟨rd1,rd2,rd3⟩:=Bu;have rx:=Bv;refine cY (wR hm20) fun w21 x21 => ?_;generalize bU uY=EE at *;refine_lift cC fun _ _ => ?_;refine cY (HU (.slice none 0 0) [] EE.1 false _ (HldsAt.nil _) bG bP aE) fun w22 x22 => ?_;generalize fQ [] EE.1 false=SS at *;refine_lift cC fun _ _ => ?_;refine wZ (KP SS.1 aE) ?_;rintro _ w23 ⟨qd,ad,ud,xd,rfl,hmd,x23⟩;refine ⟨_,rfl,?_⟩;generalize dD SS.1=DD at *;refine aD ?_;refine_lift aX ?_;refine fO (z:=fB) fun w24 x24 s24 h24 => ?_;refine aD ?_;have hmd2:=hmd.ext x24;refine dS (v:=.agg (aM DD.1 qd ad ud xd).toArray) h24 (bY hmd2) fun w25 p25 => ?_;have y25:=cH x24 p25;have hbD:w25.heap[w23.heap.size]? = some (.cells (aM DD.1 qd ad ud xd).toArray 48 (0,0)):=p25.this;have x2025:=(x21.trans x22).trans (x23.trans y25);have hx25:=hx20.trans x2025;clear p25 h24 x24 hmd2;generalize w23.heap.size=Db at *;refine_lift cC fun _ _ => ?_;refine cY (HU (.slice none 0 0) [] [120] false _ (HldsAt.nil _) bG bP bG) fun w26 x26 => ?_;generalize fQ [] [120] false=XX at *;have x2026:=x2025.trans x26;have pA:=aA (x2026.at hA);have pB:=aA (x2026.at hbB);have pC:=aA (x2026.at hbC);have pD:=aA (x26.at hbD);unfold aM at pA pB pC pD;rw [ra1,ra2] at pA;rw [rb] at pB;rw [rc] at pC;rw [rd2,rd3] at pD;rw [re1,rs1,rd1,rx];clear hpq;refine_lift cC fun _ _ => ?_;refine aS (Runs.lenW hsa aR) ?_;refine aD ?_;rw [lna];refine_lift tK (fun hc => ?_) (fun hc => ?_)
 ·go_ret;exact ⟨rfl,hx25.trans x26⟩
 ·exact absurd (show ((1:Nat):Int)=1 from rfl) (by assumption)
def lP (n k j:Nat):List UInt8:=(lZ n j).drop (4 - k)
theorem MV (n k:Nat) (hk:k=1∨k=2∨k=4):aL (lP n k 0)=List.replicate k [.int .u8 0]:=by
 rcases hk with rfl | rfl | rfl <;> simp [lP,lZ,aL,List.replicate]
theorem MW (n k j:Nat) (hk:k=1∨k=2∨k=4) (h:j < k):(aL (lP n k j)).set (k - 1 - j) [.int .u8 ((UInt8.ofNat (n / 256 ^ j)).toNat:Nat)]=aL (lP n k (j + 1)):=by
 have:j=0∨j=1∨j=2∨j=3:=aE;rcases hk with rfl | rfl | rfl <;> rcases this with rfl | rfl | rfl | rfl <;> first | (simp [lP,lZ,aL];done) | omega
theorem wS (n k j:Nat) (hk:k=1∨k=2∨k=4):(lP n k j).length=k:=by
 rcases hk with rfl | rfl | rfl <;> simp [lP,lZ]
theorem hY (n:Nat):lP n 2 2=aT n:=rfl
theorem tF (n:Nat):lP n 1 1=[UInt8.ofNat n]:=rfl
theorem QD (n:Nat):lP n 4 4=jC n:=by
 show [UInt8.ofNat (n / 16777216),UInt8.ofNat (n / 65536),UInt8.ofNat (n / 256),UInt8.ofNat n]=_;unfold jC aT;rw [Nat.div_div_eq_div_mul];rfl
theorem UC (n k:Nat) (w:World) (hk:k=1∨k=2∨k=4) (hn:n < 4294967296):Calls Tryz.prog 93 #[.int .i64 (n:Nat), .int .i64 (k:Nat)] w (bC w (aI (lP n k k))):=by
 have hk4:1≤k∧k≤4:=aE;go_enter Tryz.func93,Tryz.ntmps93
 refine_lift cC fun _ _ => ?_;refine EC (e:=5) (n:=k) (z:=.int .u8 0) ?_ rfl rfl aE;intro v w1 x1 o1;refine aD ?_;refine_lift cC fun _ _ => ?_;rw [← MV n k hk] at o1;go_loopw [0,6] (fun m i wr=>∃ j:Nat,j≤k∧i=.int .i64 ((k:Int) - 1 - (j:Int))∧m=.int .i64 (n / 256 ^ j:Nat)∧Ext w wr∧Own w.heap.size 1 5 wr v (aL (lP n k j))) (fun _ i _=>(intOf i + 1).toNat)
 case atStart=>exact ⟨0,aE,bP,bP,x1,o1⟩
 case round =>
  obtain ⟨j,hj,rfl,rfl,hx,ho⟩:=hrel;have hsl:=ho.sl;have hle:n / 256 ^ j≤n:=Nat.div_le_self _ _;have hbl:(aL (lP n k j)).length=k:=by rw [aL,List.length_map,wS n k j hk]
  by_cases hlt:j < k
  ·generalize hq:n / 256 ^ j=q at *;refine_lift DI ?_;intro _ _ _ _ _ _;refine bZ rfl (Runs.remN (n:=256) rfl rfl aE aE) ?_;refine aD ?_;refine_lift aX ?_;refine eY (c:=.int .u8 _) (i:=((k:Int) - 1 - (j:Int)).toNat) rfl rfl rfl ho aE aR rfl ?_;intro w2 o2 m2;have hx2:=ho.mvx m2 hx (Nat.le_refl _);have e2:(aL (lP n k j)).set ((k:Int) - 1 - (j:Int)).toNat [Value.int .u8 (IntKind.wrap .u8 ((q % 256:Nat):Int))]=aL (lP n k (j + 1)):=by
    rw [show ((k:Int) - 1 - (j:Int)).toNat=k - 1 - j by omega,vP,← MW n k j hk hlt,hq]
    congr 4
    simp
   rw [e2] at o2;clear ho hsl;refine_lift aX ?_;refine bZ rfl (Runs.quoN (n:=256) rfl rfl aE aE) ?_;refine aD ?_;refine_lift aX ?_;refine ⟨⟨j + 1,aE,by go_num,?_,hx2,o2⟩,by simp [intOf];omega⟩;rw [← hq,Nat.div_div_eq_div_mul,Nat.pow_succ]
  ·have:j=k:=aE;subst this;refine_lift jS fun _ => ?_;go_ret;exact ⟨rfl,hx⟩
def CO (rs:List (List UInt8 × Nat)):List (List Value):=rs.map fun p=>[aI p.1, .int .i64 ((p.2:Nat):Int)]
theorem DQ (rs:List (List UInt8 × Nat)):(CO rs).length=rs.length:=by simp [CO]
structure WgAt (w0 w:World) (b:Nat) (l:List UInt8) (rs:List (List UInt8 × Nat)):Prop where
 hb:w0.heap.size≤b
 ext:Ext w0 w
 blk:∃ v p,w.heap[b]? = some (.cells [v,p].toArray 106 (0,0))∧Own w0.heap.size 1 5 w v (aL l)∧Own w0.heap.size 2 162 w p (CO rs)
def Kg (w w':World):Prop:=∀ (k:Nat) (cs:Array Value) (t:TypeId) (fz:Nat × Nat),t≠106→t≠5→t≠162→w.heap[k]? = some (.cells cs t fz)→w'.heap[k]? = some (.cells cs t fz)
theorem Kg.refl (w:World):Kg w w:=fun _ _ _ _ _ _ _ h=>h
theorem Kg.trans (h:Kg w w1) (k:Kg w1 w2):Kg w w2:=fun n cs t fz a c d x=>k n cs t fz a c d (h n cs t fz a c d x)
theorem Ext.kg (h:Ext w w'):Kg w w':=fun _ _ _ _ _ _ _ x=>h.at x
theorem Mv.kgRow (ho:Own B k 5 w v es) (h:Mv v.ownBlock w w'):Kg w w' :=
 fun _ _ _ _ _ hu _ x=>h.at x (fun e=>ho.neBlock x hu e.symm)
theorem Mv.kgPl (ho:Own B k 162 w v es) (h:Mv v.ownBlock w w'):Kg w w' :=
 fun _ _ _ _ _ _ hu x=>h.at x (fun e=>ho.neBlock x hu e.symm)
theorem Mv.kgBox (hB:w.heap[b]? = some (.cells cs 106 fz)) (h:Mv (some b) w w'):Kg w w' :=
 fun _ _ _ _ hw _ _ x=>h.at x (by intro e;cases e;rw [hB] at x;simp only [Option.some.injEq,Obj.cells.injEq] at x;exact hw x.2.1.symm)
def FU (w0 w:World) (b:Nat) (l:List UInt8) (rs:List (List UInt8 × Nat)) (e:Ending) (w':World):Prop:=e=.returned (.tuple #[])∧WgAt w0 w' b l rs∧Kg w w'
theorem qL (h:WgAt w0 w b l rs) (s:List UInt8) (hl:l.length + s.length≤100000000000000):Calls Tryz.prog 55 #[.pointer (some ⟨b,0,none⟩),aI s] w (FU w0 w b (l ++ s) rs):=by
 obtain ⟨hb,hx,v,p,hB,ho,hP⟩:=h;have hp:=aA (cs:=[v,p]) hB;go_enter Tryz.func55,Tryz.ntmps55
 refine_lift aX ?_;refine tR (e:=5) (v0:=v) rfl ho rfl hx.size aE ?_ aR (by kernel_rfl);intro v1 w1 o1 m1;refine aD ?_;have hB1:=m1.at hB (fun e=>(ho.neBlock hB bG) e.symm);have hP1:=hP.mv m1 (hP.ne ho bG);have x1:Ext w0 w1:=hx.move m1 (fun k e=>(ho.block k e).1);clear hp;refine_lift aX ?_;refine eS 0 v1 hB1 o1.one fun w2 p2 => ?_;have x2:=cH x1 p2;have hB2:w2.heap[b]? = some (.cells [v1,p].toArray 106 (0,0)):=p2.this;have o2:=cM o1 p2 hB1;have hP2:=cM hP1 p2 hB1;refine_lift aX ?_
 ((try simp only [Exit.inBlock,Exit.then]);refine bodyPost_ret (results_none rfl _ _ _) rfl ?_)
 exact ⟨rfl,⟨hb,x2,v1,p,hB2,o2,hP2⟩,(Mv.kgRow ho m1).trans (Mv.kgBox hB1 p2.mv)⟩
theorem eQ (h:WgAt w0 w b l rs) (n k:Nat) (hk:k=1∨k=2∨k=4) (hn:n < 4294967296) (hl:l.length + 4≤100000000000000):Calls Tryz.prog 51 #[.pointer (some ⟨b,0,none⟩), .int .i64 (n:Nat), .int .i64 (k:Nat)] w (FU w0 w b (l ++ lP n k k) rs):=by
 have hlk:=wS n k k hk;go_enter Tryz.func51,Tryz.ntmps51
 refine_lift aX ?_;refine cY (UC n k _ hk hn) fun w1 x1 => ?_;have h1:WgAt w0 w1 b l rs:=by
  obtain ⟨hb,hx,v,p,hB,ho,hP⟩:=h;exact ⟨hb,hx.trans x1,v,p,x1.at hB,ho.ext x1,hP.ext x1⟩
 refine_lift aX ?_;refine bK (qL h1 (lP n k k) aE) fun w2 h2 k2 => ?_;refine_lift aX ?_
 ((try simp only [Exit.inBlock,Exit.then]);refine bodyPost_ret (results_none rfl _ _ _) rfl ?_)
 exact ⟨rfl,h2,x1.kg.trans k2⟩
end Go.Proofs.X
