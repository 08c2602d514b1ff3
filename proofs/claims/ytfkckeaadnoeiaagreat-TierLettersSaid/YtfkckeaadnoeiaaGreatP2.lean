/- Laws and walks that the proof of the statement is made of (part 2). -/
import Derived.Test.YtfkckeaadnoeiaaGreatP1
set_option linter.unusedSimpArgs false
set_option linter.unusedVariables false
set_option maxRecDepth 100000
namespace Go.Proofs.X
open Go.RowKit
def iB (b:Bool):Nat:=if b=true then 0 else 1
section
variable {P:Program} {Q:Exit→Act→World→Prop} {S:World→Prop} {l:List Oper} {ts:List Value} {df:List Deferred} {w:World} {fuel:Nat} {listed:List Bool}
theorem uB {ops:Array Oper} {Inv:Nat→List Bool→Act→World→Prop}
 (hs:∀ m L a w,Inv (m+1) L a w→0<(Region.ready .any ops L.toArray).length∧∀ i∈Region.ready .any ops L.toArray,wpOp P ops Q i (fun a' w'=>S w'∧Inv m (L.set i true) a' w') a w)
 (he:∀ L a w,Inv 0 L a w→wpAnyH P .any ops Q S fuel L.toArray a w):∀ m L a w,Inv m L a w→wpAnyH P .any ops Q S (fuel+m) L.toArray a w:=by
 intro m
 induction m with
 | zero=>exact he
 | succ m ih =>
  intro L a w h
  obtain ⟨h1,h2⟩:=hs m L a w h
  refine ⟨fun e=>by rw [e]at h1;simp at h1,fun i hi=>wpOp_mono (fun a' w' hh=>⟨hh.1,?_⟩) (h2 i hi)⟩
  have:=ih _ _ _ hh.2
  simpa using this
theorem cI {b:Bool} (h:iB b=0):b=true:=by
 cases b with
 | true=>rfl
 | false=>simp [iB]at h
theorem By (i1 i2 i3:Nat) (d1 d2 d3:Nat) (c q1 q2 q3:Bool→Bool→Bool→Bool) (F:Bool→Bool→Bool→Value→Value→Value→World→Prop)
 {fuel2:Nat} {o1 o2 o3:Oper}
 (hF:F false false false (List.getD ts d1 undef) (List.getD ts d2 undef) (List.getD ts d3 undef) w)
 (h1:∀ b1 b2 b3:Bool,∀ v1 v2 v3:Value,∀ w1:World,(q1 false b2 b3&&c false b2 b3)=true→F false b2 b3 v1 v2 v3 w1→wpList P l.toArray (pD Q fun a w2=>S w2∧∃ u,a=Act.mk (List.set (List.set (List.set ts d1 u) d2 v2) d3 v3).toArray df∧F true b2 b3 u v2 v3 w2) [o1] (Act.mk (List.set (List.set (List.set ts d1 v1) d2 v2) d3 v3).toArray df) w1)
 (h2:∀ b1 b2 b3:Bool,∀ v1 v2 v3:Value,∀ w1:World,(q2 b1 false b3&&c b1 false b3)=true→F b1 false b3 v1 v2 v3 w1→wpList P l.toArray (pD Q fun a w2=>S w2∧∃ u,a=Act.mk (List.set (List.set (List.set ts d1 v1) d2 u) d3 v3).toArray df∧F b1 true b3 v1 u v3 w2) [o2] (Act.mk (List.set (List.set (List.set ts d1 v1) d2 v2) d3 v3).toArray df) w1)
 (h3:∀ b1 b2 b3:Bool,∀ v1 v2 v3:Value,∀ w1:World,(q3 b1 b2 false&&c b1 b2 false)=true→F b1 b2 false v1 v2 v3 w1→wpList P l.toArray (pD Q fun a w2=>S w2∧∃ u,a=Act.mk (List.set (List.set (List.set ts d1 v1) d2 v2) d3 u).toArray df∧F b1 b2 true v1 v2 u w2) [o3] (Act.mk (List.set (List.set (List.set ts d1 v1) d2 v2) d3 v3).toArray df) w1)
 (hG:∀ v1 v2 v3:Value,∀ w1:World,F true true true v1 v2 v3 w1→wpAnyH P .any l.toArray Q S fuel (List.set (List.set (List.set listed i1 true) i2 true) i3 true).toArray (Act.mk (List.set (List.set (List.set ts d1 v1) d2 v2) d3 v3).toArray df) w1)
 (hi:l[i1]? = some o1∧l[i2]? = some o2∧l[i3]? = some o3:=by refine ⟨rfl,rfl,rfl⟩)
 (hr:(∀ b1 b2 b3:Bool,c b1 b2 b3=true→(b1&&b2&&b3)=false→(decide (0<(Region.ready .any l.toArray (List.set (List.set (List.set listed i1 b1) i2 b2) i3 b3).toArray).length)&&(Region.ready .any l.toArray (List.set (List.set (List.set listed i1 b1) i2 b2) i3 b3).toArray).all fun i=>(i == i1&&(!b1&&((q1 false b2 b3&&c false b2 b3)&&c true b2 b3)))||(i == i2&&(!b2&&((q2 b1 false b3&&c b1 false b3)&&c b1 true b3)))||(i == i3&&(!b3&&((q3 b1 b2 false&&c b1 b2 false)&&c b1 b2 true))))=true):=by decide +kernel) (hc0:c false false false=true:=by rfl)
 (hf:fuel2=fuel+3:=by rfl) (hn:i1≠i2∧i1≠i3∧i2≠i3:=by decide) (hl0:(List.set (List.set (List.set listed i1 false) i2 false) i3 false)=listed:=by rfl) (ht0:(List.set (List.set (List.set ts d1 (List.getD ts d1 undef)) d2 (List.getD ts d2 undef)) d3 (List.getD ts d3 undef))=ts:=by rfl)
 : wpAnyH P .any l.toArray Q S fuel2 listed.toArray (Act.mk ts.toArray df) w:=by
 obtain ⟨e1,e2,e3⟩:=hi
 obtain ⟨n1_2,n1_3,n2_3⟩:=hn
 rw [hf]
 refine uB (Inv:=fun m L a w=>∃ b1 b2 b3:Bool,∃ v1 v2 v3:Value,c b1 b2 b3=true∧m=iB b1+iB b2+iB b3∧L=(List.set (List.set (List.set listed i1 b1) i2 b2) i3 b3)∧a=Act.mk (List.set (List.set (List.set ts d1 v1) d2 v2) d3 v3).toArray df∧F b1 b2 b3 v1 v2 v3 w) ?_ ?_ 3 listed _ w ⟨false,false,false,(List.getD ts d1 undef),(List.getD ts d2 undef),(List.getD ts d3 undef),hc0,by rfl,hl0.symm,by rw [ht0],hF⟩
 ·rintro m L a w ⟨b1,b2,b3,v1,v2,v3,hcc,hm,rfl,rfl,hf⟩
  have hb:(b1&&b2&&b3)=false:=by
   cases hq:(b1&&b2&&b3) with
   | false=>rfl
   | true =>
    exfalso
    simp only [Bool.and_eq_true]at hq
    obtain ⟨⟨p1,p2⟩,p3⟩:=hq
    subst p1 p2 p3
    simp [iB]at hm
  have hr:=hr b1 b2 b3 hcc hb
  simp only [Bool.and_eq_true,decide_eq_true_eq,List.all_eq_true,Bool.or_eq_true,beq_iff_eq,Bool.not_eq_true']at hr
  refine ⟨hr.1,fun i hi=>?_⟩
  rcases hr.2 i hi with ((⟨rfl,rfl,c1,cc1⟩|⟨rfl,rfl,c2,cc2⟩)|⟨rfl,rfl,c3,cc3⟩)
  ·refine wpOp_mono ?_ (dI (by simpa using e1) (h1 true b2 b3 v1 v2 v3 w (Bool.and_eq_true_iff.2 c1) hf))
   rintro a w2 ⟨hS,u,rfl,hf2⟩
   refine ⟨hS,true,b2,b3,u,v2,v3,cc1,?_,?_,rfl,hf2⟩
   ·simp only [iB,Bool.false_eq_true,if_true,if_false]at hm ⊢;omega
   ·rw [List.set_comm _ _ n1_3.symm,List.set_comm _ _ n1_2.symm,List.set_set]
  ·refine wpOp_mono ?_ (dI (by simpa using e2) (h2 b1 true b3 v1 v2 v3 w (Bool.and_eq_true_iff.2 c2) hf))
   rintro a w2 ⟨hS,u,rfl,hf2⟩
   refine ⟨hS,b1,true,b3,v1,u,v3,cc2,?_,?_,rfl,hf2⟩
   ·simp only [iB,Bool.false_eq_true,if_true,if_false]at hm ⊢;omega
   ·rw [List.set_comm _ _ n2_3.symm,List.set_set]
  ·refine wpOp_mono ?_ (dI (by simpa using e3) (h3 b1 b2 true v1 v2 v3 w (Bool.and_eq_true_iff.2 c3) hf))
   rintro a w2 ⟨hS,u,rfl,hf2⟩
   refine ⟨hS,b1,b2,true,v1,v2,u,cc3,?_,?_,rfl,hf2⟩
   ·simp only [iB,Bool.false_eq_true,if_true,if_false]at hm ⊢;omega
   ·rw [List.set_set]
 ·rintro L a w ⟨b1,b2,b3,v1,v2,v3,hcc,hm,rfl,rfl,hf⟩
  have p1:b1=true:=cI (by omega)
  have p2:b2=true:=cI (by omega)
  have p3:b3=true:=cI (by omega)
  subst p1 p2 p3
  exact hG v1 v2 v3 w hf
theorem UP (i1 i2 i3 i4:Nat) (d1 d2 d3:Nat) (c q1 q2 q3 q4:Bool→Bool→Bool→Bool→Bool) (F:Bool→Bool→Bool→Bool→Value→Value→Value→World→Prop)
 {fuel2:Nat} {o1 o2 o3 o4:Oper}
 (hF:F false false false false (List.getD ts d1 undef) (List.getD ts d2 undef) (List.getD ts d3 undef) w)
 (h1:∀ b1 b2 b3 b4:Bool,∀ v1 v2 v3:Value,∀ w1:World,(q1 false b2 b3 b4&&c false b2 b3 b4)=true→F false b2 b3 b4 v1 v2 v3 w1→wpList P l.toArray (pD Q fun a w2=>S w2∧∃ u,a=Act.mk (List.set (List.set (List.set ts d1 u) d2 v2) d3 v3).toArray df∧F true b2 b3 b4 u v2 v3 w2) [o1] (Act.mk (List.set (List.set (List.set ts d1 v1) d2 v2) d3 v3).toArray df) w1)
 (h2:∀ b1 b2 b3 b4:Bool,∀ v1 v2 v3:Value,∀ w1:World,(q2 b1 false b3 b4&&c b1 false b3 b4)=true→F b1 false b3 b4 v1 v2 v3 w1→wpList P l.toArray (pD Q fun a w2=>S w2∧∃ u,a=Act.mk (List.set (List.set (List.set ts d1 v1) d2 u) d3 v3).toArray df∧F b1 true b3 b4 v1 u v3 w2) [o2] (Act.mk (List.set (List.set (List.set ts d1 v1) d2 v2) d3 v3).toArray df) w1)
 (h3:∀ b1 b2 b3 b4:Bool,∀ v1 v2 v3:Value,∀ w1:World,(q3 b1 b2 false b4&&c b1 b2 false b4)=true→F b1 b2 false b4 v1 v2 v3 w1→wpList P l.toArray (pD Q fun a w2=>S w2∧∃ u,a=Act.mk (List.set (List.set (List.set ts d1 v1) d2 v2) d3 u).toArray df∧F b1 b2 true b4 v1 v2 u w2) [o3] (Act.mk (List.set (List.set (List.set ts d1 v1) d2 v2) d3 v3).toArray df) w1)
 (h4:∀ b1 b2 b3 b4:Bool,∀ v1 v2 v3:Value,∀ w1:World,(q4 b1 b2 b3 false&&c b1 b2 b3 false)=true→F b1 b2 b3 false v1 v2 v3 w1→wpList P l.toArray (pD Q fun a w2=>S w2∧a=Act.mk (List.set (List.set (List.set ts d1 v1) d2 v2) d3 v3).toArray df∧F b1 b2 b3 true v1 v2 v3 w2) [o4] (Act.mk (List.set (List.set (List.set ts d1 v1) d2 v2) d3 v3).toArray df) w1)
 (hG:∀ v1 v2 v3:Value,∀ w1:World,F true true true true v1 v2 v3 w1→wpAnyH P .any l.toArray Q S fuel (List.set (List.set (List.set (List.set listed i1 true) i2 true) i3 true) i4 true).toArray (Act.mk (List.set (List.set (List.set ts d1 v1) d2 v2) d3 v3).toArray df) w1)
 (hi:l[i1]? = some o1∧l[i2]? = some o2∧l[i3]? = some o3∧l[i4]? = some o4:=by refine ⟨rfl,rfl,rfl,rfl⟩)
 (hr:(∀ b1 b2 b3 b4:Bool,c b1 b2 b3 b4=true→(b1&&b2&&b3&&b4)=false→(decide (0<(Region.ready .any l.toArray (List.set (List.set (List.set (List.set listed i1 b1) i2 b2) i3 b3) i4 b4).toArray).length)&&(Region.ready .any l.toArray (List.set (List.set (List.set (List.set listed i1 b1) i2 b2) i3 b3) i4 b4).toArray).all fun i=>(i == i1&&(!b1&&((q1 false b2 b3 b4&&c false b2 b3 b4)&&c true b2 b3 b4)))||(i == i2&&(!b2&&((q2 b1 false b3 b4&&c b1 false b3 b4)&&c b1 true b3 b4)))||(i == i3&&(!b3&&((q3 b1 b2 false b4&&c b1 b2 false b4)&&c b1 b2 true b4)))||(i == i4&&(!b4&&((q4 b1 b2 b3 false&&c b1 b2 b3 false)&&c b1 b2 b3 true))))=true):=by decide +kernel) (hc0:c false false false false=true:=by rfl)
 (hf:fuel2=fuel+4:=by rfl) (hn:i1≠i2∧i1≠i3∧i1≠i4∧i2≠i3∧i2≠i4∧i3≠i4:=by decide) (hl0:(List.set (List.set (List.set (List.set listed i1 false) i2 false) i3 false) i4 false)=listed:=by rfl) (ht0:(List.set (List.set (List.set ts d1 (List.getD ts d1 undef)) d2 (List.getD ts d2 undef)) d3 (List.getD ts d3 undef))=ts:=by rfl)
 : wpAnyH P .any l.toArray Q S fuel2 listed.toArray (Act.mk ts.toArray df) w:=by
 obtain ⟨e1,e2,e3,e4⟩:=hi
 obtain ⟨n1_2,n1_3,n1_4,n2_3,n2_4,n3_4⟩:=hn
 rw [hf]
 refine uB (Inv:=fun m L a w=>∃ b1 b2 b3 b4:Bool,∃ v1 v2 v3:Value,c b1 b2 b3 b4=true∧m=iB b1+iB b2+iB b3+iB b4∧L=(List.set (List.set (List.set (List.set listed i1 b1) i2 b2) i3 b3) i4 b4)∧a=Act.mk (List.set (List.set (List.set ts d1 v1) d2 v2) d3 v3).toArray df∧F b1 b2 b3 b4 v1 v2 v3 w) ?_ ?_ 4 listed _ w ⟨false,false,false,false,(List.getD ts d1 undef),(List.getD ts d2 undef),(List.getD ts d3 undef),hc0,by rfl,hl0.symm,by rw [ht0],hF⟩
 ·rintro m L a w ⟨b1,b2,b3,b4,v1,v2,v3,hcc,hm,rfl,rfl,hf⟩
  have hb:(b1&&b2&&b3&&b4)=false:=by
   cases hq:(b1&&b2&&b3&&b4) with
   | false=>rfl
   | true =>
    exfalso
    simp only [Bool.and_eq_true]at hq
    obtain ⟨⟨⟨p1,p2⟩,p3⟩,p4⟩:=hq
    subst p1 p2 p3 p4
    simp [iB]at hm
  have hr:=hr b1 b2 b3 b4 hcc hb
  simp only [Bool.and_eq_true,decide_eq_true_eq,List.all_eq_true,Bool.or_eq_true,beq_iff_eq,Bool.not_eq_true']at hr
  refine ⟨hr.1,fun i hi=>?_⟩
  rcases hr.2 i hi with (((⟨rfl,rfl,c1,cc1⟩|⟨rfl,rfl,c2,cc2⟩)|⟨rfl,rfl,c3,cc3⟩)|⟨rfl,rfl,c4,cc4⟩)
  ·refine wpOp_mono ?_ (dI (by simpa using e1) (h1 true b2 b3 b4 v1 v2 v3 w (Bool.and_eq_true_iff.2 c1) hf))
   rintro a w2 ⟨hS,u,rfl,hf2⟩
   refine ⟨hS,true,b2,b3,b4,u,v2,v3,cc1,?_,?_,rfl,hf2⟩
   ·simp only [iB,Bool.false_eq_true,if_true,if_false]at hm ⊢;omega
   ·rw [List.set_comm _ _ n1_4.symm,List.set_comm _ _ n1_3.symm,List.set_comm _ _ n1_2.symm,List.set_set]
  ·refine wpOp_mono ?_ (dI (by simpa using e2) (h2 b1 true b3 b4 v1 v2 v3 w (Bool.and_eq_true_iff.2 c2) hf))
   rintro a w2 ⟨hS,u,rfl,hf2⟩
   refine ⟨hS,b1,true,b3,b4,v1,u,v3,cc2,?_,?_,rfl,hf2⟩
   ·simp only [iB,Bool.false_eq_true,if_true,if_false]at hm ⊢;omega
   ·rw [List.set_comm _ _ n2_4.symm,List.set_comm _ _ n2_3.symm,List.set_set]
  ·refine wpOp_mono ?_ (dI (by simpa using e3) (h3 b1 b2 true b4 v1 v2 v3 w (Bool.and_eq_true_iff.2 c3) hf))
   rintro a w2 ⟨hS,u,rfl,hf2⟩
   refine ⟨hS,b1,b2,true,b4,v1,v2,u,cc3,?_,?_,rfl,hf2⟩
   ·simp only [iB,Bool.false_eq_true,if_true,if_false]at hm ⊢;omega
   ·rw [List.set_comm _ _ n3_4.symm,List.set_set]
  ·refine wpOp_mono ?_ (dI (by simpa using e4) (h4 b1 b2 b3 true v1 v2 v3 w (Bool.and_eq_true_iff.2 c4) hf))
   rintro a w2 ⟨hS,rfl,hf2⟩
   refine ⟨hS,b1,b2,b3,true,v1,v2,v3,cc4,?_,?_,rfl,hf2⟩
   ·simp only [iB,Bool.false_eq_true,if_true,if_false]at hm ⊢;omega
   ·rw [List.set_set]
 ·rintro L a w ⟨b1,b2,b3,b4,v1,v2,v3,hcc,hm,rfl,rfl,hf⟩
  have p1:b1=true:=cI (by omega)
  have p2:b2=true:=cI (by omega)
  have p3:b3=true:=cI (by omega)
  have p4:b4=true:=cI (by omega)
  subst p1 p2 p3 p4
  exact hG v1 v2 v3 w hf
theorem UQ (i1 i2 i3 i4 i5:Nat) (d1 d2 d3 d4:Nat) (c q1 q2 q3 q4 q5:Bool→Bool→Bool→Bool→Bool→Bool) (F:Bool→Bool→Bool→Bool→Bool→Value→Value→Value→Value→World→Prop)
 {fuel2:Nat} {o1 o2 o3 o4 o5:Oper}
 (hF:F false false false false false (List.getD ts d1 undef) (List.getD ts d2 undef) (List.getD ts d3 undef) (List.getD ts d4 undef) w)
 (h1:∀ b1 b2 b3 b4 b5:Bool,∀ v1 v2 v3 v4:Value,∀ w1:World,(q1 false b2 b3 b4 b5&&c false b2 b3 b4 b5)=true→F false b2 b3 b4 b5 v1 v2 v3 v4 w1→wpList P l.toArray (pD Q fun a w2=>S w2∧∃ u,a=Act.mk (List.set (List.set (List.set (List.set ts d1 u) d2 v2) d3 v3) d4 v4).toArray df∧F true b2 b3 b4 b5 u v2 v3 v4 w2) [o1] (Act.mk (List.set (List.set (List.set (List.set ts d1 v1) d2 v2) d3 v3) d4 v4).toArray df) w1)
 (h2:∀ b1 b2 b3 b4 b5:Bool,∀ v1 v2 v3 v4:Value,∀ w1:World,(q2 b1 false b3 b4 b5&&c b1 false b3 b4 b5)=true→F b1 false b3 b4 b5 v1 v2 v3 v4 w1→wpList P l.toArray (pD Q fun a w2=>S w2∧∃ u,a=Act.mk (List.set (List.set (List.set (List.set ts d1 v1) d2 u) d3 v3) d4 v4).toArray df∧F b1 true b3 b4 b5 v1 u v3 v4 w2) [o2] (Act.mk (List.set (List.set (List.set (List.set ts d1 v1) d2 v2) d3 v3) d4 v4).toArray df) w1)
 (h3:∀ b1 b2 b3 b4 b5:Bool,∀ v1 v2 v3 v4:Value,∀ w1:World,(q3 b1 b2 false b4 b5&&c b1 b2 false b4 b5)=true→F b1 b2 false b4 b5 v1 v2 v3 v4 w1→wpList P l.toArray (pD Q fun a w2=>S w2∧∃ u,a=Act.mk (List.set (List.set (List.set (List.set ts d1 v1) d2 v2) d3 u) d4 v4).toArray df∧F b1 b2 true b4 b5 v1 v2 u v4 w2) [o3] (Act.mk (List.set (List.set (List.set (List.set ts d1 v1) d2 v2) d3 v3) d4 v4).toArray df) w1)
 (h4:∀ b1 b2 b3 b4 b5:Bool,∀ v1 v2 v3 v4:Value,∀ w1:World,(q4 b1 b2 b3 false b5&&c b1 b2 b3 false b5)=true→F b1 b2 b3 false b5 v1 v2 v3 v4 w1→wpList P l.toArray (pD Q fun a w2=>S w2∧∃ u,a=Act.mk (List.set (List.set (List.set (List.set ts d1 v1) d2 v2) d3 v3) d4 u).toArray df∧F b1 b2 b3 true b5 v1 v2 v3 u w2) [o4] (Act.mk (List.set (List.set (List.set (List.set ts d1 v1) d2 v2) d3 v3) d4 v4).toArray df) w1)
 (h5:∀ b1 b2 b3 b4 b5:Bool,∀ v1 v2 v3 v4:Value,∀ w1:World,(q5 b1 b2 b3 b4 false&&c b1 b2 b3 b4 false)=true→F b1 b2 b3 b4 false v1 v2 v3 v4 w1→wpList P l.toArray (pD Q fun a w2=>S w2∧a=Act.mk (List.set (List.set (List.set (List.set ts d1 v1) d2 v2) d3 v3) d4 v4).toArray df∧F b1 b2 b3 b4 true v1 v2 v3 v4 w2) [o5] (Act.mk (List.set (List.set (List.set (List.set ts d1 v1) d2 v2) d3 v3) d4 v4).toArray df) w1)
 (hG:∀ v1 v2 v3 v4:Value,∀ w1:World,F true true true true true v1 v2 v3 v4 w1→wpAnyH P .any l.toArray Q S fuel (List.set (List.set (List.set (List.set (List.set listed i1 true) i2 true) i3 true) i4 true) i5 true).toArray (Act.mk (List.set (List.set (List.set (List.set ts d1 v1) d2 v2) d3 v3) d4 v4).toArray df) w1)
 (hi:l[i1]? = some o1∧l[i2]? = some o2∧l[i3]? = some o3∧l[i4]? = some o4∧l[i5]? = some o5:=by refine ⟨rfl,rfl,rfl,rfl,rfl⟩)
 (hr:(∀ b1 b2 b3 b4 b5:Bool,c b1 b2 b3 b4 b5=true→(b1&&b2&&b3&&b4&&b5)=false→(decide (0<(Region.ready .any l.toArray (List.set (List.set (List.set (List.set (List.set listed i1 b1) i2 b2) i3 b3) i4 b4) i5 b5).toArray).length)&&(Region.ready .any l.toArray (List.set (List.set (List.set (List.set (List.set listed i1 b1) i2 b2) i3 b3) i4 b4) i5 b5).toArray).all fun i=>(i == i1&&(!b1&&((q1 false b2 b3 b4 b5&&c false b2 b3 b4 b5)&&c true b2 b3 b4 b5)))||(i == i2&&(!b2&&((q2 b1 false b3 b4 b5&&c b1 false b3 b4 b5)&&c b1 true b3 b4 b5)))||(i == i3&&(!b3&&((q3 b1 b2 false b4 b5&&c b1 b2 false b4 b5)&&c b1 b2 true b4 b5)))||(i == i4&&(!b4&&((q4 b1 b2 b3 false b5&&c b1 b2 b3 false b5)&&c b1 b2 b3 true b5)))||(i == i5&&(!b5&&((q5 b1 b2 b3 b4 false&&c b1 b2 b3 b4 false)&&c b1 b2 b3 b4 true))))=true):=by decide +kernel) (hc0:c false false false false false=true:=by rfl)
 (hf:fuel2=fuel+5:=by rfl) (hn:i1≠i2∧i1≠i3∧i1≠i4∧i1≠i5∧i2≠i3∧i2≠i4∧i2≠i5∧i3≠i4∧i3≠i5∧i4≠i5:=by decide) (hl0:(List.set (List.set (List.set (List.set (List.set listed i1 false) i2 false) i3 false) i4 false) i5 false)=listed:=by rfl) (ht0:(List.set (List.set (List.set (List.set ts d1 (List.getD ts d1 undef)) d2 (List.getD ts d2 undef)) d3 (List.getD ts d3 undef)) d4 (List.getD ts d4 undef))=ts:=by rfl)
 : wpAnyH P .any l.toArray Q S fuel2 listed.toArray (Act.mk ts.toArray df) w:=by
 obtain ⟨e1,e2,e3,e4,e5⟩:=hi
 obtain ⟨n1_2,n1_3,n1_4,n1_5,n2_3,n2_4,n2_5,n3_4,n3_5,n4_5⟩:=hn
 rw [hf]
 refine uB (Inv:=fun m L a w=>∃ b1 b2 b3 b4 b5:Bool,∃ v1 v2 v3 v4:Value,c b1 b2 b3 b4 b5=true∧m=iB b1+iB b2+iB b3+iB b4+iB b5∧L=(List.set (List.set (List.set (List.set (List.set listed i1 b1) i2 b2) i3 b3) i4 b4) i5 b5)∧a=Act.mk (List.set (List.set (List.set (List.set ts d1 v1) d2 v2) d3 v3) d4 v4).toArray df∧F b1 b2 b3 b4 b5 v1 v2 v3 v4 w) ?_ ?_ 5 listed _ w ⟨false,false,false,false,false,(List.getD ts d1 undef),(List.getD ts d2 undef),(List.getD ts d3 undef),(List.getD ts d4 undef),hc0,by rfl,hl0.symm,by rw [ht0],hF⟩
 ·rintro m L a w ⟨b1,b2,b3,b4,b5,v1,v2,v3,v4,hcc,hm,rfl,rfl,hf⟩
  have hb:(b1&&b2&&b3&&b4&&b5)=false:=by
   cases hq:(b1&&b2&&b3&&b4&&b5) with
   | false=>rfl
   | true =>
    exfalso
    simp only [Bool.and_eq_true]at hq
    obtain ⟨⟨⟨⟨p1,p2⟩,p3⟩,p4⟩,p5⟩:=hq
    subst p1 p2 p3 p4 p5
    simp [iB]at hm
  have hr:=hr b1 b2 b3 b4 b5 hcc hb
  simp only [Bool.and_eq_true,decide_eq_true_eq,List.all_eq_true,Bool.or_eq_true,beq_iff_eq,Bool.not_eq_true']at hr
  refine ⟨hr.1,fun i hi=>?_⟩
  rcases hr.2 i hi with ((((⟨rfl,rfl,c1,cc1⟩|⟨rfl,rfl,c2,cc2⟩)|⟨rfl,rfl,c3,cc3⟩)|⟨rfl,rfl,c4,cc4⟩)|⟨rfl,rfl,c5,cc5⟩)
  ·refine wpOp_mono ?_ (dI (by simpa using e1) (h1 true b2 b3 b4 b5 v1 v2 v3 v4 w (Bool.and_eq_true_iff.2 c1) hf))
   rintro a w2 ⟨hS,u,rfl,hf2⟩
   refine ⟨hS,true,b2,b3,b4,b5,u,v2,v3,v4,cc1,?_,?_,rfl,hf2⟩
   ·simp only [iB,Bool.false_eq_true,if_true,if_false]at hm ⊢;omega
   ·rw [List.set_comm _ _ n1_5.symm,List.set_comm _ _ n1_4.symm,List.set_comm _ _ n1_3.symm,List.set_comm _ _ n1_2.symm,List.set_set]
  ·refine wpOp_mono ?_ (dI (by simpa using e2) (h2 b1 true b3 b4 b5 v1 v2 v3 v4 w (Bool.and_eq_true_iff.2 c2) hf))
   rintro a w2 ⟨hS,u,rfl,hf2⟩
   refine ⟨hS,b1,true,b3,b4,b5,v1,u,v3,v4,cc2,?_,?_,rfl,hf2⟩
   ·simp only [iB,Bool.false_eq_true,if_true,if_false]at hm ⊢;omega
   ·rw [List.set_comm _ _ n2_5.symm,List.set_comm _ _ n2_4.symm,List.set_comm _ _ n2_3.symm,List.set_set]
  ·refine wpOp_mono ?_ (dI (by simpa using e3) (h3 b1 b2 true b4 b5 v1 v2 v3 v4 w (Bool.and_eq_true_iff.2 c3) hf))
   rintro a w2 ⟨hS,u,rfl,hf2⟩
   refine ⟨hS,b1,b2,true,b4,b5,v1,v2,u,v4,cc3,?_,?_,rfl,hf2⟩
   ·simp only [iB,Bool.false_eq_true,if_true,if_false]at hm ⊢;omega
   ·rw [List.set_comm _ _ n3_5.symm,List.set_comm _ _ n3_4.symm,List.set_set]
  ·refine wpOp_mono ?_ (dI (by simpa using e4) (h4 b1 b2 b3 true b5 v1 v2 v3 v4 w (Bool.and_eq_true_iff.2 c4) hf))
   rintro a w2 ⟨hS,u,rfl,hf2⟩
   refine ⟨hS,b1,b2,b3,true,b5,v1,v2,v3,u,cc4,?_,?_,rfl,hf2⟩
   ·simp only [iB,Bool.false_eq_true,if_true,if_false]at hm ⊢;omega
   ·rw [List.set_comm _ _ n4_5.symm,List.set_set]
  ·refine wpOp_mono ?_ (dI (by simpa using e5) (h5 b1 b2 b3 b4 true v1 v2 v3 v4 w (Bool.and_eq_true_iff.2 c5) hf))
   rintro a w2 ⟨hS,rfl,hf2⟩
   refine ⟨hS,b1,b2,b3,b4,true,v1,v2,v3,v4,cc5,?_,?_,rfl,hf2⟩
   ·simp only [iB,Bool.false_eq_true,if_true,if_false]at hm ⊢;omega
   ·rw [List.set_set]
 ·rintro L a w ⟨b1,b2,b3,b4,b5,v1,v2,v3,v4,hcc,hm,rfl,rfl,hf⟩
  have p1:b1=true:=cI (by omega)
  have p2:b2=true:=cI (by omega)
  have p3:b3=true:=cI (by omega)
  have p4:b4=true:=cI (by omega)
  have p5:b5=true:=cI (by omega)
  subst p1 p2 p3 p4 p5
  exact hG v1 v2 v3 v4 w hf
theorem UR (i1 i2 i3 i4 i5 i6:Nat) (d1 d2 d3 d4 d5:Nat) (c q1 q2 q3 q4 q5 q6:Bool→Bool→Bool→Bool→Bool→Bool→Bool) (F:Bool→Bool→Bool→Bool→Bool→Bool→Value→Value→Value→Value→Value→World→Prop)
 {fuel2:Nat} {o1 o2 o3 o4 o5 o6:Oper}
 (hF:F false false false false false false (List.getD ts d1 undef) (List.getD ts d2 undef) (List.getD ts d3 undef) (List.getD ts d4 undef) (List.getD ts d5 undef) w)
 (h1:∀ b1 b2 b3 b4 b5 b6:Bool,∀ v1 v2 v3 v4 v5:Value,∀ w1:World,(q1 false b2 b3 b4 b5 b6&&c false b2 b3 b4 b5 b6)=true→F false b2 b3 b4 b5 b6 v1 v2 v3 v4 v5 w1→wpList P l.toArray (pD Q fun a w2=>S w2∧∃ u,a=Act.mk (List.set (List.set (List.set (List.set (List.set ts d1 u) d2 v2) d3 v3) d4 v4) d5 v5).toArray df∧F true b2 b3 b4 b5 b6 u v2 v3 v4 v5 w2) [o1] (Act.mk (List.set (List.set (List.set (List.set (List.set ts d1 v1) d2 v2) d3 v3) d4 v4) d5 v5).toArray df) w1)
 (h2:∀ b1 b2 b3 b4 b5 b6:Bool,∀ v1 v2 v3 v4 v5:Value,∀ w1:World,(q2 b1 false b3 b4 b5 b6&&c b1 false b3 b4 b5 b6)=true→F b1 false b3 b4 b5 b6 v1 v2 v3 v4 v5 w1→wpList P l.toArray (pD Q fun a w2=>S w2∧∃ u,a=Act.mk (List.set (List.set (List.set (List.set (List.set ts d1 v1) d2 u) d3 v3) d4 v4) d5 v5).toArray df∧F b1 true b3 b4 b5 b6 v1 u v3 v4 v5 w2) [o2] (Act.mk (List.set (List.set (List.set (List.set (List.set ts d1 v1) d2 v2) d3 v3) d4 v4) d5 v5).toArray df) w1)
 (h3:∀ b1 b2 b3 b4 b5 b6:Bool,∀ v1 v2 v3 v4 v5:Value,∀ w1:World,(q3 b1 b2 false b4 b5 b6&&c b1 b2 false b4 b5 b6)=true→F b1 b2 false b4 b5 b6 v1 v2 v3 v4 v5 w1→wpList P l.toArray (pD Q fun a w2=>S w2∧∃ u,a=Act.mk (List.set (List.set (List.set (List.set (List.set ts d1 v1) d2 v2) d3 u) d4 v4) d5 v5).toArray df∧F b1 b2 true b4 b5 b6 v1 v2 u v4 v5 w2) [o3] (Act.mk (List.set (List.set (List.set (List.set (List.set ts d1 v1) d2 v2) d3 v3) d4 v4) d5 v5).toArray df) w1)
 (h4:∀ b1 b2 b3 b4 b5 b6:Bool,∀ v1 v2 v3 v4 v5:Value,∀ w1:World,(q4 b1 b2 b3 false b5 b6&&c b1 b2 b3 false b5 b6)=true→F b1 b2 b3 false b5 b6 v1 v2 v3 v4 v5 w1→wpList P l.toArray (pD Q fun a w2=>S w2∧∃ u,a=Act.mk (List.set (List.set (List.set (List.set (List.set ts d1 v1) d2 v2) d3 v3) d4 u) d5 v5).toArray df∧F b1 b2 b3 true b5 b6 v1 v2 v3 u v5 w2) [o4] (Act.mk (List.set (List.set (List.set (List.set (List.set ts d1 v1) d2 v2) d3 v3) d4 v4) d5 v5).toArray df) w1)
 (h5:∀ b1 b2 b3 b4 b5 b6:Bool,∀ v1 v2 v3 v4 v5:Value,∀ w1:World,(q5 b1 b2 b3 b4 false b6&&c b1 b2 b3 b4 false b6)=true→F b1 b2 b3 b4 false b6 v1 v2 v3 v4 v5 w1→wpList P l.toArray (pD Q fun a w2=>S w2∧∃ u,a=Act.mk (List.set (List.set (List.set (List.set (List.set ts d1 v1) d2 v2) d3 v3) d4 v4) d5 u).toArray df∧F b1 b2 b3 b4 true b6 v1 v2 v3 v4 u w2) [o5] (Act.mk (List.set (List.set (List.set (List.set (List.set ts d1 v1) d2 v2) d3 v3) d4 v4) d5 v5).toArray df) w1)
 (h6:∀ b1 b2 b3 b4 b5 b6:Bool,∀ v1 v2 v3 v4 v5:Value,∀ w1:World,(q6 b1 b2 b3 b4 b5 false&&c b1 b2 b3 b4 b5 false)=true→F b1 b2 b3 b4 b5 false v1 v2 v3 v4 v5 w1→wpList P l.toArray (pD Q fun a w2=>S w2∧a=Act.mk (List.set (List.set (List.set (List.set (List.set ts d1 v1) d2 v2) d3 v3) d4 v4) d5 v5).toArray df∧F b1 b2 b3 b4 b5 true v1 v2 v3 v4 v5 w2) [o6] (Act.mk (List.set (List.set (List.set (List.set (List.set ts d1 v1) d2 v2) d3 v3) d4 v4) d5 v5).toArray df) w1)
 (hG:∀ v1 v2 v3 v4 v5:Value,∀ w1:World,F true true true true true true v1 v2 v3 v4 v5 w1→wpAnyH P .any l.toArray Q S fuel (List.set (List.set (List.set (List.set (List.set (List.set listed i1 true) i2 true) i3 true) i4 true) i5 true) i6 true).toArray (Act.mk (List.set (List.set (List.set (List.set (List.set ts d1 v1) d2 v2) d3 v3) d4 v4) d5 v5).toArray df) w1)
 (hi:l[i1]? = some o1∧l[i2]? = some o2∧l[i3]? = some o3∧l[i4]? = some o4∧l[i5]? = some o5∧l[i6]? = some o6:=by refine ⟨rfl,rfl,rfl,rfl,rfl,rfl⟩)
 (hr:(∀ b1 b2 b3 b4 b5 b6:Bool,c b1 b2 b3 b4 b5 b6=true→(b1&&b2&&b3&&b4&&b5&&b6)=false→(decide (0<(Region.ready .any l.toArray (List.set (List.set (List.set (List.set (List.set (List.set listed i1 b1) i2 b2) i3 b3) i4 b4) i5 b5) i6 b6).toArray).length)&&(Region.ready .any l.toArray (List.set (List.set (List.set (List.set (List.set (List.set listed i1 b1) i2 b2) i3 b3) i4 b4) i5 b5) i6 b6).toArray).all fun i=>(i == i1&&(!b1&&((q1 false b2 b3 b4 b5 b6&&c false b2 b3 b4 b5 b6)&&c true b2 b3 b4 b5 b6)))||(i == i2&&(!b2&&((q2 b1 false b3 b4 b5 b6&&c b1 false b3 b4 b5 b6)&&c b1 true b3 b4 b5 b6)))||(i == i3&&(!b3&&((q3 b1 b2 false b4 b5 b6&&c b1 b2 false b4 b5 b6)&&c b1 b2 true b4 b5 b6)))||(i == i4&&(!b4&&((q4 b1 b2 b3 false b5 b6&&c b1 b2 b3 false b5 b6)&&c b1 b2 b3 true b5 b6)))||(i == i5&&(!b5&&((q5 b1 b2 b3 b4 false b6&&c b1 b2 b3 b4 false b6)&&c b1 b2 b3 b4 true b6)))||(i == i6&&(!b6&&((q6 b1 b2 b3 b4 b5 false&&c b1 b2 b3 b4 b5 false)&&c b1 b2 b3 b4 b5 true))))=true):=by decide +kernel) (hc0:c false false false false false false=true:=by rfl)
 (hf:fuel2=fuel+6:=by rfl) (hn:i1≠i2∧i1≠i3∧i1≠i4∧i1≠i5∧i1≠i6∧i2≠i3∧i2≠i4∧i2≠i5∧i2≠i6∧i3≠i4∧i3≠i5∧i3≠i6∧i4≠i5∧i4≠i6∧i5≠i6:=by decide) (hl0:(List.set (List.set (List.set (List.set (List.set (List.set listed i1 false) i2 false) i3 false) i4 false) i5 false) i6 false)=listed:=by rfl) (ht0:(List.set (List.set (List.set (List.set (List.set ts d1 (List.getD ts d1 undef)) d2 (List.getD ts d2 undef)) d3 (List.getD ts d3 undef)) d4 (List.getD ts d4 undef)) d5 (List.getD ts d5 undef))=ts:=by rfl)
 : wpAnyH P .any l.toArray Q S fuel2 listed.toArray (Act.mk ts.toArray df) w:=by
 obtain ⟨e1,e2,e3,e4,e5,e6⟩:=hi
 obtain ⟨n1_2,n1_3,n1_4,n1_5,n1_6,n2_3,n2_4,n2_5,n2_6,n3_4,n3_5,n3_6,n4_5,n4_6,n5_6⟩:=hn
 rw [hf]
 refine uB (Inv:=fun m L a w=>∃ b1 b2 b3 b4 b5 b6:Bool,∃ v1 v2 v3 v4 v5:Value,c b1 b2 b3 b4 b5 b6=true∧m=iB b1+iB b2+iB b3+iB b4+iB b5+iB b6∧L=(List.set (List.set (List.set (List.set (List.set (List.set listed i1 b1) i2 b2) i3 b3) i4 b4) i5 b5) i6 b6)∧a=Act.mk (List.set (List.set (List.set (List.set (List.set ts d1 v1) d2 v2) d3 v3) d4 v4) d5 v5).toArray df∧F b1 b2 b3 b4 b5 b6 v1 v2 v3 v4 v5 w) ?_ ?_ 6 listed _ w ⟨false,false,false,false,false,false,(List.getD ts d1 undef),(List.getD ts d2 undef),(List.getD ts d3 undef),(List.getD ts d4 undef),(List.getD ts d5 undef),hc0,by rfl,hl0.symm,by rw [ht0],hF⟩
 ·rintro m L a w ⟨b1,b2,b3,b4,b5,b6,v1,v2,v3,v4,v5,hcc,hm,rfl,rfl,hf⟩
  have hb:(b1&&b2&&b3&&b4&&b5&&b6)=false:=by
   cases hq:(b1&&b2&&b3&&b4&&b5&&b6) with
   | false=>rfl
   | true =>
    exfalso
    simp only [Bool.and_eq_true]at hq
    obtain ⟨⟨⟨⟨⟨p1,p2⟩,p3⟩,p4⟩,p5⟩,p6⟩:=hq
    subst p1 p2 p3 p4 p5 p6
    simp [iB]at hm
  have hr:=hr b1 b2 b3 b4 b5 b6 hcc hb
  simp only [Bool.and_eq_true,decide_eq_true_eq,List.all_eq_true,Bool.or_eq_true,beq_iff_eq,Bool.not_eq_true']at hr
  refine ⟨hr.1,fun i hi=>?_⟩
  rcases hr.2 i hi with (((((⟨rfl,rfl,c1,cc1⟩|⟨rfl,rfl,c2,cc2⟩)|⟨rfl,rfl,c3,cc3⟩)|⟨rfl,rfl,c4,cc4⟩)|⟨rfl,rfl,c5,cc5⟩)|⟨rfl,rfl,c6,cc6⟩)
  ·refine wpOp_mono ?_ (dI (by simpa using e1) (h1 true b2 b3 b4 b5 b6 v1 v2 v3 v4 v5 w (Bool.and_eq_true_iff.2 c1) hf))
   rintro a w2 ⟨hS,u,rfl,hf2⟩
   refine ⟨hS,true,b2,b3,b4,b5,b6,u,v2,v3,v4,v5,cc1,?_,?_,rfl,hf2⟩
   ·simp only [iB,Bool.false_eq_true,if_true,if_false]at hm ⊢;omega
   ·rw [List.set_comm _ _ n1_6.symm,List.set_comm _ _ n1_5.symm,List.set_comm _ _ n1_4.symm,List.set_comm _ _ n1_3.symm,List.set_comm _ _ n1_2.symm,List.set_set]
  ·refine wpOp_mono ?_ (dI (by simpa using e2) (h2 b1 true b3 b4 b5 b6 v1 v2 v3 v4 v5 w (Bool.and_eq_true_iff.2 c2) hf))
   rintro a w2 ⟨hS,u,rfl,hf2⟩
   refine ⟨hS,b1,true,b3,b4,b5,b6,v1,u,v3,v4,v5,cc2,?_,?_,rfl,hf2⟩
   ·simp only [iB,Bool.false_eq_true,if_true,if_false]at hm ⊢;omega
   ·rw [List.set_comm _ _ n2_6.symm,List.set_comm _ _ n2_5.symm,List.set_comm _ _ n2_4.symm,List.set_comm _ _ n2_3.symm,List.set_set]
  ·refine wpOp_mono ?_ (dI (by simpa using e3) (h3 b1 b2 true b4 b5 b6 v1 v2 v3 v4 v5 w (Bool.and_eq_true_iff.2 c3) hf))
   rintro a w2 ⟨hS,u,rfl,hf2⟩
   refine ⟨hS,b1,b2,true,b4,b5,b6,v1,v2,u,v4,v5,cc3,?_,?_,rfl,hf2⟩
   ·simp only [iB,Bool.false_eq_true,if_true,if_false]at hm ⊢;omega
   ·rw [List.set_comm _ _ n3_6.symm,List.set_comm _ _ n3_5.symm,List.set_comm _ _ n3_4.symm,List.set_set]
  ·refine wpOp_mono ?_ (dI (by simpa using e4) (h4 b1 b2 b3 true b5 b6 v1 v2 v3 v4 v5 w (Bool.and_eq_true_iff.2 c4) hf))
   rintro a w2 ⟨hS,u,rfl,hf2⟩
   refine ⟨hS,b1,b2,b3,true,b5,b6,v1,v2,v3,u,v5,cc4,?_,?_,rfl,hf2⟩
   ·simp only [iB,Bool.false_eq_true,if_true,if_false]at hm ⊢;omega
   ·rw [List.set_comm _ _ n4_6.symm,List.set_comm _ _ n4_5.symm,List.set_set]
  ·refine wpOp_mono ?_ (dI (by simpa using e5) (h5 b1 b2 b3 b4 true b6 v1 v2 v3 v4 v5 w (Bool.and_eq_true_iff.2 c5) hf))
   rintro a w2 ⟨hS,u,rfl,hf2⟩
   refine ⟨hS,b1,b2,b3,b4,true,b6,v1,v2,v3,v4,u,cc5,?_,?_,rfl,hf2⟩
   ·simp only [iB,Bool.false_eq_true,if_true,if_false]at hm ⊢;omega
   ·rw [List.set_comm _ _ n5_6.symm,List.set_set]
  ·refine wpOp_mono ?_ (dI (by simpa using e6) (h6 b1 b2 b3 b4 b5 true v1 v2 v3 v4 v5 w (Bool.and_eq_true_iff.2 c6) hf))
   rintro a w2 ⟨hS,rfl,hf2⟩
   refine ⟨hS,b1,b2,b3,b4,b5,true,v1,v2,v3,v4,v5,cc6,?_,?_,rfl,hf2⟩
   ·simp only [iB,Bool.false_eq_true,if_true,if_false]at hm ⊢;omega
   ·rw [List.set_set]
 ·rintro L a w ⟨b1,b2,b3,b4,b5,b6,v1,v2,v3,v4,v5,hcc,hm,rfl,rfl,hf⟩
  have p1:b1=true:=cI (by omega)
  have p2:b2=true:=cI (by omega)
  have p3:b3=true:=cI (by omega)
  have p4:b4=true:=cI (by omega)
  have p5:b5=true:=cI (by omega)
  have p6:b6=true:=cI (by omega)
  subst p1 p2 p3 p4 p5 p6
  exact hG v1 v2 v3 v4 v5 w hf
end
theorem zDk {p:Prop} (h:p:=by decide +kernel):p:=h
theorem aC {p:Prop} (h:p:=by omega):p:=h
theorem aX {p:Prop} (h:p:=by simp):p:=h
theorem aK {p:Prop} (h:p:=by decide):p:=h
section
variable {P:Program} {ops:Array Oper} {Q:Exit→Act→World→Prop} {w:World} {rest:List Oper} {ts:List Value} {df:List Deferred} {d:Nat} {ty:TypeId} {ps:String} {af:Array Edge} {g:Option (Nat×Bool)} {tys:Array TypeId} {f:FuncId} {xs:List Operand} {vs:List Value}
theorem gS {R:Ending→World→Prop} (hc:Calls P f vs.toArray w R) (h:∀ e w',R e w'→∃ v,e=.returned v∧wpList P ops Q rest (Act.mk (ts.set d v).toArray df) w')
 (he:Enters P f:=by exact enters_of rfl rfl rfl) (hw:Region.wanted (Oper.mk (some d) (.call ⟨.value (.func f),xs.toArray,tys⟩) ty ps af g) (yielded ops ts.toArray)=true:=by rfl) (hxs:xs.map (Act.mk ts.toArray df).eval=vs:=by rfl) :
 wpList P ops Q (Oper.mk (some d) (.call ⟨.value (.func f),xs.toArray,tys⟩) ty ps af g::rest) (Act.mk ts.toArray df) w:=bF he hw hxs hc h
theorem Bz {R:Ending→World→Prop} {v:Value} {A G:World→Prop} (hc:Calls P f vs.toArray w R) (h:∀ w',A w'→G w')
 (he:Enters P f:=by exact enters_of rfl rfl rfl) (hw:Region.wanted (Oper.mk (some d) (.call ⟨.value (.func f),xs.toArray,tys⟩) ty ps af g) (yielded ops ts.toArray)=true:=by rfl) (hxs:xs.map (Act.mk ts.toArray df).eval=vs:=by rfl)
 (hR:(∀ e w',R e w'→e=.returned v∧A w')∧∀ w',wpList P ops Q rest (Act.mk (ts.set d v).toArray df) w'=G w':=by (refine ⟨?_,?_⟩;(rintro _ _ ⟨rfl,h1⟩;exact ⟨rfl,h1⟩);(intro w';(simp only [List.set_cons_succ,List.set_cons_zero,List.getD_cons_succ,List.getD_cons_zero,List.length_map,if_true,Bool.false_eq_true,if_false,Int.toNat_natCast,Int.toNat_zero,Int.toNat_one,Nat.zero_mul,Bool.not_true,Bool.not_false,decide_true,decide_false]);(with_reducible exact rfl)))) :
 wpList P ops Q (Oper.mk (some d) (.call ⟨.value (.func f),xs.toArray,tys⟩) ty ps af g::rest) (Act.mk ts.toArray df) w :=
 bF he hw hxs hc fun e w' h'=>by
  obtain ⟨h0,h1⟩:=hR.1 e w' h'
  exact ⟨v,h0,(hR.2 w').mpr (h w' h1)⟩
theorem eZ {R:Ending→World→Prop} {v:Value} {A B G:World→Prop} (hc:Calls P f vs.toArray w R) (h:∀ w',A w'→B w'→G w')
 (he:Enters P f:=by exact enters_of rfl rfl rfl) (hw:Region.wanted (Oper.mk (some d) (.call ⟨.value (.func f),xs.toArray,tys⟩) ty ps af g) (yielded ops ts.toArray)=true:=by rfl) (hxs:xs.map (Act.mk ts.toArray df).eval=vs:=by rfl)
 (hR:(∀ e w',R e w'→e=.returned v∧A w'∧B w')∧∀ w',wpList P ops Q rest (Act.mk (ts.set d v).toArray df) w'=G w':=by (refine ⟨?_,?_⟩;(rintro _ _ ⟨rfl,h1,h2⟩;exact ⟨rfl,h1,h2⟩);(intro w';(simp only [List.set_cons_succ,List.set_cons_zero,List.getD_cons_succ,List.getD_cons_zero,List.length_map,if_true,Bool.false_eq_true,if_false,Int.toNat_natCast,Int.toNat_zero,Int.toNat_one,Nat.zero_mul,Bool.not_true,Bool.not_false,decide_true,decide_false]);(with_reducible exact rfl)))) :
 wpList P ops Q (Oper.mk (some d) (.call ⟨.value (.func f),xs.toArray,tys⟩) ty ps af g::rest) (Act.mk ts.toArray df) w :=
 bF he hw hxs hc fun e w' h'=>by
  obtain ⟨h0,h1,h2⟩:=hR.1 e w' h'
  exact ⟨v,h0,(hR.2 w').mpr (h w' h1 h2)⟩
theorem Ca {R:Ending→World→Prop} {v:Value} {A B C G:World→Prop} (hc:Calls P f vs.toArray w R) (h:∀ w',A w'→B w'→C w'→G w')
 (he:Enters P f:=by exact enters_of rfl rfl rfl) (hw:Region.wanted (Oper.mk (some d) (.call ⟨.value (.func f),xs.toArray,tys⟩) ty ps af g) (yielded ops ts.toArray)=true:=by rfl) (hxs:xs.map (Act.mk ts.toArray df).eval=vs:=by rfl)
 (hR:(∀ e w',R e w'→e=.returned v∧A w'∧B w'∧C w')∧∀ w',wpList P ops Q rest (Act.mk (ts.set d v).toArray df) w'=G w':=by (refine ⟨?_,?_⟩;(rintro _ _ ⟨rfl,h1,h2,h3⟩;exact ⟨rfl,h1,h2,h3⟩);(intro w';(simp only [List.set_cons_succ,List.set_cons_zero,List.getD_cons_succ,List.getD_cons_zero,List.length_map,if_true,Bool.false_eq_true,if_false,Int.toNat_natCast,Int.toNat_zero,Int.toNat_one,Nat.zero_mul,Bool.not_true,Bool.not_false,decide_true,decide_false]);(with_reducible exact rfl)))) :
 wpList P ops Q (Oper.mk (some d) (.call ⟨.value (.func f),xs.toArray,tys⟩) ty ps af g::rest) (Act.mk ts.toArray df) w :=
 bF he hw hxs hc fun e w' h'=>by
  obtain ⟨h0,h1,h2,h3⟩:=hR.1 e w' h'
  exact ⟨v,h0,(hR.2 w').mpr (h w' h1 h2 h3)⟩
theorem wW {v:Value} (hc:Calls P f vs.toArray w (bC w v)) (h:∀ w',Ext w w'→wpList P ops Q rest (Act.mk (ts.set d v).toArray df) w')
 (he:Enters P f:=by exact enters_of rfl rfl rfl) (hw:Region.wanted (Oper.mk (some d) (.call ⟨.value (.func f),xs.toArray,tys⟩) ty ps af g) (yielded ops ts.toArray)=true:=by rfl) (hxs:xs.map (Act.mk ts.toArray df).eval=vs:=by rfl) :
 wpList P ops Q (Oper.mk (some d) (.call ⟨.value (.func f),xs.toArray,tys⟩) ty ps af g::rest) (Act.mk ts.toArray df) w:=bK he hw hxs hc h
theorem cB {v:Value} {G:World→Prop} (hc:Calls P f vs.toArray w (bC w v)) (h:∀ w',Ext w w'→G w')
 (he:Enters P f:=by exact enters_of rfl rfl rfl) (hw:Region.wanted (Oper.mk (some d) (.call ⟨.value (.func f),xs.toArray,tys⟩) ty ps af g) (yielded ops ts.toArray)=true:=by rfl) (hxs:xs.map (Act.mk ts.toArray df).eval=vs:=by rfl)
 (e:∀ w',wpList P ops Q rest (Act.mk (ts.set d v).toArray df) w'=G w':=by (intro w';(simp only [List.set_cons_succ,List.set_cons_zero,List.getD_cons_succ,List.getD_cons_zero,List.length_map,if_true,Bool.false_eq_true,if_false,Int.toNat_natCast,Int.toNat_zero,Int.toNat_one,Nat.zero_mul,Bool.not_true,Bool.not_false,decide_true,decide_false]);(with_reducible exact rfl))) :
 wpList P ops Q (Oper.mk (some d) (.call ⟨.value (.func f),xs.toArray,tys⟩) ty ps af g::rest) (Act.mk ts.toArray df) w:=bK he hw hxs hc fun w' x=>(e w').mpr (h w' x)
theorem gY {R:Value→World→Prop} (hc:Calls P f vs.toArray w (kZ w R)) (h:∀ v w',Ext w w'→R v w'→wpList P ops Q rest (Act.mk (ts.set d v).toArray df) w')
 (he:Enters P f:=by exact enters_of rfl rfl rfl) (hw:Region.wanted (Oper.mk (some d) (.call ⟨.value (.func f),xs.toArray,tys⟩) ty ps af g) (yielded ops ts.toArray)=true:=by rfl) (hxs:xs.map (Act.mk ts.toArray df).eval=vs:=by rfl) :
 wpList P ops Q (Oper.mk (some d) (.call ⟨.value (.func f),xs.toArray,tys⟩) ty ps af g::rest) (Act.mk ts.toArray df) w:=fV he hw hxs hc h
theorem sC {R:Value→World→Prop} {G:Value→World→Prop} (hc:Calls P f vs.toArray w (kZ w R)) (h:∀ v w',Ext w w'→R v w'→G v w')
 (he:Enters P f:=by exact enters_of rfl rfl rfl) (hw:Region.wanted (Oper.mk (some d) (.call ⟨.value (.func f),xs.toArray,tys⟩) ty ps af g) (yielded ops ts.toArray)=true:=by rfl) (hxs:xs.map (Act.mk ts.toArray df).eval=vs:=by rfl)
 (e:∀ v w',wpList P ops Q rest (Act.mk (ts.set d v).toArray df) w'=G v w':=by (intro v w';(simp only [List.set_cons_succ,List.set_cons_zero,List.getD_cons_succ,List.getD_cons_zero,List.length_map,if_true,Bool.false_eq_true,if_false,Int.toNat_natCast,Int.toNat_zero,Int.toNat_one,Nat.zero_mul,Bool.not_true,Bool.not_false,decide_true,decide_false]);(with_reducible exact rfl))) :
 wpList P ops Q (Oper.mk (some d) (.call ⟨.value (.func f),xs.toArray,tys⟩) ty ps af g::rest) (Act.mk ts.toArray df) w:=fV he hw hxs hc fun v w' x r=>(e v w').mpr (h v w' x r)
theorem dX {t:TypeId} {z:List Value} (h:∀ w',Ext w w'→w'.heap.size=w.heap.size+1→w'.heap[w.heap.size]? = some (.cells z.toArray t (0,0))→wpList P ops Q rest (Act.mk (ts.set d (.pointer (some ⟨w.heap.size,0,none⟩))).toArray df) w')
 (hw:Region.wanted (Oper.mk (some d) (.alloc t) ty ps af g) (yielded ops ts.toArray)=true:=by rfl) (hz:yU P t z=true:=by decide +kernel) :
 wpList P ops Q (Oper.mk (some d) (.alloc t) ty ps af g::rest) (Act.mk ts.toArray df) w:=JU hw hz h
theorem mW {t:TypeId} {x:Operand} {vs:List Value} (h:∀ p w',Ext w w'→Pts w' p vs→wpList P ops Q rest (Act.mk (ts.set d p).toArray df) w')
 (hw:Region.wanted (Oper.mk (some d) (.box t x) ty ps af g) (yielded ops ts.toArray)=true:=by rfl) (hx:((Act.mk ts.toArray df).eval x).cells=vs.toArray:=by rfl):wpList P ops Q (Oper.mk (some d) (.box t x) ty ps af g::rest) (Act.mk ts.toArray df) w:=UL hw hx h
theorem jO {t:TypeId} {x:Operand} {vs:List Value} (h:∀ w',Ext w w'→w'.heap.size=w.heap.size+1→w'.heap[w.heap.size]? = some (.cells vs.toArray t (0,0))→wpList P ops Q rest (Act.mk (ts.set d (.pointer (some ⟨w.heap.size,0,none⟩))).toArray df) w')
 (hw:Region.wanted (Oper.mk (some d) (.box t x) ty ps af g) (yielded ops ts.toArray)=true:=by rfl) (hx:((Act.mk ts.toArray df).eval x).cells=vs.toArray:=by rfl):wpList P ops Q (Oper.mk (some d) (.box t x) ty ps af g::rest) (Act.mk ts.toArray df) w:=PP hw hx h
theorem dL {t ty:TypeId} {x y:Operand} {b:Nat} {old:Array Value} {v:Value} {ty2:TypeId} (hb:w.heap[b]? = some (.cells old t (0,0))) (h1:v.cells.all (·.oneCell')=true)
 (h:∀ w',Put w w' b (.cells v.cells t (0,0))→wpList P ops Q rest (Act.mk ts.toArray df) w') (hw:Region.wanted (Oper.mk none (.store ty x y) ty2 ps af g) (yielded ops ts.toArray)=true:=by rfl)
 (hh:(Act.mk ts.toArray df).eval x=.pointer (some ⟨b,0,none⟩)∧(Act.mk ts.toArray df).eval y=v∧old.size=v.cells.size∧dG P ty v.cells.size=true:=by (refine ⟨rfl,rfl,rfl,?_⟩;kernel_rfl)) :
 wpList P ops Q (Oper.mk none (.store ty x y) ty2 ps af g::rest) (Act.mk ts.toArray df) w:=dB hw hh.1 hh.2.1 hb hh.2.2.2 hh.2.2.1 h1 h
theorem fA (n:Nat) {t ty:TypeId} {x y:Operand} {b:Nat} {cs:List Value} (v:Value) {ty2:TypeId} (hb:w.heap[b]? = some (.cells cs.toArray t (0,0))) (h1:v.oneCell'=true)
 (h:∀ w',Put w w' b (.cells (cs.set n v).toArray t (0,0))→wpList P ops Q rest (Act.mk ts.toArray df) w') (hw:Region.wanted (Oper.mk none (.store ty x y) ty2 ps af g) (yielded ops ts.toArray)=true:=by rfl)
 (hh:(Act.mk ts.toArray df).eval x=aV (.pointer (some ⟨b,0,none⟩)) n∧(Act.mk ts.toArray df).eval y=v∧n<cs.length∧dG P ty 1=true:=by (refine ⟨rfl,rfl,of_decide_eq_true rfl,?_⟩;decide +kernel)) :
 wpList P ops Q (Oper.mk none (.store ty x y) ty2 ps af g::rest) (Act.mk ts.toArray df) w:=iJ hb hw hh.1 hh.2.1 hh.2.2.1 hh.2.2.2 h1 h
theorem oD {t e k d n bytes:Nat} {xs:List Value} {parts:List (Nat×Operand)} (hc:∀ x∈xs,x.cells.size=k)
 (h:∀ v' w',Ext w w'→w'.heap.size=w.heap.size+1→Sl k w' v' (xs.map (·.cells.toList))→Own w.heap.size k e w' v' (xs.map (·.cells.toList))→wpList P ops Q rest (Act.mk (ts.set d v').toArray df) w')
 (hw:Region.wanted (Oper.mk (some d) (.buildSlice t n parts.toArray) ty ps af g) (yielded ops ts.toArray)=true:=by rfl)
 (hx:parts.map (fun p=>(p.1,(Act.mk ts.toArray df).eval p.2))=(xs.zipIdx 0).map fun p=>(p.2,p.1):=by rfl) (hn:n=xs.length:=by rfl) (ht:mE P t e k bytes=true:=by decide +kernel) (hk2:xs.length*k≤16777216:=by simp) :
 wpList P ops Q (Oper.mk (some d) (.buildSlice t n parts.toArray) ty ps af g::rest) (Act.mk ts.toArray df) w:=rO hw hx hn hc ht hk2 h
end
section
variable {P:Program} {Q:Exit→Act→World→Prop} {w:World} {k:Nat} {F:World→Prop} {l:List Oper} {ts:List Value} {df:List Deferred} {d:Nat} {ty:TypeId} {ps:String} {af:Array Edge} {g:Option (Nat×Bool)} {listed:List Bool} {fuel fuel2:Nat}
theorem oE {i:Nat} {op:Op} {v:Value} (hi:l[i]? = some (Oper.mk (some d) op ty ps af g)) (hfu:fuel2=fuel+1) (hy:∀ w',F w'→Runs P (Oper.mk (some d) op ty ps af g) (Act.mk ts.toArray df) w' v)
 (h:wT P Q k F l fuel (listed.set i true) (Act.mk (ts.set d v).toArray df) w) (hik:decide (i≠k)=true:=by decide +kernel) (hk:tU .any l.toArray l.length k i=true:=by decide +kernel) (hs:Region.noSelect l.toArray=true:=by decide +kernel) (hf:Region.free .any l.toArray listed.toArray i=true:=by decide +kernel) (hr:(Region.ready .any l.toArray listed.toArray).contains i=true:=by decide +kernel)
 (hw:Region.wanted (Oper.mk (some d) op ty ps af g) (yielded l.toArray ts.toArray)=true:=by rfl) (hQ:∀ c a w,Q (.panic c) (a.put (some d) v) w→Q (.panic c) a w:=by exact fun _ _ _ h=>h) :
 wT P Q k F l fuel2 listed (Act.mk ts.toArray df) w:=bT hi hfu hik hk hs hf hr hw hy hQ h
theorem yB {i:Nat} {op:Op} {v:Value} (hi:l[i]? = some (Oper.mk (some d) op ty ps af g)) (hfu:fuel2=fuel+1) (hy:∀ w',Runs P (Oper.mk (some d) op ty ps af g) (Act.mk ts.toArray df) w' v)
 (h:wT P Q k F l fuel (listed.set i true) (Act.mk (ts.set d v).toArray df) w) (hik:decide (i≠k)=true:=by rfl) (hs:Region.noSelect l.toArray=true:=by decide +kernel) (hf:Region.free .any l.toArray listed.toArray i=true:=by decide +kernel) (hr:(Region.ready .any l.toArray listed.toArray).contains i=true:=by decide +kernel)
 (hw:Region.wanted (Oper.mk (some d) op ty ps af g) (yielded l.toArray ts.toArray)=true:=by rfl) (hQ:∀ c a w,Q (.panic c) (a.put (some d) v) w→Q (.panic c) a w:=by exact fun _ _ _ h=>h) :
 wT P Q k F l fuel2 listed (Act.mk ts.toArray df) w:=jA hi hfu hik hs hf hr hw hy hQ h
theorem dH (i:Nat) {o:Oper} {a:Act} (h:wpList P l.toArray (pD Q fun a' w'=>Till k F (listed.set i true).toArray w'∧wT P Q k F l fuel (listed.set i true) a' w') [o] a w)
 (hr:Region.ready .any l.toArray listed.toArray=[i]:=by decide +kernel) (hh:l[i]? = some o∧fuel2=fuel+1:=by exact ⟨rfl,rfl⟩):wT P Q k F l fuel2 listed a w:=YZ hr hh.1 hh.2 h
theorem jP {a:Act} (h:Q .normal a w) (hr:Region.ready .any l.toArray listed.toArray=[]:=by decide +kernel):wT P Q k F l fuel listed a w:=PV hr h
end
section
variable {P:Program} {fn:Func} {R:Ending→World→Prop} {ts:List Value} {w:World} {p q:Tmp} {t:TypeId} {b:Nat} {ty0:TypeId} {fr:Nat×Nat}
theorem JR {cs:List Value} (hb:w.heap[b]? = some (.cells cs.toArray ty0 fr)) (hR:R (.returned (.agg cs.toArray)) w) (hh:fn.results=#[.cell p t]∧ts.getD p undef=.pointer (some ⟨b,0,none⟩)∧eF P t cs.length=true:=by (refine ⟨rfl,rfl,?_⟩;kernel_rfl)) :
 bodyPost P fn R .ret (Act.mk ts.toArray []) w:=bodyPost_ret (fG hh.1 hh.2.1 hb hh.2.2) rfl hR
theorem uC {cs:List Value} (hb:w.heap[b]? = some (.cells cs.toArray ty0 fr)) (hR:R (.returned (.tuple #[.agg cs.toArray,ts.getD q undef])) w) (hh:fn.results=#[.cell p t, .tmp q]∧ts.getD p undef=.pointer (some ⟨b,0,none⟩)∧eF P t cs.length=true:=by (refine ⟨rfl,rfl,?_⟩;kernel_rfl)) :
 bodyPost P fn R .ret (Act.mk ts.toArray []) w:=bodyPost_ret (fS hh.1 hh.2.1 hb hh.2.2) rfl hR
end
theorem cJ {a b c:World} {k:Nat} {o:Obj} (h:Ext a b) (p:Put b c k o) (hk:a.heap.size≤k:=by (first|exact Nat.le_refl _|assumption|exact Ext.size (by assumption)|omega)):Ext a c :=
 h.move p.mv (by rintro k ⟨⟩;exact hk)
theorem uD {k:Nat}:∀ (es:List (List Value)) (i:Nat),(∀ x∈es,x.length=k)→(es.take i).flatten=es.flatten.take (i*k)
 | [],i,_=>by simp
 | x::es,0,_=>by simp
 | x::es,i+1,h=>by
   have hx:=h x (by simp)
   have ih:=uD es i (fun y hy=>h y (by simp [hy]))
   rw [List.take_succ_cons,List.flatten_cons,List.flatten_cons,ih,show (i+1)*k=x.length+i*k by rw [hx,Nat.add_mul];omega,List.take_length_add_append]
theorem pG {k:Nat}:∀ (es:List (List Value)) (i:Nat),(∀ x∈es,x.length=k)→(es.drop i).flatten=es.flatten.drop (i*k)
 | [],i,_=>by simp
 | x::es,0,_=>by simp
 | x::es,i+1,h=>by
   have hx:=h x (by simp)
   have ih:=pG es i (fun y hy=>h y (by simp [hy]))
   rw [List.drop_succ_cons,List.flatten_cons,ih,show (i+1)*k=x.length+i*k by rw [hx,Nat.add_mul];omega,List.drop_length_add_append]
theorem NJ {α:Type} (c F:List α) (a n:Nat) (h:a+F.length≤n) (hn:n≤c.length):(c.take a++F++c.drop (a+F.length)).take n=(c.take n).take a++F++(c.take n).drop (a+F.length):=by
 have hA:(c.take a++F).length=a+F.length:=by simp;omega
 rw [List.take_append,hA,List.take_of_length_le (by omega),List.take_take,Nat.min_eq_left (by omega),List.drop_take]
theorem HL {α:Type} {z:List α} (hz:0<z.length):∀ (n i:Nat),i<n*z.length→(List.replicate n z).flatten[i]? = some (z[i % z.length]'(Nat.mod_lt _ hz))
 | 0,i,h=>by simp at h
 | n+1,i,h=>by
   rw [List.replicate_succ,List.flatten_cons,List.getElem?_append]
   split
   ·rename_i hi
    rw [List.getElem?_eq_getElem hi]
    simp only [Nat.mod_eq_of_lt hi]
   ·rename_i hi
    have hge:z.length≤i:=by omega
    rw [HL hz n (i - z.length) (by rw [Nat.add_mul]at h;omega)]
    have:(i - z.length) % z.length=i % z.length:=by rw [← Nat.mod_eq_sub_mod hge]
    simp only [this]
theorem Own.over {B k e g cap i:Nat} {w:World} {es fs:List (List Value)} (h:Own B k e w (.slice (some ⟨g,0,none⟩) es.length cap) es) (hi:i+fs.length≤es.length) (hf:∀ f∈fs,f.length=k) :
 ∃ cur fz,w.heap[g]? = some (.cells cur e fz)∧(fz.2≤fz.1∨cur.size≤fz.1)∧es.length≤cap∧i*k+fs.flatten.length≤es.length*k∧es.length*k≤cur.size ∧
   Own B k e (w.setRow g (cur.toList.take (i*k)++fs.flatten++cur.toList.drop (i*k+fs.flatten.length)).toArray) (.slice (some ⟨g,0,none⟩) es.length cap) (es.take i++fs++es.drop (i+fs.length)) ∧
   Mv (some g) w (w.setRow g (cur.toList.take (i*k)++fs.flatten++cur.toList.drop (i*k+fs.flatten.length)).toArray):=by
 rcases h.row.2 with ⟨h0,_⟩|⟨g',cap',cur,fz,hv,hb,hg,hfz,hnc,hcm,hcs,htake⟩
 ·cases h0
 ·simp only [Value.slice.injEq,Option.some.injEq,Addr.mk.injEq,and_true,true_and]at hv
  obtain ⟨rfl,rfl⟩:=hv
  have hall:=h.each
  have hfl:=aY hf
  have hil:i*k+fs.length*k≤es.length*k:=by rw [← Nat.add_mul];exact Nat.mul_le_mul_right k hi
  have hck:es.length*k≤cap*k:=Nat.mul_le_mul_right k hnc
  have hlen:(es.take i++fs++es.drop (i+fs.length)).length=es.length:=by simp;omega
  have hall2:∀ x∈es.take i++fs++es.drop (i+fs.length),x.length=k:=by
   intro x hx
   rcases List.mem_append.1 hx with hx|hx
   ·rcases List.mem_append.1 hx with hx|hx
    ·exact hall x (List.mem_of_mem_take hx)
    ·exact hf x hx
   ·exact hall x (List.mem_of_mem_drop hx)
  have hsz:(cur.toList.take (i*k)++fs.flatten++cur.toList.drop (i*k+fs.flatten.length)).length=cur.size:=by
   rw [List.length_append,List.length_append,List.length_take,List.length_drop,Array.length_toList,hfl,hcs];omega
  refine ⟨cur,fz,hg,hfz,hnc,by rw [hfl];exact hil,by rw [hcs];exact hck,⟨⟨?_, .inr ⟨g,cap,(cur.toList.take (i*k)++fs.flatten++cur.toList.drop (i*k+fs.flatten.length)).toArray,fz,?_,hb,setRow_heap w g cur _ e _ hg,?_,?_,hcm,?_,?_⟩⟩,hall2⟩,⟨rfl,rfl,rfl,by simp,fun k _ hk=>setRow_other w g k _ (fun e=>hk (by simp [e])),Nat.le_refl _⟩⟩
  ·rw [aY hall2]
  ·rw [hlen]
  ·rw [List.size_toArray,hsz];exact hfz
  ·rw [hlen];exact hnc
  ·rw [List.size_toArray,hsz];exact hcs
  ·rw [hlen,List.flatten_append,List.flatten_append,uD es i hall,pG es _ hall,← htake,List.toList_toArray]
   have e1:(i+fs.length)*k=i*k+fs.flatten.length:=by rw [hfl,Nat.add_mul]
   rw [e1]
   have hcl:cur.toList.length=cap*k:=by rw [← hcs];exact Array.length_toList
   exact NJ _ _ _ _ (by rw [hfl];exact hil) (by rw [hcl];exact hck)
theorem HM {z:List Value} (hz:0<z.length):∀ n,(madeCells z.toArray (n*z.length)).toList=(List.replicate n z).flatten:=by
 intro n
 apply List.ext_getElem?
 intro i
 have hl:(List.replicate n z).flatten.length=n*z.length:=by simp
 by_cases hi:i<n*z.length
 ·have h1:(madeCells z.toArray (n*z.length)).toList[i]? = some (z[i % z.length]'(Nat.mod_lt _ hz)):=by
   simp [madeCells,List.getElem?_range hi,Nat.mod_lt _ hz]
  rw [h1]
  symm
  exact HL hz n i hi
 ·rw [List.getElem?_eq_none (by simp [madeCells];omega),List.getElem?_eq_none (by rw [hl];omega)]
section
variable {P:Program} {ops:Array Oper} {Q:Exit→Act→World→Prop} {w:World} {rest:List Oper} {ts:List Value} {df:List Deferred} {ty:TypeId} {ps:String} {af:Array Edge}
end
section
variable {P:Program} {a:Act} {w:World} {d:Option Nat} {ty:TypeId} {ps:String} {af:Array Edge} {g:Option (Nat×Bool)}
theorem Runs.cutC {t:TypeId} {x lo hi:Operand} {k m n l c:Nat} {ad:Option Addr} (hx:a.eval x=.slice ad l c) (h1:a.eval lo=.int .i64 (m:Nat)) (h2:a.eval hi=.int .i64 (n:Nat)) (hmn:m≤n) (hn:n≤c) (ht:fC P t k=true) :
 Runs P (Oper.mk d (.slice t x (some lo) (some hi) none) ty ps af g) a w (.slice (if c=m then ad else ad.map (·.add (m*k))) (n - m) (c - m)):=by
 obtain ⟨e,ie,ht,hie,hz⟩:=eO ht
 constructor
 simp [execOp,hx,h1,h2,Instr.sliceAt,Instr.slice,run_underlying ht,Instr.sliceBounds,Instr.sliceBound,asIntOf,sizeOf,typeInfo,hie,hz,hmn,hn]
theorem Runs.cut3 {t:TypeId} {x lo hi mx:Operand} {k m n p l c:Nat} {ad:Option Addr} (hx:a.eval x=.slice ad l c) (h1:a.eval lo=.int .i64 (m:Nat)) (h2:a.eval hi=.int .i64 (n:Nat)) (h3:a.eval mx=.int .i64 (p:Nat)) (hmn:m≤n) (hn:n≤p) (hp:p≤c) (ht:fC P t k=true) :
 Runs P (Oper.mk d (.slice t x (some lo) (some hi) (some mx)) ty ps af g) a w (.slice (if p=m then ad else ad.map (·.add (m*k))) (n - m) (p - m)):=by
 obtain ⟨e,ie,ht,hie,hz⟩:=eO ht
 constructor
 simp [execOp,hx,h1,h2,h3,Instr.sliceAt,Instr.slice,run_underlying ht,Instr.sliceBounds,Instr.sliceBound,asIntOf,sizeOf,typeInfo,hie,hz,hmn,hn,hp]
theorem Runs.takeC {t:TypeId} {x hi:Operand} {k n l c:Nat} {ad:Option Addr} (hx:a.eval x=.slice ad l c) (h2:a.eval hi=.int .i64 (n:Nat)) (hn:n≤c) (ht:fC P t k=true) :
 Runs P (Oper.mk d (.slice t x none (some hi) none) ty ps af g) a w (.slice (if c=0 then ad else ad.map (·.add (0*k))) (n - 0) (c - 0)):=by
 obtain ⟨e,ie,ht,hie,hz⟩:=eO ht
 constructor
 simp [execOp,hx,h2,Instr.sliceAt,Instr.slice,run_underlying ht,Instr.sliceBounds,Instr.sliceBound,asIntOf,sizeOf,typeInfo,hie,hz,hn]
end
theorem Sl.news {k n cap:Nat} {w:World} {a:Addr} {fs:List (List Value)} (hx:Sl k w (.slice (some a) n cap) fs) (hk:0<k):∀ j u,fs.flatten[j]? = some u→w.cell? (a.add j)=some u:=by
 obtain ⟨ad,cap',he,h2,h3,h4,h5,h6⟩:=hx
 cases he
 intro j u hj
 by_cases hne:fs=[]
 ·subst hne;simp at hj
 ·obtain ⟨b,o,he,hc⟩:=h6 hne
  cases he
  have hlen:=aY h4
  have hjl:j<fs.length*k:=by rw [← hlen];exact (List.getElem?_eq_some_iff.1 hj).1
  have hdm:j=(j / k)*k+j % k:=by rw [Nat.mul_comm];exact (Nat.div_add_mod j k).symm
  have hlt:j / k<fs.length:=Nat.div_lt_of_lt_mul (by rw [Nat.mul_comm];exact hjl)
  have hml:j % k<(fs[j / k]).length:=by rw [h4 _ (List.getElem_mem hlt)];exact Nat.mod_lt _ hk
  have hf:=jX h4 (i:=j / k) (e:=fs[j / k]) (j:=j % k) (x:=(fs[j / k])[j % k]) (List.getElem?_eq_getElem hlt) (List.getElem?_eq_getElem hml)
  rw [← hdm,hj]at hf
  have:=hc (j / k) fs[j / k] (j % k) u (List.getElem?_eq_getElem hlt) (by rw [List.getElem?_eq_getElem hml];exact hf.symm)
  rw [cY]
  rw [Nat.add_assoc,← hdm]at this
  exact this
section
variable {P:Program} {ops:Array Oper} {Q:Exit→Act→World→Prop} {w:World} {rest:List Oper} {ts:List Value} {df:List Deferred} {ty:TypeId} {ps:String} {af:Array Edge}
theorem HN {t e k B g cap i j d:Nat} {x y:Operand} {es:List (List Value)} (hw:Own B k e w (.slice (some ⟨g,0,none⟩) es.length cap) es)
 (hx:(Act.mk ts.toArray df).eval x=.slice (some ⟨g,0,none⟩) i cap) {ad:Addr} {c:Nat} (hy:(Act.mk ts.toArray df).eval y=.slice (some ad) (es.length - j) c) (hs:Sl k w (.slice (some ad) (es.length - j) c) (es.drop j)) (hij:i≤j) (hj:j≤es.length) (h1:∀ f∈es,∀ u∈f,u.oneCell'=true)
 (h:∀ w',Own B k e w' (.slice (some ⟨g,0,none⟩) es.length cap) (es.take i++es.drop j++es.drop (i+(es.length - j)))→Mv (some g) w w'→wpList P ops Q rest (Act.mk (ts.set d (.slice (some ⟨g,0,none⟩) (i+(es.length - j)) cap)).toArray df) w')
 (ht:mE P t e k (jC P e)=true:=by decide +kernel) :
 wpList P ops Q (Oper.mk (some d) (.call ⟨.builtin .append,#[x,y],#[t,t]⟩) ty ps af none::rest) (Act.mk ts.toArray df) w:=by
 obtain ⟨hu,inf,z',hi,hzi,hzc,hsz,hb,hk⟩:=jY ht
 have hfl:(es.drop j).length=es.length - j:=by simp
 have hall:∀ f∈es.drop j,f.length=k:=fun f hf=>hw.each f (List.mem_of_mem_drop hf)
 obtain ⟨cur,fz,hg,hfz,hnc,h3,h4,ho,hm⟩:=hw.over (i:=i) (fs:=es.drop j) (by rw [hfl];omega) hall
 have hfl2:=aY hall
 have hr:=oH (P:=P) w t ty e inf hu hi g i cap cur fz hg hfz ad (es.length - j) c (es.drop j).flatten (by rw [hfl2,hfl,hsz]) (hs.news hk)
  (fun u hu'=>by obtain ⟨f,hf,hfu⟩:=List.mem_flatten.1 hu';exact h1 f (List.mem_of_mem_drop hf) u hfu) (by omega) (by rw [hsz];omega)
 rw [hsz]at hr
 rw [hfl]at ho
 refine nC rfl ?_ (h _ ho hm)
 simp [execOp,resolve,invoke,builtin,hx,hy,hr]
theorem zM {t e k B g cap m:Nat} {a:Act} {y:Operand} {z:List Value} {c:Nat} {es:List (List Value)} (hw:Own B k e w (.slice (some ⟨g,0,none⟩) es.length cap) es)
 (hy:a.eval y=.slice (some ⟨g,m*k,none⟩) (es.length - m) c) (hm:m<es.length)
 (h:∀ w',Own B k e w' (.slice (some ⟨g,0,none⟩) m cap) (es.take m)→Mv (some g) w w'→wpList P ops Q rest a w')
 (ht:mE P t e k (jC P e)=true:=by decide +kernel) (hz:yU P e z=true:=by decide +kernel) (hzl:z.length=k:=by rfl) (h1:∀ u∈z,u.oneCell'=true:=by decide +kernel) :
 wpList P ops Q (Oper.mk none (.call ⟨.builtin .clear,#[y],#[t]⟩) ty ps af none::rest) a w:=by
 obtain ⟨hu,inf,z',hi,hzi,hzc,hsz,hb,hk⟩:=jY ht
 obtain ⟨i2,v2,hi2,hz2,hc2⟩:=wO hz
 rw [hi]at hi2;cases hi2
 rw [hzi]at hz2;cases hz2
 have hall:∀ f∈List.replicate (es.length - m) z,f.length=k:=by intro f hf;rw [List.eq_of_mem_replicate hf];exact hzl
 obtain ⟨cur,fz,hg,hfz,hnc,h3,h4,ho,hmv⟩:=hw.over (i:=m) (fs:=List.replicate (es.length - m) z) (by simp;omega) hall
 have hcells:(Builtin.zeroCells z.toArray (es.length - m)).toList=(List.replicate (es.length - m) z).flatten:=by
  have:=HM (z:=z) (by omega) (es.length - m)
  rw [← this]
  simp [Builtin.zeroCells,madeCells]
 have hst:=eC P g (m*k) e fz (List.replicate (es.length - m) z).flatten 0 cur w hg hfz (by omega) (by
  intro u hu'
  obtain ⟨f,hf,hfu⟩:=List.mem_flatten.1 hu'
  rw [List.eq_of_mem_replicate hf]at hfu
  exact h1 u hfu)
 simp only [Nat.add_zero]at hst
 obtain ⟨n',hn'⟩:∃ n',es.length - m=n'+1:=⟨es.length - m - 1,by omega⟩
 have hr:(Builtin.clear_ #[t] ty #[.slice (some ⟨g,m*k,none⟩) (es.length - m) c]).run P w=.ok (.tuple #[]) (w.setRow g (cur.toList.take (m*k)++(List.replicate (es.length - m) z).flatten++cur.toList.drop (m*k+(List.replicate (es.length - m) z).flatten.length)).toArray):=by
  rw [hn']at hcells hst ⊢
  simp [Builtin.clear_,run_underlying hu,zeroValue,typeInfo,hi,hzi,hc2,hcells,hst]
 have htk:(es.take m++List.replicate (es.length - m) z++es.drop (m+(List.replicate (es.length - m) z).length)).take m=es.take m:=by
  rw [List.append_assoc,List.take_append_of_le_length (by simp;omega),List.take_take,Nat.min_self]
 have hs:=ho.short (m:=m) (by simp;omega)
 rw [htk]at hs
 refine wpList_plain rfl fun K hK=>?_
 unfold Oper.wp execOp
 simp only [resolve,invoke,builtin,Sem.run_bind,Sem.run_pure,Result.andThen_ok,List.map_toArray,List.map_cons,List.map_nil,hy,hr]
 exact hK _ _ (h _ hs hmv)
end
theorem XG {G A:Prop} (hA:A) (e:Hid A→G:=by (intro kA;(repeat' first|((with_reducible refine aZ ?_);go_step)|((with_reducible refine aS ?_);refine dU ?_)|fail);(with_reducible exact kA.out))):G:=e ⟨hA⟩
theorem vO {G A:Prop} (hA:A) (e:Hid A→G:=by (intro kA;(try ((with_reducible refine EW ?_);refine UO ?_));(with_reducible exact kA.out))):G:=e ⟨hA⟩
theorem XH {G A:Prop} (hA:A) (e:Hid A→G:=by (intro kA;(repeat' (first|((with_reducible refine aZ ?_);go_step)|fail));(with_reducible exact kA.out))):G:=e ⟨hA⟩
theorem mT {G A:Prop} (hA:A) (e:Hid A→G:=by (intro kA;(repeat' (first|((with_reducible refine aZ ?_);go_step)|fail));(rename_i z0 z1;revert z0 z1;with_reducible exact kA.out))):G:=e ⟨hA⟩
theorem sF {G A:Prop} (hA:A) (e:Hid A→G:=by (intro kA;(repeat' (first|((with_reducible refine aZ ?_);go_step)|fail));(rename_i z0 z1 z2;revert z0 z1 z2;with_reducible exact kA.out))):G:=e ⟨hA⟩
theorem cL {G A:Prop} (hA:A) (e:Hid A→G:=by (intro kA;(repeat' first|((with_reducible refine aZ ?_);go_step)|((with_reducible refine aS ?_);first|refine dU ?_|(refine bG ?_ ?_<;>intro _))|fail);(with_reducible exact kA.out))):G:=e ⟨hA⟩
theorem yL {G A:Prop} (hA:A) (e:Hid A→G:=by (intro kA;(repeat' first|((with_reducible refine aZ ?_);go_step)|((with_reducible refine aS ?_);first|refine dU ?_|(refine bG ?_ ?_<;>intro _))|fail);(rename_i z0;revert z0;with_reducible exact kA.out))):G:=e ⟨hA⟩
theorem KB {G A B:Prop} (hB:B) (hA:A) (e:Hid A→Hid B→G:=by (intro kA kB;(repeat' first|((with_reducible refine aZ ?_);go_step)|((with_reducible refine aS ?_);first|refine dU ?_|(refine bG ?_ ?_<;>intro _))|fail);(rename_i z0;revert z0;with_reducible exact kA.out);(rename_i z0;revert z0;with_reducible exact kB.out))):G:=e ⟨hA⟩ ⟨hB⟩
theorem PY {G A B:Prop} (hB:B) (hA:A) (e:Hid A→Hid B→G:=by (intro kA kB;(repeat' first|((with_reducible refine aZ ?_);go_step)|((with_reducible refine aS ?_);first|refine dU ?_|(refine bG ?_ ?_<;>intro _))|fail);(rename_i z0;revert z0;with_reducible exact kA.out);(rename_i z0 z1 z2;revert z0 z1 z2;with_reducible exact kB.out))):G:=e ⟨hA⟩ ⟨hB⟩
theorem XI {G A B C:Prop} (hB:B) (hC:C) (hA:A) (e:Hid A→Hid B→Hid C→G:=by (intro kA kB kC;(repeat' first|((with_reducible refine aZ ?_);go_step)|((with_reducible refine aS ?_);first|refine dU ?_|(refine bG ?_ ?_<;>intro _))|fail);(rename_i z0;revert z0;with_reducible exact kA.out);(rename_i z0 z1 z2 z3;revert z0 z1 z2 z3;with_reducible exact kB.out);(rename_i z0 z1;revert z0 z1;with_reducible exact kC.out))):G:=e ⟨hA⟩ ⟨hB⟩ ⟨hC⟩
theorem fN {G A:Prop} (hA:A) (e:Hid A→G:=by (intro kA;(repeat' first|((with_reducible refine aZ ?_);go_step)|((with_reducible refine aS ?_);first|refine dU ?_|(refine bG ?_ ?_<;>intro _))|fail);(rename_i z0 z1;revert z0 z1;with_reducible exact kA.out))):G:=e ⟨hA⟩
theorem XJ {G A B C:Prop} (hB:B) (hC:C) (hA:A) (e:Hid A→Hid B→Hid C→G:=by (intro kA kB kC;(repeat' first|((with_reducible refine aZ ?_);go_step)|((with_reducible refine aS ?_);first|refine dU ?_|(refine bG ?_ ?_<;>intro _))|fail);(rename_i z0 z1;revert z0 z1;with_reducible exact kA.out);(rename_i z0 z1;revert z0 z1;with_reducible exact kB.out);(rename_i z0;revert z0;with_reducible exact kC.out))):G:=e ⟨hA⟩ ⟨hB⟩ ⟨hC⟩
theorem LZ {G A:Prop} (hA:A) (e:Hid A→G:=by (intro kA;(repeat' first|((with_reducible refine aZ ?_);go_step)|((with_reducible refine aS ?_);first|refine dU ?_|(refine bG ?_ ?_<;>intro _))|fail);(rename_i z0 z1 z2;revert z0 z1 z2;with_reducible exact kA.out))):G:=e ⟨hA⟩
theorem PZ {G A B:Prop} (hB:B) (hA:A) (e:Hid A→Hid B→G:=by (intro kA kB;(repeat' first|((with_reducible refine aZ ?_);go_step)|((with_reducible refine aS ?_);first|refine dU ?_|(refine bG ?_ ?_<;>intro _))|fail);(rename_i z0 z1 z2;revert z0 z1 z2;with_reducible exact kA.out);(rename_i z0;revert z0;with_reducible exact kB.out))):G:=e ⟨hA⟩ ⟨hB⟩
theorem BW {G A:Prop} (hA:A) (e:Hid A→G:=by (intro kA;(repeat' first|((with_reducible refine aZ ?_);go_step)|((with_reducible refine aS ?_);first|refine dU ?_|(refine bG ?_ ?_<;>intro _))|fail);(rename_i z0 z1 z2 z3;revert z0 z1 z2 z3;with_reducible exact kA.out))):G:=e ⟨hA⟩
theorem US {G A B:Prop} (hB:B) (hA:A) (e:Hid A→Hid B→G:=by (intro kA kB;(repeat' first|((with_reducible refine aZ ?_);go_step)|((with_reducible refine aS ?_);first|refine dU ?_|(refine bG ?_ ?_<;>intro _))|fail);(rename_i z0 z1 z2 z3;revert z0 z1 z2 z3;with_reducible exact kA.out);(rename_i z0 z1;revert z0 z1;with_reducible exact kB.out))):G:=e ⟨hA⟩ ⟨hB⟩
theorem XK {G A B C:Prop} (hB:B) (hC:C) (hA:A) (e:Hid A→Hid B→Hid C→G:=by (intro kA kB kC;(repeat' first|((with_reducible refine aZ ?_);go_step)|((with_reducible refine aS ?_);first|refine dU ?_|(refine bG ?_ ?_<;>intro _))|fail);(rename_i z0 z1 z2 z3;revert z0 z1 z2 z3;with_reducible exact kA.out);(rename_i z0 z1;revert z0 z1;with_reducible exact kB.out);(rename_i z0;revert z0;with_reducible exact kC.out))):G:=e ⟨hA⟩ ⟨hB⟩ ⟨hC⟩
theorem Ec {G A:Prop} (hA:A) (e:Hid A→G:=by (intro kA;(repeat' first|((with_reducible refine aZ ?_);go_step)|((with_reducible refine aS ?_);first|refine dU ?_|(refine bG ?_ ?_<;>intro _))|fail);(rename_i z0 z1 z2 z3 z4;revert z0 z1 z2 z3 z4;with_reducible exact kA.out))):G:=e ⟨hA⟩
theorem Ei {G A B:Prop} (hB:B) (hA:A) (e:Hid A→Hid B→G:=by (intro kA kB;(repeat' first|((with_reducible refine aZ ?_);go_step)|((with_reducible refine aS ?_);first|refine dU ?_|(refine bG ?_ ?_<;>intro _))|fail);(rename_i z0 z1 z2 z3 z4;revert z0 z1 z2 z3 z4;with_reducible exact kA.out);(rename_i z0 z1 z2;revert z0 z1 z2;with_reducible exact kB.out))):G:=e ⟨hA⟩ ⟨hB⟩
theorem JS {G A:Prop} (hA:A) (e:Hid A→G:=by (intro kA;(repeat' first|((with_reducible refine aZ ?_);go_step)|((with_reducible refine aS ?_);first|refine dU ?_|(refine bG ?_ ?_<;>intro _))|fail);(rename_i z0 z1 z2 z3 z4 z5;revert z0 z1 z2 z3 z4 z5;with_reducible exact kA.out))):G:=e ⟨hA⟩
theorem aT {G A:Prop} (hA:A) (e:Hid A→G:=by (intro kA;(repeat' first|((with_reducible refine aZ ?_);go_step)|((with_reducible refine aS ?_);first|refine dN ?_|(refine bG ?_ ?_<;>intro _))|fail);(with_reducible exact kA.out))):G:=e ⟨hA⟩
theorem jQ {G A:Prop} (hA:A) (e:Hid A→G:=by (intro kA;(repeat' first|((with_reducible refine aZ ?_);go_step)|((with_reducible refine aS ?_);first|refine dN ?_|(refine bG ?_ ?_<;>intro _))|fail);(rename_i z0;revert z0;with_reducible exact kA.out))):G:=e ⟨hA⟩
theorem lP {G A B:Prop} (hB:B) (hA:A) (e:Hid A→Hid B→G:=by (intro kA kB;(repeat' first|((with_reducible refine aZ ?_);go_step)|((with_reducible refine aS ?_);first|refine dN ?_|(refine bG ?_ ?_<;>intro _))|fail);(rename_i z0;revert z0;with_reducible exact kA.out);(rename_i z0;revert z0;with_reducible exact kB.out))):G:=e ⟨hA⟩ ⟨hB⟩
theorem UT {G A B:Prop} (hB:B) (hA:A) (e:Hid A→Hid B→G:=by (intro kA kB;(repeat' first|((with_reducible refine aZ ?_);go_step)|((with_reducible refine aS ?_);first|refine dN ?_|(refine bG ?_ ?_<;>intro _))|fail);(rename_i z0;revert z0;with_reducible exact kA.out);(rename_i z0 z1 z2;revert z0 z1 z2;with_reducible exact kB.out))):G:=e ⟨hA⟩ ⟨hB⟩
theorem QA {G A B C:Prop} (hB:B) (hC:C) (hA:A) (e:Hid A→Hid B→Hid C→G:=by (intro kA kB kC;(repeat' first|((with_reducible refine aZ ?_);go_step)|((with_reducible refine aS ?_);first|refine dN ?_|(refine bG ?_ ?_<;>intro _))|fail);(rename_i z0;revert z0;with_reducible exact kA.out);(rename_i z0 z1 z2 z3;revert z0 z1 z2 z3;with_reducible exact kB.out);(rename_i z0 z1 z2 z3;revert z0 z1 z2 z3;with_reducible exact kC.out))):G:=e ⟨hA⟩ ⟨hB⟩ ⟨hC⟩
theorem bU {G A:Prop} (hA:A) (e:Hid A→G:=by (intro kA;(repeat' first|((with_reducible refine aZ ?_);go_step)|((with_reducible refine aS ?_);first|refine dN ?_|(refine bG ?_ ?_<;>intro _))|fail);(rename_i z0 z1;revert z0 z1;with_reducible exact kA.out))):G:=e ⟨hA⟩
theorem ZC {G A B:Prop} (hB:B) (hA:A) (e:Hid A→Hid B→G:=by (intro kA kB;(repeat' first|((with_reducible refine aZ ?_);go_step)|((with_reducible refine aS ?_);first|refine dN ?_|(refine bG ?_ ?_<;>intro _))|fail);(rename_i z0 z1;revert z0 z1;with_reducible exact kA.out);(rename_i z0;revert z0;with_reducible exact kB.out))):G:=e ⟨hA⟩ ⟨hB⟩
theorem lQ {G A:Prop} (hA:A) (e:Hid A→G:=by (intro kA;(repeat' first|((with_reducible refine aZ ?_);go_step)|((with_reducible refine aS ?_);first|refine dN ?_|(refine bG ?_ ?_<;>intro _))|fail);(rename_i z0 z1 z2;revert z0 z1 z2;with_reducible exact kA.out))):G:=e ⟨hA⟩
theorem HO {G A B:Prop} (hB:B) (hA:A) (e:Hid A→Hid B→G:=by (intro kA kB;(repeat' first|((with_reducible refine aZ ?_);go_step)|((with_reducible refine aS ?_);first|refine dN ?_|(refine bG ?_ ?_<;>intro _))|fail);(rename_i z0 z1 z2;revert z0 z1 z2;with_reducible exact kA.out);(rename_i z0;revert z0;with_reducible exact kB.out))):G:=e ⟨hA⟩ ⟨hB⟩
theorem BX {G A B:Prop} (hB:B) (hA:A) (e:Hid A→Hid B→G:=by (intro kA kB;(repeat' first|((with_reducible refine aZ ?_);go_step)|((with_reducible refine aS ?_);first|refine dN ?_|(refine bG ?_ ?_<;>intro _))|fail);(rename_i z0 z1 z2;revert z0 z1 z2;with_reducible exact kA.out);(rename_i z0 z1 z2;revert z0 z1 z2;with_reducible exact kB.out))):G:=e ⟨hA⟩ ⟨hB⟩
theorem KC {G A B C D:Prop} (hB:B) (hC:C) (hD:D) (hA:A) (e:Hid A→Hid B→Hid C→Hid D→G:=by (intro kA kB kC kD;(repeat' first|((with_reducible refine aZ ?_);go_step)|((with_reducible refine aS ?_);first|refine dN ?_|(refine bG ?_ ?_<;>intro _))|fail);(rename_i z0 z1 z2;revert z0 z1 z2;with_reducible exact kA.out);(rename_i z0 z1 z2 z3;revert z0 z1 z2 z3;with_reducible exact kB.out);(rename_i z0 z1 z2 z3 z4;revert z0 z1 z2 z3 z4;with_reducible exact kC.out);(rename_i z0 z1 z2 z3 z4;revert z0 z1 z2 z3 z4;with_reducible exact kD.out))):G:=e ⟨hA⟩ ⟨hB⟩ ⟨hC⟩ ⟨hD⟩
theorem mH {G A:Prop} (hA:A) (e:Hid A→G:=by (intro kA;(repeat' first|((with_reducible refine aZ ?_);go_step)|((with_reducible refine aS ?_);first|refine dN ?_|(refine bG ?_ ?_<;>intro _))|fail);(rename_i z0 z1 z2 z3;revert z0 z1 z2 z3;with_reducible exact kA.out))):G:=e ⟨hA⟩
theorem XL {G A B C:Prop} (hB:B) (hC:C) (hA:A) (e:Hid A→Hid B→Hid C→G:=by (intro kA kB kC;(repeat' first|((with_reducible refine aZ ?_);go_step)|((with_reducible refine aS ?_);first|refine dN ?_|(refine bG ?_ ?_<;>intro _))|fail);(rename_i z0 z1 z2 z3;revert z0 z1 z2 z3;with_reducible exact kA.out);(rename_i z0 z1;revert z0 z1;with_reducible exact kB.out);(rename_i z0;revert z0;with_reducible exact kC.out))):G:=e ⟨hA⟩ ⟨hB⟩ ⟨hC⟩
theorem EZ {G A:Prop} (hA:A) (e:Hid A→G:=by (intro kA;(repeat' first|((with_reducible refine aZ ?_);go_step)|((with_reducible refine aS ?_);first|refine dN ?_|(refine bG ?_ ?_<;>intro _))|fail);(rename_i z0 z1 z2 z3 z4;revert z0 z1 z2 z3 z4;with_reducible exact kA.out))):G:=e ⟨hA⟩
theorem Cb {G A B:Prop} (hB:B) (hA:A) (e:Hid A→Hid B→G:=by (intro kA kB;(repeat' first|((with_reducible refine aZ ?_);go_step)|((with_reducible refine aS ?_);first|refine dN ?_|(refine bG ?_ ?_<;>intro _))|fail);(rename_i z0 z1 z2 z3 z4;revert z0 z1 z2 z3 z4;with_reducible exact kA.out);(rename_i z0 z1 z2;revert z0 z1 z2;with_reducible exact kB.out))):G:=e ⟨hA⟩ ⟨hB⟩
theorem rR {G A:Prop} (hA:A) (e:Hid A→G:=by (intro kA;(repeat' first|((with_reducible refine aZ ?_);go_step)|((with_reducible refine aS ?_);first|refine dN ?_|(refine bG ?_ ?_<;>intro _))|fail);(rename_i z0 z1 z2 z3 z4 z5;revert z0 z1 z2 z3 z4 z5;with_reducible exact kA.out))):G:=e ⟨hA⟩
theorem Cc {G A B:Prop} (hB:B) (hA:A) (e:Hid A→Hid B→G:=by (intro kA kB;(repeat' first|((with_reducible refine aZ ?_);go_step)|((with_reducible refine aS ?_);first|refine dN ?_|(refine bG ?_ ?_<;>intro _))|fail);(rename_i z0 z1 z2 z3 z4 z5;revert z0 z1 z2 z3 z4 z5;with_reducible exact kA.out);(rename_i z0 z1 z2 z3 z4;revert z0 z1 z2 z3 z4;with_reducible exact kB.out))):G:=e ⟨hA⟩ ⟨hB⟩
theorem Ej {G A:Prop} (hA:A) (e:Hid A→G:=by (intro kA;(repeat' first|((with_reducible refine aZ ?_);go_step)|((with_reducible refine aS ?_);first|refine dN ?_|(refine bG ?_ ?_<;>intro _))|fail);(rename_i z0 z1 z2 z3 z4 z5 z6;revert z0 z1 z2 z3 z4 z5 z6;with_reducible exact kA.out))):G:=e ⟨hA⟩
end Go.Proofs.X
