/- Laws and walks that the proof of the statement is made of (part 13). -/
import Derived.Test.YtgljkfpcadempaaGreatP12
set_option linter.unusedSimpArgs false
set_option linter.unusedVariables false
namespace Go.Proofs.X
open Go.RowKit
end Go.Proofs.X
set_option linter.unusedSimpArgs false
set_option linter.unusedVariables false
namespace Go.Proofs.X
open Go.RowKit
set_option maxRecDepth 100000
theorem BP (nm:List UInt8) (w:World):Calls Tryz.prog 75 #[aI nm] w (bM w (.int .i64 (dM nm))):=by
 have h:=pE nm w
 rwa [show (if (aV nm).isSome then (0:Int) else 1)=dM nm by unfold dM;rfl] at h
theorem pU (n a b:Int) (w:World):Calls Tryz.prog 48 #[.int .i64 n, .int .i64 a, .int .i64 b] w (bM w (.bool (fJ n a b))):=by
 go_enter Tryz.func48,Tryz.ntmps48
 refine_lift CA (fun hc => ?_) (fun hc => ?_)
 all_goals
  go_ret
  refine ⟨?_,Ext.refl _⟩
  simp [fJ]
  omega
theorem yT (q:qS) (w:World):Calls Tryz.prog 46 #[.agg #[aI q.1, .int .i64 q.2]] w (bM w (.bool (tE q))):=by
 go_enter Tryz.func46,Tryz.ntmps46
 refine_lift lF fun _ _ => ?_
 refine bJ (vs:=[aI q.1, .int .i64 q.2]) rfl rfl ?_
 intro p w1 x1 hp
 refine aA ?_
 refine_lift dJ fun _ _ => ?_
 refine aD (enters_of Tryz.func65 rfl rfl) rfl rfl ((show Calls Tryz.prog 65 #[aI q.1] w1 (bM w1 (.int .i64 (dM q.1))) from RV q.1 w1)) ?_;intro w2 x2;refine aA ?_
 have hp2:=hp.ext x2
 by_cases hcE:dM q.1=0
 ·rw [hcE]
  refine_lift bG ?_
  refine aD (enters_of Tryz.func48 rfl rfl) rfl rfl (pU q.2 1 65535 _) ?_;intro w3 x3;refine aA ?_
  have hp3:=hp2.ext x3
  cases hw:fJ q.2 1 65535 with
  | false =>
   refine_lift bG ?_
   go_ret
   refine ⟨?_,(x1.trans x2).trans x3⟩
   simp only [fJ] at hw
   simp [tE,hcE,hw]
  | true =>
   refine_lift bG ?_
   go_ret
   refine ⟨?_,(x1.trans x2).trans x3⟩
   simp only [fJ] at hw
   simp [tE,hcE,hw]
 ·refine_lift CA (fun hc => ?_) (fun hc => ?_)
  all_goals first
   | (exfalso;contradiction)
   | skip
  go_ret
  refine ⟨?_,x1.trans x2⟩
  simp [tE,hcE]
theorem PM (r:Rec) (w:World):Calls Tryz.prog 103 #[.agg #[aI r.name, .int .i64 r.kind, .int .i64 r.ttl,aI r.data]] w (bM w (.bool (!decide (bC r=0)))):=by
 go_enter Tryz.func103,Tryz.ntmps103
 refine_lift lF fun _ _ => ?_
 refine bJ (vs:=[aI r.name, .int .i64 r.kind, .int .i64 r.ttl,aI r.data]) rfl rfl ?_
 intro p w1 x1 hp
 refine aA ?_
 refine_lift dJ fun _ _ => ?_
 refine aD (enters_of Tryz.func100 rfl rfl) rfl rfl (VO r _) ?_;intro w2 x2;refine aA ?_
 refine_lift bG ?_
 go_ret
 exact ⟨rfl,x1.trans x2⟩
theorem uE (v:Value) (l:List Rec) (w:World) (hv:Sl 4 w v (aO l)):Calls Tryz.prog 51 #[v] w (bM w (.bool (eW l))):=by
 have hlen:=aQ l
 go_enter Tryz.func51,Tryz.ntmps51
 refine_lift OO (fun hc => ?_) (fun _ _ hc => ?_)
 ·have h2:decide (l.length≤200)=true:=decide_eq_true (by omega)
  refine aD (enters_of Tryz.func102 rfl rfl) rfl rfl (vT v l _ (fun r => !decide (bC r=0)) _ hv (enters_of Tryz.func103 rfl rfl) (fun r _ w'=>PM r w')) ?_;intro w1 x1;refine aA ?_
  refine_lift bG ?_
  go_ret
  refine ⟨?_,x1⟩
  rw [eW,h2]
  rfl
 ·have h2:decide (l.length≤200)=false:=decide_eq_false (by omega)
  go_ret
  refine ⟨?_,Ext.refl _⟩
  rw [eW,h2]
  rfl
set_option maxHeartbeats 1000000 in
theorem BQ (q:qS) (w:World):Calls Tryz.prog 50 #[.agg #[aI q.1, .int .i64 q.2]] w (bM w (.bool (!tE q))):=by
 go_enter Tryz.func50,Tryz.ntmps50
 refine_lift lF fun _ _ => ?_
 refine bJ (vs:=[aI q.1, .int .i64 q.2]) rfl rfl ?_
 intro p w1 x1 hp
 refine aA ?_
 refine_lift dJ fun _ _ => ?_
 refine aD (enters_of Tryz.func46 rfl rfl) rfl rfl (yT q _) ?_;intro w2 x2;refine aA ?_
 refine_lift bG ?_
 go_ret
 exact ⟨rfl,x1.trans x2⟩
def QW (f:FuncId) (l:List qS) (p:qS→Bool):Prop:=∀ r ∈ l,∀ w',Calls Tryz.prog f #[.agg #[aI r.1, .int .i64 r.2]] w' (bM w' (.bool (p r)))
theorem kT {l:List qS} {k:Nat} (h:k < l.length):(cU l)[k]? = some [aI l[k].1, .int .i64 l[k].2]:=by
 simp [cU,List.getElem?_eq_getElem h]
set_option maxHeartbeats 3000000 in
theorem CU (v:Value) (l:List qS) (f:FuncId) (p:qS→Bool) (w:World) (hv:Sl 2 w v (cU l)) (he:Enters Tryz.prog f) (hf:QW f l p):Calls Tryz.prog 101 #[v, .func (.func f) #[] #[]] w (bM w (.int .i64 (oP p l))):=by
 have hle:=hv.le
 have hlen:=cI l
 go_enter Tryz.func101,Tryz.ntmps101
 refine_lift dJ fun _ _ => ?_
 go_loopw [5,8] (fun _ i wr=>∃ k:Nat,k≤l.length∧i=.int .i64 k∧Ext w wr∧(l.take k).any p=false) (fun _ i _=>l.length - (intOf i).toNat)
 case atStart=>exact ⟨0,Nat.zero_le _,rfl,Ext.refl _,rfl⟩
 case round =>
  obtain ⟨k,hk,rfl,hx,hall⟩:=hrel
  have hv2:=hv.ext hx
  by_cases hlt:k < l.length
  ·have hpe:=hv2.elem (kT hlt)
   refine_lift GI ?_;intro _ _ _ _ _ _
   refine fL he rfl rfl rfl (hf _ (List.getElem_mem hlt) _) ?_
   rintro e w2 ⟨rfl,x2⟩
   refine ⟨_,rfl,?_⟩
   refine aA ?_
   cases hp:p l[k] with
   | true =>
    refine_lift bG ?_
    go_ret
    exact ⟨by rw [CN hlt hall hp];rfl,hx.trans x2⟩
   | false =>
    refine_lift bG ?_
    exact ⟨⟨k + 1,by omega,by go_num,hx.trans x2,iL hlt hall hp⟩,by simp [intOf];omega⟩
  ·have:k=l.length:=by omega
   subst this
   rw [List.take_length] at hall
   refine_lift nK fun _ => ?_
   go_ret
   exact ⟨by rw [CO hall];rfl,hx⟩
theorem oK (v:Value) (l:List qS) (f:FuncId) (p:qS→Bool) (w:World) (hv:Sl 2 w v (cU l)) (he:Enters Tryz.prog f) (hf:QW f l p):Calls Tryz.prog 49 #[v, .func (.func f) #[] #[]] w (bM w (.bool (l.any p))):=by
 go_enter Tryz.func49,Tryz.ntmps49
 refine_lift dJ fun _ _ => ?_
 refine aD (enters_of Tryz.func101 rfl rfl) rfl rfl (CU v l f p _ hv he hf) ?_;intro w1 x1;refine aA ?_
 refine_lift bG ?_
 go_ret
 exact ⟨by rw [← wF];rfl,x1⟩
theorem jD {l:List qS} {b:Bool} (h:l.any (fun r => !tE r)=b):l.all tE = !b:=by
 rw [← h,List.all_eq_not_any_not]
set_option maxHeartbeats 3000000 in
theorem yU (m:MsgR) (q a u e:Value) (w:World) (hm:MsgV w m q a u e):Calls Tryz.prog 21 #[.agg (aW m q a u e).toArray] w (bM w (.int .i64 (dH m))):=by
 go_enter Tryz.func21,Tryz.ntmps21
 refine_lift lF fun _ _ => ?_
 refine bJ (vs:=aW m q a u e) rfl rfl ?_
 intro p w1 x1 hp
 refine aA ?_
 unfold aW at hp
 have hm0:=hm
 obtain ⟨hq0,ha0,hu0,he0⟩:=hm
 have hq1:=hq0.ext x1
 have hm:=hm0
 refine_lift dJ fun _ _ => ?_
 all_goals first
  | (exfalso;contradiction)
  | (exfalso;omega)
  | skip
 refine aD (enters_of Tryz.func48 rfl rfl) rfl rfl (pU m.id 0 65535 _) ?_;intro w2 x2;refine aA ?_
 have hx2:=(Ext.refl w1).trans x2
 have hp2:=hp.ext hx2
 cases h2:fJ m.id 0 65535 with
 | false =>
  refine_lift bG ?_
  all_goals first
   | (exfalso;contradiction)
   | (exfalso;omega)
   | skip
  go_ret
  refine ⟨?_,x1.trans hx2⟩
  simp [dH,h2]
 | true =>
  refine_lift bG ?_
  all_goals first
   | (exfalso;contradiction)
   | (exfalso;omega)
   | skip
  refine aD (enters_of Tryz.func48 rfl rfl) rfl rfl (pU m.op 0 15 _) ?_;intro w3 x3;refine aA ?_
  have hx3:=hx2.trans x3
  have hp3:=hp.ext hx3
  cases h3:fJ m.op 0 15 with
  | false =>
   refine_lift bG ?_
   all_goals first
    | (exfalso;contradiction)
    | (exfalso;omega)
    | skip
   go_ret
   refine ⟨?_,x1.trans hx3⟩
   simp [dH,h2,h3]
  | true =>
   refine_lift bG ?_
   all_goals first
    | (exfalso;contradiction)
    | (exfalso;omega)
    | skip
   refine aD (enters_of Tryz.func48 rfl rfl) rfl rfl (pU m.rcode 0 15 _) ?_;intro w4 x4;refine aA ?_
   have hx4:=hx3.trans x4
   have hp4:=hp.ext hx4
   cases h4:fJ m.rcode 0 15 with
   | false =>
    refine_lift bG ?_
    all_goals first
     | (exfalso;contradiction)
     | (exfalso;omega)
     | skip
    go_ret
    refine ⟨?_,x1.trans hx4⟩
    simp [dH,h2,h3,h4]
   | true =>
    by_cases hz:m.size=0
    ·clear hm0
     by_cases hl:m.qs.length≤10
     ·have hl0:((cU m.qs).length:Int)≤10:=by rw [cI];omega
      refine_lift LO (fun hc _ _ hc => ?_) (fun hc hc _ _ => ?_) (fun hc => ?_)
      all_goals first
       | (exfalso;contradiction)
       | (exfalso;omega)
       | skip
      refine aD (enters_of Tryz.func49 rfl rfl) rfl rfl (oK q m.qs _ (fun r => !tE r) _ ((hm.qs.ext x1).ext hx4) (enters_of Tryz.func50 rfl rfl) (fun r _ w'=>BQ r w')) ?_;intro w7 x7;refine aA ?_
      have hx7:=hx4.trans x7
      have hp7:=hp.ext hx7
      cases h7:m.qs.any (fun r => !tE r) with
      | true =>
       refine_lift bG ?_
       all_goals first
        | (exfalso;contradiction)
        | (exfalso;omega)
        | skip
       go_ret
       refine ⟨?_,x1.trans hx7⟩
       simp [dH,h2,h3,h4,hz,hl,jD h7]
      | false =>
       refine_lift xI fun _ _ _ _ => ?_
       all_goals first
        | (exfalso;contradiction)
        | (exfalso;omega)
        | skip
       refine aD (enters_of Tryz.func51 rfl rfl) rfl rfl (uE a m.an _ ((hm.an.ext x1).ext hx7)) ?_;intro w8 x8;refine aA ?_
       have hx8:=hx7.trans x8
       have hp8:=hp.ext hx8
       cases h8:eW m.an with
       | false =>
        refine_lift bG ?_
        all_goals first
         | (exfalso;contradiction)
         | (exfalso;omega)
         | skip
        go_ret
        refine ⟨?_,x1.trans hx8⟩
        simp [dH,h2,h3,h4,hz,hl,jD h7,h8]
       | true =>
        refine_lift bG ?_
        all_goals first
         | (exfalso;contradiction)
         | (exfalso;omega)
         | skip
        refine aD (enters_of Tryz.func51 rfl rfl) rfl rfl (uE u m.au _ ((hm.au.ext x1).ext hx8)) ?_;intro w9 x9;refine aA ?_
        have hx9:=hx8.trans x9
        have hp9:=hp.ext hx9
        cases h9:eW m.au with
        | false =>
         refine_lift bG ?_
         all_goals first
          | (exfalso;contradiction)
          | (exfalso;omega)
          | skip
         go_ret
         refine ⟨?_,x1.trans hx9⟩
         simp [dH,h2,h3,h4,hz,hl,jD h7,h8,h9]
        | true =>
         refine_lift bG ?_
         all_goals first
          | (exfalso;contradiction)
          | (exfalso;omega)
          | skip
         refine aD (enters_of Tryz.func51 rfl rfl) rfl rfl (uE e m.ex _ ((hm.ex.ext x1).ext hx9)) ?_;intro w10 x10;refine aA ?_
         have hx10:=hx9.trans x10
         have hp10:=hp.ext hx10
         cases h10:eW m.ex with
         | false =>
          refine_lift bG ?_
          all_goals first
           | (exfalso;contradiction)
           | (exfalso;omega)
           | skip
          go_ret
          refine ⟨?_,x1.trans hx10⟩
          simp [dH,h2,h3,h4,hz,hl,jD h7,h8,h9,h10]
         | true =>
          refine_lift bG ?_
          all_goals first
           | (exfalso;contradiction)
           | (exfalso;omega)
           | skip
          go_ret
          refine ⟨?_,x1.trans hx10⟩
          simp [dH,h2,h3,h4,hz,hl,jD h7,h8,h9,h10]
     ·have hl0:¬ ((cU m.qs).length:Int)≤10:=by rw [cI];omega
      refine_lift LO (fun hc _ _ hc => ?_) (fun hc hc _ _ => ?_) (fun hc => ?_)
      all_goals first
       | (exfalso;contradiction)
       | (exfalso;omega)
       | skip
      go_ret
      refine ⟨?_,x1.trans hx4⟩
      simp [dH,h2,h3,h4,hz,hl]
    ·clear hm0
     refine_lift LO (fun hc _ _ hc => ?_) (fun hc hc _ _ => ?_) (fun hc => ?_)
     all_goals first
      | (exfalso;contradiction)
      | (exfalso;omega)
      | skip
     refine aD (enters_of Tryz.func48 rfl rfl) rfl rfl (pU m.size 512 65535 _) ?_;intro w6 x6;refine aA ?_
     have hx6:=hx4.trans x6
     have hp6:=hp.ext hx6
     cases h6:fJ m.size 512 65535 with
     | false =>
      refine_lift bG ?_
      all_goals first
       | (exfalso;contradiction)
       | (exfalso;omega)
       | skip
      go_ret
      refine ⟨?_,x1.trans hx6⟩
      simp [dH,h2,h3,h4,hz,h6]
     | true =>
      by_cases hl:m.qs.length≤10
      ·have hl0:((cU m.qs).length:Int)≤10:=by rw [cI];omega
       refine_lift oZ (fun hc _ _ => ?_) (fun _ _ hc => ?_)
       all_goals first
        | (exfalso;contradiction)
        | (exfalso;omega)
        | skip
       refine aD (enters_of Tryz.func49 rfl rfl) rfl rfl (oK q m.qs _ (fun r => !tE r) _ ((hm.qs.ext x1).ext hx6) (enters_of Tryz.func50 rfl rfl) (fun r _ w'=>BQ r w')) ?_;intro w8 x8;refine aA ?_
       have hx8:=hx6.trans x8
       have hp8:=hp.ext hx8
       cases h8:m.qs.any (fun r => !tE r) with
       | true =>
        refine_lift bG ?_
        all_goals first
         | (exfalso;contradiction)
         | (exfalso;omega)
         | skip
        go_ret
        refine ⟨?_,x1.trans hx8⟩
        simp [dH,h2,h3,h4,hz,h6,hl,jD h8]
       | false =>
        refine_lift xI fun _ _ _ _ => ?_
        all_goals first
         | (exfalso;contradiction)
         | (exfalso;omega)
         | skip
        refine aD (enters_of Tryz.func51 rfl rfl) rfl rfl (uE a m.an _ ((hm.an.ext x1).ext hx8)) ?_;intro w9 x9;refine aA ?_
        have hx9:=hx8.trans x9
        have hp9:=hp.ext hx9
        cases h9:eW m.an with
        | false =>
         refine_lift bG ?_
         all_goals first
          | (exfalso;contradiction)
          | (exfalso;omega)
          | skip
         go_ret
         refine ⟨?_,x1.trans hx9⟩
         simp [dH,h2,h3,h4,hz,h6,hl,jD h8,h9]
        | true =>
         refine_lift bG ?_
         all_goals first
          | (exfalso;contradiction)
          | (exfalso;omega)
          | skip
         refine aD (enters_of Tryz.func51 rfl rfl) rfl rfl (uE u m.au _ ((hm.au.ext x1).ext hx9)) ?_;intro w10 x10;refine aA ?_
         have hx10:=hx9.trans x10
         have hp10:=hp.ext hx10
         cases h10:eW m.au with
         | false =>
          refine_lift bG ?_
          all_goals first
           | (exfalso;contradiction)
           | (exfalso;omega)
           | skip
          go_ret
          refine ⟨?_,x1.trans hx10⟩
          simp [dH,h2,h3,h4,hz,h6,hl,jD h8,h9,h10]
         | true =>
          refine_lift bG ?_
          all_goals first
           | (exfalso;contradiction)
           | (exfalso;omega)
           | skip
          refine aD (enters_of Tryz.func51 rfl rfl) rfl rfl (uE e m.ex _ ((hm.ex.ext x1).ext hx10)) ?_;intro w11 x11;refine aA ?_
          have hx11:=hx10.trans x11
          have hp11:=hp.ext hx11
          cases h11:eW m.ex with
          | false =>
           refine_lift bG ?_
           all_goals first
            | (exfalso;contradiction)
            | (exfalso;omega)
            | skip
           go_ret
           refine ⟨?_,x1.trans hx11⟩
           simp [dH,h2,h3,h4,hz,h6,hl,jD h8,h9,h10,h11]
          | true =>
           refine_lift bG ?_
           all_goals first
            | (exfalso;contradiction)
            | (exfalso;omega)
            | skip
           go_ret
           refine ⟨?_,x1.trans hx11⟩
           simp [dH,h2,h3,h4,hz,h6,hl,jD h8,h9,h10,h11]
      ·have hl0:¬ ((cU m.qs).length:Int)≤10:=by rw [cI];omega
       refine_lift oZ (fun hc _ _ => ?_) (fun _ _ hc => ?_)
       all_goals first
        | (exfalso;contradiction)
        | (exfalso;omega)
        | skip
       go_ret
       refine ⟨?_,x1.trans hx6⟩
       simp [dH,h2,h3,h4,hz,h6,hl]
set_option maxHeartbeats 1000000 in
theorem FQ (q:qS) (w:World):Calls Tryz.prog 72 #[.agg #[aI q.1, .int .i64 q.2]] w (bM w (.bool (tE q))):=by
 go_enter Tryz.func72,Tryz.ntmps72
 refine_lift lF fun _ _ => ?_
 refine bJ (vs:=[aI q.1, .int .i64 q.2]) rfl rfl ?_
 intro p w1 x1 hp
 refine aA ?_
 refine_lift dJ fun _ _ => ?_
 refine aD (enters_of Tryz.func75 rfl rfl) rfl rfl (BP q.1 w1) ?_;intro w2 x2;refine aA ?_
 have hp2:=hp.ext x2
 have hx2:=x1.trans x2
 by_cases hcE:dM q.1=0
 ·rw [hcE]
  refine_lift UA (fun hc hc => ?_) (fun hc => ?_) (fun hc hc => ?_)
  all_goals
   go_ret
   refine ⟨?_,hx2⟩
   simp [tE,hcE]
   omega
 ·refine_lift xH (fun hc hc hc => ?_) (fun hc hc => ?_) (fun hc => ?_) (fun hc hc hc => ?_)
  all_goals first
   | (exfalso;contradiction)
   | skip
  go_ret
  refine ⟨?_,hx2⟩
  simp [tE,hcE]
set_option maxHeartbeats 1000000 in
theorem HO (v:Value) (l:List Rec) (w:World) (hv:Sl 4 w v (aO l)) (hd:∀ r ∈ l,r.data.length≤4611686018427387904):Calls Tryz.prog 73 #[v] w (bM w (.bool (eW l))):=by
 have hlen:=aQ l
 have hle:=hv.le
 go_enter Tryz.func73,Tryz.ntmps73
 refine_lift JN (fun _ _ _ => ?_) (fun _ => ?_)
 ·have h2:decide (l.length≤200)=false:=decide_eq_false (by have:=‹200 < ((aO l).length:Int)›;omega)
  go_ret
  refine ⟨?_,Ext.refl _⟩
  rw [eW,h2]
  rfl
 ·have h2:decide (l.length≤200)=true:=decide_eq_true (by have:=‹((aO l).length:Int)≤200›;omega)
  go_loopw [3] (fun i wr=>∃ k:Nat,k≤l.length∧i=.int .i64 k∧Ext w wr∧(l.take k).any (fun r => !decide (bC r=0))=false) (fun i _=>l.length - (intOf i).toNat)
  case atStart=>exact ⟨0,Nat.zero_le _,rfl,Ext.refl _,rfl⟩
  case round =>
   obtain ⟨k,hk,rfl,hx,hall⟩:=hrel
   have hv2:=hv.ext hx
   by_cases hlt:k < l.length
   ·have h1:=hv2.elem (gJ hlt)
    have hdk:=hd _ (List.getElem_mem hlt)
    refine_lift GI ?_;intro _ _ _ _ _ _
    refine aD (enters_of Tryz.func131 rfl rfl) rfl rfl (EK l[k] _ hdk) ?_;intro w4 x4;refine aA ?_
    by_cases hc0:bC l[k]=0
    ·rw [hc0]
     refine_lift bG ?_
     exact ⟨⟨k + 1,by omega,rfl,hx.trans x4,iL hlt hall (by simp [hc0])⟩,by simp [intOf];omega⟩
    ·refine_lift CA (fun _ => ?_) (fun _ => ?_)
     all_goals first
      | (exfalso;have hh:=‹(!decide (bC l[k]=0))=false›;simp [hc0] at hh;done)
      | skip
     go_ret
     refine ⟨?_,hx.trans x4⟩
     have:l.any (fun r => !decide (bC r=0))=true:=List.any_eq_true.2 ⟨l[k],List.getElem_mem hlt,by simp [hc0]⟩
     rw [eW,this,Bool.not_true,Bool.and_false]
     rfl
   ·have hk2:k=l.length:=by omega
    subst hk2
    rw [List.take_length] at hall
    refine_lift nK fun _ => ?_
    go_ret
    refine ⟨?_,hx⟩
    rw [eW,h2,hall]
    rfl
set_option maxHeartbeats 4000000 in
theorem NG (m:MsgR) (q a u e:Value) (w:World) (hm:MsgV w m q a u e) (hd:∀ r,r ∈ m.an∨r ∈ m.au∨r ∈ m.ex→r.data.length≤4611686018427387904):Calls Tryz.prog 33 #[.agg (aW m q a u e).toArray] w (bM w (.int .i64 (dH m))):=by
 have hql:=cI m.qs
 have hqle:=hm.qs.le
 go_enter Tryz.func33,Tryz.ntmps33
 refine_lift lF fun _ _ => ?_
 refine bJ (vs:=aW m q a u e) rfl rfl ?_
 intro p w1 x1 hp
 refine aA ?_
 unfold aW at hp
 have hq1:=hm.qs.ext x1
 (repeat' first | ((with_reducible refine cY ?_);go_step) | ((with_reducible refine cJ ?_);first | refine iZ ?_ | (refine dD ?_ ?_ <;> intro hc)) | fail)
 all_goals try simp only [Bool.not_eq_true',decide_eq_false_iff_not,Bool.not_eq_false',decide_eq_true_eq] at *
 all_goals first
  | (go_ret
     refine ⟨?_,x1⟩
     rw [dH,if_neg (by simp only [fJ,Bool.and_eq_true,decide_eq_true_eq,Bool.or_eq_true];omega)]
     rfl)
  | skip
 all_goals
  have hA:(fJ m.id 0 65535 && fJ m.op 0 15 && fJ m.rcode 0 15 && (decide (m.size=0) || fJ m.size 512 65535))=true:=by
   simp only [fJ,Bool.and_eq_true,decide_eq_true_eq,Bool.or_eq_true];omega
  have hB:decide (m.qs.length≤10)=true:=decide_eq_true (by omega)
  have hC:dH m=if m.qs.all tE && (eW m.an && eW m.au && eW m.ex) then 0 else 1:=by
   rw [dH,hA,hB,Bool.true_and,Bool.true_and]
  clear hA hB
  go_loopw [3] (fun i wr=>∃ k:Nat,k≤m.qs.length∧i=.int .i64 k∧Ext w1 wr∧(m.qs.take k).all tE=true) (fun i _=>m.qs.length - (intOf i).toNat)
  case atStart=>exact ⟨0,Nat.zero_le _,rfl,Ext.refl _,rfl⟩
  case round =>
   obtain ⟨k,hk,rfl,hx,hall⟩:=hrel
   have hq2:=hq1.ext hx
   have hp2:=hp.ext hx
   by_cases hlt:k < m.qs.length
   ·have h1:=hq2.elem (kT hlt)
    refine_lift GI ?_;intro _ _ _ _ _ _
    refine aD (enters_of Tryz.func72 rfl rfl) rfl rfl (FQ m.qs[k] _) ?_;intro w4 x4;refine aA ?_
    cases hc0:tE m.qs[k] with
    | true =>
     refine_lift bG ?_
     exact ⟨⟨k + 1,by omega,rfl,hx.trans x4,lH hlt hall hc0⟩,by simp [intOf];omega⟩
    | false =>
     refine_lift bG ?_
     go_ret
     refine ⟨?_,x1.trans (hx.trans x4)⟩
     rw [hC,nM hlt hc0]
     rfl
   ·have hk2:k=m.qs.length:=by omega
    subst hk2
    rw [List.take_length] at hall
    rw [hall,Bool.true_and] at hC
    refine_lift LQ fun _ _ _ _ _ => ?_
    refine aD (enters_of Tryz.func73 rfl rfl) rfl rfl (HO a m.an _ ((hm.an.ext x1).ext hx) (fun r hr=>hd r (.inl hr))) ?_;intro w4 x4;refine aA ?_
    have hx4:=hx.trans x4
    have hp4:=hp.ext hx4
    cases h4:eW m.an with
    | false =>
     refine_lift bG ?_
     go_ret
     refine ⟨?_,x1.trans hx4⟩
     rw [hC,h4]
     rfl
    | true =>
     refine_lift bG ?_
     refine aD (enters_of Tryz.func73 rfl rfl) rfl rfl (HO u m.au _ ((hm.au.ext x1).ext hx4) (fun r hr=>hd r (.inr (.inl hr)))) ?_;intro w5 x5;refine aA ?_
     have hx5:=hx4.trans x5
     have hp5:=hp.ext hx5
     cases h5:eW m.au with
     | false =>
      refine_lift bG ?_
      go_ret
      refine ⟨?_,x1.trans hx5⟩
      rw [hC,h4,h5]
      rfl
     | true =>
      refine_lift bG ?_
      refine aD (enters_of Tryz.func73 rfl rfl) rfl rfl (HO e m.ex _ ((hm.ex.ext x1).ext hx5) (fun r hr=>hd r (.inr (.inr hr)))) ?_;intro w6 x6;refine aA ?_
      have hx6:=hx5.trans x6
      cases h6:eW m.ex with
      | false =>
       refine_lift bG ?_
       go_ret
       refine ⟨?_,x1.trans hx6⟩
       rw [hC,h4,h5,h6]
       rfl
      | true =>
       refine_lift bG ?_
       go_ret
       refine ⟨?_,x1.trans hx6⟩
       rw [hC,h4,h5,h6]
       rfl
structure MsgsV (B:Nat) (w:World) (v:Value) (ms:List MsgR):Prop where
 out:∃ css,Own B 13 26 w v css∧css.length=ms.length∧∀ (i:Nat) (m:MsgR),ms[i]? = some m→∃ q a,css[i]? = some (aW m q a (.slice none 0 0) (.slice none 0 0))∧Own B 2 54 w q (cU m.qs)∧Own B 4 106 w a (aO m.an)∧m.au=[]∧m.ex=[]
theorem MsgsV.nil (B:Nat) (w:World):MsgsV B w (.slice none 0 0) []:=⟨[],Own.nil _ _ _ _,rfl,by simp⟩
theorem MsgsV.ext {B:Nat} {w w':World} {v:Value} {ms:List MsgR} (h:MsgsV B w v ms) (hx:Ext w w'):MsgsV B w' v ms:=by
 obtain ⟨css,h1,h2,h3⟩:=h
 exact ⟨css,h1.ext hx,h2,fun i m hi=>let ⟨q,a,b,c,d,e,f⟩:=h3 i m hi;⟨q,a,b,c.ext hx,d.ext hx,e,f⟩⟩
theorem MsgsV.weaken {B C:Nat} {w:World} {v:Value} {ms:List MsgR} (h:MsgsV B w v ms) (hc:C≤B):MsgsV C w v ms:=by
 obtain ⟨css,h1,h2,h3⟩:=h
 exact ⟨css,h1.weaken hc,h2,fun i m hi=>let ⟨q,a,b,c,d,e,f⟩:=h3 i m hi;⟨q,a,b,c.weaken hc,d.weaken hc,e,f⟩⟩
theorem MsgsV.put {B b t:Nat} {w w':World} {v:Value} {ms:List MsgR} {cs:Array Value} {fz:Nat × Nat} {o:Obj} (h:MsgsV B w v ms) (hb:w.heap[b]? = some (.cells cs t fz)) (h1:t≠26) (h2:t≠54) (h3:t≠106) (hp:Put w w' b o):MsgsV B w' v ms:=by
 obtain ⟨css,a,c,e⟩:=h
 exact ⟨css,a.mv hp.mv (.inr (a.neBlock hb h1)),c,fun i d hi=>let ⟨g,n,x,y,z,u⟩:=e i d hi;⟨g,n,x,y.mv hp.mv (.inr (y.neBlock hb h2)),z.mv hp.mv (.inr (z.neBlock hb h3)),u⟩⟩
theorem MsgsV.add {B:Nat} {w w':World} {v v' q a:Value} {ms:List MsgR} {m:MsgR} {css:List (List Value)} (h1:Own B 13 26 w v css) (h2:css.length=ms.length)
 (h3:∀ (i:Nat) (m:MsgR),ms[i]? = some m→∃ q a,css[i]? = some (aW m q a (.slice none 0 0) (.slice none 0 0))∧Own B 2 54 w q (cU m.qs)∧Own B 4 106 w a (aO m.an)∧m.au=[]∧m.ex=[]) (hm:Mv v.ownBlock w w')
 (o:Own B 13 26 w' v' (css ++ [aW m q a (.slice none 0 0) (.slice none 0 0)])) (hq:Own B 2 54 w q (cU m.qs)) (ha:Own B 4 106 w a (aO m.an)) (hu:m.au=[]) (he:m.ex=[]):MsgsV B w' v' (ms ++ [m]):=by
 refine ⟨_,o,by simp [h2],fun i x hi => ?_⟩
 by_cases hlt:i < ms.length
 ·rw [List.getElem?_append_left hlt] at hi
  obtain ⟨q',a',b,c,d,e⟩:=h3 i x hi
  exact ⟨q',a',by rw [List.getElem?_append_left (by omega)];exact b,c.mv hm (c.ne h1 (by decide)),d.mv hm (d.ne h1 (by decide)),e⟩
 ·rw [List.getElem?_append_right (by omega)] at hi
  have hi0:i - ms.length=0:=by
   have:=(List.getElem?_eq_some_iff.1 hi).1
   simp only [List.length_cons,List.length_nil] at this
   omega
  rw [hi0] at hi
  have hx:m=x:=by simpa using hi
  subst hx
  have:i=css.length:=by omega
  subst this
  exact ⟨q,a,by rw [List.getElem?_append_right (Nat.le_refl _)];simp,hq.mv hm (hq.ne h1 (by decide)),ha.mv hm (ha.ne h1 (by decide)),hu,he⟩
theorem yV {l:List qS}:∀ f ∈ cU l,∀ u ∈ f,u.oneCell'=true:=by
 intro f hf u hu
 simp only [cU,List.mem_map] at hf
 obtain ⟨q,_,rfl⟩:=hf
 simp only [List.mem_cons,List.not_mem_nil,or_false] at hu
 rcases hu with rfl | rfl <;> rfl
def PN (l:List Rec) (z:List UInt8):List Rec:=l.filter fun r=>decide (bC r=0) && bQ r.name z
structure JudR where
 qn:List UInt8
 qt:Int
 zone:List UInt8
 code:Int
 an:List Rec
 au:List Rec
def VE (a b:List UInt8):Bool:=decide (fold a=fold b)
def VF (n:List UInt8):Int:=(((aV n).getD []).length:Nat)
def JudR.step (j:JudR) (s:List UInt8 × Int) (r:Rec):List UInt8 × Int :=
 if r.kind=2∧bQ j.qn (fold r.name)=true∧VE (fold r.name) j.zone=false∧s.2 < VF (fold r.name) then (fold r.name,VF (fold r.name)) else s
def JudR.best (j:JudR):List UInt8 × Int:=j.au.foldl j.step ([],-1)
structure ActR where
 kind:Int
 to:Int
 qn:List UInt8
 qt:Int
 code:Int
 ans:List Rec
 auth:List Rec
 deriving DecidableEq
structure TaskR where
 qn:List UInt8
 qt:Int
 roots:List Int
 zone:List UInt8
 servers:List Int
 got:List Rec
 chain:Int
 left:Int
 stop:Option ActR
def TaskR.done (t:TaskR) (code:Int) (ans auth:List Rec):TaskR × ActR:=({ t with stop:=some ⟨2,0,[],0,code,ans,auth⟩ },⟨2,0,[],0,code,ans,auth⟩)
def TaskR.on (t:TaskR):TaskR × ActR:=match t.servers with
 | []=>t.done 2 [] []
 | s :: rest=>if t.left=0 then t.done 2 [] [] else ({ t with servers:=rest,left:=t.left - 1 },⟨1,s,t.qn,t.qt,0,[],[]⟩)
def VG (r:Rec):Rec:={ r with name:=fold r.name }
def TaskR.of (t:TaskR) (l:List Rec) (n:List UInt8) (k:Int):List Rec :=
 ((PN l t.zone).map VG).filter fun r=>decide (r.name=fold n) && (decide (r.kind=k) || decide (k=255))
structure TaskOk (t:TaskR):Prop where
 left:0≤t.left
 zone:t.zone=[]∨bQ t.zone t.zone=true
 stop:∀ a,t.stop=some a→a.kind=2
def SM (t t':TaskR) (a:ActR):Prop:=(a.kind=1∧t.stop=none∧t'.stop=none∧t'.left=t.left - 1∧1≤t.left)∨(a.kind=2∧t'.stop=some a∧t'.left=t.left)
theorem TaskOk.step {t t':TaskR} {a:ActR} (ht:TaskOk t) (h:SM t t' a) (hz:t'.zone=[]∨bQ t'.zone t.zone=true):TaskOk t':=by
 refine ⟨?_,?_,?_⟩
 ·have:=ht.left
  rcases h with ⟨_,_,_,h,k⟩ | ⟨_,_,h⟩ <;> omega
 ·rcases hz with hz | hz
  ·exact .inl hz
  ·exact .inr (nS (kK hz).1)
 ·intro b hb
  rcases h with ⟨_,_,h,_⟩ | ⟨h1,h2,_⟩
  ·rw [h] at hb;cases hb
  ·rw [h2] at hb;cases hb;exact h1
def QX:List Value:=[aI [], .int .i64 0, .int .i64 0,aI []]
def RecFnC (w:World) (f:FuncId) (caps:Array Value) (l:List Rec) (p:Rec→Bool):Prop:=∀ r ∈ l,∀ w',Ext w w'→Calls Tryz.prog f ([Value.agg #[aI r.name, .int .i64 r.kind, .int .i64 r.ttl,aI r.data]].toArray ++ caps) w' (bM w' (.bool (p r)))
theorem RecFnC.ext {w w1:World} {f:FuncId} {caps:Array Value} {l:List Rec} {p:Rec→Bool} (h:RecFnC w f caps l p) (hx:Ext w w1):RecFnC w1 f caps l p :=
 fun r hr w' hx'=>h r hr w' (hx.trans hx')
def SN (a:ActR) (v1 v2:Value):List Value:=[.int .i64 a.kind, .int .i64 a.to,aI a.qn, .int .i64 a.qt, .int .i64 a.code,v1,v2]
theorem PO {a:ActR} {v1 v2:Value} (h1:v1.oneCell'=true) (h2:v2.oneCell'=true):(Value.agg (SN a v1 v2).toArray).cells.all (·.oneCell')=true:=by
 have k1:∀ s,(aI s).oneCell'=true:=fun _=>rfl
 have k2:∀ n,(Value.int .i64 n).oneCell'=true:=fun _=>rfl
 simp [SN,Value.cells,h1,h2,k1,k2]
structure ActV (w:World) (v:Value) (a:ActR):Prop where
 out:∃ v1 v2,v=.agg (SN a v1 v2).toArray∧Own 0 4 106 w v1 (aO a.ans)∧Own 0 4 106 w v2 (aO a.auth)
theorem ActV.ext {w w':World} {v:Value} {a:ActR} (h:ActV w v a) (hx:Ext w w'):ActV w' v a:=by
 obtain ⟨v1,v2,h1,h2,h3⟩:=h.out
 exact ⟨v1,v2,h1,h2.ext hx,h3.ext hx⟩
theorem Mv.fresh {row:Option Nat} {w w1 w2:World} {c:Nat} (h:Mv row w w1) (k:Mv (some c) w1 w2) (hc:w.heap.size≤c):Mv row w w2 :=
 ⟨k.os.trans h.os,k.tape.trans h.tape,k.output.trans h.output,Nat.le_trans h.size k.size,
  fun j hj hn=>by rw [k.block j (Nat.lt_of_lt_of_le hj h.size) (by intro e;have:=Option.some.inj e;omega),h.block j hj hn],Nat.le_trans h.drawn k.drawn⟩
theorem ActV.one {w:World} {v:Value} {a:ActR} (h:ActV w v a):v.cells.all (·.oneCell')=true:=by
 obtain ⟨v1,v2,rfl,h2,h3⟩:=h.out
 exact PO h2.one h3.one
theorem ActV.size {w:World} {v:Value} {a:ActR} (h:ActV w v a):v.cells.size=7:=by
 obtain ⟨v1,v2,rfl,h2,h3⟩:=h.out
 rfl
theorem ActV.put {w w':World} {v:Value} {a:ActR} {c t:Nat} {cs:Array Value} {fz:Nat × Nat} {o:Obj} (h:ActV w v a) (hp:Put w w' c o) (hc:w.heap[c]? = some (.cells cs t fz)) (ht:t≠106):ActV w' v a:=by
 obtain ⟨v1,v2,h1,h2,h3⟩:=h.out
 exact ⟨v1,v2,h1,h2.mv hp.mv (.inr (h2.neBlock hc ht)),h3.mv hp.mv (.inr (h3.neBlock hc ht))⟩
theorem IS:WideMaps.KeyLaw Tryz.prog 47:=WideMaps.string_law Tryz.underlying47
theorem PP (n:List UInt8) (hn:n.length≤1000000):∃ l,keyOf Tryz.prog 47 (aI n)=some l :=
 ⟨_,WideMaps.keyOf_string_mk Tryz.underlying47 (by rw [fD];unfold maxLen;omega)⟩
structure TaskB (t:TaskR) (n:Nat):Prop where
 l0:0≤t.left
 l1:t.left≤1000
 c0:0≤t.chain
 c1:t.chain≤8
 got:t.got.length≤n
 stop:∀ a,t.stop=some a→a.ans.length≤n∧a.auth.length≤1
theorem TaskB.weaken {t:TaskR} {n n':Nat} (h:TaskB t n) (hn:n≤n'):TaskB t n':=⟨h.l0,h.l1,h.c0,h.c1,Nat.le_trans h.got hn,fun a ha=>⟨Nat.le_trans (h.stop a ha).1 hn,(h.stop a ha).2⟩⟩
theorem TaskB.fin {t:TaskR} {n:Nat} (h:TaskB t n) (c:Int) {x y:List Rec} (hx:x.length≤n) (hy:y.length≤1):TaskB (t.done c x y).1 n :=
 ⟨h.l0,h.l1,h.c0,h.c1,h.got,fun a ha=>by cases ha;exact ⟨hx,hy⟩⟩
theorem TaskB.on {t:TaskR} {n:Nat} (h:TaskB t n) (hs:t.stop=none):TaskB t.on.1 n:=by
 unfold TaskR.on
 split
 ·exact h.fin 2 (Nat.zero_le _) (Nat.zero_le _)
 ·split
  ·exact h.fin 2 (Nat.zero_le _) (Nat.zero_le _)
  ·rename_i c
   have:=h.l0
   have:=h.l1
   exact ⟨by dsimp only;omega,by dsimp only;omega,h.c0,h.c1,h.got,fun a ha=>h.stop a ha⟩
end Go.Proofs.X
set_option linter.unusedSimpArgs false
set_option linter.unusedVariables false
namespace Go.Proofs.X
open Go.RowKit
theorem NH {B k e:Nat} {w:World} {v:Value} {es:List (List Value)} (h:Own B k e w v es) (c:Nat) (hc:w.heap.size≤c):v.ownBlock=none∨v.ownBlock≠some c:=by
 by_cases e:v.ownBlock=some c
 ·have:=(h.block c e).2;omega
 ·exact .inr e
theorem Mv.fresh' {row row2:Option Nat} {w w1 w2:World} (h:Mv row w w1) (k:Mv row2 w1 w2) (hc:∀ c,row2=some c→w.heap.size≤c):Mv row w w2 :=
 ⟨k.os.trans h.os,k.tape.trans h.tape,k.output.trans h.output,Nat.le_trans h.size k.size,
  fun j hj hn=>by rw [k.block j (Nat.lt_of_lt_of_le hj h.size) (by intro e;have:=hc j e.symm;omega),h.block j hj hn],Nat.le_trans h.drawn k.drawn⟩
theorem MapAt.mvr {P:Program} {kt:TypeId} {w w':World} {m:Nat} {ents:List (Value × Value)} {row:Option Nat} {B k e:Nat} {v:Value} {es:List (List Value)} (h:MapAt P kt w m ents) (hm:Mv row w w') (ho:Own B k e w v es) (hr:row=v.ownBlock):MapAt P kt w' m ents:=by
 obtain ⟨es',ck,h1,_⟩:=h.out
 exact h.at fun o hh=>hm.at hh (by rw [hr];exact fun e=>ho.neMap h1 e.symm)
end Go.Proofs.X
set_option linter.unusedSimpArgs false
set_option linter.unusedVariables false
namespace Go.Proofs.X
open Go.RowKit
end Go.Proofs.X
set_option linter.unusedSimpArgs false
set_option linter.unusedVariables false
namespace Go.Proofs.X
open Go.RowKit
end Go.Proofs.X
set_option linter.unusedSimpArgs false
set_option linter.unusedVariables false
namespace Go.Proofs.X
open Go.RowKit
set_option maxRecDepth 100000
structure Fr (b:Nat) (gv:Value) (w w':World):Prop where
 size:w.heap.size≤w'.heap.size
 block:∀ j,j < w.heap.size→j≠b→gv.ownBlock≠some j→w'.heap[j]? = w.heap[j]?
theorem Fr.mv {b:Nat} {gv:Value} {w w1 w2:World} {row:Option Nat} (h:Fr b gv w w1) (hm:Mv row w1 w2) (hr:∀ c,row=some c→c=b∨gv.ownBlock=some c∨w.heap.size≤c):Fr b gv w w2 :=
 ⟨Nat.le_trans h.size hm.size,fun j hj hb hg=>by
  rw [hm.block j (Nat.lt_of_lt_of_le hj h.size) (by
   intro e
   rcases hr j e.symm with e1 | e1 | e1
   ·exact hb e1
   ·exact hg e1
   ·omega),h.block j hj hb hg]⟩
theorem Fr.ext {b:Nat} {gv:Value} {w w1 w2:World} (h:Fr b gv w w1) (hx:Ext w1 w2):Fr b gv w w2:=h.mv (hx.mv none) (by intro c e;cases e)
theorem Fr.of {b:Nat} {gv:Value} {w w1:World} (hx:Ext w w1):Fr b gv w w1:=⟨hx.size,fun j hj _ _=>hx.block j hj⟩
section
variable {P:Program} {a:Act} {w:World} {d:Option Nat} {ty:TypeId} {ps:String} {af:Array Edge} {g:Option (Nat × Bool)}
end
section
variable {P:Program} {w:World} {ts:List Value} {df:List Deferred} {d:Option Nat} {ty:TypeId} {ps:String} {af:Array Edge} {g:Option (Nat × Bool)}
theorem Runs.neqB2 {t u:TypeId} {x y:Operand} {a b:Bool} (hx:(Act.mk ts.toArray df).eval x=.bool a) (hy:(Act.mk ts.toArray df).eval y=.bool b) (ht:CS P t=true) :
 Runs P (Oper.mk d (.binOp .neq t x y u) ty ps af g) (Act.mk ts.toArray df) w (.bool (a != b)):=by
 have hu:P.underlying t=some .bool:=by
  unfold CS at ht;split at ht
  ·assumption
  ·cases ht
 constructor
 simp [execOp,hx,hy,eqGuard,binOp,run_equal_bool w t a b hu,bne]
end
end Go.Proofs.X
set_option linter.unusedSimpArgs false
set_option linter.unusedVariables false
namespace Go.Proofs.X
open Go.RowKit
end Go.Proofs.X
set_option linter.unusedSimpArgs false
set_option linter.unusedVariables false
namespace Go.Proofs.X
open Go.RowKit
end Go.Proofs.X
set_option linter.unusedSimpArgs false
set_option linter.unusedVariables false
namespace Go.Proofs.X
open Go.RowKit
set_option maxRecDepth 100000
section
variable {P:Program} {a:Act} {w:World} {d:Option Nat} {ty:TypeId} {ps:String} {af:Array Edge} {g:Option (Nat × Bool)}
end
section
variable {P:Program} {ts:List Value} {df:List Deferred} {w:World} {d:Option Nat} {ty:TypeId} {ps:String} {af:Array Edge} {g:Option (Nat × Bool)}
theorem Runs.neqBSame {t u:TypeId} {x y:Operand} {b:Bool} (hx:(Act.mk ts.toArray df).eval x=.bool b) (hy:(Act.mk ts.toArray df).eval y=.bool b) (ht:CS P t=true):Runs P (Oper.mk d (.binOp .neq t x y u) ty ps af g) (Act.mk ts.toArray df) w (.bool false):=by
 have h:=Runs.neqB2 (P:=P) (ts:=ts) (df:=df) (w:=w) (d:=d) (ty:=ty) (ps:=ps) (af:=af) (g:=g) (t:=t) (u:=u) hx hy ht
 rwa [show (b != b)=false by cases b <;> rfl] at h
end
end Go.Proofs.X
