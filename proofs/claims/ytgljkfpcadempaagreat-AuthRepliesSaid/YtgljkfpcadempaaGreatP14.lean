/- Laws and walks that the proof of the statement is made of (part 14). -/
import Derived.Test.YtgljkfpcadempaaGreatP13
set_option linter.unusedSimpArgs false
set_option linter.unusedVariables false
namespace Go.Proofs.X
open Go.RowKit
set_option maxRecDepth 100000
def HP (m:MsgR):Bool:=decide (m.qs.length≤12) && m.qs.all (fun q=>decide (q.1.length≤300)) && (gR m.an && gR m.au && gR m.ex)
set_option maxHeartbeats 4000000 in
theorem SP (m:MsgR) (q a u e:Value) (w:World) (hm:MsgV w m q a u e):Calls Tryz.prog 10 #[.agg (aW m q a u e).toArray] w (bM w (.bool (HP m))):=by
 have hql:=cI m.qs
 have hqle:=hm.qs.le
 go_enter Tryz.func10,Tryz.ntmps10
 refine_lift lF fun _ _ => ?_
 refine bJ (vs:=aW m q a u e) rfl rfl ?_
 intro p w1 x1 hp
 refine aA ?_
 unfold aW at hp
 have hq1:=hm.qs.ext x1
 refine_lift JN (fun _ _ _ => ?_) (fun _ => ?_)
 ·go_ret
  refine ⟨?_,x1⟩
  have:decide (m.qs.length≤12)=false:=decide_eq_false (by omega)
  rw [HP,this]
  rfl
 ·have hB:decide (m.qs.length≤12)=true:=decide_eq_true (by omega)
  have hC:HP m=(m.qs.all (fun q=>decide (q.1.length≤300)) && (gR m.an && gR m.au && gR m.ex)):=by
   rw [HP,hB,Bool.true_and]
  go_loopw [3] (fun i wr=>∃ k:Nat,k≤m.qs.length∧i=.int .i64 k∧Ext w1 wr∧(m.qs.take k).all (fun q=>decide (q.1.length≤300))=true) (fun i _=>m.qs.length - (intOf i).toNat)
  case atStart=>exact ⟨0,Nat.zero_le _,rfl,Ext.refl _,rfl⟩
  case round =>
   obtain ⟨k,hk,rfl,hx,hall⟩:=hrel
   have hq2:=hq1.ext hx
   have hp2:=hp.ext hx
   by_cases hlt:k < m.qs.length
   ·have h1:=hq2.elem (kT hlt)
    refine_lift WA (fun _ _ => ?_) (fun _ _ _ _ => ?_)
    ·go_ret
     refine ⟨?_,x1.trans hx⟩
     rw [hC,nM hlt (decide_eq_false (by omega))]
     rfl
    ·exact ⟨⟨k + 1,by omega,rfl,hx,lH hlt hall (decide_eq_true (by omega))⟩,by simp [intOf];omega⟩
   ·have hk2:k=m.qs.length:=by omega
    subst hk2
    rw [List.take_length] at hall
    rw [hall,Bool.true_and] at hC
    refine_lift vZ fun _ _ _ => ?_
    refine aD (enters_of Tryz.func25 rfl rfl) rfl rfl (t7 a m.an _ ((hm.an.ext x1).ext hx)) ?_;intro w4 x4;refine aA ?_
    have hx4:=hx.trans x4
    have hp4:=hp.ext hx4
    cases h4:gR m.an with
    | false =>
     refine_lift bG ?_
     go_ret
     refine ⟨?_,x1.trans hx4⟩
     rw [hC,h4]
     rfl
    | true =>
     refine_lift bG ?_
     refine aD (enters_of Tryz.func25 rfl rfl) rfl rfl (t7 u m.au _ ((hm.au.ext x1).ext hx4)) ?_;intro w5 x5;refine aA ?_
     have hx5:=hx4.trans x5
     have hp5:=hp.ext hx5
     cases h5:gR m.au with
     | false =>
      refine_lift bG ?_
      go_ret
      refine ⟨?_,x1.trans hx5⟩
      rw [hC,h4,h5]
      rfl
     | true =>
      refine_lift bG ?_
      refine aD (enters_of Tryz.func25 rfl rfl) rfl rfl (t7 e m.ex _ ((hm.ex.ext x1).ext hx5)) ?_;intro w6 x6;refine aA ?_
      have hx6:=hx5.trans x6
      refine_lift bG ?_
      go_ret
      refine ⟨?_,x1.trans hx6⟩
      rw [hC,h4,h5]
      cases gR m.ex <;> rfl
theorem KL {r q:qS} {w:World}:(Op.equalIn 10000 54 (.agg #[aI r.1, .int .i64 r.2]) (.agg #[aI q.1, .int .i64 q.2])).run Tryz.prog w=.ok (decide (r=q)) w:=by
 have hS:Tryz.prog.underlying 54=some (.struct (Tryz.prog.fieldsOf 54)):=by kernel_rfl
 rw [show (10000:Nat)=9999 + 1 from rfl,run_equalIn_agg w 9999 54 _ _ hS (by kernel_rfl)]
 simp only [Program.fieldsOf,Tryz.underlying54]
 have u3:=Tryz.underlying3
 have u31:=Tryz.underlying47
 have a3:=Tryz.isAgg3
 have a31:=Tryz.isAgg47
 have z3:=Tryz.sizeOf3
 have z31:=Tryz.sizeOf47
 unfold aI
 go_simp
 obtain ⟨a1,a2⟩:=r
 obtain ⟨b1,b2⟩:=q
 simp only [Prod.mk.injEq]
 by_cases h1:a1=b1 <;> by_cases h2:a2=b2 <;> simp [h1,h2]
theorem Runs.neqQst {r q:qS} {x y:Operand} {a:Act} {w:World} {d:Option Nat} {u ty:TypeId} {ps:String} {af:Array Edge} {g:Option (Nat × Bool)}
 (hx:a.eval x=.agg #[aI r.1, .int .i64 r.2]) (hy:a.eval y=.agg #[aI q.1, .int .i64 q.2]) :
 Runs Tryz.prog (Oper.mk d (.binOp .neq 54 x y u) ty ps af g) a w (.bool (!decide (r=q))):=by
 constructor
 have hg:=run_eqGuard_agg (P:=Tryz.prog) w .neq 54 x y #[aI r.1, .int .i64 r.2] #[aI q.1, .int .i64 q.2] (by kernel_rfl)
 simp only [execOp,hx,hy,Sem.run_bind,hg,Result.andThen_ok,run_neq_struct,KL,Sem.run_pure]
section
variable {P:Program} {ts:List Value} {df:List Deferred} {w:World} {d:Option Nat} {ty:TypeId} {ps:String} {af:Array Edge} {g:Option (Nat × Bool)}
theorem Runs.neqBDiff {t u:TypeId} {x y:Operand} {a b:Bool} (hab:¬ a=b) (hx:(Act.mk ts.toArray df).eval x=.bool a) (hy:(Act.mk ts.toArray df).eval y=.bool b) (ht:CS P t=true):Runs P (Oper.mk d (.binOp .neq t x y u) ty ps af g) (Act.mk ts.toArray df) w (.bool true):=by
 have h:=Runs.neqB2 (P:=P) (ts:=ts) (df:=df) (w:=w) (d:=d) (ty:=ty) (ps:=ps) (af:=af) (g:=g) (t:=t) (u:=u) hx hy ht
 rwa [show (a != b)=true by cases a <;> cases b <;> simp_all] at h
end
def jL (m:MsgR):Int × Bool × Int × Bool × Bool × Bool × Bool × Int × Int:=(m.id,m.resp,m.op,m.auth,m.trunc,m.want,m.avail,m.rcode,m.size)
theorem SQ {m n:MsgR} (h:jL m=jL n) (h1:m.qs=n.qs):decide (m=n)=(decide (m.an=n.an) && decide (m.au=n.au) && decide (m.ex=n.ex)):=by
 cases m;cases n
 simp only [jL,Prod.mk.injEq] at h h1
 simp only [MsgR.mk.injEq]
 obtain ⟨rfl,rfl,rfl,rfl,rfl,rfl,rfl,rfl,rfl⟩:=h
 subst h1
 simp [Bool.decide_and,Bool.and_assoc]
theorem lO {m n:MsgR} (h:¬ (jL m=jL n∧m.qs=n.qs)):decide (m=n)=false:=by
 refine decide_eq_false fun e=>h ?_
 rw [e];exact ⟨rfl,rfl⟩
set_option maxHeartbeats 8000000 in
theorem PQ (m n:MsgR) (q a u e q' a' u' e':Value) (w:World) (hm:MsgV w m q a u e) (hn:MsgV w n q' a' u' e'):Calls Tryz.prog 12 #[.agg (aW m q a u e).toArray, .agg (aW n q' a' u' e').toArray] w (bM w (.bool (decide (m=n)))):=by
 have hql:=cI m.qs
 have hql':=cI n.qs
 have hqle:=hm.qs.le
 go_enter Tryz.func12,Tryz.ntmps12
 refine_lift lF fun _ _ => ?_
 refine bJ (vs:=aW m q a u e) rfl rfl ?_
 intro p w1 x1 hp
 refine aA ?_
 refine bJ (vs:=aW n q' a' u' e') rfl rfl ?_
 intro p' w2 x2 hp'
 refine aA ?_
 have hp2:=hp.ext x2
 have hx2:=x1.trans x2
 have hq2:=hm.qs.ext hx2
 have hq2':=hn.qs.ext hx2
 unfold aW at hp' hp2
 clear hp x1 x2
 ((with_reducible refine cJ ?_);(first | (refine jO ?_;refine fV ?_) | (refine oN ?_;refine qV ?_;(with_reducible refine cJ ?_);refine jO ?_;refine fV ?_)))
 (first | ((with_reducible refine cY ?_);go_step) | fail)
 (first | ((with_reducible refine cY ?_);go_step) | fail)
 (first | ((with_reducible refine cY ?_);go_step) | fail)
 (first | ((with_reducible refine cY ?_);go_step) | fail)
 (first | ((with_reducible refine cY ?_);go_step) | fail)
 simp only [List.append]
 by_cases e0:m.id=n.id
 ·skip
  by_cases e1:m.resp=n.resp
  ·skip
   by_cases e2:m.op=n.op
   ·skip
    by_cases e3:m.auth=n.auth
    ·skip
     by_cases e4:m.trunc=n.trunc
     ·skip
      by_cases e5:m.want=n.want
      ·skip
       by_cases e6:m.avail=n.avail
       ·skip
        by_cases e7:m.rcode=n.rcode
        ·skip
         by_cases e8:m.size=n.size
         ·skip
          by_cases e9:m.qs.length=n.qs.length
          ·have e9':((cU m.qs).length:Int)=((cU n.qs).length:Int):=by rw [cI,cI];omega
           rw [e0] at hp2
           rw [e1] at hp2
           rw [e2] at hp2
           rw [e3] at hp2
           rw [e4] at hp2
           rw [e5] at hp2
           rw [e6] at hp2
           rw [e7] at hp2
           rw [e8] at hp2
           refine_lift bG ?_
           refine aT (Runs.neqBSame rfl rfl (by decide +kernel)) ?_
           refine aA ?_
           refine_lift bG ?_
           refine aT (Runs.neqBSame rfl rfl (by decide +kernel)) ?_
           refine aA ?_
           refine_lift bG ?_
           refine aT (Runs.neqBSame rfl rfl (by decide +kernel)) ?_
           refine aA ?_
           refine_lift bG ?_
           refine aT (Runs.neqBSame rfl rfl (by decide +kernel)) ?_
           refine aA ?_
           refine_lift bG ?_
           refine aT (Runs.neqBSame rfl rfl (by decide +kernel)) ?_
           refine aA ?_
           refine_lift JN (fun _ _ _ => ?_) (fun _ => ?_)
           all_goals first
            | (exfalso;have hh:=‹(!decide (((cU m.qs).length:Int)=((cU n.qs).length:Int)))=true›;simp [e9'] at hh;done)
            | skip
           have hH:jL m=jL n:=by simp only [jL,e0,e1,e2,e3,e4,e5,e6,e7,e8]
           go_loopw [5] (fun i wr=>∃ k:Nat,k≤m.qs.length∧i=.int .i64 k∧Ext w2 wr∧m.qs.take k=n.qs.take k) (fun i _=>m.qs.length - (intOf i).toNat)
           case atStart=>exact ⟨0,Nat.zero_le _,rfl,Ext.refl _,rfl⟩
           case round =>
            obtain ⟨k,hk,rfl,hx,hall⟩:=hrel
            have hqx:=hq2.ext hx
            have hqx':=hq2'.ext hx
            have hpx:=hp2.ext hx
            have hpx':=hp'.ext hx
            by_cases hlt:k < m.qs.length
            ·have hlt2:k < n.qs.length:=by omega
             have hpa:=hqx.elem (kT hlt)
             have hpb:=hqx'.elem (kT hlt2)
             refine_lift GI ?_;intro _ _ _ _ _ _
             refine cB (by decide +kernel) (by decide +kernel) ?_
             refine_lift qR ?_
             refine sI (fun w' _=>Runs.neqQst (r:=m.qs[k]) (q:=n.qs[k]) rfl rfl) ?_
             refine aA ?_
             refine_lift qR ?_
             intro w4 x4
             refine_lift CA (fun _ => ?_) (fun _ => ?_)
             ·have hne:=‹(!decide (m.qs[k]=n.qs[k]))=true›
              have hab:m.qs≠n.qs:=xQ hlt hlt2 (by simpa using hne)
              go_ret
              refine ⟨?_,hx2.trans (hx.trans x4)⟩
              rw [lO (fun h=>hab h.2)];rfl
             ·have heq:=‹(!decide (m.qs[k]=n.qs[k]))=false›
              exact ⟨⟨k + 1,by omega,by go_num,hx.trans x4,iJ hall hlt hlt2 (by simpa using heq)⟩,by simp [intOf];omega⟩
            ·have:k=m.qs.length:=by omega
             subst this
             have hab:m.qs=n.qs:=by rw [List.take_length,e9,List.take_length] at hall;exact hall
             refine_lift vZ fun _ _ _ => ?_
             refine aD (enters_of Tryz.func28 rfl rfl) rfl rfl (CK a a' m.an n.an _ ((hm.an.ext hx2).ext hx) ((hn.an.ext hx2).ext hx)) ?_;intro w4 x4;refine aA ?_
             have hx4:=hx.trans x4
             have hp4:=hp2.ext hx4
             have hp4':=hp'.ext hx4
             have hF:=SQ hH hab
             by_cases c4:m.an=n.an
             ·rw [decide_eq_true c4] at hF ⊢
              refine_lift bG ?_
              refine aD (enters_of Tryz.func28 rfl rfl) rfl rfl (CK u u' m.au n.au _ ((hm.au.ext hx2).ext hx4) ((hn.au.ext hx2).ext hx4)) ?_;intro w6 x6;refine aA ?_
              have hx6:=hx4.trans x6
              have hp6:=hp2.ext hx6
              have hp6':=hp'.ext hx6
              by_cases c6:m.au=n.au
              ·rw [decide_eq_true c6] at hF ⊢
               refine_lift bG ?_
               refine aD (enters_of Tryz.func28 rfl rfl) rfl rfl (CK e e' m.ex n.ex _ ((hm.ex.ext hx2).ext hx6) ((hn.ex.ext hx2).ext hx6)) ?_;intro w7 x7;refine aA ?_
               refine_lift bG ?_
               go_ret
               refine ⟨?_,hx2.trans (hx6.trans x7)⟩
               rw [hF];rfl
              ·rw [decide_eq_false c6] at hF ⊢
               refine_lift bG ?_
               go_ret
               refine ⟨?_,hx2.trans hx6⟩
               rw [hF];rfl
             ·rw [decide_eq_false c4] at hF ⊢
              refine_lift bG ?_
              go_ret
              refine ⟨?_,hx2.trans hx4⟩
              rw [hF];rfl
          ·have e9':¬ ((cU m.qs).length:Int)=((cU n.qs).length:Int):=by rw [cI,cI];omega
           rw [e0] at hp2
           rw [e1] at hp2
           rw [e2] at hp2
           rw [e3] at hp2
           rw [e4] at hp2
           rw [e5] at hp2
           rw [e6] at hp2
           rw [e7] at hp2
           rw [e8] at hp2
           refine_lift bG ?_
           refine aT (Runs.neqBSame rfl rfl (by decide +kernel)) ?_
           refine aA ?_
           refine_lift bG ?_
           refine aT (Runs.neqBSame rfl rfl (by decide +kernel)) ?_
           refine aA ?_
           refine_lift bG ?_
           refine aT (Runs.neqBSame rfl rfl (by decide +kernel)) ?_
           refine aA ?_
           refine_lift bG ?_
           refine aT (Runs.neqBSame rfl rfl (by decide +kernel)) ?_
           refine aA ?_
           refine_lift bG ?_
           refine aT (Runs.neqBSame rfl rfl (by decide +kernel)) ?_
           refine aA ?_
           refine_lift JN (fun _ _ _ => ?_) (fun _ => ?_)
           all_goals first
            | (exfalso;have hh:=‹(!decide (((cU m.qs).length:Int)=((cU n.qs).length:Int)))=false›;simp [e9'] at hh;done)
            | skip
           go_ret
           refine ⟨?_,hx2⟩
           rw [lO (by rintro ⟨_,e⟩;exact e9 (congrArg List.length e))];rfl
         ·skip
          rw [e0] at hp2
          rw [e1] at hp2
          rw [e2] at hp2
          rw [e3] at hp2
          rw [e4] at hp2
          rw [e5] at hp2
          rw [e6] at hp2
          rw [e7] at hp2
          refine_lift bG ?_
          refine aT (Runs.neqBSame rfl rfl (by decide +kernel)) ?_
          refine aA ?_
          refine_lift bG ?_
          refine aT (Runs.neqBSame rfl rfl (by decide +kernel)) ?_
          refine aA ?_
          refine_lift bG ?_
          refine aT (Runs.neqBSame rfl rfl (by decide +kernel)) ?_
          refine aA ?_
          refine_lift bG ?_
          refine aT (Runs.neqBSame rfl rfl (by decide +kernel)) ?_
          refine aA ?_
          refine_lift bG ?_
          refine aT (Runs.neqBSame rfl rfl (by decide +kernel)) ?_
          refine aA ?_
          refine_lift UB (fun hc _ _ _ => ?_) (fun hc => ?_) (fun hc _ => ?_)
          all_goals first
           | (exfalso;have hh:=‹(!decide (m.size=n.size))=false›;simp [e8] at hh;done)
           | skip
          go_ret
          refine ⟨?_,hx2⟩
          rw [lO (by rintro ⟨e,_⟩;simp only [jL,Prod.mk.injEq] at e;exact e8 e.2.2.2.2.2.2.2.2)];rfl
        ·skip
         rw [e0] at hp2
         rw [e1] at hp2
         rw [e2] at hp2
         rw [e3] at hp2
         rw [e4] at hp2
         rw [e5] at hp2
         rw [e6] at hp2
         refine_lift bG ?_
         refine aT (Runs.neqBSame rfl rfl (by decide +kernel)) ?_
         refine aA ?_
         refine_lift bG ?_
         refine aT (Runs.neqBSame rfl rfl (by decide +kernel)) ?_
         refine aA ?_
         refine_lift bG ?_
         refine aT (Runs.neqBSame rfl rfl (by decide +kernel)) ?_
         refine aA ?_
         refine_lift bG ?_
         refine aT (Runs.neqBSame rfl rfl (by decide +kernel)) ?_
         refine aA ?_
         refine_lift bG ?_
         refine aT (Runs.neqBSame rfl rfl (by decide +kernel)) ?_
         refine aA ?_
         refine_lift RO (fun hc hc _ _ _ => ?_) (fun hc hc => ?_) (fun hc => ?_) (fun hc hc _ => ?_)
         all_goals first
          | (exfalso;have hh:=‹(!decide (m.rcode=n.rcode))=false›;simp [e7] at hh;done)
          | skip
         go_ret
         refine ⟨?_,hx2⟩
         rw [lO (by rintro ⟨e,_⟩;simp only [jL,Prod.mk.injEq] at e;exact e7 e.2.2.2.2.2.2.2.1)];rfl
       ·skip
        rw [e0] at hp2
        rw [e1] at hp2
        rw [e2] at hp2
        rw [e3] at hp2
        rw [e4] at hp2
        rw [e5] at hp2
        refine_lift bG ?_
        refine aT (Runs.neqBSame rfl rfl (by decide +kernel)) ?_
        refine aA ?_
        refine_lift bG ?_
        refine aT (Runs.neqBSame rfl rfl (by decide +kernel)) ?_
        refine aA ?_
        refine_lift bG ?_
        refine aT (Runs.neqBSame rfl rfl (by decide +kernel)) ?_
        refine aA ?_
        refine_lift bG ?_
        refine aT (Runs.neqBSame rfl rfl (by decide +kernel)) ?_
        refine aA ?_
        refine_lift bG ?_
        refine aT (Runs.neqBDiff e6 rfl rfl (by decide +kernel)) ?_
        refine aA ?_
        refine_lift bG ?_
        go_ret
        refine ⟨?_,hx2⟩
        rw [lO (by rintro ⟨e,_⟩;simp only [jL,Prod.mk.injEq] at e;exact e6 e.2.2.2.2.2.2.1)];rfl
      ·skip
       rw [e0] at hp2
       rw [e1] at hp2
       rw [e2] at hp2
       rw [e3] at hp2
       rw [e4] at hp2
       refine_lift bG ?_
       refine aT (Runs.neqBSame rfl rfl (by decide +kernel)) ?_
       refine aA ?_
       refine_lift bG ?_
       refine aT (Runs.neqBSame rfl rfl (by decide +kernel)) ?_
       refine aA ?_
       refine_lift bG ?_
       refine aT (Runs.neqBSame rfl rfl (by decide +kernel)) ?_
       refine aA ?_
       refine_lift bG ?_
       refine aT (Runs.neqBDiff e5 rfl rfl (by decide +kernel)) ?_
       refine aA ?_
       refine_lift bG ?_
       go_ret
       refine ⟨?_,hx2⟩
       rw [lO (by rintro ⟨e,_⟩;simp only [jL,Prod.mk.injEq] at e;exact e5 e.2.2.2.2.2.1)];rfl
     ·skip
      rw [e0] at hp2
      rw [e1] at hp2
      rw [e2] at hp2
      rw [e3] at hp2
      refine_lift bG ?_
      refine aT (Runs.neqBSame rfl rfl (by decide +kernel)) ?_
      refine aA ?_
      refine_lift bG ?_
      refine aT (Runs.neqBSame rfl rfl (by decide +kernel)) ?_
      refine aA ?_
      refine_lift bG ?_
      refine aT (Runs.neqBDiff e4 rfl rfl (by decide +kernel)) ?_
      refine aA ?_
      refine_lift bG ?_
      go_ret
      refine ⟨?_,hx2⟩
      rw [lO (by rintro ⟨e,_⟩;simp only [jL,Prod.mk.injEq] at e;exact e4 e.2.2.2.2.1)];rfl
    ·skip
     rw [e0] at hp2
     rw [e1] at hp2
     rw [e2] at hp2
     refine_lift bG ?_
     refine aT (Runs.neqBSame rfl rfl (by decide +kernel)) ?_
     refine aA ?_
     refine_lift bG ?_
     refine aT (Runs.neqBDiff e3 rfl rfl (by decide +kernel)) ?_
     refine aA ?_
     refine_lift bG ?_
     go_ret
     refine ⟨?_,hx2⟩
     rw [lO (by rintro ⟨e,_⟩;simp only [jL,Prod.mk.injEq] at e;exact e3 e.2.2.2.1)];rfl
   ·skip
    rw [e0] at hp2
    rw [e1] at hp2
    refine_lift bG ?_
    refine aT (Runs.neqBSame rfl rfl (by decide +kernel)) ?_
    refine aA ?_
    refine_lift CA (fun hc => ?_) (fun hc => ?_)
    all_goals first
     | (exfalso;have hh:=‹(!decide (m.op=n.op))=false›;simp [e2] at hh;done)
     | skip
    go_ret
    refine ⟨?_,hx2⟩
    rw [lO (by rintro ⟨e,_⟩;simp only [jL,Prod.mk.injEq] at e;exact e2 e.2.2.1)];rfl
  ·skip
   rw [e0] at hp2
   refine_lift bG ?_
   refine aT (Runs.neqBDiff e1 rfl rfl (by decide +kernel)) ?_
   refine aA ?_
   refine_lift bG ?_
   go_ret
   refine ⟨?_,hx2⟩
   rw [lO (by rintro ⟨e,_⟩;simp only [jL,Prod.mk.injEq] at e;exact e1 e.2.1)];rfl
 ·skip
  refine_lift CA (fun hc => ?_) (fun hc => ?_)
  all_goals first
   | (exfalso;have hh:=‹(!decide (m.id=n.id))=false›;simp [e0] at hh;done)
   | skip
  go_ret
  refine ⟨?_,hx2⟩
  rw [lO (by rintro ⟨e,_⟩;simp only [jL,Prod.mk.injEq] at e;exact e0 e.1)];rfl
abbrev PR:=Bool × MsgR
def WK (s:PR) (q a u e:Value):List Value:=.bool s.1 :: aW s.2 q a u e
structure RopsAt (w:World) (v:Value) (l:List PR):Prop where
 out:∃ css,Sl 14 w v css∧css.length=l.length∧∀ (i:Nat) (s:PR),l[i]? = some s→∃ q a u e,css[i]? = some (WK s q a u e)∧MsgV w s.2 q a u e
theorem RopsAt.ext {w w':World} {v:Value} {l:List PR} (h:RopsAt w v l) (hx:Ext w w'):RopsAt w' v l:=by
 obtain ⟨css,h1,h2,h3⟩:=h
 exact ⟨css,h1.ext hx,h2,fun i s hi=>let ⟨q,a,u,e,h4,h5⟩:=h3 i s hi;⟨q,a,u,e,h4,h5.ext hx⟩⟩
end Go.Proofs.X
set_option linter.unusedSimpArgs false
set_option linter.unusedVariables false
namespace Go.Proofs.X
open Go.RowKit
end Go.Proofs.X
set_option linter.unusedSimpArgs false
set_option linter.unusedVariables false
namespace Go.Proofs.X
open Go.RowKit
set_option maxRecDepth 100000
section
variable {P:Program} {w:World} {ts:List Value} {df:List Deferred}
end
end Go.Proofs.X
set_option linter.unusedSimpArgs false
set_option linter.unusedVariables false
namespace Go.Proofs.X
open Go.RowKit
end Go.Proofs.X
set_option linter.unusedSimpArgs false
set_option linter.unusedVariables false
namespace Go.Proofs.X
open Go.RowKit
end Go.Proofs.X
set_option linter.unusedSimpArgs false
set_option linter.unusedVariables false
namespace Go.Proofs.X
open Go.RowKit
set_option maxRecDepth 100000
end Go.Proofs.X
set_option linter.unusedSimpArgs false
set_option linter.unusedVariables false
namespace Go.Proofs.X
open Go.RowKit
end Go.Proofs.X
set_option linter.unusedSimpArgs false
set_option linter.unusedVariables false
namespace Go.Proofs.X
open Go.RowKit
set_option maxRecDepth 100000
section
variable {P:Program} {w w0:World} {ts:List Value} {df:List Deferred} {d:Option Nat} {ty:TypeId} {ps:String} {af:Array Edge} {g:Option (Nat × Bool)}
end
theorem Own.same {B k e:Nat} {w w':World} {v:Value} {es:List (List Value)} (h:Own B k e w v es) (hs:∀ r,v.ownBlock=some r→w'.heap[r]? = w.heap[r]?):Own B k e w' v es:=by
 obtain ⟨⟨h1,h2⟩,h3⟩:=h
 refine ⟨⟨h1,?_⟩,h3⟩
 rcases h2 with h2 | ⟨gg,cap,cur,fz,rfl,hb,hg,r⟩
 ·exact .inl h2
 ·exact .inr ⟨gg,cap,cur,fz,rfl,hb,by rw [hs gg rfl];exact hg,r⟩
end Go.Proofs.X
set_option linter.unusedSimpArgs false
set_option linter.unusedVariables false
namespace Go.Proofs.X
open Go.RowKit
end Go.Proofs.X
set_option linter.unusedSimpArgs false
set_option linter.unusedVariables false
namespace Go.Proofs.X
open Go.RowKit
end Go.Proofs.X
set_option linter.unusedSimpArgs false
set_option linter.unusedVariables false
namespace Go.Proofs.X
open Go.RowKit
set_option maxRecDepth 100000
structure RdS where
 at_:Int
 e:Int
 deriving DecidableEq
def sA (s:List UInt8) (r:RdS):List Value:=[aI s, .int .i64 r.at_, .int .i64 r.e]
def dI (w:World) (b:Nat) (s:List UInt8) (r:RdS):Prop:=w.heap[b]? = some (.cells (sA s r).toArray 82 (0,0))
def lP (w:World) (b:Nat) (s:List UInt8) (v:Value) (r:RdS) (e:Ending) (w':World):Prop:=e=.returned v∧dI w' b s r∧Mv (some b) w w'
def RdS.want (r:RdS) (is:Bool) (er:Int):RdS:=if r.e=0∧is=false then ⟨r.at_,er⟩ else r
theorem gF {w:World} {b:Nat} {s:List UInt8} {r:RdS} (h:dI w b s r) (is:Bool) (er:Int):Calls Tryz.prog 44 #[.pointer (some ⟨b,0,none⟩), .bool is, .int .i64 er] w (lP w b s (.bool (decide ((r.want is er).e=0))) (r.want is er)):=by
 have hp:=aE (cs:=sA s r) h
 go_enter Tryz.func44,Tryz.ntmps44
 by_cases c1:r.e=0
 ·cases is with
  | false =>
   have hE:r.want false er=⟨r.at_,er⟩:=by unfold RdS.want;rw [if_pos ⟨c1,rfl⟩]
   refine_lift OO (fun hc => ?_) (fun _ _ hc => ?_)
   all_goals first
    | (exfalso;omega)
    | skip
   refine aM (n:=2) (v:=.int .i64 er) h rfl rfl rfl (by simp [sA]) (by decide +kernel) rfl ?_
   intro w1 p1
   have h1:dI w1 b s ⟨r.at_,er⟩:=p1.this
   have hp1:=aE (cs:=sA s ⟨r.at_,er⟩) h1
   clear hp
   refine_lift bG ?_
   go_ret
   rw [hE]
   exact ⟨rfl,h1,p1.mv⟩
  | true =>
   have hE:r.want true er=r:=by unfold RdS.want;rw [if_neg (by rintro ⟨_,h⟩;cases h)]
   refine_lift CA (fun hc => ?_) (fun hc => ?_)
   all_goals first
    | (exfalso;omega)
    | skip
   go_ret
   rw [hE]
   exact ⟨rfl,h,Mv.refl _ _⟩
 ·have hE:r.want is er=r:=by unfold RdS.want;rw [if_neg (fun h=>c1 h.1)]
  refine_lift nK fun hc => ?_
  all_goals first
   | (exfalso;omega)
   | skip
  go_ret
  rw [hE]
  exact ⟨rfl,h,Mv.refl _ _⟩
def RdS.take (s:List UInt8) (r:RdS) (n:Int):List UInt8 × RdS :=
 if r.e≠0 then ([],r) else if (s.length:Int) - r.at_ < n then ([],⟨r.at_,3⟩) else ((s.drop r.at_.toNat).take n.toNat,⟨r.at_ + n,0⟩)
structure RdS.Ok (s:List UInt8) (r:RdS):Prop where
 lo:0≤r.at_
 hi:r.e=0→r.at_≤s.length
 far:r.at_≤100000000
theorem RdS.Ok.want {s:List UInt8} {r:RdS} (h:r.Ok s) (is:Bool) {er:Int} (he:er≠0):(r.want is er).Ok s:=by
 unfold RdS.want
 split
 ·exact ⟨h.lo,fun e=>absurd e he,h.far⟩
 ·exact h
theorem RdS.Ok.take {s:List UInt8} {r:RdS} (h:r.Ok s) (hs:s.length≤100000000) {n:Int} (hn:0≤n):(r.take s n).2.Ok s:=by
 unfold RdS.take
 have:=h.lo
 split
 ·exact h
 ·split
  ·exact ⟨h.lo,fun e=>(by cases e),h.far⟩
  ·exact ⟨by dsimp only;omega,fun _=>by dsimp only;omega,by dsimp only;omega⟩
set_option maxHeartbeats 1000000 in
theorem yW {w:World} {b:Nat} {s:List UInt8} {r:RdS} (h:dI w b s r) (hr:r.Ok s) (hs:s.length≤100000000) (n:Int) (h0:0≤n) (h1:n≤100000000):Calls Tryz.prog 98 #[.pointer (some ⟨b,0,none⟩), .int .i64 n] w (lP w b s (aI (r.take s n).1) (r.take s n).2):=by
 have hp:=aE (cs:=sA s r) h
 have a0:=hr.lo
 have a1:=hr.hi
 have a2:=hr.far
 go_enter Tryz.func98,Tryz.ntmps98
 refine_lift xI fun _ _ _ _ => ?_
 refine bV 13 (Ext w) (by decide +kernel) ?_
 intro w1 x1 _
 refine ⟨x1,?_⟩
 refine cV 0 ?_;refine cV 1 ?_;refine cV 2 ?_;refine cV 3 ?_;refine cV 4 ?_;refine cV 5 ?_;refine cV 6 ?_;refine cV 7 ?_;refine cV 8 ?_;refine cV 9 ?_;refine cV 10 ?_;refine cV 11 ?_;refine cV 12 ?_
 have hw1:dI w1 b s r:=x1.at h
 have hcw:=gF hw1 (decide (n≤(s.length:Int) - r.at_)) 3
 by_cases c1:r.e=0∧n≤(s.length:Int) - r.at_
 ·obtain ⟨c1,c2⟩:=c1
  have hR:r.take s n=((s.drop r.at_.toNat).take n.toNat,⟨r.at_ + n,0⟩):=by unfold RdS.take;rw [if_neg (by omega),if_neg (by omega)]
  have hW:r.want (decide (n≤(s.length:Int) - r.at_)) 3=r:=by rw [decide_eq_true c2];unfold RdS.want;rw [if_neg (by rintro ⟨_,h⟩;cases h)]
  rw [hW,decide_eq_true c1] at hcw
  refine bE (i:=13) (by decide +kernel) rfl rfl ?_
  refine aN (vs:=[.pointer (some ⟨b,0,none⟩), .bool (decide (n≤(s.length:Int) - r.at_)), .int .i64 3]) (enters_of Tryz.func44 rfl rfl) rfl rfl hcw ?_
  rintro _ w2 ⟨rfl,h2,m2⟩
  refine ⟨_,rfl,?_⟩
  refine aA ?_
  refine aJ ⟨bT rfl,?_⟩
  refine bE (i:=14) (by decide +kernel) rfl rfl ?_
  ((with_reducible refine cJ ?_);(first | (refine jO ?_;refine fV ?_) | (refine oN ?_;refine qV ?_;(with_reducible refine cJ ?_);refine jO ?_;refine fV ?_)))
  refine aJ ⟨bT rfl,?_⟩
  refine cN (by decide +kernel) ?_
  have hp2:=aE (cs:=sA s r) h2
  have m02:=(x1.mv (some b)).trans m2
  clear hp
  refine_lift dJ fun _ _ => ?_
  refine aM (n:=1) (v:=.int .i64 (r.at_ + n)) h2 rfl rfl rfl (by simp [sA]) (by decide +kernel) rfl ?_
  intro w3 p3
  have h3:dI w3 b s ⟨r.at_ + n,r.e⟩:=p3.this
  have hp3:=aE (cs:=sA s ⟨r.at_ + n,r.e⟩) h3
  have m03:=m02.trans p3.mv
  clear hp2
  have a3:=a1 c1
  refine_lift dJ fun _ _ => ?_
  refine cB (by decide +kernel) (by decide +kernel) ?_
  refine_lift qR ?_
  intro w4 x4
  refine_lift bG ?_
  go_ret
  rw [hR]
  refine ⟨?_,by rw [← c1];exact x4.at h3,m03.trans (x4.mv _)⟩
  have e:List.drop (r.at_ + n - n).toNat (List.take (r.at_ + n).toNat s)=(s.drop r.at_.toNat).take n.toNat:=by
   rw [show r.at_ + n - n=r.at_ by omega,List.drop_take,show (r.at_ + n).toNat - r.at_.toNat=n.toNat by omega]
  show Ending.returned (aI _)=_
  rw [e]
 ·have hne:(r.want (decide (n≤(s.length:Int) - r.at_)) 3).e≠0:=by
   unfold RdS.want
   split
   ·exact fun e=>by cases e
   ·rename_i c
    intro e
    exact c1 ⟨e,by
     by_cases h9:n≤(s.length:Int) - r.at_
     ·exact h9
     ·exact absurd ⟨e,decide_eq_false h9⟩ c⟩
  have hR:r.take s n=([],r.want (decide (n≤(s.length:Int) - r.at_)) 3):=by
   unfold RdS.take RdS.want
   by_cases h8:r.e=0
   ·have h9:¬ n≤(s.length:Int) - r.at_:=fun h=>c1 ⟨h8,h⟩
    rw [if_neg (by omega),if_pos (by omega),if_pos ⟨h8,decide_eq_false h9⟩]
   ·rw [if_pos h8,if_neg (fun h=>h8 h.1)]
  rw [decide_eq_false hne] at hcw
  refine bE (i:=13) (by decide +kernel) rfl rfl ?_
  refine aN (vs:=[.pointer (some ⟨b,0,none⟩), .bool (decide (n≤(s.length:Int) - r.at_)), .int .i64 3]) (enters_of Tryz.func44 rfl rfl) rfl rfl hcw ?_
  rintro _ w2 ⟨rfl,h2,m2⟩
  refine ⟨_,rfl,?_⟩
  refine aA ?_
  refine aJ ⟨bT rfl,?_⟩
  refine bE (i:=14) (by decide +kernel) rfl rfl ?_
  ((with_reducible refine cJ ?_);(first | (refine jO ?_;refine fV ?_) | (refine oN ?_;refine qV ?_;(with_reducible refine cJ ?_);refine jO ?_;refine fV ?_)))
  refine aJ ⟨bT rfl,?_⟩
  refine cN (by decide +kernel) ?_
  refine_lift bG ?_
  go_ret
  rw [hR]
  exact ⟨rfl,h2,(x1.mv (some b)).trans m2⟩
def FS (l:List UInt8):Nat:=l.foldl (fun n c=>n * 256 + c.toNat) 0
theorem BR {l:List UInt8} {k:Nat} (h:k < l.length):FS (l.take (k + 1))=FS (l.take k) * 256 + l[k].toNat:=by
 rw [FS,List.take_succ_eq_append_getElem h,List.foldl_append];rfl
theorem CV (l:List UInt8):∀ k,k≤l.length→FS (l.take k) < 256 ^ k
 | 0,_=>by simp [FS]
 | k + 1,h=>by
   rw [BR (by omega)]
   have:=CV l k (by omega)
   have h2:l[k].toNat < 256:=UInt8.toNat_lt _
   rw [Nat.pow_succ]
   omega
def RdS.number (s:List UInt8) (r:RdS) (k:Int):Nat × RdS:=(FS (r.take s k).1,(r.take s k).2)
theorem mZ (s:List UInt8) (r:RdS) (n:Int):(r.take s n).1.length≤n.toNat:=by
 unfold RdS.take
 split
 ·exact Nat.zero_le _
 ·split
  ·exact Nat.zero_le _
  ·rw [List.length_take];omega
theorem dQ (s:List UInt8) (r:RdS) (n:Nat) (hn:n≤4):(r.number s n).1 < 256 ^ n:=by
 unfold RdS.number
 have h1:=mZ s r n
 have h2:=CV (r.take s n).1 (r.take s n).1.length (Nat.le_refl _)
 rw [List.take_length] at h2
 refine Nat.lt_of_lt_of_le h2 (Nat.pow_le_pow_right (by omega) (by simpa using h1))
set_option maxHeartbeats 1000000 in
theorem eL {w:World} {b:Nat} {s:List UInt8} {r:RdS} (h:dI w b s r) (hr:r.Ok s) (hs:s.length≤100000000) (n:Int) (h0:0≤n) (h1:n≤4):Calls Tryz.prog 43 #[.pointer (some ⟨b,0,none⟩), .int .i64 n] w (lP w b s (.int .i64 ((r.number s n).1:Nat)) (r.number s n).2):=by
 have htl:=mZ s r n
 have hct:=fun w h=>yW (w:=w) (b:=b) h hr hs n h0 (by omega)
 unfold RdS.number
 generalize r.take s n=T at *
 obtain ⟨l,r'⟩:=T
 dsimp only at *
 go_enter Tryz.func43,Tryz.ntmps43
 refine_lift xI fun _ _ _ _ => ?_
 refine aN (vs:=[.pointer (some ⟨b,0,none⟩), .int .i64 n]) (enters_of Tryz.func98 rfl rfl) rfl rfl (hct w h) ?_
 rintro _ w1 ⟨rfl,h1',m1⟩
 refine ⟨_,rfl,?_⟩
 refine aA ?_
 refine qD (l:=l) (e:=5) rfl rfl (by decide +kernel) (by decide +kernel) (by omega) ?_
 intro v2 w2 x2 o2
 refine aA ?_
 have hs2:=o2.sl
 have h2:dI w2 b s r':=x2.at h1'
 have hbl:(aS l).length=l.length:=List.length_map ..
 have m2:=m1.trans (x2.mv (some b))
 refine_lift bG ?_
 have htl:l.length≤4:=by omega
 go_loopw [5,7,13] (fun m _ i wr=>∃ k:Nat,k≤l.length∧i=.int .i64 k∧m=.int .i64 (FS (l.take k):Nat)∧Ext w2 wr) (fun _ _ i _=>l.length - (intOf i).toNat)
 case atStart=>exact ⟨0,Nat.zero_le _,rfl,rfl,Ext.refl _⟩
 case round =>
  obtain ⟨k,hk,rfl,rfl,hx⟩:=hrel
  have hsx:=hs2.ext hx
  by_cases hlt:k < l.length
  ·have hn:=CV l k (by omega)
   have hn2:FS (l.take k) * 256 < 4294967296:=by
    have:256 ^ k≤256 ^ 3:=Nat.pow_le_pow_right (by omega) (by omega)
    omega
   have hb:l[k].toNat < 256:=UInt8.toNat_lt _
   have hst:=BR hlt
   have hpe:=hsx.elem (i:=k) (e:=[.int .u8 (l[k].toNat:Nat)]) (by rw [aS,List.getElem?_map,List.getElem?_eq_getElem hlt];rfl)
   refine_lift nK fun _ => ?_
   exact ⟨⟨k + 1,by omega,by go_num,by rw [hst],hx⟩,by simp [intOf];omega⟩
  ·have:k=l.length:=by omega
   subst this
   rw [List.take_length]
   refine_lift nK fun _ => ?_
   go_ret
   exact ⟨rfl,hx.at h2,m2.trans (hx.mv _)⟩
section
variable {P:Program} {w:World} {a:Act} {d:Option Nat} {ty:TypeId} {ps:String} {af:Array Edge} {g:Option (Nat × Bool)}
theorem Runs.andN {t u:TypeId} {x y:Operand} {m n:Nat} (hx:a.eval x=.int .i64 (m:Nat)) (hy:a.eval y=.int .i64 (n:Nat)) (hm:m < 4611686018427387904) (hn:n < 4611686018427387904) :
 Runs P (Oper.mk d (.binOp .and t x y u) ty ps af g) a w (.int .i64 ((m &&& n:Nat):Int)):=by
 have hle:m &&& n≤m:=Nat.and_le_left
 have e:(BitVec.ofInt 64 (m:Int) &&& BitVec.ofInt 64 (n:Int)).toNat=m &&& n:=by
  rw [BitVec.toNat_and,BitVec.ofInt_natCast,BitVec.ofInt_natCast,BitVec.toNat_ofNat,BitVec.toNat_ofNat,Nat.mod_eq_of_lt (by omega),Nat.mod_eq_of_lt (by omega)]
 have e2:IntKind.i64.wrap ((m &&& n:Nat):Int)=((m &&& n:Nat):Int):=IntWalk.i64_in _ (by omega)
 constructor
 have hb:(Op.intBits .and .i64 (m:Nat) (n:Nat))=Sem.pure (.int .i64 ((m &&& n:Nat):Int)):=by
  show Sem.pure (Value.int .i64 (IntKind.i64.wrap ((BitVec.ofInt 64 (m:Int) &&& BitVec.ofInt 64 (n:Int)).toNat:Nat)))=_
  rw [e,e2]
 simp only [execOp,hx,hy,eqGuard,binOp,hb,Sem.run_bind,Sem.run_pure,Result.andThen_ok]
 simp [Sem.run]
theorem Runs.orN {t u:TypeId} {x y:Operand} {m n:Nat} (hx:a.eval x=.int .i64 (m:Nat)) (hy:a.eval y=.int .i64 (n:Nat)) (hm:m < 4611686018427387904) (hn:n < 4611686018427387904) :
 Runs P (Oper.mk d (.binOp .or t x y u) ty ps af g) a w (.int .i64 ((m ||| n:Nat):Int)):=by
 have hlt:m ||| n < 2 ^ 62:=Nat.or_lt_two_pow (by omega) (by omega)
 have e:(BitVec.ofInt 64 (m:Int) ||| BitVec.ofInt 64 (n:Int)).toNat=m ||| n:=by
  rw [BitVec.toNat_or,BitVec.ofInt_natCast,BitVec.ofInt_natCast,BitVec.toNat_ofNat,BitVec.toNat_ofNat,Nat.mod_eq_of_lt (by omega),Nat.mod_eq_of_lt (by omega)]
 have e2:IntKind.i64.wrap ((m ||| n:Nat):Int)=((m ||| n:Nat):Int):=IntWalk.i64_in _ (by omega)
 constructor
 have hb:(Op.intBits .or .i64 (m:Nat) (n:Nat))=Sem.pure (.int .i64 ((m ||| n:Nat):Int)):=by
  show Sem.pure (Value.int .i64 (IntKind.i64.wrap ((BitVec.ofInt 64 (m:Int) ||| BitVec.ofInt 64 (n:Int)).toNat:Nat)))=_
  rw [e,e2]
 simp only [execOp,hx,hy,eqGuard,binOp,hb,Sem.run_bind,Sem.run_pure,Result.andThen_ok]
 simp [Sem.run]
end
structure NmS where
 n:List UInt8
 begin_:Int
 back:Int
 r:RdS
def nmTo (s:List UInt8) (r1:RdS) (k:Nat):Nat:=k * 256 % 16384 + ((r1.want (decide (192≤k)) 2).number s 1).1
def yX (s:List UInt8) (r1:RdS) (k:Nat) (begin_:Int):RdS:=((r1.want (decide (192≤k)) 2).number s 1).2.want (decide ((nmTo s r1 k:Int) < begin_)) 2
def iD (s:List UInt8) (x:NmS) (k:Nat) (r1:RdS):NmS :=
 if k≤63 then ⟨x.n ++ (UInt8.ofNat k :: (r1.take s k).1),x.begin_,x.back,(r1.take s k).2.want (decide ((x.n ++ (UInt8.ofNat k :: (r1.take s k).1)).length < 255)) 2⟩
 else ⟨x.n,nmTo s r1 k,if x.back < 0 then (yX s r1 k x.begin_).at_ else x.back,⟨nmTo s r1 k,(yX s r1 k x.begin_).e⟩⟩
def FT (x:NmS) (r1:RdS):List UInt8 × RdS:=(if r1.e≠0 then [] else x.n,if 0≤x.back then ⟨x.back,r1.e⟩ else r1)
def HQ (s:List UInt8):Nat→NmS→List UInt8 × RdS
 | 0,x=>([],x.r)
 | f + 1,x=>if (x.r.number s 1).2.e≠0∨(x.r.number s 1).1=0 then FT x (x.r.number s 1).2 else HQ s f (iD s x (x.r.number s 1).1 (x.r.number s 1).2)
def IT (s:List UInt8) (x:NmS):Nat:=if x.r.e≠0 then 0 else x.begin_.toNat * (s.length + 2) + (s.length + 2 - x.r.at_.toNat)
def fU (s:List UInt8) (r:RdS):List UInt8 × RdS:=HQ s (r.at_.toNat * (s.length + 2) + s.length + 3) ⟨[],r.at_,-1,r⟩
structure NmOk (s:List UInt8) (x:NmS):Prop where
 r:x.r.Ok s
 b0:0≤x.begin_
 b1:x.begin_≤100000000
 k0:-1≤x.back
 k1:x.back≤100000000
 n0:x.r.e=0→x.n.length≤254
 n1:x.n.length≤400
 bL:x.r.e=0→x.begin_≤s.length
 kL:x.r.e=0→x.back≤s.length
theorem FU {s:List UInt8} {r:RdS} {n:Int} (h:(r.number s n).2.e=0):r.e=0∧n≤(s.length:Int) - r.at_∧(r.number s n).2=⟨r.at_ + n,0⟩:=by
 unfold RdS.number RdS.take at *
 dsimp only at *
 split at h
 ·rename_i c;exact absurd h c
 ·rename_i c
  split at h
  ·cases h
  ·rename_i c2
   rw [if_neg c,if_neg c2]
   exact ⟨by simpa using c,by omega,rfl⟩
theorem cR {s:List UInt8} {r:RdS} (h:r.Ok s) (hs:s.length≤100000000) {n:Int} (hn:0≤n):(r.number s n).2.Ok s:=h.take hs hn
theorem PS {r:RdS} {is:Bool} {er:Int}:(r.want is er).at_=r.at_:=by unfold RdS.want;split <;> rfl
theorem pV {r:RdS} {is:Bool} {er:Int} (he:er≠0) (h:(r.want is er).e=0):r.e=0∧is=true:=by
 unfold RdS.want at h
 split at h
 ·exact absurd h he
 ·rename_i c
  refine ⟨h,?_⟩
  cases is with
  | true=>rfl
  | false=>exact absurd ⟨h,rfl⟩ c
theorem IU {s:List UInt8} {r1:RdS} {k:Nat}:nmTo s r1 k < 16640:=by
 unfold nmTo
 have:=dQ s (r1.want (decide (192≤k)) 2) 1 (by omega)
 have h2:k * 256 % 16384 < 16384:=Nat.mod_lt _ (by omega)
 simp at this
 omega
theorem NmOk.next {s:List UInt8} {x:NmS} (h:NmOk s x) (hs:s.length≤100000000) (he:(x.r.number s 1).2.e=0):NmOk s (iD s x (x.r.number s 1).1 (x.r.number s 1).2)∧IT s (iD s x (x.r.number s 1).1 (x.r.number s 1).2) < IT s x:=by
 obtain ⟨e0,e1,e2⟩:=FU he
 have hr1:=cR (n:=1) h.r hs (by omega)
 have hM:IT s x=x.begin_.toNat * (s.length + 2) + (s.length + 2 - x.r.at_.toNat):=by unfold IT;rw [if_neg (by omega)]
 have hlo:=h.r.lo
 have hb0:=h.b0
 generalize (x.r.number s 1).1=k at *
 have hat:(x.r.number s 1).2.at_=x.r.at_ + 1:=by rw [e2]
 generalize (x.r.number s 1).2=r1 at *
 unfold iD
 have htl:=mZ s r1 k
 split
 ·rename_i hk
  have hn':(x.n ++ (UInt8.ofNat k :: (r1.take s k).1)).length≤254 + 64:=by
   rw [List.length_append,List.length_cons]
   have:=h.n0 e0
   simp at htl
   omega
  have hw:=(hr1.take hs (n:=(k:Int)) (by omega)).want (decide ((x.n ++ (UInt8.ofNat k :: (r1.take s k).1)).length < 255)) (er:=2) (by decide)
  refine ⟨⟨hw,h.b0,h.b1,h.k0,h.k1,fun e => ?_,by dsimp only;omega,fun _=>h.bL e0,fun _=>h.kL e0⟩,?_⟩
  ·obtain ⟨_,q⟩:=pV (by decide) e
   have:=of_decide_eq_true q
   dsimp only
   omega
  ·rw [hM]
   unfold IT
   dsimp only
   split
   ·omega
   ·rename_i c
    have c':((r1.take s k).2.want (decide ((x.n ++ (UInt8.ofNat k :: (r1.take s k).1)).length < 255)) 2).e=0:=by simpa using c
    obtain ⟨q,_⟩:=pV (by decide) c'
    rw [PS]
    have hta:(r1.take s k).2.at_=r1.at_ + k:=by
     unfold RdS.take at q ⊢
     split at q
     ·rename_i c9;exact absurd q c9
     ·split at q
      ·cases q
      ·rename_i c8 c9;rw [if_neg c8,if_neg c9]
    rw [hta,hat]
    omega
 ·have hto:=IU (s:=s) (r1:=r1) (k:=k)
  have hw:=((cR (n:=1) (hr1.want (decide (192≤k)) (er:=2) (by decide)) hs (by omega))).want (decide ((nmTo s r1 k:Int) < x.begin_)) (er:=2) (by decide)
  refine ⟨⟨⟨by dsimp only;omega,fun e => ?_,by dsimp only;omega⟩,by dsimp only;omega,by dsimp only;omega,?_,?_,fun _=>h.n0 e0,h.n1,fun e => ?_,fun e => ?_⟩,?_⟩
  ·obtain ⟨_,q⟩:=pV (r:=((r1.want (decide (192≤k)) 2).number s 1).2) (by decide) e
   have:=of_decide_eq_true q
   have:=h.bL e0
   dsimp only
   omega
  ·dsimp only
   split
   ·have:=hw.lo;show -1≤(yX s r1 k x.begin_).at_;unfold yX;omega
   ·exact h.k0
  ·dsimp only
   split
   ·have:=hw.far;show (yX s r1 k x.begin_).at_≤_;unfold yX;omega
   ·exact h.k1
  ·obtain ⟨_,q⟩:=pV (r:=((r1.want (decide (192≤k)) 2).number s 1).2) (by decide) e
   have:=of_decide_eq_true q
   have:=h.bL e0
   dsimp only
   omega
  ·dsimp only
   split
   ·exact hw.hi e
   ·exact h.kL e0
  ·rw [hM]
   unfold IT
   dsimp only
   split
   ·omega
   ·rename_i c
    have c':(yX s r1 k x.begin_).e=0:=by simpa using c
    obtain ⟨_,q⟩:=pV (r:=((r1.want (decide (192≤k)) 2).number s 1).2) (by decide) c'
    have hlt:=of_decide_eq_true q
    simp only [Int.toNat_natCast]
    have h5:nmTo s r1 k + 1≤x.begin_.toNat:=by omega
    have h6:(nmTo s r1 k + 1) * (s.length + 2)≤x.begin_.toNat * (s.length + 2):=Nat.mul_le_mul_right _ h5
    rw [Nat.succ_mul] at h6
    omega
theorem IV {s:List UInt8} (hs:s.length≤100000000):∀ (f:Nat) (x:NmS),NmOk s x→IT s x < f→(HQ s f x).1.length≤254∧(HQ s f x).2.Ok s
 | 0,x,_,h=>absurd h (Nat.not_lt_zero _)
 | f + 1,x,h,hf=>by
   have hr1:=cR (n:=1) h.r hs (by omega)
   unfold HQ
   split
   ·unfold FT
    dsimp only
    by_cases he:(x.r.number s 1).2.e=0
    ·rw [if_neg (by simpa using he)]
     obtain ⟨e0,_⟩:=FU he
     refine ⟨h.n0 e0,?_⟩
     split
     ·rename_i hb
      exact ⟨hb,fun _=>h.kL e0,h.k1⟩
     ·exact hr1
    ·rw [if_pos he]
     refine ⟨Nat.zero_le _,?_⟩
     split
     ·rename_i hb
      exact ⟨hb,fun e=>absurd e he,h.k1⟩
     ·exact hr1
   ·rename_i c
    have he:(x.r.number s 1).2.e=0:=by
     by_cases h:(x.r.number s 1).2.e=0
     ·exact h
     ·exact absurd (.inl h) c
    obtain ⟨h1,h2⟩:=h.next hs he
    exact IV hs f _ h1 (by omega)
theorem yY {s:List UInt8} {r:RdS} (hr:r.Ok s):NmOk s ⟨[],r.at_,-1,r⟩∧IT s ⟨[],r.at_,-1,r⟩ < r.at_.toNat * (s.length + 2) + s.length + 3:=by
 refine ⟨⟨hr,hr.lo,hr.far,(by show (-1:Int)≤-1;omega),(by show (-1:Int)≤100000000;omega),fun _=>Nat.zero_le _,Nat.zero_le _,hr.hi,fun _=>(by show (-1:Int)≤_;omega)⟩,?_⟩
 unfold IT
 dsimp only
 split <;> omega
theorem pW {s:List UInt8} {r:RdS} (hr:r.Ok s) (hs:s.length≤100000000):(fU s r).1.length≤254∧(fU s r).2.Ok s :=
 IV hs _ _ (yY hr).1 (yY hr).2
def WL (s:List UInt8) (b:Nat) (bg:Value) (w:World):Nat:=match w.heap[b]? with
 | some (.cells cs _ _)=>IT s ⟨[],intOf bg,0,⟨intOf (cs[1]?.getD undef),intOf (cs[2]?.getD undef)⟩⟩
 | _=>0
theorem uG {s:List UInt8} {b:Nat} {x:NmS} {w:World} (h:dI w b s x.r):WL s b (.int .i64 x.begin_) w=IT s x:=by
 unfold dI at h
 unfold WL
 rw [h]
 simp [sA,intOf,IT]
def VH (s:List UInt8) (r:RdS) (b:Nat) (w:World) (x:NmS) (wr:World):Prop:=NmOk s x∧dI wr b s x.r∧Mv (some b) w wr∧∃ f,IT s x < f∧HQ s f x=fU s r
theorem PT (k k2:Nat) (h:k2 < 256):(k * 256 &&& 16383) ||| k2=k * 256 % 16384 + k2:=by
 have e1:k * 256 &&& 16383=k * 256 % 16384:=Nat.and_two_pow_sub_one_eq_mod (k * 256) 14
 have e2:k * 256 % 16384=(k % 64) * 256:=by omega
 rw [e1,e2,AA _ _ h]
set_option maxHeartbeats 2000000 in
theorem HR {w:World} {b:Nat} {s:List UInt8} {r:RdS} (h:dI w b s r) (hr:r.Ok s) (hs:s.length≤100000000):Calls Tryz.prog 45 #[.pointer (some ⟨b,0,none⟩)] w (lP w b s (aI (fU s r).1) (fU s r).2):=by
 have hp:=aE (cs:=sA s r) h
 have h0:VH s r b w ⟨[],r.at_,-1,r⟩ w:=by
  refine ⟨⟨hr,hr.lo,hr.far,(by show (-1:Int)≤-1;omega),(by show (-1:Int)≤100000000;omega),fun _=>Nat.zero_le _,Nat.zero_le _,hr.hi,fun _=>(by show (-1:Int)≤_;omega)⟩,h,Mv.refl _ _,_,?_,rfl⟩
  unfold IT
  dsimp only
  split <;> omega
 go_enter Tryz.func45,Tryz.ntmps45
 refine_lift bG ?_
 go_loopw [2,3,4,5,6] (fun n bg bk _ _ wr=>∃ x:NmS,n=aI x.n∧bg=.int .i64 x.begin_∧bk=.int .i64 x.back∧VH s r b w x wr) (fun _ bg _ _ _ wr=>WL s b bg wr)
 case atStart=>exact ⟨_,rfl,rfl,rfl,h0⟩
 case round =>
  obtain ⟨x,rfl,rfl,rfl,hok,hx,hm,f,hf,hgo⟩:=hrel
  have hcn:=eL hx hok.r hs 1 (by omega) (by omega)
  have hk4:=dQ s x.r 1 (by omega)
  have hstep:∀ f',f=f' + 1→(if (x.r.number s 1).2.e≠0∨(x.r.number s 1).1=0 then FT x (x.r.number s 1).2 else HQ s f' (iD s x (x.r.number s 1).1 (x.r.number s 1).2))=fU s r:=by
   rintro f' rfl
   exact hgo
  have hnx:=fun he=>hok.next hs he
  have hr1:=cR (n:=1) hok.r hs (by omega)
  generalize hT:x.r.number s 1=T at *
  obtain ⟨k,r1⟩:=T
  dsimp only at *
  refine_lift vZ ?_;intro _ _ _
  refine aN (vs:=[.pointer (some ⟨b,0,none⟩), .int .i64 1]) (enters_of Tryz.func43 rfl rfl) rfl rfl hcn ?_
  rintro _ w1 ⟨rfl,h1,m1⟩
  refine ⟨_,rfl,?_⟩
  refine aA ?_
  have hp1:=aE (cs:=sA s r1) h1
  have hm1:=hm.trans m1
  obtain ⟨f',rfl⟩:∃ f',f=f' + 1:=⟨f - 1,by omega⟩
  have hst:=hstep f' rfl
  clear hstep hgo hp hcn
  obtain ⟨at1,e1⟩:=r1
  dsimp only at *
  by_cases ce:e1=0
  ·subst ce
   by_cases ck:k=0
   ·subst ck
    rw [if_pos (.inr rfl)] at hst
    unfold FT at hst
    dsimp only at hst
    rw [if_neg (by decide)] at hst
    by_cases cb:0≤x.back
    ·rw [if_pos cb] at hst
     refine_lift GI fun _ _ _ _ _ _ => ?_
     all_goals first
      | (exfalso;omega)
      | skip
     refine aM (n:=1) (v:=.int .i64 x.back) h1 rfl rfl rfl (by simp [sA]) (by decide +kernel) rfl ?_
     intro w2 p2
     have h2:dI w2 b s ⟨x.back,0⟩:=p2.this
     have hp2:=aE (cs:=sA s ⟨x.back,0⟩) h2
     clear hp1
     refine_lift bG ?_
     all_goals first
      | (exfalso;omega)
      | skip
     go_ret
     rw [← hst]
     exact ⟨rfl,h2,hm1.trans p2.mv⟩
    ·rw [if_neg cb] at hst
     refine_lift dJ fun _ _ => ?_
     all_goals first
      | (exfalso;omega)
      | skip
     go_ret
     rw [← hst]
     exact ⟨rfl,h1,hm1⟩
   ·rw [if_neg (by rintro (h | h);exact h rfl;exact ck h)] at hst
    obtain ⟨hok2,hlt2⟩:=hnx rfl
    by_cases c63:k≤63
    ·refine_lift GI fun _ _ _ _ _ _ => ?_
     all_goals first
      | (exfalso;omega)
      | skip
     have hk256:k < 256:=by omega
     have hn1:=hok.n1
     have htl:=mZ s ⟨at1,0⟩ k
     have hr2:=hr1.take hs (n:=(k:Int)) (by omega)
     have hNx:iD s x k ⟨at1,0⟩=⟨x.n ++ (UInt8.ofNat k :: (RdS.take s ⟨at1,0⟩ k).1),x.begin_,x.back,(RdS.take s ⟨at1,0⟩ k).2.want (decide ((x.n ++ (UInt8.ofNat k :: (RdS.take s ⟨at1,0⟩ k).1)).length < 255)) 2⟩:=by unfold iD;rw [if_pos c63]
     have hcT:=fun w' (h':dI w' b s ⟨at1,0⟩)=>yW h' hr1 hs (k:Int) (by omega) (by omega)
     generalize RdS.take s ⟨at1,0⟩ k=T at *
     obtain ⟨t,r2⟩:=T
     dsimp only at *
     refine dS (S:=fun w'=>Mv (some b) w1 w') (by decide +kernel) ?_
     intro w2 x2 _
     have hS2:Mv (some b) w1 w2:=x2.mv _
     refine iF 0 ?_;refine aA ?_;refine iF 1 ?_;refine aA ?_;refine iF 2 ?_;refine aA ?_;refine iF 5 ?_;refine aA ?_;refine iF 6 ?_;refine aA ?_
     rw [xP k]
     refine TS 3 4 7 41 42 45 (fun b1 b2 b3=>(!b2 || b1)) (fun b1 b2 b3 => !b2) (fun b1 b2 b3=>b1) (fun b1 b2 b3=>true) (fun b1 b2 b3 v1 v2 v3 w'=>Mv (some b) w1 w'∧(b1=true→Own w1.heap.size 1 5 w' v1 (aS [UInt8.ofNat k]))∧(b2=true→v2=aI [UInt8.ofNat k])∧dI w' b s (bif b3 then r2 else ⟨at1,0⟩)∧(b3=true→v3=aI t)) ?_ ?_ ?_ ?_ ?_
     ·exact ⟨hS2,by simp,by simp,x2.at h1,by simp⟩
     ·rintro b1 b2 b3 v1 v2 v3 w3 hq ⟨m3,f1,f2,f3,f4⟩
      have hb2:b2=false:=by revert hq;cases b2 <;> simp
      subst hb2
      refine aA ?_
      refine bN (k:=1) (e:=5) (bytes:=1) (xs:=[.int .u8 ((UInt8.ofNat k).toNat:Nat)]) rfl rfl rfl (by simp [Value.cells]) (by decide +kernel) (by simp) ?_
      intro v4 w4 x4 _ _ o4
      refine aA ?_
      have o4':Own w1.heap.size 1 5 w4 v4 (aS [UInt8.ofNat k]):=(show Own w3.heap.size 1 5 w4 v4 (aS [UInt8.ofNat k]) from o4).weaken m3.size
      refine aJ ⟨m3.trans (x4.mv _),_,rfl,m3.trans (x4.mv _),fun _=>o4',by simp,x4.at f3,f4⟩
     ·rintro b1 b2 b3 v1 v2 v3 w3 hq ⟨m3,f1,f2,f3,f4⟩
      have hb1:b1=true:=by revert hq;cases b1 <;> simp
      subst hb1
      refine aA ?_
      have s1:=(f1 rfl).sl
      ((with_reducible refine cJ ?_);(first | (refine jO ?_;refine fV ?_) | (refine oN ?_;refine qV ?_;(with_reducible refine cJ ?_);refine jO ?_;refine fV ?_)))
      refine aJ ⟨m3,_,rfl,m3,fun _=>f1 rfl,fun _=>rfl,f3,f4⟩
     ·rintro b1 b2 b3 v1 v2 v3 w3 hq ⟨m3,f1,f2,f3,f4⟩
      refine aA ?_
      refine aN (vs:=[.pointer (some ⟨b,0,none⟩), .int .i64 (k:Nat)]) (enters_of Tryz.func98 rfl rfl) rfl rfl (hcT _ f3) ?_
      rintro _ w4 ⟨rfl,h4,m4⟩
      refine ⟨_,rfl,?_⟩
      refine aA ?_
      refine aJ ⟨m3.trans m4,_,rfl,m3.trans m4,fun e=>(f1 e).mv m4 (.inr ((f1 e).neBlock f3 (by decide))),f2,h4,fun _=>rfl⟩
     ·rintro v1 v2 v3 w3 ⟨m3,f1,f2,f3,f4⟩
      obtain rfl:=f2 rfl
      obtain rfl:=f4 rfl
      refine iF 8 ?_;refine aA ?_;refine iF 9 ?_;refine aA ?_;refine iF 10 ?_;refine aA ?_
      refine dK (by decide +kernel) ?_
      rw [show x.n ++ ([UInt8.ofNat k] ++ t)=x.n ++ (UInt8.ofNat k :: t) from rfl]
      have h3:dI w3 b s r2:=f3
      have hlen2:(x.n ++ (UInt8.ofNat k :: t)).length≤1000:=by rw [List.length_append,List.length_cons];simp at htl;omega
      have hcw:=gF h3 (decide ((x.n ++ (UInt8.ofNat k :: t)).length < 255)) 2
      have hd5:decide (((x.n ++ (UInt8.ofNat k :: t)).length:Int) < 255)=decide ((x.n ++ (UInt8.ofNat k :: t)).length < 255):=by by_cases h:(x.n ++ (UInt8.ofNat k :: t)).length < 255 <;> simp only [h,decide_true,decide_false,decide_eq_true_eq,decide_eq_false_iff_not] <;> omega
      generalize hN:x.n ++ (UInt8.ofNat k :: t)=N at *
      generalize hR5:r2.want (decide (N.length < 255)) 2=r5 at *
      refine_lift dJ fun _ _ => ?_
      rw [hd5]
      refine aN (vs:=[.pointer (some ⟨b,0,none⟩), .bool (decide (N.length < 255)), .int .i64 2]) (enters_of Tryz.func44 rfl rfl) rfl rfl hcw ?_
      rintro _ w5 ⟨rfl,h5,m5⟩
      refine ⟨_,rfl,?_⟩
      refine aA ?_
      refine_lift bG ?_
      refine ⟨⟨iD s x k ⟨at1,0⟩,?_,?_,?_,hok2,?_,hm1.trans (m3.trans m5),f',by omega,hst⟩,?_⟩
      ·rw [hNx]
      ·rw [hNx]
      ·rw [hNx]
      ·rw [hNx];exact h5
      ·rw [uG hx,show Value.int .i64 x.begin_=.int .i64 (iD s x k ⟨at1,0⟩).begin_ by rw [hNx],uG (by rw [hNx];exact h5)];exact hlt2
    ·refine_lift xI fun _ _ _ _ => ?_
     all_goals first
      | (exfalso;omega)
      | skip
     have hk256:k < 256:=by simpa using hk4
     have hcw:=gF h1 (decide (192≤k)) 2
     have hdk:decide ((192:Int)≤(k:Nat))=decide (192≤k):=by by_cases h:192≤k <;> simp [h] <;> omega
     have hw2:=hr1.want (decide (192≤k)) (er:=2) (by decide)
     rw [hdk]
     refine aN (vs:=[.pointer (some ⟨b,0,none⟩), .bool (decide (192≤k)), .int .i64 2]) (enters_of Tryz.func44 rfl rfl) rfl rfl hcw ?_
     rintro _ w2 ⟨rfl,h2,m2⟩
     refine ⟨_,rfl,?_⟩
     refine aA ?_
     have hcn:=eL h2 hw2 hs 1 (by omega) (by omega)
     have hk2:=dQ s ((⟨at1,0⟩:RdS).want (decide (192≤k)) 2) 1 (by omega)
     have hr3:=cR (n:=1) hw2 hs (by omega)
     have hnT:nmTo s ⟨at1,0⟩ k=k * 256 % 16384 + (((⟨at1,0⟩:RdS).want (decide (192≤k)) 2).number s 1).1:=rfl
     have hn4:∀ bg,yX s ⟨at1,0⟩ k bg=(((⟨at1,0⟩:RdS).want (decide (192≤k)) 2).number s 1).2.want (decide ((nmTo s ⟨at1,0⟩ k:Int) < bg)) 2:=fun _=>rfl
     have hto:=IU (s:=s) (r1:=⟨at1,0⟩) (k:=k)
     generalize ((⟨at1,0⟩:RdS).want (decide (192≤k)) 2).number s 1=T at *
     obtain ⟨k2,r3⟩:=T
     dsimp only at *
     have hk2':k2 < 256:=by simpa using hk2
     refine_lift dJ fun _ _ => ?_
     refine aT (Runs.andN (m:=k * 256) (n:=16383) rfl rfl (by omega) (by decide)) ?_
     refine aA ?_
     refine_lift bG ?_
     refine aN (vs:=[.pointer (some ⟨b,0,none⟩), .int .i64 1]) (enters_of Tryz.func43 rfl rfl) rfl rfl hcn ?_
     rintro _ w3 ⟨rfl,h3,m3⟩
     refine ⟨_,rfl,?_⟩
     refine aA ?_
     have hle:k * 256 &&& 16383≤k * 256:=Nat.and_le_left
     refine aT (Runs.orN (m:=k * 256 &&& 16383) (n:=k2) rfl rfl (by omega) (by omega)) ?_
     rw [PT k k2 hk2',← hnT]
     refine aA ?_
     have hcw4:=gF h3 (decide ((nmTo s ⟨at1,0⟩ k:Int) < x.begin_)) 2
     rw [← hn4] at hcw4
     have hw4:=hr3.want (decide ((nmTo s ⟨at1,0⟩ k:Int) < x.begin_)) (er:=2) (by decide)
     rw [← hn4] at hw4
     have hNx:iD s x k ⟨at1,0⟩=⟨x.n,nmTo s ⟨at1,0⟩ k,if x.back < 0 then (yX s ⟨at1,0⟩ k x.begin_).at_ else x.back,⟨nmTo s ⟨at1,0⟩ k,(yX s ⟨at1,0⟩ k x.begin_).e⟩⟩:=by unfold iD;rw [if_neg c63]
     generalize yX s ⟨at1,0⟩ k x.begin_=r4 at *
     generalize nmTo s ⟨at1,0⟩ k=to at *
     refine_lift dJ fun _ _ => ?_
     refine aN (vs:=[.pointer (some ⟨b,0,none⟩), .bool (decide ((to:Int) < x.begin_)), .int .i64 2]) (enters_of Tryz.func44 rfl rfl) rfl rfl hcw4 ?_
     rintro _ w4 ⟨rfl,h4,m4⟩
     refine ⟨_,rfl,?_⟩
     refine aA ?_
     have hp4:=aE (cs:=sA s r4) h4
     have hm4:=hm1.trans (m2.trans (m3.trans m4))
     clear hp1
     by_cases cb:x.back < 0
     ·rw [if_pos cb] at hNx
      refine_lift nK fun _ => ?_
      all_goals first
       | (exfalso;omega)
       | skip
      refine aM (n:=1) (v:=.int .i64 (to:Nat)) h4 rfl rfl rfl (by simp [sA]) (by decide +kernel) rfl ?_
      intro w5 p5
      have h5:dI w5 b s ⟨to,r4.e⟩:=p5.this
      refine_lift bG ?_
      refine ⟨⟨iD s x k ⟨at1,0⟩,?_,?_,?_,hok2,?_,hm4.trans p5.mv,f',by omega,hst⟩,?_⟩
      ·rw [hNx]
      ·rw [hNx]
      ·rw [hNx]
      ·rw [hNx];exact h5
      ·rw [uG hx,show Value.int .i64 ((to:Nat):Int)=.int .i64 (iD s x k ⟨at1,0⟩).begin_ by rw [hNx],uG (by rw [hNx];exact h5)];exact hlt2
     ·rw [if_neg cb] at hNx
      refine_lift nK fun _ => ?_
      all_goals first
       | (exfalso;omega)
       | skip
      refine aM (n:=1) (v:=.int .i64 (to:Nat)) h4 rfl rfl rfl (by simp [sA]) (by decide +kernel) rfl ?_
      intro w5 p5
      have h5:dI w5 b s ⟨to,r4.e⟩:=p5.this
      refine_lift bG ?_
      refine ⟨⟨iD s x k ⟨at1,0⟩,?_,?_,?_,hok2,?_,hm4.trans p5.mv,f',by omega,hst⟩,?_⟩
      ·rw [hNx]
      ·rw [hNx]
      ·rw [hNx]
      ·rw [hNx];exact h5
      ·rw [uG hx,show Value.int .i64 ((to:Nat):Int)=.int .i64 (iD s x k ⟨at1,0⟩).begin_ by rw [hNx],uG (by rw [hNx];exact h5)];exact hlt2
  ·rw [if_pos (.inl ce)] at hst
   unfold FT at hst
   dsimp only at hst
   rw [if_pos ce] at hst
   by_cases cb:0≤x.back
   ·rw [if_pos cb] at hst
    refine_lift RU (fun _ _ hc _ _ _ _ => ?_) (fun hc _ _ _ _ => ?_) (fun _ _ hc _ _ _ => ?_) (fun _ _ hc _ _ _ _ => ?_)
    all_goals first
     | (exfalso;omega)
     | (exfalso;have hh:=‹(!decide (e1=0))=false›;simp [ce] at hh;done)
     | skip
    refine aM (n:=1) (v:=.int .i64 x.back) h1 rfl rfl rfl (by simp [sA]) (by decide +kernel) rfl ?_
    intro w2 p2
    have h2:dI w2 b s ⟨x.back,e1⟩:=p2.this
    have hp2:=aE (cs:=sA s ⟨x.back,e1⟩) h2
    clear hp1
    refine_lift CA (fun _ => ?_) (fun _ => ?_)
    all_goals first
     | (exfalso;omega)
     | (exfalso;have hh:=‹(!decide (e1=0))=false›;simp [ce] at hh;done)
     | skip
    go_ret
    rw [← hst]
    exact ⟨rfl,h2,hm1.trans p2.mv⟩
   ·rw [if_neg cb] at hst
    (repeat' first | ((with_reducible refine cY ?_);go_step) | ((with_reducible refine cJ ?_);first | refine iZ ?_ | (refine dD ?_ ?_ <;> intro hc)) | fail)
    all_goals first
     | (exfalso;omega)
     | (exfalso;have hh:=‹(!decide (e1=0))=false›;simp [ce] at hh;done)
     | skip
    go_ret
    rw [← hst]
    exact ⟨rfl,h1,hm1⟩
end Go.Proofs.X
