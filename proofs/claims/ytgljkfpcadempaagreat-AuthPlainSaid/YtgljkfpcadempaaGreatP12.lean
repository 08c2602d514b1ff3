/- Laws and walks that the proof of the statement is made of (part 12). -/
import Derived.Test.YtgljkfpcadempaaGreatP11
set_option linter.unusedSimpArgs false
set_option linter.unusedVariables false
namespace Go.Proofs.X
open Go.RowKit
set_option maxRecDepth 100000
structure Fr (b : Nat) (gv : Value) (w w' : World) : Prop where
 size : w.heap.size ≤ w'.heap.size
 block : ∀ j, j < w.heap.size → j ≠ b → gv.ownBlock ≠ some j → w'.heap[j]? = w.heap[j]?
theorem Fr.mv {b : Nat} {gv : Value} {w w1 w2 : World} {row : Option Nat} (h : Fr b gv w w1) (hm : Mv row w1 w2) (hr : ∀ c, row = some c → c = b ∨ gv.ownBlock = some c ∨ w.heap.size ≤ c) : Fr b gv w w2 :=
 ⟨Nat.le_trans h.size hm.size, fun j hj hb hg => by
  rw [hm.block j (Nat.lt_of_lt_of_le hj h.size) (by
   intro e
   rcases hr j e.symm with e1 | e1 | e1
   ·exact hb e1
   ·exact hg e1
   ·omega), h.block j hj hb hg]⟩
theorem Fr.ext {b : Nat} {gv : Value} {w w1 w2 : World} (h : Fr b gv w w1) (hx : Ext w1 w2) : Fr b gv w w2 := h.mv (hx.mv none) (by intro c e; cases e)
theorem Fr.of {b : Nat} {gv : Value} {w w1 : World} (hx : Ext w w1) : Fr b gv w w1 := ⟨hx.size, fun j hj _ _ => hx.block j hj⟩
section
variable {P : Program} {a : Act} {w : World} {d : Option Nat} {ty : TypeId} {ps : String} {af : Array Edge} {g : Option (Nat × Bool)}
end
section
variable {P : Program} {w : World} {ts : List Value} {df : List Deferred} {d : Option Nat} {ty : TypeId} {ps : String} {af : Array Edge} {g : Option (Nat × Bool)}
theorem Runs.neqB2 {t u : TypeId} {x y : Operand} {a b : Bool} (hx : (Act.mk ts.toArray df).eval x = .bool a) (hy : (Act.mk ts.toArray df).eval y = .bool b) (ht : qY P t = true) :
 Runs P (Oper.mk d (.binOp .neq t x y u) ty ps af g) (Act.mk ts.toArray df) w (.bool (a != b)) := by
 have hu : P.underlying t = some .bool := by
  unfold qY at ht; split at ht
  ·assumption
  ·cases ht
 constructor
 simp [execOp, hx, hy, eqGuard, binOp, run_equal_bool w t a b hu, bne]
end
end Go.Proofs.X
set_option linter.unusedSimpArgs false
set_option linter.unusedVariables false
namespace Go.Proofs.X
open Go.RowKit
end Go.Proofs.X
set_option linter.unusedSimpArgs false
set_option linter.unusedVariables false
namespace Go.Proofs.X
open Go.RowKit
end Go.Proofs.X
set_option linter.unusedSimpArgs false
set_option linter.unusedVariables false
namespace Go.Proofs.X
open Go.RowKit
set_option maxRecDepth 100000
section
variable {P : Program} {a : Act} {w : World} {d : Option Nat} {ty : TypeId} {ps : String} {af : Array Edge} {g : Option (Nat × Bool)}
end
section
variable {P : Program} {ts : List Value} {df : List Deferred} {w : World} {d : Option Nat} {ty : TypeId} {ps : String} {af : Array Edge} {g : Option (Nat × Bool)}
theorem Runs.neqBSame {t u : TypeId} {x y : Operand} {b : Bool} (hx : (Act.mk ts.toArray df).eval x = .bool b) (hy : (Act.mk ts.toArray df).eval y = .bool b) (ht : qY P t = true) : Runs P (Oper.mk d (.binOp .neq t x y u) ty ps af g) (Act.mk ts.toArray df) w (.bool false) := by
 have h := Runs.neqB2 (P := P) (ts := ts) (df := df) (w := w) (d := d) (ty := ty) (ps := ps) (af := af) (g := g) (t := t) (u := u) hx hy ht
 rwa [show (b != b) = false by cases b <;> rfl] at h
end
def IL (m : MsgR) : Bool := decide (m.qs.length ≤ 12) && m.qs.all (fun q => decide (q.1.length ≤ 300)) && (fX m.an && fX m.au && fX m.ex)
set_option maxHeartbeats 4000000 in
theorem MX (m : MsgR) (q a u e : Value) (w : World) (hm : MsgV w m q a u e) : Calls Tryz.prog 10 #[.agg (aU m q a u e).toArray] w (bO w (.bool (IL m))) := by
 have hql := bP m.qs
 have hqle := hm.qs.le
 go_enter Tryz.func10, Tryz.ntmps10
 refine_lift yA fun _ _ => ?_
 refine bR (vs := aU m q a u e) rfl rfl ?_
 intro p w1 x1 hp
 refine aA ?_
 unfold aU at hp
 have hq1 := hm.qs.ext x1
 refine_lift MF (fun _ _ _ => ?_) (fun _ => ?_)
 ·go_ret
  refine ⟨?_, x1⟩
  have : decide (m.qs.length ≤ 12) = false := decide_eq_false (by omega)
  rw [IL, this]
  rfl
 ·have hB : decide (m.qs.length ≤ 12) = true := decide_eq_true (by omega)
  have hC : IL m = (m.qs.all (fun q => decide (q.1.length ≤ 300)) && (fX m.an && fX m.au && fX m.ex)) := by
   rw [IL, hB, Bool.true_and]
  go_loopw [3] (fun i wr => ∃ k : Nat, k ≤ m.qs.length ∧ i = .int .i64 k ∧ Ext w1 wr ∧ (m.qs.take k).all (fun q => decide (q.1.length ≤ 300)) = true) (fun i _ => m.qs.length - (intOf i).toNat)
  case atStart => exact ⟨0, Nat.zero_le _, rfl, Ext.refl _, rfl⟩
  case round =>
   obtain ⟨k, hk, rfl, hx, hall⟩ := hrel
   have hq2 := hq1.ext hx
   have hp2 := hp.ext hx
   by_cases hlt : k < m.qs.length
   ·have h1 := hq2.elem (gQ hlt)
    refine_lift PV (fun _ _ => ?_) (fun _ _ _ _ => ?_)
    ·go_ret
     refine ⟨?_, x1.trans hx⟩
     rw [hC, mM hlt (decide_eq_false (by omega))]
     rfl
    ·exact ⟨⟨k + 1, by omega, rfl, hx, kN hlt hall (decide_eq_true (by omega))⟩, by simp [intOf]; omega⟩
   ·have hk2 : k = m.qs.length := by omega
    subst hk2
    rw [List.take_length] at hall
    rw [hall, Bool.true_and] at hC
    refine_lift RH fun _ _ _ => ?_
    refine aE (enters_of Tryz.func25 rfl rfl) rfl rfl (t7 a m.an _ ((hm.an.ext x1).ext hx)) ?_; intro w4 x4; refine aA ?_
    have hx4 := hx.trans x4
    have hp4 := hp.ext hx4
    cases h4 : fX m.an with
    | false =>
     refine_lift eP ?_
     go_ret
     refine ⟨?_, x1.trans hx4⟩
     rw [hC, h4]
     rfl
    | true =>
     refine_lift eP ?_
     refine aE (enters_of Tryz.func25 rfl rfl) rfl rfl (t7 u m.au _ ((hm.au.ext x1).ext hx4)) ?_; intro w5 x5; refine aA ?_
     have hx5 := hx4.trans x5
     have hp5 := hp.ext hx5
     cases h5 : fX m.au with
     | false =>
      refine_lift eP ?_
      go_ret
      refine ⟨?_, x1.trans hx5⟩
      rw [hC, h4, h5]
      rfl
     | true =>
      refine_lift eP ?_
      refine aE (enters_of Tryz.func25 rfl rfl) rfl rfl (t7 e m.ex _ ((hm.ex.ext x1).ext hx5)) ?_; intro w6 x6; refine aA ?_
      have hx6 := hx5.trans x6
      refine_lift eP ?_
      go_ret
      refine ⟨?_, x1.trans hx6⟩
      rw [hC, h4, h5]
      cases fX m.ex <;> rfl
theorem FS {r q : mD} {w : World} : (Op.equalIn 10000 54 (.agg #[aH r.1, .int .i64 r.2]) (.agg #[aH q.1, .int .i64 q.2])).run Tryz.prog w = .ok (decide (r = q)) w := by
 have hS : Tryz.prog.underlying 54 = some (.struct (Tryz.prog.fieldsOf 54)) := by kernel_rfl
 rw [show (10000 : Nat) = 9999 + 1 from rfl, run_equalIn_agg w 9999 54 _ _ hS (by kernel_rfl)]
 simp only [Program.fieldsOf, Tryz.underlying54]
 have u3 := Tryz.underlying3
 have u31 := Tryz.underlying47
 have a3 := Tryz.isAgg3
 have a31 := Tryz.isAgg47
 have z3 := Tryz.sizeOf3
 have z31 := Tryz.sizeOf47
 unfold aH
 go_simp
 obtain ⟨a1, a2⟩ := r
 obtain ⟨b1, b2⟩ := q
 simp only [Prod.mk.injEq]
 by_cases h1 : a1 = b1 <;> by_cases h2 : a2 = b2 <;> simp [h1, h2]
theorem Runs.neqQst {r q : mD} {x y : Operand} {a : Act} {w : World} {d : Option Nat} {u ty : TypeId} {ps : String} {af : Array Edge} {g : Option (Nat × Bool)}
 (hx : a.eval x = .agg #[aH r.1, .int .i64 r.2]) (hy : a.eval y = .agg #[aH q.1, .int .i64 q.2]) :
 Runs Tryz.prog (Oper.mk d (.binOp .neq 54 x y u) ty ps af g) a w (.bool (!decide (r = q))) := by
 constructor
 have hg := run_eqGuard_agg (P := Tryz.prog) w .neq 54 x y #[aH r.1, .int .i64 r.2] #[aH q.1, .int .i64 q.2] (by kernel_rfl)
 simp only [execOp, hx, hy, Sem.run_bind, hg, Result.andThen_ok, run_neq_struct, FS, Sem.run_pure]
section
variable {P : Program} {ts : List Value} {df : List Deferred} {w : World} {d : Option Nat} {ty : TypeId} {ps : String} {af : Array Edge} {g : Option (Nat × Bool)}
theorem Runs.neqBDiff {t u : TypeId} {x y : Operand} {a b : Bool} (hab : ¬ a = b) (hx : (Act.mk ts.toArray df).eval x = .bool a) (hy : (Act.mk ts.toArray df).eval y = .bool b) (ht : qY P t = true) : Runs P (Oper.mk d (.binOp .neq t x y u) ty ps af g) (Act.mk ts.toArray df) w (.bool true) := by
 have h := Runs.neqB2 (P := P) (ts := ts) (df := df) (w := w) (d := d) (ty := ty) (ps := ps) (af := af) (g := g) (t := t) (u := u) hx hy ht
 rwa [show (a != b) = true by cases a <;> cases b <;> simp_all] at h
end
def hO (m : MsgR) : Int × Bool × Int × Bool × Bool × Bool × Bool × Int × Int := (m.id, m.resp, m.op, m.auth, m.trunc, m.want, m.avail, m.rcode, m.size)
theorem MY {m n : MsgR} (h : hO m = hO n) (h1 : m.qs = n.qs) : decide (m = n) = (decide (m.an = n.an) && decide (m.au = n.au) && decide (m.ex = n.ex)) := by
 cases m; cases n
 simp only [hO, Prod.mk.injEq] at h h1
 simp only [MsgR.mk.injEq]
 obtain ⟨rfl, rfl, rfl, rfl, rfl, rfl, rfl, rfl, rfl⟩ := h
 subst h1
 simp [Bool.decide_and, Bool.and_assoc]
theorem jB {m n : MsgR} (h : ¬ (hO m = hO n ∧ m.qs = n.qs)) : decide (m = n) = false := by
 refine decide_eq_false fun e => h ?_
 rw [e]; exact ⟨rfl, rfl⟩
set_option maxHeartbeats 8000000 in
theorem KR (m n : MsgR) (q a u e q' a' u' e' : Value) (w : World) (hm : MsgV w m q a u e) (hn : MsgV w n q' a' u' e') : Calls Tryz.prog 12 #[.agg (aU m q a u e).toArray, .agg (aU n q' a' u' e').toArray] w (bO w (.bool (decide (m = n)))) := by
 have hql := bP m.qs
 have hql' := bP n.qs
 have hqle := hm.qs.le
 go_enter Tryz.func12, Tryz.ntmps12
 refine_lift yA fun _ _ => ?_
 refine bR (vs := aU m q a u e) rfl rfl ?_
 intro p w1 x1 hp
 refine aA ?_
 refine bR (vs := aU n q' a' u' e') rfl rfl ?_
 intro p' w2 x2 hp'
 refine aA ?_
 have hp2 := hp.ext x2
 have hx2 := x1.trans x2
 have hq2 := hm.qs.ext hx2
 have hq2' := hn.qs.ext hx2
 unfold aU at hp' hp2
 clear hp x1 x2
 ((with_reducible refine aI ?_); (first | (refine hV ?_; refine eV ?_) | (refine lY ?_; refine nP ?_; (with_reducible refine aI ?_); refine hV ?_; refine eV ?_)))
 (first | ((with_reducible refine aJ ?_); go_step) | fail)
 (first | ((with_reducible refine aJ ?_); go_step) | fail)
 (first | ((with_reducible refine aJ ?_); go_step) | fail)
 (first | ((with_reducible refine aJ ?_); go_step) | fail)
 (first | ((with_reducible refine aJ ?_); go_step) | fail)
 simp only [List.append]
 by_cases e0 : m.id = n.id
 ·skip
  by_cases e1 : m.resp = n.resp
  ·skip
   by_cases e2 : m.op = n.op
   ·skip
    by_cases e3 : m.auth = n.auth
    ·skip
     by_cases e4 : m.trunc = n.trunc
     ·skip
      by_cases e5 : m.want = n.want
      ·skip
       by_cases e6 : m.avail = n.avail
       ·skip
        by_cases e7 : m.rcode = n.rcode
        ·skip
         by_cases e8 : m.size = n.size
         ·skip
          by_cases e9 : m.qs.length = n.qs.length
          ·have e9' : ((bQ m.qs).length : Int) = ((bQ n.qs).length : Int) := by rw [bP, bP]; omega
           rw [e0] at hp2
           rw [e1] at hp2
           rw [e2] at hp2
           rw [e3] at hp2
           rw [e4] at hp2
           rw [e5] at hp2
           rw [e6] at hp2
           rw [e7] at hp2
           rw [e8] at hp2
           refine_lift eP ?_
           refine aN (Runs.neqBSame rfl rfl (by decide +kernel)) ?_
           refine aA ?_
           refine_lift eP ?_
           refine aN (Runs.neqBSame rfl rfl (by decide +kernel)) ?_
           refine aA ?_
           refine_lift eP ?_
           refine aN (Runs.neqBSame rfl rfl (by decide +kernel)) ?_
           refine aA ?_
           refine_lift eP ?_
           refine aN (Runs.neqBSame rfl rfl (by decide +kernel)) ?_
           refine aA ?_
           refine_lift eP ?_
           refine aN (Runs.neqBSame rfl rfl (by decide +kernel)) ?_
           refine aA ?_
           refine_lift MF (fun _ _ _ => ?_) (fun _ => ?_)
           all_goals first
            | (exfalso; have hh := ‹(!decide (((bQ m.qs).length : Int) = ((bQ n.qs).length : Int))) = true›; simp [e9'] at hh; done)
            | skip
           have hH : hO m = hO n := by simp only [hO, e0, e1, e2, e3, e4, e5, e6, e7, e8]
           go_loopw [5] (fun i wr => ∃ k : Nat, k ≤ m.qs.length ∧ i = .int .i64 k ∧ Ext w2 wr ∧ m.qs.take k = n.qs.take k) (fun i _ => m.qs.length - (intOf i).toNat)
           case atStart => exact ⟨0, Nat.zero_le _, rfl, Ext.refl _, rfl⟩
           case round =>
            obtain ⟨k, hk, rfl, hx, hall⟩ := hrel
            have hqx := hq2.ext hx
            have hqx' := hq2'.ext hx
            have hpx := hp2.ext hx
            have hpx' := hp'.ext hx
            by_cases hlt : k < m.qs.length
            ·have hlt2 : k < n.qs.length := by omega
             have hpa := hqx.elem (gQ hlt)
             have hpb := hqx'.elem (gQ hlt2)
             refine_lift RJ ?_; intro _ _ _ _ _ _
             refine dY (by decide +kernel) (by decide +kernel) ?_
             refine_lift RF ?_
             refine kI (fun w' _ => Runs.neqQst (r := m.qs[k]) (q := n.qs[k]) rfl rfl) ?_
             refine aA ?_
             refine_lift RF ?_
             intro w4 x4
             refine_lift GN (fun _ => ?_) (fun _ => ?_)
             ·have hne := ‹(!decide (m.qs[k] = n.qs[k])) = true›
              have hab : m.qs ≠ n.qs := tM hlt hlt2 (by simpa using hne)
              go_ret
              refine ⟨?_, hx2.trans (hx.trans x4)⟩
              rw [jB (fun h => hab h.2)]; rfl
             ·have heq := ‹(!decide (m.qs[k] = n.qs[k])) = false›
              exact ⟨⟨k + 1, by omega, by go_num, hx.trans x4, iJ hall hlt hlt2 (by simpa using heq)⟩, by simp [intOf]; omega⟩
            ·have : k = m.qs.length := by omega
             subst this
             have hab : m.qs = n.qs := by rw [List.take_length, e9, List.take_length] at hall; exact hall
             refine_lift RH fun _ _ _ => ?_
             refine aE (enters_of Tryz.func28 rfl rfl) rfl rfl (yE a a' m.an n.an _ ((hm.an.ext hx2).ext hx) ((hn.an.ext hx2).ext hx)) ?_; intro w4 x4; refine aA ?_
             have hx4 := hx.trans x4
             have hp4 := hp2.ext hx4
             have hp4' := hp'.ext hx4
             have hF := MY hH hab
             by_cases c4 : m.an = n.an
             ·rw [decide_eq_true c4] at hF ⊢
              refine_lift eP ?_
              refine aE (enters_of Tryz.func28 rfl rfl) rfl rfl (yE u u' m.au n.au _ ((hm.au.ext hx2).ext hx4) ((hn.au.ext hx2).ext hx4)) ?_; intro w6 x6; refine aA ?_
              have hx6 := hx4.trans x6
              have hp6 := hp2.ext hx6
              have hp6' := hp'.ext hx6
              by_cases c6 : m.au = n.au
              ·rw [decide_eq_true c6] at hF ⊢
               refine_lift eP ?_
               refine aE (enters_of Tryz.func28 rfl rfl) rfl rfl (yE e e' m.ex n.ex _ ((hm.ex.ext hx2).ext hx6) ((hn.ex.ext hx2).ext hx6)) ?_; intro w7 x7; refine aA ?_
               refine_lift eP ?_
               go_ret
               refine ⟨?_, hx2.trans (hx6.trans x7)⟩
               rw [hF]; rfl
              ·rw [decide_eq_false c6] at hF ⊢
               refine_lift eP ?_
               go_ret
               refine ⟨?_, hx2.trans hx6⟩
               rw [hF]; rfl
             ·rw [decide_eq_false c4] at hF ⊢
              refine_lift eP ?_
              go_ret
              refine ⟨?_, hx2.trans hx4⟩
              rw [hF]; rfl
          ·have e9' : ¬ ((bQ m.qs).length : Int) = ((bQ n.qs).length : Int) := by rw [bP, bP]; omega
           rw [e0] at hp2
           rw [e1] at hp2
           rw [e2] at hp2
           rw [e3] at hp2
           rw [e4] at hp2
           rw [e5] at hp2
           rw [e6] at hp2
           rw [e7] at hp2
           rw [e8] at hp2
           refine_lift eP ?_
           refine aN (Runs.neqBSame rfl rfl (by decide +kernel)) ?_
           refine aA ?_
           refine_lift eP ?_
           refine aN (Runs.neqBSame rfl rfl (by decide +kernel)) ?_
           refine aA ?_
           refine_lift eP ?_
           refine aN (Runs.neqBSame rfl rfl (by decide +kernel)) ?_
           refine aA ?_
           refine_lift eP ?_
           refine aN (Runs.neqBSame rfl rfl (by decide +kernel)) ?_
           refine aA ?_
           refine_lift eP ?_
           refine aN (Runs.neqBSame rfl rfl (by decide +kernel)) ?_
           refine aA ?_
           refine_lift MF (fun _ _ _ => ?_) (fun _ => ?_)
           all_goals first
            | (exfalso; have hh := ‹(!decide (((bQ m.qs).length : Int) = ((bQ n.qs).length : Int))) = false›; simp [e9'] at hh; done)
            | skip
           go_ret
           refine ⟨?_, hx2⟩
           rw [jB (by rintro ⟨_, e⟩; exact e9 (congrArg List.length e))]; rfl
         ·skip
          rw [e0] at hp2
          rw [e1] at hp2
          rw [e2] at hp2
          rw [e3] at hp2
          rw [e4] at hp2
          rw [e5] at hp2
          rw [e6] at hp2
          rw [e7] at hp2
          refine_lift eP ?_
          refine aN (Runs.neqBSame rfl rfl (by decide +kernel)) ?_
          refine aA ?_
          refine_lift eP ?_
          refine aN (Runs.neqBSame rfl rfl (by decide +kernel)) ?_
          refine aA ?_
          refine_lift eP ?_
          refine aN (Runs.neqBSame rfl rfl (by decide +kernel)) ?_
          refine aA ?_
          refine_lift eP ?_
          refine aN (Runs.neqBSame rfl rfl (by decide +kernel)) ?_
          refine aA ?_
          refine_lift eP ?_
          refine aN (Runs.neqBSame rfl rfl (by decide +kernel)) ?_
          refine aA ?_
          refine_lift OE (fun hc _ _ _ => ?_) (fun hc => ?_) (fun hc _ => ?_)
          all_goals first
           | (exfalso; have hh := ‹(!decide (m.size = n.size)) = false›; simp [e8] at hh; done)
           | skip
          go_ret
          refine ⟨?_, hx2⟩
          rw [jB (by rintro ⟨e, _⟩; simp only [hO, Prod.mk.injEq] at e; exact e8 e.2.2.2.2.2.2.2.2)]; rfl
        ·skip
         rw [e0] at hp2
         rw [e1] at hp2
         rw [e2] at hp2
         rw [e3] at hp2
         rw [e4] at hp2
         rw [e5] at hp2
         rw [e6] at hp2
         refine_lift eP ?_
         refine aN (Runs.neqBSame rfl rfl (by decide +kernel)) ?_
         refine aA ?_
         refine_lift eP ?_
         refine aN (Runs.neqBSame rfl rfl (by decide +kernel)) ?_
         refine aA ?_
         refine_lift eP ?_
         refine aN (Runs.neqBSame rfl rfl (by decide +kernel)) ?_
         refine aA ?_
         refine_lift eP ?_
         refine aN (Runs.neqBSame rfl rfl (by decide +kernel)) ?_
         refine aA ?_
         refine_lift eP ?_
         refine aN (Runs.neqBSame rfl rfl (by decide +kernel)) ?_
         refine aA ?_
         refine_lift MG (fun hc hc _ _ _ => ?_) (fun hc hc => ?_) (fun hc => ?_) (fun hc hc _ => ?_)
         all_goals first
          | (exfalso; have hh := ‹(!decide (m.rcode = n.rcode)) = false›; simp [e7] at hh; done)
          | skip
         go_ret
         refine ⟨?_, hx2⟩
         rw [jB (by rintro ⟨e, _⟩; simp only [hO, Prod.mk.injEq] at e; exact e7 e.2.2.2.2.2.2.2.1)]; rfl
       ·skip
        rw [e0] at hp2
        rw [e1] at hp2
        rw [e2] at hp2
        rw [e3] at hp2
        rw [e4] at hp2
        rw [e5] at hp2
        refine_lift eP ?_
        refine aN (Runs.neqBSame rfl rfl (by decide +kernel)) ?_
        refine aA ?_
        refine_lift eP ?_
        refine aN (Runs.neqBSame rfl rfl (by decide +kernel)) ?_
        refine aA ?_
        refine_lift eP ?_
        refine aN (Runs.neqBSame rfl rfl (by decide +kernel)) ?_
        refine aA ?_
        refine_lift eP ?_
        refine aN (Runs.neqBSame rfl rfl (by decide +kernel)) ?_
        refine aA ?_
        refine_lift eP ?_
        refine aN (Runs.neqBDiff e6 rfl rfl (by decide +kernel)) ?_
        refine aA ?_
        refine_lift eP ?_
        go_ret
        refine ⟨?_, hx2⟩
        rw [jB (by rintro ⟨e, _⟩; simp only [hO, Prod.mk.injEq] at e; exact e6 e.2.2.2.2.2.2.1)]; rfl
      ·skip
       rw [e0] at hp2
       rw [e1] at hp2
       rw [e2] at hp2
       rw [e3] at hp2
       rw [e4] at hp2
       refine_lift eP ?_
       refine aN (Runs.neqBSame rfl rfl (by decide +kernel)) ?_
       refine aA ?_
       refine_lift eP ?_
       refine aN (Runs.neqBSame rfl rfl (by decide +kernel)) ?_
       refine aA ?_
       refine_lift eP ?_
       refine aN (Runs.neqBSame rfl rfl (by decide +kernel)) ?_
       refine aA ?_
       refine_lift eP ?_
       refine aN (Runs.neqBDiff e5 rfl rfl (by decide +kernel)) ?_
       refine aA ?_
       refine_lift eP ?_
       go_ret
       refine ⟨?_, hx2⟩
       rw [jB (by rintro ⟨e, _⟩; simp only [hO, Prod.mk.injEq] at e; exact e5 e.2.2.2.2.2.1)]; rfl
     ·skip
      rw [e0] at hp2
      rw [e1] at hp2
      rw [e2] at hp2
      rw [e3] at hp2
      refine_lift eP ?_
      refine aN (Runs.neqBSame rfl rfl (by decide +kernel)) ?_
      refine aA ?_
      refine_lift eP ?_
      refine aN (Runs.neqBSame rfl rfl (by decide +kernel)) ?_
      refine aA ?_
      refine_lift eP ?_
      refine aN (Runs.neqBDiff e4 rfl rfl (by decide +kernel)) ?_
      refine aA ?_
      refine_lift eP ?_
      go_ret
      refine ⟨?_, hx2⟩
      rw [jB (by rintro ⟨e, _⟩; simp only [hO, Prod.mk.injEq] at e; exact e4 e.2.2.2.2.1)]; rfl
    ·skip
     rw [e0] at hp2
     rw [e1] at hp2
     rw [e2] at hp2
     refine_lift eP ?_
     refine aN (Runs.neqBSame rfl rfl (by decide +kernel)) ?_
     refine aA ?_
     refine_lift eP ?_
     refine aN (Runs.neqBDiff e3 rfl rfl (by decide +kernel)) ?_
     refine aA ?_
     refine_lift eP ?_
     go_ret
     refine ⟨?_, hx2⟩
     rw [jB (by rintro ⟨e, _⟩; simp only [hO, Prod.mk.injEq] at e; exact e3 e.2.2.2.1)]; rfl
   ·skip
    rw [e0] at hp2
    rw [e1] at hp2
    refine_lift eP ?_
    refine aN (Runs.neqBSame rfl rfl (by decide +kernel)) ?_
    refine aA ?_
    refine_lift GN (fun hc => ?_) (fun hc => ?_)
    all_goals first
     | (exfalso; have hh := ‹(!decide (m.op = n.op)) = false›; simp [e2] at hh; done)
     | skip
    go_ret
    refine ⟨?_, hx2⟩
    rw [jB (by rintro ⟨e, _⟩; simp only [hO, Prod.mk.injEq] at e; exact e2 e.2.2.1)]; rfl
  ·skip
   rw [e0] at hp2
   refine_lift eP ?_
   refine aN (Runs.neqBDiff e1 rfl rfl (by decide +kernel)) ?_
   refine aA ?_
   refine_lift eP ?_
   go_ret
   refine ⟨?_, hx2⟩
   rw [jB (by rintro ⟨e, _⟩; simp only [hO, Prod.mk.injEq] at e; exact e1 e.2.1)]; rfl
 ·skip
  refine_lift GN (fun hc => ?_) (fun hc => ?_)
  all_goals first
   | (exfalso; have hh := ‹(!decide (m.id = n.id)) = false›; simp [e0] at hh; done)
   | skip
  go_ret
  refine ⟨?_, hx2⟩
  rw [jB (by rintro ⟨e, _⟩; simp only [hO, Prod.mk.injEq] at e; exact e0 e.1)]; rfl
abbrev KS := Bool × MsgR
def QB (s : KS) (q a u e : Value) : List Value := .bool s.1 :: aU s.2 q a u e
structure RopsAt (w : World) (v : Value) (l : List KS) : Prop where
 out : ∃ css, Sl 14 w v css ∧ css.length = l.length ∧ ∀ (i : Nat) (s : KS), l[i]? = some s → ∃ q a u e, css[i]? = some (QB s q a u e) ∧ MsgV w s.2 q a u e
theorem RopsAt.ext {w w' : World} {v : Value} {l : List KS} (h : RopsAt w v l) (hx : Ext w w') : RopsAt w' v l := by
 obtain ⟨css, h1, h2, h3⟩ := h
 exact ⟨css, h1.ext hx, h2, fun i s hi => let ⟨q, a, u, e, h4, h5⟩ := h3 i s hi; ⟨q, a, u, e, h4, h5.ext hx⟩⟩
end Go.Proofs.X
set_option linter.unusedSimpArgs false
set_option linter.unusedVariables false
namespace Go.Proofs.X
open Go.RowKit
end Go.Proofs.X
set_option linter.unusedSimpArgs false
set_option linter.unusedVariables false
namespace Go.Proofs.X
open Go.RowKit
set_option maxRecDepth 100000
section
variable {P : Program} {w : World} {ts : List Value} {df : List Deferred}
end
end Go.Proofs.X
set_option linter.unusedSimpArgs false
set_option linter.unusedVariables false
namespace Go.Proofs.X
open Go.RowKit
end Go.Proofs.X
set_option linter.unusedSimpArgs false
set_option linter.unusedVariables false
namespace Go.Proofs.X
open Go.RowKit
end Go.Proofs.X
set_option linter.unusedSimpArgs false
set_option linter.unusedVariables false
namespace Go.Proofs.X
open Go.RowKit
set_option maxRecDepth 100000
end Go.Proofs.X
set_option linter.unusedSimpArgs false
set_option linter.unusedVariables false
namespace Go.Proofs.X
open Go.RowKit
end Go.Proofs.X
set_option linter.unusedSimpArgs false
set_option linter.unusedVariables false
namespace Go.Proofs.X
open Go.RowKit
set_option maxRecDepth 100000
section
variable {P : Program} {w w0 : World} {ts : List Value} {df : List Deferred} {d : Option Nat} {ty : TypeId} {ps : String} {af : Array Edge} {g : Option (Nat × Bool)}
end
theorem Own.same {B k e : Nat} {w w' : World} {v : Value} {es : List (List Value)} (h : Own B k e w v es) (hs : ∀ r, v.ownBlock = some r → w'.heap[r]? = w.heap[r]?) : Own B k e w' v es := by
 obtain ⟨⟨h1, h2⟩, h3⟩ := h
 refine ⟨⟨h1, ?_⟩, h3⟩
 rcases h2 with h2 | ⟨gg, cap, cur, fz, rfl, hb, hg, r⟩
 ·exact .inl h2
 ·exact .inr ⟨gg, cap, cur, fz, rfl, hb, by rw [hs gg rfl]; exact hg, r⟩
end Go.Proofs.X
set_option linter.unusedSimpArgs false
set_option linter.unusedVariables false
namespace Go.Proofs.X
open Go.RowKit
end Go.Proofs.X
set_option linter.unusedSimpArgs false
set_option linter.unusedVariables false
namespace Go.Proofs.X
open Go.RowKit
end Go.Proofs.X
set_option linter.unusedSimpArgs false
set_option linter.unusedVariables false
namespace Go.Proofs.X
open Go.RowKit
set_option maxRecDepth 100000
structure RdS where
 at_ : Int
 e : Int
 deriving DecidableEq
def oR (s : List UInt8) (r : RdS) : List Value := [aH s, .int .i64 r.at_, .int .i64 r.e]
def cM (w : World) (b : Nat) (s : List UInt8) (r : RdS) : Prop := w.heap[b]? = some (.cells (oR s r).toArray 82 (0, 0))
def jC (w : World) (b : Nat) (s : List UInt8) (v : Value) (r : RdS) (e : Ending) (w' : World) : Prop := e = .returned v ∧ cM w' b s r ∧ Mv (some b) w w'
def RdS.want (r : RdS) (is : Bool) (er : Int) : RdS := if r.e = 0 ∧ is = false then ⟨r.at_, er⟩ else r
theorem fB {w : World} {b : Nat} {s : List UInt8} {r : RdS} (h : cM w b s r) (is : Bool) (er : Int) : Calls Tryz.prog 44 #[.pointer (some ⟨b, 0, none⟩), .bool is, .int .i64 er] w (jC w b s (.bool (decide ((r.want is er).e = 0))) (r.want is er)) := by
 have hp := aD (cs := oR s r) h
 go_enter Tryz.func44, Tryz.ntmps44
 by_cases c1 : r.e = 0
 ·cases is with
  | false =>
   have hE : r.want false er = ⟨r.at_, er⟩ := by unfold RdS.want; rw [if_pos ⟨c1, rfl⟩]
   (repeat' first | ((with_reducible refine aJ ?_); go_step) | ((with_reducible refine aI ?_); first | refine aW ?_ | (refine aL ?_ ?_ <;> intro hc)) | fail)
   all_goals first
    | (exfalso; omega)
    | skip
   refine aO (n := 2) (v := .int .i64 er) h rfl rfl rfl (by simp [oR]) (by decide +kernel) rfl ?_
   intro w1 p1
   have h1 : cM w1 b s ⟨r.at_, er⟩ := p1.this
   have hp1 := aD (cs := oR s ⟨r.at_, er⟩) h1
   clear hp
   (repeat' first | ((with_reducible refine aJ ?_); go_step) | ((with_reducible refine aI ?_); first | refine aW ?_ | (refine aL ?_ ?_ <;> intro hc)) | fail)
   go_ret
   rw [hE]
   exact ⟨rfl, h1, p1.mv⟩
  | true =>
   have hE : r.want true er = r := by unfold RdS.want; rw [if_neg (by rintro ⟨_, h⟩; cases h)]
   (repeat' first | ((with_reducible refine aJ ?_); go_step) | ((with_reducible refine aI ?_); first | refine aW ?_ | (refine aL ?_ ?_ <;> intro hc)) | fail)
   all_goals first
    | (exfalso; omega)
    | skip
   go_ret
   rw [hE]
   exact ⟨rfl, h, Mv.refl _ _⟩
 ·have hE : r.want is er = r := by unfold RdS.want; rw [if_neg (fun h => c1 h.1)]
  (repeat' first | ((with_reducible refine aJ ?_); go_step) | ((with_reducible refine aI ?_); first | refine aW ?_ | (refine aL ?_ ?_ <;> intro hc)) | fail)
  all_goals first
   | (exfalso; omega)
   | skip
  go_ret
  rw [hE]
  exact ⟨rfl, h, Mv.refl _ _⟩
def RdS.take (s : List UInt8) (r : RdS) (n : Int) : List UInt8 × RdS :=
 if r.e ≠ 0 then ([], r) else if (s.length : Int) - r.at_ < n then ([], ⟨r.at_, 3⟩) else ((s.drop r.at_.toNat).take n.toNat, ⟨r.at_ + n, 0⟩)
structure RdS.Ok (s : List UInt8) (r : RdS) : Prop where
 lo : 0 ≤ r.at_
 hi : r.e = 0 → r.at_ ≤ s.length
 far : r.at_ ≤ 100000000
theorem RdS.Ok.want {s : List UInt8} {r : RdS} (h : r.Ok s) (is : Bool) {er : Int} (he : er ≠ 0) : (r.want is er).Ok s := by
 unfold RdS.want
 split
 ·exact ⟨h.lo, fun e => absurd e he, h.far⟩
 ·exact h
theorem RdS.Ok.take {s : List UInt8} {r : RdS} (h : r.Ok s) (hs : s.length ≤ 100000000) {n : Int} (hn : 0 ≤ n) : (r.take s n).2.Ok s := by
 unfold RdS.take
 have := h.lo
 split
 ·exact h
 ·split
  ·exact ⟨h.lo, fun e => (by cases e), h.far⟩
  ·exact ⟨by dsimp only; omega, fun _ => by dsimp only; omega, by dsimp only; omega⟩
set_option maxHeartbeats 1000000 in
theorem uX {w : World} {b : Nat} {s : List UInt8} {r : RdS} (h : cM w b s r) (hr : r.Ok s) (hs : s.length ≤ 100000000) (n : Int) (h0 : 0 ≤ n) (h1 : n ≤ 100000000) : Calls Tryz.prog 98 #[.pointer (some ⟨b, 0, none⟩), .int .i64 n] w (jC w b s (aH (r.take s n).1) (r.take s n).2) := by
 have hp := aD (cs := oR s r) h
 have a0 := hr.lo
 have a1 := hr.hi
 have a2 := hr.far
 go_enter Tryz.func98, Tryz.ntmps98
 (repeat' first | ((with_reducible refine aJ ?_); go_step) | ((with_reducible refine aI ?_); first | refine aW ?_ | (refine aL ?_ ?_ <;> intro hc)) | fail)
 refine cA 13 (Ext w) (by decide +kernel) ?_
 intro w1 x1 _
 refine ⟨x1, ?_⟩
 refine dD 0 ?_; refine dD 1 ?_; refine dD 2 ?_; refine dD 3 ?_; refine dD 4 ?_; refine dD 5 ?_; refine dD 6 ?_; refine dD 7 ?_; refine dD 8 ?_; refine dD 9 ?_; refine dD 10 ?_; refine dD 11 ?_; refine dD 12 ?_
 have hw1 : cM w1 b s r := x1.at h
 have hcw := fB hw1 (decide (n ≤ (s.length : Int) - r.at_)) 3
 by_cases c1 : r.e = 0 ∧ n ≤ (s.length : Int) - r.at_
 ·obtain ⟨c1, c2⟩ := c1
  have hR : r.take s n = ((s.drop r.at_.toNat).take n.toNat, ⟨r.at_ + n, 0⟩) := by unfold RdS.take; rw [if_neg (by omega), if_neg (by omega)]
  have hW : r.want (decide (n ≤ (s.length : Int) - r.at_)) 3 = r := by rw [decide_eq_true c2]; unfold RdS.want; rw [if_neg (by rintro ⟨_, h⟩; cases h)]
  rw [hW, decide_eq_true c1] at hcw
  refine bG (i := 13) (by decide +kernel) rfl rfl ?_
  refine aF (vs := [.pointer (some ⟨b, 0, none⟩), .bool (decide (n ≤ (s.length : Int) - r.at_)), .int .i64 3]) (enters_of Tryz.func44 rfl rfl) rfl rfl hcw ?_
  rintro _ w2 ⟨rfl, h2, m2⟩
  refine ⟨_, rfl, ?_⟩
  refine aA ?_
  refine aK ⟨bX rfl, ?_⟩
  refine bG (i := 14) (by decide +kernel) rfl rfl ?_
  ((with_reducible refine aI ?_); (first | (refine hV ?_; refine eV ?_) | (refine lY ?_; refine nP ?_; (with_reducible refine aI ?_); refine hV ?_; refine eV ?_)))
  refine aK ⟨bX rfl, ?_⟩
  refine cR (by decide +kernel) ?_
  have hp2 := aD (cs := oR s r) h2
  have m02 := (x1.mv (some b)).trans m2
  clear hp
  (repeat' first | ((with_reducible refine aJ ?_); go_step) | ((with_reducible refine aI ?_); first | refine aW ?_ | (refine aL ?_ ?_ <;> intro hc)) | fail)
  refine aO (n := 1) (v := .int .i64 (r.at_ + n)) h2 rfl rfl rfl (by simp [oR]) (by decide +kernel) rfl ?_
  intro w3 p3
  have h3 : cM w3 b s ⟨r.at_ + n, r.e⟩ := p3.this
  have hp3 := aD (cs := oR s ⟨r.at_ + n, r.e⟩) h3
  have m03 := m02.trans p3.mv
  clear hp2
  have a3 := a1 c1
  (repeat' first | ((with_reducible refine aJ ?_); go_step) | ((with_reducible refine aI ?_); first | refine aW ?_ | (refine aL ?_ ?_ <;> intro hc)) | fail)
  refine dY (by decide +kernel) (by decide +kernel) ?_
  (try ((with_reducible refine vH ?_); refine EK ?_))
  intro w4 x4
  (repeat' first | ((with_reducible refine aJ ?_); go_step) | ((with_reducible refine aI ?_); first | refine aW ?_ | (refine aL ?_ ?_ <;> intro hc)) | fail)
  go_ret
  rw [hR]
  refine ⟨?_, by rw [← c1]; exact x4.at h3, m03.trans (x4.mv _)⟩
  have e : List.drop (r.at_ + n - n).toNat (List.take (r.at_ + n).toNat s) = (s.drop r.at_.toNat).take n.toNat := by
   rw [show r.at_ + n - n = r.at_ by omega, List.drop_take, show (r.at_ + n).toNat - r.at_.toNat = n.toNat by omega]
  show Ending.returned (aH _) = _
  rw [e]
 ·have hne : (r.want (decide (n ≤ (s.length : Int) - r.at_)) 3).e ≠ 0 := by
   unfold RdS.want
   split
   ·exact fun e => by cases e
   ·rename_i c
    intro e
    exact c1 ⟨e, by
     by_cases h9 : n ≤ (s.length : Int) - r.at_
     ·exact h9
     ·exact absurd ⟨e, decide_eq_false h9⟩ c⟩
  have hR : r.take s n = ([], r.want (decide (n ≤ (s.length : Int) - r.at_)) 3) := by
   unfold RdS.take RdS.want
   by_cases h8 : r.e = 0
   ·have h9 : ¬ n ≤ (s.length : Int) - r.at_ := fun h => c1 ⟨h8, h⟩
    rw [if_neg (by omega), if_pos (by omega), if_pos ⟨h8, decide_eq_false h9⟩]
   ·rw [if_pos h8, if_neg (fun h => h8 h.1)]
  rw [decide_eq_false hne] at hcw
  refine bG (i := 13) (by decide +kernel) rfl rfl ?_
  refine aF (vs := [.pointer (some ⟨b, 0, none⟩), .bool (decide (n ≤ (s.length : Int) - r.at_)), .int .i64 3]) (enters_of Tryz.func44 rfl rfl) rfl rfl hcw ?_
  rintro _ w2 ⟨rfl, h2, m2⟩
  refine ⟨_, rfl, ?_⟩
  refine aA ?_
  refine aK ⟨bX rfl, ?_⟩
  refine bG (i := 14) (by decide +kernel) rfl rfl ?_
  ((with_reducible refine aI ?_); (first | (refine hV ?_; refine eV ?_) | (refine lY ?_; refine nP ?_; (with_reducible refine aI ?_); refine hV ?_; refine eV ?_)))
  refine aK ⟨bX rfl, ?_⟩
  refine cR (by decide +kernel) ?_
  (repeat' first | ((with_reducible refine aJ ?_); go_step) | ((with_reducible refine aI ?_); first | refine aW ?_ | (refine aL ?_ ?_ <;> intro hc)) | fail)
  go_ret
  rw [hR]
  exact ⟨rfl, h2, (x1.mv (some b)).trans m2⟩
def BG (l : List UInt8) : Nat := l.foldl (fun n c => n * 256 + c.toNat) 0
theorem xN {l : List UInt8} {k : Nat} (h : k < l.length) : BG (l.take (k + 1)) = BG (l.take k) * 256 + l[k].toNat := by
 rw [BG, List.take_succ_eq_append_getElem h, List.foldl_append]; rfl
theorem yQ (l : List UInt8) : ∀ k, k ≤ l.length → BG (l.take k) < 256 ^ k
 | 0, _ => by simp [BG]
 | k + 1, h => by
   rw [xN (by omega)]
   have := yQ l k (by omega)
   have h2 : l[k].toNat < 256 := UInt8.toNat_lt _
   rw [Nat.pow_succ]
   omega
def RdS.number (s : List UInt8) (r : RdS) (k : Int) : Nat × RdS := (BG (r.take s k).1, (r.take s k).2)
theorem kT (s : List UInt8) (r : RdS) (n : Int) : (r.take s n).1.length ≤ n.toNat := by
 unfold RdS.take
 split
 ·exact Nat.zero_le _
 ·split
  ·exact Nat.zero_le _
  ·rw [List.length_take]; omega
theorem cV (s : List UInt8) (r : RdS) (n : Nat) (hn : n ≤ 4) : (r.number s n).1 < 256 ^ n := by
 unfold RdS.number
 have h1 := kT s r n
 have h2 := yQ (r.take s n).1 (r.take s n).1.length (Nat.le_refl _)
 rw [List.take_length] at h2
 refine Nat.lt_of_lt_of_le h2 (Nat.pow_le_pow_right (by omega) (by simpa using h1))
set_option maxHeartbeats 1000000 in
theorem dJ {w : World} {b : Nat} {s : List UInt8} {r : RdS} (h : cM w b s r) (hr : r.Ok s) (hs : s.length ≤ 100000000) (n : Int) (h0 : 0 ≤ n) (h1 : n ≤ 4) : Calls Tryz.prog 43 #[.pointer (some ⟨b, 0, none⟩), .int .i64 n] w (jC w b s (.int .i64 ((r.number s n).1 : Nat)) (r.number s n).2) := by
 have htl := kT s r n
 have hct := fun w h => uX (w := w) (b := b) h hr hs n h0 (by omega)
 unfold RdS.number
 generalize r.take s n = T at *
 obtain ⟨l, r'⟩ := T
 dsimp only at *
 go_enter Tryz.func43, Tryz.ntmps43
 (repeat' first | ((with_reducible refine aJ ?_); go_step) | ((with_reducible refine aI ?_); first | refine aW ?_ | (refine aL ?_ ?_ <;> intro hc)) | fail)
 refine aF (vs := [.pointer (some ⟨b, 0, none⟩), .int .i64 n]) (enters_of Tryz.func98 rfl rfl) rfl rfl (hct w h) ?_
 rintro _ w1 ⟨rfl, h1', m1⟩
 refine ⟨_, rfl, ?_⟩
 refine aA ?_
 refine nD (l := l) (e := 5) rfl rfl (by decide +kernel) (by decide +kernel) (by omega) ?_
 intro v2 w2 x2 o2
 refine aA ?_
 have hs2 := o2.sl
 have h2 : cM w2 b s r' := x2.at h1'
 have hbl : (aQ l).length = l.length := List.length_map ..
 have m2 := m1.trans (x2.mv (some b))
 (repeat' first | ((with_reducible refine aJ ?_); go_step) | ((with_reducible refine aI ?_); first | refine aW ?_ | (refine aL ?_ ?_ <;> intro hc)) | fail)
 have htl : l.length ≤ 4 := by omega
 go_loopw [5, 7, 13] (fun m _ i wr => ∃ k : Nat, k ≤ l.length ∧ i = .int .i64 k ∧ m = .int .i64 (BG (l.take k) : Nat) ∧ Ext w2 wr) (fun _ _ i _ => l.length - (intOf i).toNat)
 case atStart => exact ⟨0, Nat.zero_le _, rfl, rfl, Ext.refl _⟩
 case round =>
  obtain ⟨k, hk, rfl, rfl, hx⟩ := hrel
  have hsx := hs2.ext hx
  by_cases hlt : k < l.length
  ·have hn := yQ l k (by omega)
   have hn2 : BG (l.take k) * 256 < 4294967296 := by
    have : 256 ^ k ≤ 256 ^ 3 := Nat.pow_le_pow_right (by omega) (by omega)
    omega
   have hb : l[k].toNat < 256 := UInt8.toNat_lt _
   have hst := xN hlt
   have hpe := hsx.elem (i := k) (e := [.int .u8 (l[k].toNat : Nat)]) (by rw [aQ, List.getElem?_map, List.getElem?_eq_getElem hlt]; rfl)
   (repeat' first | ((with_reducible refine aJ ?_); go_step) | ((with_reducible refine aI ?_); first | refine aW ?_ | (refine aL ?_ ?_ <;> intro hc)) | fail)
   exact ⟨⟨k + 1, by omega, by go_num, by rw [hst], hx⟩, by simp [intOf]; omega⟩
  ·have : k = l.length := by omega
   subst this
   rw [List.take_length]
   (repeat' first | ((with_reducible refine aJ ?_); go_step) | ((with_reducible refine aI ?_); first | refine aW ?_ | (refine aL ?_ ?_ <;> intro hc)) | fail)
   go_ret
   exact ⟨rfl, hx.at h2, m2.trans (hx.mv _)⟩
section
variable {P : Program} {w : World} {a : Act} {d : Option Nat} {ty : TypeId} {ps : String} {af : Array Edge} {g : Option (Nat × Bool)}
theorem Runs.andN {t u : TypeId} {x y : Operand} {m n : Nat} (hx : a.eval x = .int .i64 (m : Nat)) (hy : a.eval y = .int .i64 (n : Nat)) (hm : m < 4611686018427387904) (hn : n < 4611686018427387904) :
 Runs P (Oper.mk d (.binOp .and t x y u) ty ps af g) a w (.int .i64 ((m &&& n : Nat) : Int)) := by
 have hle : m &&& n ≤ m := Nat.and_le_left
 have e : (BitVec.ofInt 64 (m : Int) &&& BitVec.ofInt 64 (n : Int)).toNat = m &&& n := by
  rw [BitVec.toNat_and, BitVec.ofInt_natCast, BitVec.ofInt_natCast, BitVec.toNat_ofNat, BitVec.toNat_ofNat, Nat.mod_eq_of_lt (by omega), Nat.mod_eq_of_lt (by omega)]
 have e2 : IntKind.i64.wrap ((m &&& n : Nat) : Int) = ((m &&& n : Nat) : Int) := IntWalk.i64_in _ (by omega)
 constructor
 have hb : (Op.intBits .and .i64 (m : Nat) (n : Nat)) = Sem.pure (.int .i64 ((m &&& n : Nat) : Int)) := by
  show Sem.pure (Value.int .i64 (IntKind.i64.wrap ((BitVec.ofInt 64 (m : Int) &&& BitVec.ofInt 64 (n : Int)).toNat : Nat))) = _
  rw [e, e2]
 simp only [execOp, hx, hy, eqGuard, binOp, hb, Sem.run_bind, Sem.run_pure, Result.andThen_ok]
 simp [Sem.run]
theorem Runs.orN {t u : TypeId} {x y : Operand} {m n : Nat} (hx : a.eval x = .int .i64 (m : Nat)) (hy : a.eval y = .int .i64 (n : Nat)) (hm : m < 4611686018427387904) (hn : n < 4611686018427387904) :
 Runs P (Oper.mk d (.binOp .or t x y u) ty ps af g) a w (.int .i64 ((m ||| n : Nat) : Int)) := by
 have hlt : m ||| n < 2 ^ 62 := Nat.or_lt_two_pow (by omega) (by omega)
 have e : (BitVec.ofInt 64 (m : Int) ||| BitVec.ofInt 64 (n : Int)).toNat = m ||| n := by
  rw [BitVec.toNat_or, BitVec.ofInt_natCast, BitVec.ofInt_natCast, BitVec.toNat_ofNat, BitVec.toNat_ofNat, Nat.mod_eq_of_lt (by omega), Nat.mod_eq_of_lt (by omega)]
 have e2 : IntKind.i64.wrap ((m ||| n : Nat) : Int) = ((m ||| n : Nat) : Int) := IntWalk.i64_in _ (by omega)
 constructor
 have hb : (Op.intBits .or .i64 (m : Nat) (n : Nat)) = Sem.pure (.int .i64 ((m ||| n : Nat) : Int)) := by
  show Sem.pure (Value.int .i64 (IntKind.i64.wrap ((BitVec.ofInt 64 (m : Int) ||| BitVec.ofInt 64 (n : Int)).toNat : Nat))) = _
  rw [e, e2]
 simp only [execOp, hx, hy, eqGuard, binOp, hb, Sem.run_bind, Sem.run_pure, Result.andThen_ok]
 simp [Sem.run]
end
end Go.Proofs.X
