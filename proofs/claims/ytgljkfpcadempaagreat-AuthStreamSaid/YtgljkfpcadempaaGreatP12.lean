/- Laws and walks that the proof of the statement is made of (part 12). -/
import Derived.Test.YtgljkfpcadempaaGreatP11
set_option linter.unusedSimpArgs false
set_option linter.unusedVariables false
namespace Go.Proofs.X
open Go.RowKit
set_option maxRecDepth 100000
theorem ET : WideMaps.KeyLaw Tryz.prog 47 := WideMaps.string_law Tryz.underlying47
theorem MA (n : List UInt8) (hn : n.length ≤ 1000000) : ∃ l, keyOf Tryz.prog 47 (aI n) = some l :=
 ⟨_, WideMaps.keyOf_string_mk Tryz.underlying47 (by rw [eJ]; unfold maxLen; omega)⟩
structure TaskB (t : TaskR) (n : Nat) : Prop where
 l0 : 0 ≤ t.left
 l1 : t.left ≤ 1000
 c0 : 0 ≤ t.chain
 c1 : t.chain ≤ 8
 got : t.got.length ≤ n
 stop : ∀ a, t.stop = some a → a.ans.length ≤ n ∧ a.auth.length ≤ 1
theorem TaskB.weaken {t : TaskR} {n n' : Nat} (h : TaskB t n) (hn : n ≤ n') : TaskB t n' := ⟨h.l0, h.l1, h.c0, h.c1, Nat.le_trans h.got hn, fun a ha => ⟨Nat.le_trans (h.stop a ha).1 hn, (h.stop a ha).2⟩⟩
theorem TaskB.fin {t : TaskR} {n : Nat} (h : TaskB t n) (c : Int) {x y : List Rec} (hx : x.length ≤ n) (hy : y.length ≤ 1) : TaskB (t.done c x y).1 n :=
 ⟨h.l0, h.l1, h.c0, h.c1, h.got, fun a ha => by cases ha; exact ⟨hx, hy⟩⟩
theorem TaskB.on {t : TaskR} {n : Nat} (h : TaskB t n) (hs : t.stop = none) : TaskB t.on.1 n := by
 unfold TaskR.on
 split
 ·exact h.fin 2 (Nat.zero_le _) (Nat.zero_le _)
 ·split
  ·exact h.fin 2 (Nat.zero_le _) (Nat.zero_le _)
  ·rename_i c
   have := h.l0
   have := h.l1
   exact ⟨by dsimp only; omega, by dsimp only; omega, h.c0, h.c1, h.got, fun a ha => h.stop a ha⟩
end Go.Proofs.X
set_option linter.unusedSimpArgs false
set_option linter.unusedVariables false
namespace Go.Proofs.X
open Go.RowKit
theorem JZ {B k e : Nat} {w : World} {v : Value} {es : List (List Value)} (h : Own B k e w v es) (c : Nat) (hc : w.heap.size ≤ c) : v.ownBlock = none ∨ v.ownBlock ≠ some c := by
 by_cases e : v.ownBlock = some c
 ·have := (h.block c e).2; omega
 ·exact .inr e
theorem Mv.fresh' {row row2 : Option Nat} {w w1 w2 : World} (h : Mv row w w1) (k : Mv row2 w1 w2) (hc : ∀ c, row2 = some c → w.heap.size ≤ c) : Mv row w w2 :=
 ⟨k.os.trans h.os, k.tape.trans h.tape, k.output.trans h.output, Nat.le_trans h.size k.size,
  fun j hj hn => by rw [k.block j (Nat.lt_of_lt_of_le hj h.size) (by intro e; have := hc j e.symm; omega), h.block j hj hn], Nat.le_trans h.drawn k.drawn⟩
theorem MapAt.mvr {P : Program} {kt : TypeId} {w w' : World} {m : Nat} {ents : List (Value × Value)} {row : Option Nat} {B k e : Nat} {v : Value} {es : List (List Value)} (h : MapAt P kt w m ents) (hm : Mv row w w') (ho : Own B k e w v es) (hr : row = v.ownBlock) : MapAt P kt w' m ents := by
 obtain ⟨es', ck, h1, _⟩ := h.out
 exact h.at fun o hh => hm.at hh (by rw [hr]; exact fun e => ho.neMap h1 e.symm)
end Go.Proofs.X
set_option linter.unusedSimpArgs false
set_option linter.unusedVariables false
namespace Go.Proofs.X
open Go.RowKit
end Go.Proofs.X
set_option linter.unusedSimpArgs false
set_option linter.unusedVariables false
namespace Go.Proofs.X
open Go.RowKit
end Go.Proofs.X
set_option linter.unusedSimpArgs false
set_option linter.unusedVariables false
namespace Go.Proofs.X
open Go.RowKit
set_option maxRecDepth 100000
structure Fr (b : Nat) (gv : Value) (w w' : World) : Prop where
 size : w.heap.size ≤ w'.heap.size
 block : ∀ j, j < w.heap.size → j ≠ b → gv.ownBlock ≠ some j → w'.heap[j]? = w.heap[j]?
theorem Fr.mv {b : Nat} {gv : Value} {w w1 w2 : World} {row : Option Nat} (h : Fr b gv w w1) (hm : Mv row w1 w2) (hr : ∀ c, row = some c → c = b ∨ gv.ownBlock = some c ∨ w.heap.size ≤ c) : Fr b gv w w2 :=
 ⟨Nat.le_trans h.size hm.size, fun j hj hb hg => by
  rw [hm.block j (Nat.lt_of_lt_of_le hj h.size) (by
   intro e
   rcases hr j e.symm with e1 | e1 | e1
   ·exact hb e1
   ·exact hg e1
   ·omega), h.block j hj hb hg]⟩
theorem Fr.ext {b : Nat} {gv : Value} {w w1 w2 : World} (h : Fr b gv w w1) (hx : Ext w1 w2) : Fr b gv w w2 := h.mv (hx.mv none) (by intro c e; cases e)
theorem Fr.of {b : Nat} {gv : Value} {w w1 : World} (hx : Ext w w1) : Fr b gv w w1 := ⟨hx.size, fun j hj _ _ => hx.block j hj⟩
section
variable {P : Program} {a : Act} {w : World} {d : Option Nat} {ty : TypeId} {ps : String} {af : Array Edge} {g : Option (Nat × Bool)}
end
section
variable {P : Program} {w : World} {ts : List Value} {df : List Deferred} {d : Option Nat} {ty : TypeId} {ps : String} {af : Array Edge} {g : Option (Nat × Bool)}
theorem Runs.neqB2 {t u : TypeId} {x y : Operand} {a b : Bool} (hx : (Act.mk ts.toArray df).eval x = .bool a) (hy : (Act.mk ts.toArray df).eval y = .bool b) (ht : zG P t = true) :
 Runs P (Oper.mk d (.binOp .neq t x y u) ty ps af g) (Act.mk ts.toArray df) w (.bool (a != b)) := by
 have hu : P.underlying t = some .bool := by
  unfold zG at ht; split at ht
  ·assumption
  ·cases ht
 constructor
 simp [execOp, hx, hy, eqGuard, binOp, run_equal_bool w t a b hu, bne]
end
end Go.Proofs.X
set_option linter.unusedSimpArgs false
set_option linter.unusedVariables false
namespace Go.Proofs.X
open Go.RowKit
end Go.Proofs.X
set_option linter.unusedSimpArgs false
set_option linter.unusedVariables false
namespace Go.Proofs.X
open Go.RowKit
end Go.Proofs.X
set_option linter.unusedSimpArgs false
set_option linter.unusedVariables false
namespace Go.Proofs.X
open Go.RowKit
set_option maxRecDepth 100000
section
variable {P : Program} {a : Act} {w : World} {d : Option Nat} {ty : TypeId} {ps : String} {af : Array Edge} {g : Option (Nat × Bool)}
end
section
variable {P : Program} {ts : List Value} {df : List Deferred} {w : World} {d : Option Nat} {ty : TypeId} {ps : String} {af : Array Edge} {g : Option (Nat × Bool)}
theorem Runs.neqBSame {t u : TypeId} {x y : Operand} {b : Bool} (hx : (Act.mk ts.toArray df).eval x = .bool b) (hy : (Act.mk ts.toArray df).eval y = .bool b) (ht : zG P t = true) : Runs P (Oper.mk d (.binOp .neq t x y u) ty ps af g) (Act.mk ts.toArray df) w (.bool false) := by
 have h := Runs.neqB2 (P := P) (ts := ts) (df := df) (w := w) (d := d) (ty := ty) (ps := ps) (af := af) (g := g) (t := t) (u := u) hx hy ht
 rwa [show (b != b) = false by cases b <;> rfl] at h
end
theorem HB {r q : mJ} {w : World} : (Op.equalIn 10000 54 (.agg #[aI r.1, .int .i64 r.2]) (.agg #[aI q.1, .int .i64 q.2])).run Tryz.prog w = .ok (decide (r = q)) w := by
 have hS : Tryz.prog.underlying 54 = some (.struct (Tryz.prog.fieldsOf 54)) := by kernel_rfl
 rw [show (10000 : Nat) = 9999 + 1 from rfl, run_equalIn_agg w 9999 54 _ _ hS (by kernel_rfl)]
 simp only [Program.fieldsOf, Tryz.underlying54]
 have u3 := Tryz.underlying3
 have u31 := Tryz.underlying47
 have a3 := Tryz.isAgg3
 have a31 := Tryz.isAgg47
 have z3 := Tryz.sizeOf3
 have z31 := Tryz.sizeOf47
 unfold aI
 go_simp
 obtain ⟨a1, a2⟩ := r
 obtain ⟨b1, b2⟩ := q
 simp only [Prod.mk.injEq]
 by_cases h1 : a1 = b1 <;> by_cases h2 : a2 = b2 <;> simp [h1, h2]
theorem Runs.neqQst {r q : mJ} {x y : Operand} {a : Act} {w : World} {d : Option Nat} {u ty : TypeId} {ps : String} {af : Array Edge} {g : Option (Nat × Bool)}
 (hx : a.eval x = .agg #[aI r.1, .int .i64 r.2]) (hy : a.eval y = .agg #[aI q.1, .int .i64 q.2]) :
 Runs Tryz.prog (Oper.mk d (.binOp .neq 54 x y u) ty ps af g) a w (.bool (!decide (r = q))) := by
 constructor
 have hg := run_eqGuard_agg (P := Tryz.prog) w .neq 54 x y #[aI r.1, .int .i64 r.2] #[aI q.1, .int .i64 q.2] (by kernel_rfl)
 simp only [execOp, hx, hy, Sem.run_bind, hg, Result.andThen_ok, run_neq_struct, HB, Sem.run_pure]
section
variable {P : Program} {ts : List Value} {df : List Deferred} {w : World} {d : Option Nat} {ty : TypeId} {ps : String} {af : Array Edge} {g : Option (Nat × Bool)}
theorem Runs.neqBDiff {t u : TypeId} {x y : Operand} {a b : Bool} (hab : ¬ a = b) (hx : (Act.mk ts.toArray df).eval x = .bool a) (hy : (Act.mk ts.toArray df).eval y = .bool b) (ht : zG P t = true) : Runs P (Oper.mk d (.binOp .neq t x y u) ty ps af g) (Act.mk ts.toArray df) w (.bool true) := by
 have h := Runs.neqB2 (P := P) (ts := ts) (df := df) (w := w) (d := d) (ty := ty) (ps := ps) (af := af) (g := g) (t := t) (u := u) hx hy ht
 rwa [show (a != b) = true by cases a <;> cases b <;> simp_all] at h
end
def iI (m : MsgR) : Int × Bool × Int × Bool × Bool × Bool × Bool × Int × Int := (m.id, m.resp, m.op, m.auth, m.trunc, m.want, m.avail, m.rcode, m.size)
theorem OM {m n : MsgR} (h : iI m = iI n) (h1 : m.qs = n.qs) : decide (m = n) = (decide (m.an = n.an) && decide (m.au = n.au) && decide (m.ex = n.ex)) := by
 cases m; cases n
 simp only [iI, Prod.mk.injEq] at h h1
 simp only [MsgR.mk.injEq]
 obtain ⟨rfl, rfl, rfl, rfl, rfl, rfl, rfl, rfl, rfl⟩ := h
 subst h1
 simp [Bool.decide_and, Bool.and_assoc]
theorem jL {m n : MsgR} (h : ¬ (iI m = iI n ∧ m.qs = n.qs)) : decide (m = n) = false := by
 refine decide_eq_false fun e => h ?_
 rw [e]; exact ⟨rfl, rfl⟩
set_option maxHeartbeats 8000000 in
theorem MB (m n : MsgR) (q a u e q' a' u' e' : Value) (w : World) (hm : MsgV w m q a u e) (hn : MsgV w n q' a' u' e') : Calls Tryz.prog 12 #[.agg (aV m q a u e).toArray, .agg (aV n q' a' u' e').toArray] w (bS w (.bool (decide (m = n)))) := by
 have hql := cB m.qs
 have hql' := cB n.qs
 have hqle := hm.qs.le
 go_enter Tryz.func12, Tryz.ntmps12
 refine_lift zW fun _ _ => ?_
 refine bU (vs := aV m q a u e) rfl rfl ?_
 intro p w1 x1 hp
 refine aA ?_
 refine bU (vs := aV n q' a' u' e') rfl rfl ?_
 intro p' w2 x2 hp'
 refine aA ?_
 have hp2 := hp.ext x2
 have hx2 := x1.trans x2
 have hq2 := hm.qs.ext hx2
 have hq2' := hn.qs.ext hx2
 unfold aV at hp' hp2
 clear hp x1 x2
 ((with_reducible refine aH ?_); (first | (refine iL ?_; refine fL ?_) | (refine mG ?_; refine nQ ?_; (with_reducible refine aH ?_); refine iL ?_; refine fL ?_)))
 (first | ((with_reducible refine aJ ?_); go_step) | fail)
 (first | ((with_reducible refine aJ ?_); go_step) | fail)
 (first | ((with_reducible refine aJ ?_); go_step) | fail)
 (first | ((with_reducible refine aJ ?_); go_step) | fail)
 (first | ((with_reducible refine aJ ?_); go_step) | fail)
 simp only [List.append]
 by_cases e0 : m.id = n.id
 ·skip
  by_cases e1 : m.resp = n.resp
  ·skip
   by_cases e2 : m.op = n.op
   ·skip
    by_cases e3 : m.auth = n.auth
    ·skip
     by_cases e4 : m.trunc = n.trunc
     ·skip
      by_cases e5 : m.want = n.want
      ·skip
       by_cases e6 : m.avail = n.avail
       ·skip
        by_cases e7 : m.rcode = n.rcode
        ·skip
         by_cases e8 : m.size = n.size
         ·skip
          by_cases e9 : m.qs.length = n.qs.length
          ·have e9' : ((cH m.qs).length : Int) = ((cH n.qs).length : Int) := by rw [cB, cB]; omega
           rw [e0] at hp2
           rw [e1] at hp2
           rw [e2] at hp2
           rw [e3] at hp2
           rw [e4] at hp2
           rw [e5] at hp2
           rw [e6] at hp2
           rw [e7] at hp2
           rw [e8] at hp2
           refine_lift fH ?_
           refine aM (Runs.neqBSame rfl rfl (by decide +kernel)) ?_
           refine aA ?_
           refine_lift fH ?_
           refine aM (Runs.neqBSame rfl rfl (by decide +kernel)) ?_
           refine aA ?_
           refine_lift fH ?_
           refine aM (Runs.neqBSame rfl rfl (by decide +kernel)) ?_
           refine aA ?_
           refine_lift fH ?_
           refine aM (Runs.neqBSame rfl rfl (by decide +kernel)) ?_
           refine aA ?_
           refine_lift fH ?_
           refine aM (Runs.neqBSame rfl rfl (by decide +kernel)) ?_
           refine aA ?_
           refine_lift PK (fun _ _ _ => ?_) (fun _ => ?_)
           all_goals first
            | (exfalso; have hh := ‹(!decide (((cH m.qs).length : Int) = ((cH n.qs).length : Int))) = true›; simp [e9'] at hh; done)
            | skip
           have hH : iI m = iI n := by simp only [iI, e0, e1, e2, e3, e4, e5, e6, e7, e8]
           go_loopw [5] (fun i wr => ∃ k : Nat, k ≤ m.qs.length ∧ i = .int .i64 k ∧ Ext w2 wr ∧ m.qs.take k = n.qs.take k) (fun i _ => m.qs.length - (intOf i).toNat)
           case atStart => exact ⟨0, Nat.zero_le _, rfl, Ext.refl _, rfl⟩
           case round =>
            obtain ⟨k, hk, rfl, hx, hall⟩ := hrel
            have hqx := hq2.ext hx
            have hqx' := hq2'.ext hx
            have hpx := hp2.ext hx
            have hpx' := hp'.ext hx
            by_cases hlt : k < m.qs.length
            ·have hlt2 : k < n.qs.length := by omega
             have hpa := hqx.elem (nJ hlt)
             have hpb := hqx'.elem (nJ hlt2)
             refine_lift SM ?_; intro _ _ _ _ _ _
             refine fN (by decide +kernel) (by decide +kernel) ?_
             refine_lift SJ ?_
             refine pI (fun w' _ => Runs.neqQst (r := m.qs[k]) (q := n.qs[k]) rfl rfl) ?_
             refine aA ?_
             refine_lift SJ ?_
             intro w4 x4
             refine_lift II (fun _ => ?_) (fun _ => ?_)
             ·have hne := ‹(!decide (m.qs[k] = n.qs[k])) = true›
              have hab : m.qs ≠ n.qs := uH hlt hlt2 (by simpa using hne)
              go_ret
              refine ⟨?_, hx2.trans (hx.trans x4)⟩
              rw [jL (fun h => hab h.2)]; rfl
             ·have heq := ‹(!decide (m.qs[k] = n.qs[k])) = false›
              exact ⟨⟨k + 1, by omega, by go_num, hx.trans x4, lN hall hlt hlt2 (by simpa using heq)⟩, by simp [intOf]; omega⟩
            ·have : k = m.qs.length := by omega
             subst this
             have hab : m.qs = n.qs := by rw [List.take_length, e9, List.take_length] at hall; exact hall
             refine_lift TF fun _ _ _ => ?_
             refine aE (enters_of Tryz.func28 rfl rfl) rfl rfl (yX a a' m.an n.an _ ((hm.an.ext hx2).ext hx) ((hn.an.ext hx2).ext hx)) ?_; intro w4 x4; refine aA ?_
             have hx4 := hx.trans x4
             have hp4 := hp2.ext hx4
             have hp4' := hp'.ext hx4
             have hF := OM hH hab
             by_cases c4 : m.an = n.an
             ·rw [decide_eq_true c4] at hF ⊢
              refine_lift fH ?_
              refine aE (enters_of Tryz.func28 rfl rfl) rfl rfl (yX u u' m.au n.au _ ((hm.au.ext hx2).ext hx4) ((hn.au.ext hx2).ext hx4)) ?_; intro w6 x6; refine aA ?_
              have hx6 := hx4.trans x6
              have hp6 := hp2.ext hx6
              have hp6' := hp'.ext hx6
              by_cases c6 : m.au = n.au
              ·rw [decide_eq_true c6] at hF ⊢
               refine_lift fH ?_
               refine aE (enters_of Tryz.func28 rfl rfl) rfl rfl (yX e e' m.ex n.ex _ ((hm.ex.ext hx2).ext hx6) ((hn.ex.ext hx2).ext hx6)) ?_; intro w7 x7; refine aA ?_
               refine_lift fH ?_
               go_ret
               refine ⟨?_, hx2.trans (hx6.trans x7)⟩
               rw [hF]; rfl
              ·rw [decide_eq_false c6] at hF ⊢
               refine_lift fH ?_
               go_ret
               refine ⟨?_, hx2.trans hx6⟩
               rw [hF]; rfl
             ·rw [decide_eq_false c4] at hF ⊢
              refine_lift fH ?_
              go_ret
              refine ⟨?_, hx2.trans hx4⟩
              rw [hF]; rfl
          ·have e9' : ¬ ((cH m.qs).length : Int) = ((cH n.qs).length : Int) := by rw [cB, cB]; omega
           rw [e0] at hp2
           rw [e1] at hp2
           rw [e2] at hp2
           rw [e3] at hp2
           rw [e4] at hp2
           rw [e5] at hp2
           rw [e6] at hp2
           rw [e7] at hp2
           rw [e8] at hp2
           refine_lift fH ?_
           refine aM (Runs.neqBSame rfl rfl (by decide +kernel)) ?_
           refine aA ?_
           refine_lift fH ?_
           refine aM (Runs.neqBSame rfl rfl (by decide +kernel)) ?_
           refine aA ?_
           refine_lift fH ?_
           refine aM (Runs.neqBSame rfl rfl (by decide +kernel)) ?_
           refine aA ?_
           refine_lift fH ?_
           refine aM (Runs.neqBSame rfl rfl (by decide +kernel)) ?_
           refine aA ?_
           refine_lift fH ?_
           refine aM (Runs.neqBSame rfl rfl (by decide +kernel)) ?_
           refine aA ?_
           refine_lift PK (fun _ _ _ => ?_) (fun _ => ?_)
           all_goals first
            | (exfalso; have hh := ‹(!decide (((cH m.qs).length : Int) = ((cH n.qs).length : Int))) = false›; simp [e9'] at hh; done)
            | skip
           go_ret
           refine ⟨?_, hx2⟩
           rw [jL (by rintro ⟨_, e⟩; exact e9 (congrArg List.length e))]; rfl
         ·skip
          rw [e0] at hp2
          rw [e1] at hp2
          rw [e2] at hp2
          rw [e3] at hp2
          rw [e4] at hp2
          rw [e5] at hp2
          rw [e6] at hp2
          rw [e7] at hp2
          refine_lift fH ?_
          refine aM (Runs.neqBSame rfl rfl (by decide +kernel)) ?_
          refine aA ?_
          refine_lift fH ?_
          refine aM (Runs.neqBSame rfl rfl (by decide +kernel)) ?_
          refine aA ?_
          refine_lift fH ?_
          refine aM (Runs.neqBSame rfl rfl (by decide +kernel)) ?_
          refine aA ?_
          refine_lift fH ?_
          refine aM (Runs.neqBSame rfl rfl (by decide +kernel)) ?_
          refine aA ?_
          refine_lift fH ?_
          refine aM (Runs.neqBSame rfl rfl (by decide +kernel)) ?_
          refine aA ?_
          refine_lift PL (fun hc _ _ _ => ?_) (fun hc => ?_) (fun hc _ => ?_)
          all_goals first
           | (exfalso; have hh := ‹(!decide (m.size = n.size)) = false›; simp [e8] at hh; done)
           | skip
          go_ret
          refine ⟨?_, hx2⟩
          rw [jL (by rintro ⟨e, _⟩; simp only [iI, Prod.mk.injEq] at e; exact e8 e.2.2.2.2.2.2.2.2)]; rfl
        ·skip
         rw [e0] at hp2
         rw [e1] at hp2
         rw [e2] at hp2
         rw [e3] at hp2
         rw [e4] at hp2
         rw [e5] at hp2
         rw [e6] at hp2
         refine_lift fH ?_
         refine aM (Runs.neqBSame rfl rfl (by decide +kernel)) ?_
         refine aA ?_
         refine_lift fH ?_
         refine aM (Runs.neqBSame rfl rfl (by decide +kernel)) ?_
         refine aA ?_
         refine_lift fH ?_
         refine aM (Runs.neqBSame rfl rfl (by decide +kernel)) ?_
         refine aA ?_
         refine_lift fH ?_
         refine aM (Runs.neqBSame rfl rfl (by decide +kernel)) ?_
         refine aA ?_
         refine_lift fH ?_
         refine aM (Runs.neqBSame rfl rfl (by decide +kernel)) ?_
         refine aA ?_
         refine_lift NU (fun hc hc _ _ _ => ?_) (fun hc hc => ?_) (fun hc => ?_) (fun hc hc _ => ?_)
         all_goals first
          | (exfalso; have hh := ‹(!decide (m.rcode = n.rcode)) = false›; simp [e7] at hh; done)
          | skip
         go_ret
         refine ⟨?_, hx2⟩
         rw [jL (by rintro ⟨e, _⟩; simp only [iI, Prod.mk.injEq] at e; exact e7 e.2.2.2.2.2.2.2.1)]; rfl
       ·skip
        rw [e0] at hp2
        rw [e1] at hp2
        rw [e2] at hp2
        rw [e3] at hp2
        rw [e4] at hp2
        rw [e5] at hp2
        refine_lift fH ?_
        refine aM (Runs.neqBSame rfl rfl (by decide +kernel)) ?_
        refine aA ?_
        refine_lift fH ?_
        refine aM (Runs.neqBSame rfl rfl (by decide +kernel)) ?_
        refine aA ?_
        refine_lift fH ?_
        refine aM (Runs.neqBSame rfl rfl (by decide +kernel)) ?_
        refine aA ?_
        refine_lift fH ?_
        refine aM (Runs.neqBSame rfl rfl (by decide +kernel)) ?_
        refine aA ?_
        refine_lift fH ?_
        refine aM (Runs.neqBDiff e6 rfl rfl (by decide +kernel)) ?_
        refine aA ?_
        refine_lift fH ?_
        go_ret
        refine ⟨?_, hx2⟩
        rw [jL (by rintro ⟨e, _⟩; simp only [iI, Prod.mk.injEq] at e; exact e6 e.2.2.2.2.2.2.1)]; rfl
      ·skip
       rw [e0] at hp2
       rw [e1] at hp2
       rw [e2] at hp2
       rw [e3] at hp2
       rw [e4] at hp2
       refine_lift fH ?_
       refine aM (Runs.neqBSame rfl rfl (by decide +kernel)) ?_
       refine aA ?_
       refine_lift fH ?_
       refine aM (Runs.neqBSame rfl rfl (by decide +kernel)) ?_
       refine aA ?_
       refine_lift fH ?_
       refine aM (Runs.neqBSame rfl rfl (by decide +kernel)) ?_
       refine aA ?_
       refine_lift fH ?_
       refine aM (Runs.neqBDiff e5 rfl rfl (by decide +kernel)) ?_
       refine aA ?_
       refine_lift fH ?_
       go_ret
       refine ⟨?_, hx2⟩
       rw [jL (by rintro ⟨e, _⟩; simp only [iI, Prod.mk.injEq] at e; exact e5 e.2.2.2.2.2.1)]; rfl
     ·skip
      rw [e0] at hp2
      rw [e1] at hp2
      rw [e2] at hp2
      rw [e3] at hp2
      refine_lift fH ?_
      refine aM (Runs.neqBSame rfl rfl (by decide +kernel)) ?_
      refine aA ?_
      refine_lift fH ?_
      refine aM (Runs.neqBSame rfl rfl (by decide +kernel)) ?_
      refine aA ?_
      refine_lift fH ?_
      refine aM (Runs.neqBDiff e4 rfl rfl (by decide +kernel)) ?_
      refine aA ?_
      refine_lift fH ?_
      go_ret
      refine ⟨?_, hx2⟩
      rw [jL (by rintro ⟨e, _⟩; simp only [iI, Prod.mk.injEq] at e; exact e4 e.2.2.2.2.1)]; rfl
    ·skip
     rw [e0] at hp2
     rw [e1] at hp2
     rw [e2] at hp2
     refine_lift fH ?_
     refine aM (Runs.neqBSame rfl rfl (by decide +kernel)) ?_
     refine aA ?_
     refine_lift fH ?_
     refine aM (Runs.neqBDiff e3 rfl rfl (by decide +kernel)) ?_
     refine aA ?_
     refine_lift fH ?_
     go_ret
     refine ⟨?_, hx2⟩
     rw [jL (by rintro ⟨e, _⟩; simp only [iI, Prod.mk.injEq] at e; exact e3 e.2.2.2.1)]; rfl
   ·skip
    rw [e0] at hp2
    rw [e1] at hp2
    refine_lift fH ?_
    refine aM (Runs.neqBSame rfl rfl (by decide +kernel)) ?_
    refine aA ?_
    refine_lift II (fun hc => ?_) (fun hc => ?_)
    all_goals first
     | (exfalso; have hh := ‹(!decide (m.op = n.op)) = false›; simp [e2] at hh; done)
     | skip
    go_ret
    refine ⟨?_, hx2⟩
    rw [jL (by rintro ⟨e, _⟩; simp only [iI, Prod.mk.injEq] at e; exact e2 e.2.2.1)]; rfl
  ·skip
   rw [e0] at hp2
   refine_lift fH ?_
   refine aM (Runs.neqBDiff e1 rfl rfl (by decide +kernel)) ?_
   refine aA ?_
   refine_lift fH ?_
   go_ret
   refine ⟨?_, hx2⟩
   rw [jL (by rintro ⟨e, _⟩; simp only [iI, Prod.mk.injEq] at e; exact e1 e.2.1)]; rfl
 ·skip
  refine_lift II (fun hc => ?_) (fun hc => ?_)
  all_goals first
   | (exfalso; have hh := ‹(!decide (m.id = n.id)) = false›; simp [e0] at hh; done)
   | skip
  go_ret
  refine ⟨?_, hx2⟩
  rw [jL (by rintro ⟨e, _⟩; simp only [iI, Prod.mk.injEq] at e; exact e0 e.1)]; rfl
abbrev MC := Bool × MsgR
def RK (s : MC) (q a u e : Value) : List Value := .bool s.1 :: aV s.2 q a u e
structure RopsAt (w : World) (v : Value) (l : List MC) : Prop where
 out : ∃ css, Sl 14 w v css ∧ css.length = l.length ∧ ∀ (i : Nat) (s : MC), l[i]? = some s → ∃ q a u e, css[i]? = some (RK s q a u e) ∧ MsgV w s.2 q a u e
theorem RopsAt.ext {w w' : World} {v : Value} {l : List MC} (h : RopsAt w v l) (hx : Ext w w') : RopsAt w' v l := by
 obtain ⟨css, h1, h2, h3⟩ := h
 exact ⟨css, h1.ext hx, h2, fun i s hi => let ⟨q, a, u, e, h4, h5⟩ := h3 i s hi; ⟨q, a, u, e, h4, h5.ext hx⟩⟩
end Go.Proofs.X
set_option linter.unusedSimpArgs false
set_option linter.unusedVariables false
namespace Go.Proofs.X
open Go.RowKit
end Go.Proofs.X
set_option linter.unusedSimpArgs false
set_option linter.unusedVariables false
namespace Go.Proofs.X
open Go.RowKit
set_option maxRecDepth 100000
section
variable {P : Program} {w : World} {ts : List Value} {df : List Deferred}
end
end Go.Proofs.X
set_option linter.unusedSimpArgs false
set_option linter.unusedVariables false
namespace Go.Proofs.X
open Go.RowKit
end Go.Proofs.X
set_option linter.unusedSimpArgs false
set_option linter.unusedVariables false
namespace Go.Proofs.X
open Go.RowKit
end Go.Proofs.X
set_option linter.unusedSimpArgs false
set_option linter.unusedVariables false
namespace Go.Proofs.X
open Go.RowKit
set_option maxRecDepth 100000
end Go.Proofs.X
set_option linter.unusedSimpArgs false
set_option linter.unusedVariables false
namespace Go.Proofs.X
open Go.RowKit
end Go.Proofs.X
set_option linter.unusedSimpArgs false
set_option linter.unusedVariables false
namespace Go.Proofs.X
open Go.RowKit
set_option maxRecDepth 100000
section
variable {P : Program} {w w0 : World} {ts : List Value} {df : List Deferred} {d : Option Nat} {ty : TypeId} {ps : String} {af : Array Edge} {g : Option (Nat × Bool)}
end
theorem Own.same {B k e : Nat} {w w' : World} {v : Value} {es : List (List Value)} (h : Own B k e w v es) (hs : ∀ r, v.ownBlock = some r → w'.heap[r]? = w.heap[r]?) : Own B k e w' v es := by
 obtain ⟨⟨h1, h2⟩, h3⟩ := h
 refine ⟨⟨h1, ?_⟩, h3⟩
 rcases h2 with h2 | ⟨gg, cap, cur, fz, rfl, hb, hg, r⟩
 ·exact .inl h2
 ·exact .inr ⟨gg, cap, cur, fz, rfl, hb, by rw [hs gg rfl]; exact hg, r⟩
end Go.Proofs.X
set_option linter.unusedSimpArgs false
set_option linter.unusedVariables false
namespace Go.Proofs.X
open Go.RowKit
end Go.Proofs.X
set_option linter.unusedSimpArgs false
set_option linter.unusedVariables false
namespace Go.Proofs.X
open Go.RowKit
end Go.Proofs.X
set_option linter.unusedSimpArgs false
set_option linter.unusedVariables false
namespace Go.Proofs.X
open Go.RowKit
set_option maxRecDepth 100000
structure RdS where
 at_ : Int
 e : Int
 deriving DecidableEq
def oV (s : List UInt8) (r : RdS) : List Value := [aI s, .int .i64 r.at_, .int .i64 r.e]
def cR (w : World) (b : Nat) (s : List UInt8) (r : RdS) : Prop := w.heap[b]? = some (.cells (oV s r).toArray 82 (0, 0))
def jM (w : World) (b : Nat) (s : List UInt8) (v : Value) (r : RdS) (e : Ending) (w' : World) : Prop := e = .returned v ∧ cR w' b s r ∧ Mv (some b) w w'
def RdS.want (r : RdS) (is : Bool) (er : Int) : RdS := if r.e = 0 ∧ is = false then ⟨r.at_, er⟩ else r
theorem fR {w : World} {b : Nat} {s : List UInt8} {r : RdS} (h : cR w b s r) (is : Bool) (er : Int) : Calls Tryz.prog 44 #[.pointer (some ⟨b, 0, none⟩), .bool is, .int .i64 er] w (jM w b s (.bool (decide ((r.want is er).e = 0))) (r.want is er)) := by
 have hp := aD (cs := oV s r) h
 go_enter Tryz.func44, Tryz.ntmps44
 by_cases c1 : r.e = 0
 ·cases is with
  | false =>
   have hE : r.want false er = ⟨r.at_, er⟩ := by unfold RdS.want; rw [if_pos ⟨c1, rfl⟩]
   (repeat' first | ((with_reducible refine aJ ?_); go_step) | ((with_reducible refine aH ?_); first | refine aW ?_ | (refine aK ?_ ?_ <;> intro hc)) | fail)
   all_goals first
    | (exfalso; omega)
    | skip
   refine aO (n := 2) (v := .int .i64 er) h rfl rfl rfl (by simp [oV]) (by decide +kernel) rfl ?_
   intro w1 p1
   have h1 : cR w1 b s ⟨r.at_, er⟩ := p1.this
   have hp1 := aD (cs := oV s ⟨r.at_, er⟩) h1
   clear hp
   (repeat' first | ((with_reducible refine aJ ?_); go_step) | ((with_reducible refine aH ?_); first | refine aW ?_ | (refine aK ?_ ?_ <;> intro hc)) | fail)
   go_ret
   rw [hE]
   exact ⟨rfl, h1, p1.mv⟩
  | true =>
   have hE : r.want true er = r := by unfold RdS.want; rw [if_neg (by rintro ⟨_, h⟩; cases h)]
   (repeat' first | ((with_reducible refine aJ ?_); go_step) | ((with_reducible refine aH ?_); first | refine aW ?_ | (refine aK ?_ ?_ <;> intro hc)) | fail)
   all_goals first
    | (exfalso; omega)
    | skip
   go_ret
   rw [hE]
   exact ⟨rfl, h, Mv.refl _ _⟩
 ·have hE : r.want is er = r := by unfold RdS.want; rw [if_neg (fun h => c1 h.1)]
  (repeat' first | ((with_reducible refine aJ ?_); go_step) | ((with_reducible refine aH ?_); first | refine aW ?_ | (refine aK ?_ ?_ <;> intro hc)) | fail)
  all_goals first
   | (exfalso; omega)
   | skip
  go_ret
  rw [hE]
  exact ⟨rfl, h, Mv.refl _ _⟩
def RdS.take (s : List UInt8) (r : RdS) (n : Int) : List UInt8 × RdS :=
 if r.e ≠ 0 then ([], r) else if (s.length : Int) - r.at_ < n then ([], ⟨r.at_, 3⟩) else ((s.drop r.at_.toNat).take n.toNat, ⟨r.at_ + n, 0⟩)
structure RdS.Ok (s : List UInt8) (r : RdS) : Prop where
 lo : 0 ≤ r.at_
 hi : r.e = 0 → r.at_ ≤ s.length
 far : r.at_ ≤ 100000000
theorem RdS.Ok.want {s : List UInt8} {r : RdS} (h : r.Ok s) (is : Bool) {er : Int} (he : er ≠ 0) : (r.want is er).Ok s := by
 unfold RdS.want
 split
 ·exact ⟨h.lo, fun e => absurd e he, h.far⟩
 ·exact h
theorem RdS.Ok.take {s : List UInt8} {r : RdS} (h : r.Ok s) (hs : s.length ≤ 100000000) {n : Int} (hn : 0 ≤ n) : (r.take s n).2.Ok s := by
 unfold RdS.take
 have := h.lo
 split
 ·exact h
 ·split
  ·exact ⟨h.lo, fun e => (by cases e), h.far⟩
  ·exact ⟨by dsimp only; omega, fun _ => by dsimp only; omega, by dsimp only; omega⟩
set_option maxHeartbeats 1000000 in
theorem vV {w : World} {b : Nat} {s : List UInt8} {r : RdS} (h : cR w b s r) (hr : r.Ok s) (hs : s.length ≤ 100000000) (n : Int) (h0 : 0 ≤ n) (h1 : n ≤ 100000000) : Calls Tryz.prog 98 #[.pointer (some ⟨b, 0, none⟩), .int .i64 n] w (jM w b s (aI (r.take s n).1) (r.take s n).2) := by
 have hp := aD (cs := oV s r) h
 have a0 := hr.lo
 have a1 := hr.hi
 have a2 := hr.far
 go_enter Tryz.func98, Tryz.ntmps98
 (repeat' first | ((with_reducible refine aJ ?_); go_step) | ((with_reducible refine aH ?_); first | refine aW ?_ | (refine aK ?_ ?_ <;> intro hc)) | fail)
 refine cA 13 (Ext w) (by decide +kernel) ?_
 intro w1 x1 _
 refine ⟨x1, ?_⟩
 refine dF 0 ?_; refine dF 1 ?_; refine dF 2 ?_; refine dF 3 ?_; refine dF 4 ?_; refine dF 5 ?_; refine dF 6 ?_; refine dF 7 ?_; refine dF 8 ?_; refine dF 9 ?_; refine dF 10 ?_; refine dF 11 ?_; refine dF 12 ?_
 have hw1 : cR w1 b s r := x1.at h
 have hcw := fR hw1 (decide (n ≤ (s.length : Int) - r.at_)) 3
 by_cases c1 : r.e = 0 ∧ n ≤ (s.length : Int) - r.at_
 ·obtain ⟨c1, c2⟩ := c1
  have hR : r.take s n = ((s.drop r.at_.toNat).take n.toNat, ⟨r.at_ + n, 0⟩) := by unfold RdS.take; rw [if_neg (by omega), if_neg (by omega)]
  have hW : r.want (decide (n ≤ (s.length : Int) - r.at_)) 3 = r := by rw [decide_eq_true c2]; unfold RdS.want; rw [if_neg (by rintro ⟨_, h⟩; cases h)]
  rw [hW, decide_eq_true c1] at hcw
  refine bJ (i := 13) (by decide +kernel) rfl rfl ?_
  refine aF (vs := [.pointer (some ⟨b, 0, none⟩), .bool (decide (n ≤ (s.length : Int) - r.at_)), .int .i64 3]) (enters_of Tryz.func44 rfl rfl) rfl rfl hcw ?_
  rintro _ w2 ⟨rfl, h2, m2⟩
  refine ⟨_, rfl, ?_⟩
  refine aA ?_
  refine aL ⟨bZ rfl, ?_⟩
  refine bJ (i := 14) (by decide +kernel) rfl rfl ?_
  ((with_reducible refine aH ?_); (first | (refine iL ?_; refine fL ?_) | (refine mG ?_; refine nQ ?_; (with_reducible refine aH ?_); refine iL ?_; refine fL ?_)))
  refine aL ⟨bZ rfl, ?_⟩
  refine cV (by decide +kernel) ?_
  have hp2 := aD (cs := oV s r) h2
  have m02 := (x1.mv (some b)).trans m2
  clear hp
  (repeat' first | ((with_reducible refine aJ ?_); go_step) | ((with_reducible refine aH ?_); first | refine aW ?_ | (refine aK ?_ ?_ <;> intro hc)) | fail)
  refine aO (n := 1) (v := .int .i64 (r.at_ + n)) h2 rfl rfl rfl (by simp [oV]) (by decide +kernel) rfl ?_
  intro w3 p3
  have h3 : cR w3 b s ⟨r.at_ + n, r.e⟩ := p3.this
  have hp3 := aD (cs := oV s ⟨r.at_ + n, r.e⟩) h3
  have m03 := m02.trans p3.mv
  clear hp2
  have a3 := a1 c1
  (repeat' first | ((with_reducible refine aJ ?_); go_step) | ((with_reducible refine aH ?_); first | refine aW ?_ | (refine aK ?_ ?_ <;> intro hc)) | fail)
  refine fN (by decide +kernel) (by decide +kernel) ?_
  (try ((with_reducible refine AI ?_); refine MS ?_))
  intro w4 x4
  (repeat' first | ((with_reducible refine aJ ?_); go_step) | ((with_reducible refine aH ?_); first | refine aW ?_ | (refine aK ?_ ?_ <;> intro hc)) | fail)
  go_ret
  rw [hR]
  refine ⟨?_, by rw [← c1]; exact x4.at h3, m03.trans (x4.mv _)⟩
  have e : List.drop (r.at_ + n - n).toNat (List.take (r.at_ + n).toNat s) = (s.drop r.at_.toNat).take n.toNat := by
   rw [show r.at_ + n - n = r.at_ by omega, List.drop_take, show (r.at_ + n).toNat - r.at_.toNat = n.toNat by omega]
  show Ending.returned (aI _) = _
  rw [e]
 ·have hne : (r.want (decide (n ≤ (s.length : Int) - r.at_)) 3).e ≠ 0 := by
   unfold RdS.want
   split
   ·exact fun e => by cases e
   ·rename_i c
    intro e
    exact c1 ⟨e, by
     by_cases h9 : n ≤ (s.length : Int) - r.at_
     ·exact h9
     ·exact absurd ⟨e, decide_eq_false h9⟩ c⟩
  have hR : r.take s n = ([], r.want (decide (n ≤ (s.length : Int) - r.at_)) 3) := by
   unfold RdS.take RdS.want
   by_cases h8 : r.e = 0
   ·have h9 : ¬ n ≤ (s.length : Int) - r.at_ := fun h => c1 ⟨h8, h⟩
    rw [if_neg (by omega), if_pos (by omega), if_pos ⟨h8, decide_eq_false h9⟩]
   ·rw [if_pos h8, if_neg (fun h => h8 h.1)]
  rw [decide_eq_false hne] at hcw
  refine bJ (i := 13) (by decide +kernel) rfl rfl ?_
  refine aF (vs := [.pointer (some ⟨b, 0, none⟩), .bool (decide (n ≤ (s.length : Int) - r.at_)), .int .i64 3]) (enters_of Tryz.func44 rfl rfl) rfl rfl hcw ?_
  rintro _ w2 ⟨rfl, h2, m2⟩
  refine ⟨_, rfl, ?_⟩
  refine aA ?_
  refine aL ⟨bZ rfl, ?_⟩
  refine bJ (i := 14) (by decide +kernel) rfl rfl ?_
  ((with_reducible refine aH ?_); (first | (refine iL ?_; refine fL ?_) | (refine mG ?_; refine nQ ?_; (with_reducible refine aH ?_); refine iL ?_; refine fL ?_)))
  refine aL ⟨bZ rfl, ?_⟩
  refine cV (by decide +kernel) ?_
  (repeat' first | ((with_reducible refine aJ ?_); go_step) | ((with_reducible refine aH ?_); first | refine aW ?_ | (refine aK ?_ ?_ <;> intro hc)) | fail)
  go_ret
  rw [hR]
  exact ⟨rfl, h2, (x1.mv (some b)).trans m2⟩
def qK (l : List UInt8) : Nat := l.foldl (fun n c => n * 256 + c.toNat) 0
theorem yJ {l : List UInt8} {k : Nat} (h : k < l.length) : qK (l.take (k + 1)) = qK (l.take k) * 256 + l[k].toNat := by
 rw [qK, List.take_succ_eq_append_getElem h, List.foldl_append]; rfl
theorem zJ (l : List UInt8) : ∀ k, k ≤ l.length → qK (l.take k) < 256 ^ k
 | 0, _ => by simp [qK]
 | k + 1, h => by
   rw [yJ (by omega)]
   have := zJ l k (by omega)
   have h2 : l[k].toNat < 256 := UInt8.toNat_lt _
   rw [Nat.pow_succ]
   omega
def RdS.number (s : List UInt8) (r : RdS) (k : Int) : Nat × RdS := (qK (r.take s k).1, (r.take s k).2)
theorem kZ (s : List UInt8) (r : RdS) (n : Int) : (r.take s n).1.length ≤ n.toNat := by
 unfold RdS.take
 split
 ·exact Nat.zero_le _
 ·split
  ·exact Nat.zero_le _
  ·rw [List.length_take]; omega
theorem cN (s : List UInt8) (r : RdS) (n : Nat) (hn : n ≤ 4) : (r.number s n).1 < 256 ^ n := by
 unfold RdS.number
 have h1 := kZ s r n
 have h2 := zJ (r.take s n).1 (r.take s n).1.length (Nat.le_refl _)
 rw [List.take_length] at h2
 refine Nat.lt_of_lt_of_le h2 (Nat.pow_le_pow_right (by omega) (by simpa using h1))
set_option maxHeartbeats 1000000 in
theorem dN {w : World} {b : Nat} {s : List UInt8} {r : RdS} (h : cR w b s r) (hr : r.Ok s) (hs : s.length ≤ 100000000) (n : Int) (h0 : 0 ≤ n) (h1 : n ≤ 4) : Calls Tryz.prog 43 #[.pointer (some ⟨b, 0, none⟩), .int .i64 n] w (jM w b s (.int .i64 ((r.number s n).1 : Nat)) (r.number s n).2) := by
 have htl := kZ s r n
 have hct := fun w h => vV (w := w) (b := b) h hr hs n h0 (by omega)
 unfold RdS.number
 generalize r.take s n = T at *
 obtain ⟨l, r'⟩ := T
 dsimp only at *
 go_enter Tryz.func43, Tryz.ntmps43
 (repeat' first | ((with_reducible refine aJ ?_); go_step) | ((with_reducible refine aH ?_); first | refine aW ?_ | (refine aK ?_ ?_ <;> intro hc)) | fail)
 refine aF (vs := [.pointer (some ⟨b, 0, none⟩), .int .i64 n]) (enters_of Tryz.func98 rfl rfl) rfl rfl (hct w h) ?_
 rintro _ w1 ⟨rfl, h1', m1⟩
 refine ⟨_, rfl, ?_⟩
 refine aA ?_
 refine qX (l := l) (e := 5) rfl rfl (by decide +kernel) (by decide +kernel) (by omega) ?_
 intro v2 w2 x2 o2
 refine aA ?_
 have hs2 := o2.sl
 have h2 : cR w2 b s r' := x2.at h1'
 have hbl : (aQ l).length = l.length := List.length_map ..
 have m2 := m1.trans (x2.mv (some b))
 (repeat' first | ((with_reducible refine aJ ?_); go_step) | ((with_reducible refine aH ?_); first | refine aW ?_ | (refine aK ?_ ?_ <;> intro hc)) | fail)
 have htl : l.length ≤ 4 := by omega
 go_loopw [5, 7, 13] (fun m _ i wr => ∃ k : Nat, k ≤ l.length ∧ i = .int .i64 k ∧ m = .int .i64 (qK (l.take k) : Nat) ∧ Ext w2 wr) (fun _ _ i _ => l.length - (intOf i).toNat)
 case atStart => exact ⟨0, Nat.zero_le _, rfl, rfl, Ext.refl _⟩
 case round =>
  obtain ⟨k, hk, rfl, rfl, hx⟩ := hrel
  have hsx := hs2.ext hx
  by_cases hlt : k < l.length
  ·have hn := zJ l k (by omega)
   have hn2 : qK (l.take k) * 256 < 4294967296 := by
    have : 256 ^ k ≤ 256 ^ 3 := Nat.pow_le_pow_right (by omega) (by omega)
    omega
   have hb : l[k].toNat < 256 := UInt8.toNat_lt _
   have hst := yJ hlt
   have hpe := hsx.elem (i := k) (e := [.int .u8 (l[k].toNat : Nat)]) (by rw [aQ, List.getElem?_map, List.getElem?_eq_getElem hlt]; rfl)
   (repeat' first | ((with_reducible refine aJ ?_); go_step) | ((with_reducible refine aH ?_); first | refine aW ?_ | (refine aK ?_ ?_ <;> intro hc)) | fail)
   exact ⟨⟨k + 1, by omega, by go_num, by rw [hst], hx⟩, by simp [intOf]; omega⟩
  ·have : k = l.length := by omega
   subst this
   rw [List.take_length]
   (repeat' first | ((with_reducible refine aJ ?_); go_step) | ((with_reducible refine aH ?_); first | refine aW ?_ | (refine aK ?_ ?_ <;> intro hc)) | fail)
   go_ret
   exact ⟨rfl, hx.at h2, m2.trans (hx.mv _)⟩
section
variable {P : Program} {w : World} {a : Act} {d : Option Nat} {ty : TypeId} {ps : String} {af : Array Edge} {g : Option (Nat × Bool)}
theorem Runs.andN {t u : TypeId} {x y : Operand} {m n : Nat} (hx : a.eval x = .int .i64 (m : Nat)) (hy : a.eval y = .int .i64 (n : Nat)) (hm : m < 4611686018427387904) (hn : n < 4611686018427387904) :
 Runs P (Oper.mk d (.binOp .and t x y u) ty ps af g) a w (.int .i64 ((m &&& n : Nat) : Int)) := by
 have hle : m &&& n ≤ m := Nat.and_le_left
 have e : (BitVec.ofInt 64 (m : Int) &&& BitVec.ofInt 64 (n : Int)).toNat = m &&& n := by
  rw [BitVec.toNat_and, BitVec.ofInt_natCast, BitVec.ofInt_natCast, BitVec.toNat_ofNat, BitVec.toNat_ofNat, Nat.mod_eq_of_lt (by omega), Nat.mod_eq_of_lt (by omega)]
 have e2 : IntKind.i64.wrap ((m &&& n : Nat) : Int) = ((m &&& n : Nat) : Int) := IntWalk.i64_in _ (by omega)
 constructor
 have hb : (Op.intBits .and .i64 (m : Nat) (n : Nat)) = Sem.pure (.int .i64 ((m &&& n : Nat) : Int)) := by
  show Sem.pure (Value.int .i64 (IntKind.i64.wrap ((BitVec.ofInt 64 (m : Int) &&& BitVec.ofInt 64 (n : Int)).toNat : Nat))) = _
  rw [e, e2]
 simp only [execOp, hx, hy, eqGuard, binOp, hb, Sem.run_bind, Sem.run_pure, Result.andThen_ok]
 simp [Sem.run]
theorem Runs.orN {t u : TypeId} {x y : Operand} {m n : Nat} (hx : a.eval x = .int .i64 (m : Nat)) (hy : a.eval y = .int .i64 (n : Nat)) (hm : m < 4611686018427387904) (hn : n < 4611686018427387904) :
 Runs P (Oper.mk d (.binOp .or t x y u) ty ps af g) a w (.int .i64 ((m ||| n : Nat) : Int)) := by
 have hlt : m ||| n < 2 ^ 62 := Nat.or_lt_two_pow (by omega) (by omega)
 have e : (BitVec.ofInt 64 (m : Int) ||| BitVec.ofInt 64 (n : Int)).toNat = m ||| n := by
  rw [BitVec.toNat_or, BitVec.ofInt_natCast, BitVec.ofInt_natCast, BitVec.toNat_ofNat, BitVec.toNat_ofNat, Nat.mod_eq_of_lt (by omega), Nat.mod_eq_of_lt (by omega)]
 have e2 : IntKind.i64.wrap ((m ||| n : Nat) : Int) = ((m ||| n : Nat) : Int) := IntWalk.i64_in _ (by omega)
 constructor
 have hb : (Op.intBits .or .i64 (m : Nat) (n : Nat)) = Sem.pure (.int .i64 ((m ||| n : Nat) : Int)) := by
  show Sem.pure (Value.int .i64 (IntKind.i64.wrap ((BitVec.ofInt 64 (m : Int) ||| BitVec.ofInt 64 (n : Int)).toNat : Nat))) = _
  rw [e, e2]
 simp only [execOp, hx, hy, eqGuard, binOp, hb, Sem.run_bind, Sem.run_pure, Result.andThen_ok]
 simp [Sem.run]
end
end Go.Proofs.X
