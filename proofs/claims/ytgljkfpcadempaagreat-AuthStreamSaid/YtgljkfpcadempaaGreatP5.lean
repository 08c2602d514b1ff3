/- Laws and walks that the proof of the statement is made of (part 5). -/
import Derived.Test.YtgljkfpcadempaaGreatP4
set_option linter.unusedSimpArgs false
set_option linter.unusedVariables false
namespace Go.Proofs.X
open Go.RowKit
set_option maxRecDepth 100000
def cP : List Value := [aI [], aI [], .int .i64 0, .int .i64 0, .int .i64 0, .int .i64 0, .int .i64 0]
theorem uL (s : List UInt8) : (bM s).1.length ≤ s.length ∧ (bM s).2.1.length ≤ s.length := by
 unfold bM
 split
 ·simp
 ·refine ⟨?_, by simp⟩
  unfold gU
  split
  ·simp only [Option.getD_some]
   have : (Lib.trimSuffix (s.take (kT s + 1)) [0]).length ≤ (s.take (kT s + 1)).length := Lib.trimSuffix_le _ _
   simp at this ⊢
   omega
  ·simp
set_option maxHeartbeats 1000000 in
theorem RH (d : List UInt8) (w : World) (hl : d.length ≤ 4611686018427387904) : Calls Tryz.prog 106 #[aI d] w (bS w (match cI d with | some s => .tuple #[.agg s.cells.toArray, .int .i64 0] | none => .tuple #[.agg cP.toArray, .int .i64 2])) := by
 have hl1 := uL d
 have hl2 := uL (bM d).2.1
 go_enter Tryz.func106, Tryz.ntmps106
 refine_lift OZ ?_; intro _ _ _
 refine aN (z := cP) rfl (by decide +kernel) ?_
 intro w1 x1 s1 h1
 refine aA ?_
 refine_lift gA fun _ _ => ?_
 refine aE (enters_of Tryz.func152 rfl rfl) rfl rfl (SV d _ hl) ?_
 intro w2 x2
 refine aA ?_
 have h12 := x2.at h1
 refine_lift dL ?_
 refine aN (z := [aI []]) rfl (by decide +kernel) ?_
 intro w3 x3 s3 h3
 refine aA ?_
 have h13 := x3.at h12
 refine_lift dL ?_
 refine eH (v := aI (bM d).2.1) rfl rfl rfl h3 (by decide +kernel) rfl ?_
 intro w4 p4
 have s2 : w.heap.size < w2.heap.size := by have := x2.size; omega
 have h14 := p4.at h13 (by omega)
 have h54 := p4.this
 have x4 : Ext w w4 := ((x1.trans x2).trans x3).move p4.mv (by rintro k ⟨⟩; omega)
 have hp5 := aD (cs := [aI (bM d).2.1]) h54
 generalize hb5 : w2.heap.size = b5 at *
 clear h1 h12 h13 h3 p4 x1 x2 x3 s3
 refine_lift gA fun _ _ => ?_
 refine aE (enters_of Tryz.func152 rfl rfl) rfl rfl (SV _ _ (by omega)) ?_
 intro w5 x5
 refine aA ?_
 have h15 := x5.at h14
 have h55 := x5.at h54
 have hp5 := hp5.ext x5
 have x5 := x4.trans x5
 refine_lift dL ?_
 refine eH (v := aI (bM (bM d).2.1).2.1) rfl rfl rfl h55 (by decide +kernel) rfl ?_
 intro w6 p6
 have h16 := p6.at h15 (by omega)
 have h56 := p6.this
 have x6 : Ext w w6 := x5.move p6.mv (by rintro k ⟨⟩; omega)
 clear hp5 h54 h14 h15 h55 p6 x4 x5
 have hp5 := aD (cs := [aI (bM (bM d).2.1).2.1]) h56
 refine_lift NT (fun hc hc _ _ _ => ?_) (fun _ _ hc hc _ _ => ?_) (fun _ _ hc _ _ => ?_) (fun _ _ hc hc _ _ _ => ?_)
 ·refine cT (v := .agg cP.toArray) rfl (Runs.build (parts := []) (vals := []) rfl (by kernel_rfl)) ?_
  refine aA ?_
  refine aG (v := .agg cP.toArray) rfl rfl rfl h16 (by decide +kernel) rfl (by decide +kernel) ?_
  intro w7 p7
  have x7 : Ext w w7 := x6.move p7.mv (by rintro k ⟨⟩; omega)
  have h17 : w7.heap[w.heap.size]? = some (.cells cP.toArray 160 (0, 0)) := p7.this
  refine_lift dL ?_
  refine bodyPost_ret (bK (cs := cP) rfl rfl h17 (by decide +kernel)) rfl ⟨?_, x7⟩
  have hno : cI d = none := by
   unfold cI
   rw [if_neg]
   rintro ⟨q1, q2, q3, q4⟩
   have := ‹(!decide (((bM (bM d).2.1).2.1.length : Int) = 20)) = true›
   simp [q3] at this
  rw [hno]
  rfl
 ·have hc1 := ‹(!(bM d).2.2) = false›
  have hc2 := ‹(!(bM (bM d).2.1).2.2) = false›
  have hc3 := ‹(!decide (((bM (bM d).2.1).2.1.length : Int) = 20)) = false›
  have hr : (bM (bM d).2.1).2.1.length = 20 := by simp at hc3; omega
  have q1 : (bM d).2.2 = true := by simpa using hc1
  have q2 : (bM (bM d).2.1).2.2 = true := by simpa using hc2
  have hps : cI d = if (fA d).ok = true then some (fA d) else none := by
   unfold cI
   simp only [q1, q2, hr, true_and]
  generalize hrr : (bM (bM d).2.1).2.1 = r at *
  refine eV (f := 153) (caps := #[.pointer (some ⟨b5, 0, none⟩)]) (enters_of Tryz.func153 rfl rfl) rfl rfl rfl (PO r 0 _ _ hp5 hr (by omega)) ?_
  rintro e w10 ⟨rfl, y⟩
  refine ⟨_, rfl, ?_⟩
  refine aA ?_
  have hp5 := hp5.ext y
  have h16 := y.at h16
  have x6 := x6.trans y
  clear y
  refine_lift dL ?_
  refine eV (f := 153) (caps := #[.pointer (some ⟨b5, 0, none⟩)]) (enters_of Tryz.func153 rfl rfl) rfl rfl rfl (PO r 1 _ _ hp5 hr (by omega)) ?_
  rintro e w11 ⟨rfl, y⟩
  refine ⟨_, rfl, ?_⟩
  refine aA ?_
  have hp5 := hp5.ext y
  have h16 := y.at h16
  have x6 := x6.trans y
  clear y
  refine_lift dL ?_
  refine eV (f := 153) (caps := #[.pointer (some ⟨b5, 0, none⟩)]) (enters_of Tryz.func153 rfl rfl) rfl rfl rfl (PO r 2 _ _ hp5 hr (by omega)) ?_
  rintro e w12 ⟨rfl, y⟩
  refine ⟨_, rfl, ?_⟩
  refine aA ?_
  have hp5 := hp5.ext y
  have h16 := y.at h16
  have x6 := x6.trans y
  clear y
  refine_lift dL ?_
  refine eV (f := 153) (caps := #[.pointer (some ⟨b5, 0, none⟩)]) (enters_of Tryz.func153 rfl rfl) rfl rfl rfl (PO r 3 _ _ hp5 hr (by omega)) ?_
  rintro e w13 ⟨rfl, y⟩
  refine ⟨_, rfl, ?_⟩
  refine aA ?_
  have hp5 := hp5.ext y
  have h16 := y.at h16
  have x6 := x6.trans y
  clear y
  refine_lift dL ?_
  refine eV (f := 153) (caps := #[.pointer (some ⟨b5, 0, none⟩)]) (enters_of Tryz.func153 rfl rfl) rfl rfl rfl (PO r 4 _ _ hp5 hr (by omega)) ?_
  rintro e w14 ⟨rfl, y⟩
  refine ⟨_, rfl, ?_⟩
  refine aA ?_
  have hp5 := hp5.ext y
  have h16 := y.at h16
  have x6 := x6.trans y
  clear y
  refine_lift dL ?_
  have hsc : (fA d).cells = [aI (bM d).1, aI (bM (bM d).2.1).1, .int .i64 (numP r 0 4 : Nat), .int .i64 (numP r 1 4 : Nat), .int .i64 (numP r 2 4 : Nat), .int .i64 (numP r 3 4 : Nat), .int .i64 (numP r 4 4 : Nat)] := by
   simp only [SoaR.cells, fA, hrr]
  refine cT (v := .agg (fA d).cells.toArray) rfl (by rw [hsc]; exact Runs.build rfl (by kernel_rfl)) ?_
  refine aA ?_
  refine aN (z := cP) rfl (by decide +kernel) ?_
  intro w15 x15 s15 h15
  refine aA ?_
  have h16 := x15.at h16
  have x6 := x6.trans x15
  have hlt16 : w.heap.size < w14.heap.size := (Array.getElem?_eq_some_iff.1 ‹w14.heap[w.heap.size]? = _›).1
  refine aG (v := .agg (fA d).cells.toArray) rfl rfl rfl h15 (show aZ Tryz.prog 160 7 = true by decide +kernel) rfl (by rw [hsc]; simp [Value.cells, Value.oneCell', aI]) ?_
  intro w16 p16
  have h16 := p16.at h16 (by omega)
  have x6 := x6.move p16.mv (by rintro k ⟨⟩; omega)
  have hb10 : w16.heap[w14.heap.size]? = some (.cells (fA d).cells.toArray 160 (0, 0)) := p16.this
  have hp10 := aD hb10
  refine_lift CI fun _ _ _ _ => ?_
  refine cT (v := .agg (fA d).cells.toArray) rfl (Runs.loadN (n := 7) hp10 rfl (by decide +kernel)) ?_
  refine aA ?_
  have hm1 : (fA d).main.length ≤ 4611686018427387904 := by simp only [fA]; omega
  have hm2 : (fA d).mail.length ≤ 4611686018427387904 := by simp only [fA]; omega
  refine aE (enters_of Tryz.func154 rfl rfl) rfl rfl (TU (fA d) _ hm1 hm2) ?_
  intro w17 x17
  refine aA ?_
  have h16 := x17.at h16
  have hb10 := x17.at hb10
  have x6 := x6.trans x17
  have hp10 := hp10.ext x17
  cases hok : (fA d).ok with
  | false =>
   simp only [hok, Bool.false_eq_true, if_false] at hps ⊢
   refine_lift NR fun _ _ _ => ?_
   refine cT (v := .agg cP.toArray) rfl (Runs.build (parts := []) (vals := []) rfl (by kernel_rfl)) ?_
   refine aA ?_
   refine aG (v := .agg cP.toArray) rfl rfl rfl h16 (by decide +kernel) rfl (by decide +kernel) ?_
   intro w7 p7
   have x7 : Ext w w7 := x6.move p7.mv (by rintro k ⟨⟩; omega)
   have h17 : w7.heap[w.heap.size]? = some (.cells cP.toArray 160 (0, 0)) := p7.this
   refine_lift dL ?_
   refine bodyPost_ret (bK (cs := cP) rfl rfl h17 (by decide +kernel)) rfl ⟨?_, x7⟩
   rw [hps]
   rfl
  | true =>
   simp only [hok, if_true] at hps ⊢
   refine_lift gA fun _ _ => ?_
   refine cT (v := .agg (fA d).cells.toArray) rfl (Runs.loadN (n := 7) hp10 rfl (by decide +kernel)) ?_
   refine aA ?_
   refine aG (v := .agg (fA d).cells.toArray) rfl rfl rfl h16 (show aZ Tryz.prog 160 7 = true by decide +kernel) rfl (by rw [hsc]; simp [Value.cells, Value.oneCell', aI]) ?_
   intro w7 p7
   have x7 : Ext w w7 := x6.move p7.mv (by rintro k ⟨⟩; omega)
   have h17 : w7.heap[w.heap.size]? = some (.cells (fA d).cells.toArray 160 (0, 0)) := p7.this
   refine_lift dL ?_
   refine bodyPost_ret (bK (cs := (fA d).cells) rfl rfl h17 (show dY Tryz.prog 160 7 = true by decide +kernel)) rfl ⟨?_, x7⟩
   rw [hps]
   rfl
 ·refine cT (v := .agg cP.toArray) rfl (Runs.build (parts := []) (vals := []) rfl (by kernel_rfl)) ?_
  refine aA ?_
  refine aG (v := .agg cP.toArray) rfl rfl rfl h16 (by decide +kernel) rfl (by decide +kernel) ?_
  intro w7 p7
  have x7 : Ext w w7 := x6.move p7.mv (by rintro k ⟨⟩; omega)
  have h17 : w7.heap[w.heap.size]? = some (.cells cP.toArray 160 (0, 0)) := p7.this
  refine_lift dL ?_
  refine bodyPost_ret (bK (cs := cP) rfl rfl h17 (by decide +kernel)) rfl ⟨?_, x7⟩
  have hno : cI d = none := by
   unfold cI
   rw [if_neg]
   rintro ⟨q1, q2, q3, q4⟩
   have := ‹(!(bM (bM d).2.1).2.2) = true›
   simp [q2] at this
  rw [hno]
  rfl
 ·refine cT (v := .agg cP.toArray) rfl (Runs.build (parts := []) (vals := []) rfl (by kernel_rfl)) ?_
  refine aA ?_
  refine aG (v := .agg cP.toArray) rfl rfl rfl h16 (by decide +kernel) rfl (by decide +kernel) ?_
  intro w7 p7
  have x7 : Ext w w7 := x6.move p7.mv (by rintro k ⟨⟩; omega)
  have h17 : w7.heap[w.heap.size]? = some (.cells cP.toArray 160 (0, 0)) := p7.this
  refine_lift dL ?_
  refine bodyPost_ret (bK (cs := cP) rfl rfl h17 (by decide +kernel)) rfl ⟨?_, x7⟩
  have hno : cI d = none := by
   unfold cI
   rw [if_neg]
   rintro ⟨q1, q2, q3, q4⟩
   have := ‹(!(bM d).2.2) = true›
   simp [q1] at this
  rw [hno]
  rfl
set_option maxHeartbeats 1000000 in
theorem TV (k : Int) (d : List UInt8) (w : World) (hl : d.length ≤ 4000) : Calls Tryz.prog 148 #[.int .i64 k, aI d] w (bS w (.bool (fits k d))) := by
 have h38 := fun w => RH d w (by omega)
 go_enter Tryz.func148, Tryz.ntmps148
 (repeat' first | ((with_reducible refine aJ ?_); go_step) | ((with_reducible refine aH ?_); first | refine bQ ?_ | (refine aK ?_ ?_ <;> intro hc)) | fail)
 ·have h1 := ‹k = 1›
  go_ret
  refine ⟨?_, Ext.refl _⟩
  rw [fits, if_pos h1]
  have e : decide ((d.length : Int) = 4) = decide (d.length = 4) := by apply decide_eq_decide.2; omega
  exact congrArg (fun b => Ending.returned (Value.bool b)) e
 ·have h1 := ‹¬k = 1›
  have h2 := ‹k = 28›
  go_ret
  refine ⟨?_, Ext.refl _⟩
  rw [fits, if_neg h1, if_pos h2]
  have e : decide ((d.length : Int) = 16) = decide (d.length = 16) := by apply decide_eq_decide.2; omega
  exact congrArg (fun b => Ending.returned (Value.bool b)) e
 ·have h1 := ‹¬k = 1›
  have h2 := ‹¬k = 28›
  have h3 := ‹k = 16›
  refine aE (enters_of Tryz.func185 rfl rfl) rfl rfl (TQ _ _ (by omega)) ?_
  intro w2 x2
  refine aA ?_
  refine_lift dL ?_
  go_ret
  refine ⟨?_, x2⟩
  rw [fits, if_neg h1, if_neg h2, if_pos h3]
  rfl
 ·have h1 := ‹¬k = 1›
  have h2 := ‹¬k = 28›
  have h3 := ‹¬k = 16›
  have h4 := ‹k = 6›
  have hF : fits k d = (cI d).isSome := by rw [fits, if_neg h1, if_neg h2, if_neg h3, if_pos h4]
  refine aE (enters_of Tryz.func106 rfl rfl) rfl rfl (h38 _) ?_
  intro w2 x2
  refine aA ?_
  cases hp : cI d with
  | none =>
   simp only [hp] at hF
   refine_lift dL ?_
   refine aN (z := cP) rfl (by decide +kernel) ?_
   intro w3 x3 s3 h3b
   refine aA ?_
   refine aG (v := .agg cP.toArray) rfl rfl rfl h3b (by decide +kernel) rfl (by decide +kernel) ?_
   intro w4 p4
   refine_lift dL ?_
   go_ret
   refine ⟨?_, (x2.trans x3).move p4.mv (by rintro k ⟨⟩; exact x2.size)⟩
   rw [hF]
   rfl
  | some s =>
   simp only [hp] at hF
   have hsc : ∀ s : SoaR, s.cells = [aI s.main, aI s.mail, .int .i64 s.serial, .int .i64 s.refresh, .int .i64 s.retry, .int .i64 s.expire, .int .i64 s.minimum] := fun _ => rfl
   refine_lift dL ?_
   refine aN (z := cP) rfl (by decide +kernel) ?_
   intro w3 x3 s3 h3b
   refine aA ?_
   refine aG (v := .agg s.cells.toArray) rfl rfl rfl h3b (show aZ Tryz.prog 160 7 = true by decide +kernel) rfl (by rw [hsc]; simp [Value.cells, Value.oneCell', aI]) ?_
   intro w4 p4
   refine_lift dL ?_
   go_ret
   refine ⟨?_, (x2.trans x3).move p4.mv (by rintro k ⟨⟩; exact x2.size)⟩
   rw [hF]
   rfl
 ·have h1 := ‹¬k = 1›
  have h2 := ‹¬k = 28›
  have h3 := ‹¬k = 16›
  have h4 := ‹¬k = 6›
  refine aE (enters_of Tryz.func105 rfl rfl) rfl rfl (QP k d _ (by omega)) ?_
  intro w2 x2
  refine aA ?_
  refine_lift dL ?_
  go_ret
  refine ⟨?_, x2⟩
  rw [fits, if_neg h1, if_neg h2, if_neg h3, if_neg h4]
  simp
set_option maxHeartbeats 20000000 in
theorem QR (r : Rec) (w : World) : Calls Tryz.prog 100 #[.agg #[aI r.name, .int .i64 r.kind, .int .i64 r.ttl, aI r.data]] w (bS w (.int .i64 (bF r))) := by
 have hf : r.data.length ≤ 4000 → ∀ w, Calls Tryz.prog 148 #[.int .i64 r.kind, aI r.data] w (bS w (.bool (fits r.kind r.data))) := fun h w => TV _ _ w h
 go_enter Tryz.func100, Tryz.ntmps100
 refine_lift zW fun _ _ => ?_
 refine bU (vs := [aI r.name, .int .i64 r.kind, .int .i64 r.ttl, aI r.data]) rfl rfl ?_
 intro p w1 x1 hp
 refine aA ?_
 (repeat' first | ((with_reducible refine aJ ?_); go_step) | ((with_reducible refine aH ?_); refine bQ ?_) | fail)
 all_goals try (go_ret; refine ⟨?_, x1⟩; first | (rw [bF, if_pos (by omega)]; rfl) | (rw [bF, if_neg (by omega), if_pos (by omega)]; rfl))
 ((with_reducible refine aH ?_); refine mG ?_; ((first | refine EC ?_ ?_ | refine ED ?_ ?_) <;> intro hc))
 all_goals refine_lift MT ?_
 all_goals try (go_ret; refine ⟨?_, x1⟩; first | (rw [bF, if_pos (by omega)]; rfl) | (rw [bF, if_neg (by omega), if_pos (by omega)]; rfl))
 ((with_reducible refine aH ?_); refine mG ?_; ((first | refine EC ?_ ?_ | refine ED ?_ ?_) <;> intro hc))
 all_goals refine_lift MT ?_
 all_goals try (go_ret; refine ⟨?_, x1⟩; first | (rw [bF, if_pos (by omega)]; rfl) | (rw [bF, if_neg (by omega), if_pos (by omega)]; rfl))
 ((with_reducible refine aH ?_); refine mG ?_; ((first | refine EC ?_ ?_ | refine ED ?_ ?_) <;> intro hc))
 all_goals refine_lift MT ?_
 all_goals try (go_ret; refine ⟨?_, x1⟩; first | (rw [bF, if_pos (by omega)]; rfl) | (rw [bF, if_neg (by omega), if_pos (by omega)]; rfl))
 ((with_reducible refine aH ?_); refine mG ?_; ((first | refine EC ?_ ?_ | refine ED ?_ ?_) <;> intro hc))
 all_goals refine_lift MT ?_
 all_goals try (go_ret; refine ⟨?_, x1⟩; first | (rw [bF, if_pos (by omega)]; rfl) | (rw [bF, if_neg (by omega), if_pos (by omega)]; rfl))
 (apply wT; (rfl)) <;> intro hc
 ·have hlen : r.data.length ≤ 4000 := by simp at hc; omega
  rw [hc]
  refine_lift MT ?_
  refine aE (enters_of Tryz.func148 rfl rfl) rfl rfl (hf hlen _) ?_
  intro w2 x2
  refine aA ?_
  have hp := hp.ext x2
  cases hfit : fits r.kind r.data with
  | true =>
   refine_lift TC fun _ _ => ?_
   refine aE (enters_of Tryz.func65 rfl rfl) rfl rfl (NV _ _) ?_
   intro w3 x3
   refine aA ?_
   refine_lift MT ?_
   go_ret
   refine ⟨?_, (x1.trans x2).trans x3⟩
   have e : bF r = if (aX r.name).isSome = true then 0 else 1 := by
    rw [bF, if_neg (by omega), if_neg (by rw [hfit]; simp; omega)]
   rw [e]
   rfl
  | false =>
   refine_lift MT ?_
   go_ret
   refine ⟨?_, x1.trans x2⟩
   rw [bF, if_neg (by omega), if_pos (by rw [hfit]; simp)]
   rfl
 ·have hc4 : 4000 < r.data.length := by simp at hc; omega
  rw [hc]
  simp only [Act.put, List.setIfInBounds_toArray, List.set_cons_succ, List.set_cons_zero, Bool.not_true, Bool.not_false]
  refine_lift MT ?_
  go_ret
  refine ⟨?_, x1⟩
  rw [bF, if_neg (by omega), if_pos (by omega)]
  rfl
end Go.Proofs.X
set_option linter.unusedSimpArgs false
set_option linter.unusedVariables false
namespace Go.Proofs.X
open Go.RowKit
theorem uM {α : Type} {p : α → Bool} {l : List α} {k : Nat} (h : k < l.length) (hp : p l[k] = false) : l.all p = false := by
 rw [List.all_eq_false]
 exact ⟨l[k], List.getElem_mem h, by simp [hp]⟩
theorem pP {α : Type} {p : α → Bool} {l : List α} {k : Nat} (h : k < l.length) (ha : (l.take k).all p = true) (hp : p l[k] = true) : (l.take (k + 1)).all p = true := by
 rw [List.take_add_one, List.getElem?_eq_getElem h, List.all_append, ha]
 simp [hp]
def nS (s : RSet) : Bool := decide (s.data.length ≤ 12) && decide (s.name.length ≤ 300) && s.data.all fun d => decide (d.length ≤ 300)
def pS (l : List RSet) : Bool := decide (l.length ≤ 25) && l.all nS
set_option maxHeartbeats 2000000 in
theorem TW (v : Value) (l : List RSet) (w : World) (hv : SetsAt w v l) : Calls Tryz.prog 59 #[v] w (bS w (.bool (pS l))) := by
 obtain ⟨cv, hv1, hvl⟩ := hv.sl
 have hle := hv1.le
 go_enter Tryz.func59, Tryz.ntmps59
 (repeat' first | ((with_reducible refine aJ ?_); go_step) | ((with_reducible refine aH ?_); first | refine bQ ?_ | (refine aK ?_ ?_ <;> intro hc)) | fail)
 ·go_ret
  refine ⟨?_, Ext.refl _⟩
  have : decide (l.length ≤ 25) = false := decide_eq_false (by omega)
  simp [pS, this]
 ·have h25 : decide (l.length ≤ 25) = true := decide_eq_true (by omega)
  go_loopw [3, 4] (fun i _ wr => ∃ k : Nat, k ≤ l.length ∧ i = .int .i64 k ∧ Ext w wr ∧ (l.take k).all nS = true) (fun i _ _ => l.length - (intOf i).toNat)
  case atStart => exact ⟨0, Nat.zero_le _, rfl, Ext.refl _, rfl⟩
  case round =>
   obtain ⟨k, hk, rfl, hx, hall⟩ := hrel
   have hv2 := hv1.ext hx
   by_cases hlt : k < l.length
   ·obtain ⟨x, h1, h1d⟩ := (hv.ext hx).elem (List.getElem?_eq_getElem hlt)
    have hdl := bN l[k].data
    have hdle := h1d.le
    (repeat' first | ((with_reducible refine aJ ?_); go_step) | ((with_reducible refine aH ?_); first | refine bQ ?_ | (refine aK ?_ ?_ <;> intro hc)) | fail)
    ·go_ret
     refine ⟨?_, by exact fC⟩
     have : nS l[k] = false := by
      have : decide (l[k].name.length ≤ 300) = false := decide_eq_false (by omega)
      simp [nS, this]
     simp [pS, uM hlt this]
    ·have e1 : decide (l[k].data.length ≤ 12) = true := decide_eq_true (by omega)
     have e2 : decide (l[k].name.length ≤ 300) = true := decide_eq_true (by omega)
     go_loopw [4] (fun i wq => ∃ j : Nat, j ≤ l[k].data.length ∧ i = .int .i64 j ∧ Ext wr wq ∧ (l[k].data.take j).all (fun d => decide (d.length ≤ 300)) = true) (fun i _ => l[k].data.length - (intOf i).toNat)
     case atStart => exact ⟨0, Nat.zero_le _, rfl, Ext.refl _, rfl⟩
     case round =>
      obtain ⟨j, hj, rfl, hx2, hall2⟩ := hrel
      have hv3 := hv2.ext hx2
      have h1b := h1.ext hx2
      have h1c := h1d.ext hx2
      by_cases hlt2 : j < l[k].data.length
      ·have h3 := h1c.elem (jA hlt2)
       (repeat' first | ((with_reducible refine aJ ?_); go_step) | ((with_reducible refine aH ?_); first | refine bQ ?_ | (refine aK ?_ ?_ <;> intro hc)) | fail)
       ·go_ret
        refine ⟨?_, by exact fC⟩
        have : nS l[k] = false := by
         have : l[k].data.all (fun d => decide (d.length ≤ 300)) = false := uM hlt2 (decide_eq_false (by omega))
         simp only [nS, this, Bool.and_false]
        simp [pS, uM hlt this]
       ·exact ⟨⟨j + 1, by omega, rfl, by exact fC, pP hlt2 hall2 (decide_eq_true (by omega))⟩, by simp [intOf]; omega⟩
      ·have hj2 : j = l[k].data.length := by omega
       subst hj2
       (repeat' first | ((with_reducible refine aJ ?_); go_step) | ((with_reducible refine aH ?_); first | refine bQ ?_ | (refine aK ?_ ?_ <;> intro hc)) | fail)
       rw [List.take_length] at hall2
       exact ⟨⟨k + 1, by omega, rfl, by exact fC, pP hlt hall (by rw [nS, e1, e2, hall2]; rfl)⟩, by simp [intOf]; omega⟩
    ·go_ret
     refine ⟨?_, by exact fC⟩
     have : nS l[k] = false := by
      have : decide (l[k].data.length ≤ 12) = false := decide_eq_false (by omega)
      simp [nS, this]
     simp [pS, uM hlt this]
   ·have hk2 : k = l.length := by omega
    subst hk2
    (repeat' first | ((with_reducible refine aJ ?_); go_step) | ((with_reducible refine aH ?_); first | refine bQ ?_ | (refine aK ?_ ?_ <;> intro hc)) | fail)
    go_ret
    refine ⟨?_, by exact fC⟩
    rw [List.take_length] at hall
    rw [pS, h25, hall]
    rfl
end Go.Proofs.X
set_option linter.unusedSimpArgs false
set_option linter.unusedVariables false
namespace Go.Proofs.X
open Go.RowKit
set_option maxRecDepth 100000
def sF (s : RSet) (i : Nat) : Bool := decide (bF ⟨s.name, s.kind, s.ttl, s.data.getD i []⟩ ≠ 0) || (decide (0 < i) && !Op.bytesLess (s.data.getD (i - 1) []) (s.data.getD i []))
def kI (s : RSet) : Bool := decide (fold s.name = s.name) && decide (1 ≤ s.data.length) && decide (s.data.length ≤ 20) && (List.range s.data.length).all fun i => !sF s i
theorem AS {s : RSet} {i : Nat} (hi : i < s.data.length) (h : sF s i = true) : kI s = false := by
 have : (List.range s.data.length).all (fun i => !sF s i) = false := by
  rw [List.all_eq_false]
  exact ⟨i, by simpa using hi, by simp [h]⟩
 simp [kI, this]
set_option maxHeartbeats 2400000 in
theorem TX (s : RSet) (v : Value) (w : World) (hv : Sl 1 w v (aS s.data)) : Calls Tryz.prog 161 #[.agg #[aI s.name, .int .i64 s.kind, .int .i64 s.ttl, v]] w (bS w (.bool (kI s))) := by
 have hlen := bN s.data
 go_enter Tryz.func161, Tryz.ntmps161
 refine_lift zW fun _ _ => ?_
 refine bU (vs := [aI s.name, .int .i64 s.kind, .int .i64 s.ttl, v]) rfl rfl ?_
 intro p w1 x1 hp
 refine aA ?_
 refine_lift CI fun _ _ _ _ => ?_
 refine dU (S := Ext w1) (by decide +kernel) ?_
 intro w2 x2 _
 refine tk 0 ?_; refine aA ?_; refine tk 1 ?_; refine aA ?_; refine tk 3 ?_; refine aA ?_; refine tk 4 ?_; refine aA ?_
 refine eO (i := 2) (by decide +kernel) rfl rfl ?_
 refine aE (enters_of Tryz.func32 rfl rfl) rfl rfl (IK _ _) ?_; intro w3 x3; refine aA ?_
 refine aL ⟨by exact fC, ?_⟩
 refine tk 5 ?_; refine aA ?_
 by_cases hf : fold s.name = s.name
 ·have e1 : (decide (fold s.name = s.name)) = true := by simpa using hf
  simp only [e1, Bool.not_true]
  refine tk 6 ?_; refine aA ?_; refine tk 7 ?_; refine aA ?_; refine tk 8 ?_; refine aA ?_; refine tk 9 ?_; refine aA ?_; refine tk 10 ?_; refine aA ?_
  by_cases h1 : s.data.length < 1
  ·have e2 : decide (((aS s.data).length : Int) < 1) = true := decide_eq_true (by omega)
   simp only [e2]
   refine tk 11 ?_; refine aA ?_; refine tk 12 ?_; refine aA ?_
   refine nR 13 ?_; refine aA ?_
   refine nR 14 ?_; refine aA ?_
   refine nR 15 ?_; refine aA ?_
   refine nR 16 ?_; refine aA ?_
   refine tk 17 ?_; refine aA ?_
   refine dR (by decide +kernel) ?_
   refine_lift dL ?_
   go_ret
   refine ⟨?_, by exact fC⟩
   have : decide (1 ≤ s.data.length) = false := decide_eq_false (by omega)
   simp [kI, this]
  ·have e2 : decide (((aS s.data).length : Int) < 1) = false := decide_eq_false (by omega)
   simp only [e2]
   refine tk 11 ?_; refine aA ?_; refine tk 12 ?_; refine aA ?_; refine tk 13 ?_; refine aA ?_; refine tk 14 ?_; refine aA ?_; refine tk 15 ?_; refine aA ?_; refine tk 16 ?_; refine aA ?_; refine tk 17 ?_; refine aA ?_
   refine dR (by decide +kernel) ?_
   by_cases h2 : 20 < s.data.length
   ·have e3 : decide ((20 : Int) < ((aS s.data).length : Int)) = true := decide_eq_true (by omega)
    simp only [e3]
    refine_lift dL ?_
    go_ret
    refine ⟨?_, by exact fC⟩
    have : decide (s.data.length ≤ 20) = false := decide_eq_false (by omega)
    simp [kI, this]
   ·have e3 : decide ((20 : Int) < ((aS s.data).length : Int)) = false := decide_eq_false (by omega)
    simp only [e3]
    refine_lift gA fun _ _ => ?_
    have hxx : Ext w w3 := by exact fC
    go_loopw [3, 4, 26] (fun _ _ i wr => ∃ k : Nat, k ≤ s.data.length ∧ i = .int .i64 k ∧ Ext w3 wr ∧ ∀ j, j < k → sF s j = false) (fun _ _ i _ => s.data.length - (intOf i).toNat)
    case atStart => exact ⟨0, Nat.zero_le _, rfl, Ext.refl _, by omega⟩
    case round =>
     obtain ⟨k, hk, rfl, hx, hall⟩ := hrel
     by_cases hlt : k < s.data.length
     ·have hvr : Sl 1 wr v (aS s.data) := hv.ext (hxx.trans hx)
      have he : (aS s.data)[k]? = some [aI s.data[k]] := by simp [aS, hlt]
      have hpe := hvr.elem he
      have hpr : Pts wr p _ := hp.ext ((x2.trans x3).trans hx)
      have hbad : sF s k = (decide (bF ⟨s.name, s.kind, s.ttl, s.data[k]⟩ ≠ 0) || (decide (0 < k) && !Op.bytesLess (s.data.getD (k - 1) []) s.data[k])) := by
       have : s.data.getD k [] = s.data[k] := by simp [hlt]
       rw [sF, this]
      refine_lift HW ?_; intro _ _ _ _ _ _
      refine aE (enters_of Tryz.func172 rfl rfl) rfl rfl (SX _ _ _ _) ?_; intro w7 x7; refine aA ?_
      refine_lift dL ?_
      refine aE (enters_of Tryz.func100 rfl rfl) rfl rfl (QR ⟨s.name, s.kind, s.ttl, s.data[k]⟩ _) ?_; intro w8 x8; refine aA ?_
      by_cases hc : bF ⟨s.name, s.kind, s.ttl, s.data[k]⟩ = 0
      ·have e4 : decide (bF ⟨s.name, s.kind, s.ttl, s.data[k]⟩ = 0) = true := decide_eq_true hc
       generalize bF ⟨s.name, s.kind, s.ttl, s.data[k]⟩ = cr at hc e4 hbad ⊢
       ((with_reducible refine aH ?_); (first | (refine iL ?_; refine CO ?_) | (refine mG ?_; refine nQ ?_; (with_reducible refine aH ?_); refine iL ?_; refine CO ?_)))
       simp only [e4, Bool.not_true]
       refine_lift CR (fun hc => ?_) (fun hc => ?_)
       ·have hpp : Pts wr (dI v (((k : Int) - 1).toNat * 1)) [aI (s.data.getD (k - 1) [])] := by
         have e : ((k : Int) - 1).toNat = k - 1 := by omega
         rw [e]
         refine hvr.elem ?_
         have : k - 1 < s.data.length := by omega
         simp [aS, this]
        refine_lift CR (fun _ => ?_) (fun _ => ?_)
        ·have hl := ‹(!Op.bytesLess (s.data.getD (k - 1) []) s.data[k]) = true›
         go_ret
         refine ⟨?_, by exact fC⟩
         rw [AS hlt (by rw [hbad, hl]; have : 0 < k := by omega
                        simp [this])]
         rfl
        ·have hl := ‹(!Op.bytesLess (s.data.getD (k - 1) []) s.data[k]) = false›
         exact ⟨⟨k + 1, by omega, rfl, by exact fC, fun j hj => by
          rcases Nat.lt_or_ge j k with h | h
          ·exact hall j h
          ·have : j = k := by omega
           subst this
           rw [hbad, hl]; simp [‹cr = 0›]⟩, by simp [intOf]; omega⟩
       ·exact ⟨⟨k + 1, by omega, rfl, by exact fC, fun j hj => by
         rcases Nat.lt_or_ge j k with h | h
         ·exact hall j h
         ·have : j = k := by omega
          subst this
          have : ¬ (0 < j) := by omega
          rw [hbad]; simp [‹cr = 0›, this]⟩, by simp [intOf]; omega⟩
      ·have e4 : decide (bF ⟨s.name, s.kind, s.ttl, s.data[k]⟩ = 0) = false := decide_eq_false hc
       generalize bF ⟨s.name, s.kind, s.ttl, s.data[k]⟩ = cr at hc e4 hbad ⊢
       ((with_reducible refine aH ?_); (first | (refine iL ?_; refine CO ?_) | (refine mG ?_; refine nQ ?_; (with_reducible refine aH ?_); refine iL ?_; refine CO ?_)))
       simp only [e4, Bool.not_false]
       refine_lift dL ?_
       go_ret
       refine ⟨?_, by exact fC⟩
       rw [AS hlt (by rw [hbad]; simp [hc])]
       rfl
     ·have : k = s.data.length := by omega
      subst this
      refine_lift yU fun _ => ?_
      go_ret
      refine ⟨?_, by exact fC⟩
      have h20 : decide (s.data.length ≤ 20) = true := decide_eq_true (by omega)
      have h10 : decide (1 ≤ s.data.length) = true := decide_eq_true (by omega)
      have hal : (List.range s.data.length).all (fun i => !sF s i) = true := by
       rw [List.all_eq_true]
       intro i hi
       simp [hall i (by simpa using hi)]
      have : kI s = true := by rw [kI, hal, h20, h10, e1]; rfl
      rw [this]
      rfl
 ·have e1 : (decide (fold s.name = s.name)) = false := by simpa using hf
  simp only [e1, Bool.not_false]
  refine tk 6 ?_; refine aA ?_
  refine nR 7 ?_; refine aA ?_
  refine nR 8 ?_; refine aA ?_
  refine nR 9 ?_; refine aA ?_
  refine nR 10 ?_; refine aA ?_
  refine tk 11 ?_; refine aA ?_; refine tk 12 ?_; refine aA ?_
  refine nR 13 ?_; refine aA ?_
  refine nR 14 ?_; refine aA ?_
  refine nR 15 ?_; refine aA ?_
  refine nR 16 ?_; refine aA ?_
  refine tk 17 ?_; refine aA ?_
  refine dR (by decide +kernel) ?_
  refine_lift dL ?_
  go_ret
  refine ⟨?_, by exact fC⟩
  simp [kI, hf]
set_option maxHeartbeats 6000000 in
theorem TY (v : Value) (l : List (List UInt8)) (w : World) (hv : Sl 1 w v (aS l)) (hl : l.length ≤ 8796093022208) : Calls Tryz.prog 162 #[v] w (sX w fun v' w' => Own w.heap.size 1 9 w' v' (aS l)) := by
 have hlen := bN l
 go_enter Tryz.func162, Tryz.ntmps162
 (repeat' first | ((with_reducible refine aJ ?_); go_step) | ((with_reducible refine aH ?_); first | refine bQ ?_ | (refine aK ?_ ?_ <;> intro hc)) | fail)
 ·have hn := ‹AF v = true›
  go_ret
  have : aS l = [] := hv.isNil hn
  refine ⟨_, rfl, Ext.refl _, ?_⟩
  rw [this]
  exact Own.nil _ _ _ _
 ·refine nZ (t := 93) (e := 9) (k := 1) (bytes := 16) (by decide +kernel) rfl ?_
  intro v2 w2 x2 s2 o2
  refine aA ?_
  refine_lift dL ?_
  refine jE (B := w.heap.size) (e := 9) (k := 1) (bytes := 16) (es := []) (fs := aS l) rfl o2 rfl (hv.ext x2) (by decide +kernel) (by simp [aS, aI, Value.oneCell']) (by omega) (by simp; omega) (by simp; omega) ?_
  intro v3 w3 o3 m3
  have x3 := o2.mvx m3 x2 (Nat.le_refl _)
  refine_lift dL ?_
  go_ret
  exact ⟨_, rfl, x3, o3⟩
def kJ (l : List RSet) (i : Nat) : Bool := match l[i]? with
 | none => false
 | some s => !kI s || (decide (0 < i) && decide (0 ≤ dS (l.getD (i - 1) default).name s.name (l.getD (i - 1) default).kind s.kind))
def dM (l : List RSet) : Int := if 200 < l.length then 1 else if (List.range l.length).all (fun i => !kJ l i) = true then 0 else 1
theorem uN {l : List RSet} {i : Nat} (hi : i < l.length) (h : kJ l i = true) : dM l = 1 := by
 have : (List.range l.length).all (fun i => !kJ l i) = false := by
  rw [List.all_eq_false]
  exact ⟨i, by simpa using hi, by simp [h]⟩
 rw [dM, this]
 split <;> rfl
set_option maxHeartbeats 12000000 in
theorem TZ (v : Value) (l : List RSet) (w : World) (hv : SetsAt w v l) : Calls Tryz.prog 111 #[v] w (bS w (.int .i64 (dM l))) := by
 obtain ⟨cv, hv1, hvl⟩ := hv.sl
 have hle := hv1.le
 go_enter Tryz.func111, Tryz.ntmps111
 refine_lift FX (fun _ _ _ => ?_) (fun _ => ?_)
 ·go_ret
  refine ⟨?_, Ext.refl _⟩
  rw [dM, if_pos (by omega)]
  rfl
 ·go_loopw [3, 4, 10] (fun _ _ i wr => ∃ k : Nat, k ≤ l.length ∧ i = .int .i64 k ∧ Ext w wr ∧ ∀ j, j < k → kJ l j = false) (fun _ _ i _ => l.length - (intOf i).toNat)
  case atStart => exact ⟨0, Nat.zero_le _, rfl, Ext.refl _, by omega⟩
  case round =>
   obtain ⟨k, hk, rfl, hx, hall⟩ := hrel
   have hv2 := hv1.ext hx
   by_cases hlt : k < l.length
   ·obtain ⟨x, h1, h1d⟩ := (hv.ext hx).elem (List.getElem?_eq_getElem hlt)
    have hbad : kJ l k = (!kI l[k] || (decide (0 < k) && decide (0 ≤ dS (l.getD (k - 1) default).name l[k].name (l.getD (k - 1) default).kind l[k].kind))) := by
     rw [kJ, List.getElem?_eq_getElem hlt]
    refine_lift HW ?_; intro _ _ _ _ _ _
    refine aN (z := [aI [], .int .i64 0, .int .i64 0, .slice none 0 0]) rfl (by decide +kernel) ?_
    intro w2 x2 s2 h2
    refine_lift dL ?_
    refine aG (v := .agg #[aI l[k].name, .int .i64 l[k].kind, .int .i64 l[k].ttl, x]) rfl rfl rfl h2 (show aZ Tryz.prog 131 4 = true by decide +kernel) rfl ?_ ?_
    ·exact iV rfl rfl rfl h1d.one
    intro w3 p3
    have x3 : Ext wr w3 := x2.move p3.mv (by rintro k ⟨⟩; exact Nat.le_refl _)
    have hp4 := aD (cs := [aI l[k].name, .int .i64 l[k].kind, .int .i64 l[k].ttl, x]) p3.this
    clear p3 h2 x2
    refine_lift gA fun _ _ => ?_
    refine dU (S := Ext w3) (by decide +kernel) ?_
    intro w4 x4 _
    refine tk 0 ?_; refine aA ?_
    refine eO (i := 1) (by decide +kernel) rfl rfl ?_
    refine aE (enters_of Tryz.func161 rfl rfl) rfl rfl (TX l[k] _ _ (h1d.ext (x3.trans x4))) ?_; intro w5 x5; refine aA ?_
    refine aL ⟨by exact fC, ?_⟩
    cases hm : kI l[k] with
    | false =>
     rw [hm] at hbad
     refine tk 2 ?_; refine aA ?_
     try simp only [Bool.not_false]
     refine tk 3 ?_; refine aA ?_
     refine nR 4 ?_; refine aA ?_; refine nR 5 ?_; refine aA ?_; refine nR 6 ?_; refine aA ?_; refine nR 7 ?_; refine aA ?_; refine nR 8 ?_; refine aA ?_; refine nR 9 ?_; refine aA ?_; refine nR 10 ?_; refine aA ?_; refine nR 11 ?_; refine aA ?_; refine nR 12 ?_; refine aA ?_; refine nR 13 ?_; refine aA ?_; refine nR 14 ?_; refine aA ?_; refine nR 15 ?_; refine aA ?_
     refine tk 16 ?_; refine aA ?_
     refine dR (by decide +kernel) ?_
     refine_lift dL ?_
     go_ret
     refine ⟨?_, by exact fC⟩
     rw [uN hlt (by rw [hbad]; rfl)]
     rfl
    | true =>
     rw [hm] at hbad
     refine tk 2 ?_; refine aA ?_
     try simp only [Bool.not_true]
     refine tk 3 ?_; refine aA ?_; refine tk 4 ?_; refine aA ?_; refine tk 5 ?_; refine aA ?_
     by_cases hk0 : 0 < k
     ·have e5 : decide ((0 : Int) < (k : Int)) = true := decide_eq_true (by omega)
      have e6 : decide (0 < k) = true := decide_eq_true hk0
      simp only [e5]
      rw [e6] at hbad
      have hkl : k - 1 < l.length := by omega
      have hgd : l.getD (k - 1) default = l[k - 1] := by simp [hkl]
      obtain ⟨y, h9', h9d⟩ := (hv.ext hx).elem (List.getElem?_eq_getElem hkl)
      have e9 : ((k : Int) - 1).toNat = k - 1 := by omega
      have h9 : Pts wr (dI v (((k : Int) - 1).toNat * 4)) [aI l[k - 1].name, .int .i64 l[k - 1].kind, .int .i64 l[k - 1].ttl, y] := by rw [e9]; exact h9'
      rw [hgd] at hbad
      refine tk 6 ?_; refine aA ?_; refine tk 7 ?_; refine aA ?_; refine tk 8 ?_; refine aA ?_; refine tk 9 ?_; refine aA ?_; refine tk 10 ?_; refine aA ?_; refine tk 11 ?_; refine aA ?_; refine tk 12 ?_; refine aA ?_
      refine eO (i := 13) (by decide +kernel) rfl rfl ?_
      refine aE (enters_of Tryz.func110 rfl rfl) rfl rfl (SY _ _ _ _ _ _ _ _ _) ?_; intro w6 x6; refine aA ?_
      refine aL ⟨by exact fC, ?_⟩
      refine tk 14 ?_; refine aA ?_; refine tk 15 ?_; refine aA ?_; refine tk 16 ?_; refine aA ?_
      refine dR (by decide +kernel) ?_
      by_cases hc : 0 ≤ dS l[k - 1].name l[k].name l[k - 1].kind l[k].kind
      ·have e7 : decide (0 ≤ dS l[k - 1].name l[k].name l[k - 1].kind l[k].kind) = true := decide_eq_true hc
       simp only [e7]
       refine_lift dL ?_
       go_ret
       refine ⟨?_, by exact fC⟩
       rw [uN hlt (by rw [hbad, e7]; rfl)]
       rfl
      ·have e7 : decide (0 ≤ dS l[k - 1].name l[k].name l[k - 1].kind l[k].kind) = false := decide_eq_false hc
       simp only [e7]
       refine_lift dL ?_
       exact ⟨⟨k + 1, by omega, rfl, by exact fC, fun j hj => by
        rcases Nat.lt_or_ge j k with h | h
        ·exact hall j h
        ·have : j = k := by omega
         subst this
         rw [hbad, e7]; rfl⟩, by simp [intOf]; omega⟩
     ·have e5 : decide ((0 : Int) < (k : Int)) = false := decide_eq_false (by omega)
      have e6 : decide (0 < k) = false := decide_eq_false hk0
      simp only [e5]
      rw [e6] at hbad
      refine tk 6 ?_; refine aA ?_
      refine nR 7 ?_; refine aA ?_; refine nR 8 ?_; refine aA ?_; refine nR 9 ?_; refine aA ?_; refine nR 10 ?_; refine aA ?_; refine nR 11 ?_; refine aA ?_; refine nR 12 ?_; refine aA ?_; refine nR 13 ?_; refine aA ?_; refine nR 14 ?_; refine aA ?_
      refine tk 15 ?_; refine aA ?_; refine tk 16 ?_; refine aA ?_
      refine dR (by decide +kernel) ?_
      refine_lift dL ?_
      exact ⟨⟨k + 1, by omega, rfl, by exact fC, fun j hj => by
       rcases Nat.lt_or_ge j k with h | h
       ·exact hall j h
       ·have : j = k := by omega
        subst this
        rw [hbad]; rfl⟩, by simp [intOf]; omega⟩
   ·have hk2 : k = l.length := by omega
    subst hk2
    refine_lift yU fun _ => ?_
    go_ret
    refine ⟨?_, by exact fC⟩
    have : (List.range l.length).all (fun i => !kJ l i) = true := by
     rw [List.all_eq_true]
     intro i hi
     simp [hall i (by simpa using hi)]
    rw [dM, this, if_neg (by omega)]
    rfl
def MZ (n : List UInt8) (k : Int) (s : RSet) : Bool := decide (s.name = n) && decide (s.kind = k)
def cC (l : List RSet) (n : List UInt8) (k : Int) : Option RSet := l.find? (MZ (fold n) k)
def mS : List Value := [aI [], .int .i64 0, .int .i64 0, .slice none 0 0]
theorem xI {α : Type} {p : α → Bool} {l : List α} {k : Nat} (h : k < l.length) (ha : (l.take k).find? p = none) (hp : p l[k] = false) : (l.take (k + 1)).find? p = none := by
 rw [List.take_add_one, List.getElem?_eq_getElem h, List.find?_append, ha]
 simp [hp]
theorem EM {α : Type} {p : α → Bool} {l : List α} {k : Nat} (h : k < l.length) (ha : (l.take k).find? p = none) (hp : p l[k] = true) : l.find? p = some l[k] := by
 have e : l = l.take k ++ (l[k] :: l.drop (k + 1)) := by rw [← List.drop_eq_getElem_cons h, List.take_append_drop]
 have : l.find? p = (l.take k ++ (l[k] :: l.drop (k + 1))).find? p := congrArg _ e
 rw [this, List.find?_append, ha, List.find?_cons, hp]
 rfl
set_option maxHeartbeats 12000000 in
theorem PC (v : Value) (l : List RSet) (n : List UInt8) (kd : Int) (w : World) (hv : SetsAt w v l) (hb : ∀ s ∈ l, s.data.length ≤ 8796093022208) : Calls Tryz.prog 112 #[v, aI n, .int .i64 kd] w (sX w fun r w' => match cC l n kd with
 | some s => ∃ x, r = .tuple #[.agg #[aI s.name, .int .i64 s.kind, .int .i64 s.ttl, x], .bool true] ∧ Own w.heap.size 1 9 w' x (aS s.data)
 | none => r = .tuple #[.agg mS.toArray, .bool false]) := by
 obtain ⟨cv, hv1, hvl⟩ := hv.sl
 have hle := hv1.le
 go_enter Tryz.func112, Tryz.ntmps112
 refine_lift OZ ?_; intro _ _ _
 refine aN (z := mS) rfl (by decide +kernel) ?_
 intro w1 x1 s1 h1
 refine_lift gA fun _ _ => ?_
 refine aE (enters_of Tryz.func32 rfl rfl) rfl rfl (IK _ _) ?_; intro w2 x2; refine aA ?_
 have h2 := x2.at h1
 have x12 : Ext w w2 := x1.trans x2
 refine_lift gA fun _ _ => ?_
 have hv2 := hv1.ext x12
 refine_lift dL ?_
 go_loopw [9, 14] (fun _ i wr => ∃ k : Nat, k ≤ l.length ∧ i = .int .i64 k ∧ Ext w2 wr ∧ (l.take k).find? (MZ (fold n) kd) = none) (fun _ i _ => l.length - (intOf i).toNat)
 case atStart => exact ⟨0, Nat.zero_le _, rfl, Ext.refl _, rfl⟩
 case round =>
  obtain ⟨k, hk, rfl, hx, hall⟩ := hrel
  have hxw : Ext w wr := x12.trans hx
  have hv2 := hv1.ext hxw
  have h3 := hx.at h2
  by_cases hlt : k < l.length
  ·obtain ⟨x, h4, h4d⟩ := (hv.ext hxw).elem (List.getElem?_eq_getElem hlt)
   have hbk := hb _ (List.getElem_mem hlt)
   refine_lift HW ?_; intro _ _ _ _ _ _
   refine aN (z := mS) rfl (by decide +kernel) ?_
   intro w5 x5 s5 h5
   refine_lift dL ?_
   refine aG (v := .agg #[aI l[k].name, .int .i64 l[k].kind, .int .i64 l[k].ttl, x]) rfl rfl rfl h5 (show aZ Tryz.prog 131 4 = true by decide +kernel) rfl (iV rfl rfl rfl h4d.one) ?_
   intro w6 p6
   have x6 : Ext wr w6 := x5.move p6.mv (by rintro k ⟨⟩; exact Nat.le_refl _)
   have b6 := p6.this
   have hp6 := aD (cs := [aI l[k].name, .int .i64 l[k].kind, .int .i64 l[k].ttl, x]) b6
   have z6 : w6.heap.size = wr.heap.size + 1 := p6.size.trans s5
   clear p6 h5 x5
   refine_lift MW (fun hc _ => ?_) (fun hc => ?_) (fun hc _ _ _ => ?_)
   ·have hh : cC l n kd = some l[k] := EM hlt hall (by have h1 := ‹l[k].name = fold n›; have h2 := ‹l[k].kind = kd›; simp [MZ, h1, h2])
    refine aT (enters_of Tryz.func162 rfl rfl) rfl rfl (TY x l[k].data _ (h4d.ext x6) hbk) ?_
    intro y w7 x7 o7
    refine aA ?_
    refine_lift dL ?_
    have b7 := x7.at b6
    refine aO (cs := [aI l[k].name, .int .i64 l[k].kind, .int .i64 l[k].ttl, x]) b7 rfl rfl rfl (by simp) (by decide +kernel) o7.one ?_
    intro w8 p8
    have x68 : Ext wr w8 := (x6.trans x7).move p8.mv (by rintro k ⟨⟩; exact Nat.le_refl _)
    have hp8 := aD (cs := [aI l[k].name, .int .i64 l[k].kind, .int .i64 l[k].ttl, y]) p8.this
    have h8 := x68.at h3
    have o8 : Own (w.heap.size + 1) 1 9 w8 y (aS l[k].data) := (o7.put p8 (by omega)).weaken (by have := hx.size; have := x2.size; omega)
    clear hp6 b6 b7 p8
    refine_lift gA fun _ _ => ?_
    refine aG (v := .agg #[aI l[k].name, .int .i64 l[k].kind, .int .i64 l[k].ttl, y]) rfl rfl rfl h8 (show aZ Tryz.prog 131 4 = true by decide +kernel) rfl (iV rfl rfl rfl o7.one) ?_
    intro w9 p9
    have x9 : Ext w w9 := (hxw.trans x68).move p9.mv (by rintro k ⟨⟩; exact Nat.le_refl _)
    have o9 : Own (w.heap.size + 1) 1 9 w9 y (aS l[k].data) := o8.put p9 (by omega)
    refine_lift dL ?_
    refine bodyPost_ret (bK (cs := [aI l[k].name, .int .i64 l[k].kind, .int .i64 l[k].ttl, y]) rfl rfl p9.this (show dY Tryz.prog 131 4 = true by decide +kernel)) rfl ⟨_, rfl, x9, ?_⟩
    rw [hh]
    exact ⟨y, rfl, o9.weaken (by omega)⟩
   ·exact ⟨⟨k + 1, by omega, rfl, by exact fC, xI hlt hall (by have h2 := ‹¬l[k].kind = kd›; simp [MZ, h2])⟩, by simp [intOf]; omega⟩
   ·exact ⟨⟨k + 1, by omega, rfl, by exact fC, xI hlt hall (by have h2 := ‹¬l[k].name = fold n›; simp [MZ, h2])⟩, by simp [intOf]; omega⟩
  ·have hk2 : k = l.length := by omega
   subst hk2
   rw [List.take_length] at hall
   refine_lift NR fun _ _ _ => ?_
   refine cT rfl (Runs.build0 (cells := mS.toArray) (by kernel_rfl)) ?_
   refine aA ?_
   refine aG (v := .agg mS.toArray) rfl rfl rfl h3 (show aZ Tryz.prog 131 4 = true by decide +kernel) rfl (iV rfl rfl rfl rfl) ?_
   intro w4 p4
   have x4 : Ext w w4 := hxw.move p4.mv (by rintro k ⟨⟩; exact Nat.le_refl _)
   refine_lift dL ?_
   refine bodyPost_ret (bK (cs := mS) rfl rfl p4.this (by decide +kernel)) rfl ⟨_, rfl, x4, ?_⟩
   have hh : cC l n kd = none := hall
   rw [hh]
   rfl
def pV (s : RSet) (d : List UInt8) : Rec := ⟨s.name, s.kind, s.ttl, d⟩
def dT (s : RSet) : List Rec := s.data.map (pV s)
def bG (l : List RSet) : List Rec := (l.map dT).flatten
theorem gC {α β : Type} {f : α → β} {l : List α} {k : Nat} (h : k < l.length) : (l.take (k + 1)).map f = (l.take k).map f ++ [f l[k]] := by
 rw [List.take_add_one, List.getElem?_eq_getElem h, List.map_append]
 simp
theorem yW {α : Type} (L : List (List α)) (k : Nat) : (L.take k).flatten.length ≤ L.flatten.length := by
 conv => rhs; rw [← List.take_append_drop k L, List.flatten_append]
 simp
def mD (l : List RSet) (k : Nat) : List Rec := ((l.take k).map dT).flatten
theorem uO {l : List RSet} {k : Nat} (h : k < l.length) : mD l (k + 1) = mD l k ++ dT l[k] := by
 rw [mD, gC h, List.flatten_append]
 simp [mD]
theorem IQ (l : List RSet) (k : Nat) : (mD l k).length ≤ (bG l).length := by
 rw [mD, bG, List.map_take]
 exact yW _ _
theorem GA (l : List RSet) : mD l l.length = bG l := by rw [mD, List.take_length, bG]
set_option maxHeartbeats 12000000 in
theorem PP (v : Value) (l : List RSet) (w : World) (hv : SetsAt w v l) (hb : (bG l).length ≤ 1000000) : Calls Tryz.prog 119 #[v] w (sX w fun r w' => Own w.heap.size 4 106 w' r (aR (bG l))) := by
 obtain ⟨cv, hv1, hvl⟩ := hv.sl
 have hle := hv1.le
 go_enter Tryz.func119, Tryz.ntmps119
 refine_lift NR ?_; intro _ _ _
 go_loopw [3, 5, 7, 10, 17] (fun o _ _ i _ wr => ∃ k : Nat, k ≤ l.length ∧ i = .int .i64 k ∧ Ext w wr ∧ Own w.heap.size 4 106 wr o (aR (mD l k))) (fun _ _ _ i _ _ => l.length - (intOf i).toNat)
 case atStart => exact ⟨0, Nat.zero_le _, rfl, Ext.refl _, Own.nil _ _ _ _⟩
 case round =>
  obtain ⟨k, hk, rfl, hx, ho⟩ := hrel
  have hv2 := hv1.ext hx
  by_cases hlt : k < l.length
  ·obtain ⟨x, h4, h4d⟩ := hv.elem (List.getElem?_eq_getElem hlt)
   have hdl := bN l[k].data
   have hdle := h4d.le
   have hlo := hx.size
   refine_lift HW ?_; intro _ _ _ _ _ _
   refine aN (z := mS) rfl (by decide +kernel) ?_
   intro w5 x5 s5 h5
   refine_lift dL ?_
   refine aG (v := .agg #[aI l[k].name, .int .i64 l[k].kind, .int .i64 l[k].ttl, x]) rfl rfl rfl h5 (show aZ Tryz.prog 131 4 = true by decide +kernel) rfl (iV rfl rfl rfl h4d.one) ?_
   intro w6 p6
   have x6 : Ext wr w6 := x5.move p6.mv (by rintro k ⟨⟩; exact Nat.le_refl _)
   have b6 : w6.heap[wr.heap.size]? = some (.cells [aI l[k].name, .int .i64 l[k].kind, .int .i64 l[k].ttl, x].toArray 131 (0, 0)) := p6.this
   have z6 : wr.heap.size < w6.heap.size := by have := p6.size; omega
   have o6 := ho.ext x6
   have xw6 := hx.trans x6
   have hne6 : u3.ownBlock ≠ some wr.heap.size := fun e => by have := ho.block _ e; omega
   clear p6 h5 x5 s5
   have hp6 := aD b6
   refine_lift dL ?_
   clear hp6
   generalize wr.heap.size = b at b6 z6 hne6 hlo ⊢
   go_loopw [3, 7, 17] (fun o _ i wq => ∃ j : Nat, j ≤ l[k].data.length ∧ i = .int .i64 j ∧ Ext w wq ∧ b < wq.heap.size ∧ wq.heap[b]? = some (.cells [aI l[k].name, .int .i64 l[k].kind, .int .i64 l[k].ttl, x].toArray 131 (0, 0)) ∧ o.ownBlock ≠ some b ∧ Own w.heap.size 4 106 wq o (aR (mD l k ++ (l[k].data.take j).map (pV l[k])))) (fun _ _ i _ => l[k].data.length - (intOf i).toNat)
   case atStart => exact ⟨0, Nat.zero_le _, rfl, xw6, z6, b6, hne6, by simpa using o6⟩
   case round =>
    obtain ⟨j, hj, rfl, hxq, hz, hbq, hne, hoq⟩ := hrel
    have hpq := aD hbq
    by_cases hlt2 : j < l[k].data.length
    ·have h3 := h4d.elem (jA hlt2)
     have hle1 := IQ l (k + 1)
     rw [uO hlt, List.length_append] at hle1
     have hle2 : (dT l[k]).length = l[k].data.length := by simp [dT]
     have hcl : (aR (mD l k ++ (l[k].data.take j).map (pV l[k]))).length = (mD l k).length + j := by simp [aR]; omega
     refine_lift CI ?_; intro _ _ _ _
     refine aE (enters_of Tryz.func172 rfl rfl) rfl rfl (SX l[k] x l[k].data[j] _) ?_; intro w7 x7; refine aA ?_
     refine_lift dL ?_
     refine bT (e := 106) (k := 4) (bytes := 48) (xs := [.agg #[aI l[k].name, .int .i64 l[k].kind, .int .i64 l[k].ttl, aI l[k].data[j]]]) rfl rfl rfl (by simp [Value.cells]) (by decide +kernel) (by simp) ?_
     intro v8 w8 x8 s8 sl8 _
     refine aA ?_
     refine_lift dL ?_
     refine fO (B := w.heap.size) (e := 106) (k := 4) (bytes := 48) rfl (hoq.ext (x7.trans x8)) rfl sl8 (by decide +kernel) (by simp [Value.cells, aI, Value.oneCell']) (by have := hxq.size; have := x7.size; omega) (by rw [hcl]; simp; omega) (by rw [hcl]; simp; omega) ?_
     intro v9 w9 o9 m9 k9
     have hb8 := (x7.trans x8).at hbq
     have hb9 := m9.at hb8 (fun e => hne e.symm)
     have x9 : Ext w w9 := (hoq.ext (x7.trans x8)).mvx m9 (hxq.trans (x7.trans x8)) (Nat.le_refl _)
     refine_lift dL ?_
     refine ⟨⟨j + 1, by omega, rfl, x9, ?_, hb9, ?_, ?_⟩, by simp [intOf]; omega⟩
     ·have := x7.size; have := x8.size; have := m9.size; omega
     ·rcases k9 with h | h
      ·rw [h]; exact hne
      ·rw [h]; intro e; have := Option.some.inj e; have := x7.size; omega
     ·rw [gC hlt2, ← List.append_assoc]
      simpa [aR, pV, Rec.cells, Value.cells] using o9
    ·have hj2 : j = l[k].data.length := by omega
     subst hj2
     refine_lift yU fun _ => ?_
     exact ⟨⟨k + 1, by omega, rfl, hxq, by rw [uO hlt]; rw [List.take_length] at hoq; exact hoq⟩, by simp [intOf]; omega⟩
  ·have hk2 : k = l.length := by omega
   subst hk2
   refine_lift yU fun _ => ?_
   go_ret
   refine ⟨_, rfl, hx, ?_⟩
   rw [GA] at ho
   exact ho
end Go.Proofs.X
