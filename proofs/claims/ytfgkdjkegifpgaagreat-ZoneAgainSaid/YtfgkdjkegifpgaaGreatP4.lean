/- Laws and walks that the proof of the statement is made of (part 4). -/
import Derived.Test.YtfgkdjkegifpgaaGreatProg
import Derived.Test.YtfgkdjkegifpgaaGreatShelf
import Derived.Test.YtfgkdjkegifpgaaGreatP1
import Derived.Test.YtfgkdjkegifpgaaGreatP2
import Derived.Test.YtfgkdjkegifpgaaGreatP3
set_option linter.unusedSimpArgs false
set_option linter.unusedVariables false
namespace Go.Proofs.X
open Go.RowKit
set_option maxRecDepth 100000
set_option maxHeartbeats 1000000 in
/-- rdata.fits -/
theorem t26 (k : Int) (d : List UInt8) (w : World) (hl : d.length ≤ 4000) : Calls Tryz.prog 82 #[.int .i64 k, str d] w (RetV w (.bool (fits k d))) := by
  have h38 := fun w => t38 d w (by omega)
  go_enter Tryz.func82, Tryz.ntmps82
  repeat' (first | ((with_reducible refine o_s ?_); (first | (refine o_1 ?_; refine o_2 ?_) | (refine o_g ?_; first | refine o_u ?_ | refine o_k ?_ | refine o_n ?_ | refine o_v ?_ | ((first | refine o_G ?_ ?_ | refine o_N ?_ ?_) <;> intro hc)))) | ((fail_if_success (with_reducible refine o_s ?_)); go_step))
  · have h1 := ‹k = 1›
    go_ret
    refine ⟨?_, Ext.refl _⟩
    rw [fits, if_pos h1]
    have e : decide ((d.length : Int) = 4) = decide (d.length = 4) := by apply decide_eq_decide.2; omega
    exact congrArg (fun b => Ending.returned (Value.bool b)) e
  · have h1 := ‹¬k = 1›
    have h2 := ‹k = 28›
    go_ret
    refine ⟨?_, Ext.refl _⟩
    rw [fits, if_neg h1, if_pos h2]
    have e : decide ((d.length : Int) = 16) = decide (d.length = 16) := by apply decide_eq_decide.2; omega
    exact congrArg (fun b => Ending.returned (Value.bool b)) e
  · have h1 := ‹¬k = 1›
    have h2 := ‹¬k = 28›
    have h3 := ‹k = 16›
    refine wpl_callV (enters_of Tryz.func114 rfl rfl) rfl rfl (t37 _ _ (by omega)) ?_
    intro w2 x2
    refine gset ?_
    repeat' (first | ((with_reducible refine o_s ?_); (first | (refine o_1 ?_; refine o_2 ?_) | (refine o_g ?_; first | refine o_u ?_ | refine o_k ?_ | refine o_n ?_ | refine o_v ?_ | ((first | refine o_G ?_ ?_ | refine o_N ?_ ?_) <;> intro hc)))) | ((fail_if_success (with_reducible refine o_s ?_)); go_step))
    go_ret
    refine ⟨?_, x2⟩
    rw [fits, if_neg h1, if_neg h2, if_pos h3]
    rfl
  · have h1 := ‹¬k = 1›
    have h2 := ‹¬k = 28›
    have h3 := ‹¬k = 16›
    have h4 := ‹k = 6›
    have hF : fits k d = (parseSoa d).isSome := by rw [fits, if_neg h1, if_neg h2, if_neg h3, if_pos h4]
    refine wpl_callV (enters_of Tryz.func63 rfl rfl) rfl rfl (h38 _) ?_
    intro w2 x2
    refine gset ?_
    cases hp : parseSoa d with
    | none =>
      simp only [hp] at hF
      repeat' (first | ((with_reducible refine o_s ?_); (first | (refine o_1 ?_; refine o_2 ?_) | (refine o_g ?_; first | refine o_u ?_ | refine o_k ?_ | refine o_n ?_ | refine o_v ?_ | ((first | refine o_G ?_ ?_ | refine o_N ?_ ?_) <;> intro hc)))) | ((fail_if_success (with_reducible refine o_s ?_)); go_step))
      refine wpl_allocB (z := zeroSoa) rfl (by decide +kernel) ?_
      intro w3 x3 s3 h3b
      refine gset ?_
      refine wpl_storeB (v := .agg zeroSoa.toArray) rfl rfl rfl h3b (by decide +kernel) rfl (by decide +kernel) ?_
      intro w4 p4
      repeat' (first | ((with_reducible refine o_s ?_); (first | (refine o_1 ?_; refine o_2 ?_) | (refine o_g ?_; first | refine o_u ?_ | refine o_k ?_ | refine o_n ?_ | refine o_v ?_ | ((first | refine o_G ?_ ?_ | refine o_N ?_ ?_) <;> intro hc)))) | ((fail_if_success (with_reducible refine o_s ?_)); go_step))
      go_ret
      refine ⟨?_, (x2.trans x3).move p4.mv (by rintro k ⟨⟩; exact x2.size)⟩
      rw [hF]
      rfl
    | some s =>
      simp only [hp] at hF
      have hsc : ∀ s : SoaR, s.cells = [str s.main, str s.mail, .int .i64 s.serial, .int .i64 s.refresh, .int .i64 s.retry, .int .i64 s.expire, .int .i64 s.minimum] := fun _ => rfl
      repeat' (first | ((with_reducible refine o_s ?_); (first | (refine o_1 ?_; refine o_2 ?_) | (refine o_g ?_; first | refine o_u ?_ | refine o_k ?_ | refine o_n ?_ | refine o_v ?_ | ((first | refine o_G ?_ ?_ | refine o_N ?_ ?_) <;> intro hc)))) | ((fail_if_success (with_reducible refine o_s ?_)); go_step))
      refine wpl_allocB (z := zeroSoa) rfl (by decide +kernel) ?_
      intro w3 x3 s3 h3b
      refine gset ?_
      refine wpl_storeB (v := .agg s.cells.toArray) rfl rfl rfl h3b (show sizeTy Tryz.prog 51 7 = true by decide +kernel) rfl (by rw [hsc]; simp [Value.cells, Value.oneCell', str]) ?_
      intro w4 p4
      repeat' (first | ((with_reducible refine o_s ?_); (first | (refine o_1 ?_; refine o_2 ?_) | (refine o_g ?_; first | refine o_u ?_ | refine o_k ?_ | refine o_n ?_ | refine o_v ?_ | ((first | refine o_G ?_ ?_ | refine o_N ?_ ?_) <;> intro hc)))) | ((fail_if_success (with_reducible refine o_s ?_)); go_step))
      go_ret
      refine ⟨?_, (x2.trans x3).move p4.mv (by rintro k ⟨⟩; exact x2.size)⟩
      rw [hF]
      rfl
  · have h1 := ‹¬k = 1›
    have h2 := ‹¬k = 28›
    have h3 := ‹¬k = 16›
    have h4 := ‹¬k = 6›
    refine wpl_callV (enters_of Tryz.func115 rfl rfl) rfl rfl (t39 k d _ (by omega)) ?_
    intro w2 x2
    refine gset ?_
    repeat' (first | ((with_reducible refine o_s ?_); (first | (refine o_1 ?_; refine o_2 ?_) | (refine o_g ?_; first | refine o_u ?_ | refine o_k ?_ | refine o_n ?_ | refine o_v ?_ | ((first | refine o_G ?_ ?_ | refine o_N ?_ ?_) <;> intro hc)))) | ((fail_if_success (with_reducible refine o_s ?_)); go_step))
    go_ret
    refine ⟨?_, x2⟩
    rw [fits, if_neg h1, if_neg h2, if_neg h3, if_neg h4]
    simp

end Go.Proofs.X
set_option linter.unusedSimpArgs false
set_option linter.unusedVariables false
namespace Go.Proofs.X
open Go.RowKit
set_option maxRecDepth 100000
/-- sets -/
structure RSet where
  name : List UInt8
  kind : Int
  ttl : Int
  data : List (List UInt8)
  deriving DecidableEq, Inhabited
/-- a set in memory: its four cells; its data -/
structure SetAt (w : World) (cs : List Value) (s : RSet) : Prop where
  out : ∃ v, cs = [str s.name, .int .i64 s.kind, .int .i64 s.ttl, v] ∧ Sl 1 w v (tcells s.data)
theorem SetAt.ext {w w' : World} {cs : List Value} {s : RSet} (h : SetAt w cs s) (hx : Ext w w') : SetAt w' cs s := by
  obtain ⟨v, h1, h2⟩ := h
  exact ⟨v, h1, h2.ext hx⟩
/-- cmp.Or of two -/
theorem t34 (v : Value) (a b : Int) (w : World) (h : Sl 1 w v [[.int .i64 a], [.int .i64 b]]) : Calls Tryz.prog 89 #[v] w (RetV w (.int .i64 (if a ≠ 0 then a else b))) := by
  have h0 := h.elem (i := 0) rfl
  have h1 := h.elem (i := 1) rfl
  go_enter Tryz.func89, Tryz.ntmps89
  repeat' (first | ((with_reducible refine o_s ?_); (first | (refine o_1 ?_; refine o_2 ?_) | (refine o_g ?_; first | refine o_u ?_ | refine o_k ?_ | refine o_n ?_ | refine o_v ?_ | ((first | refine o_G ?_ ?_ | refine o_N ?_ ?_) <;> intro hc)))) | ((fail_if_success (with_reducible refine o_s ?_)); go_step))
  go_loopw [8] (fun i wr => wr = w ∧ ∃ k : Nat, i = .int .i64 k ∧ k ≤ 2 ∧ (1 ≤ k → a = 0) ∧ (2 ≤ k → b = 0)) (fun i _ => 2 - (intOf i).toNat)
  case atStart => exact ⟨rfl, 0, rfl, by omega, by omega, by omega⟩
  case round =>
    obtain ⟨rfl, k, rfl, hk, ha, hb⟩ := hrel
    have hk3 : k = 0 ∨ k = 1 ∨ k = 2 := by omega
    rcases hk3 with rfl | rfl | rfl
    · repeat' (first | ((with_reducible refine o_s ?_); (first | (refine o_1 ?_; refine o_2 ?_) | (refine o_g ?_; first | refine o_u ?_ | refine o_k ?_ | refine o_n ?_ | refine o_v ?_ | ((first | refine o_G ?_ ?_ | refine o_N ?_ ?_) <;> intro hc)))) | ((fail_if_success (with_reducible refine o_s ?_)); go_step))
      · go_ret
        refine ⟨?_, Ext.refl _⟩
        have hne : a ≠ 0 := by simp at *; assumption
        rw [if_pos hne]
        rfl
      · have h0 : a = 0 := by simp at *; assumption
        exact ⟨⟨trivial, 1, rfl, by omega, fun _ => h0, by omega⟩, by simp [intOf]⟩
    · have ha := ha (by omega)
      repeat' (first | ((with_reducible refine o_s ?_); (first | (refine o_1 ?_; refine o_2 ?_) | (refine o_g ?_; first | refine o_u ?_ | refine o_k ?_ | refine o_n ?_ | refine o_v ?_ | ((first | refine o_G ?_ ?_ | refine o_N ?_ ?_) <;> intro hc)))) | ((fail_if_success (with_reducible refine o_s ?_)); go_step))
      · go_ret
        refine ⟨?_, Ext.refl _⟩
        rw [if_neg (by simpa using ha)]
        rfl
      · have h0 : b = 0 := by simp at *; assumption
        exact ⟨⟨trivial, 2, rfl, by omega, fun _ => ha, fun _ => h0⟩, by simp [intOf]⟩
    · have ha := ha (by omega)
      have hb := hb (by omega)
      repeat' (first | ((with_reducible refine o_s ?_); (first | (refine o_1 ?_; refine o_2 ?_) | (refine o_g ?_; first | refine o_u ?_ | refine o_k ?_ | refine o_n ?_ | refine o_v ?_ | ((first | refine o_G ?_ ?_ | refine o_N ?_ ?_) <;> intro hc)))) | ((fail_if_success (with_reducible refine o_s ?_)); go_step))
      go_ret
      refine ⟨?_, Ext.refl _⟩
      rw [if_neg (by simpa using ha), hb]
      rfl
/-- rrset.record -/
theorem t22 (s : RSet) (v : Value) (d : List UInt8) (w : World) : Calls Tryz.prog 57 #[.agg #[str s.name, .int .i64 s.kind, .int .i64 s.ttl, v], str d] w (RetV w (.agg #[str s.name, .int .i64 s.kind, .int .i64 s.ttl, str d])) := by
  go_enter Tryz.func57, Tryz.ntmps57
  repeat' ((fail_if_success (with_reducible refine o_s ?_)); go_step)
  refine wpl_box (vs := [str s.name, .int .i64 s.kind, .int .i64 s.ttl, v]) rfl rfl ?_
  intro p w1 x1 hp
  refine gset ?_
  refine wpl_allocB (z := [str [], .int .i64 0, .int .i64 0, str []]) rfl (by decide +kernel) ?_
  intro w2 x2 s2 h2
  have hp := hp.ext x2
  repeat' (first | ((with_reducible refine o_s ?_); (first | (refine o_1 ?_; refine o_2 ?_) | (refine o_g ?_; first | refine o_u ?_ | refine o_k ?_ | refine o_n ?_ | refine o_v ?_ | ((first | refine o_G ?_ ?_ | refine o_N ?_ ?_) <;> intro hc)))) | ((fail_if_success (with_reducible refine o_s ?_)); go_step))
  refine wpl_run (v := .agg #[str s.name, .int .i64 s.kind, .int .i64 s.ttl, str d]) rfl (Runs.build rfl (by kernel_rfl)) ?_
  refine gset ?_
  refine wpl_storeB (v := .agg #[str s.name, .int .i64 s.kind, .int .i64 s.ttl, str d]) rfl rfl rfl h2 (show sizeTy Tryz.prog 66 4 = true by decide +kernel) rfl (by simp [Value.cells, Value.oneCell', str]) ?_
  intro w3 p3
  have x13 : Ext w w3 := (x1.trans x2).move p3.mv (by rintro k ⟨⟩; exact x1.size)
  have h3 := p3.this
  repeat' (first | ((with_reducible refine o_s ?_); (first | (refine o_1 ?_; refine o_2 ?_) | (refine o_g ?_; first | refine o_u ?_ | refine o_k ?_ | refine o_n ?_ | refine o_v ?_ | ((first | refine o_G ?_ ?_ | refine o_N ?_ ?_) <;> intro hc)))) | ((fail_if_success (with_reducible refine o_s ?_)); go_step))
  exact bodyPost_ret (results_cell1 (cs := [str s.name, .int .i64 s.kind, .int .i64 s.ttl, str d]) rfl rfl h3 (show aggTy Tryz.prog 66 4 = true by decide +kernel)) rfl ⟨rfl, x13⟩

end Go.Proofs.X
set_option linter.unusedSimpArgs false
set_option linter.unusedVariables false
namespace Go.Proofs.X
open Go.RowKit
set_option maxRecDepth 100000
def cmpI (a b : Int) : Int := if a < b then -1 else if b < a then 1 else 0
def cmpSet (na nb : List UInt8) (ka kb : Int) : Int := if cmpN na nb ≠ 0 then cmpN na nb else cmpI ka kb
/-- cmp.Compare at int -/
theorem t36 (a b : Int) (w : World) : Calls Tryz.prog 91 #[.int .i64 a, .int .i64 b] w (RetV w (.int .i64 (cmpI a b))) := by
  refine (Tryz.cmp_Compare_int a b w).mono ?_
  rintro e w' ⟨rfl, rfl⟩
  refine ⟨?_, Ext.refl _⟩
  unfold cmpI Lib.compareInt
  rfl
set_option maxHeartbeats 1000000 in
/-- rrset.compare -/
theorem t21 (na nb : List UInt8) (ka kb ta tb : Int) (va vb : Value) (w : World) : Calls Tryz.prog 50 #[.agg #[str na, .int .i64 ka, .int .i64 ta, va], .agg #[str nb, .int .i64 kb, .int .i64 tb, vb]] w (RetV w (.int .i64 (cmpSet na nb ka kb))) := by
  go_enter Tryz.func50, Tryz.ntmps50
  repeat' ((fail_if_success (with_reducible refine o_s ?_)); go_step)
  refine wpl_box (vs := [str na, .int .i64 ka, .int .i64 ta, va]) rfl rfl ?_
  intro p w1 x1 hp
  refine gset ?_
  refine wpl_box (vs := [str nb, .int .i64 kb, .int .i64 tb, vb]) rfl rfl ?_
  intro q w2 x2 hq
  refine gset ?_
  repeat' (first | ((with_reducible refine o_s ?_); (first | (refine o_1 ?_; refine o_2 ?_) | (refine o_g ?_; first | refine o_u ?_ | refine o_k ?_ | refine o_n ?_ | refine o_v ?_ | ((first | refine o_G ?_ ?_ | refine o_N ?_ ?_) <;> intro hc)))) | ((fail_if_success (with_reducible refine o_s ?_)); go_step))
  refine wph_region (S := Ext w2) (by decide +kernel) ?_
  intro w3 x3 _
  refine tk 0 ?_; refine gset ?_; refine tk 1 ?_; refine gset ?_; refine tk 2 ?_; refine gset ?_; refine tk 3 ?_; refine gset ?_; refine tk 5 ?_; refine gset ?_; refine tk 6 ?_; refine gset ?_; refine tk 7 ?_; refine gset ?_; refine tk 8 ?_; refine gset ?_
  refine wph_one (i := 4) (by decide +kernel) rfl rfl ?_
  refine wpl_callV (enters_of Tryz.func90 rfl rfl) rfl rfl (t35 _ _ _) ?_; intro w4 x4; refine gset ?_
  refine wph_nil ⟨by exact extc, ?_⟩
  refine wph_one (i := 9) (by decide +kernel) rfl rfl ?_
  refine wpl_callV (enters_of Tryz.func91 rfl rfl) rfl rfl (t36 _ _ _) ?_; intro w5 x5; refine gset ?_
  refine wph_nil ⟨by exact extc, ?_⟩
  refine wph_one (i := 10) (by decide +kernel) rfl rfl ?_
  refine wpl_slice (e := 3) (k := 1) (bytes := 8) (xs := [.int .i64 (cmpN na nb), .int .i64 (cmpI ka kb)]) rfl rfl rfl (by simp [Value.cells]) (by decide +kernel) (by simp) ?_
  intro v w6 x6 _ h6 _
  refine gset ?_
  refine wph_nil ⟨by exact extc, ?_⟩
  refine wph_one (i := 11) (by decide +kernel) rfl rfl ?_
  refine wpl_callV (enters_of Tryz.func89 rfl rfl) rfl rfl (t34 _ _ _ _ h6) ?_; intro w7 x7; refine gset ?_
  refine wph_nil ⟨by exact extc, ?_⟩
  refine tk 12 ?_; refine gset ?_
  refine wph_done (by decide +kernel) ?_
  repeat' (first | ((with_reducible refine o_s ?_); (first | (refine o_1 ?_; refine o_2 ?_) | (refine o_g ?_; first | refine o_u ?_ | refine o_k ?_ | refine o_n ?_ | refine o_v ?_ | ((first | refine o_G ?_ ?_ | refine o_N ?_ ?_) <;> intro hc)))) | ((fail_if_success (with_reducible refine o_s ?_)); go_step))
  go_ret
  exact ⟨rfl, by exact extc⟩

end Go.Proofs.X
set_option linter.unusedSimpArgs false
set_option linter.unusedVariables false
namespace Go.Proofs.X
open Go.RowKit
set_option maxRecDepth 100000
set_option maxHeartbeats 20000000 in
/-- rdata.Check -/
theorem t16 (r : Rec) (w : World) : Calls Tryz.prog 45 #[.agg #[str r.name, .int .i64 r.kind, .int .i64 r.ttl, str r.data]] w (RetV w (.int .i64 (checkR r))) := by
  have hf : r.data.length ≤ 4000 → ∀ w, Calls Tryz.prog 82 #[.int .i64 r.kind, str r.data] w (RetV w (.bool (fits r.kind r.data))) := fun h w => t26 _ _ w h
  go_enter Tryz.func45, Tryz.ntmps45
  repeat' ((fail_if_success (with_reducible refine o_s ?_)); go_step)
  refine wpl_box (vs := [str r.name, .int .i64 r.kind, .int .i64 r.ttl, str r.data]) rfl rfl ?_
  intro p w1 x1 hp
  refine gset ?_
  repeat' (first | ((with_reducible refine o_s ?_); (first | (refine o_1 ?_; refine o_2 ?_) | (refine o_g ?_; first | refine o_u ?_ | refine o_k ?_ | refine o_n ?_ | refine o_v ?_))) | ((fail_if_success (with_reducible refine o_s ?_)); go_step))
  all_goals try (go_ret; refine ⟨?_, x1⟩; first | (rw [checkR, if_pos (by omega)]; rfl) | (rw [checkR, if_neg (by omega), if_pos (by omega)]; rfl))
  ((with_reducible refine o_s ?_); refine o_g ?_; ((first | refine o_G ?_ ?_ | refine o_N ?_ ?_) <;> intro hc))
  all_goals repeat' (first | ((with_reducible refine o_s ?_); (first | (refine o_1 ?_; refine o_2 ?_) | (refine o_g ?_; first | refine o_u ?_ | refine o_k ?_ | refine o_n ?_ | refine o_v ?_))) | ((fail_if_success (with_reducible refine o_s ?_)); go_step))
  all_goals try (go_ret; refine ⟨?_, x1⟩; first | (rw [checkR, if_pos (by omega)]; rfl) | (rw [checkR, if_neg (by omega), if_pos (by omega)]; rfl))
  ((with_reducible refine o_s ?_); refine o_g ?_; ((first | refine o_G ?_ ?_ | refine o_N ?_ ?_) <;> intro hc))
  all_goals repeat' (first | ((with_reducible refine o_s ?_); (first | (refine o_1 ?_; refine o_2 ?_) | (refine o_g ?_; first | refine o_u ?_ | refine o_k ?_ | refine o_n ?_ | refine o_v ?_))) | ((fail_if_success (with_reducible refine o_s ?_)); go_step))
  all_goals try (go_ret; refine ⟨?_, x1⟩; first | (rw [checkR, if_pos (by omega)]; rfl) | (rw [checkR, if_neg (by omega), if_pos (by omega)]; rfl))
  ((with_reducible refine o_s ?_); refine o_g ?_; ((first | refine o_G ?_ ?_ | refine o_N ?_ ?_) <;> intro hc))
  all_goals repeat' (first | ((with_reducible refine o_s ?_); (first | (refine o_1 ?_; refine o_2 ?_) | (refine o_g ?_; first | refine o_u ?_ | refine o_k ?_ | refine o_n ?_ | refine o_v ?_))) | ((fail_if_success (with_reducible refine o_s ?_)); go_step))
  all_goals try (go_ret; refine ⟨?_, x1⟩; first | (rw [checkR, if_pos (by omega)]; rfl) | (rw [checkR, if_neg (by omega), if_pos (by omega)]; rfl))
  ((with_reducible refine o_s ?_); refine o_g ?_; ((first | refine o_G ?_ ?_ | refine o_N ?_ ?_) <;> intro hc))
  all_goals repeat' (first | ((with_reducible refine o_s ?_); (first | (refine o_1 ?_; refine o_2 ?_) | (refine o_g ?_; first | refine o_u ?_ | refine o_k ?_ | refine o_n ?_ | refine o_v ?_))) | ((fail_if_success (with_reducible refine o_s ?_)); go_step))
  all_goals try (go_ret; refine ⟨?_, x1⟩; first | (rw [checkR, if_pos (by omega)]; rfl) | (rw [checkR, if_neg (by omega), if_pos (by omega)]; rfl))
  (apply wpl_guard; (rfl)) <;> intro hc
  · have hlen : r.data.length ≤ 4000 := by simp at hc; omega
    rw [hc]
    repeat' (first | ((with_reducible refine o_s ?_); (first | (refine o_1 ?_; refine o_2 ?_) | (refine o_g ?_; first | refine o_u ?_ | refine o_k ?_ | refine o_n ?_ | refine o_v ?_))) | ((fail_if_success (with_reducible refine o_s ?_)); go_step))
    refine wpl_callV (enters_of Tryz.func82 rfl rfl) rfl rfl (hf hlen _) ?_
    intro w2 x2
    refine gset ?_
    have hp := hp.ext x2
    cases hfit : fits r.kind r.data with
    | true =>
      repeat' (first | ((with_reducible refine o_s ?_); (first | (refine o_1 ?_; refine o_2 ?_) | (refine o_g ?_; first | refine o_u ?_ | refine o_k ?_ | refine o_n ?_ | refine o_v ?_))) | ((fail_if_success (with_reducible refine o_s ?_)); go_step))
      refine wpl_callV (enters_of Tryz.func68 rfl rfl) rfl rfl (t27 _ _) ?_
      intro w3 x3
      refine gset ?_
      repeat' (first | ((with_reducible refine o_s ?_); (first | (refine o_1 ?_; refine o_2 ?_) | (refine o_g ?_; first | refine o_u ?_ | refine o_k ?_ | refine o_n ?_ | refine o_v ?_))) | ((fail_if_success (with_reducible refine o_s ?_)); go_step))
      go_ret
      refine ⟨?_, (x1.trans x2).trans x3⟩
      have e : checkR r = if (labels r.name).isSome = true then 0 else 1 := by
        rw [checkR, if_neg (by omega), if_neg (by rw [hfit]; simp; omega)]
      rw [e]
      rfl
    | false =>
      repeat' (first | ((with_reducible refine o_s ?_); (first | (refine o_1 ?_; refine o_2 ?_) | (refine o_g ?_; first | refine o_u ?_ | refine o_k ?_ | refine o_n ?_ | refine o_v ?_))) | ((fail_if_success (with_reducible refine o_s ?_)); go_step))
      go_ret
      refine ⟨?_, x1.trans x2⟩
      rw [checkR, if_neg (by omega), if_pos (by rw [hfit]; simp)]
      rfl
  · have hc4 : 4000 < r.data.length := by simp at hc; omega
    rw [hc]
    simp only [Act.put, List.setIfInBounds_toArray, List.set_cons_succ, List.set_cons_zero, Bool.not_true, Bool.not_false]
    repeat' (first | ((with_reducible refine o_s ?_); (first | (refine o_1 ?_; refine o_2 ?_) | (refine o_g ?_; first | refine o_u ?_ | refine o_k ?_ | refine o_n ?_ | refine o_v ?_))) | ((fail_if_success (with_reducible refine o_s ?_)); go_step))
    go_ret
    refine ⟨?_, x1⟩
    rw [checkR, if_neg (by omega), if_pos (by omega)]
    rfl

end Go.Proofs.X
set_option linter.unusedSimpArgs false
set_option linter.unusedVariables false
namespace Go.Proofs.X
open Go.RowKit
set_option maxRecDepth 100000
def badAt (s : RSet) (i : Nat) : Bool := decide (checkR ⟨s.name, s.kind, s.ttl, s.data.getD i []⟩ ≠ 0) || (decide (0 < i) && !Op.bytesLess (s.data.getD (i - 1) []) (s.data.getD i []))
def mayS (s : RSet) : Bool := decide (fold s.name = s.name) && decide (1 ≤ s.data.length) && decide (s.data.length ≤ 20) && (List.range s.data.length).all fun i => !badAt s i
theorem mayS_bad {s : RSet} {i : Nat} (hi : i < s.data.length) (h : badAt s i = true) : mayS s = false := by
  have : (List.range s.data.length).all (fun i => !badAt s i) = false := by
    rw [List.all_eq_false]
    exact ⟨i, by simpa using hi, by simp [h]⟩
  simp [mayS, this]
set_option maxHeartbeats 400000 in
/-- rrset.may -/
theorem t23 (s : RSet) (v : Value) (w : World) (hv : Sl 1 w v (tcells s.data)) : Calls Tryz.prog 58 #[.agg #[str s.name, .int .i64 s.kind, .int .i64 s.ttl, v]] w (RetV w (.bool (mayS s))) := by
  have hlen := tcells_length s.data
  go_enter Tryz.func58, Tryz.ntmps58
  repeat' ((fail_if_success (with_reducible refine o_s ?_)); go_step)
  refine wpl_box (vs := [str s.name, .int .i64 s.kind, .int .i64 s.ttl, v]) rfl rfl ?_
  intro p w1 x1 hp
  refine gset ?_
  repeat' (first | ((with_reducible refine o_s ?_); (first | (refine o_1 ?_; refine o_2 ?_) | (refine o_g ?_; first | refine o_u ?_ | refine o_k ?_ | refine o_n ?_ | refine o_v ?_ | ((first | refine o_G ?_ ?_ | refine o_N ?_ ?_) <;> intro hc)))) | ((fail_if_success (with_reducible refine o_s ?_)); go_step))
  refine wph_region (S := Ext w1) (by decide +kernel) ?_
  intro w2 x2 _
  refine tk 0 ?_; refine gset ?_; refine tk 1 ?_; refine gset ?_; refine tk 3 ?_; refine gset ?_; refine tk 4 ?_; refine gset ?_
  refine wph_one (i := 2) (by decide +kernel) rfl rfl ?_
  refine wpl_callV (enters_of Tryz.func46 rfl rfl) rfl rfl (t17 _ _) ?_; intro w3 x3; refine gset ?_
  refine wph_nil ⟨by exact extc, ?_⟩
  refine tk 5 ?_; refine gset ?_
  by_cases hf : fold s.name = s.name
  · have e1 : (decide (fold s.name = s.name)) = true := by simpa using hf
    simp only [e1, Bool.not_true]
    refine tk 6 ?_; refine gset ?_; refine tk 7 ?_; refine gset ?_; refine tk 8 ?_; refine gset ?_; refine tk 9 ?_; refine gset ?_; refine tk 10 ?_; refine gset ?_
    by_cases h1 : s.data.length < 1
    · have e2 : decide (((tcells s.data).length : Int) < 1) = true := decide_eq_true (by omega)
      simp only [e2]
      refine tk 11 ?_; refine gset ?_; refine tk 12 ?_; refine gset ?_
      refine tsk 13 ?_; refine gset ?_
      refine tsk 14 ?_; refine gset ?_
      refine tsk 15 ?_; refine gset ?_
      refine tsk 16 ?_; refine gset ?_
      refine tk 17 ?_; refine gset ?_
      refine wph_done (by decide +kernel) ?_
      repeat' (first | ((with_reducible refine o_s ?_); (first | (refine o_1 ?_; refine o_2 ?_) | (refine o_g ?_; first | refine o_u ?_ | refine o_k ?_ | refine o_n ?_ | refine o_v ?_ | ((first | refine o_G ?_ ?_ | refine o_N ?_ ?_) <;> intro hc)))) | ((fail_if_success (with_reducible refine o_s ?_)); go_step))
      go_ret
      refine ⟨?_, by exact extc⟩
      have : decide (1 ≤ s.data.length) = false := decide_eq_false (by omega)
      simp [mayS, this]
    · have e2 : decide (((tcells s.data).length : Int) < 1) = false := decide_eq_false (by omega)
      simp only [e2]
      refine tk 11 ?_; refine gset ?_; refine tk 12 ?_; refine gset ?_; refine tk 13 ?_; refine gset ?_; refine tk 14 ?_; refine gset ?_; refine tk 15 ?_; refine gset ?_; refine tk 16 ?_; refine gset ?_; refine tk 17 ?_; refine gset ?_
      refine wph_done (by decide +kernel) ?_
      by_cases h2 : 20 < s.data.length
      · have e3 : decide ((20 : Int) < ((tcells s.data).length : Int)) = true := decide_eq_true (by omega)
        simp only [e3]
        repeat' (first | ((with_reducible refine o_s ?_); (first | (refine o_1 ?_; refine o_2 ?_) | (refine o_g ?_; first | refine o_u ?_ | refine o_k ?_ | refine o_n ?_ | refine o_v ?_ | ((first | refine o_G ?_ ?_ | refine o_N ?_ ?_) <;> intro hc)))) | ((fail_if_success (with_reducible refine o_s ?_)); go_step))
        go_ret
        refine ⟨?_, by exact extc⟩
        have : decide (s.data.length ≤ 20) = false := decide_eq_false (by omega)
        simp [mayS, this]
      · have e3 : decide ((20 : Int) < ((tcells s.data).length : Int)) = false := decide_eq_false (by omega)
        simp only [e3]
        repeat' (first | ((with_reducible refine o_s ?_); (first | (refine o_1 ?_; refine o_2 ?_) | (refine o_g ?_; first | refine o_u ?_ | refine o_k ?_ | refine o_n ?_ | refine o_v ?_ | ((first | refine o_G ?_ ?_ | refine o_N ?_ ?_) <;> intro hc)))) | ((fail_if_success (with_reducible refine o_s ?_)); go_step))
        have hxx : Ext w w3 := by exact extc
        go_loopw [3, 4, 26] (fun _ _ i wr => ∃ k : Nat, k ≤ s.data.length ∧ i = .int .i64 k ∧ Ext w3 wr ∧ ∀ j, j < k → badAt s j = false) (fun _ _ i _ => s.data.length - (intOf i).toNat)
        case atStart => exact ⟨0, Nat.zero_le _, rfl, Ext.refl _, by omega⟩
        case round =>
          obtain ⟨k, hk, rfl, hx, hall⟩ := hrel
          by_cases hlt : k < s.data.length
          · have hvr : Sl 1 wr v (tcells s.data) := hv.ext (hxx.trans hx)
            have he : (tcells s.data)[k]? = some [str s.data[k]] := by simp [tcells, hlt]
            have hpe := hvr.elem he
            have hpr : Pts wr p _ := hp.ext ((x2.trans x3).trans hx)
            have hbad : badAt s k = (decide (checkR ⟨s.name, s.kind, s.ttl, s.data[k]⟩ ≠ 0) || (decide (0 < k) && !Op.bytesLess (s.data.getD (k - 1) []) s.data[k])) := by
              have : s.data.getD k [] = s.data[k] := by simp [hlt]
              rw [badAt, this]
            repeat' (first | ((with_reducible refine o_s ?_); (first | (refine o_1 ?_; refine o_2 ?_) | (refine o_g ?_; first | refine o_u ?_ | refine o_k ?_ | refine o_n ?_ | refine o_v ?_ | ((first | refine o_G ?_ ?_ | refine o_N ?_ ?_) <;> intro hc)))) | ((fail_if_success (with_reducible refine o_s ?_)); go_step))
            refine wpl_callV (enters_of Tryz.func57 rfl rfl) rfl rfl (t22 _ _ _ _) ?_; intro w7 x7; refine gset ?_
            repeat' (first | ((with_reducible refine o_s ?_); (first | (refine o_1 ?_; refine o_2 ?_) | (refine o_g ?_; first | refine o_u ?_ | refine o_k ?_ | refine o_n ?_ | refine o_v ?_ | ((first | refine o_G ?_ ?_ | refine o_N ?_ ?_) <;> intro hc)))) | ((fail_if_success (with_reducible refine o_s ?_)); go_step))
            refine wpl_callV (enters_of Tryz.func45 rfl rfl) rfl rfl (t16 ⟨s.name, s.kind, s.ttl, s.data[k]⟩ _) ?_; intro w8 x8; refine gset ?_
            by_cases hc : checkR ⟨s.name, s.kind, s.ttl, s.data[k]⟩ = 0
            · have e4 : decide (checkR ⟨s.name, s.kind, s.ttl, s.data[k]⟩ = 0) = true := decide_eq_true hc
              generalize checkR ⟨s.name, s.kind, s.ttl, s.data[k]⟩ = cr at hc e4 hbad ⊢
              ((with_reducible refine o_s ?_); (first | (refine o_1 ?_; refine o_2 ?_) | (refine o_g ?_; refine o_u ?_; (with_reducible refine o_s ?_); refine o_1 ?_; refine o_2 ?_)))
              simp only [e4, Bool.not_true]
              repeat' (first | ((with_reducible refine o_s ?_); (first | (refine o_1 ?_; refine o_2 ?_) | (refine o_g ?_; first | refine o_u ?_ | refine o_k ?_ | refine o_n ?_ | refine o_v ?_ | ((first | refine o_G ?_ ?_ | refine o_N ?_ ?_) <;> intro hc)))) | ((fail_if_success (with_reducible refine o_s ?_)); go_step))
              · have hpp : Pts wr (elemPtr v (((k : Int) - 1).toNat * 1)) [str (s.data.getD (k - 1) [])] := by
                  have e : ((k : Int) - 1).toNat = k - 1 := by omega
                  rw [e]
                  refine hvr.elem ?_
                  have : k - 1 < s.data.length := by omega
                  simp [tcells, this]
                repeat' (first | ((with_reducible refine o_s ?_); (first | (refine o_1 ?_; refine o_2 ?_) | (refine o_g ?_; first | refine o_u ?_ | refine o_k ?_ | refine o_n ?_ | refine o_v ?_ | ((first | refine o_G ?_ ?_ | refine o_N ?_ ?_) <;> intro hc)))) | ((fail_if_success (with_reducible refine o_s ?_)); go_step))
                · have hl := ‹(!Op.bytesLess (s.data.getD (k - 1) []) s.data[k]) = true›
                  go_ret
                  refine ⟨?_, by exact extc⟩
                  rw [mayS_bad hlt (by rw [hbad, hl]; have : 0 < k := by omega
                                       simp [this])]
                  rfl
                · have hl := ‹(!Op.bytesLess (s.data.getD (k - 1) []) s.data[k]) = false›
                  exact ⟨⟨k + 1, by omega, rfl, by exact extc, fun j hj => by
                    rcases Nat.lt_or_ge j k with h | h
                    · exact hall j h
                    · have : j = k := by omega
                      subst this
                      rw [hbad, hl]; simp [‹cr = 0›]⟩, by simp [intOf]; omega⟩
              · exact ⟨⟨k + 1, by omega, rfl, by exact extc, fun j hj => by
                  rcases Nat.lt_or_ge j k with h | h
                  · exact hall j h
                  · have : j = k := by omega
                    subst this
                    have : ¬ (0 < j) := by omega
                    rw [hbad]; simp [‹cr = 0›, this]⟩, by simp [intOf]; omega⟩
            · have e4 : decide (checkR ⟨s.name, s.kind, s.ttl, s.data[k]⟩ = 0) = false := decide_eq_false hc
              generalize checkR ⟨s.name, s.kind, s.ttl, s.data[k]⟩ = cr at hc e4 hbad ⊢
              ((with_reducible refine o_s ?_); (first | (refine o_1 ?_; refine o_2 ?_) | (refine o_g ?_; refine o_u ?_; (with_reducible refine o_s ?_); refine o_1 ?_; refine o_2 ?_)))
              simp only [e4, Bool.not_false]
              repeat' (first | ((with_reducible refine o_s ?_); (first | (refine o_1 ?_; refine o_2 ?_) | (refine o_g ?_; first | refine o_u ?_ | refine o_k ?_ | refine o_n ?_ | refine o_v ?_ | ((first | refine o_G ?_ ?_ | refine o_N ?_ ?_) <;> intro hc)))) | ((fail_if_success (with_reducible refine o_s ?_)); go_step))
              go_ret
              refine ⟨?_, by exact extc⟩
              rw [mayS_bad hlt (by rw [hbad]; simp [hc])]
              rfl
          · have : k = s.data.length := by omega
            subst this
            repeat' (first | ((with_reducible refine o_s ?_); (first | (refine o_1 ?_; refine o_2 ?_) | (refine o_g ?_; first | refine o_u ?_ | refine o_k ?_ | refine o_n ?_ | refine o_v ?_ | ((first | refine o_G ?_ ?_ | refine o_N ?_ ?_) <;> intro hc)))) | ((fail_if_success (with_reducible refine o_s ?_)); go_step))
            go_ret
            refine ⟨?_, by exact extc⟩
            have h20 : decide (s.data.length ≤ 20) = true := decide_eq_true (by omega)
            have h10 : decide (1 ≤ s.data.length) = true := decide_eq_true (by omega)
            have hal : (List.range s.data.length).all (fun i => !badAt s i) = true := by
              rw [List.all_eq_true]
              intro i hi
              simp [hall i (by simpa using hi)]
            have : mayS s = true := by rw [mayS, hal, h20, h10, e1]; rfl
            rw [this]
            rfl
  · have e1 : (decide (fold s.name = s.name)) = false := by simpa using hf
    simp only [e1, Bool.not_false]
    refine tk 6 ?_; refine gset ?_
    refine tsk 7 ?_; refine gset ?_
    refine tsk 8 ?_; refine gset ?_
    refine tsk 9 ?_; refine gset ?_
    refine tsk 10 ?_; refine gset ?_
    refine tk 11 ?_; refine gset ?_; refine tk 12 ?_; refine gset ?_
    refine tsk 13 ?_; refine gset ?_
    refine tsk 14 ?_; refine gset ?_
    refine tsk 15 ?_; refine gset ?_
    refine tsk 16 ?_; refine gset ?_
    refine tk 17 ?_; refine gset ?_
    refine wph_done (by decide +kernel) ?_
    repeat' (first | ((with_reducible refine o_s ?_); (first | (refine o_1 ?_; refine o_2 ?_) | (refine o_g ?_; first | refine o_u ?_ | refine o_k ?_ | refine o_n ?_ | refine o_v ?_ | ((first | refine o_G ?_ ?_ | refine o_N ?_ ?_) <;> intro hc)))) | ((fail_if_success (with_reducible refine o_s ?_)); go_step))
    go_ret
    refine ⟨?_, by exact extc⟩
    simp [mayS, hf]

end Go.Proofs.X
set_option linter.unusedSimpArgs false
set_option linter.unusedVariables false
namespace Go.Proofs.X
open Go.RowKit
set_option maxRecDepth 100000
/-! ### slices of sets and of records -/
structure SetsAt (w : World) (v : Value) (l : List RSet) : Prop where
  out : ∃ css, Sl 4 w v css ∧ css.length = l.length ∧ ∀ (i : Nat) (s : RSet), l[i]? = some s → ∃ x, css[i]? = some [str s.name, .int .i64 s.kind, .int .i64 s.ttl, x] ∧ Sl 1 w x (tcells s.data)
theorem SetsAt.ext {w w' : World} {v : Value} {l : List RSet} (h : SetsAt w v l) (hx : Ext w w') : SetsAt w' v l := by
  obtain ⟨css, h1, h2, h3⟩ := h
  exact ⟨css, h1.ext hx, h2, fun i s hi => let ⟨x, a, b⟩ := h3 i s hi; ⟨x, a, b.ext hx⟩⟩
theorem SetsAt.elem {w : World} {v : Value} {l : List RSet} (h : SetsAt w v l) {i : Nat} {s : RSet} (hi : l[i]? = some s) : ∃ x, Pts w (elemPtr v (i * 4)) [str s.name, .int .i64 s.kind, .int .i64 s.ttl, x] ∧ Sl 1 w x (tcells s.data) := by
  obtain ⟨css, h1, h2, h3⟩ := h
  obtain ⟨x, a, b⟩ := h3 i s hi
  exact ⟨x, h1.elem a, b⟩
theorem SetsAt.sl {w : World} {v : Value} {l : List RSet} (h : SetsAt w v l) : ∃ css : List (List Value), Sl 4 w v css ∧ css.length = l.length := by
  obtain ⟨css, h1, h2, h3⟩ := h
  exact ⟨css, h1, h2⟩
def Rec.cells (r : Rec) : List Value := [str r.name, .int .i64 r.kind, .int .i64 r.ttl, str r.data]
def rcells (l : List Rec) : List (List Value) := l.map Rec.cells
theorem rcells_length (l : List Rec) : (rcells l).length = l.length := by simp [rcells]
theorem rcells_at {l : List Rec} {k : Nat} (h : k < l.length) : (rcells l)[k]? = some [str l[k].name, .int .i64 l[k].kind, .int .i64 l[k].ttl, str l[k].data] := by simp [rcells, h, Rec.cells]
/-! ### lodestarref01.Texts, lodestarref07.One, Same -/
theorem take_succ_eq {α : Type} {a b : List α} {k : Nat} (h : a.take k = b.take k) (ha : k < a.length) (hb : k < b.length) (he : a[k] = b[k]) : a.take (k + 1) = b.take (k + 1) := by
  rw [List.take_add_one, List.take_add_one, List.getElem?_eq_getElem ha, List.getElem?_eq_getElem hb, h, he]
theorem ne_of_at {α : Type} {a b : List α} {k : Nat} (ha : k < a.length) (hb : k < b.length) (he : a[k] ≠ b[k]) : a ≠ b := by
  rintro rfl; exact he rfl
theorem t25 (u v : Value) (a b : List (List UInt8)) (w : World) (hu : Sl 1 w u (tcells a)) (hv : Sl 1 w v (tcells b)) : Calls Tryz.prog 56 #[u, v] w (RetV w (.bool (decide (a = b)))) := by
  have hal := hu.le
  have ha := tcells_length a
  have hb := tcells_length b
  go_enter Tryz.func56, Tryz.ntmps56
  repeat' (first | ((with_reducible refine o_s ?_); (first | (refine o_1 ?_; refine o_2 ?_) | (refine o_g ?_; first | refine o_u ?_ | refine o_k ?_ | refine o_n ?_ | refine o_v ?_ | ((first | refine o_G ?_ ?_ | refine o_N ?_ ?_) <;> intro hc)))) | ((fail_if_success (with_reducible refine o_s ?_)); go_step))
  · have hne := ‹(!decide (((tcells a).length : Int) = ((tcells b).length : Int))) = true›
    go_ret
    refine ⟨?_, Ext.refl _⟩
    have : a ≠ b := by rintro rfl; simp at hne
    simp [this]
  · have hne := ‹(!decide (((tcells a).length : Int) = ((tcells b).length : Int))) = false›
    have hlen : a.length = b.length := by simp at hne; omega
    go_loopw [5] (fun i wr => ∃ k : Nat, k ≤ a.length ∧ i = .int .i64 k ∧ Ext w wr ∧ a.take k = b.take k) (fun i _ => a.length - (intOf i).toNat)
    case atStart => exact ⟨0, Nat.zero_le _, rfl, Ext.refl _, rfl⟩
    case round =>
      obtain ⟨k, hk, rfl, hx, hall⟩ := hrel
      by_cases hlt : k < a.length
      · have hlt2 : k < b.length := by omega
        have h1 := (hu.ext hx).elem (tcells_at hlt)
        have h2 := (hv.ext hx).elem (tcells_at hlt2)
        have hu2 := hu.ext hx
        have hv2 := hv.ext hx
        repeat' (first | ((with_reducible refine o_s ?_); (first | (refine o_1 ?_; refine o_2 ?_) | (refine o_g ?_; first | refine o_u ?_ | refine o_k ?_ | refine o_n ?_ | refine o_v ?_ | ((first | refine o_G ?_ ?_ | refine o_N ?_ ?_) <;> intro hc)))) | ((fail_if_success (with_reducible refine o_s ?_)); go_step))
        refine wph_region (S := Ext wr) (by decide +kernel) ?_
        intro w2 x2 _
        refine tk 0 ?_; refine gset ?_; refine tk 1 ?_; refine gset ?_; refine tk 2 ?_; refine gset ?_; refine tk 3 ?_; refine gset ?_; refine tk 4 ?_; refine gset ?_; refine tk 5 ?_; refine gset ?_; refine tk 6 ?_; refine gset ?_; refine tk 7 ?_; refine gset ?_; refine tk 8 ?_; refine gset ?_
        refine wph_done (by decide +kernel) ?_
        by_cases he : a[k] = b[k]
        · have e1 : decide (a[k] = b[k]) = true := decide_eq_true he
          simp only [e1, Bool.not_true]
          repeat' (first | ((with_reducible refine o_s ?_); (first | (refine o_1 ?_; refine o_2 ?_) | (refine o_g ?_; first | refine o_u ?_ | refine o_k ?_ | refine o_n ?_ | refine o_v ?_ | ((first | refine o_G ?_ ?_ | refine o_N ?_ ?_) <;> intro hc)))) | ((fail_if_success (with_reducible refine o_s ?_)); go_step))
          exact ⟨⟨k + 1, by omega, rfl, by exact extc, take_succ_eq hall hlt hlt2 he⟩, by simp [intOf]; omega⟩
        · have e1 : decide (a[k] = b[k]) = false := decide_eq_false he
          simp only [e1, Bool.not_false]
          repeat' (first | ((with_reducible refine o_s ?_); (first | (refine o_1 ?_; refine o_2 ?_) | (refine o_g ?_; first | refine o_u ?_ | refine o_k ?_ | refine o_n ?_ | refine o_v ?_ | ((first | refine o_G ?_ ?_ | refine o_N ?_ ?_) <;> intro hc)))) | ((fail_if_success (with_reducible refine o_s ?_)); go_step))
          go_ret
          refine ⟨?_, by exact extc⟩
          simp [ne_of_at hlt hlt2 he]
      · have hk2 : k = a.length := by omega
        subst hk2
        repeat' (first | ((with_reducible refine o_s ?_); (first | (refine o_1 ?_; refine o_2 ?_) | (refine o_g ?_; first | refine o_u ?_ | refine o_k ?_ | refine o_n ?_ | refine o_v ?_ | ((first | refine o_G ?_ ?_ | refine o_N ?_ ?_) <;> intro hc)))) | ((fail_if_success (with_reducible refine o_s ?_)); go_step))
        go_ret
        refine ⟨?_, by exact extc⟩
        rw [List.take_length, hlen, List.take_length] at hall
        simp [hall]

end Go.Proofs.X
set_option linter.unusedSimpArgs false
set_option linter.unusedVariables false
namespace Go.Proofs.X
open Go.RowKit
set_option maxRecDepth 100000
set_option maxHeartbeats 1000000 in
/-- lodestarref07.One -/
theorem t15 (a b : RSet) (u v : Value) (w : World) (hu : Sl 1 w u (tcells a.data)) (hv : Sl 1 w v (tcells b.data)) : Calls Tryz.prog 21 #[.agg #[str a.name, .int .i64 a.kind, .int .i64 a.ttl, u], .agg #[str b.name, .int .i64 b.kind, .int .i64 b.ttl, v]] w (RetV w (.bool (decide (a = b)))) := by
  have hab : a = b ↔ a.name = b.name ∧ a.kind = b.kind ∧ a.ttl = b.ttl ∧ a.data = b.data := by
    cases a; cases b; simp
  go_enter Tryz.func21, Tryz.ntmps21
  repeat' ((fail_if_success (with_reducible refine o_s ?_)); go_step)
  refine wpl_box (vs := [str a.name, .int .i64 a.kind, .int .i64 a.ttl, u]) rfl rfl ?_
  intro p w1 x1 hp
  refine gset ?_
  refine wpl_box (vs := [str b.name, .int .i64 b.kind, .int .i64 b.ttl, v]) rfl rfl ?_
  intro q w2 x2 hq
  refine gset ?_
  have hu2 := hu.ext (x1.trans x2)
  have hv2 := hv.ext (x1.trans x2)
  repeat' (first | ((with_reducible refine o_s ?_); (first | (refine o_1 ?_; refine o_2 ?_) | (refine o_g ?_; first | refine o_u ?_ | refine o_k ?_ | refine o_n ?_ | refine o_v ?_ | ((first | refine o_G ?_ ?_ | refine o_N ?_ ?_) <;> intro hc)))) | ((fail_if_success (with_reducible refine o_s ?_)); go_step))
  · refine wpl_callV (enters_of Tryz.func56 rfl rfl) rfl rfl (t25 _ _ _ _ _ hu2 hv2) ?_; intro w3 x3; refine gset ?_
    repeat' (first | ((with_reducible refine o_s ?_); (first | (refine o_1 ?_; refine o_2 ?_) | (refine o_g ?_; first | refine o_u ?_ | refine o_k ?_ | refine o_n ?_ | refine o_v ?_ | ((first | refine o_G ?_ ?_ | refine o_N ?_ ?_) <;> intro hc)))) | ((fail_if_success (with_reducible refine o_s ?_)); go_step))
    go_ret
    refine ⟨?_, by exact extc⟩
    have : decide (a = b) = decide (a.data = b.data) := by
      apply decide_eq_decide.2
      rw [hab]
      simp only [‹a.name = b.name›, ‹a.kind = b.kind›, ‹a.ttl = b.ttl›, true_and]
    rw [this]
    rfl
  · go_ret
    refine ⟨?_, by exact extc⟩
    have : ¬ a = b := by rw [hab]; have := ‹¬a.ttl = b.ttl›; simp [this]
    simp [this]
  · go_ret
    refine ⟨?_, by exact extc⟩
    have : ¬ a = b := by rw [hab]; have := ‹¬a.kind = b.kind›; simp [this]
    simp [this]
  · go_ret
    refine ⟨?_, by exact extc⟩
    have : ¬ a = b := by rw [hab]; have := ‹¬a.name = b.name›; simp [this]
    simp [this]
set_option maxHeartbeats 1000000 in
/-- lodestarref07.Same -/
theorem t11 (u v : Value) (a b : List RSet) (w : World) (hu : SetsAt w u a) (hv : SetsAt w v b) : Calls Tryz.prog 16 #[u, v] w (RetV w (.bool (decide (a = b)))) := by
  obtain ⟨cu, hu1, hul⟩ := hu.sl
  obtain ⟨cv, hv1, hvl⟩ := hv.sl
  have hal := hu1.le
  go_enter Tryz.func16, Tryz.ntmps16
  repeat' (first | ((with_reducible refine o_s ?_); (first | (refine o_1 ?_; refine o_2 ?_) | (refine o_g ?_; first | refine o_u ?_ | refine o_k ?_ | refine o_n ?_ | refine o_v ?_ | ((first | refine o_G ?_ ?_ | refine o_N ?_ ?_) <;> intro hc)))) | ((fail_if_success (with_reducible refine o_s ?_)); go_step))
  · have hne := ‹(!decide ((cu.length : Int) = (cv.length : Int))) = true›
    go_ret
    refine ⟨?_, Ext.refl _⟩
    have : a ≠ b := by rintro rfl; simp at hne; omega
    simp [this]
  · have hne := ‹(!decide ((cu.length : Int) = (cv.length : Int))) = false›
    have hlen : a.length = b.length := by simp at hne; omega
    go_loopw [5] (fun i wr => ∃ k : Nat, k ≤ a.length ∧ i = .int .i64 k ∧ Ext w wr ∧ a.take k = b.take k) (fun i _ => a.length - (intOf i).toNat)
    case atStart => exact ⟨0, Nat.zero_le _, rfl, Ext.refl _, rfl⟩
    case round =>
      obtain ⟨k, hk, rfl, hx, hall⟩ := hrel
      by_cases hlt : k < a.length
      · have hlt2 : k < b.length := by omega
        obtain ⟨x, h1, h1d⟩ := (hu.ext hx).elem (List.getElem?_eq_getElem hlt)
        obtain ⟨y, h2, h2d⟩ := (hv.ext hx).elem (List.getElem?_eq_getElem hlt2)
        have hu2 := hu1.ext hx
        have hv2 := hv1.ext hx
        repeat' (first | ((with_reducible refine o_s ?_); (first | (refine o_1 ?_; refine o_2 ?_) | (refine o_g ?_; first | refine o_u ?_ | refine o_k ?_ | refine o_n ?_ | refine o_v ?_ | ((first | refine o_G ?_ ?_ | refine o_N ?_ ?_) <;> intro hc)))) | ((fail_if_success (with_reducible refine o_s ?_)); go_step))
        refine wph_region (S := Ext wr) (by decide +kernel) ?_
        intro w2 x2 _
        refine tk 0 ?_; refine gset ?_; refine tk 1 ?_; refine gset ?_; refine tk 2 ?_; refine gset ?_; refine tk 3 ?_; refine gset ?_; refine tk 4 ?_; refine gset ?_; refine tk 5 ?_; refine gset ?_; refine tk 6 ?_; refine gset ?_; refine tk 7 ?_; refine gset ?_
        refine wph_one (i := 8) (by decide +kernel) rfl rfl ?_
        refine wpl_callV (enters_of Tryz.func21 rfl rfl) rfl rfl (t15 a[k] b[k] _ _ _ (h1d.ext x2) (h2d.ext x2)) ?_; intro w3 x3; refine gset ?_
        refine wph_nil ⟨by exact extc, ?_⟩
        refine tk 9 ?_; refine gset ?_
        refine wph_done (by decide +kernel) ?_
        by_cases he : a[k] = b[k]
        · have e1 : decide (a[k] = b[k]) = true := decide_eq_true he
          simp only [e1, Bool.not_true]
          repeat' (first | ((with_reducible refine o_s ?_); (first | (refine o_1 ?_; refine o_2 ?_) | (refine o_g ?_; first | refine o_u ?_ | refine o_k ?_ | refine o_n ?_ | refine o_v ?_ | ((first | refine o_G ?_ ?_ | refine o_N ?_ ?_) <;> intro hc)))) | ((fail_if_success (with_reducible refine o_s ?_)); go_step))
          exact ⟨⟨k + 1, by omega, rfl, by exact extc, take_succ_eq hall hlt hlt2 he⟩, by simp [intOf]; omega⟩
        · have e1 : decide (a[k] = b[k]) = false := decide_eq_false he
          simp only [e1, Bool.not_false]
          repeat' (first | ((with_reducible refine o_s ?_); (first | (refine o_1 ?_; refine o_2 ?_) | (refine o_g ?_; first | refine o_u ?_ | refine o_k ?_ | refine o_n ?_ | refine o_v ?_ | ((first | refine o_G ?_ ?_ | refine o_N ?_ ?_) <;> intro hc)))) | ((fail_if_success (with_reducible refine o_s ?_)); go_step))
          go_ret
          refine ⟨?_, by exact extc⟩
          simp [ne_of_at hlt hlt2 he]
      · have hk2 : k = a.length := by omega
        subst hk2
        repeat' (first | ((with_reducible refine o_s ?_); (first | (refine o_1 ?_; refine o_2 ?_) | (refine o_g ?_; first | refine o_u ?_ | refine o_k ?_ | refine o_n ?_ | refine o_v ?_ | ((first | refine o_G ?_ ?_ | refine o_N ?_ ?_) <;> intro hc)))) | ((fail_if_success (with_reducible refine o_s ?_)); go_step))
        go_ret
        refine ⟨?_, by exact extc⟩
        rw [List.take_length, hlen, List.take_length] at hall
        simp [hall]
/-! ### lodestarref04.Short -/
def shortAt (r : Rec) : Bool := decide (r.name.length ≤ 300) && decide (r.data.length ≤ 300)
def shortR (l : List Rec) : Bool := decide (l.length ≤ 25) && l.all shortAt
theorem all_no {α : Type} {p : α → Bool} {l : List α} {k : Nat} (h : k < l.length) (hp : p l[k] = false) : l.all p = false := by
  rw [List.all_eq_false]
  exact ⟨l[k], List.getElem_mem h, by simp [hp]⟩
theorem all_take {α : Type} {p : α → Bool} {l : List α} {k : Nat} (h : k < l.length) (ha : (l.take k).all p = true) (hp : p l[k] = true) : (l.take (k + 1)).all p = true := by
  rw [List.take_add_one, List.getElem?_eq_getElem h, List.all_append, ha]
  simp [hp]
set_option maxHeartbeats 1000000 in
theorem t7 (v : Value) (l : List Rec) (w : World) (hv : Sl 4 w v (rcells l)) : Calls Tryz.prog 12 #[v] w (RetV w (.bool (shortR l))) := by
  have hl := rcells_length l
  have hle := hv.le
  go_enter Tryz.func12, Tryz.ntmps12
  repeat' (first | ((with_reducible refine o_s ?_); (first | (refine o_1 ?_; refine o_2 ?_) | (refine o_g ?_; first | refine o_u ?_ | refine o_k ?_ | refine o_n ?_ | refine o_v ?_ | ((first | refine o_G ?_ ?_ | refine o_N ?_ ?_) <;> intro hc)))) | ((fail_if_success (with_reducible refine o_s ?_)); go_step))
  · have hne := ‹25 < ((rcells l).length : Int)›
    go_ret
    refine ⟨?_, Ext.refl _⟩
    have : decide (l.length ≤ 25) = false := decide_eq_false (by omega)
    simp [shortR, this]
  · have h25 : decide (l.length ≤ 25) = true := decide_eq_true (by omega)
    go_loopw [3] (fun i wr => ∃ k : Nat, k ≤ l.length ∧ i = .int .i64 k ∧ Ext w wr ∧ (l.take k).all shortAt = true) (fun i _ => l.length - (intOf i).toNat)
    case atStart => exact ⟨0, Nat.zero_le _, rfl, Ext.refl _, rfl⟩
    case round =>
      obtain ⟨k, hk, rfl, hx, hall⟩ := hrel
      have hv2 := hv.ext hx
      by_cases hlt : k < l.length
      · have h1 := hv2.elem (rcells_at hlt)
        repeat' (first | ((with_reducible refine o_s ?_); (first | (refine o_1 ?_; refine o_2 ?_) | (refine o_g ?_; first | refine o_u ?_ | refine o_k ?_ | refine o_n ?_ | refine o_v ?_ | ((first | refine o_G ?_ ?_ | refine o_N ?_ ?_) <;> intro hc)))) | ((fail_if_success (with_reducible refine o_s ?_)); go_step))
        · go_ret
          refine ⟨?_, by exact extc⟩
          have : shortAt l[k] = false := by have : decide (l[k].data.length ≤ 300) = false := decide_eq_false (by omega)
                                            simp [shortAt, this]
          simp [shortR, all_no hlt this]
        · have ha : shortAt l[k] = true := by
            have e1 : decide (l[k].data.length ≤ 300) = true := decide_eq_true (by omega)
            have e2 : decide (l[k].name.length ≤ 300) = true := decide_eq_true (by omega)
            rw [shortAt, e1, e2]; rfl
          exact ⟨⟨k + 1, by omega, rfl, by exact extc, all_take hlt hall ha⟩, by simp [intOf]; omega⟩
        · go_ret
          refine ⟨?_, by exact extc⟩
          have : shortAt l[k] = false := by have : decide (l[k].name.length ≤ 300) = false := decide_eq_false (by omega)
                                            simp [shortAt, this]
          simp [shortR, all_no hlt this]
      · have hk2 : k = l.length := by omega
        subst hk2
        repeat' (first | ((with_reducible refine o_s ?_); (first | (refine o_1 ?_; refine o_2 ?_) | (refine o_g ?_; first | refine o_u ?_ | refine o_k ?_ | refine o_n ?_ | refine o_v ?_ | ((first | refine o_G ?_ ?_ | refine o_N ?_ ?_) <;> intro hc)))) | ((fail_if_success (with_reducible refine o_s ?_)); go_step))
        go_ret
        refine ⟨?_, by exact extc⟩
        rw [List.take_length] at hall
        rw [shortR, h25, hall]
        rfl
/-! ### lodestarref07.Few -/
def fewAt (s : RSet) : Bool := decide (s.data.length ≤ 12) && decide (s.name.length ≤ 300) && s.data.all fun d => decide (d.length ≤ 300)
def fewS (l : List RSet) : Bool := decide (l.length ≤ 25) && l.all fewAt
set_option maxHeartbeats 2000000 in
theorem t14 (v : Value) (l : List RSet) (w : World) (hv : SetsAt w v l) : Calls Tryz.prog 18 #[v] w (RetV w (.bool (fewS l))) := by
  obtain ⟨cv, hv1, hvl⟩ := hv.sl
  have hle := hv1.le
  go_enter Tryz.func18, Tryz.ntmps18
  repeat' (first | ((with_reducible refine o_s ?_); (first | (refine o_1 ?_; refine o_2 ?_) | (refine o_g ?_; first | refine o_u ?_ | refine o_k ?_ | refine o_n ?_ | refine o_v ?_ | ((first | refine o_G ?_ ?_ | refine o_N ?_ ?_) <;> intro hc)))) | ((fail_if_success (with_reducible refine o_s ?_)); go_step))
  · go_ret
    refine ⟨?_, Ext.refl _⟩
    have : decide (l.length ≤ 25) = false := decide_eq_false (by omega)
    simp [fewS, this]
  · have h25 : decide (l.length ≤ 25) = true := decide_eq_true (by omega)
    go_loopw [3, 4] (fun i _ wr => ∃ k : Nat, k ≤ l.length ∧ i = .int .i64 k ∧ Ext w wr ∧ (l.take k).all fewAt = true) (fun i _ _ => l.length - (intOf i).toNat)
    case atStart => exact ⟨0, Nat.zero_le _, rfl, Ext.refl _, rfl⟩
    case round =>
      obtain ⟨k, hk, rfl, hx, hall⟩ := hrel
      have hv2 := hv1.ext hx
      by_cases hlt : k < l.length
      · obtain ⟨x, h1, h1d⟩ := (hv.ext hx).elem (List.getElem?_eq_getElem hlt)
        have hdl := tcells_length l[k].data
        have hdle := h1d.le
        repeat' (first | ((with_reducible refine o_s ?_); (first | (refine o_1 ?_; refine o_2 ?_) | (refine o_g ?_; first | refine o_u ?_ | refine o_k ?_ | refine o_n ?_ | refine o_v ?_ | ((first | refine o_G ?_ ?_ | refine o_N ?_ ?_) <;> intro hc)))) | ((fail_if_success (with_reducible refine o_s ?_)); go_step))
        · go_ret
          refine ⟨?_, by exact extc⟩
          have : fewAt l[k] = false := by
            have : decide (l[k].name.length ≤ 300) = false := decide_eq_false (by omega)
            simp [fewAt, this]
          simp [fewS, all_no hlt this]
        · have e1 : decide (l[k].data.length ≤ 12) = true := decide_eq_true (by omega)
          have e2 : decide (l[k].name.length ≤ 300) = true := decide_eq_true (by omega)
          go_loopw [4] (fun i wq => ∃ j : Nat, j ≤ l[k].data.length ∧ i = .int .i64 j ∧ Ext wr wq ∧ (l[k].data.take j).all (fun d => decide (d.length ≤ 300)) = true) (fun i _ => l[k].data.length - (intOf i).toNat)
          case atStart => exact ⟨0, Nat.zero_le _, rfl, Ext.refl _, rfl⟩
          case round =>
            obtain ⟨j, hj, rfl, hx2, hall2⟩ := hrel
            have hv3 := hv2.ext hx2
            have h1b := h1.ext hx2
            have h1c := h1d.ext hx2
            by_cases hlt2 : j < l[k].data.length
            · have h3 := h1c.elem (tcells_at hlt2)
              repeat' (first | ((with_reducible refine o_s ?_); (first | (refine o_1 ?_; refine o_2 ?_) | (refine o_g ?_; first | refine o_u ?_ | refine o_k ?_ | refine o_n ?_ | refine o_v ?_ | ((first | refine o_G ?_ ?_ | refine o_N ?_ ?_) <;> intro hc)))) | ((fail_if_success (with_reducible refine o_s ?_)); go_step))
              · go_ret
                refine ⟨?_, by exact extc⟩
                have : fewAt l[k] = false := by
                  have : l[k].data.all (fun d => decide (d.length ≤ 300)) = false := all_no hlt2 (decide_eq_false (by omega))
                  simp only [fewAt, this, Bool.and_false]
                simp [fewS, all_no hlt this]
              · exact ⟨⟨j + 1, by omega, rfl, by exact extc, all_take hlt2 hall2 (decide_eq_true (by omega))⟩, by simp [intOf]; omega⟩
            · have hj2 : j = l[k].data.length := by omega
              subst hj2
              repeat' (first | ((with_reducible refine o_s ?_); (first | (refine o_1 ?_; refine o_2 ?_) | (refine o_g ?_; first | refine o_u ?_ | refine o_k ?_ | refine o_n ?_ | refine o_v ?_ | ((first | refine o_G ?_ ?_ | refine o_N ?_ ?_) <;> intro hc)))) | ((fail_if_success (with_reducible refine o_s ?_)); go_step))
              rw [List.take_length] at hall2
              exact ⟨⟨k + 1, by omega, rfl, by exact extc, all_take hlt hall (by rw [fewAt, e1, e2, hall2]; rfl)⟩, by simp [intOf]; omega⟩
        · go_ret
          refine ⟨?_, by exact extc⟩
          have : fewAt l[k] = false := by
            have : decide (l[k].data.length ≤ 12) = false := decide_eq_false (by omega)
            simp [fewAt, this]
          simp [fewS, all_no hlt this]
      · have hk2 : k = l.length := by omega
        subst hk2
        repeat' (first | ((with_reducible refine o_s ?_); (first | (refine o_1 ?_; refine o_2 ?_) | (refine o_g ?_; first | refine o_u ?_ | refine o_k ?_ | refine o_n ?_ | refine o_v ?_ | ((first | refine o_G ?_ ?_ | refine o_N ?_ ?_) <;> intro hc)))) | ((fail_if_success (with_reducible refine o_s ?_)); go_step))
        go_ret
        refine ⟨?_, by exact extc⟩
        rw [List.take_length] at hall
        rw [fewS, h25, hall]
        rfl

end Go.Proofs.X
set_option linter.unusedSimpArgs false
set_option linter.unusedVariables false
namespace Go.Proofs.X
open Go.RowKit
set_option maxRecDepth 100000
set_option maxHeartbeats 1000000 in
/-- slices.Clone at texts -/
theorem t24 (v : Value) (l : List (List UInt8)) (w : World) (hv : Sl 1 w v (tcells l)) (hl : l.length ≤ 8796093022208) : Calls Tryz.prog 53 #[v] w (Ret w fun v' w' => Own w.heap.size 1 9 w' v' (tcells l)) := by
  have hlen := tcells_length l
  go_enter Tryz.func53, Tryz.ntmps53
  repeat' (first | ((with_reducible refine o_s ?_); (first | (refine o_1 ?_; refine o_2 ?_) | (refine o_g ?_; first | refine o_u ?_ | refine o_k ?_ | refine o_n ?_ | refine o_v ?_ | ((first | refine o_G ?_ ?_ | refine o_N ?_ ?_) <;> intro hc)))) | ((fail_if_success (with_reducible refine o_s ?_)); go_step))
  · have hn := ‹isNil v = true›
    go_ret
    have : tcells l = [] := hv.isNil hn
    refine ⟨_, rfl, Ext.refl _, ?_⟩
    rw [this]
    exact Own.nil _ _ _ _
  · refine wpl_slice0 (t := 33) (e := 9) (k := 1) (bytes := 16) (by decide +kernel) rfl ?_
    intro v2 w2 x2 s2 o2
    refine gset ?_
    repeat' (first | ((with_reducible refine o_s ?_); (first | (refine o_1 ?_; refine o_2 ?_) | (refine o_g ?_; first | refine o_u ?_ | refine o_k ?_ | refine o_n ?_ | refine o_v ?_ | ((first | refine o_G ?_ ?_ | refine o_N ?_ ?_) <;> intro hc)))) | ((fail_if_success (with_reducible refine o_s ?_)); go_step))
    refine wpl_append (B := w.heap.size) (e := 9) (k := 1) (bytes := 16) (es := []) (fs := tcells l) rfl o2 rfl (hv.ext x2) (by decide +kernel) (by simp [tcells, str, Value.oneCell']) (by omega) (by simp; omega) (by simp; omega) ?_
    intro v3 w3 o3 m3
    have x3 := o2.mvx m3 x2 (Nat.le_refl _)
    repeat' (first | ((with_reducible refine o_s ?_); (first | (refine o_1 ?_; refine o_2 ?_) | (refine o_g ?_; first | refine o_u ?_ | refine o_k ?_ | refine o_n ?_ | refine o_v ?_ | ((first | refine o_G ?_ ?_ | refine o_N ?_ ?_) <;> intro hc)))) | ((fail_if_success (with_reducible refine o_s ?_)); go_step))
    go_ret
    exact ⟨_, rfl, x3, o3⟩
/-! ### rrset.Check -/
def badSet (l : List RSet) (i : Nat) : Bool := match l[i]? with
  | none => false
  | some s => !mayS s || (decide (0 < i) && decide (0 ≤ cmpSet (l.getD (i - 1) default).name s.name (l.getD (i - 1) default).kind s.kind))
def checkS (l : List RSet) : Int := if 200 < l.length then 1 else if (List.range l.length).all (fun i => !badSet l i) = true then 0 else 1
theorem checkS_bad {l : List RSet} {i : Nat} (hi : i < l.length) (h : badSet l i = true) : checkS l = 1 := by
  have : (List.range l.length).all (fun i => !badSet l i) = false := by
    rw [List.all_eq_false]
    exact ⟨i, by simpa using hi, by simp [h]⟩
  rw [checkS, this]
  split <;> rfl
set_option maxHeartbeats 2000000 in
/-- rrset.Check -/
theorem t12 (v : Value) (l : List RSet) (w : World) (hv : SetsAt w v l) : Calls Tryz.prog 24 #[v] w (RetV w (.int .i64 (checkS l))) := by
  obtain ⟨cv, hv1, hvl⟩ := hv.sl
  have hle := hv1.le
  go_enter Tryz.func24, Tryz.ntmps24
  repeat' (first | ((with_reducible refine o_s ?_); (first | (refine o_1 ?_; refine o_2 ?_) | (refine o_g ?_; first | refine o_u ?_ | refine o_k ?_ | refine o_n ?_ | refine o_v ?_ | ((first | refine o_G ?_ ?_ | refine o_N ?_ ?_) <;> intro hc)))) | ((fail_if_success (with_reducible refine o_s ?_)); go_step))
  · go_ret
    refine ⟨?_, Ext.refl _⟩
    rw [checkS, if_pos (by omega)]
    rfl
  · go_loopw [3, 4, 10] (fun _ _ i wr => ∃ k : Nat, k ≤ l.length ∧ i = .int .i64 k ∧ Ext w wr ∧ ∀ j, j < k → badSet l j = false) (fun _ _ i _ => l.length - (intOf i).toNat)
    case atStart => exact ⟨0, Nat.zero_le _, rfl, Ext.refl _, by omega⟩
    case round =>
      obtain ⟨k, hk, rfl, hx, hall⟩ := hrel
      have hv2 := hv1.ext hx
      by_cases hlt : k < l.length
      · obtain ⟨x, h1, h1d⟩ := (hv.ext hx).elem (List.getElem?_eq_getElem hlt)
        have hbad : badSet l k = (!mayS l[k] || (decide (0 < k) && decide (0 ≤ cmpSet (l.getD (k - 1) default).name l[k].name (l.getD (k - 1) default).kind l[k].kind))) := by
          rw [badSet, List.getElem?_eq_getElem hlt]
        repeat' (first | ((with_reducible refine o_s ?_); (first | (refine o_1 ?_; refine o_2 ?_) | (refine o_g ?_; first | refine o_u ?_ | refine o_k ?_ | refine o_n ?_ | refine o_v ?_ | ((first | refine o_G ?_ ?_ | refine o_N ?_ ?_) <;> intro hc)))) | ((fail_if_success (with_reducible refine o_s ?_)); go_step))
        refine wpl_allocB (z := [str [], .int .i64 0, .int .i64 0, .slice none 0 0]) rfl (by decide +kernel) ?_
        intro w2 x2 s2 h2
        repeat' (first | ((with_reducible refine o_s ?_); (first | (refine o_1 ?_; refine o_2 ?_) | (refine o_g ?_; first | refine o_u ?_ | refine o_k ?_ | refine o_n ?_ | refine o_v ?_ | ((first | refine o_G ?_ ?_ | refine o_N ?_ ?_) <;> intro hc)))) | ((fail_if_success (with_reducible refine o_s ?_)); go_step))
        refine wpl_storeB (v := .agg #[str l[k].name, .int .i64 l[k].kind, .int .i64 l[k].ttl, x]) rfl rfl rfl h2 (show sizeTy Tryz.prog 35 4 = true by decide +kernel) rfl ?_ ?_
        · exact all4 rfl rfl rfl h1d.one
        intro w3 p3
        have x3 : Ext wr w3 := x2.move p3.mv (by rintro k ⟨⟩; exact Nat.le_refl _)
        have hp4 := pts_block (cs := [str l[k].name, .int .i64 l[k].kind, .int .i64 l[k].ttl, x]) p3.this
        clear p3 h2 x2
        repeat' (first | ((with_reducible refine o_s ?_); (first | (refine o_1 ?_; refine o_2 ?_) | (refine o_g ?_; first | refine o_u ?_ | refine o_k ?_ | refine o_n ?_ | refine o_v ?_ | ((first | refine o_G ?_ ?_ | refine o_N ?_ ?_) <;> intro hc)))) | ((fail_if_success (with_reducible refine o_s ?_)); go_step))
        refine wph_region (S := Ext w3) (by decide +kernel) ?_
        intro w4 x4 _
        refine tk 0 ?_; refine gset ?_
        refine wph_one (i := 1) (by decide +kernel) rfl rfl ?_
        refine wpl_callV (enters_of Tryz.func58 rfl rfl) rfl rfl (t23 l[k] _ _ (h1d.ext (x3.trans x4))) ?_; intro w5 x5; refine gset ?_
        refine wph_nil ⟨by exact extc, ?_⟩
        cases hm : mayS l[k] with
        | false =>
          rw [hm] at hbad
          refine tk 2 ?_; refine gset ?_
          try simp only [Bool.not_false]
          refine tk 3 ?_; refine gset ?_
          refine tsk 4 ?_; refine gset ?_; refine tsk 5 ?_; refine gset ?_; refine tsk 6 ?_; refine gset ?_; refine tsk 7 ?_; refine gset ?_; refine tsk 8 ?_; refine gset ?_; refine tsk 9 ?_; refine gset ?_; refine tsk 10 ?_; refine gset ?_; refine tsk 11 ?_; refine gset ?_; refine tsk 12 ?_; refine gset ?_; refine tsk 13 ?_; refine gset ?_; refine tsk 14 ?_; refine gset ?_; refine tsk 15 ?_; refine gset ?_
          refine tk 16 ?_; refine gset ?_
          refine wph_done (by decide +kernel) ?_
          repeat' (first | ((with_reducible refine o_s ?_); (first | (refine o_1 ?_; refine o_2 ?_) | (refine o_g ?_; first | refine o_u ?_ | refine o_k ?_ | refine o_n ?_ | refine o_v ?_ | ((first | refine o_G ?_ ?_ | refine o_N ?_ ?_) <;> intro hc)))) | ((fail_if_success (with_reducible refine o_s ?_)); go_step))
          go_ret
          refine ⟨?_, by exact extc⟩
          rw [checkS_bad hlt (by rw [hbad]; rfl)]
          rfl
        | true =>
          rw [hm] at hbad
          refine tk 2 ?_; refine gset ?_
          try simp only [Bool.not_true]
          refine tk 3 ?_; refine gset ?_; refine tk 4 ?_; refine gset ?_; refine tk 5 ?_; refine gset ?_
          by_cases hk0 : 0 < k
          · have e5 : decide ((0 : Int) < (k : Int)) = true := decide_eq_true (by omega)
            have e6 : decide (0 < k) = true := decide_eq_true hk0
            simp only [e5]
            rw [e6] at hbad
            have hkl : k - 1 < l.length := by omega
            have hgd : l.getD (k - 1) default = l[k - 1] := by simp [hkl]
            obtain ⟨y, h9', h9d⟩ := (hv.ext hx).elem (List.getElem?_eq_getElem hkl)
            have e9 : ((k : Int) - 1).toNat = k - 1 := by omega
            have h9 : Pts wr (elemPtr v (((k : Int) - 1).toNat * 4)) [str l[k - 1].name, .int .i64 l[k - 1].kind, .int .i64 l[k - 1].ttl, y] := by rw [e9]; exact h9'
            rw [hgd] at hbad
            refine tk 6 ?_; refine gset ?_; refine tk 7 ?_; refine gset ?_; refine tk 8 ?_; refine gset ?_; refine tk 9 ?_; refine gset ?_; refine tk 10 ?_; refine gset ?_; refine tk 11 ?_; refine gset ?_; refine tk 12 ?_; refine gset ?_
            refine wph_one (i := 13) (by decide +kernel) rfl rfl ?_
            refine wpl_callV (enters_of Tryz.func50 rfl rfl) rfl rfl (t21 _ _ _ _ _ _ _ _ _) ?_; intro w6 x6; refine gset ?_
            refine wph_nil ⟨by exact extc, ?_⟩
            refine tk 14 ?_; refine gset ?_; refine tk 15 ?_; refine gset ?_; refine tk 16 ?_; refine gset ?_
            refine wph_done (by decide +kernel) ?_
            by_cases hc : 0 ≤ cmpSet l[k - 1].name l[k].name l[k - 1].kind l[k].kind
            · have e7 : decide (0 ≤ cmpSet l[k - 1].name l[k].name l[k - 1].kind l[k].kind) = true := decide_eq_true hc
              simp only [e7]
              repeat' (first | ((with_reducible refine o_s ?_); (first | (refine o_1 ?_; refine o_2 ?_) | (refine o_g ?_; first | refine o_u ?_ | refine o_k ?_ | refine o_n ?_ | refine o_v ?_ | ((first | refine o_G ?_ ?_ | refine o_N ?_ ?_) <;> intro hc)))) | ((fail_if_success (with_reducible refine o_s ?_)); go_step))
              go_ret
              refine ⟨?_, by exact extc⟩
              rw [checkS_bad hlt (by rw [hbad, e7]; rfl)]
              rfl
            · have e7 : decide (0 ≤ cmpSet l[k - 1].name l[k].name l[k - 1].kind l[k].kind) = false := decide_eq_false hc
              simp only [e7]
              repeat' (first | ((with_reducible refine o_s ?_); (first | (refine o_1 ?_; refine o_2 ?_) | (refine o_g ?_; first | refine o_u ?_ | refine o_k ?_ | refine o_n ?_ | refine o_v ?_ | ((first | refine o_G ?_ ?_ | refine o_N ?_ ?_) <;> intro hc)))) | ((fail_if_success (with_reducible refine o_s ?_)); go_step))
              exact ⟨⟨k + 1, by omega, rfl, by exact extc, fun j hj => by
                rcases Nat.lt_or_ge j k with h | h
                · exact hall j h
                · have : j = k := by omega
                  subst this
                  rw [hbad, e7]; rfl⟩, by simp [intOf]; omega⟩
          · have e5 : decide ((0 : Int) < (k : Int)) = false := decide_eq_false (by omega)
            have e6 : decide (0 < k) = false := decide_eq_false hk0
            simp only [e5]
            rw [e6] at hbad
            refine tk 6 ?_; refine gset ?_
            refine tsk 7 ?_; refine gset ?_; refine tsk 8 ?_; refine gset ?_; refine tsk 9 ?_; refine gset ?_; refine tsk 10 ?_; refine gset ?_; refine tsk 11 ?_; refine gset ?_; refine tsk 12 ?_; refine gset ?_; refine tsk 13 ?_; refine gset ?_; refine tsk 14 ?_; refine gset ?_
            refine tk 15 ?_; refine gset ?_; refine tk 16 ?_; refine gset ?_
            refine wph_done (by decide +kernel) ?_
            repeat' (first | ((with_reducible refine o_s ?_); (first | (refine o_1 ?_; refine o_2 ?_) | (refine o_g ?_; first | refine o_u ?_ | refine o_k ?_ | refine o_n ?_ | refine o_v ?_ | ((first | refine o_G ?_ ?_ | refine o_N ?_ ?_) <;> intro hc)))) | ((fail_if_success (with_reducible refine o_s ?_)); go_step))
            exact ⟨⟨k + 1, by omega, rfl, by exact extc, fun j hj => by
              rcases Nat.lt_or_ge j k with h | h
              · exact hall j h
              · have : j = k := by omega
                subst this
                rw [hbad]; rfl⟩, by simp [intOf]; omega⟩
      · have hk2 : k = l.length := by omega
        subst hk2
        repeat' (first | ((with_reducible refine o_s ?_); (first | (refine o_1 ?_; refine o_2 ?_) | (refine o_g ?_; first | refine o_u ?_ | refine o_k ?_ | refine o_n ?_ | refine o_v ?_ | ((first | refine o_G ?_ ?_ | refine o_N ?_ ?_) <;> intro hc)))) | ((fail_if_success (with_reducible refine o_s ?_)); go_step))
        go_ret
        refine ⟨?_, by exact extc⟩
        have : (List.range l.length).all (fun i => !badSet l i) = true := by
          rw [List.all_eq_true]
          intro i hi
          simp [hall i (by simpa using hi)]
        rw [checkS, this, if_neg (by omega)]
        rfl

end Go.Proofs.X
set_option linter.unusedSimpArgs false
set_option linter.unusedVariables false
namespace Go.Proofs.X
open Go.RowKit
set_option maxRecDepth 100000
/-! ### rrset.Find -/
def hit (n : List UInt8) (k : Int) (s : RSet) : Bool := decide (s.name = n) && decide (s.kind = k)
def findS (l : List RSet) (n : List UInt8) (k : Int) : Option RSet := l.find? (hit (fold n) k)
def zset : List Value := [str [], .int .i64 0, .int .i64 0, .slice none 0 0]
theorem find_take {α : Type} {p : α → Bool} {l : List α} {k : Nat} (h : k < l.length) (ha : (l.take k).find? p = none) (hp : p l[k] = false) : (l.take (k + 1)).find? p = none := by
  rw [List.take_add_one, List.getElem?_eq_getElem h, List.find?_append, ha]
  simp [hp]
theorem find_at {α : Type} {p : α → Bool} {l : List α} {k : Nat} (h : k < l.length) (ha : (l.take k).find? p = none) (hp : p l[k] = true) : l.find? p = some l[k] := by
  have e : l = l.take k ++ (l[k] :: l.drop (k + 1)) := by rw [← List.drop_eq_getElem_cons h, List.take_append_drop]
  have : l.find? p = (l.take k ++ (l[k] :: l.drop (k + 1))).find? p := congrArg _ e
  rw [this, List.find?_append, ha, List.find?_cons, hp]
  rfl
set_option maxHeartbeats 2000000 in
theorem t13 (v : Value) (l : List RSet) (n : List UInt8) (kd : Int) (w : World) (hv : SetsAt w v l) (hb : ∀ s ∈ l, s.data.length ≤ 8796093022208) : Calls Tryz.prog 19 #[v, str n, .int .i64 kd] w (Ret w fun r w' => match findS l n kd with
    | some s => ∃ x, r = .tuple #[.agg #[str s.name, .int .i64 s.kind, .int .i64 s.ttl, x], .bool true] ∧ Own w.heap.size 1 9 w' x (tcells s.data)
    | none => r = .tuple #[.agg zset.toArray, .bool false]) := by
  obtain ⟨cv, hv1, hvl⟩ := hv.sl
  have hle := hv1.le
  go_enter Tryz.func19, Tryz.ntmps19
  repeat' ((fail_if_success (with_reducible refine o_s ?_)); go_step)
  refine wpl_allocB (z := zset) rfl (by decide +kernel) ?_
  intro w1 x1 s1 h1
  repeat' (first | ((with_reducible refine o_s ?_); (first | (refine o_1 ?_; refine o_2 ?_) | (refine o_g ?_; first | refine o_u ?_ | refine o_k ?_ | refine o_n ?_ | refine o_v ?_ | ((first | refine o_G ?_ ?_ | refine o_N ?_ ?_) <;> intro hc)))) | ((fail_if_success (with_reducible refine o_s ?_)); go_step))
  refine wpl_callV (enters_of Tryz.func46 rfl rfl) rfl rfl (t17 _ _) ?_; intro w2 x2; refine gset ?_
  have h2 := x2.at h1
  have x12 : Ext w w2 := x1.trans x2
  repeat' (first | ((with_reducible refine o_s ?_); (first | (refine o_1 ?_; refine o_2 ?_) | (refine o_g ?_; first | refine o_u ?_ | refine o_k ?_ | refine o_n ?_ | refine o_v ?_ | ((first | refine o_G ?_ ?_ | refine o_N ?_ ?_) <;> intro hc)))) | ((fail_if_success (with_reducible refine o_s ?_)); go_step))
  have hv2 := hv1.ext x12
  repeat' (first | ((with_reducible refine o_s ?_); (first | (refine o_1 ?_; refine o_2 ?_) | (refine o_g ?_; first | refine o_u ?_ | refine o_k ?_ | refine o_n ?_ | refine o_v ?_ | ((first | refine o_G ?_ ?_ | refine o_N ?_ ?_) <;> intro hc)))) | ((fail_if_success (with_reducible refine o_s ?_)); go_step))
  go_loopw [9, 14] (fun _ i wr => ∃ k : Nat, k ≤ l.length ∧ i = .int .i64 k ∧ Ext w2 wr ∧ (l.take k).find? (hit (fold n) kd) = none) (fun _ i _ => l.length - (intOf i).toNat)
  case atStart => exact ⟨0, Nat.zero_le _, rfl, Ext.refl _, rfl⟩
  case round =>
    obtain ⟨k, hk, rfl, hx, hall⟩ := hrel
    have hxw : Ext w wr := x12.trans hx
    have hv2 := hv1.ext hxw
    have h3 := hx.at h2
    by_cases hlt : k < l.length
    · obtain ⟨x, h4, h4d⟩ := (hv.ext hxw).elem (List.getElem?_eq_getElem hlt)
      have hbk := hb _ (List.getElem_mem hlt)
      repeat' (first | ((with_reducible refine o_s ?_); (first | (refine o_1 ?_; refine o_2 ?_) | (refine o_g ?_; first | refine o_u ?_ | refine o_k ?_ | refine o_n ?_ | refine o_v ?_ | ((first | refine o_G ?_ ?_ | refine o_N ?_ ?_) <;> intro hc)))) | ((fail_if_success (with_reducible refine o_s ?_)); go_step))
      refine wpl_allocB (z := zset) rfl (by decide +kernel) ?_
      intro w5 x5 s5 h5
      repeat' (first | ((with_reducible refine o_s ?_); (first | (refine o_1 ?_; refine o_2 ?_) | (refine o_g ?_; first | refine o_u ?_ | refine o_k ?_ | refine o_n ?_ | refine o_v ?_ | ((first | refine o_G ?_ ?_ | refine o_N ?_ ?_) <;> intro hc)))) | ((fail_if_success (with_reducible refine o_s ?_)); go_step))
      refine wpl_storeB (v := .agg #[str l[k].name, .int .i64 l[k].kind, .int .i64 l[k].ttl, x]) rfl rfl rfl h5 (show sizeTy Tryz.prog 35 4 = true by decide +kernel) rfl (all4 rfl rfl rfl h4d.one) ?_
      intro w6 p6
      have x6 : Ext wr w6 := x5.move p6.mv (by rintro k ⟨⟩; exact Nat.le_refl _)
      have b6 := p6.this
      have hp6 := pts_block (cs := [str l[k].name, .int .i64 l[k].kind, .int .i64 l[k].ttl, x]) b6
      have z6 : w6.heap.size = wr.heap.size + 1 := p6.size.trans s5
      clear p6 h5 x5
      repeat' (first | ((with_reducible refine o_s ?_); (first | (refine o_1 ?_; refine o_2 ?_) | (refine o_g ?_; first | refine o_u ?_ | refine o_k ?_ | refine o_n ?_ | refine o_v ?_ | ((first | refine o_G ?_ ?_ | refine o_N ?_ ?_) <;> intro hc)))) | ((fail_if_success (with_reducible refine o_s ?_)); go_step))
      · have hh : findS l n kd = some l[k] := find_at hlt hall (by have h1 := ‹l[k].name = fold n›; have h2 := ‹l[k].kind = kd›; simp [hit, h1, h2])
        refine wpl_callR (enters_of Tryz.func53 rfl rfl) rfl rfl (t24 x l[k].data _ (h4d.ext x6) hbk) ?_
        intro y w7 x7 o7
        refine gset ?_
        repeat' (first | ((with_reducible refine o_s ?_); (first | (refine o_1 ?_; refine o_2 ?_) | (refine o_g ?_; first | refine o_u ?_ | refine o_k ?_ | refine o_n ?_ | refine o_v ?_ | ((first | refine o_G ?_ ?_ | refine o_N ?_ ?_) <;> intro hc)))) | ((fail_if_success (with_reducible refine o_s ?_)); go_step))
        have b7 := x7.at b6
        refine wpl_storeF (cs := [str l[k].name, .int .i64 l[k].kind, .int .i64 l[k].ttl, x]) b7 rfl rfl rfl (by simp) (by decide +kernel) o7.one ?_
        intro w8 p8
        have x68 : Ext wr w8 := (x6.trans x7).move p8.mv (by rintro k ⟨⟩; exact Nat.le_refl _)
        have hp8 := pts_block (cs := [str l[k].name, .int .i64 l[k].kind, .int .i64 l[k].ttl, y]) p8.this
        have h8 := x68.at h3
        have o8 : Own (w.heap.size + 1) 1 9 w8 y (tcells l[k].data) := (o7.put p8 (by omega)).weaken (by have := hx.size; have := x2.size; omega)
        clear hp6 b6 b7 p8
        repeat' (first | ((with_reducible refine o_s ?_); (first | (refine o_1 ?_; refine o_2 ?_) | (refine o_g ?_; first | refine o_u ?_ | refine o_k ?_ | refine o_n ?_ | refine o_v ?_ | ((first | refine o_G ?_ ?_ | refine o_N ?_ ?_) <;> intro hc)))) | ((fail_if_success (with_reducible refine o_s ?_)); go_step))
        refine wpl_storeB (v := .agg #[str l[k].name, .int .i64 l[k].kind, .int .i64 l[k].ttl, y]) rfl rfl rfl h8 (show sizeTy Tryz.prog 35 4 = true by decide +kernel) rfl (all4 rfl rfl rfl o7.one) ?_
        intro w9 p9
        have x9 : Ext w w9 := (hxw.trans x68).move p9.mv (by rintro k ⟨⟩; exact Nat.le_refl _)
        have o9 : Own (w.heap.size + 1) 1 9 w9 y (tcells l[k].data) := o8.put p9 (by omega)
        repeat' (first | ((with_reducible refine o_s ?_); (first | (refine o_1 ?_; refine o_2 ?_) | (refine o_g ?_; first | refine o_u ?_ | refine o_k ?_ | refine o_n ?_ | refine o_v ?_ | ((first | refine o_G ?_ ?_ | refine o_N ?_ ?_) <;> intro hc)))) | ((fail_if_success (with_reducible refine o_s ?_)); go_step))
        refine bodyPost_ret (results_cellT (cs := [str l[k].name, .int .i64 l[k].kind, .int .i64 l[k].ttl, y]) rfl rfl p9.this (show aggTy Tryz.prog 35 4 = true by decide +kernel)) rfl ⟨_, rfl, x9, ?_⟩
        rw [hh]
        exact ⟨y, rfl, o9.weaken (by omega)⟩
      · exact ⟨⟨k + 1, by omega, rfl, by exact extc, find_take hlt hall (by have h2 := ‹¬l[k].kind = kd›; simp [hit, h2])⟩, by simp [intOf]; omega⟩
      · exact ⟨⟨k + 1, by omega, rfl, by exact extc, find_take hlt hall (by have h2 := ‹¬l[k].name = fold n›; simp [hit, h2])⟩, by simp [intOf]; omega⟩
    · have hk2 : k = l.length := by omega
      subst hk2
      rw [List.take_length] at hall
      repeat' (first | ((with_reducible refine o_s ?_); (first | (refine o_1 ?_; refine o_2 ?_) | (refine o_g ?_; first | refine o_u ?_ | refine o_k ?_ | refine o_n ?_ | refine o_v ?_ | ((first | refine o_G ?_ ?_ | refine o_N ?_ ?_) <;> intro hc)))) | ((fail_if_success (with_reducible refine o_s ?_)); go_step))
      refine wpl_run rfl (Runs.build0 (cells := zset.toArray) (by kernel_rfl)) ?_
      refine gset ?_
      refine wpl_storeB (v := .agg zset.toArray) rfl rfl rfl h3 (show sizeTy Tryz.prog 35 4 = true by decide +kernel) rfl (all4 rfl rfl rfl rfl) ?_
      intro w4 p4
      have x4 : Ext w w4 := hxw.move p4.mv (by rintro k ⟨⟩; exact Nat.le_refl _)
      repeat' (first | ((with_reducible refine o_s ?_); (first | (refine o_1 ?_; refine o_2 ?_) | (refine o_g ?_; first | refine o_u ?_ | refine o_k ?_ | refine o_n ?_ | refine o_v ?_ | ((first | refine o_G ?_ ?_ | refine o_N ?_ ?_) <;> intro hc)))) | ((fail_if_success (with_reducible refine o_s ?_)); go_step))
      refine bodyPost_ret (results_cellT (cs := zset) rfl rfl p4.this (by decide +kernel)) rfl ⟨_, rfl, x4, ?_⟩
      have hh : findS l n kd = none := hall
      rw [hh]
      rfl

end Go.Proofs.X
set_option linter.unusedSimpArgs false
set_option linter.unusedVariables false
namespace Go.Proofs.X
open Go.RowKit
set_option maxRecDepth 100000
/-! ### rrset.Records -/
def recOf (s : RSet) (d : List UInt8) : Rec := ⟨s.name, s.kind, s.ttl, d⟩
def recsOf (s : RSet) : List Rec := s.data.map (recOf s)
def recordsS (l : List RSet) : List Rec := (l.map recsOf).flatten
theorem flat_take_succ {α : Type} {L : List (List α)} {k : Nat} (h : k < L.length) : (L.take (k + 1)).flatten = (L.take k).flatten ++ L[k] := by
  rw [List.take_add_one, List.getElem?_eq_getElem h, List.flatten_append]
  simp
theorem map_take_succ {α β : Type} {f : α → β} {l : List α} {k : Nat} (h : k < l.length) : (l.take (k + 1)).map f = (l.take k).map f ++ [f l[k]] := by
  rw [List.take_add_one, List.getElem?_eq_getElem h, List.map_append]
  simp
theorem flat_take_le {α : Type} (L : List (List α)) (k : Nat) : (L.take k).flatten.length ≤ L.flatten.length := by
  conv => rhs; rw [← List.take_append_drop k L, List.flatten_append]
  simp
def recsP (l : List RSet) (k : Nat) : List Rec := ((l.take k).map recsOf).flatten
theorem recsP_succ {l : List RSet} {k : Nat} (h : k < l.length) : recsP l (k + 1) = recsP l k ++ recsOf l[k] := by
  rw [recsP, map_take_succ h, List.flatten_append]
  simp [recsP]
theorem recsP_le (l : List RSet) (k : Nat) : (recsP l k).length ≤ (recordsS l).length := by
  rw [recsP, recordsS, List.map_take]
  exact flat_take_le _ _
theorem recsP_all (l : List RSet) : recsP l l.length = recordsS l := by rw [recsP, List.take_length, recordsS]
set_option maxHeartbeats 2000000 in
theorem t10 (v : Value) (l : List RSet) (w : World) (hv : SetsAt w v l) (hb : (recordsS l).length ≤ 1000000) : Calls Tryz.prog 22 #[v] w (Ret w fun r w' => Own w.heap.size 4 66 w' r (rcells (recordsS l))) := by
  obtain ⟨cv, hv1, hvl⟩ := hv.sl
  have hle := hv1.le
  go_enter Tryz.func22, Tryz.ntmps22
  repeat' (first | ((with_reducible refine o_s ?_); (first | (refine o_1 ?_; refine o_2 ?_) | (refine o_g ?_; first | refine o_u ?_ | refine o_k ?_ | refine o_n ?_ | refine o_v ?_ | ((first | refine o_G ?_ ?_ | refine o_N ?_ ?_) <;> intro hc)))) | ((fail_if_success (with_reducible refine o_s ?_)); go_step))
  go_loopw [3, 5, 7, 10, 17] (fun o _ _ i _ wr => ∃ k : Nat, k ≤ l.length ∧ i = .int .i64 k ∧ Ext w wr ∧ Own w.heap.size 4 66 wr o (rcells (recsP l k))) (fun _ _ _ i _ _ => l.length - (intOf i).toNat)
  case atStart => exact ⟨0, Nat.zero_le _, rfl, Ext.refl _, Own.nil _ _ _ _⟩
  case round =>
    obtain ⟨k, hk, rfl, hx, ho⟩ := hrel
    have hv2 := hv1.ext hx
    by_cases hlt : k < l.length
    · obtain ⟨x, h4, h4d⟩ := hv.elem (List.getElem?_eq_getElem hlt)
      have hdl := tcells_length l[k].data
      have hdle := h4d.le
      have hlo := hx.size
      repeat' (first | ((with_reducible refine o_s ?_); (first | (refine o_1 ?_; refine o_2 ?_) | (refine o_g ?_; first | refine o_u ?_ | refine o_k ?_ | refine o_n ?_ | refine o_v ?_ | ((first | refine o_G ?_ ?_ | refine o_N ?_ ?_) <;> intro hc)))) | ((fail_if_success (with_reducible refine o_s ?_)); go_step))
      refine wpl_allocB (z := zset) rfl (by decide +kernel) ?_
      intro w5 x5 s5 h5
      repeat' (first | ((with_reducible refine o_s ?_); (first | (refine o_1 ?_; refine o_2 ?_) | (refine o_g ?_; first | refine o_u ?_ | refine o_k ?_ | refine o_n ?_ | refine o_v ?_ | ((first | refine o_G ?_ ?_ | refine o_N ?_ ?_) <;> intro hc)))) | ((fail_if_success (with_reducible refine o_s ?_)); go_step))
      refine wpl_storeB (v := .agg #[str l[k].name, .int .i64 l[k].kind, .int .i64 l[k].ttl, x]) rfl rfl rfl h5 (show sizeTy Tryz.prog 35 4 = true by decide +kernel) rfl (all4 rfl rfl rfl h4d.one) ?_
      intro w6 p6
      have x6 : Ext wr w6 := x5.move p6.mv (by rintro k ⟨⟩; exact Nat.le_refl _)
      have b6 : w6.heap[wr.heap.size]? = some (.cells [str l[k].name, .int .i64 l[k].kind, .int .i64 l[k].ttl, x].toArray 35 (0, 0)) := p6.this
      have z6 : wr.heap.size < w6.heap.size := by have := p6.size; omega
      have o6 := ho.ext x6
      have xw6 := hx.trans x6
      have hne6 : u3.ownBlock ≠ some wr.heap.size := fun e => by have := ho.block _ e; omega
      clear p6 h5 x5 s5
      have hp6 := pts_block b6
      repeat' (first | ((with_reducible refine o_s ?_); (first | (refine o_1 ?_; refine o_2 ?_) | (refine o_g ?_; first | refine o_u ?_ | refine o_k ?_ | refine o_n ?_ | refine o_v ?_ | ((first | refine o_G ?_ ?_ | refine o_N ?_ ?_) <;> intro hc)))) | ((fail_if_success (with_reducible refine o_s ?_)); go_step))
      clear hp6
      generalize wr.heap.size = b at b6 z6 hne6 hlo ⊢
      go_loopw [3, 7, 17] (fun o _ i wq => ∃ j : Nat, j ≤ l[k].data.length ∧ i = .int .i64 j ∧ Ext w wq ∧ b < wq.heap.size ∧ wq.heap[b]? = some (.cells [str l[k].name, .int .i64 l[k].kind, .int .i64 l[k].ttl, x].toArray 35 (0, 0)) ∧ o.ownBlock ≠ some b ∧ Own w.heap.size 4 66 wq o (rcells (recsP l k ++ (l[k].data.take j).map (recOf l[k])))) (fun _ _ i _ => l[k].data.length - (intOf i).toNat)
      case atStart => exact ⟨0, Nat.zero_le _, rfl, xw6, z6, b6, hne6, by simpa using o6⟩
      case round =>
        obtain ⟨j, hj, rfl, hxq, hz, hbq, hne, hoq⟩ := hrel
        have hpq := pts_block hbq
        by_cases hlt2 : j < l[k].data.length
        · have h3 := h4d.elem (tcells_at hlt2)
          have hle1 := recsP_le l (k + 1)
          rw [recsP_succ hlt, List.length_append] at hle1
          have hle2 : (recsOf l[k]).length = l[k].data.length := by simp [recsOf]
          have hcl : (rcells (recsP l k ++ (l[k].data.take j).map (recOf l[k]))).length = (recsP l k).length + j := by simp [rcells]; omega
          repeat' (first | ((with_reducible refine o_s ?_); (first | (refine o_1 ?_; refine o_2 ?_) | (refine o_g ?_; first | refine o_u ?_ | refine o_k ?_ | refine o_n ?_ | refine o_v ?_ | ((first | refine o_G ?_ ?_ | refine o_N ?_ ?_) <;> intro hc)))) | ((fail_if_success (with_reducible refine o_s ?_)); go_step))
          refine wpl_callV (enters_of Tryz.func57 rfl rfl) rfl rfl (t22 l[k] x l[k].data[j] _) ?_; intro w7 x7; refine gset ?_
          repeat' (first | ((with_reducible refine o_s ?_); (first | (refine o_1 ?_; refine o_2 ?_) | (refine o_g ?_; first | refine o_u ?_ | refine o_k ?_ | refine o_n ?_ | refine o_v ?_ | ((first | refine o_G ?_ ?_ | refine o_N ?_ ?_) <;> intro hc)))) | ((fail_if_success (with_reducible refine o_s ?_)); go_step))
          refine wpl_slice (e := 66) (k := 4) (bytes := 48) (xs := [.agg #[str l[k].name, .int .i64 l[k].kind, .int .i64 l[k].ttl, str l[k].data[j]]]) rfl rfl rfl (by simp [Value.cells]) (by decide +kernel) (by simp) ?_
          intro v8 w8 x8 s8 sl8 _
          refine gset ?_
          repeat' (first | ((with_reducible refine o_s ?_); (first | (refine o_1 ?_; refine o_2 ?_) | (refine o_g ?_; first | refine o_u ?_ | refine o_k ?_ | refine o_n ?_ | refine o_v ?_ | ((first | refine o_G ?_ ?_ | refine o_N ?_ ?_) <;> intro hc)))) | ((fail_if_success (with_reducible refine o_s ?_)); go_step))
          refine wpl_appendK (B := w.heap.size) (e := 66) (k := 4) (bytes := 48) rfl (hoq.ext (x7.trans x8)) rfl sl8 (by decide +kernel) (by simp [Value.cells, str, Value.oneCell']) (by have := hxq.size; have := x7.size; omega) (by rw [hcl]; simp; omega) (by rw [hcl]; simp; omega) ?_
          intro v9 w9 o9 m9 k9
          have hb8 := (x7.trans x8).at hbq
          have hb9 := m9.at hb8 (fun e => hne e.symm)
          have x9 : Ext w w9 := (hoq.ext (x7.trans x8)).mvx m9 (hxq.trans (x7.trans x8)) (Nat.le_refl _)
          repeat' (first | ((with_reducible refine o_s ?_); (first | (refine o_1 ?_; refine o_2 ?_) | (refine o_g ?_; first | refine o_u ?_ | refine o_k ?_ | refine o_n ?_ | refine o_v ?_ | ((first | refine o_G ?_ ?_ | refine o_N ?_ ?_) <;> intro hc)))) | ((fail_if_success (with_reducible refine o_s ?_)); go_step))
          refine ⟨⟨j + 1, by omega, rfl, x9, ?_, hb9, ?_, ?_⟩, by simp [intOf]; omega⟩
          · have := x7.size; have := x8.size; have := m9.size; omega
          · rcases k9 with h | h
            · rw [h]; exact hne
            · rw [h]; intro e; have := Option.some.inj e; have := x7.size; omega
          · rw [map_take_succ hlt2, ← List.append_assoc]
            simpa [rcells, recOf, Rec.cells, Value.cells] using o9
        · have hj2 : j = l[k].data.length := by omega
          subst hj2
          repeat' (first | ((with_reducible refine o_s ?_); (first | (refine o_1 ?_; refine o_2 ?_) | (refine o_g ?_; first | refine o_u ?_ | refine o_k ?_ | refine o_n ?_ | refine o_v ?_ | ((first | refine o_G ?_ ?_ | refine o_N ?_ ?_) <;> intro hc)))) | ((fail_if_success (with_reducible refine o_s ?_)); go_step))
          exact ⟨⟨k + 1, by omega, rfl, hxq, by rw [recsP_succ hlt]; rw [List.take_length] at hoq; exact hoq⟩, by simp [intOf]; omega⟩
    · have hk2 : k = l.length := by omega
      subst hk2
      repeat' (first | ((with_reducible refine o_s ?_); (first | (refine o_1 ?_; refine o_2 ?_) | (refine o_g ?_; first | refine o_u ?_ | refine o_k ?_ | refine o_n ?_ | refine o_v ?_ | ((first | refine o_G ?_ ?_ | refine o_N ?_ ?_) <;> intro hc)))) | ((fail_if_success (with_reducible refine o_s ?_)); go_step))
      go_ret
      refine ⟨_, rfl, hx, ?_⟩
      rw [recsP_all] at ho
      exact ho

end Go.Proofs.X
