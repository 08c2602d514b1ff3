/- Laws and walks that the proof of the statement is made of (part 13). -/
import Derived.Test.YtedoaagdhcimiaaGreatProg
import Derived.Lib.Hide
import Derived.Laws.Pointers
import Derived.Test.YtedoaagdhcimiaaGreatShelf
import Derived.Shelf.SlSortCmp.NoneTotal
import Derived.OwnWalk
import Derived.Shelf.RegionOpenPlain
import Derived.Lib.Strings
import Derived.Lib.Slices
import Derived.Lib.Walk
import Derived.Lib.Builder
import Derived.Lib.AppendStr
import Derived.Lib.UnsafeStr
import Derived.Lib.MakeNoZero
import Derived.WalkKit
import Derived.Laws.Externs
import Derived.Laws.IdiomCopy
import Derived.Laws.BitsLemmas
import GoSem.Claims
import Derived.OrdersIn
import Derived.LoopIn
import Derived.WalkMore
import Derived.ScopeJumps
import Derived.Test.YtedoaagdhcimiaaGreatRows
import Derived.ProofKit
import Derived.OpenShut
import Derived.ShutString
import Derived.ChangeOld
import Derived.Below
import Derived.Test.YtedoaagdhcimiaaGreatP1
import Derived.Test.YtedoaagdhcimiaaGreatP2
import Derived.Test.YtedoaagdhcimiaaGreatP4
import Derived.Test.YtedoaagdhcimiaaGreatP5
import Derived.Test.YtedoaagdhcimiaaGreatP7
import Derived.Test.YtedoaagdhcimiaaGreatP8
import Derived.Test.YtedoaagdhcimiaaGreatP9
import Derived.Test.YtedoaagdhcimiaaGreatP10
import Derived.Test.YtedoaagdhcimiaaGreatP11
import Derived.Test.YtedoaagdhcimiaaGreatP12
set_option linter.unusedSimpArgs false
set_option linter.unusedVariables false
namespace Go.Proofs.X
open Go.RowKit
set_option maxRecDepth 100000
def flo (s q : Nat) : Nat := s * (q / s)
theorem flo_le (s q : Nat) : flo s q ≤ q := Nat.mul_div_le q s
theorem flo_at {s q k : Nat} (hs : 0 < s) (h1 : s * k ≤ q) (h2 : q < s * k + s) : flo s q = s * k := by
  have : q / s = k := by
    refine Nat.div_eq_of_lt_le ?_ ?_
    · rw [Nat.mul_comm]; exact h1
    · rw [Nat.mul_comm, Nat.mul_succ]; exact h2
  rw [flo, this]
theorem flo_two {s q a k : Nat} (hs : 0 < s) (ha : a = 2 * s * k) (h1 : a ≤ q) (h2 : q < a + 2 * s) : flo (2 * s) q = a ∧ (q < a + s → flo s q = a) ∧ (a + s ≤ q → flo s q = a + s) := by
  have e1 : s * (2 * k) = a := by rw [ha, ← Nat.mul_assoc, Nat.mul_comm s 2]
  have e2 : s * (2 * k + 1) = a + s := by rw [Nat.mul_succ, e1]
  refine ⟨by rw [ha]; exact flo_at (by omega) (by omega) (by omega), fun h => ?_, fun h => ?_⟩
  · rw [← e1]; exact flo_at hs (by omega) (by omega)
  · rw [← e2]; exact flo_at hs (by omega) (by omega)
theorem flo_zero {s q : Nat} (h : q < s) : flo s q = 0 := by rw [flo, Nat.div_eq_of_lt h, Nat.mul_zero]
def midQ (N s a q : Nat) : Nat := if q < N then (if q < a then flo (2 * s) q else flo s q) else q
theorem midQ_pre {N s a k q b : Nat} (hs : 0 < s) (ha : a = 2 * s * k) (hb : b ≤ a + 2 * s) (hbN : b ≤ N) (h1 : a ≤ midQ N s a q) (h2 : midQ N s a q < b) : midQ N s a q = a ∨ midQ N s a q = a + s := by
  have h2q := flo_le (2 * s) q
  have hfar : a + 2 * s ≤ q → a + 2 * s ≤ flo s q := fun h => by
    have e : a + 2 * s = s * (2 * (k + 1)) := by rw [ha, ← Nat.mul_assoc, Nat.mul_comm s 2, Nat.mul_succ]
    rw [e] at h ⊢
    exact Nat.mul_le_mul_left s ((Nat.le_div_iff_mul_le hs).2 (by rw [Nat.mul_comm]; exact h))
  unfold midQ at h1 h2 ⊢
  by_cases c1 : q < N
  · rw [if_pos c1] at h1 h2 ⊢
    by_cases c2 : q < a
    · rw [if_pos c2] at h1; omega
    · rw [if_neg c2] at h1 h2 ⊢
      by_cases c3 : q < a + 2 * s
      · have := flo_two hs ha (by omega) c3
        by_cases c4 : q < a + s
        · exact .inl (this.2.1 c4)
        · exact .inr (this.2.2 (by omega))
      · have := hfar (by omega); omega
  · rw [if_neg c1] at h2; omega
theorem midQ_post {N s a k q : Nat} (hs : 0 < s) (ha : a = 2 * s * k) (hN : a + s < N) : symQ a (a + s) (midQ N s a q) = midQ N s (a + 2 * s) q := by
  have h2q := flo_le (2 * s) q
  have hfar : a + 2 * s ≤ q → a + 2 * s ≤ flo s q := fun h => by
    have e : a + 2 * s = s * (2 * (k + 1)) := by rw [ha, ← Nat.mul_assoc, Nat.mul_comm s 2, Nat.mul_succ]
    rw [e] at h ⊢
    exact Nat.mul_le_mul_left s ((Nat.le_div_iff_mul_le hs).2 (by rw [Nat.mul_comm]; exact h))
  unfold midQ symQ
  by_cases c1 : q < N
  · simp only [if_pos c1]
    by_cases c2 : q < a
    · rw [if_pos c2, if_neg (by omega), if_pos (by omega)]
    · rw [if_neg c2]
      by_cases c3 : q < a + 2 * s
      · have := flo_two hs ha (by omega) c3
        rw [if_pos c3, this.1]
        by_cases c4 : q < a + s
        · rw [this.2.1 c4, if_neg (by omega)]
        · rw [this.2.2 (by omega), if_pos rfl]
      · have := hfar (by omega)
        rw [if_neg c3, if_neg (by omega)]
  · simp only [if_neg c1]
    rw [if_neg (by omega)]
theorem midQ_end {N s a k q : Nat} (hs : 0 < s) (ha : a = 2 * s * k) (hN : N ≤ a + s) : midQ N s a q = if q < N then flo (2 * s) q else q := by
  unfold midQ
  by_cases c1 : q < N
  · rw [if_pos c1, if_pos c1]
    by_cases c2 : q < a
    · rw [if_pos c2]
    · rw [if_neg c2]
      have := flo_two (q := q) hs ha (by omega) (by omega)
      rw [this.1, this.2.1 (by omega)]
  · rw [if_neg c1, if_neg c1]
theorem midQ_all {N s a q : Nat} (h : N ≤ a) : midQ N s a q = if q < N then flo (2 * s) q else q := by
  unfold midQ
  by_cases c1 : q < N
  · rw [if_pos c1, if_pos c1, if_pos (by omega)]
  · rw [if_neg c1, if_neg c1]
theorem midQ_none {N s q : Nat} : midQ N s 0 q = if q < N then flo s q else q := by
  unfold midQ
  rw [if_neg (Nat.not_lt_zero q)]
set_option maxHeartbeats 8000000 in
theorem p_stable {B : Nat} (v : Value) (x : Option Rec) (os : List Rec) (q : Nat) (w : World) (hS : Sx x os q) (ho : Own B 4 81 w v (rcells (stR x os q))) (hl : stN x os ≤ 1000000) :
    Calls Tryz.prog 193 #[v, .int .i64 (stN x os), cmpV] w fun e w' => e = .returned (.tuple #[]) ∧ Own B 4 81 w' v (rcells (stR x os (if q < stN x os then 0 else q))) ∧ Mv v.ownBlock w w' := by
  generalize hN : stN x os = N at *
  unfold cmpV
  go_enter Tryz.func193, Tryz.ntmps193
  repeat' (first | ((with_reducible refine nx0 ?_); go_step) | ((with_reducible refine o_s ?_); first | refine wk0 ?_ | (refine wg0 ?_ ?_ <;> intro hc)) | fail)
  go_loopw [7, 8] (fun i j wr => ∃ a k : Nat, a = 20 * k ∧ a ≤ N ∧ i = .int .i64 a ∧ j = .int .i64 ((a + 20 : Nat) : Int) ∧ Own B 4 81 wr v (rcells (stR x os (if q < a then flo 20 q else q))) ∧ Mv v.ownBlock w wr) (fun i _ _ => N - (intOf i).toNat)
  case atStart => exact ⟨0, 0, rfl, Nat.zero_le _, rfl, rfl, by rw [if_neg (by omega)]; exact ho, Mv.refl _ _⟩
  case round =>
    obtain ⟨a, k, ha, haN, rfl, rfl, ho1, m1⟩ := hrel
    have hflq := flo_le 20 q
    have hS1 : Sx x os (if q < a then flo 20 q else q) := by
      split
      · exact hS.to (by omega) (by omega)
      · exact hS
    by_cases hbn : a + 20 ≤ N
    · repeat' (first | ((with_reducible refine nx0 ?_); go_step) | ((with_reducible refine o_s ?_); first | refine wk0 ?_ | (refine wg0 ?_ ?_ <;> intro hc)) | fail)
      refine wpl_callG (enters_of Tryz.func247 rfl rfl) rfl rfl (p_insertion v x os _ a (a + 20) wr hS1 ho1 (by omega) (by omega) (by omega)) ?_; rintro _ w5 ⟨rfl, o5, m5⟩; refine ⟨_, rfl, ?_⟩; refine gset ?_
      have e : insQ a (a + 20) (if q < a then flo 20 q else q) = if q < a + 20 then flo 20 q else q := by
        unfold insQ
        by_cases c1 : q < a
        · rw [if_pos c1, if_neg (by omega), if_pos (by omega)]
        · rw [if_neg c1]
          by_cases c2 : q < a + 20
          · rw [if_pos ⟨by omega, c2⟩, if_pos c2, ha]
            exact (flo_at (by omega) (by omega) (by omega)).symm
          · rw [if_neg (by omega), if_neg c2]
      rw [e] at o5
      repeat' (first | ((with_reducible refine nx0 ?_); go_step) | ((with_reducible refine o_s ?_); first | refine wk0 ?_ | (refine wg0 ?_ ?_ <;> intro hc)) | fail)
      exact ⟨⟨a + 20, k + 1, by omega, hbn, rfl, by go_num, o5, m1.trans m5⟩, by simp [intOf]; omega⟩
    · repeat' (first | ((with_reducible refine nx0 ?_); go_step) | ((with_reducible refine o_s ?_); first | refine wk0 ?_ | (refine wg0 ?_ ?_ <;> intro hc)) | fail)
      refine wpl_callG (enters_of Tryz.func247 rfl rfl) rfl rfl (p_insertion v x os _ a N wr hS1 ho1 (by omega) (by omega) (by omega)) ?_; rintro _ w5 ⟨rfl, o5, m5⟩; refine ⟨_, rfl, ?_⟩; refine gset ?_
      have e : insQ a N (if q < a then flo 20 q else q) = if q < N then flo 20 q else q := by
        unfold insQ
        by_cases c1 : q < a
        · rw [if_pos c1, if_neg (by omega), if_pos (by omega)]
        · rw [if_neg c1]
          by_cases c2 : q < N
          · rw [if_pos ⟨by omega, c2⟩, if_pos c2, ha]
            exact (flo_at (by omega) (by omega) (by omega)).symm
          · rw [if_neg (by omega), if_neg c2]
      rw [e] at o5
      have m5 := m1.trans m5
      clear ho1 m1 e hS1 ha haN hbn
      repeat' (first | ((with_reducible refine nx0 ?_); go_step) | ((with_reducible refine o_s ?_); first | refine wk0 ?_ | (refine wg0 ?_ ?_ <;> intro hc)) | fail)
      go_loopw [6, 7, 8, 9] (fun z _ _ _ wr => ∃ s : Nat, 20 ≤ s ∧ s ≤ 2000000 ∧ z = .int .i64 s ∧ Own B 4 81 wr v (rcells (stR x os (if q < N then flo s q else q))) ∧ Mv v.ownBlock w wr) (fun z _ _ _ _ => N - (intOf z).toNat)
      case atStart => exact ⟨20, Nat.le_refl _, by omega, rfl, o5, m5⟩
      case round =>
        obtain ⟨s, hs, hs2, rfl, ho1, m1⟩ := hrel
        have hsq := flo_le s q
        by_cases hsN : s < N
        · repeat' (first | ((with_reducible refine nx0 ?_); go_step) | ((with_reducible refine o_s ?_); first | refine wk0 ?_ | (refine wg0 ?_ ?_ <;> intro hc)) | fail)
          rw [show (2 : Int) * (s : Int) = ((2 * s : Nat) : Int) by omega]
          go_loopw [7, 8] (fun i j w2 => ∃ a k : Nat, a = 2 * s * k ∧ a ≤ N ∧ i = .int .i64 a ∧ j = .int .i64 ((a + 2 * s : Nat) : Int) ∧ Own B 4 81 w2 v (rcells (stR x os (midQ N s a q))) ∧ Mv v.ownBlock w w2) (fun i _ _ => N - (intOf i).toNat)
          case atStart => exact ⟨0, 0, rfl, Nat.zero_le _, rfl, by rw [Nat.zero_add], by rw [midQ_none]; exact ho1, m1⟩
          case round =>
            obtain ⟨a, k, ha, haN, rfl, rfl, ho2, m2⟩ := hrel
            have h2q := flo_le (2 * s) q
            have hS2 : Sx x os (midQ N s a q) := by
              unfold midQ
              split
              · refine hS.to (by omega) ?_
                split <;> omega
              · exact hS
            by_cases hbn : a + 2 * s ≤ N
            · repeat' (first | ((with_reducible refine nx0 ?_); go_step) | ((with_reducible refine o_s ?_); first | refine wk0 ?_ | (refine wg0 ?_ ?_ <;> intro hc)) | fail)
              refine wpl_callG (enters_of Tryz.func248 rfl rfl) rfl rfl (p_sym v x os (by omega) _ a (a + s) (a + 2 * s) _ wr (by omega) (by omega) (by omega) (Nat.le_refl _) hS2 (midQ_pre (by omega) ha (Nat.le_refl _) hbn) ho2) ?_; rintro _ w6 ⟨rfl, o6, m6⟩; refine ⟨_, rfl, ?_⟩; refine gset ?_
              rw [midQ_post (by omega) ha (by omega)] at o6
              repeat' (first | ((with_reducible refine nx0 ?_); go_step) | ((with_reducible refine o_s ?_); first | refine wk0 ?_ | (refine wg0 ?_ ?_ <;> intro hc)) | fail)
              exact ⟨⟨a + 2 * s, k + 1, by rw [ha, Nat.mul_succ], hbn, rfl, by rw [show ((a + 2 * s : Nat) : Int) + 2 * (s : Int) = ((a + 2 * s + 2 * s : Nat) : Int) by omega], o6, m2.trans m6⟩, by simp [intOf]; omega⟩
            · repeat' (first | ((with_reducible refine nx0 ?_); go_step) | ((with_reducible refine o_s ?_); first | refine wk0 ?_ | (refine wg0 ?_ ?_ <;> intro hc)) | fail)
              · have hm : a + s < N := by
                  have := ‹(a : Int) + (s : Int) < (N : Int)›
                  omega
                refine wpl_callG (enters_of Tryz.func248 rfl rfl) rfl rfl (p_sym v x os (by omega) _ a (a + s) N _ wr (by omega) hm (by omega) (Nat.le_refl _) hS2 (midQ_pre (by omega) ha (by omega) (Nat.le_refl _)) ho2) ?_; rintro _ w6 ⟨rfl, o6, m6⟩; refine ⟨_, rfl, ?_⟩; refine gset ?_
                rw [midQ_post (by omega) ha hm, midQ_all (by omega)] at o6
                repeat' (first | ((with_reducible refine nx0 ?_); go_step) | ((with_reducible refine o_s ?_); first | refine wk0 ?_ | (refine wg0 ?_ ?_ <;> intro hc)) | fail)
                exact ⟨⟨2 * s, by omega, by omega, by rw [show (s : Int) * 2 = ((2 * s : Nat) : Int) by omega], o6, m2.trans m6⟩, by simp [intOf]; omega⟩
              · have hm : N ≤ a + s := by
                  have := ‹(N : Int) ≤ (a : Int) + (s : Int)›
                  omega
                rw [midQ_end (by omega) ha hm] at ho2
                exact ⟨⟨2 * s, by omega, by omega, by rw [show (s : Int) * 2 = ((2 * s : Nat) : Int) by omega], ho2, m2⟩, by simp [intOf]; omega⟩
        · repeat' (first | ((with_reducible refine nx0 ?_); go_step) | ((with_reducible refine o_s ?_); first | refine wk0 ?_ | (refine wg0 ?_ ?_ <;> intro hc)) | fail)
          go_end0
          have e : (if q < N then flo s q else q) = if q < N then 0 else q := by
            by_cases c : q < N
            · rw [if_pos c, if_pos c, flo_zero (by omega)]
            · rw [if_neg c, if_neg c]
          rw [e] at ho1
          exact ⟨rfl, ho1, m1⟩
set_option maxHeartbeats 4000000 in
theorem p_SortStable {B : Nat} (v : Value) (x : Option Rec) (os : List Rec) (q : Nat) (w : World) (hS : Sx x os q) (ho : Own B 4 81 w v (rcells (stR x os q))) (hl : stN x os ≤ 1000000) :
    Calls Tryz.prog 132 #[v, cmpV] w fun e w' => e = .returned (.tuple #[]) ∧ Own B 4 81 w' v (rcells (stR x os (if q < stN x os then 0 else q))) ∧ Mv v.ownBlock w w' := by
  have hsl := ho.sl
  have hrl := rcells_length (stR x os q)
  have hDl := stR_len hS
  have hst := p_stable v x os q w hS ho hl
  unfold cmpV at hst ⊢
  go_enter Tryz.func132, Tryz.ntmps132
  (repeat' first | ((with_reducible refine nx0 ?_); go_step) | ((with_reducible refine o_s ?_); first | refine wk0 ?_ | (refine wg0 ?_ ?_ <;> intro hc)) | fail)
  rw [hrl, hDl]
  refine wpl_callG (enters_of Tryz.func193 rfl rfl) rfl rfl (hst) ?_; rintro _ w5 ⟨rfl, o5, m5⟩; refine ⟨_, rfl, ?_⟩; refine gset ?_
  (repeat' first | ((with_reducible refine nx0 ?_); go_step) | ((with_reducible refine o_s ?_); first | refine wk0 ?_ | (refine wg0 ?_ ?_ <;> intro hc)) | fail)
  go_end0
  exact ⟨rfl, o5, m5⟩
theorem one_st {D : List Rec} (h : (D.filter isSoaR).length ≤ 1) : ∃ x os q, Sx x os q ∧ stR x os q = D ∧ stN x os = D.length ∧ stR x os (if q < stN x os then 0 else q) = headR D := by
  rcases one_soa D h with h1 | ⟨os, q, r, h1, h2, h3, h4⟩
  · exact ⟨none, D, D.length, ⟨h1, fun r e => (by cases e), fun _ => Nat.le_refl _⟩, rfl, by simp [stN], (headR_none h1).symm⟩
  · have e : stN (some r) os = os.length + 1 := rfl
    refine ⟨some r, os, q, ⟨h4, fun r' e => ⟨by cases e; exact h3, h1⟩, fun e => by cases e⟩, h2.symm, by rw [e, h2, insAt_length h1], ?_⟩
    rw [e, if_pos (by omega), h2, headR_one h4 h3]
    rfl
theorem headR_len {D : List Rec} (h : (D.filter isSoaR).length ≤ 1) : (headR D).length = D.length := (headR_perm h).length_eq
theorem p_headed (v : Value) (D : List Rec) (w : World) (hv : Sl 4 w v (rcells D)) (h1 : (D.filter isSoaR).length ≤ 1) (hl : D.length ≤ 1000000) :
    Calls Tryz.prog 70 #[v] w (Ret w fun r w' => Own w.heap.size 4 81 w' r (rcells (headR D))) := by
  obtain ⟨x, os, q, hS, hD, hN, hH⟩ := one_st h1
  go_enter Tryz.func70, Tryz.ntmps70
  (repeat' first | ((with_reducible refine nx0 ?_); go_step) | ((with_reducible refine o_s ?_); first | refine wk0 ?_ | (refine wg0 ?_ ?_ <;> intro hc)) | fail)
  refine wpl_callR (enters_of Tryz.func101 rfl rfl) rfl rfl (p_CloneR v D w hv hl) ?_
  intro r w2 x2 o2
  refine gset ?_
  (repeat' first | ((with_reducible refine nx0 ?_); go_step) | ((with_reducible refine o_s ?_); first | refine wk0 ?_ | (refine wg0 ?_ ?_ <;> intro hc)) | fail)
  rw [← hD] at o2
  refine wpl_callG (enters_of Tryz.func132 rfl rfl) rfl rfl (p_SortStable r x os q w2 hS o2 (by omega)) ?_; rintro _ w5 ⟨rfl, o5, m5⟩; refine ⟨_, rfl, ?_⟩; refine gset ?_
  rw [hH] at o5
  (repeat' first | ((with_reducible refine nx0 ?_); go_step) | ((with_reducible refine o_s ?_); first | refine wk0 ?_ | (refine wg0 ?_ ?_ <;> intro hc)) | fail)
  go_ret
  exact ⟨_, rfl, o2.mvx m5 x2 (Nat.le_refl _), o5⟩
set_option maxHeartbeats 4000000 in
theorem p_Whole (o : List UInt8) (v : Value) (l : List RSet) (w : World) (hv : SetsAt w v l) (hb : ∀ s ∈ l, s.data.length ≤ 1000000) :
    Calls Tryz.prog 23 #[.agg #[str o, v]] w (Ret w fun r w' => ∃ y, r = .tuple #[y, .int .i64 (zoneR o l)] ∧ Own w.heap.size 4 81 w' y (rcells (wholeR o l))) := by
  go_enter Tryz.func23, Tryz.ntmps23
  repeat' (first | ((with_reducible refine nx0 ?_); go_step) | fail)
  refine wpl_box (vs := [str o, v]) rfl rfl ?_
  intro p w1 x1 hp
  refine gset ?_
  (repeat' first | ((with_reducible refine nx0 ?_); go_step) | ((with_reducible refine o_s ?_); first | refine wk0 ?_ | (refine wg0 ?_ ?_ <;> intro hc)) | fail)
  refine wpl_callV (enters_of Tryz.func39 rfl rfl) rfl rfl (p_Check o v l _ (hv.ext x1) hb) ?_; intro w2 x2; refine gset ?_
  have hx2 := x1.trans x2
  by_cases hz : zoneR o l = 0
  · have hz' : (!decide (zoneR o l = 0)) = false := by simp [hz]
    have hok := zone_ok hz
    obtain ⟨zl, zb, zd, zr⟩ := zoneJ hok
    obtain ⟨os, q, hr⟩ := hok.recs
    have hh := hr.head hok
    have h1 : ((recordsS l).filter isSoaR).length ≤ 1 := by
      have := filter_le hok (fun _ => true)
      have e : (recordsS l).filter (fun _ => true) = recordsS l := List.filter_eq_self.2 (by simp)
      rwa [e] at this
    have hhl := headR_len h1
    rw [hz]
    (repeat' first | ((with_reducible refine nx0 ?_); go_step) | ((with_reducible refine o_s ?_); first | refine wk0 ?_ | (refine wg0 ?_ ?_ <;> intro hc)) | fail)
    refine wpl_callR (enters_of Tryz.func71 rfl rfl) rfl rfl (t10 v l _ (hv.ext hx2) (by omega)) ?_
    intro r3 w3 x3 o3
    refine gset ?_
    (repeat' first | ((with_reducible refine nx0 ?_); go_step) | ((with_reducible refine o_s ?_); first | refine wk0 ?_ | (refine wg0 ?_ ?_ <;> intro hc)) | fail)
    refine wpl_callR (enters_of Tryz.func70 rfl rfl) rfl rfl (p_headed r3 _ w3 o3.sl h1 (by omega)) ?_
    intro r4 w4 x4 o4
    have hs4 := o4.sl
    have hhd : headOf (headR (recordsS l)) = soaRec o l := by rw [hh]; rfl
    have hr0 : (rcells (headR (recordsS l)))[0]? = some [str (soaRec o l).name, .int .i64 (soaRec o l).kind, .int .i64 (soaRec o l).ttl, str (soaRec o l).data] := by rw [hh]; rfl
    have hpe := hs4.elem hr0
    refine gset ?_
    (repeat' first | ((with_reducible refine nx0 ?_); go_step) | ((with_reducible refine o_s ?_); first | refine wk0 ?_ | (refine wg0 ?_ ?_ <;> intro hc)) | fail)
    refine wpl_run0 (Runs.idxW (n := 0) rfl hs4 (by rw [rcells_length, hh]; simp) (by decide +kernel)) ?_
    refine gset ?_
    (repeat' first | ((with_reducible refine nx0 ?_); go_step) | ((with_reducible refine o_s ?_); first | refine wk0 ?_ | (refine wg0 ?_ ?_ <;> intro hc)) | fail)
    have hB : w.heap.size ≤ w3.heap.size := (hx2.trans x3).size
    have hB4 := x4.size
    refine ap1 [str (soaRec o l).name, .int .i64 (soaRec o l).kind, .int .i64 (soaRec o l).ttl, str (soaRec o l).data] ((hx2.trans x3).trans x4) (o4.weaken hB) (by rw [rcells_length]; omega) ?_ (rec_elem rfl)
    intro s v' w5 w6 x5 m6 x6 o6
    refine gset ?_
    (repeat' first | ((with_reducible refine nx0 ?_); go_step) | ((with_reducible refine o_s ?_); first | refine wk0 ?_ | (refine wg0 ?_ ?_ <;> intro hc)) | fail)
    go_ret2
    refine ⟨_, rfl, x6, v', by rw [hz]; rfl, ?_⟩
    have e : rcells (wholeR o l) = rcells (headR (recordsS l)) ++ [[str (soaRec o l).name, .int .i64 (soaRec o l).kind, .int .i64 (soaRec o l).ttl, str (soaRec o l).data]] := by
      rw [wholeR, if_pos hz, hhd]
      simp [rcells, Rec.cells]
    rw [e]
    exact o6
  · have hz' : (!decide (zoneR o l = 0)) = true := by simp [hz]
    (repeat' first | ((with_reducible refine nx0 ?_); go_step) | ((with_reducible refine o_s ?_); first | refine wk0 ?_ | (refine wg0 ?_ ?_ <;> intro hc)) | fail)
    all_goals first
      | (exfalso
         have hh := ‹(!decide (zoneR o l = 0)) = false›
         rw [hz'] at hh
         cases hh
         done)
      | skip
    go_ret2
    exact ⟨_, rfl, hx2, _, rfl, by rw [wholeR, if_neg hz]; exact Own.nil _ _ _ _⟩
def whL : List Rec := [⟨[1, 97], 6, 9, simS⟩, ⟨[1, 97], 2, 9, [2, 110, 115, 1, 97, 0]⟩, ⟨[2, 110, 115, 1, 97], 1, 9, [49, 49, 49, 49]⟩, ⟨[1, 97], 6, 9, simS⟩]
theorem sl_wh : wholeR [1, 97] simZ = whL := by decide +kernel
theorem sl_Z : zoneR [1, 97] simZ = 0 := by decide +kernel
theorem sl_n7 : secE [1, 97] 7 = 0 := by decide +kernel
theorem sl_n0 : secE [0] 7 = 1 := by decide +kernel
def sA : SecR := secNew [1, 97] 7
def sB : SecR := sA.heard 5 0
def sC : SecR := sB.got whL 1
def sD : SecR := sC.notify 6 2
theorem sl_f1 : sA.wants 0 = 1 := by decide +kernel
theorem sl_f2 : sB.wants 0 = 2 := by decide +kernel
theorem sl_f3 : sB.gotE whL 1 = 0 := by decide +kernel
theorem sl_f4 : sC.o = [1, 97] := by decide +kernel
theorem sl_f5 : sC.l = simZ := by decide +kernel
theorem sl_f6 : sC.z.isSome = true := by decide +kernel
theorem sl_f7 : sC.wants 10 = 0 := by decide +kernel
theorem sl_f8 : sC.wants 11 = 1 := by decide +kernel
theorem sl_f9 : sD.wants 2 = 1 := by decide +kernel
theorem sl_g1 : sD.up 100 = true := by decide +kernel
theorem sl_g2 : sD.up 101 = false := by decide +kernel
theorem sl_okA : SecOk sA := SecOk.new sl_n7
theorem sl_okB : SecOk sB := sl_okA.heard 5 0
theorem sl_okC : SecOk sC := sl_okB.got whL 1
theorem SAt.wantsV {B : Nat} {w : World} {b : Nat} {s : SecR} {v now : Int} (h : SAt B w b s) (e : s.wants now = v) : Calls Tryz.prog 17 #[.pointer (some ⟨b, 0, none⟩), .int .i64 now] w (RetV w (.int .i64 v)) := e ▸ p_Wants h now
theorem SAt.upV {B : Nat} {w : World} {b : Nat} {s : SecR} {v : Bool} {now : Int} (h : SAt B w b s) (e : s.up now = v) : Calls Tryz.prog 36 #[.pointer (some ⟨b, 0, none⟩), .int .i64 now] w (RetV w (.bool v)) := e ▸ p_Up h now
theorem wh_b : ∀ q ∈ whL, q.data.length ≤ 1000000 := by decide +kernel
set_option maxHeartbeats 8000000 in
theorem l17_live (w : World) : Calls Tryz.prog 15 #[] w (Yes w) := by
  go_enter Tryz.func15, Tryz.ntmps15
  (repeat' first | ((with_reducible refine nx0 ?_); go_step) | ((with_reducible refine o_s ?_); first | refine wk1 ?_ | (refine wg0 ?_ ?_ <;> intro hc)) | fail)
  refine wpl_callR (enters_of Tryz.func22 rfl rfl) rfl rfl (p_Simple _) ?_
  intro v1 w1 x1 hv1
  refine gset ?_
  (repeat' first | ((with_reducible refine nx0 ?_); go_step) | ((with_reducible refine o_s ?_); first | refine wk1 ?_ | (refine wg0 ?_ ?_ <;> intro hc)) | fail)
  refine wpl_callR (enters_of Tryz.func21 rfl rfl) rfl rfl (p_Load [1, 97] v1 simR _ hv1 (by decide) sim_r) ?_
  rintro _ w2 x2 ⟨z, rfl, hz⟩
  rw [jl_E2, jl_O2]
  rw [jl_L2] at hz
  have hz := hz.sets
  have hz1 : z.oneCell' = true := by obtain ⟨css, h, _⟩ := hz; exact h.one
  have hx2 := x1.trans x2
  refine gset ?_
  (repeat' first | ((with_reducible refine nx0 ?_); go_step) | ((with_reducible refine o_s ?_); first | refine wk1 ?_ | (refine wg0 ?_ ?_ <;> intro hc)) | fail)
  refine wpl_allocB (z := zzone) rfl (by decide +kernel) ?_
  intro w3 x3 s3 h3
  refine gset ?_
  refine wpl_storeB (v := .agg #[str [1, 97], z]) rfl rfl rfl h3 (show sizeTy Tryz.prog 34 2 = true by decide +kernel) rfl (zone_one hz1) ?_
  intro w4 p4
  have x4 : Ext w2 w4 := x3.move p4.mv (by rintro k ⟨⟩; exact Nat.le_refl _)
  have hp4 := pts_block (cs := [str [1, 97], z]) p4.this
  have hz4 := hz.ext x4
  have hx4 := hx2.trans x4
  clear p4 h3 x3
  (repeat' first | ((with_reducible refine nx0 ?_); go_step) | ((with_reducible refine o_s ?_); first | refine wk1 ?_ | (refine wg0 ?_ ?_ <;> intro hc)) | fail)
  refine wpl_callR (enters_of Tryz.func23 rfl rfl) rfl rfl (p_Whole [1, 97] z simZ _ hz4 sim_b) ?_
  rintro _ w5 x5 ⟨y, rfl, hy⟩
  rw [sl_Z]
  rw [sl_wh] at hy
  have hy := hy.sl
  have hy1 := hy.one
  have hx5 := hx4.trans x5
  have hz5 := hz4.ext x5
  have hp5 := hp4.ext x5
  refine gset ?_
  (repeat' first | ((with_reducible refine nx0 ?_); go_step) | ((with_reducible refine o_s ?_); first | refine wk1 ?_ | (refine wg0 ?_ ?_ <;> intro hc)) | fail)
  refine wpl_callR (enters_of Tryz.func16 rfl rfl) rfl rfl (p_SecNew [1, 97] 7 _) ?_
  rintro _ w6 x6 ⟨p, rfl, hp⟩
  unfold secPE at hp
  rw [if_pos sl_n7] at hp
  obtain ⟨b, rfl, hb, hB, hA⟩ := hp
  rw [sl_n7]
  have hx6 := hx5.trans x6
  refine gset ?_
  (repeat' first | ((with_reducible refine nx0 ?_); go_step) | ((with_reducible refine o_s ?_); first | refine wk1 ?_ | (refine wg0 ?_ ?_ <;> intro hc)) | fail)
  refine wpl_callR (enters_of Tryz.func16 rfl rfl) rfl rfl (p_SecNew [0] 7 _) ?_
  rintro _ w7 x7 ⟨p7, rfl, hp7⟩
  unfold secPE at hp7
  rw [sl_n0, if_neg (by decide)] at hp7
  subst hp7
  rw [sl_n0]
  have hx7 := hx6.trans x7
  have hA7 := hA.grow x7
  refine gset ?_
  have hs7 := x7.size
  have hxz7 := x6.trans x7
  clear hp4 hz4
  change SAt w6.heap.size w7 b sA at hA7
  generalize w6.heap.size = B at *
  (repeat' first | ((with_reducible refine nx0 ?_); go_step) | ((with_reducible refine o_s ?_); first | refine wk1 ?_ | (refine wg0 ?_ ?_ <;> intro hc)) | fail)
  refine wpl_callV (enters_of Tryz.func17 rfl rfl) rfl rfl (hA7.wantsV sl_f1) ?_; intro w8 x8; refine gset ?_
  have hA8 := hA7.grow x8
  (repeat' first | ((with_reducible refine nx0 ?_); go_step) | ((with_reducible refine o_s ?_); first | refine wk1 ?_ | (refine wg0 ?_ ?_ <;> intro hc)) | fail)
  refine wpl_callG (enters_of Tryz.func18 rfl rfl) rfl rfl (p_Heard hA8 sl_okA 5 0) ?_; rintro _ w9 ⟨rfl, o9, m9⟩; refine ⟨_, rfl, ?_⟩; refine gset ?_
  have hA9 : SAt B w9 b sB := o9
  have x59 := (hxz7.trans x8).move m9 (by rintro k ⟨⟩; exact hB)
  (repeat' first | ((with_reducible refine nx0 ?_); go_step) | ((with_reducible refine o_s ?_); first | refine wk1 ?_ | (refine wg0 ?_ ?_ <;> intro hc)) | fail)
  refine wpl_callV (enters_of Tryz.func17 rfl rfl) rfl rfl (hA9.wantsV sl_f2) ?_; intro w10 x10; refine gset ?_
  have hA10 := hA9.grow x10
  have hB10 : B ≤ w10.heap.size := by have h1 := m9.size; have h2 := x8.size; have h3 := x10.size; omega
  have x510 := x59.trans x10
  (repeat' first | ((with_reducible refine nx0 ?_); go_step) | ((with_reducible refine o_s ?_); first | refine wk1 ?_ | (refine wg0 ?_ ?_ <;> intro hc)) | fail)
  refine wpl_callG (enters_of Tryz.func24 rfl rfl) rfl rfl (p_Got hA10 sl_okB hB10 y whL 1 (hy.ext x510) (by decide) wh_b) ?_
  rintro _ w11 ⟨rfl, o11, m11⟩
  refine ⟨_, rfl, ?_⟩
  rw [sl_f3]
  have hA11 : SAt B w11 b sC := o11
  have x511 := x510.move m11 (by rintro k ⟨⟩; exact hB)
  refine gset ?_
  (repeat' first | ((with_reducible refine nx0 ?_); go_step) | ((with_reducible refine o_s ?_); first | refine wk1 ?_ | (refine wg0 ?_ ?_ <;> intro hc)) | fail)
  refine wpl_callR (enters_of Tryz.func34 rfl rfl) rfl rfl (p_SecZone hA11 sl_okC) ?_
  rintro _ w12 x12 ⟨y2, rfl, hy2⟩
  rw [sl_f4, sl_f6]
  have hy2 := hy2.toO (Nat.le_refl _)
  rw [sl_f5] at hy2
  have hy21 : y2.oneCell' = true := by obtain ⟨css, h, _⟩ := hy2.sets; exact h.one
  have hA12 := hA11.grow x12
  have x512 := x511.trans x12
  refine gset ?_
  (repeat' first | ((with_reducible refine nx0 ?_); go_step) | ((with_reducible refine o_s ?_); first | refine wk1 ?_ | (refine wg0 ?_ ?_ <;> intro hc)) | fail)
  refine wpl_allocB (z := zzone) rfl (by decide +kernel) ?_
  intro w13 x13 s13 h13
  refine gset ?_
  refine wpl_storeB (v := .agg #[str [1, 97], y2]) rfl rfl rfl h13 (show sizeTy Tryz.prog 34 2 = true by decide +kernel) rfl (zone_one hy21) ?_
  intro w14 p14
  have x14 : Ext w12 w14 := x13.move p14.mv (by rintro k ⟨⟩; exact Nat.le_refl _)
  have hy14 := hy2.ext x14
  have hA14 := hA12.grow x14
  have x514 := x512.trans x14
  have hk14 := p14.this
  have h1112 := x12.size
  have hb11 : b < w11.heap.size := by have h1 := hA11.lt; have h2 := m11.size; omega
  have hbz : b < w12.heap.size := by omega
  clear p14 h13
  generalize w12.heap.size = zk at *
  (repeat' first | ((with_reducible refine nx0 ?_); go_step) | ((with_reducible refine o_s ?_); first | refine wk1 ?_ | (refine wg0 ?_ ?_ <;> intro hc)) | fail)
  refine wpl_callV (enters_of Tryz.func17 rfl rfl) rfl rfl (hA14.wantsV sl_f7) ?_; intro w15 x15; refine gset ?_
  have hA15 := hA14.grow x15
  (repeat' first | ((with_reducible refine nx0 ?_); go_step) | ((with_reducible refine o_s ?_); first | refine wk1 ?_ | (refine wg0 ?_ ?_ <;> intro hc)) | fail)
  refine wpl_callV (enters_of Tryz.func17 rfl rfl) rfl rfl (hA15.wantsV sl_f8) ?_; intro w16 x16; refine gset ?_
  have hA16 := hA15.grow x16
  have x1416 := x15.trans x16
  (repeat' first | ((with_reducible refine nx0 ?_); go_step) | ((with_reducible refine o_s ?_); first | refine wk1 ?_ | (refine wg0 ?_ ?_ <;> intro hc)) | fail)
  refine wpl_callG (enters_of Tryz.func20 rfl rfl) rfl rfl (p_Notify hA16 sl_okC 6 2) ?_; rintro _ w17 ⟨rfl, o17, m17⟩; refine ⟨_, rfl, ?_⟩; refine gset ?_
  have hA17 : SAt B w17 b sD := o17
  have hk17 := m17.at (x1416.at hk14) (by intro e; have := Option.some.inj e; omega)
  have hq17 := pts_block (cs := [str [1, 97], y2]) hk17
  have hy17 := ((hy14.ext x1416).mvb m17 hb11).sets
  have x517 := (x514.trans x1416).move m17 (by rintro k ⟨⟩; exact hB)
  have hp17 := hp5.ext x517
  have hz17 := hz5.ext x517
  (repeat' first | ((with_reducible refine nx0 ?_); go_step) | ((with_reducible refine o_s ?_); first | refine wk1 ?_ | (refine wg0 ?_ ?_ <;> intro hc)) | fail)
  refine wpl_callV (enters_of Tryz.func17 rfl rfl) rfl rfl (hA17.wantsV sl_f9) ?_; intro w18 x18; refine gset ?_
  have hA18 := hA17.grow x18
  have hp18 := hp17.ext x18
  have hq18 := hq17.ext x18
  (repeat' first | ((with_reducible refine nx0 ?_); go_step) | ((with_reducible refine o_s ?_); first | refine wk1 ?_ | (refine wg0 ?_ ?_ <;> intro hc)) | fail)
  refine wpl_callV (enters_of Tryz.func38 rfl rfl) rfl rfl (same_true (hy17.ext x18) (hz17.ext x18) rfl rfl) ?_; intro w19 x19; refine gset ?_
  have hA19 := hA18.grow x19
  (repeat' first | ((with_reducible refine nx0 ?_); go_step) | ((with_reducible refine o_s ?_); first | refine wk1 ?_ | (refine wg0 ?_ ?_ <;> intro hc)) | fail)
  refine wpl_callV (enters_of Tryz.func36 rfl rfl) rfl rfl (hA19.upV sl_g1) ?_; intro w20 x20; refine gset ?_
  have hA20 := hA19.grow x20
  (repeat' first | ((with_reducible refine nx0 ?_); go_step) | ((with_reducible refine o_s ?_); first | refine wk1 ?_ | (refine wg0 ?_ ?_ <;> intro hc)) | fail)
  refine wpl_callV (enters_of Tryz.func36 rfl rfl) rfl rfl (hA20.upV sl_g2) ?_; intro w21 x21; refine gset ?_
  (repeat' first | ((with_reducible refine nx0 ?_); go_step) | ((with_reducible refine o_s ?_); first | refine wk1 ?_ | (refine wg0 ?_ ?_ <;> intro hc)) | fail)
  go_ret
  exact ⟨rfl, ((((hx5.trans x517).trans x18).trans x19).trans x20).trans x21⟩
theorem l17_liveV (w : World) : Calls Tryz.prog 15 #[] w (RetV w (.bool true)) := l17_live w
theorem sw_new {retry : Int} (h1 : 1 ≤ retry) (h2 : retry ≤ 100000) : secE [1, 97] retry = 0 := by
  have : checkE [1, 97] = 0 := by decide +kernel
  unfold secE
  rw [if_neg (by omega)]
section
variable {retry n now : Int} (h1 : 1 ≤ retry) (h2 : retry ≤ 100000) (h3 : 0 ≤ n) (h4 : n ≤ 4294967295) (h5 : 0 ≤ now) (h6 : now ≤ 1000000)
include h5 h6
theorem sw_ok : okTime now = true := by simp [okTime]; omega
theorem sw_a : (secNew [1, 97] retry).wants now = 1 := by
  simp only [SecR.wants, sw_ok h5 h6, secNew]
  simp [h5]
include h3 h4
theorem sw_b : ((secNew [1, 97] retry).heard n now).wants now = 2 := by
  have e : okSer n = true := by simp [okSer]; omega
  simp [SecR.heard, SecR.wants, sw_ok h5 h6, e, SecR.news, secNew]
theorem sw_h : (secNew [1, 97] retry).heard n now = ⟨[1, 97], retry, none, now + retry, 0, true⟩ := by
  have e : okSer n = true := by simp [okSer]; omega
  simp [SecR.heard, sw_ok h5 h6, e, SecR.news, secNew, SecR.soa]
theorem sw_f : ((secNew [1, 97] retry).heard n now).failed now = ⟨[1, 97], retry, none, now + retry, 0, false⟩ := by
  rw [sw_h h3 h4 h5 h6]
  simp [SecR.failed, sw_ok h5 h6, SecR.soa]
include h1 h2
theorem sw_c : (((secNew [1, 97] retry).heard n now).failed now).wants (now + retry - 1) = 0 := by
  rw [sw_f h3 h4 h5 h6]
  have e : okTime (now + retry - 1) = true := by simp [okTime]; omega
  simp [SecR.wants, e]
  omega
theorem sw_d : (((secNew [1, 97] retry).heard n now).failed now).wants (now + retry) = 1 := by
  rw [sw_f h3 h4 h5 h6]
  have e : okTime (now + retry) = true := by simp [okTime]; omega
  simp [SecR.wants, e]
theorem sw_e : ((((secNew [1, 97] retry).heard n now).failed now).notify n now).wants now = 1 := by
  rw [sw_f h3 h4 h5 h6]
  have e : okSer n = true := by simp [okSer]; omega
  simp [SecR.notify, SecR.wants, sw_ok h5 h6, e, SecR.news]
  omega
end
set_option maxHeartbeats 8000000 in
theorem l17_Wants (retry n now : Int) (w : World) : Calls Tryz.prog 3 #[.int .i64 retry, .int .i64 n, .int .i64 now] w (Yes w) := by
  go_enter Tryz.func3, Tryz.ntmps3
  by_cases hall : 1 ≤ retry ∧ retry ≤ 100000 ∧ 0 ≤ n ∧ n ≤ 4294967295 ∧ 0 ≤ now ∧ now ≤ 1000000
  · obtain ⟨h1, h2, h3, h4, h5, h6⟩ := hall
    (repeat' first | ((with_reducible refine nx0 ?_); go_step) | ((with_reducible refine o_s ?_); first | refine wk1 ?_ | (refine wg0 ?_ ?_ <;> intro hc)) | fail)
    all_goals first
      | (exfalso; omega)
      | skip
    refine wpl_callR (enters_of Tryz.func16 rfl rfl) rfl rfl (p_SecNew [1, 97] retry _) ?_
    rintro _ w1 x1 ⟨p, rfl, hp⟩
    unfold secPE at hp
    rw [if_pos (sw_new h1 h2)] at hp
    obtain ⟨b, rfl, hb, hB, hA⟩ := hp
    rw [sw_new h1 h2]
    have hok : SecOk (secNew [1, 97] retry) := SecOk.new (sw_new h1 h2)
    generalize w1.heap.size = B at *
    refine gset ?_
    (repeat' first | ((with_reducible refine nx0 ?_); go_step) | ((with_reducible refine o_s ?_); first | refine wk1 ?_ | (refine wg0 ?_ ?_ <;> intro hc)) | fail)
    refine wpl_callV (enters_of Tryz.func17 rfl rfl) rfl rfl (hA.wantsV (sw_a h5 h6)) ?_; intro w2 x2; refine gset ?_
    have hA2 := hA.grow x2
    have X2 := x1.trans x2
    (repeat' first | ((with_reducible refine nx0 ?_); go_step) | ((with_reducible refine o_s ?_); first | refine wk1 ?_ | (refine wg0 ?_ ?_ <;> intro hc)) | fail)
    refine wpl_callG (enters_of Tryz.func18 rfl rfl) rfl rfl (p_Heard hA2 hok n now) ?_; rintro _ w3 ⟨rfl, o3, m3⟩; refine ⟨_, rfl, ?_⟩; refine gset ?_
    have X3 := X2.move m3 (by rintro k ⟨⟩; exact hB)
    have hok3 := hok.heard n now
    (repeat' first | ((with_reducible refine nx0 ?_); go_step) | ((with_reducible refine o_s ?_); first | refine wk1 ?_ | (refine wg0 ?_ ?_ <;> intro hc)) | fail)
    refine wpl_callV (enters_of Tryz.func17 rfl rfl) rfl rfl (o3.wantsV (sw_b h3 h4 h5 h6)) ?_; intro w4 x4; refine gset ?_
    have hA4 := o3.grow x4
    (repeat' first | ((with_reducible refine nx0 ?_); go_step) | ((with_reducible refine o_s ?_); first | refine wk1 ?_ | (refine wg0 ?_ ?_ <;> intro hc)) | fail)
    refine wpl_callG (enters_of Tryz.func19 rfl rfl) rfl rfl (p_Failed hA4 hok3 now) ?_; rintro _ w5 ⟨rfl, o5, m5⟩; refine ⟨_, rfl, ?_⟩; refine gset ?_
    have X5 := (X3.trans x4).move m5 (by rintro k ⟨⟩; exact hB)
    have hok5 := hok3.failed now
    (repeat' first | ((with_reducible refine nx0 ?_); go_step) | ((with_reducible refine o_s ?_); first | refine wk1 ?_ | (refine wg0 ?_ ?_ <;> intro hc)) | fail)
    refine wpl_callV (enters_of Tryz.func17 rfl rfl) rfl rfl (o5.wantsV (sw_c h1 h2 h3 h4 h5 h6)) ?_; intro w6 x6; refine gset ?_
    have hA6 := o5.grow x6
    (repeat' first | ((with_reducible refine nx0 ?_); go_step) | ((with_reducible refine o_s ?_); first | refine wk1 ?_ | (refine wg0 ?_ ?_ <;> intro hc)) | fail)
    refine wpl_callV (enters_of Tryz.func17 rfl rfl) rfl rfl (hA6.wantsV (sw_d h1 h2 h3 h4 h5 h6)) ?_; intro w7 x7; refine gset ?_
    have hA7 := hA6.grow x7
    (repeat' first | ((with_reducible refine nx0 ?_); go_step) | ((with_reducible refine o_s ?_); first | refine wk1 ?_ | (refine wg0 ?_ ?_ <;> intro hc)) | fail)
    refine wpl_callG (enters_of Tryz.func20 rfl rfl) rfl rfl (p_Notify hA7 hok5 n now) ?_; rintro _ w8 ⟨rfl, o8, m8⟩; refine ⟨_, rfl, ?_⟩; refine gset ?_
    have X8 := ((X5.trans x6).trans x7).move m8 (by rintro k ⟨⟩; exact hB)
    (repeat' first | ((with_reducible refine nx0 ?_); go_step) | ((with_reducible refine o_s ?_); first | refine wk1 ?_ | (refine wg0 ?_ ?_ <;> intro hc)) | fail)
    refine wpl_callV (enters_of Tryz.func17 rfl rfl) rfl rfl (o8.wantsV (sw_e h1 h2 h3 h4 h5 h6)) ?_; intro w9 x9; refine gset ?_
    (repeat' first | ((with_reducible refine nx0 ?_); go_step) | ((with_reducible refine o_s ?_); first | refine wk1 ?_ | (refine wg0 ?_ ?_ <;> intro hc)) | fail)
    refine wpl_callV (enters_of Tryz.func15 rfl rfl) rfl rfl (l17_liveV _) ?_; intro w10 x10; refine gset ?_
    (repeat' first | ((with_reducible refine nx0 ?_); go_step) | ((with_reducible refine o_s ?_); first | refine wk1 ?_ | (refine wg0 ?_ ?_ <;> intro hc)) | fail)
    go_ret
    exact ⟨rfl, (X8.trans x9).trans x10⟩
  · (repeat' first | ((with_reducible refine nx0 ?_); go_step) | ((with_reducible refine o_s ?_); first | refine wk1 ?_ | (refine wg0 ?_ ?_ <;> intro hc)) | fail)
    all_goals first
      | (exfalso; omega)
      | (refine wpl_callV (enters_of Tryz.func15 rfl rfl) rfl rfl (l17_liveV _) ?_; intro w1 x1; refine gset ?_
         (repeat' first | ((with_reducible refine nx0 ?_); go_step) | ((with_reducible refine o_s ?_); first | refine wk1 ?_ | (refine wg0 ?_ ?_ <;> intro hc)) | fail)
         go_ret
         exact ⟨rfl, x1⟩)
structure OpR where
  op : Int
  n : Int
  now : Int
  l : List Rec
def SecR.does (s : SecR) (p : OpR) : SecR :=
  if p.op = 0 then s.notify p.n p.now else if p.op = 1 then s.heard p.n p.now else if p.op = 2 then s.failed p.now else if p.op = 3 then s.got p.l p.now else if p.op = 4 then s.crash else s
def SecR.doesE (s : SecR) (p : OpR) : Int := if p.op = 3 then s.gotE p.l p.now else 0
theorem SecOk.does {s : SecR} (h : SecOk s) (p : OpR) : SecOk (s.does p) := by
  unfold SecR.does
  split; exact h.notify _ _
  split; exact h.heard _ _
  split; exact h.failed _
  split; exact h.got _ _
  split; exact h.crash
  exact h
theorem notify_z (s : SecR) (n now : Int) : (s.notify n now).z = s.z ∧ (s.notify n now).til = s.til ∧ (s.notify n now).og = s.og := by unfold SecR.notify; split <;> exact ⟨rfl, rfl, rfl⟩
theorem failed_z (s : SecR) (now : Int) : (s.failed now).z = s.z ∧ (s.failed now).til = s.til ∧ (s.failed now).og = s.og := by unfold SecR.failed; split <;> exact ⟨rfl, rfl, rfl⟩
theorem heard_z (s : SecR) (n now : Int) : (s.heard n now).z = s.z ∧ (s.heard n now).og = s.og := by
  unfold SecR.heard
  split; exact ⟨rfl, rfl⟩
  split; exact ⟨(failed_z s now).1, (failed_z s now).2.2⟩
  split <;> exact ⟨rfl, rfl⟩
theorem got_z {s : SecR} (h : SecOk s) (l : List Rec) (now : Int) : (s.got l now).og = s.og ∧ ((s.got l now).z = s.z ∨ ∃ o l', (s.got l now).z = some (o, l') ∧ ∀ o2 l2, s.z = some (o2, l2) → laterB (soaZ o l').serial (soaZ o2 l2).serial = true) := by
  unfold SecR.got
  split; exact ⟨rfl, .inl rfl⟩
  split; exact ⟨rfl, .inl rfl⟩
  split; exact ⟨(failed_z s now).2.2, .inl (failed_z s now).1⟩
  rename_i c
  obtain ⟨_, _, h3⟩ := h.inst (l := l) (by simpa using c)
  exact ⟨rfl, .inr ⟨_, _, rfl, h3⟩⟩
theorem does_z {s : SecR} (h : SecOk s) (p : OpR) : (s.does p).og = s.og ∧ ((s.does p).z = s.z ∨ p.op = 3 ∧ ∃ o l', (s.does p).z = some (o, l') ∧ ∀ o2 l2, s.z = some (o2, l2) → laterB (soaZ o l').serial (soaZ o2 l2).serial = true) := by
  unfold SecR.does
  split
  · exact ⟨(notify_z s _ _).2.2, .inl (notify_z s _ _).1⟩
  · split
    · exact ⟨(heard_z s _ _).2, .inl (heard_z s _ _).1⟩
    · split
      · exact ⟨(failed_z s _).2.2, .inl (failed_z s _).1⟩
      · split
        · rename_i c
          obtain ⟨a, b⟩ := got_z h p.l p.now
          exact ⟨a, b.imp id fun b => ⟨c, b⟩⟩
        · split
          · exact ⟨rfl, .inl rfl⟩
          · exact ⟨rfl, .inl rfl⟩
theorem holds_z (s : SecR) (p : OpR) (h : p.op = 0 ∨ p.op = 2 ∨ p.op = 4) : (s.does p).z = s.z ∧ (s.does p).til = s.til := by
  unfold SecR.does
  rcases h with h | h | h
  · rw [if_pos h]; exact ⟨(notify_z s _ _).1, (notify_z s _ _).2.1⟩
  · rw [if_neg (by omega), if_neg (by omega), if_pos h]; exact ⟨(failed_z s _).1, (failed_z s _).2.1⟩
  · rw [if_neg (by omega), if_neg (by omega), if_neg (by omega), if_neg (by omega), if_pos h]; exact ⟨rfl, rfl⟩
theorem sl_n5 : secE [1, 97] 5 = 0 := by decide +kernel
theorem sl_ok5 : SecOk (secNew [1, 97] 5) := SecOk.new sl_n5
theorem sg_e : ((secNew [1, 97] 5).inst whL).e = 0 := by decide +kernel
theorem sg_o : ((secNew [1, 97] 5).inst whL).o = [1, 97] := by decide +kernel
theorem sg_l : ((secNew [1, 97] 5).inst whL).l = simZ := by decide +kernel
theorem sg_1 : (soaZ [1, 97] simZ).serial = 5 := by decide +kernel
theorem sg_2 : (soaZ [1, 97] simZ).refresh = 10 := by decide +kernel
theorem sg_3 : (soaZ [1, 97] simZ).retry = 3 := by decide +kernel
theorem sg_4 : (soaZ [1, 97] simZ).expire = 100 := by decide +kernel
def sG (now : Int) : SecR := ⟨[1, 97], 5, some ([1, 97], simZ), now + 10, now + 100, false⟩
section
variable {now : Int} (h5 : 0 ≤ now) (h6 : now ≤ 1000000)
include h5 h6
theorem sg_E : (secNew [1, 97] 5).gotE whL now = 0 := by
  rw [SecR.gotE, if_neg (by rw [sw_ok h5 h6]; decide), sg_e]
theorem sg_S : (secNew [1, 97] 5).got whL now = sG now := by
  rw [SecR.got, if_neg (by rw [sw_ok h5 h6]; decide), if_neg (by rw [sg_e]; omega), if_neg (by rw [sg_e]; omega), SecR.withZ, sg_o, sg_l]
  simp only [SecR.fresh, SecR.soa, sg_2, sg_4]
  rfl
end
theorem sg_zok : ZoneOk [1, 97] simZ := by
  have h := (sl_ok5.inst (l := whL) sg_e).1
  rwa [sg_o, sg_l] at h
theorem sg_ok (now : Int) : SecOk (sG now) := by
  refine ⟨show checkE [1, 97] = 0 by decide +kernel, show (1:Int) ≤ 5 ∧ (5:Int) ≤ 2147483647 by decide, ?_⟩
  intro o l e
  obtain ⟨rfl, rfl⟩ : [1, 97] = o ∧ simZ = l := by simpa [sG] using e
  exact ⟨sg_zok, show [1, 97] = fold [1, 97] by decide +kernel⟩
section
variable {n now : Int} (h5 : 0 ≤ now) (h6 : now ≤ 1000000)
include h5 h6
theorem sn_a : ((sG now).notify n (now + 1)).wants (now + 1) = if laterB n 5 = true then 1 else 0 := by
  have e1 : okTime (now + 1) = true := by simp [okTime]; omega
  have e2 : (sG now).news n = laterB n 5 := by simp [SecR.news, sG, SecR.soa, sg_1]
  by_cases hl : laterB n 5 = true
  · have e3 : okSer n = true := by simp only [laterB, Bool.and_eq_true] at hl; exact hl.1.1
    rw [if_pos hl, SecR.notify, if_pos (by rw [e1, e2, e3, hl]; rfl)]
    simp only [SecR.wants, e1, sG]
    simp
    omega
  · rw [if_neg hl, SecR.notify, if_neg (by rw [e2]; simp [hl])]
    simp only [SecR.wants, e1, sG]
    simp
theorem sn_b : (((sG now).notify n (now + 1)).heard n (now + 2)).wants (now + 2) = if laterB n 5 = true then 2 else 0 := by
  have e1 : okTime (now + 2) = true := by simp [okTime]; omega
  have e2 : ((sG now).notify n (now + 1)).news n = laterB n 5 := by
    simp only [SecR.news, SecR.soa, (notify_z (sG now) n (now + 1)).1]
    simp [sG, sg_1]
  have e4 : ((sG now).notify n (now + 1)).soa = soaZ [1, 97] simZ := by
    simp only [SecR.soa, (notify_z (sG now) n (now + 1)).1]
    rfl
  by_cases hl : laterB n 5 = true
  · have e3 : okSer n = true := by simp only [laterB, Bool.and_eq_true] at hl; exact hl.1.1
    rw [if_pos hl, SecR.heard, if_neg (by simp [e1]), if_neg (by simp [e3]), if_pos (by rw [e2]; exact hl)]
    simp [SecR.wants, e1]
  · rw [if_neg hl, SecR.heard, if_neg (by simp [e1])]
    split
    · simp [SecR.failed, SecR.wants, e1, e4, sg_3]; omega
    · rw [if_neg (by rw [e2]; exact hl)]
      simp [SecR.fresh, SecR.wants, e1, e4, sg_2]; omega
end
set_option maxHeartbeats 8000000 in
theorem l17_News (n now : Int) (w : World) : Calls Tryz.prog 4 #[.int .i64 n, .int .i64 now] w (Yes w) := by
  go_enter Tryz.func4, Tryz.ntmps4
  by_cases hall : 0 ≤ now ∧ now ≤ 1000000
  · obtain ⟨h5, h6⟩ := hall
    (repeat' first | ((with_reducible refine nx0 ?_); go_step) | ((with_reducible refine o_s ?_); first | refine wk1 ?_ | (refine wg0 ?_ ?_ <;> intro hc)) | fail)
    all_goals first
      | (exfalso; omega)
      | skip
    refine wpl_callR (enters_of Tryz.func22 rfl rfl) rfl rfl (p_Simple _) ?_
    intro v1 w1 x1 hv1
    refine gset ?_
    (repeat' first | ((with_reducible refine nx0 ?_); go_step) | ((with_reducible refine o_s ?_); first | refine wk1 ?_ | (refine wg0 ?_ ?_ <;> intro hc)) | fail)
    refine wpl_callR (enters_of Tryz.func21 rfl rfl) rfl rfl (p_Load [1, 97] v1 simR _ hv1 (by decide) sim_r) ?_
    rintro _ w2 x2 ⟨z, rfl, hz⟩
    rw [jl_E2, jl_O2]
    rw [jl_L2] at hz
    have hz := hz.sets
    have hz1 : z.oneCell' = true := by obtain ⟨css, h, _⟩ := hz; exact h.one
    have hx2 := x1.trans x2
    refine gset ?_
    (repeat' first | ((with_reducible refine nx0 ?_); go_step) | ((with_reducible refine o_s ?_); first | refine wk1 ?_ | (refine wg0 ?_ ?_ <;> intro hc)) | fail)
    refine wpl_allocB (z := zzone) rfl (by decide +kernel) ?_
    intro w3 x3 s3 h3
    refine gset ?_
    refine wpl_storeB (v := .agg #[str [1, 97], z]) rfl rfl rfl h3 (show sizeTy Tryz.prog 34 2 = true by decide +kernel) rfl (zone_one hz1) ?_
    intro w4 p4
    have x4 : Ext w2 w4 := x3.move p4.mv (by rintro k ⟨⟩; exact Nat.le_refl _)
    have hp4 := pts_block (cs := [str [1, 97], z]) p4.this
    have hz4 := hz.ext x4
    have hx4 := hx2.trans x4
    clear p4 h3 x3
    (repeat' first | ((with_reducible refine nx0 ?_); go_step) | ((with_reducible refine o_s ?_); first | refine wk1 ?_ | (refine wg0 ?_ ?_ <;> intro hc)) | fail)
    refine wpl_callR (enters_of Tryz.func23 rfl rfl) rfl rfl (p_Whole [1, 97] z simZ _ hz4 sim_b) ?_
    rintro _ w5 x5 ⟨y, rfl, hy⟩
    rw [sl_Z]
    rw [sl_wh] at hy
    have hy := hy.sl
    have hy1 := hy.one
    have hx5 := hx4.trans x5
    clear hp4 hz4
    refine gset ?_
    (repeat' first | ((with_reducible refine nx0 ?_); go_step) | ((with_reducible refine o_s ?_); first | refine wk1 ?_ | (refine wg0 ?_ ?_ <;> intro hc)) | fail)
    refine wpl_callR (enters_of Tryz.func16 rfl rfl) rfl rfl (p_SecNew [1, 97] 5 _) ?_
    rintro _ w6 x6 ⟨p, rfl, hp⟩
    unfold secPE at hp
    rw [if_pos sl_n5] at hp
    obtain ⟨b, rfl, hb, hB, hA⟩ := hp
    rw [sl_n5]
    obtain ⟨B, hBe⟩ : ∃ B, B = w6.heap.size := ⟨_, rfl⟩
    have hB6 : B ≤ w6.heap.size := by omega
    rw [← hBe] at hA
    refine gset ?_
    (repeat' first | ((with_reducible refine nx0 ?_); go_step) | ((with_reducible refine o_s ?_); first | refine wk1 ?_ | (refine wg0 ?_ ?_ <;> intro hc)) | fail)
    refine wpl_callG (enters_of Tryz.func24 rfl rfl) rfl rfl (p_Got hA sl_ok5 hB6 y whL now (hy.ext x6) (by decide) wh_b) ?_
    rintro _ w7 ⟨rfl, o7, m7⟩
    refine ⟨_, rfl, ?_⟩
    rw [sg_E h5 h6]
    rw [sg_S h5 h6] at o7
    have hx7 := (hx5.trans x6).move m7 (by rintro k ⟨⟩; have := hx5.size; omega)
    have bw : w.heap.size ≤ b := by have := hx5.size; omega
    have hok := sg_ok now
    refine gset ?_
    (repeat' first | ((with_reducible refine nx0 ?_); go_step) | ((with_reducible refine o_s ?_); first | refine wk1 ?_ | (refine wg0 ?_ ?_ <;> intro hc)) | fail)
    refine wpl_callG (enters_of Tryz.func20 rfl rfl) rfl rfl (p_Notify o7 hok n (now + 1)) ?_; rintro _ w8 ⟨rfl, o8, m8⟩; refine ⟨_, rfl, ?_⟩; refine gset ?_
    have hx8 := hx7.move m8 (by rintro k ⟨⟩; exact bw)
    have hok8 := hok.notify n (now + 1)
    (repeat' first | ((with_reducible refine nx0 ?_); go_step) | ((with_reducible refine o_s ?_); first | refine wk1 ?_ | (refine wg0 ?_ ?_ <;> intro hc)) | fail)
    refine wpl_callV (enters_of Tryz.func17 rfl rfl) rfl rfl (o8.wantsV (sn_a h5 h6)) ?_; intro w9 x9; refine gset ?_
    have hA9 := o8.grow x9
    (repeat' first | ((with_reducible refine nx0 ?_); go_step) | ((with_reducible refine o_s ?_); first | refine wk1 ?_ | (refine wg0 ?_ ?_ <;> intro hc)) | fail)
    refine wpl_callG (enters_of Tryz.func18 rfl rfl) rfl rfl (p_Heard hA9 hok8 n (now + 2)) ?_; rintro _ w10 ⟨rfl, o10, m10⟩; refine ⟨_, rfl, ?_⟩; refine gset ?_
    have hx10 := (hx8.trans x9).move m10 (by rintro k ⟨⟩; exact bw)
    (repeat' first | ((with_reducible refine nx0 ?_); go_step) | ((with_reducible refine o_s ?_); first | refine wk1 ?_ | (refine wg0 ?_ ?_ <;> intro hc)) | fail)
    refine wpl_callV (enters_of Tryz.func17 rfl rfl) rfl rfl (o10.wantsV (sn_b h5 h6)) ?_; intro w11 x11; refine gset ?_
    have hx11 := hx10.trans x11
    by_cases hl : laterB n 5 = true
    · have e3 : okSer n = true := by simp only [laterB, Bool.and_eq_true] at hl; exact hl.1.1
      have e4 : 0 ≤ n ∧ n ≤ 4294967295 := by simpa [okSer] using e3
      rw [if_pos hl, if_pos hl]
      obtain ⟨e5, e6⟩ := e4
      (repeat' first | ((with_reducible refine nx0 ?_); go_step) | ((with_reducible refine o_s ?_); first | refine wk1 ?_ | (refine wg0 ?_ ?_ <;> intro hc)) | fail)
      all_goals first
        | (exfalso; omega)
        | skip
      refine wpl_callV (enters_of Tryz.func25 rfl rfl) rfl rfl (p_Later n 5 _) ?_; intro w12 x12; refine gset ?_
      rw [hl]
      (repeat' first | ((with_reducible refine nx0 ?_); go_step) | ((with_reducible refine o_s ?_); first | refine wk1 ?_ | (refine wg0 ?_ ?_ <;> intro hc)) | fail)
      refine wpl_callV (enters_of Tryz.func15 rfl rfl) rfl rfl (l17_liveV _) ?_; intro w13 x13; refine gset ?_
      (repeat' first | ((with_reducible refine nx0 ?_); go_step) | ((with_reducible refine o_s ?_); first | refine wk1 ?_ | (refine wg0 ?_ ?_ <;> intro hc)) | fail)
      go_ret
      exact ⟨rfl, (hx11.trans x12).trans x13⟩
    · rw [if_neg hl, if_neg hl]
      have hl' : laterB n 5 = false := by simpa using hl
      (repeat' first | ((with_reducible refine nx0 ?_); go_step) | ((with_reducible refine o_s ?_); first | refine wk1 ?_ | (refine wg0 ?_ ?_ <;> intro hc)) | fail)
      all_goals first
        | (refine wpl_callV (enters_of Tryz.func15 rfl rfl) rfl rfl (l17_liveV _) ?_; intro w13 x13; refine gset ?_
           (repeat' first | ((with_reducible refine nx0 ?_); go_step) | ((with_reducible refine o_s ?_); first | refine wk1 ?_ | (refine wg0 ?_ ?_ <;> intro hc)) | fail)
           go_ret
           exact ⟨rfl, hx11.trans x13⟩)
        | (refine wpl_callV (enters_of Tryz.func25 rfl rfl) rfl rfl (p_Later n 5 _) ?_; intro w12 x12; refine gset ?_
           rw [hl']
           (repeat' first | ((with_reducible refine nx0 ?_); go_step) | ((with_reducible refine o_s ?_); first | refine wk1 ?_ | (refine wg0 ?_ ?_ <;> intro hc)) | fail)
           refine wpl_callV (enters_of Tryz.func15 rfl rfl) rfl rfl (l17_liveV _) ?_; intro w13 x13; refine gset ?_
           (repeat' first | ((with_reducible refine nx0 ?_); go_step) | ((with_reducible refine o_s ?_); first | refine wk1 ?_ | (refine wg0 ?_ ?_ <;> intro hc)) | fail)
           go_ret
           exact ⟨rfl, (hx11.trans x12).trans x13⟩)
  · (repeat' first | ((with_reducible refine nx0 ?_); go_step) | ((with_reducible refine o_s ?_); first | refine wk1 ?_ | (refine wg0 ?_ ?_ <;> intro hc)) | fail)
    all_goals first
      | (exfalso; omega)
      | (refine wpl_callV (enters_of Tryz.func15 rfl rfl) rfl rfl (l17_liveV _) ?_; intro w1 x1; refine gset ?_
         (repeat' first | ((with_reducible refine nx0 ?_); go_step) | ((with_reducible refine o_s ?_); first | refine wk1 ?_ | (refine wg0 ?_ ?_ <;> intro hc)) | fail)
         go_ret
         exact ⟨rfl, x1⟩)
def shortS (l : List Rec) : Bool := decide (l.length ≤ 60) && l.all shortAt
theorem shortS_bounds {l : List Rec} (h : shortS l = true) : l.length ≤ 60 ∧ ∀ r ∈ l, r.name.length ≤ 300 ∧ r.data.length ≤ 300 := by
  simp only [shortS, Bool.and_eq_true, decide_eq_true_eq, List.all_eq_true, shortAt] at h
  exact h
set_option maxHeartbeats 1000000 in
theorem l17_short (v : Value) (l : List Rec) (w : World) (hv : Sl 4 w v (rcells l)) : Calls Tryz.prog 27 #[v] w (RetV w (.bool (shortS l))) := by
  have hl := rcells_length l
  have hle := hv.le
  go_enter Tryz.func27, Tryz.ntmps27
  (repeat' first | ((with_reducible refine nx0 ?_); go_step) | ((with_reducible refine o_s ?_); first | refine wk1 ?_ | (refine wg0 ?_ ?_ <;> intro hc)) | fail)
  · have hne := ‹60 < ((rcells l).length : Int)›
    go_ret
    refine ⟨?_, Ext.refl _⟩
    have : decide (l.length ≤ 60) = false := decide_eq_false (by omega)
    simp [shortS, this]
  · have h25 : decide (l.length ≤ 60) = true := decide_eq_true (by omega)
    go_loopw [3] (fun i wr => ∃ k : Nat, k ≤ l.length ∧ i = .int .i64 k ∧ Ext w wr ∧ (l.take k).all shortAt = true) (fun i _ => l.length - (intOf i).toNat)
    case atStart => exact ⟨0, Nat.zero_le _, rfl, Ext.refl _, rfl⟩
    case round =>
      obtain ⟨k, hk, rfl, hx, hall⟩ := hrel
      have hv2 := hv.ext hx
      by_cases hlt : k < l.length
      · have h1 := hv2.elem (rcells_at hlt)
        (repeat' first | ((with_reducible refine nx0 ?_); go_step) | ((with_reducible refine o_s ?_); first | refine wk1 ?_ | (refine wg0 ?_ ?_ <;> intro hc)) | fail)
        · go_ret
          refine ⟨?_, by exact extc⟩
          have : shortAt l[k] = false := by have : decide (l[k].data.length ≤ 300) = false := decide_eq_false (by omega)
                                            simp [shortAt, this]
          simp [shortS, all_no hlt this]
        · have ha : shortAt l[k] = true := by
            have e1 : decide (l[k].data.length ≤ 300) = true := decide_eq_true (by omega)
            have e2 : decide (l[k].name.length ≤ 300) = true := decide_eq_true (by omega)
            rw [shortAt, e1, e2]; rfl
          exact ⟨⟨k + 1, by omega, rfl, by exact extc, all_take hlt hall ha⟩, by simp [intOf]; omega⟩
        · go_ret
          refine ⟨?_, by exact extc⟩
          have : shortAt l[k] = false := by have : decide (l[k].name.length ≤ 300) = false := decide_eq_false (by omega)
                                            simp [shortAt, this]
          simp [shortS, all_no hlt this]
      · have hk2 : k = l.length := by omega
        subst hk2
        (repeat' first | ((with_reducible refine nx0 ?_); go_step) | ((with_reducible refine o_s ?_); first | refine wk1 ?_ | (refine wg0 ?_ ?_ <;> intro hc)) | fail)
        go_ret
        refine ⟨?_, by exact extc⟩
        rw [List.take_length] at hall
        rw [shortS, h25, hall]
        rfl
def opv (p : OpR) (lv : Value) : Value := .agg #[.int .i64 p.op, .int .i64 p.n, .int .i64 p.now, lv]
set_option maxHeartbeats 4000000 in
theorem l17_does {B : Nat} {w : World} {b : Nat} {s : SecR} (h : SAt B w b s) (hs : SecOk s) (hB : B ≤ w.heap.size) (p : OpR) (lv : Value) (hl : Sl 4 w lv (rcells p.l)) (hsh : p.op = 3 → shortS p.l = true) :
    Calls Tryz.prog 33 #[.pointer (some ⟨b, 0, none⟩), opv p lv] w fun e w' => e = .returned (.int .i64 (s.doesE p)) ∧ SAt B w' b (s.does p) ∧ Mv (some b) w w' := by
  unfold opv
  obtain ⟨op, n, now, l⟩ := p
  simp only at hsh hl ⊢
  go_enter Tryz.func33, Tryz.ntmps33
  have hl1 := hl.one
  (repeat' first | ((with_reducible refine nx0 ?_); go_step) | ((with_reducible refine o_s ?_); first | refine wk1 ?_ | (refine wg0 ?_ ?_ <;> intro hc)) | fail)
  refine wpl_boxB (vs := [.int .i64 op, .int .i64 n, .int .i64 now, lv]) rfl rfl ?_
  intro w1 x1 s1 h1
  refine gset ?_
  have hp := pts_block (cs := [.int .i64 op, .int .i64 n, .int .i64 now, lv]) h1
  have hA := h.grow x1
  have hl2 := hl.ext x1
  have hB1 := x1.size
  by_cases c0 : op = 0
  · subst c0
    (repeat' first | ((with_reducible refine nx0 ?_); go_step) | ((with_reducible refine o_s ?_); first | refine wk1 ?_ | (refine wg0 ?_ ?_ <;> intro hc)) | fail)
    refine wpl_callG (enters_of Tryz.func20 rfl rfl) rfl rfl (p_Notify hA hs n now) ?_; rintro _ w2 ⟨rfl, o2, m2⟩; refine ⟨_, rfl, ?_⟩; refine gset ?_
    (repeat' first | ((with_reducible refine nx0 ?_); go_step) | ((with_reducible refine o_s ?_); first | refine wk1 ?_ | (refine wg0 ?_ ?_ <;> intro hc)) | fail)
    go_ret
    exact ⟨rfl, o2, (x1.mv _).trans m2⟩
  by_cases c1 : op = 1
  · subst c1
    (repeat' first | ((with_reducible refine nx0 ?_); go_step) | ((with_reducible refine o_s ?_); first | refine wk1 ?_ | (refine wg0 ?_ ?_ <;> intro hc)) | fail)
    refine wpl_callG (enters_of Tryz.func18 rfl rfl) rfl rfl (p_Heard hA hs n now) ?_; rintro _ w2 ⟨rfl, o2, m2⟩; refine ⟨_, rfl, ?_⟩; refine gset ?_
    (repeat' first | ((with_reducible refine nx0 ?_); go_step) | ((with_reducible refine o_s ?_); first | refine wk1 ?_ | (refine wg0 ?_ ?_ <;> intro hc)) | fail)
    go_ret
    exact ⟨rfl, o2, (x1.mv _).trans m2⟩
  by_cases c2 : op = 2
  · subst c2
    (repeat' first | ((with_reducible refine nx0 ?_); go_step) | ((with_reducible refine o_s ?_); first | refine wk1 ?_ | (refine wg0 ?_ ?_ <;> intro hc)) | fail)
    refine wpl_callG (enters_of Tryz.func19 rfl rfl) rfl rfl (p_Failed hA hs now) ?_; rintro _ w2 ⟨rfl, o2, m2⟩; refine ⟨_, rfl, ?_⟩; refine gset ?_
    (repeat' first | ((with_reducible refine nx0 ?_); go_step) | ((with_reducible refine o_s ?_); first | refine wk1 ?_ | (refine wg0 ?_ ?_ <;> intro hc)) | fail)
    go_ret
    exact ⟨rfl, o2, (x1.mv _).trans m2⟩
  by_cases c3 : op = 3
  · subst c3
    obtain ⟨q1, q2⟩ := shortS_bounds (hsh rfl)
    (repeat' first | ((with_reducible refine nx0 ?_); go_step) | ((with_reducible refine o_s ?_); first | refine wk1 ?_ | (refine wg0 ?_ ?_ <;> intro hc)) | fail)
    refine wpl_callG (enters_of Tryz.func24 rfl rfl) rfl rfl (p_Got hA hs (by omega) lv l now hl2 (by omega) (fun q hq => by have := (q2 q hq).2; omega)) ?_
    rintro _ w2 ⟨rfl, o2, m2⟩
    refine ⟨_, rfl, ?_⟩
    refine gset ?_
    (repeat' first | ((with_reducible refine nx0 ?_); go_step) | ((with_reducible refine o_s ?_); first | refine wk1 ?_ | (refine wg0 ?_ ?_ <;> intro hc)) | fail)
    go_ret
    exact ⟨rfl, o2, (x1.mv _).trans m2⟩
  have e1 : SecR.doesE s ⟨op, n, now, l⟩ = 0 := by simp [SecR.doesE, c3]
  by_cases c4 : op = 4
  · subst c4
    (repeat' first | ((with_reducible refine nx0 ?_); go_step) | ((with_reducible refine o_s ?_); first | refine wk1 ?_ | (refine wg0 ?_ ?_ <;> intro hc)) | fail)
    refine wpl_callG (enters_of Tryz.func79 rfl rfl) rfl rfl (p_Crash hA) ?_; rintro _ w2 ⟨rfl, o2, m2⟩; refine ⟨_, rfl, ?_⟩; refine gset ?_
    (repeat' first | ((with_reducible refine nx0 ?_); go_step) | ((with_reducible refine o_s ?_); first | refine wk1 ?_ | (refine wg0 ?_ ?_ <;> intro hc)) | fail)
    go_ret
    exact ⟨rfl, o2, (x1.mv _).trans m2⟩
  have e2 : SecR.does s ⟨op, n, now, l⟩ = s := by simp [SecR.does, c0, c1, c2, c3, c4]
  (repeat' first | ((with_reducible refine nx0 ?_); go_step) | ((with_reducible refine o_s ?_); first | refine wk1 ?_ | (refine wg0 ?_ ?_ <;> intro hc)) | fail)
  all_goals first
    | (exfalso; omega)
    | (go_ret
       exact ⟨by rw [e1]; rfl, by rw [e2]; exact hA, x1.mv _⟩)
structure OpsAt (w : World) (v : Value) (ps : List OpR) : Prop where
  out : ∃ css, Sl 4 w v css ∧ css.length = ps.length ∧ ∀ (i : Nat) (p : OpR), ps[i]? = some p → ∃ u, css[i]? = some [.int .i64 p.op, .int .i64 p.n, .int .i64 p.now, u] ∧ Sl 4 w u (rcells p.l)
theorem OpsAt.ext {w w' : World} {v : Value} {ps : List OpR} (h : OpsAt w v ps) (hx : Ext w w') : OpsAt w' v ps := by
  obtain ⟨css, h1, h2, h3⟩ := h
  exact ⟨css, h1.ext hx, h2, fun i z hi => let ⟨u, a, b⟩ := h3 i z hi; ⟨u, a, b.ext hx⟩⟩
theorem sg_up {now later : Int} {s : SecR} (h1 : 0 ≤ later) (h2 : later ≤ 1000000) (hz : s.z = (sG now).z) (ht : s.til = (sG now).til) : s.up later = decide (later < now + 100) := by
  rw [SecR.up, sw_ok h1 h2, hz, ht]
  rfl
section
variable {P : Program} {w : World} {ts : List Value} {df : List Deferred} {d : Option Nat} {ty : TypeId} {ps : String} {af : Array Edge} {g : Option (Nat × Bool)}
theorem Runs.eqlBV {t u : TypeId} {x y : Operand} {a b : Bool} (hx : (Act.mk ts.toArray df).eval x = .bool a) (hy : (Act.mk ts.toArray df).eval y = .bool b) (ht : boolTy P t = true) :
    Runs P (Oper.mk d (.binOp .eql t x y u) ty ps af g) (Act.mk ts.toArray df) w (.bool (a == b)) := by
  have hu : P.underlying t = some .bool := by
    unfold boolTy at ht; split at ht
    · assumption
    · cases ht
  constructor
  simp [execOp, hx, hy, eqGuard, binOp, run_equal_bool w t a b hu]
end
set_option maxHeartbeats 1200000 in
theorem l17_Holds (v : Value) (ps : List OpR) (now later : Int) (w : World) (hv : OpsAt w v ps) : Calls Tryz.prog 8 #[v, .int .i64 now, .int .i64 later] w (Yes w) := by
  obtain ⟨cs0, sl0, cl0, at0⟩ := hv.out
  go_enter Tryz.func8, Tryz.ntmps8
  by_cases hall : 0 ≤ now ∧ now ≤ 1000000 ∧ 0 ≤ later ∧ later ≤ 1000000
  · obtain ⟨h5, h6, h7, h8⟩ := hall
    (repeat' first | ((with_reducible refine nx0 ?_); go_step) | ((with_reducible refine o_s ?_); first | refine wk1 ?_ | (refine wg0 ?_ ?_ <;> intro hc)) | fail)
    all_goals first
      | (exfalso; omega)
      | skip
    refine wpl_callR (enters_of Tryz.func22 rfl rfl) rfl rfl (p_Simple _) ?_
    intro v1 w1 x1 hv1
    refine gset ?_
    (repeat' first | ((with_reducible refine nx0 ?_); go_step) | ((with_reducible refine o_s ?_); first | refine wk1 ?_ | (refine wg0 ?_ ?_ <;> intro hc)) | fail)
    refine wpl_callR (enters_of Tryz.func21 rfl rfl) rfl rfl (p_Load [1, 97] v1 simR _ hv1 (by decide) sim_r) ?_
    rintro _ w2 x2 ⟨z, rfl, hz⟩
    rw [jl_E2, jl_O2]
    rw [jl_L2] at hz
    have hz := hz.sets
    have hz1 : z.oneCell' = true := by obtain ⟨css, h, _⟩ := hz; exact h.one
    have hx2 := x1.trans x2
    refine gset ?_
    (repeat' first | ((with_reducible refine nx0 ?_); go_step) | ((with_reducible refine o_s ?_); first | refine wk1 ?_ | (refine wg0 ?_ ?_ <;> intro hc)) | fail)
    refine wpl_allocB (z := zzone) rfl (by decide +kernel) ?_
    intro w3 x3 s3 h3
    refine gset ?_
    refine wpl_storeB (v := .agg #[str [1, 97], z]) rfl rfl rfl h3 (show sizeTy Tryz.prog 34 2 = true by decide +kernel) rfl (zone_one hz1) ?_
    intro w4 p4
    have x4 : Ext w2 w4 := x3.move p4.mv (by rintro k ⟨⟩; exact Nat.le_refl _)
    have hp4 := pts_block (cs := [str [1, 97], z]) p4.this
    have hz4 := hz.ext x4
    have hx4 := hx2.trans x4
    clear p4 h3 x3
    (repeat' first | ((with_reducible refine nx0 ?_); go_step) | ((with_reducible refine o_s ?_); first | refine wk1 ?_ | (refine wg0 ?_ ?_ <;> intro hc)) | fail)
    refine wpl_callR (enters_of Tryz.func23 rfl rfl) rfl rfl (p_Whole [1, 97] z simZ _ hz4 sim_b) ?_
    rintro _ w5 x5 ⟨y, rfl, hy⟩
    rw [sl_Z]
    rw [sl_wh] at hy
    have hy := hy.sl
    have hy1 := hy.one
    have hx5 := hx4.trans x5
    clear hp4 hz4
    refine gset ?_
    (repeat' first | ((with_reducible refine nx0 ?_); go_step) | ((with_reducible refine o_s ?_); first | refine wk1 ?_ | (refine wg0 ?_ ?_ <;> intro hc)) | fail)
    refine wpl_callR (enters_of Tryz.func16 rfl rfl) rfl rfl (p_SecNew [1, 97] 5 _) ?_
    rintro _ w6 x6 ⟨p, rfl, hp⟩
    unfold secPE at hp
    rw [if_pos sl_n5] at hp
    obtain ⟨b, rfl, hb, hB, hA⟩ := hp
    rw [sl_n5]
    obtain ⟨B, hBe⟩ : ∃ B, B = w6.heap.size := ⟨_, rfl⟩
    have hB6 : B ≤ w6.heap.size := by omega
    rw [← hBe] at hA
    refine gset ?_
    (repeat' first | ((with_reducible refine nx0 ?_); go_step) | ((with_reducible refine o_s ?_); first | refine wk1 ?_ | (refine wg0 ?_ ?_ <;> intro hc)) | fail)
    refine wpl_callG (enters_of Tryz.func24 rfl rfl) rfl rfl (p_Got hA sl_ok5 hB6 y whL now (hy.ext x6) (by decide) wh_b) ?_
    rintro _ w7 ⟨rfl, o7, m7⟩
    refine ⟨_, rfl, ?_⟩
    rw [sg_E h5 h6]
    rw [sg_S h5 h6] at o7
    have hx7 := (hx5.trans x6).move m7 (by rintro k ⟨⟩; have := hx5.size; omega)
    have bw : w.heap.size ≤ b := by have := hx5.size; omega
    have hok := sg_ok now
    refine gset ?_
    have hB7 : B ≤ w7.heap.size := by have := m7.size; omega
    clear m7 x6 x5 x4 hx5 hx2 hx4 hy
    (repeat' first | ((with_reducible refine nx0 ?_); go_step) | ((with_reducible refine o_s ?_); first | refine wk1 ?_ | (refine wg0 ?_ ?_ <;> intro hc)) | fail)
    go_loopw [13] (fun i wr => ∃ (k : Nat) (s : SecR), k ≤ ps.length ∧ i = .int .i64 k ∧ Ext w wr ∧ SAt B wr b s ∧ SecOk s ∧ s.z = (sG now).z ∧ s.til = (sG now).til ∧ B ≤ wr.heap.size) (fun i _ => ps.length - (intOf i).toNat)
    case atStart => exact ⟨0, sG now, Nat.zero_le _, rfl, hx7, o7, hok, rfl, rfl, hB7⟩
    case round =>
      clear o7 hx7 hB7 hok hB6
      obtain ⟨k, s, hk, rfl, hx, hS, hsk, hsz, hst, hBr⟩ := hrel
      have fin : ∀ w', Ext wr w' → Calls Tryz.prog 36 #[.pointer (some ⟨b, 0, none⟩), .int .i64 later] w' (RetV w' (.bool (decide (later < now + 100)))) := fun w' x' => (hS.grow x').upV (sg_up h7 h8 hsz hst)
      by_cases hlt : k < ps.length
      · obtain ⟨u, hc, hu⟩ := at0 k _ (List.getElem?_eq_getElem hlt)
        have hpe := (sl0.ext hx).elem hc
        have hkc : k < cs0.length := by omega
        have hur := hu.ext hx
        generalize ps[k] = p at *
        have hdo : p.op = 0 ∨ p.op = 2 ∨ p.op = 4 → Calls Tryz.prog 33 #[.pointer (some ⟨b, 0, none⟩), .agg #[.int .i64 p.op, .int .i64 p.n, .int .i64 p.now, u]] wr fun e w' => e = .returned (.int .i64 (s.doesE p)) ∧ SAt B w' b (s.does p) ∧ Mv (some b) wr w' := fun hd => l17_does hS hsk hBr p u hur (fun e => by omega)
        by_cases h25 : (k : Int) < 25
        · by_cases hop : p.op = 0 ∨ p.op = 2 ∨ p.op = 4
          · have hd := hdo hop
            clear hdo fin
            obtain ⟨e1, e2⟩ := holds_z s p hop
            (repeat' first | ((with_reducible refine nx0 ?_); go_step) | ((with_reducible refine o_s ?_); first | refine wk1 ?_ | (refine wg0 ?_ ?_ <;> intro hc)) | fail)
            all_goals first
              | (exfalso; omega)
              | skip
            all_goals
              refine wpl_callG (enters_of Tryz.func33 rfl rfl) rfl rfl hd ?_
              rintro _ w8 ⟨rfl, o8, m8⟩
              refine ⟨_, rfl, ?_⟩
              have hx8 := hx.move m8 (by rintro k ⟨⟩; exact bw)
              have hB8 : B ≤ w8.heap.size := by have := m8.size; omega
              refine gset ?_
              (repeat' first | ((with_reducible refine nx0 ?_); go_step) | ((with_reducible refine o_s ?_); first | refine wk1 ?_ | (refine wg0 ?_ ?_ <;> intro hc)) | fail)
              exact ⟨⟨k + 1, s.does p, by omega, rfl, hx8, o8, hsk.does p, by rw [e1, hsz], by rw [e2, hst], hB8⟩, by simp [intOf]; omega⟩
          · clear hdo fin
            (repeat' first | ((with_reducible refine nx0 ?_); go_step) | ((with_reducible refine o_s ?_); first | refine wk1 ?_ | (refine wg0 ?_ ?_ <;> intro hc)) | fail)
            all_goals first
              | (exfalso; omega)
              | exact ⟨⟨k + 1, s, by omega, rfl, hx, hS, hsk, hsz, hst, hBr⟩, by simp [intOf]; omega⟩
        · (repeat' first | ((with_reducible refine nx0 ?_); go_step) | ((with_reducible refine o_s ?_); first | refine wk1 ?_ | (refine wg0 ?_ ?_ <;> intro hc)) | fail)
          all_goals first
            | (exfalso; omega)
            | skip
          refine wpl_callV (enters_of Tryz.func36 rfl rfl) rfl rfl (fin _ (Ext.refl _)) ?_; intro w9 x9; refine gset ?_
          (repeat' first | ((with_reducible refine nx0 ?_); go_step) | ((with_reducible refine o_s ?_); first | refine wk1 ?_ | (refine wg0 ?_ ?_ <;> intro hc)) | fail)
          refine wpl_run rfl (Runs.eqlBV rfl rfl (by decide +kernel)) ?_
          refine gset ?_
          rw [show (decide (later < now + 100) == decide (later < now + 100)) = true by simp]
          (repeat' first | ((with_reducible refine nx0 ?_); go_step) | ((with_reducible refine o_s ?_); first | refine wk1 ?_ | (refine wg0 ?_ ?_ <;> intro hc)) | fail)
          refine wpl_callV (enters_of Tryz.func15 rfl rfl) rfl rfl (l17_liveV _) ?_; intro w10 x10; refine gset ?_
          (repeat' first | ((with_reducible refine nx0 ?_); go_step) | ((with_reducible refine o_s ?_); first | refine wk1 ?_ | (refine wg0 ?_ ?_ <;> intro hc)) | fail)
          go_ret
          exact ⟨rfl, (hx.trans x9).trans x10⟩
      · have hk2 : k = ps.length := by omega
        subst hk2
        (repeat' first | ((with_reducible refine nx0 ?_); go_step) | ((with_reducible refine o_s ?_); first | refine wk1 ?_ | (refine wg0 ?_ ?_ <;> intro hc)) | fail)
        refine wpl_callV (enters_of Tryz.func36 rfl rfl) rfl rfl (fin _ (Ext.refl _)) ?_; intro w9 x9; refine gset ?_
        (repeat' first | ((with_reducible refine nx0 ?_); go_step) | ((with_reducible refine o_s ?_); first | refine wk1 ?_ | (refine wg0 ?_ ?_ <;> intro hc)) | fail)
        refine wpl_run rfl (Runs.eqlBV rfl rfl (by decide +kernel)) ?_
        refine gset ?_
        rw [show (decide (later < now + 100) == decide (later < now + 100)) = true by simp]
        (repeat' first | ((with_reducible refine nx0 ?_); go_step) | ((with_reducible refine o_s ?_); first | refine wk1 ?_ | (refine wg0 ?_ ?_ <;> intro hc)) | fail)
        refine wpl_callV (enters_of Tryz.func15 rfl rfl) rfl rfl (l17_liveV _) ?_; intro w10 x10; refine gset ?_
        (repeat' first | ((with_reducible refine nx0 ?_); go_step) | ((with_reducible refine o_s ?_); first | refine wk1 ?_ | (refine wg0 ?_ ?_ <;> intro hc)) | fail)
        go_ret
        exact ⟨rfl, (hx.trans x9).trans x10⟩
  · (repeat' first | ((with_reducible refine nx0 ?_); go_step) | ((with_reducible refine o_s ?_); first | refine wk1 ?_ | (refine wg0 ?_ ?_ <;> intro hc)) | fail)
    all_goals first
      | (exfalso; omega)
      | (refine wpl_callV (enters_of Tryz.func15 rfl rfl) rfl rfl (l17_liveV _) ?_; intro w1 x1; refine gset ?_
         (repeat' first | ((with_reducible refine nx0 ?_); go_step) | ((with_reducible refine o_s ?_); first | refine wk1 ?_ | (refine wg0 ?_ ?_ <;> intro hc)) | fail)
         go_ret
         exact ⟨rfl, x1⟩)
open Go.ChangeShapes Go.WideShapes Go.ChangeAt Go.RowKit
theorem open_op {H : Type} {enc : TypeId × Value → H} {w : World} {base : Nat} {spare : Nat → Bool} {held : Bool} {fuel : Nat} {cl : List Value} {x : DataW H × List MemPlace} (h : DataW.trod enc Tryz.prog w base spare held fuel 48 cl = some x) : ∃ (p : OpR) (u : Value), cl = [.int .i64 p.op, .int .i64 p.n, .int .i64 p.now, u] ∧ Sl 4 w u (rcells p.l) := by
  obtain ⟨xs, n', _, _, hl, hxl, hf⟩ := DataW.trod_struct Tryz.underlying48 h
  have c3 : Tryz.prog.cellsOf 3 = 1 := by kernel_rfl
  have c4 : Tryz.prog.cellsOf 37 = 1 := by kernel_rfl
  have c5 : Tryz.prog.cellsOf 48 = 4 := by kernel_rfl
  rw [c5] at hl
  match cl, hl, xs, hxl with
  | [a, b, d, f], _, [y0, y1, y2, y3], _ =>
    have g0 := hf 0 _ rfl
    have g1 := hf 1 _ rfl
    have g2 := hf 2 _ rfl
    have g3 := hf 3 _ rfl
    simp [c3, c4] at g0 g1 g2 g3
    obtain ⟨n0, rfl, _⟩ := trod_num Tryz.underlying3 g0
    obtain ⟨n1, rfl, _⟩ := trod_num Tryz.underlying3 g1
    obtain ⟨n2, rfl, _⟩ := trod_num Tryz.underlying3 g2
    obtain ⟨l, hls⟩ := open_recs g3
    exact ⟨⟨n0, n1, n2, l⟩, f, rfl, hls⟩
theorem open_ops {H : Type} {enc : TypeId × Value → H} {w : World} {base : Nat} {spare : Nat → Bool} {held : Bool} {fuel : Nat} {v : Value} {x : DataW H × List MemPlace} (h : DataW.trod enc Tryz.prog w base spare held fuel 43 [v] = some x) : ∃ ps : List OpR, OpsAt w v ps := by
  obtain ⟨es, hs, he⟩ := open_rows Tryz.underlying43 (show Tryz.prog.cellsOf 48 = 4 by kernel_rfl) (by omega) h
  obtain ⟨l, rfl⟩ : ∃ l : List {p : OpR × Value // Sl 4 w p.2 (rcells p.1.l)}, es = l.map fun p => [.int .i64 p.1.1.op, .int .i64 p.1.1.n, .int .i64 p.1.1.now, p.1.2] := by
    refine all_map fun c hc => ?_
    obtain ⟨n, y, hy⟩ := he c hc
    obtain ⟨p, u, rfl, hu⟩ := open_op hy
    exact ⟨⟨(p, u), hu⟩, rfl⟩
  refine ⟨l.map fun p => p.1.1, _, hs, by simp, ?_⟩
  intro i s hi
  rw [List.getElem?_map] at hi
  obtain ⟨p, hp, rfl⟩ := Option.map_eq_some_iff.1 hi
  exact ⟨p.1.2, by rw [List.getElem?_map, hp]; rfl, p.2⟩
end Go.Proofs.X
