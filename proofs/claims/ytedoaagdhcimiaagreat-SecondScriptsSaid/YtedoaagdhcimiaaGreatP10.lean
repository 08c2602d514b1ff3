/- Laws and walks that the proof of the statement is made of (part 10). -/
import Derived.Test.YtedoaagdhcimiaaGreatProg
import Derived.Test.YtedoaagdhcimiaaGreatShelf
import Derived.Lib.Hide
import Derived.Shelf.SlSortCmp.NoneTotal
import Derived.OwnWalk
import Derived.Shelf.RegionOpenPlain
import Derived.Lib.Strings
import Derived.Lib.Slices
import Derived.Lib.Walk
import Derived.Lib.Builder
import Derived.Lib.AppendStr
import Derived.Lib.UnsafeStr
import Derived.Lib.MakeNoZero
import Derived.WalkKit
import Derived.Laws.Externs
import Derived.Laws.IdiomCopy
import Derived.Laws.BitsLemmas
import GoSem.Claims
import Derived.Test.YtedoaagdhcimiaaGreatP1
import Derived.Test.YtedoaagdhcimiaaGreatP2
import Derived.Test.YtedoaagdhcimiaaGreatP3
import Derived.Test.YtedoaagdhcimiaaGreatP4
import Derived.Test.YtedoaagdhcimiaaGreatP5
import Derived.Test.YtedoaagdhcimiaaGreatP6
import Derived.Test.YtedoaagdhcimiaaGreatP7
import Derived.Test.YtedoaagdhcimiaaGreatP8
import Derived.Test.YtedoaagdhcimiaaGreatP9
set_option linter.unusedSimpArgs false
set_option linter.unusedVariables false
namespace Go.Proofs.X
open Go.RowKit
set_option maxRecDepth 100000
def putAll (l : List Rec) : List RSet := l.foldl (fun gs r => putS r gs) []
theorem putAll_succ {l : List Rec} {k : Nat} (h : k < l.length) : putAll (l.take (k + 1)) = putS l[k] (putAll (l.take k)) := by
 rw [putAll, List.take_add_one, List.getElem?_eq_getElem h, Option.toList_some, List.foldl_append]
 rfl
theorem putS_len (r : Rec) : ∀ gs : List RSet, (putS r gs).length ≤ gs.length + 1
 | [] => by simp [putS]
 | g :: gs => by
   have := putS_len r gs
   rw [putS]
   split
   ·simp; omega
   ·split <;> simp
theorem putS_data (r : Rec) (n : Nat) : ∀ gs : List RSet, (∀ s ∈ gs, s.data.length ≤ n) → ∀ s ∈ putS r gs, s.data.length ≤ n + 1
 | [], _, s, h => by
   have : s = recSet r := by simpa [putS] using h
   subst this; simp [recSet]
 | g :: gs, hn, s, h => by
   have hg := hn g (by simp)
   have hn' : ∀ s ∈ gs, s.data.length ≤ n := fun s hs => hn s (by simp [hs])
   rw [putS] at h
   split at h
   ·rcases List.mem_cons.1 h with rfl | h
    ·omega
    ·exact putS_data r n gs hn' s h
   ·split at h
    ·rcases List.mem_cons.1 h with rfl | h
     ·simp [recSet]
     ·have := hn s h; omega
    ·rcases List.mem_cons.1 h with rfl | h
     ·have := textS_len r.data g.data
      show (textS r.data g.data).length ≤ n + 1
      omega
     ·have := hn' s h; omega
theorem putAll_bounds (l : List Rec) : ∀ k, k ≤ l.length → (putAll (l.take k)).length ≤ k ∧ ∀ s ∈ putAll (l.take k), s.data.length ≤ k
 | 0, _ => by simp [putAll]
 | k + 1, h => by
   obtain ⟨h1, h2⟩ := putAll_bounds l k (by omega)
   rw [putAll_succ (show k < l.length by omega)]
   have := putS_len (l[k]'(by omega)) (putAll (l.take k))
   exact ⟨by omega, putS_data _ k _ h2⟩
def refE (l : List Rec) : Int := if l.all okR = false then 1 else if 200 < (putAll l).length then 4 else if (putAll l).any big = true then 4 else 0
def RefR (B : Nat) (l : List Rec) (r : Value) (w' : World) : Prop := if refE l = 0 then ∃ v, r = .tuple #[v, .int .i64 0] ∧ SetsO B w' v (putAll l) else r = .tuple #[.slice none 0 0, .int .i64 (refE l)]
set_option maxHeartbeats 6000000 in
theorem r7_Group (v : Value) (l : List Rec) (w : World) (hv : Sl 4 w v (rcells l)) (hl : l.length ≤ 10000) (hd : ∀ r ∈ l, r.data.length ≤ 4611686018427387904) : Calls Tryz.prog 171 #[v] w (Ret w (RefR w.heap.size l)) := by
 have hlen := rcells_length l
 go_enter Tryz.func171, Tryz.ntmps171
 (repeat' first | ((with_reducible refine nx0 ?_); go_step) | ((with_reducible refine o_s ?_); first | refine wk0 ?_ | (refine wg0 ?_ ?_ <;> intro hc)) | fail)
 go_loopw [4] (fun i wr => ∃ k : Nat, k ≤ l.length ∧ i = .int .i64 k ∧ Ext w wr ∧ (l.take k).all okR = true) (fun i _ => l.length - (intOf i).toNat)
 case atStart => exact ⟨0, Nat.zero_le _, rfl, Ext.refl _, by simp⟩
 case round =>
  obtain ⟨k, hk, rfl, hx, hall⟩ := hrel
  have hvr := hv.ext hx
  by_cases hlt : k < l.length
  ·have hp := hvr.elem (rcells_at hlt)
   (repeat' first | ((with_reducible refine nx0 ?_); go_step) | ((with_reducible refine o_s ?_); first | refine wk0 ?_ | (refine wg0 ?_ ?_ <;> intro hc)) | fail)
   refine wpl_callV (enters_of Tryz.func112 rfl rfl) rfl rfl (r3_Check l[k] _ (hd _ (List.getElem_mem hlt))) ?_; intro w2 x2; refine gset ?_
   (repeat' first | ((with_reducible refine nx0 ?_); go_step) | ((with_reducible refine o_s ?_); first | refine wk0 ?_ | (refine wg0 ?_ ?_ <;> intro hc)) | fail)
   ·have hc := ‹(!decide (checkR l[k] = 0)) = true›
    have hE : refE l = 1 := by
     have : l.all okR = false := all_no hlt (by simp [okR] at hc ⊢; exact hc)
     rw [refE, if_pos this]
    go_ret2
    refine ⟨_, rfl, hx.trans x2, ?_⟩
    unfold RefR
    rw [hE, if_neg (by omega)]
    rfl
   ·have hc := ‹(!decide (checkR l[k] = 0)) = false›
    exact ⟨⟨k + 1, by omega, by go_num, hx.trans x2, all_take hlt hall (by simp [okR] at hc ⊢; exact hc)⟩, by simp [intOf]; omega⟩
  ·have : k = l.length := by omega
   subst this
   rw [List.take_length] at hall
   (repeat' first | ((with_reducible refine nx0 ?_); go_step) | ((with_reducible refine o_s ?_); first | refine wk0 ?_ | (refine wg0 ?_ ?_ <;> intro hc)) | fail)
   go_loopw [5, 6] (fun o i wq => ∃ k : Nat, k ≤ l.length ∧ i = .int .i64 k ∧ Ext w wq ∧ SetsO w.heap.size wq o (putAll (l.take k))) (fun _ i _ => l.length - (intOf i).toNat)
   case atStart => exact ⟨0, Nat.zero_le _, rfl, hx, SetsO.nil _ _⟩
   case round =>
    obtain ⟨k, hk, rfl, hxq, ho⟩ := hrel
    have hvq := hv.ext hxq
    by_cases hlt : k < l.length
    ·have hp := hvq.elem (rcells_at hlt)
     obtain ⟨q1, q2⟩ := putAll_bounds l k hk
     (repeat' first | ((with_reducible refine nx0 ?_); go_step) | ((with_reducible refine o_s ?_); first | refine wk0 ?_ | (refine wg0 ?_ ?_ <;> intro hc)) | fail)
     refine wpl_callR (enters_of Tryz.func219 rfl rfl) rfl rfl (r7_put u5 (putAll (l.take k)) l[k] _ ho hxq.size (by omega) (fun s hs => by have := q2 s hs; omega)) ?_
     intro o2 w2 x2 ho2
     rw [← putAll_succ hlt] at ho2
     refine gset ?_
     (repeat' first | ((with_reducible refine nx0 ?_); go_step) | ((with_reducible refine o_s ?_); first | refine wk0 ?_ | (refine wg0 ?_ ?_ <;> intro hc)) | fail)
     exact ⟨⟨k + 1, by omega, by go_num, hxq.trans x2, ho2⟩, by simp [intOf]; omega⟩
    ·have : k = l.length := by omega
     subst this
     rw [List.take_length] at ho
     obtain ⟨css, hs1, hs2⟩ := ho.sets.rows
     have hsl := hs2.len
     (repeat' first | ((with_reducible refine nx0 ?_); go_step) | ((with_reducible refine o_s ?_); first | refine wk0 ?_ | (refine wg0 ?_ ?_ <;> intro hc)) | fail)
     ·have h200 : 200 < (putAll l).length := by omega
      have hE : refE l = 4 := by rw [refE, if_neg (by simp [hall]), if_pos h200]
      go_ret2
      refine ⟨_, rfl, hxq, ?_⟩
      unfold RefR
      rw [hE, if_neg (by omega)]
      rfl
     ·have h200 : ¬ 200 < (putAll l).length := by omega
      go_loopw [7] (fun i w5 => ∃ k : Nat, k ≤ (putAll l).length ∧ i = .int .i64 k ∧ Ext wr w5 ∧ ((putAll l).take k).all (fun s => !big s) = true) (fun i _ => (putAll l).length - (intOf i).toNat)
      case atStart => exact ⟨0, Nat.zero_le _, rfl, Ext.refl _, by simp⟩
      case round =>
       obtain ⟨k, hk, rfl, hx5, hall5⟩ := hrel
       have hs5 := hs1.ext hx5
       by_cases hlt : k < (putAll l).length
       ·obtain ⟨x, hc1, hc2⟩ := (hs2.ext hx5).at' k _ (List.getElem?_eq_getElem hlt)
        have hp := hs5.elem hc1
        have hdl := tcells_length (putAll l)[k].data
        (repeat' first | ((with_reducible refine nx0 ?_); go_step) | ((with_reducible refine o_s ?_); first | refine wk0 ?_ | (refine wg0 ?_ ?_ <;> intro hc)) | fail)
        ·have hb : (fun s => !big s) (putAll l)[k] = false := by simp [big]; omega
         have hE : refE l = 4 := by
          have hany : (putAll l).any big = true := List.any_eq_true.2 ⟨_, List.getElem_mem hlt, by simpa using hb⟩
          rw [refE, if_neg (by simp [hall]), if_neg h200, if_pos hany]
         go_ret2
         refine ⟨_, rfl, hxq.trans hx5, ?_⟩
         unfold RefR
         rw [hE, if_neg (by omega)]
         rfl
        ·exact ⟨⟨k + 1, by omega, by go_num, hx5, all_take hlt hall5 (by simp [big]; omega)⟩, by simp [intOf]; omega⟩
       ·have : k = (putAll l).length := by omega
        subst this
        rw [List.take_length] at hall5
        have hE : refE l = 0 := by
         have hany : ¬ (putAll l).any big = true := by
          intro h
          obtain ⟨s, hs, hb⟩ := List.any_eq_true.1 h
          have := List.all_eq_true.1 hall5 s hs
          simp [hb] at this
         rw [refE, if_neg (by simp [hall]), if_neg h200, if_neg hany]
        (repeat' first | ((with_reducible refine nx0 ?_); go_step) | ((with_reducible refine o_s ?_); first | refine wk0 ?_ | (refine wg0 ?_ ?_ <;> intro hc)) | fail)
        go_ret2
        refine ⟨_, rfl, hxq.trans hx5, ?_⟩
        unfold RefR
        rw [if_pos hE]
        exact ⟨_, rfl, ho.ext hx5⟩
theorem mem_addTo : ∀ {gs : List RSet} {r : Rec} {s : RSet}, Apart gs → s ∈ addTo gs r → (s ∈ gs ∧ match1 s r = false) ∨ (∃ t ∈ gs, match1 t r = true ∧ s = bump t r) ∨ ((∀ t ∈ gs, match1 t r = false) ∧ s = ⟨fold r.name, r.kind, r.ttl, [r.data]⟩)
 | [], r, s, _, h => by
   right; right
   exact ⟨by simp, by simpa [addTo] using h⟩
 | a :: l, r, s, hd, h => by
   obtain ⟨p1, p2⟩ := List.pairwise_cons.1 (apart_pw.1 hd)
   by_cases hm : match1 a r = true
   ·simp only [addTo, hm, if_true, List.mem_cons] at h
    rcases h with h | h
    ·exact .inr (.inl ⟨a, by simp, hm, h⟩)
    ·refine .inl ⟨by simp [h], ?_⟩
     cases hs : match1 s r with
     | false => rfl
     | true =>
      exfalso
      simp only [match1, Bool.and_eq_true, decide_eq_true_eq] at hs hm
      exact p1 s h ⟨by rw [hm.1, hs.1], by rw [hm.2, hs.2]⟩
   ·have hm' : match1 a r = false := by simpa using hm
    simp only [addTo, hm', Bool.false_eq_true, if_false, List.mem_cons] at h
    rcases h with rfl | h
    ·exact .inl ⟨by simp, hm'⟩
    ·rcases mem_addTo (apart_pw.2 p2) h with ⟨h1, h2⟩ | ⟨t, h1, h2, h3⟩ | ⟨h1, h2⟩
     ·exact .inl ⟨by simp [h1], h2⟩
     ·exact .inr (.inl ⟨t, by simp [h1], h2, h3⟩)
     ·refine .inr (.inr ⟨?_, h2⟩)
      intro t ht
      rcases List.mem_cons.1 ht with rfl | ht
      ·exact hm'
      ·exact h1 t ht
structure Ch (L : List Rec) (s : RSet) : Prop where
 dat : ∀ d, d ∈ s.data ↔ ∃ r ∈ L, match1 s r = true ∧ r.data = d
 ttl : ∃ r ∈ L, match1 s r = true ∧ r.ttl = s.ttl
 low : ∀ r ∈ L, match1 s r = true → s.ttl ≤ r.ttl
theorem Ch.miss {L : List Rec} {s : RSet} {r : Rec} (h : Ch L s) (hm : match1 s r = false) : Ch (L ++ [r]) s where
 dat d := by
  rw [h.dat]
  constructor
  ·rintro ⟨q, h1, h2⟩; exact ⟨q, by simp [h1], h2⟩
  ·rintro ⟨q, h1, h2, h3⟩
   rcases List.mem_append.1 h1 with h1 | h1
   ·exact ⟨q, h1, h2, h3⟩
   ·obtain rfl := List.mem_singleton.1 h1
    rw [hm] at h2; cases h2
 ttl := let ⟨q, h1, h2⟩ := h.ttl; ⟨q, by simp [h1], h2⟩
 low q h1 h2 := by
  rcases List.mem_append.1 h1 with h1 | h1
  ·exact h.low q h1 h2
  ·obtain rfl := List.mem_singleton.1 h1
   rw [hm] at h2; cases h2
theorem Ch.bump {L : List Rec} {s : RSet} {r : Rec} (h : Ch L s) (hm : match1 s r = true) : Ch (L ++ [r]) (X.bump s r) where
 dat d := by
  show d ∈ s.data ++ [r.data] ↔ ∃ q ∈ L ++ [r], match1 s q = true ∧ q.data = d
  rw [List.mem_append, h.dat, List.mem_singleton]
  constructor
  ·rintro (⟨q, h1, h2⟩ | rfl)
   ·exact ⟨q, by simp [h1], h2⟩
   ·exact ⟨r, by simp, hm, rfl⟩
  ·rintro ⟨q, h1, h2, h3⟩
   rcases List.mem_append.1 h1 with h1 | h1
   ·exact .inl ⟨q, h1, h2, h3⟩
   ·obtain rfl := List.mem_singleton.1 h1
    exact .inr h3.symm
 ttl := by
  show ∃ q ∈ L ++ [r], match1 s q = true ∧ q.ttl = min s.ttl r.ttl
  obtain ⟨q, h1, h2, h3⟩ := h.ttl
  rcases Int.le_total s.ttl r.ttl with hl | hl
  ·exact ⟨q, by simp [h1], h2, by rw [h3]; omega⟩
  ·exact ⟨r, by simp, hm, by omega⟩
 low q h1 h2 := by
  show min s.ttl r.ttl ≤ q.ttl
  rcases List.mem_append.1 h1 with h1 | h1
  ·have := h.low q h1 h2
   omega
  ·obtain rfl := List.mem_singleton.1 h1
   omega
theorem Ch.new {L : List Rec} {r : Rec} (h : ∀ q ∈ L, match1 ⟨fold r.name, r.kind, r.ttl, [r.data]⟩ q = false) : Ch (L ++ [r]) ⟨fold r.name, r.kind, r.ttl, [r.data]⟩ where
 dat d := by
  rw [List.mem_singleton]
  constructor
  ·rintro rfl; exact ⟨r, by simp, by simp [match1], rfl⟩
  ·rintro ⟨q, h1, h2, h3⟩
   rcases List.mem_append.1 h1 with h1 | h1
   ·rw [h q h1] at h2; cases h2
   ·obtain rfl := List.mem_singleton.1 h1
    exact h3.symm
 ttl := ⟨r, by simp, by simp [match1], rfl⟩
 low q h1 h2 := by
  rcases List.mem_append.1 h1 with h1 | h1
  ·rw [h q h1] at h2; cases h2
  ·obtain rfl := List.mem_singleton.1 h1
   exact Int.le_refl _
theorem gather_ch (l : List Rec) : ∀ k, k ≤ l.length → ∀ s ∈ gather (l.take k), Ch (l.take k) s
 | 0, _, s, h => by simp [gather] at h
 | k + 1, hk, s, h => by
   have hlt : k < l.length := by omega
   have e : l.take (k + 1) = l.take k ++ [l[k]] := by simp
   rw [gather_snoc hlt] at h
   rw [e]
   have ih := gather_ch l k (by omega)
   rcases mem_addTo (gather_apart _) h with ⟨h1, h2⟩ | ⟨t, h1, h2, rfl⟩ | ⟨h1, rfl⟩
   ·exact (ih s h1).miss h2
   ·exact (ih t h1).bump h2
   ·refine Ch.new fun q hq => ?_
    obtain ⟨t, ht, hm, _⟩ := gather_cov hq
    have := h1 t ht
    cases hx : match1 ⟨fold l[k].name, l[k].kind, l[k].ttl, [l[k].data]⟩ q with
    | false => rfl
    | true =>
     exfalso
     simp only [match1, Bool.and_eq_true, decide_eq_true_eq] at hx hm
     have h5 : match1 t l[k] = true := by
      simp only [match1, Bool.and_eq_true, decide_eq_true_eq]
      exact ⟨by rw [hm.1, hx.1], by rw [hm.2, hx.2]⟩
     rw [this] at h5; cases h5
theorem Ch.norm {L : List Rec} {s : RSet} (h : Ch L s) : Ch L (X.norm s) where
 dat d := by
  show d ∈ nub s.data ↔ ∃ r ∈ L, match1 s r = true ∧ r.data = d
  rw [mem_nub, h.dat]
 ttl := h.ttl
 low := h.low
theorem groups_ch {l : List Rec} {s : RSet} (h : s ∈ groups l) : Ch l s ∧ s.data.Pairwise (· < ·) := by
 obtain ⟨u, hu, rfl⟩ := List.mem_map.1 h
 have := gather_ch l l.length (Nat.le_refl _)
 rw [List.take_length] at this
 exact ⟨(this u hu).norm, strict_nub _⟩
theorem Ch.uniq {L : List Rec} {s t : RSet} (h : Ch L s) (k : Ch L t) (hs : s.data.Pairwise (· < ·)) (ht : t.data.Pairwise (· < ·)) (hn : s.name = t.name) (hk : s.kind = t.kind) : s = t := by
 have hm : ∀ r, match1 s r = match1 t r := fun r => by rw [match1, match1, hn, hk]
 have hd : s.data = t.data := strict_eq hs ht fun d => by
  rw [h.dat, k.dat]
  simp only [hm]
 have ha : s.ttl = t.ttl := by
  obtain ⟨q, h1, h2, h3⟩ := h.ttl
  obtain ⟨q', k1, k2, k3⟩ := k.ttl
  have e1 := k.low q h1 (by rw [← hm]; exact h2)
  have e2 := h.low q' k1 (by rw [hm]; exact k2)
  omega
 cases s; cases t
 simp_all
def cmpG (s t : RSet) : Int := cmpSet s.name t.name s.kind t.kind
theorem tpoG : TPO cmpG := tpo_cmpSet.comap fun s : RSet => (s.name, s.kind)
def SO (gs : List RSet) : Prop := gs.Pairwise fun s t => cmpG s t < 0
def newS (r : Rec) (t : RSet) : RSet := ⟨fold r.name, r.kind, min r.ttl t.ttl, textS r.data t.data⟩
theorem ahead_G (a b : RSet) : aheadS a b = decide (cmpG a b < 0) := ahead_cmp a b
theorem match_key {s : RSet} {r : Rec} : match1 s r = true ↔ s.name = fold r.name ∧ s.kind = r.kind := by simp [match1]
theorem cmpG_key {s t u : RSet} (hn : s.name = t.name) (hk : s.kind = t.kind) : cmpG u s = cmpG u t ∧ cmpG s u = cmpG t u := by
 unfold cmpG; rw [hn, hk]; exact ⟨rfl, rfl⟩
theorem no_match {s : RSet} {r : Rec} (h : cmpG s (recSet r) ≠ 0) : match1 s r = false := by
 cases hm : match1 s r with
 | false => rfl
 | true =>
  obtain ⟨h1, h2⟩ := match_key.1 hm
  exact absurd (by rw [(cmpG_key (t := recSet r) h1 h2).2]; exact tpoG.refl _) h
theorem mem_putS {r : Rec} (hr : Small (fold r.name)) : ∀ {gs : List RSet} {s : RSet}, SO gs → (∀ g ∈ gs, Small g.name) → s ∈ putS r gs →
 (s ∈ gs ∧ match1 s r = false) ∨ (∃ t ∈ gs, match1 t r = true ∧ s = newS r t) ∨ ((∀ t ∈ gs, match1 t r = false) ∧ s = recSet r)
 | [], s, _, _, h => by
   right; right
   exact ⟨by simp, by simpa [putS] using h⟩
 | g :: gs, s, hso, hsm, h => by
   obtain ⟨p1, p2⟩ := List.pairwise_cons.1 hso
   have hg := hsm g (by simp)
   rw [putS, ahead_G, ahead_G] at h
   by_cases h1 : cmpG g (recSet r) < 0
   ·rw [if_pos (decide_eq_true h1)] at h
    have m1 : match1 g r = false := no_match (by omega)
    rcases List.mem_cons.1 h with rfl | h
    ·exact .inl ⟨by simp, m1⟩
    ·rcases mem_putS hr p2 (fun x hx => hsm x (by simp [hx])) h with ⟨a, b⟩ | ⟨t, a, b, c⟩ | ⟨a, b⟩
     ·exact .inl ⟨by simp [a], b⟩
     ·exact .inr (.inl ⟨t, by simp [a], b, c⟩)
     ·refine .inr (.inr ⟨fun t ht => ?_, b⟩)
      rcases List.mem_cons.1 ht with rfl | ht
      ·exact m1
      ·exact a t ht
   ·rw [if_neg (by simpa using h1)] at h
    by_cases h2 : cmpG (recSet r) g < 0
    ·rw [if_pos (decide_eq_true h2)] at h
     have m1 : match1 g r = false := no_match (by have := tpoG.anti g (recSet r); omega)
     have m2 : ∀ t ∈ gs, match1 t r = false := fun t ht => no_match (by
      have := tpoG.ltt h2 (p1 t ht)
      have := tpoG.anti t (recSet r); omega)
     rcases List.mem_cons.1 h with rfl | h
     ·refine .inr (.inr ⟨fun t ht => ?_, rfl⟩)
      rcases List.mem_cons.1 ht with rfl | ht
      ·exact m1
      ·exact m2 t ht
     ·rcases List.mem_cons.1 h with rfl | h
      ·exact .inl ⟨by simp, m1⟩
      ·exact .inl ⟨by simp [h], m2 s h⟩
    ·rw [if_neg (by simpa using h2)] at h
     have h0 : cmpG g (recSet r) = 0 := by have := tpoG.anti g (recSet r); omega
     obtain ⟨e1, e2⟩ := cmpSet_zero hg hr h0
     have mg : match1 g r = true := match_key.2 ⟨e1, e2⟩
     rcases List.mem_cons.1 h with rfl | h
     ·exact .inr (.inl ⟨g, by simp, mg, rfl⟩)
     ·refine .inl ⟨by simp [h], no_match ?_⟩
      have := p1 s h
      rw [(cmpG_key (t := recSet r) e1 e2).2] at this
      have := tpoG.anti s (recSet r); omega
theorem key_putS {r : Rec} : ∀ {gs : List RSet} {s : RSet}, s ∈ putS r gs → s ∈ gs ∨ (s.name = fold r.name ∧ s.kind = r.kind)
 | [], s, h => by
   right
   have : s = recSet r := by simpa [putS] using h
   subst this; exact ⟨rfl, rfl⟩
 | g :: gs, s, h => by
   rw [putS] at h
   split at h
   ·rcases List.mem_cons.1 h with rfl | h
    ·exact .inl (by simp)
    ·rcases key_putS h with h | h
     ·exact .inl (by simp [h])
     ·exact .inr h
   ·split at h
    ·rcases List.mem_cons.1 h with rfl | h
     ·exact .inr ⟨rfl, rfl⟩
     ·exact .inl h
    ·rcases List.mem_cons.1 h with rfl | h
     ·exact .inr ⟨rfl, rfl⟩
     ·exact .inl (by simp [h])
theorem so_putS {r : Rec} (hr : Small (fold r.name)) : ∀ {gs : List RSet}, SO gs → (∀ g ∈ gs, Small g.name) → SO (putS r gs)
 | [], _, _ => by simp [putS, SO]
 | g :: gs, hso, hsm => by
   obtain ⟨p1, p2⟩ := List.pairwise_cons.1 hso
   have hg := hsm g (by simp)
   rw [putS, ahead_G, ahead_G]
   by_cases h1 : cmpG g (recSet r) < 0
   ·rw [if_pos (decide_eq_true h1)]
    refine List.pairwise_cons.2 ⟨fun s hs => ?_, so_putS hr p2 fun x hx => hsm x (by simp [hx])⟩
    rcases key_putS hs with h | ⟨a, b⟩
    ·exact p1 s h
    ·rw [(cmpG_key (t := recSet r) a b).1]; exact h1
   ·rw [if_neg (by simpa using h1)]
    by_cases h2 : cmpG (recSet r) g < 0
    ·rw [if_pos (decide_eq_true h2)]
     refine List.pairwise_cons.2 ⟨fun s hs => ?_, hso⟩
     rcases List.mem_cons.1 hs with rfl | hs
     ·exact h2
     ·exact tpoG.ltt h2 (p1 s hs)
    ·rw [if_neg (by simpa using h2)]
     have h0 : cmpG g (recSet r) = 0 := by have := tpoG.anti g (recSet r); omega
     obtain ⟨e1, e2⟩ := cmpSet_zero hg hr h0
     refine List.pairwise_cons.2 ⟨fun s hs => ?_, p2⟩
     have := p1 s hs
     rw [(cmpG_key (s := g) (t := ⟨fold r.name, r.kind, min r.ttl g.ttl, textS r.data g.data⟩) e1 e2).2] at this
     exact this
theorem strict_textS {s : List UInt8} : ∀ {l : List (List UInt8)}, l.Pairwise (· < ·) → (textS s l).Pairwise (· < ·) ∧ ∀ x, x ∈ textS s l ↔ x = s ∨ x ∈ l
 | [], _ => by simp [textS]
 | y :: l, h => by
   obtain ⟨p1, p2⟩ := List.pairwise_cons.1 h
   obtain ⟨i1, i2⟩ := strict_textS (s := s) p2
   rw [textS]
   by_cases h1 : y < s
   ·rw [if_pos (bless.2 h1)]
    refine ⟨List.pairwise_cons.2 ⟨fun x hx => ?_, i1⟩, fun x => ?_⟩
    ·rcases (i2 x).1 hx with rfl | hx
     ·exact h1
     ·exact p1 x hx
    ·simp only [List.mem_cons, i2]; exact or_left_comm
   ·rw [if_neg (fun hb => h1 (bless.1 hb))]
    by_cases h2 : y = s
    ·rw [if_pos h2]
     subst h2
     exact ⟨h, fun x => by simp⟩
    ·rw [if_neg h2]
     have h3 : s < y := lt_of_le_ne (List.not_lt.1 h1) (fun e => h2 e.symm)
     refine ⟨List.pairwise_cons.2 ⟨fun x hx => ?_, h⟩, fun x => by simp⟩
     rcases List.mem_cons.1 hx with rfl | hx
     ·exact h3
     ·exact List.lt_trans h3 (p1 x hx)
theorem keep_putS {r : Rec} (hr : Small (fold r.name)) : ∀ {gs : List RSet}, (∀ g ∈ gs, Small g.name) → ∀ t ∈ gs, ∃ s ∈ putS r gs, s.name = t.name ∧ s.kind = t.kind
 | [], _, t, h => by simp at h
 | g :: gs, hsm, t, h => by
   have hg := hsm g (by simp)
   rw [putS, ahead_G, ahead_G]
   by_cases h1 : cmpG g (recSet r) < 0
   ·rw [if_pos (decide_eq_true h1)]
    rcases List.mem_cons.1 h with rfl | h
    ·exact ⟨t, by simp, rfl, rfl⟩
    ·obtain ⟨s, a, b⟩ := keep_putS hr (fun x hx => hsm x (by simp [hx])) t h
     exact ⟨s, by simp [a], b⟩
   ·rw [if_neg (by simpa using h1)]
    by_cases h2 : cmpG (recSet r) g < 0
    ·rw [if_pos (decide_eq_true h2)]
     exact ⟨t, List.mem_cons_of_mem _ h, rfl, rfl⟩
    ·rw [if_neg (by simpa using h2)]
     have h0 : cmpG g (recSet r) = 0 := by have := tpoG.anti g (recSet r); omega
     obtain ⟨e1, e2⟩ := cmpSet_zero hg hr h0
     rcases List.mem_cons.1 h with rfl | h
     ·exact ⟨_, List.mem_cons_self, e1.symm, e2.symm⟩
     ·exact ⟨t, by simp [h], rfl, rfl⟩
theorem new_putS (r : Rec) : ∀ gs : List RSet, ∃ s ∈ putS r gs, s.name = fold r.name ∧ s.kind = r.kind
 | [] => ⟨recSet r, by simp [putS], rfl, rfl⟩
 | g :: gs => by
   obtain ⟨s, a, b⟩ := new_putS r gs
   rw [putS]
   split
   ·exact ⟨s, by simp [a], b⟩
   ·split
    ·exact ⟨recSet r, by simp, rfl, rfl⟩
    ·exact ⟨_, List.mem_cons_self, rfl, rfl⟩
theorem Ch.newS {L : List Rec} {t : RSet} {r : Rec} (h : Ch L t) (hm : match1 t r = true) (ht : t.data.Pairwise (· < ·)) : Ch (L ++ [r]) (X.newS r t) := by
 have hb := h.bump hm
 obtain ⟨e1, e2⟩ := match_key.1 hm
 have hk : ∀ q, match1 (X.newS r t) q = match1 (X.bump t r) q := fun q => by simp only [match1, X.newS, X.bump, e1, e2]; rfl
 refine ⟨fun d => ?_, ?_, fun q hq hmq => ?_⟩
 ·show d ∈ textS r.data t.data ↔ _
  rw [(strict_textS ht).2]
  have := hb.dat d
  simp only [hk]
  rw [← this]
  show _ ↔ d ∈ t.data ++ [r.data]
  simp [or_comm]
 ·obtain ⟨q, a, b, c⟩ := hb.ttl
  exact ⟨q, a, by rw [hk]; exact b, by rw [c]; show min t.ttl r.ttl = min r.ttl t.ttl; omega⟩
 ·have := hb.low q hq (by rw [← hk]; exact hmq)
  show min r.ttl t.ttl ≤ q.ttl
  have h2 : min t.ttl r.ttl ≤ q.ttl := this
  omega
theorem small_ok {r : Rec} (h : okR r = true) : Small (fold r.name) := by
 obtain ⟨ls, hl⟩ := Option.isSome_iff_exists.1 (ready_labels (r := r) (n := []) (by simpa [okR] using h)).1
 exact ⟨r.name, ls, hl, rfl⟩
theorem putAll_inv {l : List Rec} (hok : l.all okR = true) : ∀ k, k ≤ l.length → SO (putAll (l.take k)) ∧ (∀ s ∈ putAll (l.take k), Ch (l.take k) s ∧ s.data.Pairwise (· < ·) ∧ Small s.name) ∧ ∀ q ∈ l.take k, ∃ s ∈ putAll (l.take k), match1 s q = true
 | 0, _ => by simp [putAll, SO]
 | k + 1, h => by
   have hlt : k < l.length := by omega
   obtain ⟨i1, i2, i3⟩ := putAll_inv hok k (by omega)
   have hr := small_ok (List.all_eq_true.1 hok _ (List.getElem_mem hlt))
   have hsm : ∀ g ∈ putAll (l.take k), Small g.name := fun g hg => (i2 g hg).2.2
   have e : l.take (k + 1) = l.take k ++ [l[k]] := by simp
   rw [putAll_succ hlt, e]
   refine ⟨so_putS hr i1 hsm, fun s hs => ?_, fun q hq => ?_⟩
   ·rcases mem_putS hr i1 hsm hs with ⟨a, b⟩ | ⟨t, a, b, rfl⟩ | ⟨a, rfl⟩
    ·exact ⟨(i2 s a).1.miss b, (i2 s a).2⟩
    ·exact ⟨(i2 t a).1.newS b (i2 t a).2.1, (strict_textS (i2 t a).2.1).1, hr⟩
    ·refine ⟨Ch.new fun q hq => ?_, by simp [recSet], hr⟩
     obtain ⟨t, ht, hm⟩ := i3 q hq
     cases hx : match1 ⟨fold l[k].name, l[k].kind, l[k].ttl, [l[k].data]⟩ q with
     | false => rfl
     | true =>
      exfalso
      obtain ⟨x1, x2⟩ := match_key.1 hx
      obtain ⟨y1, y2⟩ := match_key.1 hm
      have h5 : match1 t l[k] = true := match_key.2 ⟨y1.trans x1.symm, y2.trans x2.symm⟩
      rw [a t ht] at h5; cases h5
   ·rcases List.mem_append.1 hq with hq | hq
    ·obtain ⟨t, ht, hm⟩ := i3 q hq
     obtain ⟨s, a, b, c⟩ := keep_putS hr hsm t ht
     obtain ⟨y1, y2⟩ := match_key.1 hm
     exact ⟨s, a, match_key.2 ⟨b.trans y1, c.trans y2⟩⟩
    ·obtain rfl := List.mem_singleton.1 hq
     obtain ⟨s, a, b, c⟩ := new_putS l[k] (putAll (l.take k))
     exact ⟨s, a, match_key.2 ⟨b, c⟩⟩
theorem putAll_all {l : List Rec} (hok : l.all okR = true) : SO (putAll l) ∧ (∀ s ∈ putAll l, Ch l s ∧ s.data.Pairwise (· < ·) ∧ Small s.name) ∧ ∀ q ∈ l, ∃ s ∈ putAll l, match1 s q = true := by
 have := putAll_inv hok l.length (Nat.le_refl _)
 rwa [List.take_length] at this
theorem putAll_perm {l : List Rec} (hok : l.all okR = true) : (putAll l).Perm (groups l) := by
 obtain ⟨i1, i2, i3⟩ := putAll_all hok
 have n1 : (groups l).Nodup := (groups_apart _).imp fun h e => by subst e; exact h ⟨rfl, rfl⟩
 have n0 : (putAll l).Nodup := i1.imp fun h e => by subst e; have := tpoG.refl ‹RSet›; omega
 refine (List.perm_ext_iff_of_nodup n0 n1).2 fun s => ⟨fun hs => ?_, fun hs => ?_⟩
 ·obtain ⟨hc, hst, _⟩ := i2 s hs
  obtain ⟨q, h1, h2, _⟩ := hc.ttl
  obtain ⟨t, ht, hm, _⟩ := gather_cov h1
  have hg : norm t ∈ groups l := List.mem_map_of_mem ht
  obtain ⟨hc', hst'⟩ := groups_ch hg
  obtain ⟨x1, x2⟩ := match_key.1 h2
  obtain ⟨y1, y2⟩ := match_key.1 hm
  have e := hc.uniq hc' hst hst' (x1.trans y1.symm) (x2.trans y2.symm)
  rw [e]; exact hg
 ·obtain ⟨hc, hst⟩ := groups_ch hs
  obtain ⟨q, h1, h2, _⟩ := hc.ttl
  obtain ⟨t, ht, hm⟩ := i3 q h1
  obtain ⟨hc', hst', _⟩ := i2 t ht
  obtain ⟨x1, x2⟩ := match_key.1 h2
  obtain ⟨y1, y2⟩ := match_key.1 hm
  have e := hc.uniq hc' hst hst' (x1.trans y1.symm) (x2.trans y2.symm)
  rw [e]; exact ht
theorem putAll_sorted {l : List Rec} (hok : l.all okR = true) : Sorted (putAll l) := by
 obtain ⟨i1, _, _⟩ := putAll_all hok
 intro i j s t hij hi hj
 obtain ⟨a, rfl⟩ := List.getElem?_eq_some_iff.1 hi
 obtain ⟨b, rfl⟩ := List.getElem?_eq_some_iff.1 hj
 have h := List.pairwise_iff_getElem.1 i1 i j a b hij
 have := tpoG.anti (putAll l)[j] (putAll l)[i]
 show 0 ≤ cmpG (putAll l)[j] (putAll l)[i]
 omega
theorem ref_out {l : List Rec} (hok : l.all okR = true) {out : List RSet} (hp : out.Perm (groups l)) (hs : Sorted out) : out = putAll l :=
 sorted_one hok hp (putAll_perm hok) hs (putAll_sorted hok)
theorem ref_E (l : List Rec) : refE l = groupE l := by
 unfold refE groupE
 cases hok : l.all okR with
 | false => simp
 | true =>
  have hp := putAll_perm hok
  have hl := hp.length_eq
  have ha : (putAll l).any big = (groups l).any big := by
   cases h : (groups l).any big with
   | true =>
    obtain ⟨s, h1, h2⟩ := List.any_eq_true.1 h
    exact List.any_eq_true.2 ⟨s, hp.mem_iff.2 h1, h2⟩
   | false =>
    cases h' : (putAll l).any big with
    | false => rfl
    | true =>
     obtain ⟨s, h1, h2⟩ := List.any_eq_true.1 h'
     rw [List.any_eq_true.2 ⟨s, hp.mem_iff.1 h1, h2⟩] at h; cases h
  rw [ha, hl]
  simp only [Bool.true_eq_false, if_false]
  split <;> split <;> rfl
def zzone : List Value := [str [], .slice none 0 0]
theorem textS_mem {s x : List UInt8} : ∀ {l : List (List UInt8)}, x ∈ textS s l → x = s ∨ x ∈ l
 | [], h => by simp [textS] at h; exact .inl h
 | y :: l, h => by
   unfold textS at h
   split at h
   ·rcases List.mem_cons.1 h with rfl | h
    ·exact .inr (by simp)
    ·rcases textS_mem h with h | h
     ·exact .inl h
     ·exact .inr (by simp [h])
   ·split at h
    ·exact .inr h
    ·rcases List.mem_cons.1 h with rfl | h
     ·exact .inl rfl
     ·exact .inr h
theorem putS_mem {r : Rec} : ∀ {gs : List RSet} {s : RSet} {d : List UInt8}, s ∈ putS r gs → d ∈ s.data → d = r.data ∨ ∃ t ∈ gs, d ∈ t.data
 | [], s, d, h, hd => by
   have : s = recSet r := by simpa [putS] using h
   subst this
   exact .inl (by simpa [recSet] using hd)
 | g :: gs, s, d, h, hd => by
   rw [putS] at h
   split at h
   ·rcases List.mem_cons.1 h with rfl | h
    ·exact .inr ⟨s, by simp, hd⟩
    ·rcases putS_mem h hd with h | ⟨t, ht, h⟩
     ·exact .inl h
     ·exact .inr ⟨t, by simp [ht], h⟩
   ·split at h
    ·rcases List.mem_cons.1 h with rfl | h
     ·exact .inl (by simpa [recSet] using hd)
     ·exact .inr ⟨s, h, hd⟩
    ·rcases List.mem_cons.1 h with rfl | h
     ·rcases textS_mem hd with h | h
      ·exact .inl h
      ·exact .inr ⟨g, by simp, h⟩
     ·exact .inr ⟨s, by simp [h], hd⟩
theorem putAll_mem {l : List Rec} : ∀ k, k ≤ l.length → ∀ s ∈ putAll (l.take k), ∀ d ∈ s.data, ∃ r ∈ l, d = r.data
 | 0, _, s, hs, _, _ => by simp [putAll] at hs
 | k + 1, h, s, hs, d, hd => by
   rw [putAll_succ (show k < l.length by omega)] at hs
   rcases putS_mem hs hd with h1 | ⟨t, ht, h1⟩
   ·exact ⟨_, List.getElem_mem _, h1⟩
   ·exact putAll_mem k (by omega) t ht d h1
theorem putAll_data {l : List Rec} {s : RSet} (hs : s ∈ putAll l) {d : List UInt8} (hd : d ∈ s.data) : ∃ r ∈ l, d = r.data :=
 putAll_mem l.length (Nat.le_refl _) s (by rw [List.take_length]; exact hs) d hd
theorem putAll_len (l : List Rec) : ∀ s ∈ putAll l, s.data.length ≤ l.length := by
 have := (putAll_bounds l l.length (Nat.le_refl _)).2
 rwa [List.take_length] at this
def loadE (o : List UInt8) (l : List Rec) : Int := if refE l = 0 then zoneR (fold o) (putAll l) else refE l
def loadO (o : List UInt8) (l : List Rec) : List UInt8 := if loadE o l = 0 then fold o else []
def loadL (o : List UInt8) (l : List Rec) : List RSet := if loadE o l = 0 then putAll l else []
def LoadU (B : Nat) (o : List UInt8) (l : List Rec) (r : Value) (w' : World) : Prop :=
 ∃ v, r = .tuple #[.agg #[str (loadO o l), v], .int .i64 (loadE o l)] ∧ SetsO B w' v (loadL o l)
theorem LoadU.bad {B : Nat} {o : List UInt8} {l : List Rec} {e : Int} {w' : World} (h : loadE o l = e) (he : e ≠ 0) : LoadU B o l (.tuple #[.agg zzone.toArray, .int .i64 e]) w' := by
 refine ⟨.slice none 0 0, ?_, ?_⟩
 ·rw [h, loadO, if_neg (by rw [h]; exact he)]; rfl
 ·rw [loadL, if_neg (by rw [h]; exact he)]; exact SetsO.nil _ _
theorem LoadU.good {B : Nat} {o : List UInt8} {l : List Rec} {v : Value} {w' : World} (h : loadE o l = 0) (hv : SetsO B w' v (putAll l)) : LoadU B o l (.tuple #[.agg #[str (fold o), v], .int .i64 0]) w' := by
 refine ⟨v, ?_, ?_⟩
 ·rw [loadO, if_pos h, h]
 ·rw [loadL, if_pos h]; exact hv
def GroupU (B : Nat) (l : List Rec) (r : Value) (w' : World) : Prop := ∃ v, r = .tuple #[v, .int .i64 (refE l)] ∧ (refE l = 0 → SetsO B w' v (putAll l))
theorem RefR.uni {B : Nat} {l : List Rec} {r : Value} {w' : World} (h : RefR B l r w') : GroupU B l r w' := by
 unfold RefR at h
 split at h
 ·rename_i h0
  obtain ⟨v, rfl, hv⟩ := h
  exact ⟨v, by rw [h0], fun _ => hv⟩
 ·rename_i h0
  exact ⟨_, h, fun h1 => absurd h1 h0⟩
theorem GroupO.uni {B : Nat} {l : List Rec} {r : Value} {w' : World} (h : GroupO B l r w') : GroupU B l r w' := by
 unfold GroupO at h
 rw [← ref_E] at h
 split at h
 ·rename_i h0
  obtain ⟨out, v, rfl, hp, hs, hv⟩ := h
  have hok : l.all okR = true := by
   cases hok : l.all okR with
   | true => rfl
   | false => rw [refE, if_pos hok] at h0; cases h0
  have e := ref_out hok hp hs
  exact ⟨v, by rw [h0], fun _ => by rw [← e]; exact hv⟩
 ·rename_i h0
  exact ⟨_, h, fun h1 => absurd h1 h0⟩
theorem zone_one {o : List UInt8} {v : Value} (h : v.oneCell' = true) : (Value.agg #[str o, v]).cells.all (·.oneCell') = true := by
 simp [Value.cells, h, show (str o).oneCell' = true from rfl]
set_option maxHeartbeats 3000000 in
theorem p_Load (o : List UInt8) (v : Value) (l : List Rec) (w : World) (hv : Sl 4 w v (rcells l)) (hl : l.length ≤ 10000) (hd : ∀ r ∈ l, r.data.length ≤ 4611686018427387904) : Calls Tryz.prog 21 #[str o, v] w (Ret w (LoadU w.heap.size o l)) := by
 have hb : ∀ s ∈ putAll l, s.data.length ≤ 1000000 := fun s hs => by have := putAll_len l s hs; omega
 have hd2 : ∀ s ∈ putAll l, ∀ d ∈ s.data, d.length ≤ 4611686018427387904 := fun s hs d hd3 => by
  obtain ⟨r, hr, rfl⟩ := putAll_data hs hd3
  exact hd r hr
 go_enter Tryz.func21, Tryz.ntmps21
 repeat' (first | ((with_reducible refine nx0 ?_); go_step) | fail)
 refine wpl_allocB (z := zzone) rfl (by decide +kernel) ?_
 intro w1 x1 s1 h1
 refine gset ?_
 have hv1 := hv.ext x1
 (repeat' first | ((with_reducible refine nx0 ?_); go_step) | ((with_reducible refine o_s ?_); first | refine wk0 ?_ | (refine wg0 ?_ ?_ <;> intro hc)) | fail)
 refine wpl_callR (enters_of Tryz.func68 rfl rfl) rfl rfl (t9o v l _ hv1 hl) ?_
 intro r w2 x2 hr
 obtain ⟨y, rfl, hy⟩ := hr.uni
 clear hr
 have h2 := x2.at h1
 have hx2 := x1.trans x2
 by_cases hE : refE l = 0
 ·have hy := hy hE
  have hLE : loadE o l = zoneR (fold o) (putAll l) := by rw [loadE, if_pos hE]
  rw [hE]
  obtain ⟨ya, yn, yc, hys⟩ : ∃ a n c, y = .slice a n c := by obtain ⟨css, h, _⟩ := hy; exact h.slf
  (repeat' first | ((with_reducible refine nx0 ?_); go_step) | ((with_reducible refine o_s ?_); first | refine wk0 ?_ | (refine wg0 ?_ ?_ <;> intro hc)) | fail)
  refine wpl_callV (enters_of Tryz.func69 rfl rfl) rfl rfl (t17 o _) ?_; intro w3 x3; refine gset ?_
  have h3 := x3.at h2
  have hx3 := hx2.trans x3
  have hy3 := hy.ext x3
  (repeat' first | ((with_reducible refine nx0 ?_); go_step) | ((with_reducible refine o_s ?_); first | refine wk0 ?_ | (refine wg0 ?_ ?_ <;> intro hc)) | fail)
  refine wpl_run (v := .agg #[str (fold o), y]) rfl (Runs.build (vals := [(0, str (fold o)), (1, y)]) rfl (by rw [hys]; kernel_rfl)) ?_
  refine gset ?_
  refine wpl_allocB (z := zzone) rfl (by decide +kernel) ?_
  intro w4 x4 s4 h4
  refine gset ?_
  have hy1 : y.oneCell' = true := by rw [hys]; rfl
  refine wpl_storeB (v := .agg #[str (fold o), y]) rfl rfl rfl h4 (show sizeTy Tryz.prog 34 2 = true by decide +kernel) rfl (zone_one hy1) ?_
  intro w5 p5
  have x5 : Ext w3 w5 := x4.move p5.mv (by rintro k ⟨⟩; exact Nat.le_refl _)
  have h5 := pts_block (cs := [str (fold o), y]) p5.this
  have hx5 := hx3.trans x5
  have hy5 := hy3.ext x5
  have hz5 := x5.at h3
  clear p5 h4 x4
  (repeat' first | ((with_reducible refine nx0 ?_); go_step) | ((with_reducible refine o_s ?_); first | refine wk0 ?_ | (refine wg0 ?_ ?_ <;> intro hc)) | fail)
  refine wpl_callV (enters_of Tryz.func39 rfl rfl) rfl rfl (p_Check (fold o) y (putAll l) _ hy5.sets hb) ?_; intro w6 x6; refine gset ?_
  have h6 := h5.ext x6
  have hx6 := hx5.trans x6
  have hy6 := hy5.ext x6
  have hz6 := x6.at hz5
  (repeat' first | ((with_reducible refine nx0 ?_); go_step) | ((with_reducible refine o_s ?_); first | refine wk0 ?_ | (refine wg0 ?_ ?_ <;> intro hc)) | fail)
  ·have q : ¬ zoneR (fold o) (putAll l) = 0 := by simpa using (by assumption : (!decide (zoneR (fold o) (putAll l) = 0)) = true)
   refine wpl_run (v := .agg zzone.toArray) rfl (Runs.build0 (by kernel_rfl)) ?_
   refine gset ?_
   (repeat' first | ((with_reducible refine nx0 ?_); go_step) | ((with_reducible refine o_s ?_); first | refine wk0 ?_ | (refine wg0 ?_ ?_ <;> intro hc)) | fail)
   refine wpl_storeB (v := .agg zzone.toArray) rfl rfl rfl hz6 (by decide +kernel) rfl (by decide +kernel) ?_
   intro w7 p7
   have x7 : Ext w w7 := hx6.move p7.mv (by rintro k ⟨⟩; exact Nat.le_refl _)
   (repeat' first | ((with_reducible refine nx0 ?_); go_step) | ((with_reducible refine o_s ?_); first | refine wk0 ?_ | (refine wg0 ?_ ?_ <;> intro hc)) | fail)
   refine bodyPost_ret (results_cellT (cs := zzone) rfl rfl p7.this (by decide +kernel)) rfl ⟨_, rfl, x7, ?_⟩
   exact LoadU.bad hLE q
  ·have q : zoneR (fold o) (putAll l) = 0 := by simpa using (by assumption : (!decide (zoneR (fold o) (putAll l) = 0)) = false)
   refine wpl_storeB (v := .agg #[str (fold o), y]) rfl rfl rfl hz6 (show sizeTy Tryz.prog 34 2 = true by decide +kernel) rfl (zone_one hy1) ?_
   intro w7 p7
   have x7 : Ext w w7 := hx6.move p7.mv (by rintro k ⟨⟩; exact Nat.le_refl _)
   have hy7 := hy6.put p7 (by have := s1; omega)
   (repeat' first | ((with_reducible refine nx0 ?_); go_step) | ((with_reducible refine o_s ?_); first | refine wk0 ?_ | (refine wg0 ?_ ?_ <;> intro hc)) | fail)
   refine bodyPost_ret (results_cellT (cs := [str (fold o), y]) rfl rfl p7.this (show aggTy Tryz.prog 34 2 = true by decide +kernel)) rfl ⟨_, rfl, x7, ?_⟩
   exact LoadU.good (by rw [hLE, q]) (hy7.weaken x1.size)
 ·have hLE : loadE o l = refE l := by rw [loadE, if_neg hE]
  (repeat' first | ((with_reducible refine nx0 ?_); go_step) | ((with_reducible refine o_s ?_); first | refine wk0 ?_ | (refine wg0 ?_ ?_ <;> intro hc)) | fail)
  ·refine wpl_run (v := .agg zzone.toArray) rfl (Runs.build0 (by kernel_rfl)) ?_
   refine gset ?_
   (repeat' first | ((with_reducible refine nx0 ?_); go_step) | ((with_reducible refine o_s ?_); first | refine wk0 ?_ | (refine wg0 ?_ ?_ <;> intro hc)) | fail)
   refine wpl_storeB (v := .agg zzone.toArray) rfl rfl rfl h2 (by decide +kernel) rfl (by decide +kernel) ?_
   intro w3 p3
   have x3 : Ext w w3 := hx2.move p3.mv (by rintro k ⟨⟩; exact Nat.le_refl _)
   (repeat' first | ((with_reducible refine nx0 ?_); go_step) | ((with_reducible refine o_s ?_); first | refine wk0 ?_ | (refine wg0 ?_ ?_ <;> intro hc)) | fail)
   refine bodyPost_ret (results_cellT (cs := zzone) rfl rfl p3.this (by decide +kernel)) rfl ⟨_, rfl, x3, ?_⟩
   exact LoadU.bad hLE hE
  ·exact absurd (by assumption : (!decide (refE l = 0)) = false) (by simp [hE])
set_option maxHeartbeats 3000000 in
theorem r8_Load (o : List UInt8) (v : Value) (l : List Rec) (w : World) (hv : Sl 4 w v (rcells l)) (hl : l.length ≤ 10000) (hd : ∀ r ∈ l, r.data.length ≤ 4611686018427387904) : Calls Tryz.prog 114 #[str o, v] w (Ret w (LoadU w.heap.size o l)) := by
 have hb : ∀ s ∈ putAll l, s.data.length ≤ 1000000 := fun s hs => by have := putAll_len l s hs; omega
 have hd2 : ∀ s ∈ putAll l, ∀ d ∈ s.data, d.length ≤ 4611686018427387904 := fun s hs d hd3 => by
  obtain ⟨r, hr, rfl⟩ := putAll_data hs hd3
  exact hd r hr
 go_enter Tryz.func114, Tryz.ntmps114
 repeat' (first | ((with_reducible refine nx0 ?_); go_step) | fail)
 refine wpl_allocB (z := zzone) rfl (by decide +kernel) ?_
 intro w1 x1 s1 h1
 refine gset ?_
 have hv1 := hv.ext x1
 (repeat' first | ((with_reducible refine nx0 ?_); go_step) | ((with_reducible refine o_s ?_); first | refine wk0 ?_ | (refine wg0 ?_ ?_ <;> intro hc)) | fail)
 refine wpl_callR (enters_of Tryz.func171 rfl rfl) rfl rfl (r7_Group v l _ hv1 hl hd) ?_
 intro r w2 x2 hr
 obtain ⟨y, rfl, hy⟩ := hr.uni
 clear hr
 have h2 := x2.at h1
 have hx2 := x1.trans x2
 by_cases hE : refE l = 0
 ·have hy := hy hE
  have hLE : loadE o l = zoneR (fold o) (putAll l) := by rw [loadE, if_pos hE]
  rw [hE]
  obtain ⟨ya, yn, yc, hys⟩ : ∃ a n c, y = .slice a n c := by obtain ⟨css, h, _⟩ := hy; exact h.slf
  (repeat' first | ((with_reducible refine nx0 ?_); go_step) | ((with_reducible refine o_s ?_); first | refine wk0 ?_ | (refine wg0 ?_ ?_ <;> intro hc)) | fail)
  refine wpl_callV (enters_of Tryz.func113 rfl rfl) rfl rfl (r1_Fold o _) ?_; intro w3 x3; refine gset ?_
  have h3 := x3.at h2
  have hx3 := hx2.trans x3
  have hy3 := hy.ext x3
  (repeat' first | ((with_reducible refine nx0 ?_); go_step) | ((with_reducible refine o_s ?_); first | refine wk0 ?_ | (refine wg0 ?_ ?_ <;> intro hc)) | fail)
  refine wpl_run (v := .agg #[str (fold o), y]) rfl (Runs.build (vals := [(0, str (fold o)), (1, y)]) rfl (by rw [hys]; kernel_rfl)) ?_
  refine gset ?_
  refine wpl_allocB (z := zzone) rfl (by decide +kernel) ?_
  intro w4 x4 s4 h4
  refine gset ?_
  have hy1 : y.oneCell' = true := by rw [hys]; rfl
  refine wpl_storeB (v := .agg #[str (fold o), y]) rfl rfl rfl h4 (show sizeTy Tryz.prog 34 2 = true by decide +kernel) rfl (zone_one hy1) ?_
  intro w5 p5
  have x5 : Ext w3 w5 := x4.move p5.mv (by rintro k ⟨⟩; exact Nat.le_refl _)
  have h5 := pts_block (cs := [str (fold o), y]) p5.this
  have hx5 := hx3.trans x5
  have hy5 := hy3.ext x5
  have hz5 := x5.at h3
  clear p5 h4 x4
  (repeat' first | ((with_reducible refine nx0 ?_); go_step) | ((with_reducible refine o_s ?_); first | refine wk0 ?_ | (refine wg0 ?_ ?_ <;> intro hc)) | fail)
  refine wpl_callV (enters_of Tryz.func91 rfl rfl) rfl rfl (r8_Check (fold o) y (putAll l) _ hy5.sets hb hd2) ?_; intro w6 x6; refine gset ?_
  have h6 := h5.ext x6
  have hx6 := hx5.trans x6
  have hy6 := hy5.ext x6
  have hz6 := x6.at hz5
  (repeat' first | ((with_reducible refine nx0 ?_); go_step) | ((with_reducible refine o_s ?_); first | refine wk0 ?_ | (refine wg0 ?_ ?_ <;> intro hc)) | fail)
  ·have q : ¬ zoneR (fold o) (putAll l) = 0 := by simpa using (by assumption : (!decide (zoneR (fold o) (putAll l) = 0)) = true)
   refine wpl_run (v := .agg zzone.toArray) rfl (Runs.build0 (by kernel_rfl)) ?_
   refine gset ?_
   (repeat' first | ((with_reducible refine nx0 ?_); go_step) | ((with_reducible refine o_s ?_); first | refine wk0 ?_ | (refine wg0 ?_ ?_ <;> intro hc)) | fail)
   refine wpl_storeB (v := .agg zzone.toArray) rfl rfl rfl hz6 (by decide +kernel) rfl (by decide +kernel) ?_
   intro w7 p7
   have x7 : Ext w w7 := hx6.move p7.mv (by rintro k ⟨⟩; exact Nat.le_refl _)
   (repeat' first | ((with_reducible refine nx0 ?_); go_step) | ((with_reducible refine o_s ?_); first | refine wk0 ?_ | (refine wg0 ?_ ?_ <;> intro hc)) | fail)
   refine bodyPost_ret (results_cellT (cs := zzone) rfl rfl p7.this (by decide +kernel)) rfl ⟨_, rfl, x7, ?_⟩
   exact LoadU.bad hLE q
  ·have q : zoneR (fold o) (putAll l) = 0 := by simpa using (by assumption : (!decide (zoneR (fold o) (putAll l) = 0)) = false)
   refine wpl_storeB (v := .agg #[str (fold o), y]) rfl rfl rfl hz6 (show sizeTy Tryz.prog 34 2 = true by decide +kernel) rfl (zone_one hy1) ?_
   intro w7 p7
   have x7 : Ext w w7 := hx6.move p7.mv (by rintro k ⟨⟩; exact Nat.le_refl _)
   have hy7 := hy6.put p7 (by have := s1; omega)
   (repeat' first | ((with_reducible refine nx0 ?_); go_step) | ((with_reducible refine o_s ?_); first | refine wk0 ?_ | (refine wg0 ?_ ?_ <;> intro hc)) | fail)
   refine bodyPost_ret (results_cellT (cs := [str (fold o), y]) rfl rfl p7.this (show aggTy Tryz.prog 34 2 = true by decide +kernel)) rfl ⟨_, rfl, x7, ?_⟩
   exact LoadU.good (by rw [hLE, q]) (hy7.weaken x1.size)
 ·have hLE : loadE o l = refE l := by rw [loadE, if_neg hE]
  (repeat' first | ((with_reducible refine nx0 ?_); go_step) | ((with_reducible refine o_s ?_); first | refine wk0 ?_ | (refine wg0 ?_ ?_ <;> intro hc)) | fail)
  ·refine wpl_run (v := .agg zzone.toArray) rfl (Runs.build0 (by kernel_rfl)) ?_
   refine gset ?_
   (repeat' first | ((with_reducible refine nx0 ?_); go_step) | ((with_reducible refine o_s ?_); first | refine wk0 ?_ | (refine wg0 ?_ ?_ <;> intro hc)) | fail)
   refine wpl_storeB (v := .agg zzone.toArray) rfl rfl rfl h2 (by decide +kernel) rfl (by decide +kernel) ?_
   intro w3 p3
   have x3 : Ext w w3 := hx2.move p3.mv (by rintro k ⟨⟩; exact Nat.le_refl _)
   (repeat' first | ((with_reducible refine nx0 ?_); go_step) | ((with_reducible refine o_s ?_); first | refine wk0 ?_ | (refine wg0 ?_ ?_ <;> intro hc)) | fail)
   refine bodyPost_ret (results_cellT (cs := zzone) rfl rfl p3.this (by decide +kernel)) rfl ⟨_, rfl, x3, ?_⟩
   exact LoadU.bad hLE hE
  ·exact absurd (by assumption : (!decide (refE l = 0)) = false) (by simp [hE])
theorem flatten_setF {k : Nat} {c : Value} : ∀ (es : List (List Value)) (i j : Nat) (e : List Value), (∀ x ∈ es, x.length = k) → es[i]? = some e → j < k → (es.set i (e.set j c)).flatten = es.flatten.set (i * k + j) c
 | [], i, _, _, _, hi, _ => by simp at hi
 | x :: es, 0, j, e, hall, hi, hj => by
   have hx := hall x (by simp)
   cases hi
   simp only [List.set_cons_zero, List.flatten_cons, Nat.zero_mul, Nat.zero_add]
   rw [List.set_append_left _ _ (by omega)]
 | x :: es, i + 1, j, e, hall, hi, hj => by
   have hx := hall x (by simp)
   simp only [List.set_cons_succ, List.flatten_cons]
   rw [flatten_setF es i j e (fun y hy => hall y (by simp [hy])) (by simpa using hi) hj]
   rw [List.set_append_right _ _ (by rw [Nat.add_mul]; omega), show (i + 1) * k + j - x.length = i * k + j by rw [hx, Nat.add_mul]; omega]
theorem Own.storeF {P : Program} {B k e : Nat} {w : World} {v : Value} {es : List (List Value)} {t : TypeId} {i j : Nat} {ce : List Value} {c : Value} (h : Own B k e w v es) (hi : es[i]? = some ce) (hj : j < k) (hs : sizeTy P t 1 = true) (h1 : c.oneCell' = true) :
 ∃ w' b o, partPtr (elemPtr v (i * k)) j = .pointer (some ⟨b, o, none⟩) ∧ (storeVar t ⟨b, o, none⟩ c).run P w = .ok () w' ∧ Own B k e w' v (es.set i (ce.set j c)) ∧ Mv v.ownBlock w w' := by
 have hil := (List.getElem?_eq_some_iff.1 hi).1
 have hce : ce.length = k := h.each ce (List.mem_of_getElem? hi)
 have hcc : c.cells = #[c] := by cases c <;> first | rfl | cases h1
 rcases h.row.2 with ⟨rfl, h0⟩ | ⟨g, cap, cur, fz, rfl, hb, hg, hfz, hnc, hcm, hcs, htake⟩
 ·omega
 ·have hl := length_flatten_of h.each
  have hik : i * k + k ≤ es.length * k := by
   have : (i + 1) * k ≤ es.length * k := Nat.mul_le_mul_right k hil
   rwa [Nat.add_mul, Nat.one_mul] at this
  have hck : es.length * k ≤ cap * k := Nat.mul_le_mul_right k hnc
  have hst := run_storeCells_G P g (i * k + j) e fz [c] 0 cur w hg hfz (by simp; omega) (by simpa using h1)
  simp only [Nat.add_zero, List.length_cons, List.length_nil, Nat.zero_add] at hst
  have hset : cur.toList.take (i * k + j) ++ [c] ++ cur.toList.drop (i * k + j + 1) = cur.toList.set (i * k + j) c := by
   rw [List.set_eq_take_append_cons_drop, if_pos (by simp; omega)]; simp
  rw [hset] at hst
  obtain ⟨ti, hq, hsz⟩ := info_of (sizeTy_spec hs)
  have hall : ∀ x ∈ es.set i (ce.set j c), x.length = k := by
   intro x hx
   rcases List.mem_or_eq_of_mem_set hx with hx | rfl
   ·exact h.each x hx
   ·simpa using hce
  refine ⟨w.setRow g (cur.toList.set (i * k + j) c).toArray, g, i * k + j, by simp [elemPtr, partPtr, add_none], ?_, ⟨⟨?_, .inr ⟨g, cap, (cur.toList.set (i * k + j) c).toArray, fz, ?_, hb, setRow_heap w g cur _ e _ hg, ?_, ?_, hcm, ?_, ?_⟩⟩, hall⟩, ⟨rfl, rfl, rfl, by simp, fun k _ hk => setRow_other w g k _ (fun e => hk (by simp [Value.ownBlock, e])), Nat.le_refl _⟩⟩
  ·simpa [storeVar, sizeOf, typeInfo, hq, hsz, hcc] using hst
  ·rw [length_flatten_of hall]
  ·simp
  ·simpa using hfz
  ·simpa using hnc
  ·simpa using hcs
  ·rw [flatten_setF es i j ce h.each hi hj, ← htake]
   simp only [List.length_set, List.take_set]
section
variable {P : Program} {ops : Array Oper} {Q : Exit → Act → World → Prop} {w : World} {rest : List Oper} {ts : List Value} {df : List Deferred} {ty : TypeId} {ps : String} {af : Array Edge} {g : Option (Nat × Bool)}
theorem wpl_storeEF {B k e : Nat} {v c : Value} {es : List (List Value)} {ce : List Value} {t ty2 : TypeId} {x y : Operand} {i j : Nat} (hw : Region.wanted (Oper.mk none (.store t x y) ty2 ps af g) (yielded ops ts.toArray) = true)
 (hx : (Act.mk ts.toArray df).eval x = partPtr (elemPtr v (i * k)) j) (hy : (Act.mk ts.toArray df).eval y = c) (h : Own B k e w v es) (hi : es[i]? = some ce) (hj : j < k) (hs : sizeTy P t 1 = true) (h1 : c.oneCell' = true)
 (hk : ∀ w', Own B k e w' v (es.set i (ce.set j c)) → Mv v.ownBlock w w' → wpList P ops Q rest (Act.mk ts.toArray df) w') : wpList P ops Q (Oper.mk none (.store t x y) ty2 ps af g :: rest) (Act.mk ts.toArray df) w := by
 obtain ⟨w', b, o, he, hr, ho, hm⟩ := h.storeF (P := P) hi hj hs h1
 refine wpl_skipper hw (w' := w') ?_ (hk w' ho hm)
 simp [execOp, hx, hy, he, Instr.storeAt, Instr.sureAddr, hr]
end
structure SetsW (B : Nat) (w : World) (css : List (List Value)) (l : List RSet) : Prop where
 len : css.length = l.length
 at' : ∀ (i : Nat) (s : RSet), l[i]? = some s → ∃ x, css[i]? = some [str s.name, .int .i64 s.kind, .int .i64 s.ttl, x] ∧ Own B 1 9 w x (tcells s.data)
theorem SetsW.sets {B : Nat} {w : World} {css : List (List Value)} {l : List RSet} (h : SetsW B w css l) : SetsC w css l :=
 ⟨h.len, fun i s hi => let ⟨x, a, b⟩ := h.at' i s hi; ⟨x, a, b.sl⟩⟩
theorem SetsW.ext {B : Nat} {w w' : World} {css : List (List Value)} {l : List RSet} (h : SetsW B w css l) (hx : Ext w w') : SetsW B w' css l :=
 ⟨h.len, fun i s hi => let ⟨x, a, b⟩ := h.at' i s hi; ⟨x, a, b.ext hx⟩⟩
theorem SetsW.mv {B B' k' e' : Nat} {w w' : World} {css : List (List Value)} {l : List RSet} {v : Value} {es : List (List Value)} (h : SetsW B w css l) (ho : Own B' k' e' w v es) (he : 9 ≠ e') (hm : Mv v.ownBlock w w') : SetsW B w' css l :=
 ⟨h.len, fun i s hi => let ⟨x, a, b⟩ := h.at' i s hi; ⟨x, a, b.mv hm (b.ne ho he)⟩⟩
theorem SetsW.put {B b t : Nat} {w w' : World} {css : List (List Value)} {l : List RSet} {cs : Array Value} {fz : Nat × Nat} {o : Obj} (h : SetsW B w css l) (hb : w.heap[b]? = some (.cells cs t fz)) (ht : t ≠ 9) (hp : Put w w' b o) : SetsW B w' css l :=
 ⟨h.len, fun i s hi => let ⟨x, a, c⟩ := h.at' i s hi; ⟨x, a, c.mv hp.mv (.inr (c.neBlock hb ht))⟩⟩
theorem SetsW.weaken {B C : Nat} {w : World} {css : List (List Value)} {l : List RSet} (h : SetsW B w css l) (hc : C ≤ B) : SetsW C w css l :=
 ⟨h.len, fun i s hi => let ⟨x, a, b⟩ := h.at' i s hi; ⟨x, a, b.weaken hc⟩⟩
theorem SetsW.append {B : Nat} {w : World} {l m : List RSet} {c d : List (List Value)} (h : SetsW B w c l) (k : SetsW B w d m) : SetsW B w (c ++ d) (l ++ m) := by
 refine ⟨by rw [List.length_append, List.length_append, h.len, k.len], fun i s hi => ?_⟩
 rw [List.getElem?_append] at hi ⊢
 rw [h.len]
 split at hi
 ·rw [if_pos ‹_›]; exact h.at' i s hi
 ·rw [if_neg ‹_›]; exact k.at' _ s hi
theorem SetsW.one {B : Nat} {w : World} {s : RSet} {x : Value} (h : Own B 1 9 w x (tcells s.data)) : SetsW B w [[str s.name, .int .i64 s.kind, .int .i64 s.ttl, x]] [s] :=
 ⟨rfl, fun i t hi => by
  match i, hi with
  | 0, hi => cases hi; exact ⟨x, rfl, h⟩⟩
theorem SetsW.nil (B : Nat) (w : World) : SetsW B w [] [] := ⟨rfl, by simp⟩
theorem SetsW.from' {B C : Nat} {w : World} {css : List (List Value)} {l : List RSet} (h : SetsW B w css l) (hc : C ≤ B) : FromC C css := by
 intro f hf u hu
 obtain ⟨i, hi, rfl⟩ := List.mem_iff_getElem.1 hf
 obtain ⟨x, h1, h2⟩ := h.at' i _ (List.getElem?_eq_getElem (by rw [← h.len]; exact hi))
 rw [List.getElem?_eq_getElem hi] at h1
 rw [Option.some.inj h1] at hu
 exact (FromC.one (h2.from' hc)) _ (List.mem_singleton.2 rfl) u hu
structure SetsV (B : Nat) (w : World) (v : Value) (l : List RSet) : Prop where
 out : ∃ css, Own B 4 115 w v css ∧ SetsW B w css l
theorem SetsV.toO {B C : Nat} {w : World} {v : Value} {l : List RSet} (h : SetsV B w v l) (hc : C ≤ B) : SetsO C w v l := by
 obtain ⟨css, h1, h2⟩ := h
 exact ⟨css, h1.sl, h1.from' hc, h2.sets, h2.from' hc⟩
theorem SetsV.ext {B : Nat} {w w' : World} {v : Value} {l : List RSet} (h : SetsV B w v l) (hx : Ext w w') : SetsV B w' v l := by
 obtain ⟨css, h1, h2⟩ := h
 exact ⟨css, h1.ext hx, h2.ext hx⟩
theorem SetsV.weaken {B C : Nat} {w : World} {v : Value} {l : List RSet} (h : SetsV B w v l) (hc : C ≤ B) : SetsV C w v l := by
 obtain ⟨css, h1, h2⟩ := h
 exact ⟨css, h1.weaken hc, h2.weaken hc⟩
theorem SetsV.put {B b t : Nat} {w w' : World} {v : Value} {l : List RSet} {cs : Array Value} {fz : Nat × Nat} {o : Obj} (h : SetsV B w v l) (hb : w.heap[b]? = some (.cells cs t fz)) (ht : t ≠ 9) (ht2 : t ≠ 115) (hp : Put w w' b o) : SetsV B w' v l := by
 obtain ⟨css, h1, h2⟩ := h
 exact ⟨css, h1.mv hp.mv (.inr (h1.neBlock hb ht2)), h2.put hb ht hp⟩
theorem SetsV.slf {B : Nat} {w : World} {v : Value} {l : List RSet} (h : SetsV B w v l) : ∃ a n c, v = .slice a n c := by
 obtain ⟨css, h1, h2⟩ := h
 exact h1.sl.slf
set_option maxHeartbeats 6000000 in
theorem r7_Copies (v : Value) (l : List RSet) (w : World) (hv : SetsAt w v l) (hl : l.length ≤ 100000) (hb : ∀ s ∈ l, s.data.length ≤ 1000000) : Calls Tryz.prog 105 #[v] w (Ret w fun r w' => SetsV w.heap.size w' r l) := by
 obtain ⟨cv, hv1, hvl⟩ := hv.sl
 have hle := hv1.le
 go_enter Tryz.func105, Tryz.ntmps105
 (repeat' first | ((with_reducible refine nx0 ?_); go_step) | ((with_reducible refine o_s ?_); first | refine wk0 ?_ | (refine wg0 ?_ ?_ <;> intro hc)) | fail)
 go_loopw [3, 4] (fun o i wr => ∃ (k : Nat) (css : List (List Value)), k ≤ l.length ∧ i = .int .i64 k ∧ Ext w wr ∧ Own w.heap.size 4 115 wr o css ∧ SetsW w.heap.size wr css (l.take k)) (fun _ i _ => l.length - (intOf i).toNat)
 case atStart => exact ⟨0, [], Nat.zero_le _, rfl, Ext.refl _, Own.nil _ _ _ _, SetsW.nil _ _⟩
 case round =>
  obtain ⟨k, css, hk, rfl, hx, ho, hs⟩ := hrel
  have hv2 := hv1.ext hx
  have hsl := hs.len
  rw [List.length_take] at hsl
  by_cases hlt : k < l.length
  ·obtain ⟨x, h4, h4d⟩ := (hv.ext hx).elem (List.getElem?_eq_getElem hlt)
   (repeat' first | ((with_reducible refine nx0 ?_); go_step) | ((with_reducible refine o_s ?_); first | refine wk0 ?_ | (refine wg0 ?_ ?_ <;> intro hc)) | fail)
   refine wpl_callR (enters_of Tryz.func164 rfl rfl) rfl rfl (r7_Copy l[k] x _ h4d (hb _ (List.getElem_mem hlt))) ?_
   intro r2 w2 x2 hr2
   obtain ⟨y, rfl, oy⟩ := hr2
   have hx2 := hx.trans x2
   have ho2 := ho.ext x2
   have hs2 := hs.ext x2
   have oy := oy.weaken hx.size
   refine gset ?_
   (repeat' first | ((with_reducible refine nx0 ?_); go_step) | ((with_reducible refine o_s ?_); first | refine wk0 ?_ | (refine wg0 ?_ ?_ <;> intro hc)) | fail)
   refine ap1 [str l[k].name, .int .i64 l[k].kind, .int .i64 l[k].ttl, y] hx2 ho2 (by omega) ?_ (by exact ⟨rfl, rfl, rfl, by intro u hu; simp only [List.mem_cons, List.not_mem_nil, or_false] at hu; rcases hu with rfl | rfl | rfl | rfl <;> first | rfl | exact oy.one⟩)
   intro s3 v3 w3 w4 x3 m4 x4 o4
   refine gset ?_
   have oy4 := (oy.ext x3).mv m4 ((oy.ext x3).ne (ho2.ext x3) (by decide))
   have hs4 := (hs2.ext x3).mv (ho2.ext x3) (by decide) m4
   (repeat' first | ((with_reducible refine nx0 ?_); go_step) | ((with_reducible refine o_s ?_); first | refine wk0 ?_ | (refine wg0 ?_ ?_ <;> intro hc)) | fail)
   refine ⟨⟨k + 1, _, by omega, by go_num, x4, o4, ?_⟩, by simp [intOf]; omega⟩
   rw [List.take_add_one, List.getElem?_eq_getElem hlt]
   exact hs4.append (SetsW.one oy4)
  ·have : k = l.length := by omega
   subst this
   rw [List.take_length] at hs
   (repeat' first | ((with_reducible refine nx0 ?_); go_step) | ((with_reducible refine o_s ?_); first | refine wk0 ?_ | (refine wg0 ?_ ?_ <;> intro hc)) | fail)
   go_ret
   exact ⟨_, rfl, hx, css, ho, hs⟩
set_option maxHeartbeats 6000000 in
theorem r8_Copy (o : List UInt8) (v : Value) (l : List RSet) (w : World) (hv : SetsAt w v l) (hl : l.length ≤ 100000) (hb : ∀ s ∈ l, s.data.length ≤ 1000000) : Calls Tryz.prog 51 #[.agg #[str o, v]] w (Ret w fun r w' => ∃ y, r = .agg #[str o, y] ∧ SetsV w.heap.size w' y l) := by
 go_enter Tryz.func51, Tryz.ntmps51
 repeat' (first | ((with_reducible refine nx0 ?_); go_step) | fail)
 refine wpl_box (vs := [str o, v]) rfl rfl ?_
 intro p w1 x1 hp
 refine gset ?_
 refine wpl_allocB (z := zzone) rfl (by decide +kernel) ?_
 intro w2 x2 s2 h2
 refine gset ?_
 have hp2 := hp.ext x2
 have hx2 := x1.trans x2
 have hv2 := hv.ext hx2
 have z1 := x1.size
 (repeat' first | ((with_reducible refine nx0 ?_); go_step) | ((with_reducible refine o_s ?_); first | refine wk0 ?_ | (refine wg0 ?_ ?_ <;> intro hc)) | fail)
 refine wph_region (S := fun w' => Ext w1 w') (by decide +kernel) ?_
 intro w3 x3 hh3
 have hp3 := hp2.ext x3
 have hS3 : Ext w1 w3 := x2.trans x3
 refine tk 0 ?_ (hS := hS3) (hy := by intro w9 hS9; exact Runs.fieldTn (hp.ext hS9) (by decide +kernel)); refine gset ?_
 refine tk 1 ?_ (hS := hS3) (hy := by intro w9 hS9; have := hp.ext hS9; exact rn); refine gset ?_
 refine tk 2 ?_ (hS := hS3) (hy := by intro w9 hS9; have := hp.ext hS9; exact rn); refine gset ?_
 refine tk 3 ?_ (hS := hS3) (hy := by intro w9 hS9; have := hp.ext hS9; exact rn); refine gset ?_
 refine wph_one (i := 4) (by decide +kernel) rfl rfl ?_
 refine wpl_callR (enters_of Tryz.func105 rfl rfl) rfl rfl (r7_Copies v l _ (hv2.ext x3) hl hb) ?_
 intro y w4 x4 hy
 refine gset ?_
 have hS4 := hS3.trans x4
 refine wph_nil ⟨hS4, ?_⟩
 obtain ⟨ya, yn, yc, hys⟩ := hy.slf
 have hy1 : y.oneCell' = true := by rw [hys]; rfl
 refine wph_take (i := 5) (v := .agg #[str o, y]) rfl rfl (by decide +kernel) (by decide +kernel) (by decide +kernel) rfl hS4 (fun w' _ => Runs.build (vals := [(0, str o), (1, y)]) rfl (by rw [hys]; kernel_rfl)) (fun _ _ _ h => h) ?_
 refine gset ?_
 refine wph_one (i := 6) (by decide +kernel) rfl rfl ?_
 have h4 := (x3.trans x4).at h2
 refine wpl_storeB (v := .agg #[str o, y]) rfl rfl rfl h4 (show sizeTy Tryz.prog 34 2 = true by decide +kernel) rfl (zone_one hy1) ?_
 intro w5 p5
 have hS5 : Ext w1 w5 := hS4.move p5.mv (by rintro k ⟨⟩; exact Nat.le_refl _)
 have hy5 := hy.put h4 (by decide) (by decide) p5
 refine wph_nil ⟨hS5, ?_⟩
 refine wph_done (by decide +kernel) ?_
 (repeat' first | ((with_reducible refine nx0 ?_); go_step) | ((with_reducible refine o_s ?_); first | refine wk0 ?_ | (refine wg0 ?_ ?_ <;> intro hc)) | fail)
 refine bodyPost_ret (results_cell1 (cs := [str o, y]) rfl rfl p5.this (show aggTy Tryz.prog 34 2 = true by decide +kernel)) rfl ⟨_, rfl, x1.trans hS5, y, rfl, hy5.weaken (Nat.le_trans z1 hS3.size)⟩
set_option maxHeartbeats 6000000 in
theorem p_CloneS (v : Value) (css : List (List Value)) (w : World) (hv : Sl 4 w v css) (h1 : ∀ f ∈ css, ∀ u ∈ f, u.oneCell' = true) (hl : css.length ≤ 1000000) : Calls Tryz.prog 80 #[v] w (Ret w fun v' w' => Own w.heap.size 4 115 w' v' css) := by
 go_enter Tryz.func80, Tryz.ntmps80
 (repeat' first | ((with_reducible refine nx0 ?_); go_step) | ((with_reducible refine o_s ?_); first | refine wk0 ?_ | (refine wg0 ?_ ?_ <;> intro hc)) | fail)
 ·have hn := ‹isNil v = true›
  go_ret
  have : css = [] := hv.isNil hn
  refine ⟨_, rfl, Ext.refl _, ?_⟩
  rw [this]
  exact Own.nil _ _ _ _
 ·refine wpl_slice0 (t := 32) (e := 115) (k := 4) (bytes := 56) (by decide +kernel) rfl ?_
  intro v2 w2 x2 s2 o2
  refine gset ?_
  (repeat' first | ((with_reducible refine nx0 ?_); go_step) | ((with_reducible refine o_s ?_); first | refine wk0 ?_ | (refine wg0 ?_ ?_ <;> intro hc)) | fail)
  refine wpl_appendO (B := w.heap.size) (e := 115) rfl o2 rfl (hv.ext x2) h1 x2.size (by simp; omega) ?_
  intro v3 w3 o3 m3 _
  have x3 := o2.mvx m3 x2 (Nat.le_refl _)
  refine gset ?_
  (repeat' first | ((with_reducible refine nx0 ?_); go_step) | ((with_reducible refine o_s ?_); first | refine wk0 ?_ | (refine wg0 ?_ ?_ <;> intro hc)) | fail)
  go_ret
  exact ⟨_, rfl, x3, by simpa using o3⟩
def withN (s : SoaR) (n : Int) : SoaR := { s with serial := n }
def renE (o : List UInt8) (l : List RSet) (n : Int) : Int := if zoneR o l = 0 then (if (withN (soaZ o l) n).ok = true then 0 else 1) else zoneR o l
def renD (o : List UInt8) (l : List RSet) (n : Int) : List UInt8 := (withN (soaZ o l) n).data
def renS (d : List UInt8) (s : RSet) : RSet := if s.kind = 6 then ⟨s.name, s.kind, s.ttl, [d]⟩ else s
def renL (o : List UInt8) (l : List RSet) (n : Int) : List RSet := if renE o l n = 0 then l.map (renS (renD o l n)) else []
def renO (o : List UInt8) (l : List RSet) (n : Int) : List UInt8 := if renE o l n = 0 then o else []
def RenU (B : Nat) (o : List UInt8) (l : List RSet) (n : Int) (r : Value) (w' : World) : Prop :=
 ∃ v, r = .tuple #[.agg #[str (renO o l n), v], .int .i64 (renE o l n)] ∧ SetsO B w' v (renL o l n)
theorem RenU.bad {B : Nat} {o : List UInt8} {l : List RSet} {n e : Int} {w' : World} (h : renE o l n = e) (he : e ≠ 0) : RenU B o l n (.tuple #[.agg zzone.toArray, .int .i64 e]) w' := by
 refine ⟨.slice none 0 0, ?_, ?_⟩
 ·rw [h, renO, if_neg (by rw [h]; exact he)]; rfl
 ·rw [renL, if_neg (by rw [h]; exact he)]; exact SetsO.nil _ _
theorem RenU.good {B : Nat} {o : List UInt8} {l : List RSet} {n : Int} {v : Value} {w' : World} (h : renE o l n = 0) (hv : SetsO B w' v (l.map (renS (renD o l n)))) : RenU B o l n (.tuple #[.agg #[str o, v], .int .i64 0]) w' := by
 refine ⟨v, ?_, ?_⟩
 ·rw [renO, if_pos h, h]
 ·rw [renL, if_pos h]; exact hv
theorem ZoneOk.one6 {o : List UInt8} {l : List RSet} (h : ZoneOk o l) {s : RSet} (hs : s ∈ l) (h6 : s.kind = 6) : s.name = o ∧ s.data.length = 1 := by
 have hr := h.right s hs
 simp only [rightR, Bool.and_eq_true, Bool.not_eq_true', h6] at hr
 have := hr.1.1.2
 simp only [decide_true, Bool.true_and, Bool.or_eq_false_iff, decide_eq_false_iff_not, ne_eq, Decidable.not_not] at this
 exact this
theorem renS_no {d : List UInt8} {s : RSet} (h : ¬ s.kind = 6) : renS d s = s := by rw [renS, if_neg h]
theorem renS_yes {d : List UInt8} {s : RSet} (h : s.kind = 6) : renS d s = ⟨s.name, s.kind, s.ttl, [d]⟩ := by rw [renS, if_pos h]
theorem SetsW.set {B : Nat} {w : World} {css : List (List Value)} {l : List RSet} (h : SetsW B w css l) {i : Nat} {s : RSet} {x : Value} (hx : Own B 1 9 w x (tcells s.data)) : SetsW B w (css.set i [str s.name, .int .i64 s.kind, .int .i64 s.ttl, x]) (l.set i s) := by
 refine ⟨by rw [List.length_set, List.length_set, h.len], fun j t hj => ?_⟩
 by_cases e : i = j
 ·subst e
  have hlt : i < l.length := by have := (List.getElem?_eq_some_iff.1 hj).1; simpa using this
  rw [List.getElem?_set_self hlt] at hj
  cases hj
  exact ⟨x, List.getElem?_set_self (by rw [h.len]; exact hlt), hx⟩
 ·rw [List.getElem?_set_ne e] at hj
  rw [List.getElem?_set_ne e]
  exact h.at' j t hj
structure SetsM (B : Nat) (w0 w : World) (css0 css : List (List Value)) (l : List RSet) (d : List UInt8) (k : Nat) : Prop where
 len : css.length = l.length
 new : ∀ (i : Nat) (s : RSet), l[i]? = some s → i < k → ∃ x, css[i]? = some [str s.name, .int .i64 s.kind, .int .i64 s.ttl, x] ∧ Own B 1 9 w x (tcells (renS d s).data)
 old : ∀ i, k ≤ i → css[i]? = css0[i]?
theorem SetsM.ext {B : Nat} {w0 w w' : World} {css0 css : List (List Value)} {l : List RSet} {d : List UInt8} {k : Nat} (h : SetsM B w0 w css0 css l d k) (hx : Ext w w') : SetsM B w0 w' css0 css l d k :=
 ⟨h.len, fun i s hi hk => let ⟨x, a, b⟩ := h.new i s hi hk; ⟨x, a, b.ext hx⟩, h.old⟩
theorem SetsM.mv {B : Nat} {w0 w w' : World} {css0 css : List (List Value)} {l : List RSet} {d : List UInt8} {k : Nat} {row : Option Nat} (h : SetsM B w0 w css0 css l d k) (hm : Mv row w w') (hne : ∀ x es, Own B 1 9 w x es → x.ownBlock = none ∨ x.ownBlock ≠ row) : SetsM B w0 w' css0 css l d k :=
 ⟨h.len, fun i s hi hk => let ⟨x, a, b⟩ := h.new i s hi hk; ⟨x, a, b.mv hm (hne x _ b)⟩, h.old⟩
theorem SetsM.step {B : Nat} {w0 w : World} {css0 css : List (List Value)} {l : List RSet} {d : List UInt8} {k : Nat} (h : SetsM B w0 w css0 css l d k) (hk : k < l.length) {y : Value} (hy : Own B 1 9 w y (tcells (renS d l[k]).data)) :
 SetsM B w0 w css0 (css.set k [str l[k].name, .int .i64 l[k].kind, .int .i64 l[k].ttl, y]) l d (k + 1) := by
 refine ⟨by rw [List.length_set, h.len], fun i s hi hik => ?_, fun i hi => ?_⟩
 ·by_cases e : k = i
  ·subst e
   rw [List.getElem?_eq_getElem hk] at hi
   cases hi
   exact ⟨y, List.getElem?_set_self (by rw [h.len]; exact hk), hy⟩
  ·obtain ⟨x, a, b⟩ := h.new i s hi (by omega)
   exact ⟨x, by rw [List.getElem?_set_ne e]; exact a, b⟩
 ·rw [List.getElem?_set_ne (by omega)]; exact h.old i (by omega)
theorem renS_name {d : List UInt8} {s : RSet} : (renS d s).name = s.name ∧ (renS d s).kind = s.kind ∧ (renS d s).ttl = s.ttl := by
 unfold renS; split <;> exact ⟨rfl, rfl, rfl⟩
theorem SetsM.done {B : Nat} {w0 w : World} {css0 css : List (List Value)} {l : List RSet} {d : List UInt8} (h : SetsM B w0 w css0 css l d l.length) : SetsW B w css (l.map (renS d)) := by
 refine ⟨by rw [List.length_map, h.len], fun i s hi => ?_⟩
 rw [List.getElem?_map] at hi
 cases hq : l[i]? with
 | none => rw [hq] at hi; cases hi
 | some t =>
  rw [hq] at hi
  cases hi
  obtain ⟨x, a, b⟩ := h.new i t hq (List.getElem?_eq_some_iff.1 hq).1
  obtain ⟨e1, e2, e3⟩ := renS_name (d := d) (s := t)
  exact ⟨x, by rw [e1, e2, e3]; exact a, b⟩
theorem parse_ok {d : List UInt8} {s : SoaR} (h : parseSoa d = some s) : s.ok = true := by
 unfold parseSoa at h
 simp only at h
 split at h
 ·rename_i hh; cases h; exact hh.2.2.2
 ·cases h
theorem ZoneOk.only {o : List UInt8} {l : List RSet} (h : ZoneOk o l) {s : RSet} (hs : s ∈ l) (h6 : s.kind = 6) : s.data = [soaD o l] := by
 obtain ⟨t, ht, _, _, _, hd, _⟩ := h.soaSet
 obtain ⟨i, hi, rfl⟩ := List.mem_iff_getElem.1 hs
 have hf := found_all h.chk hi
 rw [h6, (h.one6 hs h6).1, ht] at hf
 rw [← Option.some.inj hf]
 exact hd
theorem ZoneOk.back {o d : List UInt8} {l : List RSet} (h : ZoneOk o l) : (l.map (renS d)).map (renS (soaD o l)) = l := by
 rw [List.map_map]
 conv => rhs; rw [← List.map_id l]
 apply List.map_congr_left
 intro s hs
 simp only [Function.comp, id]
 by_cases h6 : s.kind = 6
 ·rw [renS_yes (d := d) h6, renS_yes (by exact h6)]
  have := h.only hs h6
  cases s
  simp only at this
  rw [this]
 ·rw [renS_no (d := d) h6, renS_no h6]
theorem may_less {s : RSet} (h : mayS s = true) {i : Nat} (hi : i + 1 < s.data.length) : s.data[i] < s.data[i + 1] := by
 simp only [mayS, Bool.and_eq_true, List.all_eq_true] at h
 have := h.2 (i + 1) (by simpa using hi)
 simp only [badAt, Bool.not_eq_true', Bool.or_eq_false_iff, Bool.and_eq_false_iff, decide_eq_false_iff_not] at this
 have h2 := this.2.resolve_left (by omega)
 have e1 : s.data.getD (i + 1 - 1) [] = s.data[i] := by simp [show i < s.data.length by omega]
 have e2 : s.data.getD (i + 1) [] = s.data[i + 1] := by simp [hi]
 rw [e1, e2] at h2
 exact bless.1 (by simpa using h2)
theorem may_sorted {s : RSet} (h : mayS s = true) (i : Nat) : ∀ j (hij : i < j) (hj : j < s.data.length), s.data[i] < s.data[j]
 | 0, hij, _ => by omega
 | j + 1, hij, hj => by
   have h1 := may_less h hj
   by_cases e : i = j
   ·subst e; exact h1
   ·exact Std.lt_trans (may_sorted h i j (by omega) (by omega)) h1
theorem mem_records {l : List RSet} {r : Rec} (h : r ∈ recordsS l) : ∃ s ∈ l, ∃ d ∈ s.data, r = recOf s d := by
 simp only [recordsS, List.mem_flatten, List.mem_map] at h
 obtain ⟨rs, ⟨s, hs, rfl⟩, hr⟩ := h
 simp only [recsOf, List.mem_map] at hr
 obtain ⟨d, hd, rfl⟩ := hr
 exact ⟨s, hs, d, hd, rfl⟩
def lessR (a b : List Rec) : List Rec := a.filter fun r => !decide (r ∈ b)
structure DeltaR where
 fr : Int
 to : Int
 gone : List Rec
 new : List Rec
 deriving DecidableEq, Inhabited
def zeroD : DeltaR := ⟨0, 0, [], []⟩
def goneF : List Rec → List Rec → Option (List Rec)
 | l, [] => some l
 | l, r :: g => if r ∈ l then goneF (l.erase r) g else none
def newF : List Rec → List Rec → Option (List Rec)
 | l, [] => some l
 | l, r :: g => if r ∈ l then none else newF (l ++ [r]) g
def editR (l : List Rec) (d : DeltaR) : Option (List Rec) := (goneF l d.gone).bind fun m => newF m d.new
def endE (o : List UInt8) (m : List Rec) (to : Int) : Int :=
 if loadE o m = 0 then (if (soaZ (loadO o m) (loadL o m)).serial = to ∧ (recordsS (loadL o m)).length = m.length ∧ lessR m (recordsS (loadL o m)) = [] then 0 else 2) else loadE o m
def appE (o : List UInt8) (l : List RSet) (d : DeltaR) : Int :=
 if zoneR o l = 0 then (if (soaZ o l).serial = d.fr then (match editR (recordsS l) d with
  | none => 5
  | some m => endE o m d.to) else 7) else zoneR o l
def appL (o : List UInt8) (l : List RSet) (d : DeltaR) : List RSet := if appE o l d = 0 then loadL o ((editR (recordsS l) d).getD []) else []
def appO (o : List UInt8) (l : List RSet) (d : DeltaR) : List UInt8 := if appE o l d = 0 then loadO o ((editR (recordsS l) d).getD []) else []
theorem recOf_inj {s : RSet} {d e : List UInt8} (h : recOf s d = recOf s e) : d = e := by simpa [recOf] using h
theorem ZoneOk.nodup {o : List UInt8} {l : List RSet} (h : ZoneOk o l) : (recordsS l).Nodup := by
 unfold recordsS List.Nodup
 rw [List.pairwise_flatten]
 constructor
 ·intro rs hrs
  obtain ⟨s, hs, rfl⟩ := List.mem_map.1 hrs
  unfold recsOf
  rw [List.pairwise_map, List.pairwise_iff_getElem]
  intro i j hi hj hij he
  have h1 := may_sorted (h.may hs) i j hij hj
  rw [recOf_inj he] at h1
  exact Std.lt_irrefl h1
 ·rw [List.pairwise_map, List.pairwise_iff_getElem]
  intro i j hi hj hij x hx y hy he
  simp only [recsOf, List.mem_map] at hx hy
  obtain ⟨d, _, rfl⟩ := hx
  obtain ⟨e, _, rfl⟩ := hy
  simp only [recOf, Rec.mk.injEq] at he
  have h1 := check_sorted h.chk i j hij hj
  rw [he.1, he.2.1] at h1
  have h2 := tpo_cmpSet.refl (l[j].name, l[j].kind)
  simp only at h2
  omega
theorem Ch.same {L M : List Rec} {s : RSet} (h : Ch L s) (hm : ∀ r, r ∈ L ↔ r ∈ M) : Ch M s where
 dat d := by
  rw [h.dat]
  constructor
  ·rintro ⟨r, h1, h2⟩; exact ⟨r, (hm r).1 h1, h2⟩
  ·rintro ⟨r, h1, h2⟩; exact ⟨r, (hm r).2 h1, h2⟩
 ttl := let ⟨r, h1, h2⟩ := h.ttl; ⟨r, (hm r).1 h1, h2⟩
 low r h1 h2 := h.low r ((hm r).2 h1) h2
end Go.Proofs.X
