/- Laws and walks that the proof of the statement is made of (part 3). -/
import Derived.Test.YtgljkfpcadempaaGreatP2
set_option linter.unusedVariables false
set_option linter.unusedSimpArgs false
namespace Go.Proofs.X
open Go.RowKit
def iC (b : Bool) : Nat := if b = true then 0 else 1
section
variable {P : Program} {Q : Exit → Act → World → Prop} {S : World → Prop} {l : List Oper} {ts : List Value} {df : List Deferred} {w : World} {fuel : Nat} {listed : List Bool}
theorem tG {ops : Array Oper} {Inv : Nat → List Bool → Act → World → Prop}
 (hs : ∀ m L a w, Inv (m + 1) L a w → 0 < (Region.ready .any ops L.toArray).length ∧ ∀ i ∈ Region.ready .any ops L.toArray, wpOp P ops Q i (fun a' w' => S w' ∧ Inv m (L.set i true) a' w') a w)
 (he : ∀ L a w, Inv 0 L a w → wpAnyH P .any ops Q S fuel L.toArray a w) : ∀ m L a w, Inv m L a w → wpAnyH P .any ops Q S (fuel + m) L.toArray a w := by
 intro m
 induction m with
 | zero => exact he
 | succ m ih =>
  intro L a w h
  obtain ⟨h1, h2⟩ := hs m L a w h
  refine ⟨fun e => by rw [e] at h1; simp at h1, fun i hi => wpOp_mono (fun a' w' hh => ⟨hh.1, ?_⟩) (h2 i hi)⟩
  have := ih _ _ _ hh.2
  simpa using this
theorem cO {b : Bool} (h : iC b = 0) : b = true := by
 cases b with
 | true => rfl
 | false => simp [iC] at h
theorem PG (i1 i2 i3 : Nat) (d1 d2 d3 : Nat) (c q1 q2 q3 : Bool → Bool → Bool → Bool) (F : Bool → Bool → Bool → Value → Value → Value → World → Prop)
 {fuel2 : Nat} {o1 o2 o3 : Oper}
 (hF : F false false false (List.getD ts d1 undef) (List.getD ts d2 undef) (List.getD ts d3 undef) w)
 (h1 : ∀ b1 b2 b3 : Bool, ∀ v1 v2 v3 : Value, ∀ w1 : World, (q1 false b2 b3 && c false b2 b3) = true → F false b2 b3 v1 v2 v3 w1 → wpList P l.toArray (nO Q fun a w2 => S w2 ∧ ∃ u, a = Act.mk (List.set (List.set (List.set ts d1 u) d2 v2) d3 v3).toArray df ∧ F true b2 b3 u v2 v3 w2) [o1] (Act.mk (List.set (List.set (List.set ts d1 v1) d2 v2) d3 v3).toArray df) w1)
 (h2 : ∀ b1 b2 b3 : Bool, ∀ v1 v2 v3 : Value, ∀ w1 : World, (q2 b1 false b3 && c b1 false b3) = true → F b1 false b3 v1 v2 v3 w1 → wpList P l.toArray (nO Q fun a w2 => S w2 ∧ ∃ u, a = Act.mk (List.set (List.set (List.set ts d1 v1) d2 u) d3 v3).toArray df ∧ F b1 true b3 v1 u v3 w2) [o2] (Act.mk (List.set (List.set (List.set ts d1 v1) d2 v2) d3 v3).toArray df) w1)
 (h3 : ∀ b1 b2 b3 : Bool, ∀ v1 v2 v3 : Value, ∀ w1 : World, (q3 b1 b2 false && c b1 b2 false) = true → F b1 b2 false v1 v2 v3 w1 → wpList P l.toArray (nO Q fun a w2 => S w2 ∧ ∃ u, a = Act.mk (List.set (List.set (List.set ts d1 v1) d2 v2) d3 u).toArray df ∧ F b1 b2 true v1 v2 u w2) [o3] (Act.mk (List.set (List.set (List.set ts d1 v1) d2 v2) d3 v3).toArray df) w1)
 (hG : ∀ v1 v2 v3 : Value, ∀ w1 : World, F true true true v1 v2 v3 w1 → wpAnyH P .any l.toArray Q S fuel (List.set (List.set (List.set listed i1 true) i2 true) i3 true).toArray (Act.mk (List.set (List.set (List.set ts d1 v1) d2 v2) d3 v3).toArray df) w1)
 (hi : l[i1]? = some o1 ∧ l[i2]? = some o2 ∧ l[i3]? = some o3 := by refine ⟨rfl, rfl, rfl⟩)
 (hr : (∀ b1 b2 b3 : Bool, c b1 b2 b3 = true → (b1 && b2 && b3) = false → (decide (0 < (Region.ready .any l.toArray (List.set (List.set (List.set listed i1 b1) i2 b2) i3 b3).toArray).length) && (Region.ready .any l.toArray (List.set (List.set (List.set listed i1 b1) i2 b2) i3 b3).toArray).all fun i => (i == i1 && (!b1 && ((q1 false b2 b3 && c false b2 b3) && c true b2 b3))) || (i == i2 && (!b2 && ((q2 b1 false b3 && c b1 false b3) && c b1 true b3))) || (i == i3 && (!b3 && ((q3 b1 b2 false && c b1 b2 false) && c b1 b2 true)))) = true) := by decide +kernel) (hc0 : c false false false = true := by rfl)
 (hf : fuel2 = fuel + 3 := by rfl) (hn : i1 ≠ i2 ∧ i1 ≠ i3 ∧ i2 ≠ i3 := by decide) (hl0 : (List.set (List.set (List.set listed i1 false) i2 false) i3 false) = listed := by rfl) (ht0 : (List.set (List.set (List.set ts d1 (List.getD ts d1 undef)) d2 (List.getD ts d2 undef)) d3 (List.getD ts d3 undef)) = ts := by rfl)
 : wpAnyH P .any l.toArray Q S fuel2 listed.toArray (Act.mk ts.toArray df) w := by
 obtain ⟨e1, e2, e3⟩ := hi
 obtain ⟨n1_2, n1_3, n2_3⟩ := hn
 rw [hf]
 refine tG (Inv := fun m L a w => ∃ b1 b2 b3 : Bool, ∃ v1 v2 v3 : Value, c b1 b2 b3 = true ∧ m = iC b1 + iC b2 + iC b3 ∧ L = (List.set (List.set (List.set listed i1 b1) i2 b2) i3 b3) ∧ a = Act.mk (List.set (List.set (List.set ts d1 v1) d2 v2) d3 v3).toArray df ∧ F b1 b2 b3 v1 v2 v3 w) ?_ ?_ 3 listed _ w ⟨false, false, false, (List.getD ts d1 undef), (List.getD ts d2 undef), (List.getD ts d3 undef), hc0, by rfl, hl0.symm, by rw [ht0], hF⟩
 ·rintro m L a w ⟨b1, b2, b3, v1, v2, v3, hcc, hm, rfl, rfl, hf⟩
  have hb : (b1 && b2 && b3) = false := by
   cases hq : (b1 && b2 && b3) with
   | false => rfl
   | true =>
    exfalso
    simp only [Bool.and_eq_true] at hq
    obtain ⟨⟨p1, p2⟩, p3⟩ := hq
    subst p1 p2 p3
    simp [iC] at hm
  have hr := hr b1 b2 b3 hcc hb
  simp only [Bool.and_eq_true, decide_eq_true_eq, List.all_eq_true, Bool.or_eq_true, beq_iff_eq, Bool.not_eq_true'] at hr
  refine ⟨hr.1, fun i hi => ?_⟩
  rcases hr.2 i hi with ((⟨rfl, rfl, c1, cc1⟩ | ⟨rfl, rfl, c2, cc2⟩) | ⟨rfl, rfl, c3, cc3⟩)
  ·refine wpOp_mono ?_ (dJ (by simpa using e1) (h1 true b2 b3 v1 v2 v3 w (Bool.and_eq_true_iff.2 c1) hf))
   rintro a w2 ⟨hS, u, rfl, hf2⟩
   refine ⟨hS, true, b2, b3, u, v2, v3, cc1, ?_, ?_, rfl, hf2⟩
   ·simp only [iC, Bool.false_eq_true, if_true, if_false] at hm ⊢; omega
   ·rw [List.set_comm _ _ n1_3.symm, List.set_comm _ _ n1_2.symm, List.set_set]
  ·refine wpOp_mono ?_ (dJ (by simpa using e2) (h2 b1 true b3 v1 v2 v3 w (Bool.and_eq_true_iff.2 c2) hf))
   rintro a w2 ⟨hS, u, rfl, hf2⟩
   refine ⟨hS, b1, true, b3, v1, u, v3, cc2, ?_, ?_, rfl, hf2⟩
   ·simp only [iC, Bool.false_eq_true, if_true, if_false] at hm ⊢; omega
   ·rw [List.set_comm _ _ n2_3.symm, List.set_set]
  ·refine wpOp_mono ?_ (dJ (by simpa using e3) (h3 b1 b2 true v1 v2 v3 w (Bool.and_eq_true_iff.2 c3) hf))
   rintro a w2 ⟨hS, u, rfl, hf2⟩
   refine ⟨hS, b1, b2, true, v1, v2, u, cc3, ?_, ?_, rfl, hf2⟩
   ·simp only [iC, Bool.false_eq_true, if_true, if_false] at hm ⊢; omega
   ·rw [List.set_set]
 ·rintro L a w ⟨b1, b2, b3, v1, v2, v3, hcc, hm, rfl, rfl, hf⟩
  have p1 : b1 = true := cO (by omega)
  have p2 : b2 = true := cO (by omega)
  have p3 : b3 = true := cO (by omega)
  subst p1 p2 p3
  exact hG v1 v2 v3 w hf
theorem EI (i1 i2 i3 i4 : Nat) (d1 d2 d3 : Nat) (c q1 q2 q3 q4 : Bool → Bool → Bool → Bool → Bool) (F : Bool → Bool → Bool → Bool → Value → Value → Value → World → Prop)
 {fuel2 : Nat} {o1 o2 o3 o4 : Oper}
 (hF : F false false false false (List.getD ts d1 undef) (List.getD ts d2 undef) (List.getD ts d3 undef) w)
 (h1 : ∀ b1 b2 b3 b4 : Bool, ∀ v1 v2 v3 : Value, ∀ w1 : World, (q1 false b2 b3 b4 && c false b2 b3 b4) = true → F false b2 b3 b4 v1 v2 v3 w1 → wpList P l.toArray (nO Q fun a w2 => S w2 ∧ ∃ u, a = Act.mk (List.set (List.set (List.set ts d1 u) d2 v2) d3 v3).toArray df ∧ F true b2 b3 b4 u v2 v3 w2) [o1] (Act.mk (List.set (List.set (List.set ts d1 v1) d2 v2) d3 v3).toArray df) w1)
 (h2 : ∀ b1 b2 b3 b4 : Bool, ∀ v1 v2 v3 : Value, ∀ w1 : World, (q2 b1 false b3 b4 && c b1 false b3 b4) = true → F b1 false b3 b4 v1 v2 v3 w1 → wpList P l.toArray (nO Q fun a w2 => S w2 ∧ ∃ u, a = Act.mk (List.set (List.set (List.set ts d1 v1) d2 u) d3 v3).toArray df ∧ F b1 true b3 b4 v1 u v3 w2) [o2] (Act.mk (List.set (List.set (List.set ts d1 v1) d2 v2) d3 v3).toArray df) w1)
 (h3 : ∀ b1 b2 b3 b4 : Bool, ∀ v1 v2 v3 : Value, ∀ w1 : World, (q3 b1 b2 false b4 && c b1 b2 false b4) = true → F b1 b2 false b4 v1 v2 v3 w1 → wpList P l.toArray (nO Q fun a w2 => S w2 ∧ ∃ u, a = Act.mk (List.set (List.set (List.set ts d1 v1) d2 v2) d3 u).toArray df ∧ F b1 b2 true b4 v1 v2 u w2) [o3] (Act.mk (List.set (List.set (List.set ts d1 v1) d2 v2) d3 v3).toArray df) w1)
 (h4 : ∀ b1 b2 b3 b4 : Bool, ∀ v1 v2 v3 : Value, ∀ w1 : World, (q4 b1 b2 b3 false && c b1 b2 b3 false) = true → F b1 b2 b3 false v1 v2 v3 w1 → wpList P l.toArray (nO Q fun a w2 => S w2 ∧ a = Act.mk (List.set (List.set (List.set ts d1 v1) d2 v2) d3 v3).toArray df ∧ F b1 b2 b3 true v1 v2 v3 w2) [o4] (Act.mk (List.set (List.set (List.set ts d1 v1) d2 v2) d3 v3).toArray df) w1)
 (hG : ∀ v1 v2 v3 : Value, ∀ w1 : World, F true true true true v1 v2 v3 w1 → wpAnyH P .any l.toArray Q S fuel (List.set (List.set (List.set (List.set listed i1 true) i2 true) i3 true) i4 true).toArray (Act.mk (List.set (List.set (List.set ts d1 v1) d2 v2) d3 v3).toArray df) w1)
 (hi : l[i1]? = some o1 ∧ l[i2]? = some o2 ∧ l[i3]? = some o3 ∧ l[i4]? = some o4 := by refine ⟨rfl, rfl, rfl, rfl⟩)
 (hr : (∀ b1 b2 b3 b4 : Bool, c b1 b2 b3 b4 = true → (b1 && b2 && b3 && b4) = false → (decide (0 < (Region.ready .any l.toArray (List.set (List.set (List.set (List.set listed i1 b1) i2 b2) i3 b3) i4 b4).toArray).length) && (Region.ready .any l.toArray (List.set (List.set (List.set (List.set listed i1 b1) i2 b2) i3 b3) i4 b4).toArray).all fun i => (i == i1 && (!b1 && ((q1 false b2 b3 b4 && c false b2 b3 b4) && c true b2 b3 b4))) || (i == i2 && (!b2 && ((q2 b1 false b3 b4 && c b1 false b3 b4) && c b1 true b3 b4))) || (i == i3 && (!b3 && ((q3 b1 b2 false b4 && c b1 b2 false b4) && c b1 b2 true b4))) || (i == i4 && (!b4 && ((q4 b1 b2 b3 false && c b1 b2 b3 false) && c b1 b2 b3 true)))) = true) := by decide +kernel) (hc0 : c false false false false = true := by rfl)
 (hf : fuel2 = fuel + 4 := by rfl) (hn : i1 ≠ i2 ∧ i1 ≠ i3 ∧ i1 ≠ i4 ∧ i2 ≠ i3 ∧ i2 ≠ i4 ∧ i3 ≠ i4 := by decide) (hl0 : (List.set (List.set (List.set (List.set listed i1 false) i2 false) i3 false) i4 false) = listed := by rfl) (ht0 : (List.set (List.set (List.set ts d1 (List.getD ts d1 undef)) d2 (List.getD ts d2 undef)) d3 (List.getD ts d3 undef)) = ts := by rfl)
 : wpAnyH P .any l.toArray Q S fuel2 listed.toArray (Act.mk ts.toArray df) w := by
 obtain ⟨e1, e2, e3, e4⟩ := hi
 obtain ⟨n1_2, n1_3, n1_4, n2_3, n2_4, n3_4⟩ := hn
 rw [hf]
 refine tG (Inv := fun m L a w => ∃ b1 b2 b3 b4 : Bool, ∃ v1 v2 v3 : Value, c b1 b2 b3 b4 = true ∧ m = iC b1 + iC b2 + iC b3 + iC b4 ∧ L = (List.set (List.set (List.set (List.set listed i1 b1) i2 b2) i3 b3) i4 b4) ∧ a = Act.mk (List.set (List.set (List.set ts d1 v1) d2 v2) d3 v3).toArray df ∧ F b1 b2 b3 b4 v1 v2 v3 w) ?_ ?_ 4 listed _ w ⟨false, false, false, false, (List.getD ts d1 undef), (List.getD ts d2 undef), (List.getD ts d3 undef), hc0, by rfl, hl0.symm, by rw [ht0], hF⟩
 ·rintro m L a w ⟨b1, b2, b3, b4, v1, v2, v3, hcc, hm, rfl, rfl, hf⟩
  have hb : (b1 && b2 && b3 && b4) = false := by
   cases hq : (b1 && b2 && b3 && b4) with
   | false => rfl
   | true =>
    exfalso
    simp only [Bool.and_eq_true] at hq
    obtain ⟨⟨⟨p1, p2⟩, p3⟩, p4⟩ := hq
    subst p1 p2 p3 p4
    simp [iC] at hm
  have hr := hr b1 b2 b3 b4 hcc hb
  simp only [Bool.and_eq_true, decide_eq_true_eq, List.all_eq_true, Bool.or_eq_true, beq_iff_eq, Bool.not_eq_true'] at hr
  refine ⟨hr.1, fun i hi => ?_⟩
  rcases hr.2 i hi with (((⟨rfl, rfl, c1, cc1⟩ | ⟨rfl, rfl, c2, cc2⟩) | ⟨rfl, rfl, c3, cc3⟩) | ⟨rfl, rfl, c4, cc4⟩)
  ·refine wpOp_mono ?_ (dJ (by simpa using e1) (h1 true b2 b3 b4 v1 v2 v3 w (Bool.and_eq_true_iff.2 c1) hf))
   rintro a w2 ⟨hS, u, rfl, hf2⟩
   refine ⟨hS, true, b2, b3, b4, u, v2, v3, cc1, ?_, ?_, rfl, hf2⟩
   ·simp only [iC, Bool.false_eq_true, if_true, if_false] at hm ⊢; omega
   ·rw [List.set_comm _ _ n1_4.symm, List.set_comm _ _ n1_3.symm, List.set_comm _ _ n1_2.symm, List.set_set]
  ·refine wpOp_mono ?_ (dJ (by simpa using e2) (h2 b1 true b3 b4 v1 v2 v3 w (Bool.and_eq_true_iff.2 c2) hf))
   rintro a w2 ⟨hS, u, rfl, hf2⟩
   refine ⟨hS, b1, true, b3, b4, v1, u, v3, cc2, ?_, ?_, rfl, hf2⟩
   ·simp only [iC, Bool.false_eq_true, if_true, if_false] at hm ⊢; omega
   ·rw [List.set_comm _ _ n2_4.symm, List.set_comm _ _ n2_3.symm, List.set_set]
  ·refine wpOp_mono ?_ (dJ (by simpa using e3) (h3 b1 b2 true b4 v1 v2 v3 w (Bool.and_eq_true_iff.2 c3) hf))
   rintro a w2 ⟨hS, u, rfl, hf2⟩
   refine ⟨hS, b1, b2, true, b4, v1, v2, u, cc3, ?_, ?_, rfl, hf2⟩
   ·simp only [iC, Bool.false_eq_true, if_true, if_false] at hm ⊢; omega
   ·rw [List.set_comm _ _ n3_4.symm, List.set_set]
  ·refine wpOp_mono ?_ (dJ (by simpa using e4) (h4 b1 b2 b3 true v1 v2 v3 w (Bool.and_eq_true_iff.2 c4) hf))
   rintro a w2 ⟨hS, rfl, hf2⟩
   refine ⟨hS, b1, b2, b3, true, v1, v2, v3, cc4, ?_, ?_, rfl, hf2⟩
   ·simp only [iC, Bool.false_eq_true, if_true, if_false] at hm ⊢; omega
   ·rw [List.set_set]
 ·rintro L a w ⟨b1, b2, b3, b4, v1, v2, v3, hcc, hm, rfl, rfl, hf⟩
  have p1 : b1 = true := cO (by omega)
  have p2 : b2 = true := cO (by omega)
  have p3 : b3 = true := cO (by omega)
  have p4 : b4 = true := cO (by omega)
  subst p1 p2 p3 p4
  exact hG v1 v2 v3 w hf
theorem LB (i1 i2 i3 i4 i5 i6 : Nat) (d1 d2 d3 d4 d5 : Nat) (c q1 q2 q3 q4 q5 q6 : Bool → Bool → Bool → Bool → Bool → Bool → Bool) (F : Bool → Bool → Bool → Bool → Bool → Bool → Value → Value → Value → Value → Value → World → Prop)
 {fuel2 : Nat} {o1 o2 o3 o4 o5 o6 : Oper}
 (hF : F false false false false false false (List.getD ts d1 undef) (List.getD ts d2 undef) (List.getD ts d3 undef) (List.getD ts d4 undef) (List.getD ts d5 undef) w)
 (h1 : ∀ b1 b2 b3 b4 b5 b6 : Bool, ∀ v1 v2 v3 v4 v5 : Value, ∀ w1 : World, (q1 false b2 b3 b4 b5 b6 && c false b2 b3 b4 b5 b6) = true → F false b2 b3 b4 b5 b6 v1 v2 v3 v4 v5 w1 → wpList P l.toArray (nO Q fun a w2 => S w2 ∧ ∃ u, a = Act.mk (List.set (List.set (List.set (List.set (List.set ts d1 u) d2 v2) d3 v3) d4 v4) d5 v5).toArray df ∧ F true b2 b3 b4 b5 b6 u v2 v3 v4 v5 w2) [o1] (Act.mk (List.set (List.set (List.set (List.set (List.set ts d1 v1) d2 v2) d3 v3) d4 v4) d5 v5).toArray df) w1)
 (h2 : ∀ b1 b2 b3 b4 b5 b6 : Bool, ∀ v1 v2 v3 v4 v5 : Value, ∀ w1 : World, (q2 b1 false b3 b4 b5 b6 && c b1 false b3 b4 b5 b6) = true → F b1 false b3 b4 b5 b6 v1 v2 v3 v4 v5 w1 → wpList P l.toArray (nO Q fun a w2 => S w2 ∧ ∃ u, a = Act.mk (List.set (List.set (List.set (List.set (List.set ts d1 v1) d2 u) d3 v3) d4 v4) d5 v5).toArray df ∧ F b1 true b3 b4 b5 b6 v1 u v3 v4 v5 w2) [o2] (Act.mk (List.set (List.set (List.set (List.set (List.set ts d1 v1) d2 v2) d3 v3) d4 v4) d5 v5).toArray df) w1)
 (h3 : ∀ b1 b2 b3 b4 b5 b6 : Bool, ∀ v1 v2 v3 v4 v5 : Value, ∀ w1 : World, (q3 b1 b2 false b4 b5 b6 && c b1 b2 false b4 b5 b6) = true → F b1 b2 false b4 b5 b6 v1 v2 v3 v4 v5 w1 → wpList P l.toArray (nO Q fun a w2 => S w2 ∧ ∃ u, a = Act.mk (List.set (List.set (List.set (List.set (List.set ts d1 v1) d2 v2) d3 u) d4 v4) d5 v5).toArray df ∧ F b1 b2 true b4 b5 b6 v1 v2 u v4 v5 w2) [o3] (Act.mk (List.set (List.set (List.set (List.set (List.set ts d1 v1) d2 v2) d3 v3) d4 v4) d5 v5).toArray df) w1)
 (h4 : ∀ b1 b2 b3 b4 b5 b6 : Bool, ∀ v1 v2 v3 v4 v5 : Value, ∀ w1 : World, (q4 b1 b2 b3 false b5 b6 && c b1 b2 b3 false b5 b6) = true → F b1 b2 b3 false b5 b6 v1 v2 v3 v4 v5 w1 → wpList P l.toArray (nO Q fun a w2 => S w2 ∧ ∃ u, a = Act.mk (List.set (List.set (List.set (List.set (List.set ts d1 v1) d2 v2) d3 v3) d4 u) d5 v5).toArray df ∧ F b1 b2 b3 true b5 b6 v1 v2 v3 u v5 w2) [o4] (Act.mk (List.set (List.set (List.set (List.set (List.set ts d1 v1) d2 v2) d3 v3) d4 v4) d5 v5).toArray df) w1)
 (h5 : ∀ b1 b2 b3 b4 b5 b6 : Bool, ∀ v1 v2 v3 v4 v5 : Value, ∀ w1 : World, (q5 b1 b2 b3 b4 false b6 && c b1 b2 b3 b4 false b6) = true → F b1 b2 b3 b4 false b6 v1 v2 v3 v4 v5 w1 → wpList P l.toArray (nO Q fun a w2 => S w2 ∧ ∃ u, a = Act.mk (List.set (List.set (List.set (List.set (List.set ts d1 v1) d2 v2) d3 v3) d4 v4) d5 u).toArray df ∧ F b1 b2 b3 b4 true b6 v1 v2 v3 v4 u w2) [o5] (Act.mk (List.set (List.set (List.set (List.set (List.set ts d1 v1) d2 v2) d3 v3) d4 v4) d5 v5).toArray df) w1)
 (h6 : ∀ b1 b2 b3 b4 b5 b6 : Bool, ∀ v1 v2 v3 v4 v5 : Value, ∀ w1 : World, (q6 b1 b2 b3 b4 b5 false && c b1 b2 b3 b4 b5 false) = true → F b1 b2 b3 b4 b5 false v1 v2 v3 v4 v5 w1 → wpList P l.toArray (nO Q fun a w2 => S w2 ∧ a = Act.mk (List.set (List.set (List.set (List.set (List.set ts d1 v1) d2 v2) d3 v3) d4 v4) d5 v5).toArray df ∧ F b1 b2 b3 b4 b5 true v1 v2 v3 v4 v5 w2) [o6] (Act.mk (List.set (List.set (List.set (List.set (List.set ts d1 v1) d2 v2) d3 v3) d4 v4) d5 v5).toArray df) w1)
 (hG : ∀ v1 v2 v3 v4 v5 : Value, ∀ w1 : World, F true true true true true true v1 v2 v3 v4 v5 w1 → wpAnyH P .any l.toArray Q S fuel (List.set (List.set (List.set (List.set (List.set (List.set listed i1 true) i2 true) i3 true) i4 true) i5 true) i6 true).toArray (Act.mk (List.set (List.set (List.set (List.set (List.set ts d1 v1) d2 v2) d3 v3) d4 v4) d5 v5).toArray df) w1)
 (hi : l[i1]? = some o1 ∧ l[i2]? = some o2 ∧ l[i3]? = some o3 ∧ l[i4]? = some o4 ∧ l[i5]? = some o5 ∧ l[i6]? = some o6 := by refine ⟨rfl, rfl, rfl, rfl, rfl, rfl⟩)
 (hr : (∀ b1 b2 b3 b4 b5 b6 : Bool, c b1 b2 b3 b4 b5 b6 = true → (b1 && b2 && b3 && b4 && b5 && b6) = false → (decide (0 < (Region.ready .any l.toArray (List.set (List.set (List.set (List.set (List.set (List.set listed i1 b1) i2 b2) i3 b3) i4 b4) i5 b5) i6 b6).toArray).length) && (Region.ready .any l.toArray (List.set (List.set (List.set (List.set (List.set (List.set listed i1 b1) i2 b2) i3 b3) i4 b4) i5 b5) i6 b6).toArray).all fun i => (i == i1 && (!b1 && ((q1 false b2 b3 b4 b5 b6 && c false b2 b3 b4 b5 b6) && c true b2 b3 b4 b5 b6))) || (i == i2 && (!b2 && ((q2 b1 false b3 b4 b5 b6 && c b1 false b3 b4 b5 b6) && c b1 true b3 b4 b5 b6))) || (i == i3 && (!b3 && ((q3 b1 b2 false b4 b5 b6 && c b1 b2 false b4 b5 b6) && c b1 b2 true b4 b5 b6))) || (i == i4 && (!b4 && ((q4 b1 b2 b3 false b5 b6 && c b1 b2 b3 false b5 b6) && c b1 b2 b3 true b5 b6))) || (i == i5 && (!b5 && ((q5 b1 b2 b3 b4 false b6 && c b1 b2 b3 b4 false b6) && c b1 b2 b3 b4 true b6))) || (i == i6 && (!b6 && ((q6 b1 b2 b3 b4 b5 false && c b1 b2 b3 b4 b5 false) && c b1 b2 b3 b4 b5 true)))) = true) := by decide +kernel) (hc0 : c false false false false false false = true := by rfl)
 (hf : fuel2 = fuel + 6 := by rfl) (hn : i1 ≠ i2 ∧ i1 ≠ i3 ∧ i1 ≠ i4 ∧ i1 ≠ i5 ∧ i1 ≠ i6 ∧ i2 ≠ i3 ∧ i2 ≠ i4 ∧ i2 ≠ i5 ∧ i2 ≠ i6 ∧ i3 ≠ i4 ∧ i3 ≠ i5 ∧ i3 ≠ i6 ∧ i4 ≠ i5 ∧ i4 ≠ i6 ∧ i5 ≠ i6 := by decide) (hl0 : (List.set (List.set (List.set (List.set (List.set (List.set listed i1 false) i2 false) i3 false) i4 false) i5 false) i6 false) = listed := by rfl) (ht0 : (List.set (List.set (List.set (List.set (List.set ts d1 (List.getD ts d1 undef)) d2 (List.getD ts d2 undef)) d3 (List.getD ts d3 undef)) d4 (List.getD ts d4 undef)) d5 (List.getD ts d5 undef)) = ts := by rfl)
 : wpAnyH P .any l.toArray Q S fuel2 listed.toArray (Act.mk ts.toArray df) w := by
 obtain ⟨e1, e2, e3, e4, e5, e6⟩ := hi
 obtain ⟨n1_2, n1_3, n1_4, n1_5, n1_6, n2_3, n2_4, n2_5, n2_6, n3_4, n3_5, n3_6, n4_5, n4_6, n5_6⟩ := hn
 rw [hf]
 refine tG (Inv := fun m L a w => ∃ b1 b2 b3 b4 b5 b6 : Bool, ∃ v1 v2 v3 v4 v5 : Value, c b1 b2 b3 b4 b5 b6 = true ∧ m = iC b1 + iC b2 + iC b3 + iC b4 + iC b5 + iC b6 ∧ L = (List.set (List.set (List.set (List.set (List.set (List.set listed i1 b1) i2 b2) i3 b3) i4 b4) i5 b5) i6 b6) ∧ a = Act.mk (List.set (List.set (List.set (List.set (List.set ts d1 v1) d2 v2) d3 v3) d4 v4) d5 v5).toArray df ∧ F b1 b2 b3 b4 b5 b6 v1 v2 v3 v4 v5 w) ?_ ?_ 6 listed _ w ⟨false, false, false, false, false, false, (List.getD ts d1 undef), (List.getD ts d2 undef), (List.getD ts d3 undef), (List.getD ts d4 undef), (List.getD ts d5 undef), hc0, by rfl, hl0.symm, by rw [ht0], hF⟩
 ·rintro m L a w ⟨b1, b2, b3, b4, b5, b6, v1, v2, v3, v4, v5, hcc, hm, rfl, rfl, hf⟩
  have hb : (b1 && b2 && b3 && b4 && b5 && b6) = false := by
   cases hq : (b1 && b2 && b3 && b4 && b5 && b6) with
   | false => rfl
   | true =>
    exfalso
    simp only [Bool.and_eq_true] at hq
    obtain ⟨⟨⟨⟨⟨p1, p2⟩, p3⟩, p4⟩, p5⟩, p6⟩ := hq
    subst p1 p2 p3 p4 p5 p6
    simp [iC] at hm
  have hr := hr b1 b2 b3 b4 b5 b6 hcc hb
  simp only [Bool.and_eq_true, decide_eq_true_eq, List.all_eq_true, Bool.or_eq_true, beq_iff_eq, Bool.not_eq_true'] at hr
  refine ⟨hr.1, fun i hi => ?_⟩
  rcases hr.2 i hi with (((((⟨rfl, rfl, c1, cc1⟩ | ⟨rfl, rfl, c2, cc2⟩) | ⟨rfl, rfl, c3, cc3⟩) | ⟨rfl, rfl, c4, cc4⟩) | ⟨rfl, rfl, c5, cc5⟩) | ⟨rfl, rfl, c6, cc6⟩)
  ·refine wpOp_mono ?_ (dJ (by simpa using e1) (h1 true b2 b3 b4 b5 b6 v1 v2 v3 v4 v5 w (Bool.and_eq_true_iff.2 c1) hf))
   rintro a w2 ⟨hS, u, rfl, hf2⟩
   refine ⟨hS, true, b2, b3, b4, b5, b6, u, v2, v3, v4, v5, cc1, ?_, ?_, rfl, hf2⟩
   ·simp only [iC, Bool.false_eq_true, if_true, if_false] at hm ⊢; omega
   ·rw [List.set_comm _ _ n1_6.symm, List.set_comm _ _ n1_5.symm, List.set_comm _ _ n1_4.symm, List.set_comm _ _ n1_3.symm, List.set_comm _ _ n1_2.symm, List.set_set]
  ·refine wpOp_mono ?_ (dJ (by simpa using e2) (h2 b1 true b3 b4 b5 b6 v1 v2 v3 v4 v5 w (Bool.and_eq_true_iff.2 c2) hf))
   rintro a w2 ⟨hS, u, rfl, hf2⟩
   refine ⟨hS, b1, true, b3, b4, b5, b6, v1, u, v3, v4, v5, cc2, ?_, ?_, rfl, hf2⟩
   ·simp only [iC, Bool.false_eq_true, if_true, if_false] at hm ⊢; omega
   ·rw [List.set_comm _ _ n2_6.symm, List.set_comm _ _ n2_5.symm, List.set_comm _ _ n2_4.symm, List.set_comm _ _ n2_3.symm, List.set_set]
  ·refine wpOp_mono ?_ (dJ (by simpa using e3) (h3 b1 b2 true b4 b5 b6 v1 v2 v3 v4 v5 w (Bool.and_eq_true_iff.2 c3) hf))
   rintro a w2 ⟨hS, u, rfl, hf2⟩
   refine ⟨hS, b1, b2, true, b4, b5, b6, v1, v2, u, v4, v5, cc3, ?_, ?_, rfl, hf2⟩
   ·simp only [iC, Bool.false_eq_true, if_true, if_false] at hm ⊢; omega
   ·rw [List.set_comm _ _ n3_6.symm, List.set_comm _ _ n3_5.symm, List.set_comm _ _ n3_4.symm, List.set_set]
  ·refine wpOp_mono ?_ (dJ (by simpa using e4) (h4 b1 b2 b3 true b5 b6 v1 v2 v3 v4 v5 w (Bool.and_eq_true_iff.2 c4) hf))
   rintro a w2 ⟨hS, u, rfl, hf2⟩
   refine ⟨hS, b1, b2, b3, true, b5, b6, v1, v2, v3, u, v5, cc4, ?_, ?_, rfl, hf2⟩
   ·simp only [iC, Bool.false_eq_true, if_true, if_false] at hm ⊢; omega
   ·rw [List.set_comm _ _ n4_6.symm, List.set_comm _ _ n4_5.symm, List.set_set]
  ·refine wpOp_mono ?_ (dJ (by simpa using e5) (h5 b1 b2 b3 b4 true b6 v1 v2 v3 v4 v5 w (Bool.and_eq_true_iff.2 c5) hf))
   rintro a w2 ⟨hS, u, rfl, hf2⟩
   refine ⟨hS, b1, b2, b3, b4, true, b6, v1, v2, v3, v4, u, cc5, ?_, ?_, rfl, hf2⟩
   ·simp only [iC, Bool.false_eq_true, if_true, if_false] at hm ⊢; omega
   ·rw [List.set_comm _ _ n5_6.symm, List.set_set]
  ·refine wpOp_mono ?_ (dJ (by simpa using e6) (h6 b1 b2 b3 b4 b5 true v1 v2 v3 v4 v5 w (Bool.and_eq_true_iff.2 c6) hf))
   rintro a w2 ⟨hS, rfl, hf2⟩
   refine ⟨hS, b1, b2, b3, b4, b5, true, v1, v2, v3, v4, v5, cc6, ?_, ?_, rfl, hf2⟩
   ·simp only [iC, Bool.false_eq_true, if_true, if_false] at hm ⊢; omega
   ·rw [List.set_set]
 ·rintro L a w ⟨b1, b2, b3, b4, b5, b6, v1, v2, v3, v4, v5, hcc, hm, rfl, rfl, hf⟩
  have p1 : b1 = true := cO (by omega)
  have p2 : b2 = true := cO (by omega)
  have p3 : b3 = true := cO (by omega)
  have p4 : b4 = true := cO (by omega)
  have p5 : b5 = true := cO (by omega)
  have p6 : b6 = true := cO (by omega)
  subst p1 p2 p3 p4 p5 p6
  exact hG v1 v2 v3 v4 v5 w hf
end
end Go.Proofs.X
set_option linter.unusedVariables false
set_option linter.unusedSimpArgs false
namespace Go.Proofs.X
open Go.RowKit
section
variable {P : Program} {a : Act} {w : World} {d : Option Nat} {ty : TypeId} {ps : String} {af : Array Edge} {g : Option (Nat × Bool)}
theorem Runs.takeC {t : TypeId} {x hi : Operand} {k n l c : Nat} {ad : Option Addr} (hx : a.eval x = .slice ad l c) (h2 : a.eval hi = .int .i64 (n : Nat)) (hn : n ≤ c) (ht : eI P t k = true) :
 Runs P (Oper.mk d (.slice t x none (some hi) none) ty ps af g) a w (.slice (if c = 0 then ad else ad.map (·.add (0 * k))) (n - 0) (c - 0)) := by
 obtain ⟨e, ie, ht, hie, hz⟩ := dV ht
 constructor
 simp [execOp, hx, h2, Instr.sliceAt, Instr.slice, run_underlying ht, Instr.sliceBounds, Instr.sliceBound, asIntOf, sizeOf, typeInfo, hie, hz, hn]
end
theorem Sl.news {k n cap : Nat} {w : World} {a : Addr} {fs : List (List Value)} (hx : Sl k w (.slice (some a) n cap) fs) (hk : 0 < k) : ∀ j u, fs.flatten[j]? = some u → w.cell? (a.add j) = some u := by
 obtain ⟨ad, cap', he, h2, h3, h4, h5, h6⟩ := hx
 cases he
 intro j u hj
 by_cases hne : fs = []
 ·subst hne; simp at hj
 ·obtain ⟨b, o, he, hc⟩ := h6 hne
  cases he
  have hlen := bE h4
  have hjl : j < fs.length * k := by rw [← hlen]; exact (List.getElem?_eq_some_iff.1 hj).1
  have hdm : j = (j / k) * k + j % k := by rw [Nat.mul_comm]; exact (Nat.div_add_mod j k).symm
  have hlt : j / k < fs.length := Nat.div_lt_of_lt_mul (by rw [Nat.mul_comm]; exact hjl)
  have hml : j % k < (fs[j / k]).length := by rw [h4 _ (List.getElem_mem hlt)]; exact Nat.mod_lt _ hk
  have hf := gX h4 (i := j / k) (e := fs[j / k]) (j := j % k) (x := (fs[j / k])[j % k]) (List.getElem?_eq_getElem hlt) (List.getElem?_eq_getElem hml)
  rw [← hdm, hj] at hf
  have := hc (j / k) fs[j / k] (j % k) u (List.getElem?_eq_getElem hlt) (by rw [List.getElem?_eq_getElem hml]; exact hf.symm)
  rw [dB]
  rw [Nat.add_assoc, ← hdm] at this
  exact this
section
variable {P : Program} {ops : Array Oper} {Q : Exit → Act → World → Prop} {w : World} {rest : List Oper} {ts : List Value} {df : List Deferred} {ty : TypeId} {ps : String} {af : Array Edge}
theorem CQ {t e k B g cap m : Nat} {a : Act} {y : Operand} {z : List Value} {c : Nat} {es : List (List Value)} (hw : Own B k e w (.slice (some ⟨g, 0, none⟩) es.length cap) es)
 (hy : a.eval y = .slice (some ⟨g, m * k, none⟩) (es.length - m) c) (hm : m < es.length)
 (h : ∀ w', Own B k e w' (.slice (some ⟨g, 0, none⟩) m cap) (es.take m) → Mv (some g) w w' → wpList P ops Q rest a w')
 (ht : kS P t e k (iB P e) = true := by decide +kernel) (hz : yO P e z = true := by decide +kernel) (hzl : z.length = k := by rfl) (h1 : ∀ u ∈ z, u.oneCell' = true := by decide +kernel) :
 wpList P ops Q (Oper.mk none (.call ⟨.builtin .clear, #[y], #[t]⟩) ty ps af none :: rest) a w := by
 obtain ⟨hu, inf, z', hi, hzi, hzc, hsz, hb, hk⟩ := jD ht
 obtain ⟨i2, v2, hi2, hz2, hc2⟩ := rV hz
 rw [hi] at hi2; cases hi2
 rw [hzi] at hz2; cases hz2
 have hall : ∀ f ∈ List.replicate (es.length - m) z, f.length = k := by intro f hf; rw [List.eq_of_mem_replicate hf]; exact hzl
 obtain ⟨cur, fz, hg, hfz, hnc, h3, h4, ho, hmv⟩ := hw.over (i := m) (fs := List.replicate (es.length - m) z) (by simp; omega) hall
 have hcells : (Builtin.zeroCells z.toArray (es.length - m)).toList = (List.replicate (es.length - m) z).flatten := by
  have := AN (z := z) (by omega) (es.length - m)
  rw [← this]
  simp [Builtin.zeroCells, madeCells]
 have hst := dP P g (m * k) e fz (List.replicate (es.length - m) z).flatten 0 cur w hg hfz (by omega) (by
  intro u hu'
  obtain ⟨f, hf, hfu⟩ := List.mem_flatten.1 hu'
  rw [List.eq_of_mem_replicate hf] at hfu
  exact h1 u hfu)
 simp only [Nat.add_zero] at hst
 obtain ⟨n', hn'⟩ : ∃ n', es.length - m = n' + 1 := ⟨es.length - m - 1, by omega⟩
 have hr : (Builtin.clear_ #[t] ty #[.slice (some ⟨g, m * k, none⟩) (es.length - m) c]).run P w = .ok (.tuple #[]) (w.setRow g (cur.toList.take (m * k) ++ (List.replicate (es.length - m) z).flatten ++ cur.toList.drop (m * k + (List.replicate (es.length - m) z).flatten.length)).toArray) := by
  rw [hn'] at hcells hst ⊢
  simp [Builtin.clear_, run_underlying hu, zeroValue, typeInfo, hi, hzi, hc2, hcells, hst]
 have htk : (es.take m ++ List.replicate (es.length - m) z ++ es.drop (m + (List.replicate (es.length - m) z).length)).take m = es.take m := by
  rw [List.append_assoc, List.take_append_of_le_length (by simp; omega), List.take_take, Nat.min_self]
 have hs := ho.short (m := m) (by simp; omega)
 rw [htk] at hs
 refine wpList_plain rfl fun K hK => ?_
 unfold Oper.wp execOp
 simp only [resolve, invoke, builtin, Sem.run_bind, Sem.run_pure, Result.andThen_ok, List.map_toArray, List.map_cons, List.map_nil, hy, hr]
 exact hK _ _ (h _ hs hmv)
end
end Go.Proofs.X
set_option linter.unusedVariables false
set_option linter.unusedSimpArgs false
namespace Go.Proofs.X
open Go.RowKit
set_option maxRecDepth 100000
theorem MT {G A : Prop} (hA : A) (e : Hid A → G := by (intro kA; (repeat' first | ((with_reducible refine aJ ?_); go_step) | ((with_reducible refine aH ?_); refine bQ ?_) | fail); (with_reducible exact kA.out))) : G := e ⟨hA⟩
theorem TC {G A : Prop} (hA : A) (e : Hid A → G := by (intro kA; (repeat' first | ((with_reducible refine aJ ?_); go_step) | ((with_reducible refine aH ?_); refine bQ ?_) | fail); (rename_i z0 z1; revert z0 z1; with_reducible exact kA.out))) : G := e ⟨hA⟩
theorem SI {G A : Prop} (hA : A) (e : Hid A → G := by (intro kA; (try ((with_reducible refine AI ?_); refine KY ?_)); (with_reducible exact kA.out))) : G := e ⟨hA⟩
theorem SJ {G A : Prop} (hA : A) (e : Hid A → G := by (intro kA; (try ((with_reducible refine AI ?_); refine MS ?_)); (with_reducible exact kA.out))) : G := e ⟨hA⟩
theorem QN {G A : Prop} (hA : A) (e : Hid A → G := by (intro kA; (repeat' (first | ((with_reducible refine aJ ?_); go_step) | fail)); (with_reducible exact kA.out))) : G := e ⟨hA⟩
theorem zW {G A : Prop} (hA : A) (e : Hid A → G := by (intro kA; (repeat' (first | ((with_reducible refine aJ ?_); go_step) | fail)); (rename_i z0 z1; revert z0 z1; with_reducible exact kA.out))) : G := e ⟨hA⟩
theorem OZ {G A : Prop} (hA : A) (e : Hid A → G := by (intro kA; (repeat' (first | ((with_reducible refine aJ ?_); go_step) | fail)); (rename_i z0 z1 z2; revert z0 z1 z2; with_reducible exact kA.out))) : G := e ⟨hA⟩
theorem dL {G A : Prop} (hA : A) (e : Hid A → G := by (intro kA; (repeat' first | ((with_reducible refine aJ ?_); go_step) | ((with_reducible refine aH ?_); first | refine bQ ?_ | (refine aK ?_ ?_ <;> intro _)) | fail); (with_reducible exact kA.out))) : G := e ⟨hA⟩
theorem yU {G A : Prop} (hA : A) (e : Hid A → G := by (intro kA; (repeat' first | ((with_reducible refine aJ ?_); go_step) | ((with_reducible refine aH ?_); first | refine bQ ?_ | (refine aK ?_ ?_ <;> intro _)) | fail); (rename_i z0; revert z0; with_reducible exact kA.out))) : G := e ⟨hA⟩
theorem CR {G A B : Prop} (hB : B) (hA : A) (e : Hid A → Hid B → G := by (intro kA kB; (repeat' first | ((with_reducible refine aJ ?_); go_step) | ((with_reducible refine aH ?_); first | refine bQ ?_ | (refine aK ?_ ?_ <;> intro _)) | fail); (rename_i z0; revert z0; with_reducible exact kA.out); (rename_i z0; revert z0; with_reducible exact kB.out))) : G := e ⟨hA⟩ ⟨hB⟩
theorem PH {G A B C : Prop} (hB : B) (hC : C) (hA : A) (e : Hid A → Hid B → Hid C → G := by (intro kA kB kC; (repeat' first | ((with_reducible refine aJ ?_); go_step) | ((with_reducible refine aH ?_); first | refine bQ ?_ | (refine aK ?_ ?_ <;> intro _)) | fail); (rename_i z0; revert z0; with_reducible exact kA.out); (rename_i z0 z1; revert z0 z1; with_reducible exact kB.out); (rename_i z0 z1 z2 z3; revert z0 z1 z2 z3; with_reducible exact kC.out))) : G := e ⟨hA⟩ ⟨hB⟩ ⟨hC⟩
theorem FX {G A B : Prop} (hB : B) (hA : A) (e : Hid A → Hid B → G := by (intro kA kB; (repeat' first | ((with_reducible refine aJ ?_); go_step) | ((with_reducible refine aH ?_); first | refine bQ ?_ | (refine aK ?_ ?_ <;> intro _)) | fail); (rename_i z0; revert z0; with_reducible exact kA.out); (rename_i z0 z1 z2; revert z0 z1 z2; with_reducible exact kB.out))) : G := e ⟨hA⟩ ⟨hB⟩
theorem MU {G A B C : Prop} (hB : B) (hC : C) (hA : A) (e : Hid A → Hid B → Hid C → G := by (intro kA kB kC; (repeat' first | ((with_reducible refine aJ ?_); go_step) | ((with_reducible refine aH ?_); first | refine bQ ?_ | (refine aK ?_ ?_ <;> intro _)) | fail); (rename_i z0; revert z0; with_reducible exact kA.out); (rename_i z0 z1 z2 z3; revert z0 z1 z2 z3; with_reducible exact kB.out); (rename_i z0 z1; revert z0 z1; with_reducible exact kC.out))) : G := e ⟨hA⟩ ⟨hB⟩ ⟨hC⟩
theorem gA {G A : Prop} (hA : A) (e : Hid A → G := by (intro kA; (repeat' first | ((with_reducible refine aJ ?_); go_step) | ((with_reducible refine aH ?_); first | refine bQ ?_ | (refine aK ?_ ?_ <;> intro _)) | fail); (rename_i z0 z1; revert z0 z1; with_reducible exact kA.out))) : G := e ⟨hA⟩
theorem MV {G A B C : Prop} (hB : B) (hC : C) (hA : A) (e : Hid A → Hid B → Hid C → G := by (intro kA kB kC; (repeat' first | ((with_reducible refine aJ ?_); go_step) | ((with_reducible refine aH ?_); first | refine bQ ?_ | (refine aK ?_ ?_ <;> intro _)) | fail); (rename_i z0 z1; revert z0 z1; with_reducible exact kA.out); (rename_i z0 z1; revert z0 z1; with_reducible exact kB.out); (rename_i z0; revert z0; with_reducible exact kC.out))) : G := e ⟨hA⟩ ⟨hB⟩ ⟨hC⟩
theorem PI {G A B C : Prop} (hB : B) (hC : C) (hA : A) (e : Hid A → Hid B → Hid C → G := by (intro kA kB kC; (repeat' first | ((with_reducible refine aJ ?_); go_step) | ((with_reducible refine aH ?_); first | refine bQ ?_ | (refine aK ?_ ?_ <;> intro _)) | fail); (rename_i z0 z1; revert z0 z1; with_reducible exact kA.out); (rename_i z0 z1 z2 z3; revert z0 z1 z2 z3; with_reducible exact kB.out); (rename_i z0; revert z0; with_reducible exact kC.out))) : G := e ⟨hA⟩ ⟨hB⟩ ⟨hC⟩
theorem QX {G A B : Prop} (hB : B) (hA : A) (e : Hid A → Hid B → G := by (intro kA kB; (repeat' first | ((with_reducible refine aJ ?_); go_step) | ((with_reducible refine aH ?_); first | refine bQ ?_ | (refine aK ?_ ?_ <;> intro _)) | fail); (rename_i z0 z1; revert z0 z1; with_reducible exact kA.out); (rename_i z0 z1 z2 z3 z4; revert z0 z1 z2 z3 z4; with_reducible exact kB.out))) : G := e ⟨hA⟩ ⟨hB⟩
theorem NR {G A : Prop} (hA : A) (e : Hid A → G := by (intro kA; (repeat' first | ((with_reducible refine aJ ?_); go_step) | ((with_reducible refine aH ?_); first | refine bQ ?_ | (refine aK ?_ ?_ <;> intro _)) | fail); (rename_i z0 z1 z2; revert z0 z1 z2; with_reducible exact kA.out))) : G := e ⟨hA⟩
theorem PJ {G A B : Prop} (hB : B) (hA : A) (e : Hid A → Hid B → G := by (intro kA kB; (repeat' first | ((with_reducible refine aJ ?_); go_step) | ((with_reducible refine aH ?_); first | refine bQ ?_ | (refine aK ?_ ?_ <;> intro _)) | fail); (rename_i z0 z1 z2; revert z0 z1 z2; with_reducible exact kA.out); (rename_i z0; revert z0; with_reducible exact kB.out))) : G := e ⟨hA⟩ ⟨hB⟩
theorem QY {G A B : Prop} (hB : B) (hA : A) (e : Hid A → Hid B → G := by (intro kA kB; (repeat' first | ((with_reducible refine aJ ?_); go_step) | ((with_reducible refine aH ?_); first | refine bQ ?_ | (refine aK ?_ ?_ <;> intro _)) | fail); (rename_i z0 z1 z2; revert z0 z1 z2; with_reducible exact kA.out); (rename_i z0 z1 z2; revert z0 z1 z2; with_reducible exact kB.out))) : G := e ⟨hA⟩ ⟨hB⟩
theorem NS {G A B C D : Prop} (hB : B) (hC : C) (hD : D) (hA : A) (e : Hid A → Hid B → Hid C → Hid D → G := by (intro kA kB kC kD; (repeat' first | ((with_reducible refine aJ ?_); go_step) | ((with_reducible refine aH ?_); first | refine bQ ?_ | (refine aK ?_ ?_ <;> intro _)) | fail); (rename_i z0 z1 z2; revert z0 z1 z2; with_reducible exact kA.out); (rename_i z0 z1 z2; revert z0 z1 z2; with_reducible exact kB.out); (rename_i z0 z1; revert z0 z1; with_reducible exact kC.out); (rename_i z0; revert z0; with_reducible exact kD.out))) : G := e ⟨hA⟩ ⟨hB⟩ ⟨hC⟩ ⟨hD⟩
theorem CI {G A : Prop} (hA : A) (e : Hid A → G := by (intro kA; (repeat' first | ((with_reducible refine aJ ?_); go_step) | ((with_reducible refine aH ?_); first | refine bQ ?_ | (refine aK ?_ ?_ <;> intro _)) | fail); (rename_i z0 z1 z2 z3; revert z0 z1 z2 z3; with_reducible exact kA.out))) : G := e ⟨hA⟩
theorem LC {G A B : Prop} (hB : B) (hA : A) (e : Hid A → Hid B → G := by (intro kA kB; (repeat' first | ((with_reducible refine aJ ?_); go_step) | ((with_reducible refine aH ?_); first | refine bQ ?_ | (refine aK ?_ ?_ <;> intro _)) | fail); (rename_i z0 z1 z2 z3; revert z0 z1 z2 z3; with_reducible exact kA.out); (rename_i z0 z1; revert z0 z1; with_reducible exact kB.out))) : G := e ⟨hA⟩ ⟨hB⟩
theorem MW {G A B C : Prop} (hB : B) (hC : C) (hA : A) (e : Hid A → Hid B → Hid C → G := by (intro kA kB kC; (repeat' first | ((with_reducible refine aJ ?_); go_step) | ((with_reducible refine aH ?_); first | refine bQ ?_ | (refine aK ?_ ?_ <;> intro _)) | fail); (rename_i z0 z1 z2 z3; revert z0 z1 z2 z3; with_reducible exact kA.out); (rename_i z0 z1; revert z0 z1; with_reducible exact kB.out); (rename_i z0; revert z0; with_reducible exact kC.out))) : G := e ⟨hA⟩ ⟨hB⟩ ⟨hC⟩
theorem QZ {G A B : Prop} (hB : B) (hA : A) (e : Hid A → Hid B → G := by (intro kA kB; (repeat' first | ((with_reducible refine aJ ?_); go_step) | ((with_reducible refine aH ?_); first | refine bQ ?_ | (refine aK ?_ ?_ <;> intro _)) | fail); (rename_i z0 z1 z2 z3; revert z0 z1 z2 z3; with_reducible exact kA.out); (rename_i z0 z1 z2 z3; revert z0 z1 z2 z3; with_reducible exact kB.out))) : G := e ⟨hA⟩ ⟨hB⟩
theorem SK {G A : Prop} (hA : A) (e : Hid A → G := by (intro kA; (repeat' first | ((with_reducible refine aJ ?_); go_step) | ((with_reducible refine aH ?_); first | refine bQ ?_ | (refine aK ?_ ?_ <;> intro _)) | fail); (rename_i z0 z1 z2 z3 z4; revert z0 z1 z2 z3 z4; with_reducible exact kA.out))) : G := e ⟨hA⟩
theorem RD {G A B : Prop} (hB : B) (hA : A) (e : Hid A → Hid B → G := by (intro kA kB; (repeat' first | ((with_reducible refine aJ ?_); go_step) | ((with_reducible refine aH ?_); first | refine bQ ?_ | (refine aK ?_ ?_ <;> intro _)) | fail); (rename_i z0 z1 z2 z3 z4; revert z0 z1 z2 z3 z4; with_reducible exact kA.out); (rename_i z0 z1 z2; revert z0 z1 z2; with_reducible exact kB.out))) : G := e ⟨hA⟩ ⟨hB⟩
theorem HW {G A : Prop} (hA : A) (e : Hid A → G := by (intro kA; (repeat' first | ((with_reducible refine aJ ?_); go_step) | ((with_reducible refine aH ?_); first | refine bQ ?_ | (refine aK ?_ ?_ <;> intro _)) | fail); (rename_i z0 z1 z2 z3 z4 z5; revert z0 z1 z2 z3 z4 z5; with_reducible exact kA.out))) : G := e ⟨hA⟩
theorem TD {G A : Prop} (hA : A) (e : Hid A → G := by (intro kA; (repeat' first | ((with_reducible refine aJ ?_); go_step) | ((with_reducible refine aH ?_); first | refine bQ ?_ | (refine aK ?_ ?_ <;> intro _)) | fail); (rename_i z0 z1 z2 z3 z4 z5 z6; revert z0 z1 z2 z3 z4 z5 z6; with_reducible exact kA.out))) : G := e ⟨hA⟩
theorem NT {G A B C D : Prop} (hB : B) (hC : C) (hD : D) (hA : A) (e : Hid A → Hid B → Hid C → Hid D → G := by (intro kA kB kC kD; (repeat' first | ((with_reducible refine aJ ?_); go_step) | ((with_reducible refine aH ?_); first | refine bQ ?_ | (refine aK ?_ ?_ <;> intro _)) | fail); (rename_i z0 z1 z2 z3 z4 z5 z6; revert z0 z1 z2 z3 z4 z5 z6; with_reducible exact kA.out); (rename_i z0 z1 z2 z3 z4; revert z0 z1 z2 z3 z4; with_reducible exact kB.out); (rename_i z0 z1 z2 z3 z4 z5; revert z0 z1 z2 z3 z4 z5; with_reducible exact kC.out); (rename_i z0 z1 z2 z3 z4; revert z0 z1 z2 z3 z4; with_reducible exact kD.out))) : G := e ⟨hA⟩ ⟨hB⟩ ⟨hC⟩ ⟨hD⟩
theorem fH {G A : Prop} (hA : A) (e : Hid A → G := by (intro kA; (repeat' first | ((with_reducible refine aJ ?_); go_step) | ((with_reducible refine aH ?_); first | refine aW ?_ | (refine aK ?_ ?_ <;> intro _)) | fail); (with_reducible exact kA.out))) : G := e ⟨hA⟩
theorem TE {G A : Prop} (hA : A) (e : Hid A → G := by (intro kA; (repeat' first | ((with_reducible refine aJ ?_); go_step) | ((with_reducible refine aH ?_); first | refine aW ?_ | (refine aK ?_ ?_ <;> intro _)) | fail); (rename_i z0; revert z0; with_reducible exact kA.out))) : G := e ⟨hA⟩
theorem II {G A B : Prop} (hB : B) (hA : A) (e : Hid A → Hid B → G := by (intro kA kB; (repeat' first | ((with_reducible refine aJ ?_); go_step) | ((with_reducible refine aH ?_); first | refine aW ?_ | (refine aK ?_ ?_ <;> intro _)) | fail); (rename_i z0; revert z0; with_reducible exact kA.out); (rename_i z0; revert z0; with_reducible exact kB.out))) : G := e ⟨hA⟩ ⟨hB⟩
theorem PK {G A B : Prop} (hB : B) (hA : A) (e : Hid A → Hid B → G := by (intro kA kB; (repeat' first | ((with_reducible refine aJ ?_); go_step) | ((with_reducible refine aH ?_); first | refine aW ?_ | (refine aK ?_ ?_ <;> intro _)) | fail); (rename_i z0; revert z0; with_reducible exact kA.out); (rename_i z0 z1 z2; revert z0 z1 z2; with_reducible exact kB.out))) : G := e ⟨hA⟩ ⟨hB⟩
theorem IJ {G A B C : Prop} (hB : B) (hC : C) (hA : A) (e : Hid A → Hid B → Hid C → G := by (intro kA kB kC; (repeat' first | ((with_reducible refine aJ ?_); go_step) | ((with_reducible refine aH ?_); first | refine aW ?_ | (refine aK ?_ ?_ <;> intro _)) | fail); (rename_i z0; revert z0; with_reducible exact kA.out); (rename_i z0 z1 z2 z3; revert z0 z1 z2 z3; with_reducible exact kB.out); (rename_i z0 z1 z2 z3; revert z0 z1 z2 z3; with_reducible exact kC.out))) : G := e ⟨hA⟩ ⟨hB⟩ ⟨hC⟩
theorem PA {G A : Prop} (hA : A) (e : Hid A → G := by (intro kA; (repeat' first | ((with_reducible refine aJ ?_); go_step) | ((with_reducible refine aH ?_); first | refine aW ?_ | (refine aK ?_ ?_ <;> intro _)) | fail); (rename_i z0 z1; revert z0 z1; with_reducible exact kA.out))) : G := e ⟨hA⟩
theorem PL {G A B C : Prop} (hB : B) (hC : C) (hA : A) (e : Hid A → Hid B → Hid C → G := by (intro kA kB kC; (repeat' first | ((with_reducible refine aJ ?_); go_step) | ((with_reducible refine aH ?_); first | refine aW ?_ | (refine aK ?_ ?_ <;> intro _)) | fail); (rename_i z0 z1; revert z0 z1; with_reducible exact kA.out); (rename_i z0 z1 z2 z3; revert z0 z1 z2 z3; with_reducible exact kB.out); (rename_i z0; revert z0; with_reducible exact kC.out))) : G := e ⟨hA⟩ ⟨hB⟩ ⟨hC⟩
theorem TF {G A : Prop} (hA : A) (e : Hid A → G := by (intro kA; (repeat' first | ((with_reducible refine aJ ?_); go_step) | ((with_reducible refine aH ?_); first | refine aW ?_ | (refine aK ?_ ?_ <;> intro _)) | fail); (rename_i z0 z1 z2; revert z0 z1 z2; with_reducible exact kA.out))) : G := e ⟨hA⟩
theorem RE {G A B : Prop} (hB : B) (hA : A) (e : Hid A → Hid B → G := by (intro kA kB; (repeat' first | ((with_reducible refine aJ ?_); go_step) | ((with_reducible refine aH ?_); first | refine aW ?_ | (refine aK ?_ ?_ <;> intro _)) | fail); (rename_i z0 z1 z2; revert z0 z1 z2; with_reducible exact kA.out); (rename_i z0; revert z0; with_reducible exact kB.out))) : G := e ⟨hA⟩ ⟨hB⟩
theorem PM {G A B : Prop} (hB : B) (hA : A) (e : Hid A → Hid B → G := by (intro kA kB; (repeat' first | ((with_reducible refine aJ ?_); go_step) | ((with_reducible refine aH ?_); first | refine aW ?_ | (refine aK ?_ ?_ <;> intro _)) | fail); (rename_i z0 z1 z2; revert z0 z1 z2; with_reducible exact kA.out); (rename_i z0 z1 z2; revert z0 z1 z2; with_reducible exact kB.out))) : G := e ⟨hA⟩ ⟨hB⟩
theorem NU {G A B C D : Prop} (hB : B) (hC : C) (hD : D) (hA : A) (e : Hid A → Hid B → Hid C → Hid D → G := by (intro kA kB kC kD; (repeat' first | ((with_reducible refine aJ ?_); go_step) | ((with_reducible refine aH ?_); first | refine aW ?_ | (refine aK ?_ ?_ <;> intro _)) | fail); (rename_i z0 z1 z2; revert z0 z1 z2; with_reducible exact kA.out); (rename_i z0 z1 z2 z3 z4; revert z0 z1 z2 z3 z4; with_reducible exact kB.out); (rename_i z0 z1; revert z0 z1; with_reducible exact kC.out); (rename_i z0; revert z0; with_reducible exact kD.out))) : G := e ⟨hA⟩ ⟨hB⟩ ⟨hC⟩ ⟨hD⟩
theorem SL {G A : Prop} (hA : A) (e : Hid A → G := by (intro kA; (repeat' first | ((with_reducible refine aJ ?_); go_step) | ((with_reducible refine aH ?_); first | refine aW ?_ | (refine aK ?_ ?_ <;> intro _)) | fail); (rename_i z0 z1 z2 z3; revert z0 z1 z2 z3; with_reducible exact kA.out))) : G := e ⟨hA⟩
theorem SM {G A : Prop} (hA : A) (e : Hid A → G := by (intro kA; (repeat' first | ((with_reducible refine aJ ?_); go_step) | ((with_reducible refine aH ?_); first | refine aW ?_ | (refine aK ?_ ?_ <;> intro _)) | fail); (rename_i z0 z1 z2 z3 z4 z5; revert z0 z1 z2 z3 z4 z5; with_reducible exact kA.out))) : G := e ⟨hA⟩
end Go.Proofs.X
set_option linter.unusedSimpArgs false
set_option linter.unusedVariables false
namespace Go.Proofs.X
open Go.RowKit
set_option maxRecDepth 100000
theorem LD {b : UInt8} (h : 65 ≤ b.toNat) (h2 : b.toNat ≤ 90) : IntKind.wrap .u8 (IntKind.wrap .u8 ((b.toNat : Int) - 65) + 97) = ((tZ b).toNat : Int) := by
 rw [tZ, if_pos ⟨h, h2⟩]
 rw [UInt8.toNat_add]
 simp only [IntKind.wrap, IntKind.bits, IntKind.signed]
 have : (32 : UInt8).toNat = 32 := rfl
 rw [this]
 simp
 omega
theorem CS (l : List UInt8) (k : Nat) (b : UInt8) (h : l[k]? = some b) : (aQ l)[k]? = some [.int .u8 (b.toNat : Nat)] := by simp [aQ, h]
theorem CT (l : List UInt8) (k : Nat) (b : UInt8) : (aQ l).set k [.int .u8 (b.toNat : Nat)] = aQ (l.set k b) := by simp [aQ, List.map_set]
theorem TG (l : List UInt8) (w : World) (hl : l.length ≤ 254) : Calls Tryz.prog 70 #[aI l] w (bS w (aI (low l))) := by
 go_enter Tryz.func70, Tryz.ntmps70
 refine_lift gA fun _ _ => ?_
 refine qX (e := 5) (l := l) rfl rfl (by decide +kernel) (by decide +kernel) (by omega) ?_
 intro v w1 x1 o1
 refine aA ?_
 have sl := o1.sl
 refine_lift gA fun _ _ => ?_
 clear sl
 have hlb : (aQ l).length = l.length := by simp [aQ]
 rw [hlb]
 go_loopw [10] (fun i wr => ∃ k : Nat, k ≤ l.length ∧ i = .int .i64 k ∧ Ext w wr ∧ Own w.heap.size 1 5 wr v (aQ (mO l k))) (fun i _ => l.length - (intOf i).toNat)
 case atStart => exact ⟨0, Nat.zero_le _, rfl, x1, by simpa [FT] using o1⟩
 case round =>
  obtain ⟨k, hk, rfl, hx, ho⟩ := hrel
  have hsl := ho.sl
  have hlen : (aQ (mO l k)).length = l.length := by simp [aQ, sA]
  by_cases hlt : k < l.length
  ·have hp := hsl.elem (CS _ _ _ (AJ l k hlt))
   (repeat' first | ((with_reducible refine aJ ?_); go_step) | ((with_reducible refine aH ?_); first | refine bQ ?_ | (refine aK ?_ ?_ <;> intro hc)) | fail)
   ·rename_i h1 h2
    refine gF (c := .int .u8 _) (i := k) rfl rfl rfl ho (by omega) (by decide +kernel) rfl ?_
    intro w2 o2 m2
    have hx2 := ho.mvx m2 hx (Nat.le_refl _)
    have e2 : (aQ (mO l k)).set k [Value.int .u8 (IntKind.u8.wrap (IntKind.u8.wrap (↑l[k].toNat - 65) + 97))] = aQ (mO l (k + 1)) := by
     rw [wZ l k hlt, ← CT, LD (by omega) (by omega)]
    rw [e2] at o2
    clear hx ho hsl hp
    refine_lift dL ?_
    exact ⟨⟨k + 1, by omega, rfl, hx2, o2⟩, by simp [intOf]; omega⟩
   ·refine ⟨⟨k + 1, by omega, rfl, hx, ?_⟩, by simp [intOf]; omega⟩
    rw [xB l k hlt (EF (by omega))]; exact ho
   ·refine ⟨⟨k + 1, by omega, rfl, hx, ?_⟩, by simp [intOf]; omega⟩
    rw [xB l k hlt (EF (by omega))]; exact ho
  ·have : k = l.length := by omega
   subst this
   rw [IE] at hsl
   refine_lift yU fun _ => ?_
   go_ret
   exact ⟨rfl, hx⟩
def yV (w : World) (b : Nat) : Nat := match w.cell? ⟨b, 0, none⟩ with | some (.string s) => s.size | _ => 0
theorem uG {w : World} {b : Nat} {l : List UInt8} {t : TypeId} {fr : Nat × Nat} (h : w.heap[b]? = some (.cells #[aI l] t fr)) : yV w b = l.length := by
 unfold yV
 rw [cell_of_row w b 0 _ t fr h]
 simp [aI, eJ, -ByteArray.size_data]
def EJ (P : Program) (l b : Nat) (lp : Loop) (J : List (List UInt8) → World → Prop) (Jx : World → Prop) : Prop :=
 (∀ pre x rest W, pre.length < 254 → J pre W → W.heap[b]? = some (.cells #[aI rest] 47 (0, 0)) → RoundIn Fence.wide 0 P l lp.fn ((lp.params.zip #[aI x, .bool true]).foldl (fun tmps (t, a) => tmps.setIfInBounds t a) lp.tmps) lp.assign lp.body W
    fun e W' => e = .returned (.bool true) ∧ J (pre ++ [x]) W' ∧ W'.heap[b]? = some (.cells #[aI rest] 47 (0, 0))) ∧
 (∀ pre W, J pre W → RoundIn Fence.wide 0 P l lp.fn ((lp.params.zip #[aI [], .bool false]).foldl (fun tmps (t, a) => tmps.setIfInBounds t a) lp.tmps) lp.assign lp.body W fun e W' => e = .returned (.bool false) ∧ Jx W')
set_option maxHeartbeats 1000000 in
theorem TH (l b : Nat) (lp : Loop) (J : List (List UInt8) → World → Prop) (Jx : World → Prop) (hp : lp.params.size = 2) (hL : ∀ pre W, J pre W → W.heap[l]? = some (.loop lp))
 (hput : ∀ pre W W' o, J pre W → Put W W' b o → J pre W') (hy : EJ Tryz.prog l b lp J Jx) (nm : List UInt8) (w : World) (h0 : J [] w) (hb : w.heap[b]? = some (.cells #[aI nm] 47 (0, 0))) (hlen : nm.length ≤ 254) :
 Calls Tryz.prog 177 #[.func (.yield l) #[] #[], .pointer (some ⟨b, 0, none⟩)] w fun e w' => e = .returned (.tuple #[]) ∧ match iP nm with | some ls => J ls w' | none => Jx w' := by
 go_enter Tryz.func177, Tryz.ntmps177
 iterate 2 go_step
 go_loopw [3] (fun _ wr => ∃ pre rest, J pre wr ∧ wr.heap[b]? = some (.cells #[aI rest] 47 (0, 0)) ∧ pre.length + rest.length ≤ 254 ∧ iP nm = (iP rest).map (pre ++ ·)) (fun _ wr => yV wr b)
 case atStart => exact ⟨[], nm, h0, hb, by simpa using hlen, by simp⟩
 case round =>
  obtain ⟨pre, rest, hJ, hbr, hrl, hpar⟩ := hrel
  have hc := aD (cs := [aI rest]) hbr
  cases rest with
  | nil =>
   refine_lift dL ?_
   refine bodyPost_end (results_none rfl _ _ _) rfl ⟨rfl, ?_⟩
   rw [hpar, wY]
   simpa using hJ
  | cons k t =>
   have hk : k.toNat < 256 := k.toNat_lt
   have hlt : t.length ≤ 253 := by simp only [List.length_cons] at hrl; omega
   have hfalse : (k.toNat < 1 ∨ 63 < k.toNat ∨ t.length < k.toNat) → iP nm = none := by
    intro h
    rw [hpar, lI, if_pos h]; rfl
   have htrue : ¬ (k.toNat < 1 ∨ 63 < k.toNat ∨ t.length < k.toNat) → iP nm = (iP (t.drop k.toNat)).map ((pre ++ [t.take k.toNat]) ++ ·) := by
    intro h
    rw [hpar, lI, if_neg h, Option.map_map]
    congr 1
    funext x
    simp
   have Hp := Lib.hid hpar
   clear hpar
   repeat' (first | (refine fT (id := 3) ?_) | (refine fT (id := 4) ?_) | ((with_reducible apply tP); (rfl); exact rn; refine aA ?_) | (with_reducible (apply tR)) | ((with_reducible refine aH ?_); (first | (refine iL ?_; refine CO ?_) | (refine mG ?_; first | refine nQ ?_ | refine FO ?_ | refine FQ ?_ | refine FP ?_ | ((first | refine EC ?_ ?_ | refine ED ?_ ?_) <;> intro hc)))) | ((fail_if_success (with_reducible refine aH ?_)); go_step))
   rotate_left
   ·refine tQ (lp := lp) rfl rfl rfl (hL _ _ hJ) (by simp [hp]) (hy.1 _ _ _ _ (by simp only [List.length_cons] at hrl; omega) hJ hbr) ?_
    rintro e W' ⟨rfl, hJ', hb'⟩
    refine ⟨_, rfl, ?_⟩
    simp only [List.set_cons_succ, List.set_cons_zero]
    rw [show List.drop 1 (List.take (k.toNat + 1) (k :: t)) = t.take k.toNat by simp] at hJ'
    have hc2 := aD (cs := [aI (k :: t)]) hb'
    clear hJ
    have hlt2 : k.toNat ≤ t.length := by simp only [List.length_cons] at *; omega
    repeat' (first | (refine fT (id := 3) ?_) | (refine fT (id := 4) ?_) | ((with_reducible apply tP); (rfl); exact rn; refine aA ?_) | (with_reducible (apply tR)) | ((with_reducible refine aH ?_); (first | (refine iL ?_; refine CO ?_) | (refine mG ?_; first | refine nQ ?_ | refine FO ?_ | refine FQ ?_ | refine FP ?_ | ((first | refine EC ?_ ?_ | refine ED ?_ ?_) <;> intro hc)))) | ((fail_if_success (with_reducible refine aH ?_)); go_step))
    refine eH (v := aI (List.drop (k.toNat + 1) (k :: t))) rfl rfl rfl hb' (by decide +kernel) rfl ?_
    intro W2 hput2
    refine_lift dL ?_
    have hb2 := hput2.this
    have hJ2 := hput _ _ _ _ hJ' hput2
    have hd : List.drop (k.toNat + 1) (k :: t) = t.drop k.toNat := by simp
    go_roundw
    case rel => exact ⟨pre ++ [t.take k.toNat], t.drop k.toNat, hJ2, by rw [← hd]; exact hb2, by simp at hrl ⊢; omega, htrue (by omega)⟩
    case measure =>
     rw [uG hb2, uG hbr]
     simp; omega
   all_goals
    refine tQ (lp := lp) rfl rfl rfl (hL _ _ hJ) (by simp [hp]) (hy.2 _ _ hJ) ?_
    rintro e W' ⟨rfl, hx⟩
    refine ⟨_, rfl, ?_⟩
    simp only [List.set_cons_succ, List.set_cons_zero]
    repeat' (first | (refine fT (id := 3) ?_) | (refine fT (id := 4) ?_) | ((with_reducible apply tP); (rfl); exact rn; refine aA ?_) | (with_reducible (apply tR)) | ((with_reducible refine aH ?_); (first | (refine iL ?_; refine CO ?_) | (refine mG ?_; first | refine nQ ?_ | refine FO ?_ | refine FQ ?_ | refine FP ?_ | ((first | refine EC ?_ ?_ | refine ED ?_ ?_) <;> intro hc)))) | ((fail_if_success (with_reducible refine aH ?_)); go_step))
    refine bodyPost_ret (results_none rfl _ _ _) rfl ⟨rfl, ?_⟩
    rw [hfalse (by simp only [List.length_cons] at *; omega)]
    exact hx
theorem TI (nm : List UInt8) (w : World) : Calls Tryz.prog 126 #[aI nm] w fun e w' => e = .returned (.func (.func 177) #[] #[.pointer (some ⟨w.heap.size, 0, none⟩)]) ∧ Ext w w' ∧ w'.heap.size = w.heap.size + 1 ∧ w'.heap[w.heap.size]? = some (.cells #[aI nm] 47 (0, 0)) := by
 go_enter Tryz.func126, Tryz.ntmps126
 refine_lift OZ ?_; intro _ _ _
 refine fF (vs := [aI nm]) rfl rfl ?_
 intro w1 x1 s1 h1
 refine aA ?_
 refine_lift dL ?_
 go_ret
 exact ⟨rfl, x1, s1, h1⟩
def aS (ls : List (List UInt8)) : List (List Value) := ls.map fun x => [aI x]
structure CutMid (w : World) (s : Nat) (lp : Loop) (pre : List (List UInt8)) (W : World) : Prop where
 ext : Ext w W
 hs : w.heap.size = s
 c0 : W.heap[s]? = some (.cells #[.slice none 0 0] 93 (0, 0))
 c1 : W.heap[s + 1]? = some (.cells #[.bool false] 4 (0, 0))
 loc : ∃ v, W.heap[s + 2]? = some (.cells #[v] 93 (0, 0)) ∧ Own (s + 6) 1 9 W v (aS pre)
 df : W.heap[s + 4]? = some (.deferred (some []))
 lp : W.heap[s + 5]? = some (.loop lp)
 size : s + 6 ≤ W.heap.size
structure CutOut (w : World) (s : Nat) (lp : Loop) (W : World) : Prop where
 ext : Ext w W
 hs : w.heap.size = s
 c0 : W.heap[s]? = some (.cells #[.slice none 0 0] 93 (0, 0))
 c1 : W.heap[s + 1]? = some (.cells #[.bool false] 4 (0, 0))
 df : W.heap[s + 4]? = some (.deferred (some []))
 lp : W.heap[s + 5]? = some (.loop { lp with state := .done, pending := some .ret })
theorem CutMid.put {w : World} {s : Nat} {lp : Loop} {pre : List (List UInt8)} {W W' : World} (h : CutMid w s lp pre W) {o : Obj} (hp : Put W W' (s + 3) o) : CutMid w s lp pre W' := by
 have hm := hp.mv
 have ne : ∀ k, k ≠ s + 3 → some k ≠ some (s + 3) := fun k hk e => hk (Option.some.inj e)
 obtain ⟨v, hv, ho⟩ := h.loc
 refine ⟨h.ext.move hm (by rintro k ⟨⟩; have := h.hs; omega), h.hs, hm.at h.c0 (ne _ (by omega)), hm.at h.c1 (ne _ (by omega)), ⟨v, hm.at hv (ne _ (by omega)), ho.mv hm ?_⟩, hm.at h.df (ne _ (by omega)), hm.at h.lp (ne _ (by omega)), Nat.le_trans h.size hm.size⟩
 cases hb : v.ownBlock with
 | none => exact .inl rfl
 | some r => have := ho.block r hb; exact .inr (ne r (by omega))
set_option maxHeartbeats 1000000 in
theorem QO (nm : List UInt8) (w : World) : Calls Tryz.prog 69 #[aI nm] w (sX w fun v w' => match aX nm with
 | some ls => ∃ s, v = .tuple #[s, .bool true] ∧ Own w.heap.size 1 9 w' s (aS ls)
 | none => v = .tuple #[.slice none 0 0, .bool false]) := by
 refine pF Tryz.func69 rfl ?_
 simp only [Tryz.ntmps69, List.size_toArray, List.length_cons, List.length_nil, Nat.reduceAdd, Nat.reduceSub, Array.replicate_succ, Array.replicate_zero, List.push_toArray, List.append_toArray, List.nil_append, List.cons_append]
 refine_lift OZ ?_; intro _ _ _
 refine aN (z := [.slice none 0 0]) rfl (by decide +kernel) ?_
 intro w1 x1 s1 h1
 refine aA ?_
 refine aN (z := [.bool false]) rfl (by decide +kernel) ?_
 intro w2 x2 s2 h2
 refine aA ?_
 rw [s1] at h2 ⊢
 have h1' := x2.at h1
 refine_lift RD (fun _ _ _ => ?_) (fun _ _ _ _ _ => ?_)
 ·rename_i hc
  refine eH (v := .slice none 0 0) rfl rfl rfl h1' (by decide +kernel) rfl ?_
  intro w3 p3
  have h23 := (p3.other _ (by omega)).trans h2
  refine eH (v := .bool false) rfl rfl rfl h23 (by decide +kernel) rfl ?_
  intro w4 p4
  have h14 := (p4.other _ (by omega)).trans p3.this
  refine_lift dL ?_
  refine tS (jF rfl rfl rfl h14 p4.this (by decide +kernel) (by decide +kernel)) ⟨_, rfl, ?_, ?_⟩
  ·exact ((x1.trans x2).move p3.mv (by rintro k ⟨⟩; omega)).move p4.mv (by rintro k ⟨⟩; omega)
  ·rw [aX, if_pos (by omega)]
 ·rename_i hc
  refine aN (z := [.slice none 0 0]) rfl (by decide +kernel) ?_
  intro w3 x3 s3 h3
  rw [s2, s1] at h3 s3 ⊢
  refine_lift CI fun _ _ _ _ => ?_
  refine aF (enters_of Tryz.func126 rfl rfl) rfl rfl (TI nm _) ?_
  rintro e w4 ⟨rfl, x4, s4, h4⟩
  refine ⟨_, rfl, ?_⟩
  rw [s3] at h4 s4
  refine aA ?_
  refine_lift QN ?_
  simp only [s3]
  have e4 : w4.heap.size = w.heap.size + 4 := by omega
  generalize hs : w.heap.size = s at *
  have g0 : w4.heap[s]? = _ := x4.at (x3.at h1')
  have g1 : w4.heap[s + 1]? = _ := x4.at (x3.at h2)
  have g2 : w4.heap[s + 2]? = _ := x4.at h3
  have g3 : w4.heap[s + 3]? = _ := h4
  have gx : Ext w w4 := ((x1.trans x2).trans x3).trans x4
  clear h1 h2 h1' h3 h4 x1 x2 x3 x4 s1 s2 s3 s4
  refine sZ (caps := #[.pointer (some ⟨s + 3, 0, none⟩)]) rfl (enters_of Tryz.func177 rfl rfl) e4 ?_
  intro fn W lp hlp xW k4 k5 sW
  have hJ : CutMid w s lp [] W := ⟨gx.trans xW, hs, xW.at g0, xW.at g1, ⟨_, xW.at g2, Own.nil _ _ _ _⟩, k4, k5, by omega⟩
  have gb := xW.at g3
  have hrdy : lp.state = .ready ∧ lp.pending = none := by subst hlp; exact ⟨rfl, rfl⟩
  have hlab : aX nm = iP nm := by rw [aX, if_neg (by omega)]
  have hy : EJ Tryz.prog (s + 5) (s + 3) lp (CutMid w s lp) (CutOut w s lp) := by
   constructor
   ·intro pre x rest W hpre hM hb
    subst hlp
    simp only [List.zip_toArray, List.zip_cons_cons, List.zip_nil_right, List.foldl_toArray', List.foldl_cons, List.foldl_nil, List.setIfInBounds_toArray, List.set_cons_succ, List.set_cons_zero, List.foldl_toArray, List.size_toArray, List.zip_toArray, List.length_cons, List.length_nil]
    have m0 := hM.c0
    have m1 := hM.c1
    obtain ⟨v, m2, mo⟩ := hM.loc
    have md := hM.df
    have ml := hM.lp
    have mx := hM.ext
    have ms := hM.size
    clear hM hJ gb xW k4 k5 sW g0 g1 g2 g3
    refine AD ?_
    repeat' (first | refine gY (by rfl) (by intro _ _ h; exact h) ?_ | ((with_reducible refine aH ?_); (first | (refine iL ?_; refine CO ?_) | (refine mG ?_; first | refine nQ ?_ | refine FO ?_ | refine FQ ?_ | refine FP ?_ | ((first | refine EC ?_ ?_ | refine ED ?_ ?_) <;> intro hc)))) | ((fail_if_success (with_reducible refine aH ?_)); first | go_step | gi_step))
    refine ⟨_, ml, rfl, ?_⟩
    intro w2 p2
    have n0 := p2.at m0 (by omega)
    have n1 := p2.at m1 (by omega)
    have n2 := p2.at m2 (by omega)
    have no := mo.put p2 (by omega)
    have nb := p2.at hb (by omega)
    have nd := p2.at md (by omega)
    have nl := p2.this
    have nx := mx.move p2.mv (by rintro k ⟨⟩; omega)
    have ns : s + 6 ≤ w2.heap.size := Nat.le_trans ms p2.mv.size
    clear m0 m1 m2 mo hb md ml mx ms p2
    have hp2 := aD (cs := [v]) n2
    repeat' (first | refine gY (by rfl) (by intro _ _ h; exact h) ?_ | ((with_reducible refine aH ?_); (first | (refine iL ?_; refine CO ?_) | (refine mG ?_; first | refine nQ ?_ | refine FO ?_ | refine FQ ?_ | refine FP ?_ | ((first | refine EC ?_ ?_ | refine ED ?_ ?_) <;> intro hc)))) | ((fail_if_success (with_reducible refine aH ?_)); first | go_step | gi_step))
    refine bT (xs := [aI x]) (k := 1) (e := 9) (bytes := 16) rfl rfl rfl (by intro y hy; simp at hy; subst hy; rfl) (by decide +kernel) (by simp) ?_
    intro v' w3 x3 s3 sl3 _
    refine aA ?_
    refine jE (B := s + 6) (k := 1) (e := 9) (bytes := 16) (x := v') rfl (no.ext x3) rfl sl3 (by decide +kernel) (by simp [aI, Value.cells]; rfl) (by have := x3.size; omega) (by simp [aS]; omega) (by simp [aS]; omega) ?_
    intro v2 w4 o4 mv4
    refine aA ?_
    have hv : Mv v.ownBlock w3 w4 := mv4
    have no3 := no.ext x3
    have q2 := no3.mvs hv (x3.at n2) (by omega)
    refine eH (v := v2) rfl rfl rfl q2 (by decide +kernel) o4.one ?_
    intro w5 p5
    have q0 := p5.at (no3.mvs hv (x3.at n0) (by omega)) (by omega)
    have q1 := p5.at (no3.mvs hv (x3.at n1) (by omega)) (by omega)
    have q3 := p5.at (no3.mvs hv (x3.at nb) (by omega)) (by omega)
    have q4 := p5.at (no3.mvs hv (x3.at nd) (by omega)) (by omega)
    have q5 := p5.at (no3.mvs hv (x3.at nl) (by omega)) (by omega)
    have qx := (no3.mvx hv (nx.trans x3) (by omega)).move p5.mv (by rintro k ⟨⟩; omega)
    have qs : s + 6 ≤ w5.heap.size := by have := x3.size; have := hv.size; have := p5.mv.size; omega
    have qo := o4.put p5 (by omega)
    have q2' := p5.this
    repeat' (first | refine gY (by rfl) (by intro _ _ h; exact h) ?_ | ((with_reducible refine aH ?_); (first | (refine iL ?_; refine CO ?_) | (refine mG ?_; first | refine nQ ?_ | refine FO ?_ | refine FQ ?_ | refine FP ?_ | ((first | refine EC ?_ ?_ | refine ED ?_ ?_) <;> intro hc)))) | ((fail_if_success (with_reducible refine aH ?_)); first | go_step | gi_step))
    refine yR q5 fun w6 p6 => ⟨rfl, ⟨qx.move p6.mv (by rintro k ⟨⟩; omega), hs, p6.at q0 (by omega), p6.at q1 (by omega), ⟨v2, p6.at q2' (by omega), ?_⟩, p6.at q4 (by omega), p6.this, Nat.le_trans qs p6.mv.size⟩, p6.at q3 (by omega)⟩
    have := qo.put p6 (by omega)
    simpa [aS, aI, Value.cells] using this
   ·intro pre W hM
    subst hlp
    simp only [List.zip_toArray, List.zip_cons_cons, List.zip_nil_right, List.foldl_toArray', List.foldl_cons, List.foldl_nil, List.setIfInBounds_toArray, List.set_cons_succ, List.set_cons_zero, List.foldl_toArray, List.size_toArray, List.length_cons, List.length_nil]
    have m0 := hM.c0
    have m1 := hM.c1
    have md := hM.df
    have ml := hM.lp
    have mx := hM.ext
    clear hM hJ gb xW k4 k5 sW g0 g1 g2 g3
    refine AD ?_
    repeat' (first | refine gY (by rfl) (by intro _ _ h; exact h) ?_ | ((with_reducible refine aH ?_); (first | (refine iL ?_; refine CO ?_) | (refine mG ?_; first | refine nQ ?_ | refine FO ?_ | refine FQ ?_ | refine FP ?_ | ((first | refine EC ?_ ?_ | refine ED ?_ ?_) <;> intro hc)))) | ((fail_if_success (with_reducible refine aH ?_)); first | go_step | gi_step))
    refine ⟨_, ml, rfl, ?_⟩
    intro w2 p2
    have n0 := p2.at m0 (by omega)
    have n1 := p2.at m1 (by omega)
    have nd := p2.at md (by omega)
    have nl := p2.this
    have nx := mx.move p2.mv (by rintro k ⟨⟩; omega)
    clear m0 m1 md ml mx p2
    repeat' (first | refine gY (by rfl) (by intro _ _ h; exact h) ?_ | ((with_reducible refine aH ?_); (first | (refine iL ?_; refine CO ?_) | (refine mG ?_; first | refine nQ ?_ | refine FO ?_ | refine FQ ?_ | refine FP ?_ | ((first | refine EC ?_ ?_ | refine ED ?_ ?_) <;> intro hc)))) | ((fail_if_success (with_reducible refine aH ?_)); first | go_step | gi_step))
    refine eH (v := .slice none 0 0) rfl rfl rfl n0 (by decide +kernel) rfl ?_
    intro w3 p3
    refine eH (v := .bool false) rfl rfl rfl (p3.at n1 (by omega)) (by decide +kernel) rfl ?_
    intro w4 p4
    have q0 := p4.at p3.this (by omega)
    have q1 := p4.this
    have q4 := p4.at (p3.at nd (by omega)) (by omega)
    have q5 := p4.at (p3.at nl (by omega)) (by omega)
    have qx := (nx.move p3.mv (by rintro k ⟨⟩; omega)).move p4.mv (by rintro k ⟨⟩; omega)
    repeat' (first | refine gY (by rfl) (by intro _ _ h; exact h) ?_ | ((with_reducible refine aH ?_); (first | (refine iL ?_; refine CO ?_) | (refine mG ?_; first | refine nQ ?_ | refine FO ?_ | refine FQ ?_ | refine FP ?_ | ((first | refine EC ?_ ?_ | refine ED ?_ ?_) <;> intro hc)))) | ((fail_if_success (with_reducible refine aH ?_)); first | go_step | gi_step))
    exact FM q5 fun w6 p6 => ⟨rfl, ⟨qx.move p6.mv (by rintro k ⟨⟩; omega), hs, p6.at q0 (by omega), p6.at q1 (by omega), p6.at q4 (by omega), p6.this⟩⟩
  refine (TH (s + 5) (s + 3) lp (CutMid w s lp) (CutOut w s lp) (by subst hlp; rfl) (fun _ _ h => h.lp) (fun _ _ _ _ h hp => h.put hp) hy nm W hJ gb (by omega)).mono ?_
  rintro e W' ⟨rfl, hR⟩
  refine ⟨⟨_, rfl⟩, ?_⟩
  clear hJ gb xW k4 k5 sW hy g0 g1 g2 g3
  cases hpn : iP nm with
  | some ls =>
   rw [hpn] at hR
   refine ⟨lp, hR.lp, by rw [hrdy.1]; simp, ?_⟩
   intro W2 hput
   rw [hrdy.2]
   clear hlp hrdy
   simp only
   have hm := hput.mv
   have ne : ∀ k, k ≠ s + 4 + 1 → some k ≠ some (s + 4 + 1) := fun k hk e => hk (Option.some.inj e)
   have f0 := hm.at hR.c0 (ne _ (by omega))
   have f1 := hm.at hR.c1 (ne _ (by omega))
   have fd := hm.at hR.df (ne _ (by omega))
   obtain ⟨v, f2, ho⟩ := hR.loc
   have fo : Own (s + 6) 1 9 W2 v (aS ls) := ho.put hput (by omega)
   have f2 := hm.at f2 (ne _ (by omega))
   have fx : Ext w W2 := hR.ext.move hm (by rintro k ⟨⟩; omega)
   have fs := Nat.le_trans hR.size hm.size
   clear hR hput hm
   have hp2 := aD (cs := [v]) f2
   refine_lift gA fun _ _ => ?_
   refine eH (v := v) rfl rfl rfl f0 (by decide +kernel) fo.one ?_
   intro W3 p3
   refine eH (v := .bool true) rfl rfl rfl ((p3.other _ (by omega)).trans f1) (by decide +kernel) rfl ?_
   intro W4 p4
   have q0 := (p4.other _ (by omega)).trans p3.this
   have qd := (p4.other _ (by omega)).trans ((p3.other _ (by omega)).trans fd)
   have qx : Ext w W4 := (fx.move p3.mv (by rintro k ⟨⟩; omega)).move p4.mv (by rintro k ⟨⟩; omega)
   have qo : Own (s + 6) 1 9 W4 v (aS ls) := (fo.put p3 (by omega)).put p4 (by omega)
   have qf := (p4.this)
   refine_lift dL ?_
   refine rY qd fun W5 p5 => ⟨_, jF rfl rfl rfl (p5.at q0 (by omega)) (p5.at qf (by omega)) (by decide +kernel) (by decide +kernel), _, rfl, qx.move p5.mv (by rintro k ⟨⟩; omega), ?_⟩
   rw [hlab, hpn, hs]
   exact ⟨v, rfl, (qo.put p5 (by omega)).weaken (by omega)⟩
  | none =>
   rw [hpn] at hR
   refine ⟨_, hR.lp, by simp, ?_⟩
   intro W2 hput
   simp only
   have hm := hput.mv
   have ne : ∀ k, k ≠ s + 4 + 1 → some k ≠ some (s + 4 + 1) := fun k hk e => hk (Option.some.inj e)
   have f0 := hm.at hR.c0 (ne _ (by omega))
   have f1 := hm.at hR.c1 (ne _ (by omega))
   have fd := hm.at hR.df (ne _ (by omega))
   have fx : Ext w W2 := hR.ext.move hm (by rintro k ⟨⟩; omega)
   clear hlp hrdy
   refine_lift QN ?_
   refine rY fd fun W5 p5 => ⟨_, jF rfl rfl rfl (p5.at f0 (by omega)) (p5.at f1 (by omega)) (by decide +kernel) (by decide +kernel), _, rfl, fx.move p5.mv (by rintro k ⟨⟩; omega), ?_⟩
   rw [hlab, hpn]
open Go.RowKit Go.Proofs
theorem MX : (Tryz.prog.info? 188).map (·.size) = some 2 := by kernel_rfl
theorem PN : liesAt Tryz.prog Tryz.prog.depth 188 (2 / Tryz.prog.cellsOf 188) 0 188 1 = true := by kernel_rfl
theorem MY : (Tryz.prog.info? 5).map (fun i => (i.zero, i.size, i.bytes)) = some (some (.int .u8 0), 1, 1) := by kernel_rfl
set_option maxHeartbeats 1000000 in
set_option maxRecDepth 100000 in
theorem T.Builder_copyCheck_used (b : Nat) (w : World) (h0 : w.cell? ⟨b, 0, none⟩ = some (.pointer (some ⟨b, 0, none⟩))) :
 Calls Tryz.prog 178 #[.pointer (some ⟨b, 0, none⟩)] w fun e w' => e = .returned (.tuple #[]) ∧ w' = w := by
 obtain ⟨j, hj, _⟩ := Option.map_eq_some_iff.1 MX
 go_enter Tryz.func178, Tryz.ntmps178
 go_wp2
 rw [Lib.run_neq_ptr_same w _ Tryz.underlying186 hj]
 go_wp2
 go_end0
 exact ⟨rfl, rfl⟩
set_option maxHeartbeats 1000000 in
set_option maxRecDepth 100000 in
theorem T.Builder_copyCheck_fresh (b : Nat) (w : World) (h0 : w.cell? ⟨b, 0, none⟩ = some (.pointer none)) (hsh : w.shape? b = some (188, 2)) (hfz : w.frozen? ⟨b, 0, none⟩ = false) :
 Calls Tryz.prog 178 #[.pointer (some ⟨b, 0, none⟩)] w fun e w' => e = .returned (.tuple #[]) ∧ w' = w.setCell ⟨b, 0, none⟩ (.pointer (some ⟨b, 0, none⟩)) := by
 obtain ⟨j, hj, hjs⟩ := Option.map_eq_some_iff.1 MX
 go_enter Tryz.func178, Tryz.ntmps178
 go_wp2
 rw [Lib.run_to_unsafe w ⟨b, 0, none⟩ Tryz.underlying186 Tryz.underlying247 hj (by rw [hjs]; decide) hsh (Nat.zero_lt_succ 1)]
 simp only [Result.andThen]
 rw [Oper.upon_value]
 go_wp2
 rw [run_callFunc_extern Tryz.func214 (by kernel_rfl) (by kernel_rfl) (by kernel_rfl) (e := Extern.AbiNoEscape.same) (by kernel_rfl)]
 rw [Lib.run_noEscape]
 simp only [Result.andThen]
 rw [Oper.upon_value]
 go_wp2
 rw [Lib.run_from_unsafe w ⟨b, 0, none⟩ Tryz.underlying247 Tryz.underlying186 hj hsh PN]
 simp only [Result.andThen]
 rw [Oper.upon_value]
 go_wp2
 go_end0
 exact ⟨rfl, rfl⟩
theorem T.Builder_copyCheck (B b : Nat) (bs : List Value) (w : World) (h : Lib.IsBuilder 188 5 B b bs w) :
 Calls Tryz.prog 178 #[.pointer (some ⟨b, 0, none⟩)] w fun e w' => e = .returned (.tuple #[]) ∧ (Lib.BuilderAt 188 5 B b (.pointer (some ⟨b, 0, none⟩)) bs w' ∧ Below B w w' ∧ w.drawn ≤ w'.drawn) := by
 rcases h with h | h
 ·refine (T.Builder_copyCheck_fresh b w h.cell0 h.shape h.frozen0).mono ?_
  rintro e w' ⟨rfl, rfl⟩
  exact ⟨rfl, h.used _, (Below.refl B w).setCell (p := ⟨b, 0, none⟩) h.1 _, Nat.le_refl _⟩
 ·refine (T.Builder_copyCheck_used b w h.cell0).mono ?_
  rintro e w' ⟨rfl, rfl⟩
  exact ⟨rfl, h, Below.refl B _, Nat.le_refl _⟩
set_option maxHeartbeats 2000000 in
set_option maxRecDepth 100000 in
theorem T.Builder_WriteByte (B b : Nat) (bs : List Value) (c : Int) (w : World) (h : Lib.IsBuilder 188 5 B b bs w) (hlen : bs.length + 1 ≤ 140737488355328) (hBw : B ≤ w.heap.size) :
 Calls Tryz.prog 128 #[.pointer (some ⟨b, 0, none⟩), .int .u8 c] w fun e w' => e = .returned .nilIface ∧ (Lib.BuilderAt 188 5 B b (.pointer (some ⟨b, 0, none⟩)) (bs ++ [.int .u8 c]) w' ∧ Below B w w' ∧ w.drawn ≤ w'.drawn) := by
 obtain ⟨i0, hi, hz0, hz1, hz2⟩ := info_parts MY
 go_enter Tryz.func128, Tryz.ntmps128
 go_wp2_with (go_at_call 178; refine (T.Builder_copyCheck B b bs _ h).mono ?_)
 rintro e w1 ⟨rfl, h1, hb1, hd1⟩
 obtain ⟨hB, v, hbk, hown, hne⟩ := h1
 have c0 : w1.cell? ⟨b, 0, none⟩ = some (.pointer (some ⟨b, 0, none⟩)) := by rw [Lib.cell_of_heap hbk]; rfl
 have c1 : w1.cell? ⟨b, 1, none⟩ = some v := by rw [Lib.cell_of_heap hbk]; rfl
 go_wp2_with (at_builtin; refine CM rfl _ _ 97 rfl B 5 i0 (.int .u8 0) 1 1 Tryz.underlying97 hi hz0 hz1 hz2 rfl (by decide) _ _ _ rfl (hown.alloc _) ⟨w1.heap.size, 0, none⟩ 1 1 [.int .u8 c] rfl rfl ?c1 ?c2 ?c3 ?c4 ?c5 ?_)
 case c1 =>
  intro j u hj
  match j, hj with
  | 0, hj => simp at hj; subst hj; simp [Addr.add]
 case c2 => intro u hu; simp at hu; subst hu; rfl
 case c3 => unfold maxLen; omega
 case c4 => omega
 case c5 => have := hb1.size; simp; omega
 intro v' w2 hown' hgrow hd2
 have hlt : b < w1.heap.size := by
  rcases Nat.lt_or_ge b w1.heap.size with h' | h'
  ·exact h'
  ·simp [Array.getElem?_eq_none h'] at hbk
 have hb2 : w2.heap[b]? = some (.cells #[.pointer (some ⟨b, 0, none⟩), v] 188 (0, 0)) := by
  rw [hgrow.block b (by simp; omega) (fun e => hne e.symm), Lib.alloc_old w1 _ b hlt]
  exact hbk
 have d0 : w2.cell? ⟨b, 0, none⟩ = some (.pointer (some ⟨b, 0, none⟩)) := by rw [Lib.cell_of_heap hb2]; rfl
 have d1 : w2.cell? ⟨b, 1, none⟩ = some v := by rw [Lib.cell_of_heap hb2]; rfl
 have f1 : w2.frozen? ⟨b, 1, none⟩ = false := Lib.frozen_of_heap hb2 1
 obtain ⟨g, cap, rfl⟩ : ∃ g cap, v' = .slice (some ⟨g, 0, none⟩) (bs.length + 1) cap := by
  rcases hown'.2 with ⟨_, h0⟩ | ⟨g, cap, cur, hv, _⟩
  ·omega
  ·exact ⟨g, cap, hv⟩
 go_wp2
 go_ret
 refine ⟨rfl, ?_, ?_⟩
 ·exact Lib.BuilderAt.put (T := 188) (e := 5) hB hb2 (bs' := bs ++ [.int .u8 c]) (by simpa using hown') (by decide)
 ·exact ⟨((hb1.alloc (by have := hb1.size; omega) _).grown hgrow (by have := hb1.size; simp; omega) (fun k hk => (hown.lt k hk).1)).setCell (p := ⟨b, 1, none⟩) hB _, Nat.le_trans hd1 hd2⟩
set_option maxHeartbeats 2000000 in
set_option maxRecDepth 100000 in
theorem T.Builder_WriteString (B b : Nat) (bs : List Value) (s : ByteArray) (w : World) (h : Lib.IsBuilder 188 5 B b bs w) (hlen : bs.length + s.size ≤ 140737488355328) (hBw : B ≤ w.heap.size) :
 Calls Tryz.prog 129 #[.pointer (some ⟨b, 0, none⟩), .string s] w fun e w' => e = .returned (.tuple #[.int .i64 s.size, .nilIface]) ∧ (Lib.BuilderAt 188 5 B b (.pointer (some ⟨b, 0, none⟩)) (bs ++ Lib.strCells s) w' ∧ Below B w w' ∧ w.drawn ≤ w'.drawn) := by
 obtain ⟨i0, hi, hz0, hz1, hz2⟩ := info_parts MY
 go_enter Tryz.func129, Tryz.ntmps129
 go_wp2_with (go_at_call 178; refine (T.Builder_copyCheck B b bs _ h).mono ?_)
 rintro e w1 ⟨rfl, h1, hb1, hd1⟩
 obtain ⟨hB, v, hbk, hown, hne⟩ := h1
 have c0 : w1.cell? ⟨b, 0, none⟩ = some (.pointer (some ⟨b, 0, none⟩)) := by rw [Lib.cell_of_heap hbk]; rfl
 have c1 : w1.cell? ⟨b, 1, none⟩ = some v := by rw [Lib.cell_of_heap hbk]; rfl
 go_wp2_with (at_builtin; refine AE rfl _ _ 97 9 rfl B 5 i0 Tryz.underlying97 Tryz.underlying9 hi hz0 hz1 hz2 _ _ _ rfl hown s rfl ?c3 ?c4 ?c5 ?_)
 case c3 => unfold maxLen; omega
 case c4 => omega
 case c5 => have := hb1.size; omega
 intro v' w2 hown' hgrow hd2
 have hlt : b < w1.heap.size := by
  rcases Nat.lt_or_ge b w1.heap.size with h' | h'
  ·exact h'
  ·simp [Array.getElem?_eq_none h'] at hbk
 have hb2 : w2.heap[b]? = some (.cells #[.pointer (some ⟨b, 0, none⟩), v] 188 (0, 0)) := by
  rw [hgrow.block b hlt (fun e => hne e.symm)]
  exact hbk
 have d0 : w2.cell? ⟨b, 0, none⟩ = some (.pointer (some ⟨b, 0, none⟩)) := by rw [Lib.cell_of_heap hb2]; rfl
 have d1 : w2.cell? ⟨b, 1, none⟩ = some v := by rw [Lib.cell_of_heap hb2]; rfl
 have f1 : w2.frozen? ⟨b, 1, none⟩ = false := Lib.frozen_of_heap hb2 1
 obtain ⟨ao, n', cap, rfl⟩ : ∃ ao n' cap, v' = .slice ao n' cap := by
  rcases hown'.2 with ⟨hv, _⟩ | ⟨g, cap, cur, hv, _⟩
  ·exact ⟨_, _, _, hv⟩
  ·exact ⟨_, _, _, hv⟩
 go_wp2
 go_ret2
 refine ⟨rfl, ?_, ?_⟩
 ·exact Lib.BuilderAt.put (T := 188) (e := 5) hB hb2 (bs' := bs ++ Lib.strCells s) (by simpa [Lib.strCells_length] using hown') (by decide)
 ·exact ⟨(hb1.grown hgrow (by have := hb1.size; omega) (fun k hk => (hown.lt k hk).1)).setCell (p := ⟨b, 1, none⟩) hB _, Nat.le_trans hd1 hd2⟩
theorem Ext.heapEq {w w1 : World} (h : w1.heap = w.heap) {k : Nat} {o : Obj} (hk : w.heap[k]? = some o) : w1.heap[k]? = some o := by rw [h]; exact hk
theorem CU {w0 w : World} (h : Ext w0 w) {g n : Nat} (hg : w0.heap.size ≤ g) : Ext w0 (w.freeze ⟨g, 0, none⟩ n) := by
 unfold World.freeze
 split
 ·exact h
 ·refine ⟨h.os, h.tape, h.output, by simpa using h.size, fun k hk => ?_, h.drawn⟩
  have hne : g ≠ k := by omega
  simp only [Array.getElem?_modify]
  rw [if_neg hne]
  exact h.block k hk
set_option maxHeartbeats 1000000 in
theorem T.Builder_String (B b : Nat) (l : List UInt8) (w0 w : World) (h : Lib.IsBuilder 188 5 B b (Lib.byteCells l) w) (hx0 : Ext w0 w) (hB : w0.heap.size ≤ B) (hlen : l.length ≤ 9223372036854775807) :
 Calls Tryz.prog 130 #[.pointer (some ⟨b, 0, none⟩)] w fun e w' => e = .returned (aI l) ∧ Ext w0 w' := by
 obtain ⟨p, hbB, v, hbk, hown, hne⟩ : ∃ p, Lib.BuilderAt 188 5 B b p (Lib.byteCells l) w := by
  rcases h with h | h <;> exact ⟨_, h⟩
 go_enter Tryz.func130, Tryz.ntmps130
 refine_lift NR ?_; intro _ _ _
 refine dU (S := fun w' => Ext w0 w' ∧ w'.heap[b]? = some (.cells #[p, v] 188 (0, 0))) (by decide +kernel) ?_
 intro w1 x1 hh1
 have hS : Ext w0 w1 ∧ w1.heap[b]? = some (.cells #[p, v] 188 (0, 0)) := ⟨hx0.trans x1, Ext.heapEq hh1 hbk⟩
 have hsl' := (Own.sl (B := B) (k := 1) (e := 5) (es := aQ l) ⟨by rw [mL]; simpa [aQ, Lib.byteCells] using jS hown, by simp [aQ]⟩)
 ((with_reducible apply dK (i := 0)); (rfl); (rfl); (decide +kernel); (decide +kernel); (decide +kernel); (rfl); (exact hS); (intro w9 hS9; (have hp := aD (cs := [p, v]) hS9.2); exact rn); (exact fun _ _ _ h => h); (refine aA ?_)); ((with_reducible apply dK (i := 1)); (rfl); (rfl); (decide +kernel); (decide +kernel); (decide +kernel); (rfl); (exact hS); (intro w9 hS9; (have hp := aD (cs := [p, v]) hS9.2); exact rn); (exact fun _ _ _ h => h); (refine aA ?_)); ((with_reducible apply dK (i := 2)); (rfl); (rfl); (decide +kernel); (decide +kernel); (decide +kernel); (rfl); (exact hS); (intro w9 hS9; (have hp := aD (cs := [p, v]) hS9.2); exact rn); (exact fun _ _ _ h => h); (refine aA ?_)); ((with_reducible apply dK (i := 3)); (rfl); (rfl); (decide +kernel); (decide +kernel); (decide +kernel); (rfl); (exact hS); (intro w9 hS9; (have hp := aD (cs := [p, v]) hS9.2); exact rn); (exact fun _ _ _ h => h); (refine aA ?_)); ((with_reducible apply dK (i := 5)); (rfl); (rfl); (decide +kernel); (decide +kernel); (decide +kernel); (rfl); (exact hS); (intro w9 hS9; (have hp := aD (cs := [p, v]) hS9.2); exact rn); (exact fun _ _ _ h => h); (refine aA ?_)); ((with_reducible apply dK (i := 6)); (rfl); (rfl); (decide +kernel); (decide +kernel); (decide +kernel); (rfl); (exact hS); (intro w9 hS9; (have hp := aD (cs := [p, v]) hS9.2); exact rn); (exact fun _ _ _ h => h); (refine aA ?_)); ((with_reducible apply dK (i := 7)); (rfl); (rfl); (decide +kernel); (decide +kernel); (decide +kernel); (rfl); (exact hS); (intro w9 hS9; (have hp := aD (cs := [p, v]) hS9.2); exact rn); (exact fun _ _ _ h => h); (refine aA ?_)); ((with_reducible apply dK (i := 8)); (rfl); (rfl); (decide +kernel); (decide +kernel); (decide +kernel); (rfl); (exact hS); (intro w9 hS9; (have hp := aD (cs := [p, v]) hS9.2); exact rn); (exact fun _ _ _ h => h); (refine aA ?_))
 have hsz : ∀ w', (Sl 1 w' v (aQ l)) ∨ True := fun _ => .inr trivial
 refine dK (i := 9) (v := .int .i64 ((aQ l).length : Nat)) rfl rfl (by decide +kernel) (by decide +kernel) (by decide +kernel) rfl hS (fun w' _ => ?_) (fun _ _ _ h => h) ?_
 ·obtain ⟨ad, cap, h1, _⟩ := hsl'.out
  obtain ⟨e, i, ht, _⟩ := dV (P := Tryz.prog) (t := 97) (k := 1) (by decide +kernel)
  exact ⟨by simp [execOp, resolve, invoke, builtin, Act.eval, h1, Builtin.len_, run_underlying ht, goInt]⟩
 refine aA ?_
 have hlb : (aQ l).length = l.length := by simp [aQ]
 have hE : Ext w0 w1 := hx0.trans x1
 obtain ⟨q, w2, hr2, x2, hq⟩ : ∃ q w2, (Builtin.unsafeSliceData_ #[97] 221 #[v]).run Tryz.prog w1 = .ok (.pointer q) w2 ∧ Ext w1 w2 ∧ (l ≠ [] → ∃ g cur, q = some ⟨g, 0, none⟩ ∧ B ≤ g ∧ w2.heap[g]? = some (.cells cur 5 (0, 0)) ∧ l.length ≤ cur.size ∧ ∀ j x, l[j]? = some x → w2.cell? ⟨g, j, none⟩ = some (.int .u8 (x.toNat : Nat))) := by
  rcases hown.2 with ⟨rfl, h0⟩ | ⟨g, cap, cur, rfl, hbg, hg, hnc, hcm, hcs, htake⟩
  ·refine ⟨none, w1, rfl, Ext.refl _, fun hne => absurd (List.eq_nil_of_length_eq_zero ?_) hne⟩
   simpa [Lib.byteCells] using h0
  ·have hg1 : w1.heap[g]? = some (.cells cur 5 (0, 0)) := Ext.heapEq hh1 hg
   by_cases hc : cap = 0
   ·subst hc
    have hl0 : l = [] := List.eq_nil_of_length_eq_zero (by simpa [Lib.byteCells] using hnc)
    exact ⟨_, _, Lib.run_unsafeSliceData_zero w1 _ _ 5 Tryz.underlying221 ⟨g, 0, none⟩ _ (5, cur.size) (by simp [World.shape?, hg1]), Ext.alloc _ _, fun hne => absurd hl0 hne⟩
   ·refine ⟨_, w1, Lib.run_unsafeSliceData_row _ _ _ _ _ _ hc, Ext.refl _, fun _ => ⟨g, cur, rfl, hbg, hg1, ?_, fun j x hj => ?_⟩⟩
    ·have : l.length ≤ cap := by simpa [Lib.byteCells] using hnc
     omega
    ·rw [cell_of_row w1 g j cur 5 _ hg1]
     have := congrArg (·[j]?) htake
     have hjl : j < l.length := (List.getElem?_eq_some_iff.1 hj).1
     simp only [List.getElem?_take] at this
     rw [if_pos (by simpa [Lib.byteCells] using hjl)] at this
     rw [← Array.getElem?_toList, this]
     simp [Lib.byteCells, hj]
 refine eO (i := 4) (by decide +kernel) rfl rfl ?_
 refine tD rfl (w' := w2) (v := .pointer q) (by simp [execOp, resolve, invoke, builtin, eZ, Act.eval, hr2]) ?_
 refine aA ?_
 have hb1 : b < w1.heap.size := (Array.getElem?_eq_some_iff.1 hS.2).1
 refine aL ⟨⟨hE.trans x2, x2.at hS.2⟩, ?_⟩
 have hE2 : Ext w0 w2 := hE.trans x2
 obtain ⟨w3, hr3, x3, hb3⟩ : ∃ w3, (Builtin.unsafeString_ #[221, 3] 9 #[.pointer q, .int .i64 ((aQ l).length : Nat)]).run Tryz.prog w2 = .ok (aI l) w3 ∧ Ext w0 w3 ∧ w3.heap[b]? = some (.cells #[p, v] 188 (0, 0)) := by
  by_cases hl0 : l = []
  ·subst hl0
   exact ⟨w2, Lib.run_unsafeString_none w2 _ _ _ q, hE2, x2.at hS.2⟩
  ·obtain ⟨g, cur, rfl, hbg, hg2, hcl, hcell⟩ := hq hl0
   refine ⟨_, by rw [hlb]; exact Lib.run_unsafeString_row w2 221 3 9 5 Tryz.underlying221 (by decide +kernel) g cur.size (by simp [World.shape?, hg2]) l hl0 hcl hlen (fun j x hj => by rw [dB, Nat.zero_add]; exact hcell j x hj), CU hE2 (by omega), ?_⟩
   have hgb : g ≠ b := by
    rintro rfl
    rw [x2.at hS.2] at hg2
    simp at hg2
   unfold World.freeze
   split
   ·exact x2.at hS.2
   ·simp only [Array.getElem?_modify]
    rw [if_neg hgb]
    exact x2.at hS.2
 refine eO (i := 10) (by decide +kernel) rfl rfl ?_
 refine tD rfl (w' := w3) (v := aI l) (by rw [hlb] at hr3; simp [execOp, resolve, invoke, builtin, Act.eval, hlb, hr3]) ?_
 refine aA ?_
 refine aL ⟨⟨x3, hb3⟩, ?_⟩
 refine eO (i := 11) (by decide +kernel) rfl rfl ?_
 refine_lift dL ?_
 refine ⟨⟨x3, hb3⟩, ?_⟩
 refine dR (by decide +kernel) ?_
 refine_lift dL ?_
 go_ret
 exact ⟨rfl, x3⟩
end Go.Proofs.X
