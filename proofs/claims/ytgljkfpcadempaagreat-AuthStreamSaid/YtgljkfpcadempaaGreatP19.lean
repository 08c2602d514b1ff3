/- Laws and walks that the proof of the statement is made of (part 19). -/
import Derived.Test.YtgljkfpcadempaaGreatP18
set_option linter.unusedSimpArgs false
set_option linter.unusedVariables false
namespace Go.Proofs.X
open Go.RowKit
set_option maxRecDepth 100000
section
variable {P : Program} {Q : Exit → Act → World → Prop} {S : World → Prop} {l : List Oper} {ts : List Value} {df : List Deferred} {w : World} {fuel : Nat} {listed : List Bool}
theorem KN (i1 i2 i3 i4 i5 i6 i7 i8 i9 i10 i11 : Nat) (d1 d2 d3 d4 d5 d6 d7 d8 d9 d10 : Nat) (c q1 q2 q3 q4 q5 q6 q7 q8 q9 q10 q11 : Bool → Bool → Bool → Bool → Bool → Bool → Bool → Bool → Bool → Bool → Bool → Bool) (F : Bool → Bool → Bool → Bool → Bool → Bool → Bool → Bool → Bool → Bool → Bool → Value → Value → Value → Value → Value → Value → Value → Value → Value → Value → World → Prop)
 {fuel2 : Nat} {o1 o2 o3 o4 o5 o6 o7 o8 o9 o10 o11 : Oper}
 (hF : F false false false false false false false false false false false (List.getD ts d1 undef) (List.getD ts d2 undef) (List.getD ts d3 undef) (List.getD ts d4 undef) (List.getD ts d5 undef) (List.getD ts d6 undef) (List.getD ts d7 undef) (List.getD ts d8 undef) (List.getD ts d9 undef) (List.getD ts d10 undef) w)
 (h1 : ∀ b1 b2 b3 b4 b5 b6 b7 b8 b9 b10 b11 : Bool, ∀ v1 v2 v3 v4 v5 v6 v7 v8 v9 v10 : Value, ∀ w1 : World, (q1 false b2 b3 b4 b5 b6 b7 b8 b9 b10 b11 && c false b2 b3 b4 b5 b6 b7 b8 b9 b10 b11) = true → F false b2 b3 b4 b5 b6 b7 b8 b9 b10 b11 v1 v2 v3 v4 v5 v6 v7 v8 v9 v10 w1 → wpList P l.toArray (nO Q fun a w2 => S w2 ∧ ∃ u, a = Act.mk (List.set (List.set (List.set (List.set (List.set (List.set (List.set (List.set (List.set (List.set ts d1 u) d2 v2) d3 v3) d4 v4) d5 v5) d6 v6) d7 v7) d8 v8) d9 v9) d10 v10).toArray df ∧ F true b2 b3 b4 b5 b6 b7 b8 b9 b10 b11 u v2 v3 v4 v5 v6 v7 v8 v9 v10 w2) [o1] (Act.mk (List.set (List.set (List.set (List.set (List.set (List.set (List.set (List.set (List.set (List.set ts d1 v1) d2 v2) d3 v3) d4 v4) d5 v5) d6 v6) d7 v7) d8 v8) d9 v9) d10 v10).toArray df) w1)
 (h2 : ∀ b1 b2 b3 b4 b5 b6 b7 b8 b9 b10 b11 : Bool, ∀ v1 v2 v3 v4 v5 v6 v7 v8 v9 v10 : Value, ∀ w1 : World, (q2 b1 false b3 b4 b5 b6 b7 b8 b9 b10 b11 && c b1 false b3 b4 b5 b6 b7 b8 b9 b10 b11) = true → F b1 false b3 b4 b5 b6 b7 b8 b9 b10 b11 v1 v2 v3 v4 v5 v6 v7 v8 v9 v10 w1 → wpList P l.toArray (nO Q fun a w2 => S w2 ∧ ∃ u, a = Act.mk (List.set (List.set (List.set (List.set (List.set (List.set (List.set (List.set (List.set (List.set ts d1 v1) d2 u) d3 v3) d4 v4) d5 v5) d6 v6) d7 v7) d8 v8) d9 v9) d10 v10).toArray df ∧ F b1 true b3 b4 b5 b6 b7 b8 b9 b10 b11 v1 u v3 v4 v5 v6 v7 v8 v9 v10 w2) [o2] (Act.mk (List.set (List.set (List.set (List.set (List.set (List.set (List.set (List.set (List.set (List.set ts d1 v1) d2 v2) d3 v3) d4 v4) d5 v5) d6 v6) d7 v7) d8 v8) d9 v9) d10 v10).toArray df) w1)
 (h3 : ∀ b1 b2 b3 b4 b5 b6 b7 b8 b9 b10 b11 : Bool, ∀ v1 v2 v3 v4 v5 v6 v7 v8 v9 v10 : Value, ∀ w1 : World, (q3 b1 b2 false b4 b5 b6 b7 b8 b9 b10 b11 && c b1 b2 false b4 b5 b6 b7 b8 b9 b10 b11) = true → F b1 b2 false b4 b5 b6 b7 b8 b9 b10 b11 v1 v2 v3 v4 v5 v6 v7 v8 v9 v10 w1 → wpList P l.toArray (nO Q fun a w2 => S w2 ∧ ∃ u, a = Act.mk (List.set (List.set (List.set (List.set (List.set (List.set (List.set (List.set (List.set (List.set ts d1 v1) d2 v2) d3 u) d4 v4) d5 v5) d6 v6) d7 v7) d8 v8) d9 v9) d10 v10).toArray df ∧ F b1 b2 true b4 b5 b6 b7 b8 b9 b10 b11 v1 v2 u v4 v5 v6 v7 v8 v9 v10 w2) [o3] (Act.mk (List.set (List.set (List.set (List.set (List.set (List.set (List.set (List.set (List.set (List.set ts d1 v1) d2 v2) d3 v3) d4 v4) d5 v5) d6 v6) d7 v7) d8 v8) d9 v9) d10 v10).toArray df) w1)
 (h4 : ∀ b1 b2 b3 b4 b5 b6 b7 b8 b9 b10 b11 : Bool, ∀ v1 v2 v3 v4 v5 v6 v7 v8 v9 v10 : Value, ∀ w1 : World, (q4 b1 b2 b3 false b5 b6 b7 b8 b9 b10 b11 && c b1 b2 b3 false b5 b6 b7 b8 b9 b10 b11) = true → F b1 b2 b3 false b5 b6 b7 b8 b9 b10 b11 v1 v2 v3 v4 v5 v6 v7 v8 v9 v10 w1 → wpList P l.toArray (nO Q fun a w2 => S w2 ∧ ∃ u, a = Act.mk (List.set (List.set (List.set (List.set (List.set (List.set (List.set (List.set (List.set (List.set ts d1 v1) d2 v2) d3 v3) d4 u) d5 v5) d6 v6) d7 v7) d8 v8) d9 v9) d10 v10).toArray df ∧ F b1 b2 b3 true b5 b6 b7 b8 b9 b10 b11 v1 v2 v3 u v5 v6 v7 v8 v9 v10 w2) [o4] (Act.mk (List.set (List.set (List.set (List.set (List.set (List.set (List.set (List.set (List.set (List.set ts d1 v1) d2 v2) d3 v3) d4 v4) d5 v5) d6 v6) d7 v7) d8 v8) d9 v9) d10 v10).toArray df) w1)
 (h5 : ∀ b1 b2 b3 b4 b5 b6 b7 b8 b9 b10 b11 : Bool, ∀ v1 v2 v3 v4 v5 v6 v7 v8 v9 v10 : Value, ∀ w1 : World, (q5 b1 b2 b3 b4 false b6 b7 b8 b9 b10 b11 && c b1 b2 b3 b4 false b6 b7 b8 b9 b10 b11) = true → F b1 b2 b3 b4 false b6 b7 b8 b9 b10 b11 v1 v2 v3 v4 v5 v6 v7 v8 v9 v10 w1 → wpList P l.toArray (nO Q fun a w2 => S w2 ∧ ∃ u, a = Act.mk (List.set (List.set (List.set (List.set (List.set (List.set (List.set (List.set (List.set (List.set ts d1 v1) d2 v2) d3 v3) d4 v4) d5 u) d6 v6) d7 v7) d8 v8) d9 v9) d10 v10).toArray df ∧ F b1 b2 b3 b4 true b6 b7 b8 b9 b10 b11 v1 v2 v3 v4 u v6 v7 v8 v9 v10 w2) [o5] (Act.mk (List.set (List.set (List.set (List.set (List.set (List.set (List.set (List.set (List.set (List.set ts d1 v1) d2 v2) d3 v3) d4 v4) d5 v5) d6 v6) d7 v7) d8 v8) d9 v9) d10 v10).toArray df) w1)
 (h6 : ∀ b1 b2 b3 b4 b5 b6 b7 b8 b9 b10 b11 : Bool, ∀ v1 v2 v3 v4 v5 v6 v7 v8 v9 v10 : Value, ∀ w1 : World, (q6 b1 b2 b3 b4 b5 false b7 b8 b9 b10 b11 && c b1 b2 b3 b4 b5 false b7 b8 b9 b10 b11) = true → F b1 b2 b3 b4 b5 false b7 b8 b9 b10 b11 v1 v2 v3 v4 v5 v6 v7 v8 v9 v10 w1 → wpList P l.toArray (nO Q fun a w2 => S w2 ∧ ∃ u, a = Act.mk (List.set (List.set (List.set (List.set (List.set (List.set (List.set (List.set (List.set (List.set ts d1 v1) d2 v2) d3 v3) d4 v4) d5 v5) d6 u) d7 v7) d8 v8) d9 v9) d10 v10).toArray df ∧ F b1 b2 b3 b4 b5 true b7 b8 b9 b10 b11 v1 v2 v3 v4 v5 u v7 v8 v9 v10 w2) [o6] (Act.mk (List.set (List.set (List.set (List.set (List.set (List.set (List.set (List.set (List.set (List.set ts d1 v1) d2 v2) d3 v3) d4 v4) d5 v5) d6 v6) d7 v7) d8 v8) d9 v9) d10 v10).toArray df) w1)
 (h7 : ∀ b1 b2 b3 b4 b5 b6 b7 b8 b9 b10 b11 : Bool, ∀ v1 v2 v3 v4 v5 v6 v7 v8 v9 v10 : Value, ∀ w1 : World, (q7 b1 b2 b3 b4 b5 b6 false b8 b9 b10 b11 && c b1 b2 b3 b4 b5 b6 false b8 b9 b10 b11) = true → F b1 b2 b3 b4 b5 b6 false b8 b9 b10 b11 v1 v2 v3 v4 v5 v6 v7 v8 v9 v10 w1 → wpList P l.toArray (nO Q fun a w2 => S w2 ∧ ∃ u, a = Act.mk (List.set (List.set (List.set (List.set (List.set (List.set (List.set (List.set (List.set (List.set ts d1 v1) d2 v2) d3 v3) d4 v4) d5 v5) d6 v6) d7 u) d8 v8) d9 v9) d10 v10).toArray df ∧ F b1 b2 b3 b4 b5 b6 true b8 b9 b10 b11 v1 v2 v3 v4 v5 v6 u v8 v9 v10 w2) [o7] (Act.mk (List.set (List.set (List.set (List.set (List.set (List.set (List.set (List.set (List.set (List.set ts d1 v1) d2 v2) d3 v3) d4 v4) d5 v5) d6 v6) d7 v7) d8 v8) d9 v9) d10 v10).toArray df) w1)
 (h8 : ∀ b1 b2 b3 b4 b5 b6 b7 b8 b9 b10 b11 : Bool, ∀ v1 v2 v3 v4 v5 v6 v7 v8 v9 v10 : Value, ∀ w1 : World, (q8 b1 b2 b3 b4 b5 b6 b7 false b9 b10 b11 && c b1 b2 b3 b4 b5 b6 b7 false b9 b10 b11) = true → F b1 b2 b3 b4 b5 b6 b7 false b9 b10 b11 v1 v2 v3 v4 v5 v6 v7 v8 v9 v10 w1 → wpList P l.toArray (nO Q fun a w2 => S w2 ∧ ∃ u, a = Act.mk (List.set (List.set (List.set (List.set (List.set (List.set (List.set (List.set (List.set (List.set ts d1 v1) d2 v2) d3 v3) d4 v4) d5 v5) d6 v6) d7 v7) d8 u) d9 v9) d10 v10).toArray df ∧ F b1 b2 b3 b4 b5 b6 b7 true b9 b10 b11 v1 v2 v3 v4 v5 v6 v7 u v9 v10 w2) [o8] (Act.mk (List.set (List.set (List.set (List.set (List.set (List.set (List.set (List.set (List.set (List.set ts d1 v1) d2 v2) d3 v3) d4 v4) d5 v5) d6 v6) d7 v7) d8 v8) d9 v9) d10 v10).toArray df) w1)
 (h9 : ∀ b1 b2 b3 b4 b5 b6 b7 b8 b9 b10 b11 : Bool, ∀ v1 v2 v3 v4 v5 v6 v7 v8 v9 v10 : Value, ∀ w1 : World, (q9 b1 b2 b3 b4 b5 b6 b7 b8 false b10 b11 && c b1 b2 b3 b4 b5 b6 b7 b8 false b10 b11) = true → F b1 b2 b3 b4 b5 b6 b7 b8 false b10 b11 v1 v2 v3 v4 v5 v6 v7 v8 v9 v10 w1 → wpList P l.toArray (nO Q fun a w2 => S w2 ∧ ∃ u, a = Act.mk (List.set (List.set (List.set (List.set (List.set (List.set (List.set (List.set (List.set (List.set ts d1 v1) d2 v2) d3 v3) d4 v4) d5 v5) d6 v6) d7 v7) d8 v8) d9 u) d10 v10).toArray df ∧ F b1 b2 b3 b4 b5 b6 b7 b8 true b10 b11 v1 v2 v3 v4 v5 v6 v7 v8 u v10 w2) [o9] (Act.mk (List.set (List.set (List.set (List.set (List.set (List.set (List.set (List.set (List.set (List.set ts d1 v1) d2 v2) d3 v3) d4 v4) d5 v5) d6 v6) d7 v7) d8 v8) d9 v9) d10 v10).toArray df) w1)
 (h10 : ∀ b1 b2 b3 b4 b5 b6 b7 b8 b9 b10 b11 : Bool, ∀ v1 v2 v3 v4 v5 v6 v7 v8 v9 v10 : Value, ∀ w1 : World, (q10 b1 b2 b3 b4 b5 b6 b7 b8 b9 false b11 && c b1 b2 b3 b4 b5 b6 b7 b8 b9 false b11) = true → F b1 b2 b3 b4 b5 b6 b7 b8 b9 false b11 v1 v2 v3 v4 v5 v6 v7 v8 v9 v10 w1 → wpList P l.toArray (nO Q fun a w2 => S w2 ∧ ∃ u, a = Act.mk (List.set (List.set (List.set (List.set (List.set (List.set (List.set (List.set (List.set (List.set ts d1 v1) d2 v2) d3 v3) d4 v4) d5 v5) d6 v6) d7 v7) d8 v8) d9 v9) d10 u).toArray df ∧ F b1 b2 b3 b4 b5 b6 b7 b8 b9 true b11 v1 v2 v3 v4 v5 v6 v7 v8 v9 u w2) [o10] (Act.mk (List.set (List.set (List.set (List.set (List.set (List.set (List.set (List.set (List.set (List.set ts d1 v1) d2 v2) d3 v3) d4 v4) d5 v5) d6 v6) d7 v7) d8 v8) d9 v9) d10 v10).toArray df) w1)
 (h11 : ∀ b1 b2 b3 b4 b5 b6 b7 b8 b9 b10 b11 : Bool, ∀ v1 v2 v3 v4 v5 v6 v7 v8 v9 v10 : Value, ∀ w1 : World, (q11 b1 b2 b3 b4 b5 b6 b7 b8 b9 b10 false && c b1 b2 b3 b4 b5 b6 b7 b8 b9 b10 false) = true → F b1 b2 b3 b4 b5 b6 b7 b8 b9 b10 false v1 v2 v3 v4 v5 v6 v7 v8 v9 v10 w1 → wpList P l.toArray (nO Q fun a w2 => S w2 ∧ a = Act.mk (List.set (List.set (List.set (List.set (List.set (List.set (List.set (List.set (List.set (List.set ts d1 v1) d2 v2) d3 v3) d4 v4) d5 v5) d6 v6) d7 v7) d8 v8) d9 v9) d10 v10).toArray df ∧ F b1 b2 b3 b4 b5 b6 b7 b8 b9 b10 true v1 v2 v3 v4 v5 v6 v7 v8 v9 v10 w2) [o11] (Act.mk (List.set (List.set (List.set (List.set (List.set (List.set (List.set (List.set (List.set (List.set ts d1 v1) d2 v2) d3 v3) d4 v4) d5 v5) d6 v6) d7 v7) d8 v8) d9 v9) d10 v10).toArray df) w1)
 (hG : ∀ v1 v2 v3 v4 v5 v6 v7 v8 v9 v10 : Value, ∀ w1 : World, F true true true true true true true true true true true v1 v2 v3 v4 v5 v6 v7 v8 v9 v10 w1 → wpAnyH P .any l.toArray Q S fuel (List.set (List.set (List.set (List.set (List.set (List.set (List.set (List.set (List.set (List.set (List.set listed i1 true) i2 true) i3 true) i4 true) i5 true) i6 true) i7 true) i8 true) i9 true) i10 true) i11 true).toArray (Act.mk (List.set (List.set (List.set (List.set (List.set (List.set (List.set (List.set (List.set (List.set ts d1 v1) d2 v2) d3 v3) d4 v4) d5 v5) d6 v6) d7 v7) d8 v8) d9 v9) d10 v10).toArray df) w1)
 (hi : l[i1]? = some o1 ∧ l[i2]? = some o2 ∧ l[i3]? = some o3 ∧ l[i4]? = some o4 ∧ l[i5]? = some o5 ∧ l[i6]? = some o6 ∧ l[i7]? = some o7 ∧ l[i8]? = some o8 ∧ l[i9]? = some o9 ∧ l[i10]? = some o10 ∧ l[i11]? = some o11 := by refine ⟨rfl, rfl, rfl, rfl, rfl, rfl, rfl, rfl, rfl, rfl, rfl⟩)
 (hr : (∀ b1 b2 b3 b4 b5 b6 b7 b8 b9 b10 b11 : Bool, c b1 b2 b3 b4 b5 b6 b7 b8 b9 b10 b11 = true → (b1 && b2 && b3 && b4 && b5 && b6 && b7 && b8 && b9 && b10 && b11) = false → (decide (0 < (Region.ready .any l.toArray (List.set (List.set (List.set (List.set (List.set (List.set (List.set (List.set (List.set (List.set (List.set listed i1 b1) i2 b2) i3 b3) i4 b4) i5 b5) i6 b6) i7 b7) i8 b8) i9 b9) i10 b10) i11 b11).toArray).length) && (Region.ready .any l.toArray (List.set (List.set (List.set (List.set (List.set (List.set (List.set (List.set (List.set (List.set (List.set listed i1 b1) i2 b2) i3 b3) i4 b4) i5 b5) i6 b6) i7 b7) i8 b8) i9 b9) i10 b10) i11 b11).toArray).all fun i => (i == i1 && (!b1 && ((q1 false b2 b3 b4 b5 b6 b7 b8 b9 b10 b11 && c false b2 b3 b4 b5 b6 b7 b8 b9 b10 b11) && c true b2 b3 b4 b5 b6 b7 b8 b9 b10 b11))) || (i == i2 && (!b2 && ((q2 b1 false b3 b4 b5 b6 b7 b8 b9 b10 b11 && c b1 false b3 b4 b5 b6 b7 b8 b9 b10 b11) && c b1 true b3 b4 b5 b6 b7 b8 b9 b10 b11))) || (i == i3 && (!b3 && ((q3 b1 b2 false b4 b5 b6 b7 b8 b9 b10 b11 && c b1 b2 false b4 b5 b6 b7 b8 b9 b10 b11) && c b1 b2 true b4 b5 b6 b7 b8 b9 b10 b11))) || (i == i4 && (!b4 && ((q4 b1 b2 b3 false b5 b6 b7 b8 b9 b10 b11 && c b1 b2 b3 false b5 b6 b7 b8 b9 b10 b11) && c b1 b2 b3 true b5 b6 b7 b8 b9 b10 b11))) || (i == i5 && (!b5 && ((q5 b1 b2 b3 b4 false b6 b7 b8 b9 b10 b11 && c b1 b2 b3 b4 false b6 b7 b8 b9 b10 b11) && c b1 b2 b3 b4 true b6 b7 b8 b9 b10 b11))) || (i == i6 && (!b6 && ((q6 b1 b2 b3 b4 b5 false b7 b8 b9 b10 b11 && c b1 b2 b3 b4 b5 false b7 b8 b9 b10 b11) && c b1 b2 b3 b4 b5 true b7 b8 b9 b10 b11))) || (i == i7 && (!b7 && ((q7 b1 b2 b3 b4 b5 b6 false b8 b9 b10 b11 && c b1 b2 b3 b4 b5 b6 false b8 b9 b10 b11) && c b1 b2 b3 b4 b5 b6 true b8 b9 b10 b11))) || (i == i8 && (!b8 && ((q8 b1 b2 b3 b4 b5 b6 b7 false b9 b10 b11 && c b1 b2 b3 b4 b5 b6 b7 false b9 b10 b11) && c b1 b2 b3 b4 b5 b6 b7 true b9 b10 b11))) || (i == i9 && (!b9 && ((q9 b1 b2 b3 b4 b5 b6 b7 b8 false b10 b11 && c b1 b2 b3 b4 b5 b6 b7 b8 false b10 b11) && c b1 b2 b3 b4 b5 b6 b7 b8 true b10 b11))) || (i == i10 && (!b10 && ((q10 b1 b2 b3 b4 b5 b6 b7 b8 b9 false b11 && c b1 b2 b3 b4 b5 b6 b7 b8 b9 false b11) && c b1 b2 b3 b4 b5 b6 b7 b8 b9 true b11))) || (i == i11 && (!b11 && ((q11 b1 b2 b3 b4 b5 b6 b7 b8 b9 b10 false && c b1 b2 b3 b4 b5 b6 b7 b8 b9 b10 false) && c b1 b2 b3 b4 b5 b6 b7 b8 b9 b10 true)))) = true) := by decide +kernel) (hc0 : c false false false false false false false false false false false = true := by rfl)
 (hf : fuel2 = fuel + 11 := by rfl) (hn : i1 ≠ i2 ∧ i1 ≠ i3 ∧ i1 ≠ i4 ∧ i1 ≠ i5 ∧ i1 ≠ i6 ∧ i1 ≠ i7 ∧ i1 ≠ i8 ∧ i1 ≠ i9 ∧ i1 ≠ i10 ∧ i1 ≠ i11 ∧ i2 ≠ i3 ∧ i2 ≠ i4 ∧ i2 ≠ i5 ∧ i2 ≠ i6 ∧ i2 ≠ i7 ∧ i2 ≠ i8 ∧ i2 ≠ i9 ∧ i2 ≠ i10 ∧ i2 ≠ i11 ∧ i3 ≠ i4 ∧ i3 ≠ i5 ∧ i3 ≠ i6 ∧ i3 ≠ i7 ∧ i3 ≠ i8 ∧ i3 ≠ i9 ∧ i3 ≠ i10 ∧ i3 ≠ i11 ∧ i4 ≠ i5 ∧ i4 ≠ i6 ∧ i4 ≠ i7 ∧ i4 ≠ i8 ∧ i4 ≠ i9 ∧ i4 ≠ i10 ∧ i4 ≠ i11 ∧ i5 ≠ i6 ∧ i5 ≠ i7 ∧ i5 ≠ i8 ∧ i5 ≠ i9 ∧ i5 ≠ i10 ∧ i5 ≠ i11 ∧ i6 ≠ i7 ∧ i6 ≠ i8 ∧ i6 ≠ i9 ∧ i6 ≠ i10 ∧ i6 ≠ i11 ∧ i7 ≠ i8 ∧ i7 ≠ i9 ∧ i7 ≠ i10 ∧ i7 ≠ i11 ∧ i8 ≠ i9 ∧ i8 ≠ i10 ∧ i8 ≠ i11 ∧ i9 ≠ i10 ∧ i9 ≠ i11 ∧ i10 ≠ i11 := by simp) (hl0 : (List.set (List.set (List.set (List.set (List.set (List.set (List.set (List.set (List.set (List.set (List.set listed i1 false) i2 false) i3 false) i4 false) i5 false) i6 false) i7 false) i8 false) i9 false) i10 false) i11 false) = listed := by rfl) (ht0 : (List.set (List.set (List.set (List.set (List.set (List.set (List.set (List.set (List.set (List.set ts d1 (List.getD ts d1 undef)) d2 (List.getD ts d2 undef)) d3 (List.getD ts d3 undef)) d4 (List.getD ts d4 undef)) d5 (List.getD ts d5 undef)) d6 (List.getD ts d6 undef)) d7 (List.getD ts d7 undef)) d8 (List.getD ts d8 undef)) d9 (List.getD ts d9 undef)) d10 (List.getD ts d10 undef)) = ts := by rfl)
 : wpAnyH P .any l.toArray Q S fuel2 listed.toArray (Act.mk ts.toArray df) w := by
 obtain ⟨e1, e2, e3, e4, e5, e6, e7, e8, e9, e10, e11⟩ := hi
 obtain ⟨n1_2, n1_3, n1_4, n1_5, n1_6, n1_7, n1_8, n1_9, n1_10, n1_11, n2_3, n2_4, n2_5, n2_6, n2_7, n2_8, n2_9, n2_10, n2_11, n3_4, n3_5, n3_6, n3_7, n3_8, n3_9, n3_10, n3_11, n4_5, n4_6, n4_7, n4_8, n4_9, n4_10, n4_11, n5_6, n5_7, n5_8, n5_9, n5_10, n5_11, n6_7, n6_8, n6_9, n6_10, n6_11, n7_8, n7_9, n7_10, n7_11, n8_9, n8_10, n8_11, n9_10, n9_11, n10_11⟩ := hn
 rw [hf]
 refine tG (Inv := fun m L a w => ∃ b1 b2 b3 b4 b5 b6 b7 b8 b9 b10 b11 : Bool, ∃ v1 v2 v3 v4 v5 v6 v7 v8 v9 v10 : Value, c b1 b2 b3 b4 b5 b6 b7 b8 b9 b10 b11 = true ∧ m = iC b1 + iC b2 + iC b3 + iC b4 + iC b5 + iC b6 + iC b7 + iC b8 + iC b9 + iC b10 + iC b11 ∧ L = (List.set (List.set (List.set (List.set (List.set (List.set (List.set (List.set (List.set (List.set (List.set listed i1 b1) i2 b2) i3 b3) i4 b4) i5 b5) i6 b6) i7 b7) i8 b8) i9 b9) i10 b10) i11 b11) ∧ a = Act.mk (List.set (List.set (List.set (List.set (List.set (List.set (List.set (List.set (List.set (List.set ts d1 v1) d2 v2) d3 v3) d4 v4) d5 v5) d6 v6) d7 v7) d8 v8) d9 v9) d10 v10).toArray df ∧ F b1 b2 b3 b4 b5 b6 b7 b8 b9 b10 b11 v1 v2 v3 v4 v5 v6 v7 v8 v9 v10 w) ?_ ?_ 11 listed _ w ⟨false, false, false, false, false, false, false, false, false, false, false, (List.getD ts d1 undef), (List.getD ts d2 undef), (List.getD ts d3 undef), (List.getD ts d4 undef), (List.getD ts d5 undef), (List.getD ts d6 undef), (List.getD ts d7 undef), (List.getD ts d8 undef), (List.getD ts d9 undef), (List.getD ts d10 undef), hc0, by rfl, hl0.symm, by rw [ht0], hF⟩
 ·rintro m L a w ⟨b1, b2, b3, b4, b5, b6, b7, b8, b9, b10, b11, v1, v2, v3, v4, v5, v6, v7, v8, v9, v10, hcc, hm, rfl, rfl, hf⟩
  have hb : (b1 && b2 && b3 && b4 && b5 && b6 && b7 && b8 && b9 && b10 && b11) = false := by
   cases hq : (b1 && b2 && b3 && b4 && b5 && b6 && b7 && b8 && b9 && b10 && b11) with
   | false => rfl
   | true =>
    exfalso
    simp only [Bool.and_eq_true] at hq
    obtain ⟨⟨⟨⟨⟨⟨⟨⟨⟨⟨p1, p2⟩, p3⟩, p4⟩, p5⟩, p6⟩, p7⟩, p8⟩, p9⟩, p10⟩, p11⟩ := hq
    subst p1 p2 p3 p4 p5 p6 p7 p8 p9 p10 p11
    simp [iC] at hm
  have hr := hr b1 b2 b3 b4 b5 b6 b7 b8 b9 b10 b11 hcc hb
  simp only [Bool.and_eq_true, decide_eq_true_eq, List.all_eq_true, Bool.or_eq_true, beq_iff_eq, Bool.not_eq_true'] at hr
  refine ⟨hr.1, fun i hi => ?_⟩
  rcases hr.2 i hi with ((((((((((⟨rfl, rfl, c1, cc1⟩ | ⟨rfl, rfl, c2, cc2⟩) | ⟨rfl, rfl, c3, cc3⟩) | ⟨rfl, rfl, c4, cc4⟩) | ⟨rfl, rfl, c5, cc5⟩) | ⟨rfl, rfl, c6, cc6⟩) | ⟨rfl, rfl, c7, cc7⟩) | ⟨rfl, rfl, c8, cc8⟩) | ⟨rfl, rfl, c9, cc9⟩) | ⟨rfl, rfl, c10, cc10⟩) | ⟨rfl, rfl, c11, cc11⟩)
  ·refine wpOp_mono ?_ (dJ (by simpa using e1) (h1 true b2 b3 b4 b5 b6 b7 b8 b9 b10 b11 v1 v2 v3 v4 v5 v6 v7 v8 v9 v10 w (Bool.and_eq_true_iff.2 c1) hf))
   rintro a w2 ⟨hS, u, rfl, hf2⟩
   refine ⟨hS, true, b2, b3, b4, b5, b6, b7, b8, b9, b10, b11, u, v2, v3, v4, v5, v6, v7, v8, v9, v10, cc1, ?_, ?_, rfl, hf2⟩
   ·simp only [iC, Bool.false_eq_true, if_true, if_false] at hm ⊢; omega
   ·rw [List.set_comm _ _ n1_11.symm, List.set_comm _ _ n1_10.symm, List.set_comm _ _ n1_9.symm, List.set_comm _ _ n1_8.symm, List.set_comm _ _ n1_7.symm, List.set_comm _ _ n1_6.symm, List.set_comm _ _ n1_5.symm, List.set_comm _ _ n1_4.symm, List.set_comm _ _ n1_3.symm, List.set_comm _ _ n1_2.symm, List.set_set]
  ·refine wpOp_mono ?_ (dJ (by simpa using e2) (h2 b1 true b3 b4 b5 b6 b7 b8 b9 b10 b11 v1 v2 v3 v4 v5 v6 v7 v8 v9 v10 w (Bool.and_eq_true_iff.2 c2) hf))
   rintro a w2 ⟨hS, u, rfl, hf2⟩
   refine ⟨hS, b1, true, b3, b4, b5, b6, b7, b8, b9, b10, b11, v1, u, v3, v4, v5, v6, v7, v8, v9, v10, cc2, ?_, ?_, rfl, hf2⟩
   ·simp only [iC, Bool.false_eq_true, if_true, if_false] at hm ⊢; omega
   ·rw [List.set_comm _ _ n2_11.symm, List.set_comm _ _ n2_10.symm, List.set_comm _ _ n2_9.symm, List.set_comm _ _ n2_8.symm, List.set_comm _ _ n2_7.symm, List.set_comm _ _ n2_6.symm, List.set_comm _ _ n2_5.symm, List.set_comm _ _ n2_4.symm, List.set_comm _ _ n2_3.symm, List.set_set]
  ·refine wpOp_mono ?_ (dJ (by simpa using e3) (h3 b1 b2 true b4 b5 b6 b7 b8 b9 b10 b11 v1 v2 v3 v4 v5 v6 v7 v8 v9 v10 w (Bool.and_eq_true_iff.2 c3) hf))
   rintro a w2 ⟨hS, u, rfl, hf2⟩
   refine ⟨hS, b1, b2, true, b4, b5, b6, b7, b8, b9, b10, b11, v1, v2, u, v4, v5, v6, v7, v8, v9, v10, cc3, ?_, ?_, rfl, hf2⟩
   ·simp only [iC, Bool.false_eq_true, if_true, if_false] at hm ⊢; omega
   ·rw [List.set_comm _ _ n3_11.symm, List.set_comm _ _ n3_10.symm, List.set_comm _ _ n3_9.symm, List.set_comm _ _ n3_8.symm, List.set_comm _ _ n3_7.symm, List.set_comm _ _ n3_6.symm, List.set_comm _ _ n3_5.symm, List.set_comm _ _ n3_4.symm, List.set_set]
  ·refine wpOp_mono ?_ (dJ (by simpa using e4) (h4 b1 b2 b3 true b5 b6 b7 b8 b9 b10 b11 v1 v2 v3 v4 v5 v6 v7 v8 v9 v10 w (Bool.and_eq_true_iff.2 c4) hf))
   rintro a w2 ⟨hS, u, rfl, hf2⟩
   refine ⟨hS, b1, b2, b3, true, b5, b6, b7, b8, b9, b10, b11, v1, v2, v3, u, v5, v6, v7, v8, v9, v10, cc4, ?_, ?_, rfl, hf2⟩
   ·simp only [iC, Bool.false_eq_true, if_true, if_false] at hm ⊢; omega
   ·rw [List.set_comm _ _ n4_11.symm, List.set_comm _ _ n4_10.symm, List.set_comm _ _ n4_9.symm, List.set_comm _ _ n4_8.symm, List.set_comm _ _ n4_7.symm, List.set_comm _ _ n4_6.symm, List.set_comm _ _ n4_5.symm, List.set_set]
  ·refine wpOp_mono ?_ (dJ (by simpa using e5) (h5 b1 b2 b3 b4 true b6 b7 b8 b9 b10 b11 v1 v2 v3 v4 v5 v6 v7 v8 v9 v10 w (Bool.and_eq_true_iff.2 c5) hf))
   rintro a w2 ⟨hS, u, rfl, hf2⟩
   refine ⟨hS, b1, b2, b3, b4, true, b6, b7, b8, b9, b10, b11, v1, v2, v3, v4, u, v6, v7, v8, v9, v10, cc5, ?_, ?_, rfl, hf2⟩
   ·simp only [iC, Bool.false_eq_true, if_true, if_false] at hm ⊢; omega
   ·rw [List.set_comm _ _ n5_11.symm, List.set_comm _ _ n5_10.symm, List.set_comm _ _ n5_9.symm, List.set_comm _ _ n5_8.symm, List.set_comm _ _ n5_7.symm, List.set_comm _ _ n5_6.symm, List.set_set]
  ·refine wpOp_mono ?_ (dJ (by simpa using e6) (h6 b1 b2 b3 b4 b5 true b7 b8 b9 b10 b11 v1 v2 v3 v4 v5 v6 v7 v8 v9 v10 w (Bool.and_eq_true_iff.2 c6) hf))
   rintro a w2 ⟨hS, u, rfl, hf2⟩
   refine ⟨hS, b1, b2, b3, b4, b5, true, b7, b8, b9, b10, b11, v1, v2, v3, v4, v5, u, v7, v8, v9, v10, cc6, ?_, ?_, rfl, hf2⟩
   ·simp only [iC, Bool.false_eq_true, if_true, if_false] at hm ⊢; omega
   ·rw [List.set_comm _ _ n6_11.symm, List.set_comm _ _ n6_10.symm, List.set_comm _ _ n6_9.symm, List.set_comm _ _ n6_8.symm, List.set_comm _ _ n6_7.symm, List.set_set]
  ·refine wpOp_mono ?_ (dJ (by simpa using e7) (h7 b1 b2 b3 b4 b5 b6 true b8 b9 b10 b11 v1 v2 v3 v4 v5 v6 v7 v8 v9 v10 w (Bool.and_eq_true_iff.2 c7) hf))
   rintro a w2 ⟨hS, u, rfl, hf2⟩
   refine ⟨hS, b1, b2, b3, b4, b5, b6, true, b8, b9, b10, b11, v1, v2, v3, v4, v5, v6, u, v8, v9, v10, cc7, ?_, ?_, rfl, hf2⟩
   ·simp only [iC, Bool.false_eq_true, if_true, if_false] at hm ⊢; omega
   ·rw [List.set_comm _ _ n7_11.symm, List.set_comm _ _ n7_10.symm, List.set_comm _ _ n7_9.symm, List.set_comm _ _ n7_8.symm, List.set_set]
  ·refine wpOp_mono ?_ (dJ (by simpa using e8) (h8 b1 b2 b3 b4 b5 b6 b7 true b9 b10 b11 v1 v2 v3 v4 v5 v6 v7 v8 v9 v10 w (Bool.and_eq_true_iff.2 c8) hf))
   rintro a w2 ⟨hS, u, rfl, hf2⟩
   refine ⟨hS, b1, b2, b3, b4, b5, b6, b7, true, b9, b10, b11, v1, v2, v3, v4, v5, v6, v7, u, v9, v10, cc8, ?_, ?_, rfl, hf2⟩
   ·simp only [iC, Bool.false_eq_true, if_true, if_false] at hm ⊢; omega
   ·rw [List.set_comm _ _ n8_11.symm, List.set_comm _ _ n8_10.symm, List.set_comm _ _ n8_9.symm, List.set_set]
  ·refine wpOp_mono ?_ (dJ (by simpa using e9) (h9 b1 b2 b3 b4 b5 b6 b7 b8 true b10 b11 v1 v2 v3 v4 v5 v6 v7 v8 v9 v10 w (Bool.and_eq_true_iff.2 c9) hf))
   rintro a w2 ⟨hS, u, rfl, hf2⟩
   refine ⟨hS, b1, b2, b3, b4, b5, b6, b7, b8, true, b10, b11, v1, v2, v3, v4, v5, v6, v7, v8, u, v10, cc9, ?_, ?_, rfl, hf2⟩
   ·simp only [iC, Bool.false_eq_true, if_true, if_false] at hm ⊢; omega
   ·rw [List.set_comm _ _ n9_11.symm, List.set_comm _ _ n9_10.symm, List.set_set]
  ·refine wpOp_mono ?_ (dJ (by simpa using e10) (h10 b1 b2 b3 b4 b5 b6 b7 b8 b9 true b11 v1 v2 v3 v4 v5 v6 v7 v8 v9 v10 w (Bool.and_eq_true_iff.2 c10) hf))
   rintro a w2 ⟨hS, u, rfl, hf2⟩
   refine ⟨hS, b1, b2, b3, b4, b5, b6, b7, b8, b9, true, b11, v1, v2, v3, v4, v5, v6, v7, v8, v9, u, cc10, ?_, ?_, rfl, hf2⟩
   ·simp only [iC, Bool.false_eq_true, if_true, if_false] at hm ⊢; omega
   ·rw [List.set_comm _ _ n10_11.symm, List.set_set]
  ·refine wpOp_mono ?_ (dJ (by simpa using e11) (h11 b1 b2 b3 b4 b5 b6 b7 b8 b9 b10 true v1 v2 v3 v4 v5 v6 v7 v8 v9 v10 w (Bool.and_eq_true_iff.2 c11) hf))
   rintro a w2 ⟨hS, rfl, hf2⟩
   refine ⟨hS, b1, b2, b3, b4, b5, b6, b7, b8, b9, b10, true, v1, v2, v3, v4, v5, v6, v7, v8, v9, v10, cc11, ?_, ?_, rfl, hf2⟩
   ·simp only [iC, Bool.false_eq_true, if_true, if_false] at hm ⊢; omega
   ·rw [List.set_set]
 ·rintro L a w ⟨b1, b2, b3, b4, b5, b6, b7, b8, b9, b10, b11, v1, v2, v3, v4, v5, v6, v7, v8, v9, v10, hcc, hm, rfl, rfl, hf⟩
  have p1 : b1 = true := cO (by omega)
  have p2 : b2 = true := cO (by omega)
  have p3 : b3 = true := cO (by omega)
  have p4 : b4 = true := cO (by omega)
  have p5 : b5 = true := cO (by omega)
  have p6 : b6 = true := cO (by omega)
  have p7 : b7 = true := cO (by omega)
  have p8 : b8 = true := cO (by omega)
  have p9 : b9 = true := cO (by omega)
  have p10 : b10 = true := cO (by omega)
  have p11 : b11 = true := cO (by omega)
  subst p1 p2 p3 p4 p5 p6 p7 p8 p9 p10 p11
  exact hG v1 v2 v3 v4 v5 v6 v7 v8 v9 v10 w hf
end
def KO (id op : Int) : MsgR := { zeroM with id := id, resp := true, op := op, rcode := 1 }
def OX (s : List UInt8) : Int := (((eR s).1 / 2048 &&& 15 : Nat) : Int)
def dE (hs : List HldR) (s : List UInt8) (stream : Bool) : List UInt8 × Bool :=
 if s.length < 12 ∨ aY (eR s).1 32768 = true then ([], false)
 else if (bO s).2 ≠ 0 then ((bI (KO ((gT s).1 : Nat) (OX s))).1, true)
 else if (oU (bV hs (bO s).1) (gR (bO s).1.size stream)).2.2 ≠ 0 then ((bI (bareR (bO s).1 2)).1, true)
 else ((oU (bV hs (bO s).1) (gR (bO s).1.size stream)).2.1, true)
theorem CF {s : List UInt8} : ∀ (f : Nat) (l : List mJ) (r : RdS), (zP s f l r).1.length ≤ l.length + f := by
 intro f
 induction f with
 | zero => intro l r; unfold zP; exact Nat.le_refl _
 | succ f ih =>
  intro l r
  unfold zP
  split
  ·simp
  ·refine Nat.le_trans (ih _ _) ?_
   simp
   omega
theorem KP {s : List UInt8} : ∀ (f : Nat) (l : List mJ) (r : RdS), (zP s f l r).2.e = 0 → r.e = 0 := by
 intro f
 cases f with
 | zero => intro l r h; exact h
 | succ f =>
  intro l r h
  unfold zP at h
  split at h
  ·exact h
  ·rename_i c
   simpa using c
theorem iA {s : List UInt8} {r : RdS} {n : Nat} {last : Bool} (h : (dO s r n last).2.2.e = 0) : r.e = 0 := by
 unfold dO at h
 generalize hq : r.want (decide ((n : Int) ≤ 200 + (if last = true then 1 else 0))) 2 = q at h
 have hq0 : q.e = 0 := by
  cases n with
  | zero => exact h
  | succ n =>
   unfold fK at h
   split at h
   ·exact h
   ·rename_i c
    simpa using c
 rw [← hq] at hq0
 exact (gO (by decide) hq0).1
theorem CG {s : List UInt8} (h : (MJ s).e = 0) : (jO s).1 ≤ 10 := by
 have h1 := (gO (by decide) h).1
 have h2 := iA (iA (iA h1))
 have h3 := (gO (by decide) (KP _ _ _ h2)).2
 have := of_decide_eq_true h3
 omega
set_option maxHeartbeats 4000000 in
theorem tL (v : Value) (hs : List HldR) (s : List UInt8) (stream : Bool) (w : World) (hv : HldsAt w v hs) (hl : hs.length ≤ 1000) (hb : ∀ h ∈ hs, ∀ s ∈ h.l, s.data.length ≤ 1000000) (hsl : s.length ≤ 1000000) : Calls Tryz.prog 16 #[v, aI s, .bool stream] w (bS w (.tuple #[aI (dE hs s stream).1, .bool (dE hs s stream).2])) := by
 have hch := fun w' => KH (w := w') s hsl
 have hcd := fun w' => lA (w := w') s hsl
 have hS : dE hs s stream = dE hs s stream := rfl
 conv at hS => rhs; unfold dE
 have hlq : (bO s).1.qs.length ≤ 1000 := by
  unfold bO
  split
  ·rename_i he
   show (HG s).1.length ≤ 1000
   have := CF (s := s) (jO s).1 [] (KU s)
   have h9 := CG he
   unfold HG
   simp at this
   omega
  ·exact Nat.zero_le _
 unfold tK at hch
 unfold DT at hcd
 generalize dE hs s stream = RES at *
 generalize bO s = D at *
 go_enter Tryz.func16, Tryz.ntmps16
 by_cases cl : s.length < 12
 ·simp only [if_pos cl] at hch
  rw [if_pos (.inl cl)] at hS
  (repeat' first | ((with_reducible refine aJ ?_); go_step) | ((with_reducible refine aH ?_); first | refine aW ?_ | (refine aK ?_ ?_ <;> intro hc)) | fail)
  refine aF (vs := [aI s]) (enters_of Tryz.func18 rfl rfl) rfl rfl (hch _) ?_
  rintro _ w1 ⟨rfl, x1⟩
  refine ⟨_, rfl, ?_⟩
  refine aA ?_
  (repeat' first | ((with_reducible refine aJ ?_); go_step) | ((with_reducible refine aH ?_); first | refine aW ?_ | (refine aK ?_ ?_ <;> intro hc)) | fail)
  go_ret2
  rw [hS]
  exact ⟨rfl, x1⟩
 ·simp only [if_neg cl] at hch
  (repeat' first | ((with_reducible refine aJ ?_); go_step) | ((with_reducible refine aH ?_); first | refine aW ?_ | (refine aK ?_ ?_ <;> intro hc)) | fail)
  refine aF (vs := [aI s]) (enters_of Tryz.func18 rfl rfl) rfl rfl (hch _) ?_
  rintro _ w1 ⟨rfl, x1⟩
  refine ⟨_, rfl, ?_⟩
  refine aA ?_
  obtain ⟨rb, hrb⟩ : ∃ rb, aY (eR s).1 32768 = rb := ⟨_, rfl⟩
  rw [hrb] at hS
  rw [hrb]
  cases rb with
  | true =>
   rw [if_pos (.inr rfl)] at hS
   (repeat' first | ((with_reducible refine aJ ?_); go_step) | ((with_reducible refine aH ?_); first | refine aW ?_ | (refine aK ?_ ?_ <;> intro hc)) | fail)
   go_ret2
   rw [hS]
   exact ⟨rfl, x1⟩
  | false =>
   rw [if_neg (by rintro (h | h); exact cl h; cases h)] at hS
   (repeat' first | ((with_reducible refine aJ ?_); go_step) | ((with_reducible refine aH ?_); first | refine aW ?_ | (refine aK ?_ ?_ <;> intro hc)) | fail)
   refine aF (vs := [aI s]) (enters_of Tryz.func19 rfl rfl) rfl rfl (hcd _) ?_
   rintro _ w2 ⟨q, a, u, x, rfl, hm2, x2⟩
   refine ⟨_, rfl, ?_⟩
   refine aA ?_
   (repeat' first | ((with_reducible refine aJ ?_); go_step) | ((with_reducible refine aH ?_); first | refine aW ?_ | (refine aK ?_ ?_ <;> intro hc)) | fail)
   refine aN (z := fM) rfl (by decide +kernel) ?_
   intro w3 x3 s3 h3
   refine aA ?_
   have hm3 := hm2.ext x3
   refine aG (v := .agg (aV D.1 q a u x).toArray) rfl rfl rfl h3 (show aZ Tryz.prog 26 13 = true by decide +kernel) rfl (cM hm3) ?_
   intro w4 p4
   have x24 : Ext w2 w4 := x3.move p4.mv (by rintro k ⟨⟩; exact Nat.le_refl _)
   have hB4 : w4.heap[w2.heap.size]? = some (.cells (aV D.1 q a u x).toArray 26 (0, 0)) := p4.this
   have hpM := aD (cs := aV D.1 q a u x) hB4
   unfold aV at hpM
   have hm4 := hm2.ext x24
   have x04 := x1.trans (x2.trans x24)
   clear p4 h3 x3 hm3
   generalize w2.heap.size = mb at *
   by_cases cD : D.2 = 0
   ·rw [if_neg (by simpa using cD)] at hS
    (repeat' first | ((with_reducible refine aJ ?_); go_step) | ((with_reducible refine aH ?_); first | refine aW ?_ | (refine aK ?_ ?_ <;> intro hc)) | fail)
    all_goals first
     | (have hh : False := by have h9 := ‹(!decide (D.2 = 0)) = true›; rw [decide_eq_true cD] at h9; cases h9
        exact hh.elim)
     | skip
    have hcR : ∀ w', Ext w4 w' → Calls Tryz.prog 13 #[v, .agg (aV D.1 q a u x).toArray] w' (sX w' (OV w' (bV hs D.1))) := fun w' x' => qS v hs D.1 q a u x w' ((hv.ext x04).ext x') (hm4.ext x') hl hb
    have hcF : ∀ w' {q1 a1 u1 e1 : Value}, MsgV w' (bV hs D.1) q1 a1 u1 e1 → Calls Tryz.prog 37 #[.agg (aV (bV hs D.1) q1 a1 u1 e1).toArray, .int .i64 (gR D.1.size stream)] w' (sX w' (KM w' (oU (bV hs D.1) (gR D.1.size stream)))) := fun w' _ _ _ _ h' => QM _ _ _ _ _ _ w' h'
    have hlim : gR D.1.size stream = gR D.1.size stream := rfl
    generalize oU (bV hs D.1) (gR D.1.size stream) = FF at *
    generalize bV hs D.1 = R at *
    refine dU (S := fun w' => Ext w4 w') (by decide +kernel) ?_
    intro w21 x21 _
    refine pN 0 ?_; refine aA ?_; refine pN 1 ?_; refine aA ?_; refine pN 3 ?_; refine aA ?_; refine pN 4 ?_; refine aA ?_
    refine KN 2 5 6 7 8 9 10 11 13 14 12 47 50 51 44 52 53 54 15 16 11 (fun b1 b2 b3 b4 b5 b6 b7 b8 b9 b10 b11 => (!b2 || b1) && (!b3 || b1) && (!b3 || b2) && (!b4 || b3) && (!b5 || b4) && (!b6 || b4) && (!b7 || b4) && (!b9 || b6) && (!b9 || b11) && (!b10 || b7) && (!b10 || b9) && (!b11 || b8) && (!b11 || b5)) (fun b1 b2 b3 b4 b5 b6 b7 b8 b9 b10 b11 => !b2 && !b3) (fun b1 b2 b3 b4 b5 b6 b7 b8 b9 b10 b11 => b1 && !b3) (fun b1 b2 b3 b4 b5 b6 b7 b8 b9 b10 b11 => b1 && b2 && !b4) (fun b1 b2 b3 b4 b5 b6 b7 b8 b9 b10 b11 => b3 && !b5 && !b6 && !b7) (fun b1 b2 b3 b4 b5 b6 b7 b8 b9 b10 b11 => b4 && !b11) (fun b1 b2 b3 b4 b5 b6 b7 b8 b9 b10 b11 => b4 && !b9) (fun b1 b2 b3 b4 b5 b6 b7 b8 b9 b10 b11 => b4 && !b10) (fun b1 b2 b3 b4 b5 b6 b7 b8 b9 b10 b11 => !b11) (fun b1 b2 b3 b4 b5 b6 b7 b8 b9 b10 b11 => b6 && b11 && !b10) (fun b1 b2 b3 b4 b5 b6 b7 b8 b9 b10 b11 => b7 && b9) (fun b1 b2 b3 b4 b5 b6 b7 b8 b9 b10 b11 => b8 && b5 && !b9) (fun b1 b2 b3 b4 b5 b6 b7 b8 b9 b10 b11 v1 v2 v3 v4 v5 v6 v7 v8 v9 v10 w' => ∃ q1 a1 u1 e1 q2 a2 u2 e2 zk, Ext w4 w' ∧ (b1 = true → v1 = .agg (aV R q1 a1 u1 e1).toArray ∧ (b3 = false → MsgV w' R q1 a1 u1 e1)) ∧ (b2 = true → v2 = .int .i64 (gR D.1.size stream)) ∧ (b3 = true → v3 = .tuple #[.agg (aV FF.1 q2 a2 u2 e2).toArray, aI FF.2.1, .int .i64 FF.2.2] ∧ (∀ x ∈ aV FF.1 q2 a2 u2 e2, x.oneCell' = true)) ∧ (b4 = true → v4 = .tuple #[.agg (aV FF.1 q2 a2 u2 e2).toArray, aI FF.2.1, .int .i64 FF.2.2]) ∧ (b5 = true → v5 = .agg (aV FF.1 q2 a2 u2 e2).toArray) ∧ (b6 = true → v6 = aI FF.2.1) ∧ (b7 = true → v7 = .int .i64 FF.2.2) ∧ (b8 = true → v8 = .pointer (some ⟨zk, 0, none⟩) ∧ w4.heap.size ≤ zk ∧ (b11 = false → w'.heap[zk]? = some (.cells fM.toArray 26 (0, 0)))) ∧ (b9 = true → v9 = aI FF.2.1) ∧ (b10 = true → v10 = .int .i64 FF.2.2)) ?_ ?_ ?_ ?_ ?_ ?_ ?_ ?_ ?_ ?_ ?_ ?_ ?_
    ·exact ⟨undef, undef, undef, undef, undef, undef, undef, undef, 0, x21, by simp, by simp, by simp, by simp, by simp, by simp, by simp, by simp, by simp, by simp⟩
    ·rintro b1 b2 b3 b4 b5 b6 b7 b8 b9 b10 b11 v1 v2 v3 v4 v5 v6 v7 v8 v9 v10 w5 hq ⟨q1, a1, u1, e1, q2, a2, u2, e2, zk, x5, f1, f2, f3, f4, f5, f6, f7, f8, f9, f10⟩
     refine aA ?_
     refine aT (enters_of Tryz.func13 rfl rfl) rfl rfl (hcR _ x5) ?_
     rintro _ w6 x6 ⟨q1', a1', u1', e1', rfl, hm6⟩
     refine aA ?_
     refine aL ⟨x5.trans x6, _, rfl, q1', a1', u1', e1', q2, a2, u2, e2, zk, x5.trans x6, fun _ => ⟨rfl, fun _ => hm6.msg⟩, f2, f3, f4, f5, f6, f7, fun e => ⟨(f8 e).1, (f8 e).2.1, fun e2 => x6.at ((f8 e).2.2 e2)⟩, f9, f10⟩
    ·rintro b1 b2 b3 b4 b5 b6 b7 b8 b9 b10 b11 v1 v2 v3 v4 v5 v6 v7 v8 v9 v10 w5 hq ⟨q1, a1, u1, e1, q2, a2, u2, e2, zk, x5, f1, f2, f3, f4, f5, f6, f7, f8, f9, f10⟩
     refine aA ?_
     refine aE (enters_of Tryz.func20 rfl rfl) rfl rfl (FG D.1 q a u x stream _ (hm4.ext x5)) ?_; intro w6 x6; refine aA ?_
     refine aL ⟨x5.trans x6, _, rfl, q1, a1, u1, e1, q2, a2, u2, e2, zk, x5.trans x6, fun e => ⟨(f1 e).1, fun e2 => ((f1 e).2 e2).ext x6⟩, fun _ => rfl, f3, f4, f5, f6, f7, fun e => ⟨(f8 e).1, (f8 e).2.1, fun e2 => x6.at ((f8 e).2.2 e2)⟩, f9, f10⟩
    ·rintro b1 b2 b3 b4 b5 b6 b7 b8 b9 b10 b11 v1 v2 v3 v4 v5 v6 v7 v8 v9 v10 w5 hq ⟨q1, a1, u1, e1, q2, a2, u2, e2, zk, x5, f1, f2, f3, f4, f5, f6, f7, f8, f9, f10⟩
     have hb1 : b1 = true := by revert hq; cases b1 <;> simp
     have hb2 : b2 = true := by revert hq; cases b2 <;> simp
     have hb4 : b4 = false := by revert hq; cases b4 <;> simp
     have hb5 : b5 = false := by revert hq; subst hb4; cases b5 <;> simp
     subst hb1 hb2 hb4 hb5
     obtain ⟨rfl, g1⟩ := f1 rfl
     obtain rfl := f2 rfl
     refine aA ?_
     refine aT (enters_of Tryz.func37 rfl rfl) rfl rfl (hcF _ (g1 rfl)) ?_
     rintro _ w6 x6 ⟨q2', a2', u2', e2', rfl, hm6⟩
     refine aA ?_
     refine aL ⟨x5.trans x6, _, rfl, q1, a1, u1, e1, q2', a2', u2', e2', zk, x5.trans x6, fun _ => ⟨rfl, by simp⟩, by simp, fun _ => ⟨rfl, hm6.one⟩, by simp, by simp, f6, f7, fun e => ⟨(f8 e).1, (f8 e).2.1, fun e2 => x6.at ((f8 e).2.2 e2)⟩, f9, f10⟩
    ·rintro b1 b2 b3 b4 b5 b6 b7 b8 b9 b10 b11 v1 v2 v3 v4 v5 v6 v7 v8 v9 v10 w5 hq ⟨q1, a1, u1, e1, q2, a2, u2, e2, zk, x5, f1, f2, f3, f4, f5, f6, f7, f8, f9, f10⟩
     have hb3 : b3 = true := by revert hq; cases b3 <;> simp
     subst hb3
     obtain ⟨rfl, g1⟩ := f3 rfl
     refine aA ?_
     ((with_reducible refine aH ?_); (first | (refine iL ?_; refine fL ?_) | (refine mG ?_; refine nQ ?_; (with_reducible refine aH ?_); refine iL ?_; refine fL ?_)))
     refine aL ⟨x5, _, rfl, q1, a1, u1, e1, q2, a2, u2, e2, zk, x5, fun e => ⟨(f1 e).1, by simp⟩, f2, fun _ => ⟨rfl, g1⟩, fun _ => rfl, f5, f6, f7, f8, f9, f10⟩
    ·rintro b1 b2 b3 b4 b5 b6 b7 b8 b9 b10 b11 v1 v2 v3 v4 v5 v6 v7 v8 v9 v10 w5 hq ⟨q1, a1, u1, e1, q2, a2, u2, e2, zk, x5, f1, f2, f3, f4, f5, f6, f7, f8, f9, f10⟩
     have hb4 : b4 = true := by revert hq; cases b4 <;> simp
     subst hb4
     have g4 := f4 rfl
     subst g4
     refine aA ?_
     ((with_reducible refine aH ?_); (first | (refine iL ?_; refine fL ?_) | (refine mG ?_; refine nQ ?_; (with_reducible refine aH ?_); refine iL ?_; refine fL ?_)))
     refine aL ⟨x5, _, rfl, q1, a1, u1, e1, q2, a2, u2, e2, zk, x5, f1, f2, f3, fun _ => rfl, fun _ => rfl, f6, f7, f8, f9, f10⟩
    ·rintro b1 b2 b3 b4 b5 b6 b7 b8 b9 b10 b11 v1 v2 v3 v4 v5 v6 v7 v8 v9 v10 w5 hq ⟨q1, a1, u1, e1, q2, a2, u2, e2, zk, x5, f1, f2, f3, f4, f5, f6, f7, f8, f9, f10⟩
     have hb4 : b4 = true := by revert hq; cases b4 <;> simp
     subst hb4
     have g4 := f4 rfl
     subst g4
     refine aA ?_
     ((with_reducible refine aH ?_); (first | (refine iL ?_; refine fL ?_) | (refine mG ?_; refine nQ ?_; (with_reducible refine aH ?_); refine iL ?_; refine fL ?_)))
     refine aL ⟨x5, _, rfl, q1, a1, u1, e1, q2, a2, u2, e2, zk, x5, f1, f2, f3, fun _ => rfl, f5, fun _ => rfl, f7, f8, f9, f10⟩
    ·rintro b1 b2 b3 b4 b5 b6 b7 b8 b9 b10 b11 v1 v2 v3 v4 v5 v6 v7 v8 v9 v10 w5 hq ⟨q1, a1, u1, e1, q2, a2, u2, e2, zk, x5, f1, f2, f3, f4, f5, f6, f7, f8, f9, f10⟩
     have hb4 : b4 = true := by revert hq; cases b4 <;> simp
     subst hb4
     have g4 := f4 rfl
     subst g4
     refine aA ?_
     ((with_reducible refine aH ?_); (first | (refine iL ?_; refine fL ?_) | (refine mG ?_; refine nQ ?_; (with_reducible refine aH ?_); refine iL ?_; refine fL ?_)))
     refine aL ⟨x5, _, rfl, q1, a1, u1, e1, q2, a2, u2, e2, zk, x5, f1, f2, f3, fun _ => rfl, f5, f6, fun _ => rfl, f8, f9, f10⟩
    ·rintro b1 b2 b3 b4 b5 b6 b7 b8 b9 b10 b11 v1 v2 v3 v4 v5 v6 v7 v8 v9 v10 w5 hq ⟨q1, a1, u1, e1, q2, a2, u2, e2, zk, x5, f1, f2, f3, f4, f5, f6, f7, f8, f9, f10⟩
     refine aA ?_
     refine aN (z := fM) rfl (by decide +kernel) ?_
     intro w6 x6 s6 h6
     refine aA ?_
     refine aL ⟨x5.trans x6, _, rfl, q1, a1, u1, e1, q2, a2, u2, e2, _, x5.trans x6, fun e => ⟨(f1 e).1, fun e2 => ((f1 e).2 e2).ext x6⟩, f2, f3, f4, f5, f6, f7, fun _ => ⟨rfl, x5.size, fun _ => h6⟩, f9, f10⟩
    ·rintro b1 b2 b3 b4 b5 b6 b7 b8 b9 b10 b11 v1 v2 v3 v4 v5 v6 v7 v8 v9 v10 w5 hq ⟨q1, a1, u1, e1, q2, a2, u2, e2, zk, x5, f1, f2, f3, f4, f5, f6, f7, f8, f9, f10⟩
     have hb6 : b6 = true := by revert hq; cases b6 <;> simp
     subst hb6
     have g6 := f6 rfl
     subst g6
     refine aA ?_
     ((with_reducible refine aH ?_); (first | (refine iL ?_; refine fL ?_) | (refine mG ?_; refine nQ ?_; (with_reducible refine aH ?_); refine iL ?_; refine fL ?_)))
     refine aL ⟨x5, _, rfl, q1, a1, u1, e1, q2, a2, u2, e2, zk, x5, f1, f2, f3, f4, f5, by simp, f7, f8, fun _ => rfl, f10⟩
    ·rintro b1 b2 b3 b4 b5 b6 b7 b8 b9 b10 b11 v1 v2 v3 v4 v5 v6 v7 v8 v9 v10 w5 hq ⟨q1, a1, u1, e1, q2, a2, u2, e2, zk, x5, f1, f2, f3, f4, f5, f6, f7, f8, f9, f10⟩
     have hb7 : b7 = true := by revert hq; cases b7 <;> simp
     subst hb7
     have g7 := f7 rfl
     subst g7
     refine aA ?_
     ((with_reducible refine aH ?_); (first | (refine iL ?_; refine fL ?_) | (refine mG ?_; refine nQ ?_; (with_reducible refine aH ?_); refine iL ?_; refine fL ?_)))
     refine aL ⟨x5, _, rfl, q1, a1, u1, e1, q2, a2, u2, e2, zk, x5, f1, f2, f3, f4, f5, f6, by simp, f8, f9, fun _ => rfl⟩
    ·rintro b1 b2 b3 b4 b5 b6 b7 b8 b9 b10 b11 v1 v2 v3 v4 v5 v6 v7 v8 v9 v10 w5 hq ⟨q1, a1, u1, e1, q2, a2, u2, e2, zk, x5, f1, f2, f3, f4, f5, f6, f7, f8, f9, f10⟩
     have hb5 : b5 = true := by revert hq; cases b5 <;> simp
     have hb8 : b8 = true := by revert hq; cases b8 <;> simp
     have hb4 : b4 = true := by revert hq; subst hb5; cases b4 <;> simp
     have hb3 : b3 = true := by revert hq; subst hb4; cases b3 <;> simp
     subst hb3 hb5 hb8
     have g5 := f5 rfl
     subst g5
     obtain ⟨g2, g3⟩ := f3 rfl
     obtain ⟨rfl, g8, g9⟩ := f8 rfl
     refine aA ?_
     refine aG (v := .agg (aV FF.1 q2 a2 u2 e2).toArray) rfl rfl rfl (g9 rfl) (show aZ Tryz.prog 26 13 = true by decide +kernel) rfl (by simp only [Value.cells, List.all_toArray, List.all_eq_true]; exact g3) ?_
     intro w6 p6
     have x6 : Ext w4 w6 := x5.move p6.mv (by rintro k ⟨⟩; exact g8)
     refine aL ⟨x6, rfl, q1, a1, u1, e1, q2, a2, u2, e2, zk, x6, fun e => ⟨(f1 e).1, by simp⟩, f2, fun _ => ⟨g2, g3⟩, f4, fun _ => rfl, f6, f7, fun _ => ⟨rfl, g8, by simp⟩, f9, f10⟩
    ·rintro v1 v2 v3 v4 v5 v6 v7 v8 v9 v10 w9 ⟨q1, a1, u1, e1, q2, a2, u2, e2, zk, x9, f1, f2, f3, f4, f5, f6, f7, f8, f9, f10⟩
     have k3 := (f3 rfl).1
     have k9 := f9 rfl
     have k10 := f10 rfl
     clear f1 f2 f3 f4 f5 f6 f7 f8 f9 f10
     subst k9 k10
     refine aA ?_
     refine dR (by decide +kernel) ?_
     have hB9 := x9.at hB4
     have hp9 := aD (cs := aV D.1 q a u x) hB9
     unfold aV at hp9
     have hm9 := hm4.ext x9
     have x09 := x04.trans x9
     clear hpM
     by_cases cF : FF.2.2 = 0
     ·rw [if_neg (by simpa using cF)] at hS
      (repeat' first | ((with_reducible refine aJ ?_); go_step) | ((with_reducible refine aH ?_); first | refine aW ?_ | (refine aK ?_ ?_ <;> intro hc)) | fail)
      all_goals first
       | (have hh : False := by have h9 := ‹(!decide (FF.2.2 = 0)) = true›; rw [decide_eq_true cF] at h9; cases h9
          exact hh.elim)
       | skip
      go_ret2
      rw [hS]
      exact ⟨by kernel_rfl, x09⟩
     ·rw [if_pos cF] at hS
      (repeat' first | ((with_reducible refine aJ ?_); go_step) | ((with_reducible refine aH ?_); first | refine aW ?_ | (refine aK ?_ ?_ <;> intro hc)) | fail)
      all_goals first
       | (have hh : False := by have h9 := ‹(!decide (FF.2.2 = 0)) = false›; rw [decide_eq_false cF] at h9; cases h9
          exact hh.elim)
       | skip
      refine aT (enters_of Tryz.func29 rfl rfl) rfl rfl (kN D.1 q a u x 2 _ hm9 hlq) ?_
      intro _ wb xb ⟨qb, er, ob⟩
      subst er
      refine aA ?_
      have hmb : MsgV wb (bareR D.1 2) qb aP aP aP := ⟨ob.sl, Sl.nil _ _, Sl.nil _ _, Sl.nil _ _⟩
      refine aE (enters_of Tryz.func23 rfl rfl) rfl rfl (nE hmb) ?_; intro w10 x10; refine aA ?_
      (repeat' first | ((with_reducible refine aJ ?_); go_step) | ((with_reducible refine aH ?_); first | refine aW ?_ | (refine aK ?_ ?_ <;> intro hc)) | fail)
      go_ret2
      rw [hS]
      exact ⟨by kernel_rfl, x09.trans (xb.trans x10)⟩
   ·rw [if_pos cD] at hS
    (repeat' first | ((with_reducible refine aJ ?_); go_step) | ((with_reducible refine aH ?_); first | refine aW ?_ | (refine aK ?_ ?_ <;> intro hc)) | fail)
    all_goals first
     | (have hh : False := by have h9 := ‹(!decide (D.2 = 0)) = false›; rw [decide_eq_false cD] at h9; cases h9
        exact hh.elim)
     | skip
    refine aM (v := .agg (aV (KO ((gT s).1 : Nat) (OX s)) aP aP aP aP).toArray) (Runs.build rfl (by kernel_rfl)) ?_
    refine aA ?_
    have hma : MsgV w4 (KO ((gT s).1 : Nat) (OX s)) aP aP aP aP := ⟨Sl.nil _ _, Sl.nil _ _, Sl.nil _ _, Sl.nil _ _⟩
    refine aE (enters_of Tryz.func23 rfl rfl) rfl rfl (nE hma) ?_; intro w5 x5; refine aA ?_
    (repeat' first | ((with_reducible refine aJ ?_); go_step) | ((with_reducible refine aH ?_); first | refine aW ?_ | (refine aK ?_ ?_ <;> intro hc)) | fail)
    go_ret2
    rw [hS]
    exact ⟨by kernel_rfl, x04.trans x5⟩
end Go.Proofs.X
set_option linter.unusedSimpArgs false
set_option linter.unusedVariables false
namespace Go.Proofs.X
open Go.RowKit
end Go.Proofs.X
set_option linter.unusedSimpArgs false
set_option linter.unusedVariables false
namespace Go.Proofs.X
open Go.RowKit
end Go.Proofs.X
set_option linter.unusedSimpArgs false
set_option linter.unusedVariables false
namespace Go.Proofs.X
open Go.RowKit
set_option maxRecDepth 100000
section
variable {P : Program} {w w' : World} {a : Act} {d : Option Nat} {ty : TypeId} {ps : String} {af : Array Edge} {g : Option (Nat × Bool)}
theorem Runs.lenW {x : Operand} {t k : Nat} {es : List (List Value)} (h : Sl k w' (a.eval x) es) (ht : eI P t k = true) :
 Runs P (Oper.mk d (.call ⟨.builtin .len, #[x], #[t]⟩) ty ps af g) a w (.int .i64 es.length) := by
 obtain ⟨ad, cap, h1, _⟩ := h
 obtain ⟨e, i, ht, _⟩ := dV ht
 constructor
 simp [execOp, resolve, invoke, builtin, h1, Builtin.len_, run_underlying ht, goInt]
end
def oW : MsgR := ⟨9, false, 0, false, false, true, false, 0, [([2, 110, 115, 1, 97], 1)], [], [], [], 0⟩
def HS (up : Bool) : List HldR := [⟨[1, 97], LW, [1, 97], up⟩]
theorem RQ : iS [1, 97] BV = 0 := by decide +kernel
theorem RS : mY [1, 97] BV = LW := by decide +kernel
theorem RT : mX [1, 97] BV = [1, 97] := by decide +kernel
theorem RU : (bV (HS true) oW).rcode = 0 ∧ (bV (HS true) oW).auth = true ∧ (bV (HS true) oW).an.length = 1 := by decide +kernel
theorem RV : (bV (HS false) oW).rcode = 2 := by decide +kernel
theorem RW : (bV [] oW).rcode = 5 := by decide +kernel
theorem RX : (bI oW).2 = 0 ∧ (bI oW).1.length ≤ 1000 := by decide +kernel
theorem RY : (dE [] (bI oW).1 false).2 = true ∧ (dE [] (bI oW).1 false).1.length ≤ 1000 := by decide +kernel
theorem RZ : (bO (dE [] (bI oW).1 false).1).2 = 0 ∧ (bO (dE [] (bI oW).1 false).1).1.id = 9 ∧ (bO (dE [] (bI oW).1 false).1).1.rcode = 5 := by decide +kernel
theorem SA : (dE [] [120] false).2 = false := by decide +kernel
theorem HldsAt.nil (w : World) : HldsAt w (.slice none 0 0) [] := ⟨[], Sl.nil _ _, rfl, fun i h e => by simp at e⟩
theorem HldsAt.one {w : World} {v z : Value} {up : Bool} {k : Nat} (h : Sl k w v [[aI [1, 97], z, aI [1, 97], .bool up]]) (hk : k = 4) (hz : SetsAt w z LW) : HldsAt w v (HS up) := by
 subst hk
 refine ⟨_, h, rfl, fun i x e => ?_⟩
 cases i with
 | zero =>
  simp only [HS, List.getElem?_cons_zero, Option.some.injEq] at e
  subst e
  exact ⟨z, rfl, hz⟩
 | succ i => simp [HS] at e
theorem NM (up : Bool) : ∀ h ∈ HS up, ∀ s ∈ h.l, s.data.length ≤ 1000000 := by
 intro h hh
 simp only [HS, List.mem_singleton] at hh
 subst hh
 exact QE
set_option maxHeartbeats 1000000 in
theorem fW (w : World) : Calls Tryz.prog 11 #[] w (bS w (.bool true)) := by
 go_enter Tryz.func11, Tryz.ntmps11
 (repeat' first | ((with_reducible refine aJ ?_); go_step) | ((with_reducible refine aH ?_); first | refine aW ?_ | (refine aK ?_ ?_ <;> intro hc)) | fail)
 refine aT (enters_of Tryz.func27 rfl rfl) rfl rfl (JX _) ?_
 intro v1 w1 x1 hv1
 refine aA ?_
 (repeat' first | ((with_reducible refine aJ ?_); go_step) | ((with_reducible refine aH ?_); first | refine aW ?_ | (refine aK ?_ ?_ <;> intro hc)) | fail)
 refine aT (enters_of Tryz.func26 rfl rfl) rfl rfl (OC [1, 97] v1 BV _ hv1 (by decide) QF) ?_
 rintro _ w4 x4 ⟨z, rfl, hz⟩
 rw [RQ, RT]
 rw [RS] at hz
 have hz := hz.sets
 have hz1 : z.oneCell' = true := by obtain ⟨css, h, _⟩ := hz; exact h.one
 have hx4 := x1.trans x4
 refine aA ?_
 (repeat' first | ((with_reducible refine aJ ?_); go_step) | ((with_reducible refine aH ?_); first | refine aW ?_ | (refine aK ?_ ?_ <;> intro hc)) | fail)
 refine aN (z := kX) rfl (by decide +kernel) ?_
 intro w5 x5 s5 h5
 refine aA ?_
 refine aG (v := .agg #[aI [1, 97], z]) rfl rfl rfl h5 (show aZ Tryz.prog 50 2 = true by decide +kernel) rfl (vI hz1) ?_
 intro w6 p6
 have x6 : Ext w4 w6 := x5.move p6.mv (by rintro k ⟨⟩; exact Nat.le_refl _)
 have hp6 := aD (cs := [aI [1, 97], z]) p6.this
 have hz6 := hz.ext x6
 have hx6 := hx4.trans x6
 clear p6 h5 x5 hz hv1
 (repeat' first | ((with_reducible refine aJ ?_); go_step) | ((with_reducible refine aH ?_); first | refine aW ?_ | (refine aK ?_ ?_ <;> intro hc)) | fail)
 refine aM (v := .agg #[aI [1, 97], z, aI [1, 97], .bool true]) (Runs.build rfl (by obtain ⟨_, hq, _⟩ := hz6.sl; obtain ⟨_, _, rfl, _⟩ := hq.out; kernel_rfl)) ?_
 refine aA ?_
 refine bT (e := 65) (k := 4) (bytes := 64) (xs := [.agg #[aI [1, 97], z, aI [1, 97], .bool true]]) rfl rfl rfl (by intro x hx; simp at hx; subst hx; simp [Value.cells]) (by decide +kernel) (by simp) ?_
 intro v7 w7 x7 _ sl7 o7
 refine aA ?_
 have hz7 := hz6.ext x7
 have hx7 := hx6.trans x7
 have o7 : Own w6.heap.size 4 65 w7 v7 [[aI [1, 97], z, aI [1, 97], .bool true]] := o7
 (repeat' first | ((with_reducible refine aJ ?_); go_step) | ((with_reducible refine aH ?_); first | refine aW ?_ | (refine aK ?_ ?_ <;> intro hc)) | fail)
 refine aM (v := .agg #[aI [2, 110, 115, 1, 97], .int .i64 1]) (Runs.build rfl (by kernel_rfl)) ?_
 refine aA ?_
 refine bT (e := 54) (k := 2) (bytes := 24) (xs := [.agg #[aI [2, 110, 115, 1, 97], .int .i64 1]]) rfl rfl rfl (by intro x hx; simp at hx; subst hx; simp [Value.cells]) (by decide +kernel) (by simp) ?_
 intro qv w8 x8 _ sl8 o8
 refine aA ?_
 have sl8 : Sl 2 w8 qv (cH oW.qs) := sl8
 have hqf := sl8.slf
 refine aM (v := .agg (aV oW qv aP aP aP).toArray) (Runs.build (vals := [(0, .int .i64 9), (5, .bool true), (8, qv)]) rfl (by obtain ⟨_, _, _, rfl⟩ := hqf; kernel_rfl)) ?_
 refine aA ?_
 refine aN (z := fM) rfl (by decide +kernel) ?_
 intro w9 x9 s9 h9
 refine aA ?_
 have hm9 : MsgV w9 oW qv aP aP aP := ⟨sl8.ext x9, Sl.nil _ _, Sl.nil _ _, Sl.nil _ _⟩
 refine aG (v := .agg (aV oW qv aP aP aP).toArray) rfl rfl rfl h9 (show aZ Tryz.prog 26 13 = true by decide +kernel) rfl (cM hm9) ?_
 intro w10 p10
 have x810 : Ext w8 w10 := x9.move p10.mv (by rintro k ⟨⟩; exact Nat.le_refl _)
 have hB10 : w10.heap[w8.heap.size]? = some (.cells (aV oW qv aP aP aP).toArray 26 (0, 0)) := p10.this
 have x710 := x8.trans x810
 have hm10 : MsgV w10 oW qv aP aP aP := ⟨sl8.ext x810, Sl.nil _ _, Sl.nil _ _, Sl.nil _ _⟩
 have o10 := o7.ext x710
 have hz10 := hz7.ext x710
 have hx10 := hx7.trans x710
 have hp10 := aD (cs := aV oW qv aP aP aP) hB10
 have h68 : w6.heap.size ≤ w8.heap.size := by have := x7.size; have := x8.size; omega
 have h610 : Ext w6 w10 := x7.trans x710
 have q10 : Own w7.heap.size 2 54 w10 qv (cH oW.qs) := Own.ext (show Own w7.heap.size 2 54 w8 qv (cH oW.qs) from o8) x810
 clear p10 h9 x9 hm9 sl7 sl8 o8 hp6
 generalize w8.heap.size = mb at *
 unfold aV at hp10
 (repeat' first | ((with_reducible refine aJ ?_); go_step) | ((with_reducible refine aH ?_); first | refine aW ?_ | (refine aK ?_ ?_ <;> intro hc)) | fail)
 obtain ⟨ra1, ra2, ra3⟩ := RU
 refine aT (enters_of Tryz.func13 rfl rfl) rfl rfl (qS v7 (HS true) oW qv aP aP aP _ (HldsAt.one o10.sl rfl hz10) hm10 (by decide) (NM true)) ?_
 rintro _ w11 x11 ⟨qa, aa, ua, ea, rfl, hma0⟩
 have hma := hma0.msg
 generalize bV (HS true) oW = RA at *
 refine aA ?_
 refine aN (z := fM) rfl (by decide +kernel) ?_
 intro w12 x12 s12 h12
 refine aA ?_
 have hma12 := hma.ext x12
 refine aG (v := .agg (aV RA qa aa ua ea).toArray) rfl rfl rfl h12 (show aZ Tryz.prog 26 13 = true by decide +kernel) rfl (cM hma12) ?_
 intro w13 p13
 have x1113 : Ext w11 w13 := x12.move p13.mv (by rintro k ⟨⟩; exact Nat.le_refl _)
 have hA13 : w13.heap[w11.heap.size]? = some (.cells (aV RA qa aa ua ea).toArray 26 (0, 0)) := p13.this
 have x13 := x11.trans x1113
 have o13 := o10.ext x13
 have q13 := q10.ext x13
 have lna : (aR RA.an).length = 1 := by rw [bD]; exact ra3
 have hsa := hma.an
 have hB13 := x13.at hB10
 have hm13 := hm10.ext x13
 have hz13 := hz10.ext x13
 have hx13 := hx10.trans x13
 clear p13 h12 x12 hma12 hp10 hB10
 generalize w11.heap.size = ab at *
 have slo := o13.sl
 (repeat' first | ((with_reducible refine aJ ?_); go_step) | ((with_reducible refine aH ?_); first | refine aW ?_ | (refine aK ?_ ?_ <;> intro hc)) | fail)
 obtain ⟨bb, oo, hep, -⟩ := (slo.elem (i := 0) rfl).out
 refine aM (Runs.fieldA (off := 3) hep (by decide +kernel)) ?_
 refine aA ?_
 refine BK (i := 0) (j := 3) (k := 4) (c := .bool false) rfl (congrArg (fun p => dC p 3) hep.symm) rfl o13 rfl (by omega) (by decide +kernel) rfl ?_
 intro w14 o14 m14
 have o14 : Own w6.heap.size 4 65 w14 v7 [[aI [1, 97], z, aI [1, 97], .bool false]] := o14
 have x614 : Ext w6 w14 := o13.mvx m14 (h610.trans x13) (Nat.le_refl _)
 have hz14 := hz6.ext x614
 have q14 := q13.mv m14 (q13.ne o13 (by decide))
 have hM := m14.at hB13 (fun e9 => (o13.neBlock hB13 (by decide)) e9.symm)
 have hA := m14.at hA13 (fun e9 => (o13.neBlock hA13 (by decide)) e9.symm)
 have hm14 : MsgV w14 oW qv aP aP aP := ⟨q14.sl, Sl.nil _ _, Sl.nil _ _, Sl.nil _ _⟩
 have hx14 := hx6.trans x614
 have hpq := aD (cs := aV oW qv aP aP aP) hM
 unfold aV at hpq
 clear slo hB13 hA13 o13 m14
 (repeat' first | ((with_reducible refine aJ ?_); go_step) | ((with_reducible refine aH ?_); first | refine aW ?_ | (refine aK ?_ ?_ <;> intro hc)) | fail)
 refine aT (enters_of Tryz.func13 rfl rfl) rfl rfl (qS v7 (HS false) oW qv aP aP aP _ (HldsAt.one o14.sl rfl hz14) hm14 (by decide) (NM false)) ?_
 rintro _ w15 x15 ⟨qB, aB, uB, eB, rfl, hmB0⟩
 have hmB := hmB0.msg
 have rb := RV
 generalize bV (HS false) oW = RB at *
 refine aA ?_
 refine aN (z := fM) rfl (by decide +kernel) ?_
 intro w16 x16 s16 h16
 refine aA ?_
 have hmB2 := hmB.ext x16
 refine aG (v := .agg (aV RB qB aB uB eB).toArray) rfl rfl rfl h16 (show aZ Tryz.prog 26 13 = true by decide +kernel) rfl (cM hmB2) ?_
 intro w17 p17
 have y17 : Ext w15 w17 := x16.move p17.mv (by rintro k ⟨⟩; exact Nat.le_refl _)
 have hbB : w17.heap[w15.heap.size]? = some (.cells (aV RB qB aB uB eB).toArray 26 (0, 0)) := p17.this
 have x17 := x15.trans y17
 have hx17 := hx14.trans x17
 have hM := x17.at hM
 have hA := x17.at hA
 clear p17 h16 x16 hmB2
 generalize w15.heap.size = Bb at *
 have hm17 := hm14.ext x17
 have hpq := hpq.ext x17
 (repeat' first | ((with_reducible refine aJ ?_); go_step) | ((with_reducible refine aH ?_); first | refine aW ?_ | (refine aK ?_ ?_ <;> intro hc)) | fail)
 refine aT (enters_of Tryz.func13 rfl rfl) rfl rfl (qS (.slice none 0 0) [] oW qv aP aP aP _ (HldsAt.nil _) hm17 (by decide) (by simp)) ?_
 rintro _ w18 x18 ⟨qC, aC, uC, eC, rfl, hmC0⟩
 have hmC := hmC0.msg
 have rc := RW
 generalize bV [] oW = RC at *
 refine aA ?_
 refine aN (z := fM) rfl (by decide +kernel) ?_
 intro w19 x19 s19 h19
 refine aA ?_
 have hmC2 := hmC.ext x19
 refine aG (v := .agg (aV RC qC aC uC eC).toArray) rfl rfl rfl h19 (show aZ Tryz.prog 26 13 = true by decide +kernel) rfl (cM hmC2) ?_
 intro w20 p20
 have y20 : Ext w18 w20 := x19.move p20.mv (by rintro k ⟨⟩; exact Nat.le_refl _)
 have hbC : w20.heap[w18.heap.size]? = some (.cells (aV RC qC aC uC eC).toArray 26 (0, 0)) := p20.this
 have x20 := x18.trans y20
 have hx20 := hx17.trans x20
 have hM := x20.at hM
 have hA := x20.at hA
 have hbB := x20.at hbB
 clear p20 h19 x19 hmC2
 generalize w18.heap.size = Cb at *
 have hm20 := hm17.ext x20
 have hpq := hpq.ext x20
 (repeat' first | ((with_reducible refine aJ ?_); go_step) | ((with_reducible refine aH ?_); first | refine aW ?_ | (refine aK ?_ ?_ <;> intro hc)) | fail)
 obtain ⟨re1, re2⟩ := RX
 obtain ⟨rs1, rs2⟩ := RY
 obtain ⟨rd1, rd2, rd3⟩ := RZ
 have rx := SA
 refine aE (enters_of Tryz.func23 rfl rfl) rfl rfl (nE hm20) ?_; intro w21 x21; refine aA ?_
 generalize bI oW = EE at *
 (repeat' first | ((with_reducible refine aJ ?_); go_step) | ((with_reducible refine aH ?_); first | refine aW ?_ | (refine aK ?_ ?_ <;> intro hc)) | fail)
 refine aE (enters_of Tryz.func16 rfl rfl) rfl rfl (tL (.slice none 0 0) [] EE.1 false _ (HldsAt.nil _) (by decide) (by simp) (by omega)) ?_; intro w22 x22; refine aA ?_
 generalize dE [] EE.1 false = SS at *
 (repeat' first | ((with_reducible refine aJ ?_); go_step) | ((with_reducible refine aH ?_); first | refine aW ?_ | (refine aK ?_ ?_ <;> intro hc)) | fail)
 refine aF (vs := [aI SS.1]) (enters_of Tryz.func19 rfl rfl) rfl rfl (lA SS.1 (by omega)) ?_
 rintro _ w23 ⟨qd, ad, ud, xd, rfl, hmd, x23⟩
 refine ⟨_, rfl, ?_⟩
 generalize bO SS.1 = DD at *
 refine aA ?_
 (repeat' first | ((with_reducible refine aJ ?_); go_step) | ((with_reducible refine aH ?_); first | refine aW ?_ | (refine aK ?_ ?_ <;> intro hc)) | fail)
 refine aN (z := fM) rfl (by decide +kernel) ?_
 intro w24 x24 s24 h24
 refine aA ?_
 have hmd2 := hmd.ext x24
 refine aG (v := .agg (aV DD.1 qd ad ud xd).toArray) rfl rfl rfl h24 (show aZ Tryz.prog 26 13 = true by decide +kernel) rfl (cM hmd2) ?_
 intro w25 p25
 have y25 : Ext w23 w25 := x24.move p25.mv (by rintro k ⟨⟩; exact Nat.le_refl _)
 have hbD : w25.heap[w23.heap.size]? = some (.cells (aV DD.1 qd ad ud xd).toArray 26 (0, 0)) := p25.this
 have x2025 := (x21.trans x22).trans (x23.trans y25)
 have hx25 := hx20.trans x2025
 clear p25 h24 x24 hmd2
 generalize w23.heap.size = Db at *
 (repeat' first | ((with_reducible refine aJ ?_); go_step) | ((with_reducible refine aH ?_); first | refine aW ?_ | (refine aK ?_ ?_ <;> intro hc)) | fail)
 refine aE (enters_of Tryz.func16 rfl rfl) rfl rfl (tL (.slice none 0 0) [] [120] false _ (HldsAt.nil _) (by decide) (by simp) (by decide)) ?_; intro w26 x26; refine aA ?_
 generalize dE [] [120] false = XX at *
 have x2026 := x2025.trans x26
 have pA := aD (x2026.at hA)
 have pB := aD (x2026.at hbB)
 have pC := aD (x2026.at hbC)
 have pD := aD (x26.at hbD)
 unfold aV at pA pB pC pD
 rw [ra1, ra2] at pA
 rw [rb] at pB
 rw [rc] at pC
 rw [rd2, rd3] at pD
 rw [re1, rs1, rd1, rx]
 clear hpq
 (repeat' first | ((with_reducible refine aJ ?_); go_step) | ((with_reducible refine aH ?_); first | refine aW ?_ | (refine aK ?_ ?_ <;> intro hc)) | fail)
 refine aM (Runs.lenW hsa (by decide +kernel)) ?_
 refine aA ?_
 rw [lna]
 (repeat' first | ((with_reducible refine aJ ?_); go_step) | ((with_reducible refine aH ?_); first | refine aW ?_ | (refine aK ?_ ?_ <;> intro hc)) | fail)
 ·go_ret
  exact ⟨rfl, hx25.trans x26⟩
 ·exact absurd (show ((1 : Nat) : Int) = 1 from rfl) (by assumption)
def wS (hs : List HldR) : Bool := decide (hs.length ≤ 4) && hs.all fun h => (decide ((h.o.length : Int) ≤ 300) && pS h.l) && decide ((h.org.length : Int) ≤ 300)
set_option maxHeartbeats 2000000 in
theorem wD (v : Value) (hs : List HldR) (w : World) (hv : HldsAt w v hs) (hl : hs.length ≤ 1000) : Calls Tryz.prog 14 #[v] w (sX w fun r w' => HldsAt w' r hs) := by
 obtain ⟨css, hsl, hcl, hrow⟩ := hv
 go_enter Tryz.func14, Tryz.ntmps14
 (repeat' first | ((with_reducible refine aJ ?_); go_step) | ((with_reducible refine aH ?_); first | refine aW ?_ | (refine aK ?_ ?_ <;> intro hc)) | fail)
 go_loopw [3, 4] (fun out iv wr => ∃ k : Nat, k ≤ hs.length ∧ iv = .int .i64 k ∧ Ext w wr ∧ Own w.heap.size 4 65 wr out (css.take k)) (fun _ iv _ => hs.length - (intOf iv).toNat)
 case atStart => exact ⟨0, Nat.zero_le _, rfl, Ext.refl _, Own.nil _ _ _ _⟩
 case round =>
  obtain ⟨k, hk, rfl, hx, ho⟩ := hrel
  have hsr := hsl.ext hx
  by_cases hlt : k < hs.length
  ·obtain ⟨x, hck, hsx⟩ := hrow k _ (List.getElem?_eq_getElem hlt)
   have hel := hsr.elem hck
   obtain ⟨bb, oo, hep, -⟩ := hel.out
   rw [hep] at hel
   have hso := ho.sl
   have hx1 : x.oneCell' = true := by obtain ⟨_, hq, _⟩ := hsx.sl; exact hq.one
   have hxf : ∃ a n c, x = .slice a n c := by obtain ⟨_, hq, _⟩ := hsx.sl; exact hq.slf
   have hkl : k < css.length := by omega
   generalize hs[k] = H at *
   (repeat' first | ((with_reducible refine aJ ?_); go_step) | ((with_reducible refine aH ?_); first | refine aW ?_ | (refine aK ?_ ?_ <;> intro hc)) | fail)
   refine cA 18 (Ext wr) (by decide +kernel) ?_
   intro w1 x1 _
   refine ⟨x1, ?_⟩
   refine dF 0 ?_; refine dF 1 ?_; refine dF 2 ?_
   refine bB (i := 3) (v := .pointer (some ⟨bb, oo, none⟩)) rfl rfl (by decide +kernel) (by decide +kernel) (by decide +kernel) (by decide +kernel) (by decide +kernel) rfl (fun w' hF => by rw [← hep]; exact Runs.idxT rfl (hsr.ext hF) hkl (by decide +kernel)) (fun _ _ _ h => h) ?_
   refine aA ?_
   have hel0 : Pts wr (dC (.pointer (some ⟨bb, oo, none⟩)) 0) [aI H.o, x] := (hel.front 2).part 0
   refine dF 4 ?_; refine dF 5 ?_; refine dF 6 ?_; refine dF 7 ?_
   clear hel0
   refine bB (i := 8) (v := .pointer (some ⟨bb, oo, none⟩)) rfl rfl (by decide +kernel) (by decide +kernel) (by decide +kernel) (by decide +kernel) (by decide +kernel) rfl (fun w' hF => by rw [← hep]; exact Runs.idxT rfl (hsr.ext hF) hkl (by decide +kernel)) (fun _ _ _ h => h) ?_
   refine aA ?_
   refine dF 9 ?_; refine dF 10 ?_; refine dF 11 ?_; refine dF 12 ?_
   refine bB (i := 13) (v := .pointer (some ⟨bb, oo, none⟩)) rfl rfl (by decide +kernel) (by decide +kernel) (by decide +kernel) (by decide +kernel) (by decide +kernel) rfl (fun w' hF => by rw [← hep]; exact Runs.idxT rfl (hsr.ext hF) hkl (by decide +kernel)) (fun _ _ _ h => h) ?_
   refine aA ?_
   refine dF 14 ?_; refine dF 15 ?_
   refine QV 16 (v := .agg #[aI H.o, x, aI H.org, .bool H.up]) rfl (fun _ => Runs.build rfl (by obtain ⟨_, _, _, rfl⟩ := hxf; kernel_rfl)) ?_
   refine aA ?_
   refine bJ (i := 17) (by decide +kernel) rfl rfl ?_
   refine bT (e := 65) (k := 4) (bytes := 64) (xs := [.agg #[aI H.o, x, aI H.org, .bool H.up]]) rfl rfl rfl (by intro y hy; simp at hy; subst hy; simp [Value.cells]) (by decide +kernel) (by simp) ?_
   intro u2 w2 x2 _ sl2 _
   refine aA ?_
   have sl2 : Sl 4 w2 u2 [[aI H.o, x, aI H.org, .bool H.up]] := sl2
   refine aL ⟨bY (x1.trans x2), ?_⟩
   refine bJ (i := 18) (by decide +kernel) rfl rfl ?_
   refine dZ (e := 65) (k := 4) rfl (ho.ext (x1.trans x2)) rfl sl2 (by intro f hf u hu; simp only [List.mem_singleton] at hf; subst hf; simp only [List.mem_cons, List.not_mem_nil, or_false] at hu; rcases hu with rfl | rfl | rfl | rfl <;> first | rfl | exact hx1) (hx.trans (x1.trans x2)).size (by simp; omega) ?_
   intro v3 w3 o3 m3 _
   refine aA ?_
   refine aL ⟨bZ rfl, ?_⟩
   refine HV 19 ?_
   refine cV (by decide +kernel) ?_
   have hx3 := (ho.ext (x1.trans x2)).mvx m3 (hx.trans (x1.trans x2)) (Nat.le_refl _)
   (repeat' first | ((with_reducible refine aJ ?_); go_step) | ((with_reducible refine aH ?_); first | refine aW ?_ | (refine aK ?_ ?_ <;> intro hc)) | fail)
   refine ⟨⟨k + 1, by omega, by go_num, hx3, ?_⟩, by simp [intOf]; omega⟩
   rw [List.take_add_one, hck]
   exact o3
  ·have hk2 : k = hs.length := by omega
   subst hk2
   rw [List.take_of_length_le (by omega)] at ho
   (repeat' first | ((with_reducible refine aJ ?_); go_step) | ((with_reducible refine aH ?_); first | refine aW ?_ | (refine aK ?_ ?_ <;> intro hc)) | fail)
   go_ret
   exact ⟨_, rfl, hx, ⟨css, ho.sl, hcl, fun i h hi => by obtain ⟨y, e1, e2⟩ := hrow i h hi; exact ⟨y, e1, e2.ext hx⟩⟩⟩
set_option maxHeartbeats 2000000 in
theorem FI (v : Value) (hs : List HldR) (w : World) (hv : HldsAt w v hs) : Calls Tryz.prog 9 #[v] w (bS w (.bool (wS hs))) := by
 obtain ⟨css, hsl, hcl, hrow⟩ := hv
 go_enter Tryz.func9, Tryz.ntmps9
 have hle := hsl.le
 by_cases c4 : hs.length ≤ 4
 ·have hF : wS hs = hs.all fun h => (decide ((h.o.length : Int) ≤ 300) && pS h.l) && decide ((h.org.length : Int) ≤ 300) := by unfold wS; rw [decide_eq_true c4]; rfl
  (repeat' first | ((with_reducible refine aJ ?_); go_step) | ((with_reducible refine aH ?_); first | refine aW ?_ | (refine aK ?_ ?_ <;> intro hc)) | fail)
  all_goals first
   | (have hh : False := by omega
      exact hh.elim)
   | skip
  go_loopw [3] (fun iv wr => ∃ k : Nat, k ≤ hs.length ∧ iv = .int .i64 k ∧ Ext w wr ∧ ((hs.take k).all fun h => (decide ((h.o.length : Int) ≤ 300) && pS h.l) && decide ((h.org.length : Int) ≤ 300)) = true) (fun iv _ => hs.length - (intOf iv).toNat)
  case atStart => exact ⟨0, Nat.zero_le _, rfl, Ext.refl _, rfl⟩
  case round =>
   obtain ⟨k, hk, rfl, hx, hall⟩ := hrel
   have hsr := hsl.ext hx
   by_cases hlt : k < hs.length
   ·obtain ⟨x, hck, hsx⟩ := hrow k _ (List.getElem?_eq_getElem hlt)
    have hel := hsr.elem hck
    obtain ⟨bb, oo, hep, -⟩ := hel.out
    have hkl : k < css.length := by omega
    have hTk : (hs.take (k + 1)) = hs.take k ++ [hs[k]] := by rw [List.take_succ_eq_append_getElem hlt]
    have hbad : ((decide ((hs[k].o.length : Int) ≤ 300) && pS hs[k].l) && decide ((hs[k].org.length : Int) ≤ 300)) = false → wS hs = false := fun h9 => by
     rw [hF, List.all_eq_false]
     exact ⟨_, List.getElem_mem hlt, by rw [h9]; decide⟩
    generalize hs[k] = H at *
    have hel0 : Pts wr (dC (dI v (k * 4)) 0) [aI H.o, x] := (hel.front 2).part 0
    (repeat' first | ((with_reducible refine aJ ?_); go_step) | ((with_reducible refine aH ?_); first | refine aW ?_ | (refine aK ?_ ?_ <;> intro hc)) | fail)
    refine aE (enters_of Tryz.func24 rfl rfl) rfl rfl (OF H.o x H.l _ (hsx.ext hx)) ?_; intro w1 x1; refine aA ?_
    have hx1 := hx.trans x1
    have hsr1 := hsr.ext x1
    have hel1 := hel.ext x1
    rw [hep] at hel1
    clear hel0 hel
    cases hd : (decide ((H.o.length : Int) ≤ 300) && pS H.l) with
    | false =>
     (repeat' first | ((with_reducible refine aJ ?_); go_step) | ((with_reducible refine aH ?_); first | refine aW ?_ | (refine aK ?_ ?_ <;> intro hc)) | fail)
     go_ret
     rw [hbad (by rw [hd]; rfl)]
     exact ⟨rfl, hx1⟩
    | true =>
     (repeat' first | ((with_reducible refine aJ ?_); go_step) | ((with_reducible refine aH ?_); first | refine aW ?_ | (refine aK ?_ ?_ <;> intro hc)) | fail)
     refine aM (Runs.fieldA (off := 2) hep (by decide +kernel)) ?_
     refine aA ?_
     by_cases c3 : (H.org.length : Int) ≤ 300
     ·(repeat' first | ((with_reducible refine aJ ?_); go_step) | ((with_reducible refine aH ?_); first | refine aW ?_ | (refine aK ?_ ?_ <;> intro hc)) | fail)
      all_goals first
       | (have hh : False := by omega
          exact hh.elim)
       | skip
      refine ⟨⟨k + 1, by omega, by go_num, hx1, ?_⟩, by simp [intOf]; omega⟩
      rw [hTk, List.all_append, hall]
      simp [hd, c3]
     ·(repeat' first | ((with_reducible refine aJ ?_); go_step) | ((with_reducible refine aH ?_); first | refine aW ?_ | (refine aK ?_ ?_ <;> intro hc)) | fail)
      all_goals first
       | (have hh : False := by omega
          exact hh.elim)
       | skip
      go_ret
      rw [hbad (by rw [decide_eq_false c3, Bool.and_false])]
      exact ⟨rfl, hx1⟩
   ·have hk2 : k = hs.length := by omega
    subst hk2
    rw [List.take_length] at hall
    (repeat' first | ((with_reducible refine aJ ?_); go_step) | ((with_reducible refine aH ?_); first | refine aW ?_ | (refine aK ?_ ?_ <;> intro hc)) | fail)
    go_ret
    rw [hF, hall]
    exact ⟨rfl, hx⟩
 ·have hF : wS hs = false := by unfold wS; rw [decide_eq_false c4]; rfl
  (repeat' first | ((with_reducible refine aJ ?_); go_step) | ((with_reducible refine aH ?_); first | refine aW ?_ | (refine aK ?_ ?_ <;> intro hc)) | fail)
  all_goals first
   | (have hh : False := by omega
      exact hh.elim)
   | skip
  go_ret
  rw [hF]
  exact ⟨rfl, Ext.refl _⟩
theorem HT (hs : List HldR) (m : MsgR) (h : cL m = 0) : (bV hs m).qs = m.qs ∧ (bV hs m).id = m.id ∧ (bV hs m).op = m.op ∧ (bV hs m).want = m.want ∧ (bV hs m).resp = true ∧ (bV hs m).avail = false ∧ (bV hs m).trunc = false ∧ (bV hs m).size = (if m.size = 0 then 0 else 1232) := by
 have hb : ∀ c, (bareR m c).qs = m.qs ∧ (bareR m c).id = m.id ∧ (bareR m c).op = m.op ∧ (bareR m c).want = m.want ∧ (bareR m c).resp = true ∧ (bareR m c).avail = false ∧ (bareR m c).trunc = false ∧ (bareR m c).size = (if m.size = 0 then 0 else 1232) := fun c => ⟨rfl, rfl, rfl, rfl, rfl, rfl, rfl, rfl⟩
 unfold bV
 rw [if_neg (by simpa using h)]
 split
 ·exact hb 1
 ·split
  ·exact hb 4
  ·split
   ·exact hb 1
   ·split
    ·exact hb 4
    ·split
     ·exact hb 5
     ·unfold KK
      split
      ·exact hb 2
      ·exact ⟨rfl, rfl, rfl, rfl, rfl, rfl, rfl, rfl⟩
theorem KQ {hs : List HldR} (h : wS hs = true) : hs.length ≤ 4 ∧ ∀ x ∈ hs, ∀ s ∈ x.l, s.data.length ≤ 1000000 := by
 simp only [wS, Bool.and_eq_true, decide_eq_true_eq, List.all_eq_true] at h
 refine ⟨h.1, fun x hx s hs => ?_⟩
 have := (DM (h.2 x hx).1.2).2.1 s hs
 omega
end Go.Proofs.X
