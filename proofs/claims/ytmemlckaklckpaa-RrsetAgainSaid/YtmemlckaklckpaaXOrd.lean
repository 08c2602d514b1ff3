/- A part of the proof of a statement on sets of records: what some functions of the program do, walked step by step. -/
import Derived.Test.YtmemlckaklckpaaXSort
import Derived.Test.YtmemlckaklckpaaXSpec
set_option linter.unusedVariables false
set_option linter.unusedSimpArgs false
namespace Go.Proofs.X
open Go
/-! ### three-way comparisons that order -/
structure TPO {α : Type} (c : α → α → Int) : Prop where
  anti : ∀ x y, c y x = - c x y
  tr : ∀ x y z, c x y ≤ 0 → c y z ≤ 0 → c x z ≤ 0
variable {α : Type} {c d : α → α → Int}
theorem TPO.refl (h : TPO c) (x : α) : c x x = 0 := by have := h.anti x x; omega
theorem TPO.swo (h : TPO c) : Sort.SWO (Go.Proofs.ltOf c) where
  irrefl x := by simp [Go.Proofs.ltOf, h.refl x]
  trans x y z h1 h2 := by
    simp only [Go.Proofs.ltOf, decide_eq_true_eq] at *
    have h3 := h.tr x y z (by omega) (by omega)
    rcases Int.lt_or_eq_of_le h3 with h4 | h4
    · exact h4
    · have a1 := h.anti x z
      have a2 := h.anti y z
      have a3 := h.anti x y
      have := h.tr z x y (by omega) (by omega)
      omega
  ntrans x y z h1 h2 := by
    simp only [Go.Proofs.ltOf, decide_eq_false_iff_not] at *
    have a1 := h.anti x y
    have a2 := h.anti y z
    have a3 := h.anti x z
    have := h.tr z y x (by omega) (by omega)
    omega
theorem TPO.eqL (h : TPO c) {x y z : α} (e : c x y = 0) : c x z ≤ 0 ↔ c y z ≤ 0 := by
  have a := h.anti x y
  exact ⟨fun h1 => h.tr y x z (by omega) h1, fun h1 => h.tr x y z (by omega) h1⟩
theorem TPO.eqR (h : TPO c) {x y z : α} (e : c x y = 0) : c z x ≤ 0 ↔ c z y ≤ 0 := by
  have a := h.anti x y
  exact ⟨fun h1 => h.tr z x y h1 (by omega), fun h1 => h.tr z y x h1 (by omega)⟩
/-- by the first, then by the second -/
def lexC (c d : α → α → Int) (x y : α) : Int := if c x y ≠ 0 then c x y else d x y
theorem TPO.lex (h : TPO c) (k : TPO d) : TPO (lexC c d) where
  anti x y := by
    have a := h.anti x y
    have b := k.anti x y
    unfold lexC
    split <;> split <;> omega
  tr x y z := by
    have a1 := h.anti x y
    have a2 := h.anti y z
    have a3 := h.anti x z
    have t1 := h.tr x y z
    have t2 := h.tr z x y
    have t3 := h.tr y z x
    have t4 := k.tr x y z
    unfold lexC
    intro h1 h2
    split at h1 <;> split at h2 <;> split <;> omega
theorem TPO.comap {β : Type} (h : TPO c) (f : β → α) : TPO (fun x y => c (f x) (f y)) := ⟨fun x y => h.anti _ _, fun x y z => h.tr _ _ _⟩
theorem tpo_int : TPO (fun a b : Int => if a < b then (-1 : Int) else if b < a then 1 else 0) where
  anti x y := by split <;> split <;> (try split) <;> omega
  tr x y z := by
    intro h1 h2
    split at h1 <;> split at h2 <;> split <;> (try omega)
    all_goals (split <;> (try omega))
    all_goals (first | (split at h1 <;> omega) | (split at h2 <;> omega) | (split at h1 <;> split at h2 <;> omega))
theorem bless {a b : List UInt8} : Op.bytesLess a b = true ↔ a < b := by rw [Go.Proofs.bytesLess_eq]; simp
theorem cmpB_val (a b : List UInt8) : cmpB a b = if a < b then -1 else if a = b then 0 else 1 := by
  unfold cmpB
  by_cases h : a < b
  · simp [bless.2 h, h]
  · have : Op.bytesLess a b = false := by
      cases h2 : Op.bytesLess a b with
      | false => rfl
      | true => exact absurd (bless.1 h2) h
    simp [this, h]
theorem tpo_cmpB : TPO cmpB where
  anti x y := by
    rw [cmpB_val, cmpB_val]
    rcases Std.lt_trichotomy x y with h | h | h
    · have h2 : ¬ y < x := fun h9 => Std.lt_irrefl (Std.lt_trans h h9)
      have h3 : x ≠ y := fun e => Std.lt_irrefl (e ▸ h)
      simp [h, h2, h3, Ne.symm h3]
    · subst h
      simp [Std.lt_irrefl]
    · have h2 : ¬ x < y := fun h9 => Std.lt_irrefl (Std.lt_trans h h9)
      have h3 : x ≠ y := fun e => Std.lt_irrefl (e ▸ h)
      simp [h, h2, h3, Ne.symm h3]
  tr x y z := by
    rw [cmpB_val, cmpB_val, cmpB_val]
    intro h1 h2
    by_cases hxy : x < y
    · by_cases hyz : y < z
      · simp [Std.lt_trans hxy hyz]
      · by_cases e : y = z
        · subst e; simp [hxy]
        · simp [hyz, e] at h2
    · by_cases e : x = y
      · subst e; exact h2
      · simp [hxy, e] at h1
theorem tpo_cmpL : TPO cmpL where
  anti := by
    intro x
    induction x with
    | nil => intro y; cases y <;> rfl
    | cons a x ih =>
      intro y
      cases y with
      | nil => rfl
      | cons b y =>
        have h1 := tpo_cmpB.anti a b
        have h2 := ih y
        simp only [cmpL]
        split <;> split <;> omega
  tr := by
    intro x
    induction x with
    | nil => intro y z _ _; cases z <;> simp [cmpL]
    | cons a x ih =>
      intro y z h1 h2
      cases y with
      | nil => simp [cmpL] at h1
      | cons b y =>
        cases z with
        | nil => simp [cmpL] at h2
        | cons e z =>
          have a1 := tpo_cmpB.anti a b
          have a2 := tpo_cmpB.anti b e
          have a3 := tpo_cmpB.anti a e
          have t1 := tpo_cmpB.tr a b e
          have t2 := tpo_cmpB.tr e a b
          have t3 := tpo_cmpB.tr b e a
          have t4 := ih y z
          simp only [cmpL] at *
          split at h1 <;> split at h2 <;> split <;> omega
theorem tpo_cmpN : TPO cmpN where
  anti x y := by
    have h1 := tpo_cmpB.anti x y
    unfold cmpN
    cases hx : turned x <;> cases hy : turned y <;> simp only [] <;> first | exact h1 | rfl | exact tpo_cmpL.anti _ _
  tr x y z := by
    have h1 := tpo_cmpB.tr x y z
    unfold cmpN
    cases hx : turned x <;> cases hy : turned y <;> cases hz : turned z <;> simp only [] <;> first | exact h1 | exact tpo_cmpL.tr _ _ _ | (intros; omega)
end Go.Proofs.X
