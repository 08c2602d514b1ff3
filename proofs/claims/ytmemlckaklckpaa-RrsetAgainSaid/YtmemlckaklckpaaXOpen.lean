/- A part of the proof of a statement on sets of records: what some functions of the program do, walked step by step. -/
import Derived.Test.YtmemlckaklckpaaXMap
import Derived.StillTail
set_option linter.unusedVariables false
set_option linter.unusedSimpArgs false
namespace Go.Proofs.X
open Go.RowKit
theorem Runs.fieldLit {P : Program} {w : World} {ts : List Value} {df : List Deferred} {d : Option Nat} {ty : TypeId} {ps : String} {af : Array Edge} {g : Option (Nat × Bool)} {s : TypeId} {m n b o : Nat} (h : ts.getD m undef = .pointer (some ⟨b, o, none⟩)) (hf : fieldIs P s n n = true) :
    Runs P (Oper.mk d (.fieldAddr s (.tmp m) n) ty ps af g) (Act.mk ts.toArray df) w (partPtr (ts.getD m undef) n) := by
  obtain ⟨fs, f, i, ht, hf, ho, hie, hz⟩ := fieldIs_spec hf
  have e1 : (Act.mk ts.toArray df).eval (.tmp m) = .pointer (some ⟨b, o, none⟩) := by rw [evalT]; exact h
  constructor
  rw [h]
  simp [execOp, e1, Instr.fieldAt, Instr.sureAddr, run_underlying ht, hf, fieldPlace, sizeOf, typeInfo, hie, hz, partPtr, ho]
/-! ### regions that draw their order, a fact on the world that holds until a certain operation -/
section
variable {P : Program} {ops : Array Oper} {Q : Exit → Act → World → Prop} {md : Region.Mode} {S : Array Bool → World → Prop}
def Closed (md : Region.Mode) (ops : Array Oper) (listed : Array Bool) : Prop := ∀ (j : Nat) oj, ops[j]? = some oj → listed.getD j false = true → ∀ e ∈ oj.after, Region.binds md e = true → listed.getD e.on false = true
theorem Closed.start (n : Nat) : Closed md ops (Array.replicate n false) := fun j oj _ h => by rw [getD_replicate_false] at h; cases h
theorem Closed.set {i : Nat} {listed : Array Bool} (inv : Closed md ops listed) (hi : i ∈ Region.ready md ops listed) : Closed md ops (listed.setIfInBounds i true) := by
  obtain ⟨_, oi, hoi, hall⟩ := mem_ready.1 hi
  intro j oj hj hl e he hb
  by_cases hij : i = j
  · subst hij
    have : oj = oi := Option.some.inj (hj.symm.trans hoi)
    subst this
    exact getD_set_true (hall e he hb)
  · rw [getD_set_ne false hij] at hl
    exact getD_set_true (inv j oj hj hl e he hb)
/-- k waits for i, through others -/
def reaches (md : Region.Mode) (ops : Array Oper) : Nat → Nat → Nat → Bool
  | 0, k, i => k == i
  | f + 1, k, i => k == i || (match ops[k]? with | some o => o.after.toList.any fun e => Region.binds md e && reaches md ops f e.on i | none => false)
theorem Closed.reaches {listed : Array Bool} (inv : Closed md ops listed) : ∀ (f k i : Nat), X.reaches md ops f k i = true → listed.getD k false = true → listed.getD i false = true
  | 0, k, i, h, hk => by have : k = i := by simpa [X.reaches] using h
                         subst this; exact hk
  | f + 1, k, i, h, hk => by
    simp only [X.reaches, Bool.or_eq_true, beq_iff_eq] at h
    rcases h with h | h
    · subst h; exact hk
    · cases ho : ops[k]? with
      | none => rw [ho] at h; cases h
      | some o =>
        rw [ho] at h
        obtain ⟨e, he, hb⟩ := List.any_eq_true.1 h
        simp only [Bool.and_eq_true] at hb
        exact inv.reaches f e.on i hb.2 (inv k o ho hk e (by simpa using he) hb.1)
def Open (md : Region.Mode) (ops : Array Oper) (S : Array Bool → World → Prop) (i : Nat) (w : World) : Prop := ∃ listed, Closed md ops listed ∧ listed.getD i true = false ∧ S listed w
def wpAnyI (P : Program) (md : Region.Mode) (ops : Array Oper) (Q : Exit → Act → World → Prop) (S : Array Bool → World → Prop) : Nat → Array Bool → Act → World → Prop
  | 0, listed, a, w => Region.ready md ops listed = [] ∧ Q .normal a w
  | fuel + 1, listed, a, w =>
    (Region.ready md ops listed = [] → Q .normal a w) ∧
    ∀ i ∈ Region.ready md ops listed, wpOp P ops Q i (fun a' w' => S (listed.setIfInBounds i true) w' ∧ wpAnyI P md ops Q S fuel (listed.setIfInBounds i true) a' w') a w
theorem wpAny_of_I : ∀ (fuel : Nat) (listed : Array Bool) (a : Act) (w : World), wpAnyI P md ops Q S fuel listed a w → wpAny P md ops Q fuel listed a w
  | 0, _, _, _, h => h
  | fuel + 1, _, _, _, h => ⟨h.1, fun i hi => wpOp_mono (fun a' w' h' => wpAny_of_I fuel _ a' w' h'.2) (h.2 i hi)⟩
/-- F holds until k has come up -/
def Till (k : Nat) (F : World → Prop) (listed : Array Bool) (w : World) : Prop := listed.getD k false = false → F w
theorem Till.set {k i : Nat} {F : World → Prop} {listed : Array Bool} {w : World} (hik : i ≠ k) : Till k F (listed.setIfInBounds i true) w ↔ Till k F listed w := by
  unfold Till; rw [getD_set_ne false hik]
theorem wpAnyI_first {k i : Nat} {F : World → Prop} {oi : Oper} {v : Value} (hi : ops[i]? = some oi) (hik : i ≠ k) (hsel : ∀ (j : Nat) (o : Oper) cs b, ops[j]? = some o → o.op ≠ .select cs b)
    (hQ : ∀ c a w, Q (.panic c) (a.put oi.dst v) w → Q (.panic c) a w) :
    ∀ (fuel : Nat) (listed : Array Bool) (a : Act) (w : World),
      Closed md ops listed → (∀ j oj, ops[j]? = some oj → j ≠ i → listed.getD j true = false → (∀ e ∈ oj.after, Region.binds md e = true → e.on ≠ i) → oi.apart ops oj = true) →
      i ∈ Region.ready md ops listed → YieldsIf P ops (Open md ops (Till k F) i) oi v a → Till k F listed w →
      wpAnyI P md ops Q (Till k F) fuel (listed.setIfInBounds i true) (a.put oi.dst v) w → wpAnyI P md ops Q (Till k F) (fuel + 1) listed a w := by
  intro fuel
  induction fuel with
  | zero =>
    intro listed a w hcl _ hr hy hS H
    have hun := (mem_ready.1 hr).1
    refine ⟨fun h => (by rw [h] at hr; cases hr), fun j hj => ?_⟩
    by_cases hji : j = i
    · subst hji; exact hy.wpOp hi ⟨listed, hcl, hun, hS⟩ ⟨(Till.set hik).2 hS, H⟩
    · have := ready_mono hj hji
      rw [H.1] at this
      cases this
  | succ fuel ih =>
    intro listed a w hcl hfree hr hy hS H
    have hun := (mem_ready.1 hr).1
    refine ⟨fun h => (by rw [h] at hr; cases hr), fun j hj => ?_⟩
    by_cases hji : j = i
    · subst hji; exact hy.wpOp hi ⟨listed, hcl, hun, hS⟩ ⟨(Till.set hik).2 hS, H⟩
    · have h1 := H.2 j (ready_mono hj hji)
      obtain ⟨hjun, oj, hoj, hall⟩ := mem_ready.1 hj
      have hnot : ∀ e ∈ oj.after, Region.binds md e = true → e.on ≠ i := fun e he hb heq => by
        have h1 := hall e he hb
        rw [heq, getD_both hun] at h1
        cases h1
      have h2 := wpOp_putIf hoj (hfree j oj hoj hji hjun hnot) (fun cs b => hsel i oi cs b hi) (fun cs b => hsel j oj cs b hoj) hQ hy h1
      have hfree' : ∀ k ok, ops[k]? = some ok → k ≠ i → (listed.setIfInBounds j true).getD k true = false →
          (∀ e ∈ ok.after, Region.binds md e = true → e.on ≠ i) → oi.apart ops ok = true := fun k ok hk hki hun hno => by
        refine hfree k ok hk hki ?_ hno
        by_cases hjk : j = k
        · subst hjk; exact hjun
        · rw [getD_set_ne true hjk] at hun; exact hun
      refine wpOp_mono (fun a' w' h3 => ?_) h2
      have hS2 : Till k F (listed.setIfInBounds j true) w' := by
        have := h3.2.1
        rw [Array.setIfInBounds_comm _ _ (Ne.symm hji)] at this
        exact (Till.set hik).1 this
      refine ⟨hS2, ih (listed.setIfInBounds j true) a' w' (hcl.set hj) hfree' (ready_mono hr (Ne.symm hji)) h3.1 hS2 ?_⟩
      rw [Array.setIfInBounds_comm _ _ hji]
      exact h3.2.2
end
/-! the moves of a walk -/
section
variable {P : Program} {Q : Exit → Act → World → Prop} {k : Nat} {F : World → Prop} {l : List Oper} {ts : List Value} {df : List Deferred} {d : Nat} {ty : TypeId} {ps : String} {af : Array Edge} {g : Option (Nat × Bool)} {w : World} {fuel fuel2 : Nat} {listed : List Bool} {id : Nat}
def wpI (P : Program) (Q : Exit → Act → World → Prop) (k : Nat) (F : World → Prop) (l : List Oper) (fuel : Nat) (listed : List Bool) (a : Act) (w : World) : Prop := Closed .any l.toArray listed.toArray ∧ Till k F listed.toArray w → wpAnyI P .any l.toArray Q (Till k F) fuel listed.toArray a w
theorem wpi_region {a : Act} (k : Nat) (F : World → Prop) (hm : P.follows .mixedOrders = true)
    (h : ∀ w1, Ext w w1 → w1.heap = w.heap → F w1 ∧ wpI P Q k F l l.length (List.replicate l.length false) a w1) : (Code.region id l.toArray true).wp P Q a w := by
  refine wp_region_any hm (wpAny_of_I (S := Till k F) _ _ _ _ ?_)
  obtain ⟨h1, h2⟩ := h { w with drawn := w.drawn + 1 } (Ext.drew w) rfl
  have := h2 ⟨by simpa using Closed.start _, fun _ => h1⟩
  simpa using this
/-- what yields its value as long as F holds, and is needed by k, is taken first -/
theorem wpi_take {i : Nat} {op : Op} {v : Value} (hi : l[i]? = some (Oper.mk (some d) op ty ps af g)) (hfu : fuel2 = fuel + 1) (hik : decide (i ≠ k) = true) (hk : reaches .any l.toArray l.length k i = true) (hs : Region.noSelect l.toArray = true) (hf : Region.free .any l.toArray listed.toArray i = true) (hr : (Region.ready .any l.toArray listed.toArray).contains i = true)
    (hw : Region.wanted (Oper.mk (some d) op ty ps af g) (yielded l.toArray ts.toArray) = true)
    (hy : ∀ w', F w' → Runs P (Oper.mk (some d) op ty ps af g) (Act.mk ts.toArray df) w' v) (hQ : ∀ c a w, Q (.panic c) (a.put (some d) v) w → Q (.panic c) a w)
    (h : wpI P Q k F l fuel (listed.set i true) (Act.mk (ts.set d v).toArray df) w) : wpI P Q k F l fuel2 listed (Act.mk ts.toArray df) w := by
  subst hfu
  rintro ⟨hcl, hS⟩
  have hik' : i ≠ k := by simpa using hik
  have hr' : i ∈ Region.ready .any l.toArray listed.toArray := by simpa using hr
  refine wpAnyI_first (oi := Oper.mk (some d) op ty ps af g) (v := v) (by simpa using hi) hik' (Region.noSelect_spec hs) hQ fuel listed.toArray _ w hcl (Region.free_spec (by simpa using hi) hf) hr' (.inl ⟨hw, fun w' ⟨l', hcl', hun', hS'⟩ => (hy w' (hS' ?_)).run⟩) hS ?_
  · cases hkl : l'.getD k false with
    | false => rfl
    | true =>
      have := hcl'.reaches _ k i hk hkl
      rw [getD_both hun'] at this
      cases this
  · have := h ⟨by simpa using hcl.set hr', by simpa using (Till.set hik').2 hS⟩
    simpa [Act.put] using this
/-- what yields its value in every world is taken first -/
theorem wpi_pure {i : Nat} {op : Op} {v : Value} (hi : l[i]? = some (Oper.mk (some d) op ty ps af g)) (hfu : fuel2 = fuel + 1) (hik : decide (i ≠ k) = true) (hs : Region.noSelect l.toArray = true) (hf : Region.free .any l.toArray listed.toArray i = true) (hr : (Region.ready .any l.toArray listed.toArray).contains i = true)
    (hw : Region.wanted (Oper.mk (some d) op ty ps af g) (yielded l.toArray ts.toArray) = true)
    (hy : ∀ w', Runs P (Oper.mk (some d) op ty ps af g) (Act.mk ts.toArray df) w' v) (hQ : ∀ c a w, Q (.panic c) (a.put (some d) v) w → Q (.panic c) a w)
    (h : wpI P Q k F l fuel (listed.set i true) (Act.mk (ts.set d v).toArray df) w) : wpI P Q k F l fuel2 listed (Act.mk ts.toArray df) w := by
  subst hfu
  rintro ⟨hcl, hS⟩
  have hik' : i ≠ k := by simpa using hik
  have hr' : i ∈ Region.ready .any l.toArray listed.toArray := by simpa using hr
  refine wpAnyI_first (oi := Oper.mk (some d) op ty ps af g) (v := v) (by simpa using hi) hik' (Region.noSelect_spec hs) hQ fuel listed.toArray _ w hcl (Region.free_spec (by simpa using hi) hf) hr' (.inl ⟨hw, fun w' _ => (hy w').run⟩) hS ?_
  have := h ⟨by simpa using hcl.set hr', by simpa using (Till.set hik').2 hS⟩
  simpa [Act.put] using this
theorem wpi_op {i : Nat} {o : Oper} {a : Act} (hr : Region.ready .any l.toArray listed.toArray = [i]) (hi : l[i]? = some o) (hfu : fuel2 = fuel + 1)
    (h : wpList P l.toArray (Thn Q fun a' w' => Till k F (listed.set i true).toArray w' ∧ wpI P Q k F l fuel (listed.set i true) a' w') [o] a w) : wpI P Q k F l fuel2 listed a w := by
  subst hfu
  rintro ⟨hcl, hS⟩
  refine ⟨fun h0 => (by rw [hr] at h0; cases h0), fun j hj => ?_⟩
  have hj' := hj
  rw [hr] at hj
  have : j = i := by simpa using hj
  subst this
  refine wpOp_mono (fun a' w' h3 => ?_) (wph_op (o := o) (by simpa using hi) h)
  have hcl2 : Closed .any l.toArray (listed.set j true).toArray := by simpa using hcl.set hj'
  refine ⟨by simpa using h3.1, ?_⟩
  have := h3.2 ⟨hcl2, h3.1⟩
  simpa using this
theorem wpi_op2 {i j : Nat} {o o' : Oper} {a : Act} (hr : Region.ready .any l.toArray listed.toArray = [i, j]) (hi : l[i]? = some o) (hj : l[j]? = some o') (hfu : fuel2 = fuel + 1)
    (h1 : wpList P l.toArray (Thn Q fun a' w' => Till k F (listed.set i true).toArray w' ∧ wpI P Q k F l fuel (listed.set i true) a' w') [o] a w)
    (h2 : wpList P l.toArray (Thn Q fun a' w' => Till k F (listed.set j true).toArray w' ∧ wpI P Q k F l fuel (listed.set j true) a' w') [o'] a w) : wpI P Q k F l fuel2 listed a w := by
  subst hfu
  rintro ⟨hcl, hS⟩
  refine ⟨fun h0 => (by rw [hr] at h0; cases h0), fun n hn => ?_⟩
  have hn' := hn
  rw [hr] at hn
  have : n = i ∨ n = j := by simpa using hn
  rcases this with rfl | rfl
  · refine wpOp_mono (fun a' w' h3 => ?_) (wph_op (o := o) (by simpa using hi) h1)
    have hcl2 : Closed .any l.toArray (listed.set n true).toArray := by simpa using hcl.set hn'
    refine ⟨by simpa using h3.1, ?_⟩
    have := h3.2 ⟨hcl2, h3.1⟩
    simpa using this
  · refine wpOp_mono (fun a' w' h3 => ?_) (wph_op (o := o') (by simpa using hj) h2)
    have hcl2 : Closed .any l.toArray (listed.set n true).toArray := by simpa using hcl.set hn'
    refine ⟨by simpa using h3.1, ?_⟩
    have := h3.2 ⟨hcl2, h3.1⟩
    simpa using this
theorem wpi_done {a : Act} (hr : Region.ready .any l.toArray listed.toArray = []) (h : Q .normal a w) : wpI P Q k F l fuel listed a w := by
  intro _
  cases fuel with
  | zero => exact ⟨hr, h⟩
  | succ n => exact ⟨fun _ => h, by rw [hr]; simp⟩
theorem till_yes {listed : List Bool} (h : F w) : Till k F listed.toArray w := fun _ => h
theorem till_no {listed : List Bool} (h : listed.toArray.getD k false = true) : Till k F listed.toArray w := fun h' => by rw [h] at h'; cases h'
/-- both ways meet again: a goal that is shown twice is shown once -/
theorem meet2 {α : Type} {F : α → World → Prop} {G : α → World → Prop} {goal : Prop} (h1 : (∀ x w', F x w' → G x w') → goal) (h2 : ∀ x w', F x w' → G x w') : goal := h1 h2
end
end Go.Proofs.X
