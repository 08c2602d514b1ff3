/- Laws and walks that the proof of the statement is made of (part 2). -/
import Derived.StillTail
import Derived.Deep.Slices
import Derived.Deep.Strs
import Derived.Test.YtfgkdjkegifpgaaGreatProg
import Derived.Lib.Hide
import Derived.Shelf.RegionOpenPlain
import Derived.Lib.Strings
import Derived.Lib.Slices
import Derived.Lib.Walk
import Derived.Lib.Builder
import Derived.Lib.AppendStr
import Derived.Lib.UnsafeStr
import Derived.Lib.MakeNoZero
import Derived.WalkKit
import Derived.Laws.Externs
import Derived.Laws.IdiomCopy
import Derived.Laws.BitsLemmas
import GoSem.Claims
import Derived.Test.YtfgkdjkegifpgaaGreatP1
set_option linter.unusedVariables false
set_option linter.unusedSimpArgs false
namespace Go.Proofs.X
open Go.RowKit
theorem Runs.fieldLit {P : Program} {w : World} {ts : List Value} {df : List Deferred} {d : Option Nat} {ty : TypeId} {ps : String} {af : Array Edge} {g : Option (Nat × Bool)} {s : TypeId} {m n b o : Nat} (h : ts.getD m undef = .pointer (some ⟨b, o, none⟩)) (hf : fieldIs P s n n = true) :
    Runs P (Oper.mk d (.fieldAddr s (.tmp m) n) ty ps af g) (Act.mk ts.toArray df) w (partPtr (ts.getD m undef) n) := by
  obtain ⟨fs, f, i, ht, hf, ho, hie, hz⟩ := fieldIs_spec hf
  have e1 : (Act.mk ts.toArray df).eval (.tmp m) = .pointer (some ⟨b, o, none⟩) := by rw [evalT]; exact h
  constructor
  rw [h]
  simp [execOp, e1, Instr.fieldAt, Instr.sureAddr, run_underlying ht, hf, fieldPlace, sizeOf, typeInfo, hie, hz, partPtr, ho]
/-! ### regions that draw their order, a fact on the world that holds until a certain operation -/
section
variable {P : Program} {ops : Array Oper} {Q : Exit → Act → World → Prop} {md : Region.Mode} {S : Array Bool → World → Prop}
def Closed (md : Region.Mode) (ops : Array Oper) (listed : Array Bool) : Prop := ∀ (j : Nat) oj, ops[j]? = some oj → listed.getD j false = true → ∀ e ∈ oj.after, Region.binds md e = true → listed.getD e.on false = true
theorem Closed.start (n : Nat) : Closed md ops (Array.replicate n false) := fun j oj _ h => by rw [getD_replicate_false] at h; cases h
theorem Closed.set {i : Nat} {listed : Array Bool} (inv : Closed md ops listed) (hi : i ∈ Region.ready md ops listed) : Closed md ops (listed.setIfInBounds i true) := by
  obtain ⟨_, oi, hoi, hall⟩ := mem_ready.1 hi
  intro j oj hj hl e he hb
  by_cases hij : i = j
  · subst hij
    have : oj = oi := Option.some.inj (hj.symm.trans hoi)
    subst this
    exact getD_set_true (hall e he hb)
  · rw [getD_set_ne false hij] at hl
    exact getD_set_true (inv j oj hj hl e he hb)
/-- k waits for i, through others -/
def reaches (md : Region.Mode) (ops : Array Oper) : Nat → Nat → Nat → Bool
  | 0, k, i => k == i
  | f + 1, k, i => k == i || (match ops[k]? with | some o => o.after.toList.any fun e => Region.binds md e && reaches md ops f e.on i | none => false)
theorem Closed.reaches {listed : Array Bool} (inv : Closed md ops listed) : ∀ (f k i : Nat), X.reaches md ops f k i = true → listed.getD k false = true → listed.getD i false = true
  | 0, k, i, h, hk => by have : k = i := by simpa [X.reaches] using h
                         subst this; exact hk
  | f + 1, k, i, h, hk => by
    simp only [X.reaches, Bool.or_eq_true, beq_iff_eq] at h
    rcases h with h | h
    · subst h; exact hk
    · cases ho : ops[k]? with
      | none => rw [ho] at h; cases h
      | some o =>
        rw [ho] at h
        obtain ⟨e, he, hb⟩ := List.any_eq_true.1 h
        simp only [Bool.and_eq_true] at hb
        exact inv.reaches f e.on i hb.2 (inv k o ho hk e (by simpa using he) hb.1)
def Open (md : Region.Mode) (ops : Array Oper) (S : Array Bool → World → Prop) (i : Nat) (w : World) : Prop := ∃ listed, Closed md ops listed ∧ listed.getD i true = false ∧ S listed w
def wpAnyI (P : Program) (md : Region.Mode) (ops : Array Oper) (Q : Exit → Act → World → Prop) (S : Array Bool → World → Prop) : Nat → Array Bool → Act → World → Prop
  | 0, listed, a, w => Region.ready md ops listed = [] ∧ Q .normal a w
  | fuel + 1, listed, a, w =>
    (Region.ready md ops listed = [] → Q .normal a w) ∧
    ∀ i ∈ Region.ready md ops listed, wpOp P ops Q i (fun a' w' => S (listed.setIfInBounds i true) w' ∧ wpAnyI P md ops Q S fuel (listed.setIfInBounds i true) a' w') a w
theorem wpAny_of_I : ∀ (fuel : Nat) (listed : Array Bool) (a : Act) (w : World), wpAnyI P md ops Q S fuel listed a w → wpAny P md ops Q fuel listed a w
  | 0, _, _, _, h => h
  | fuel + 1, _, _, _, h => ⟨h.1, fun i hi => wpOp_mono (fun a' w' h' => wpAny_of_I fuel _ a' w' h'.2) (h.2 i hi)⟩
/-- F holds until k has come up -/
def Till (k : Nat) (F : World → Prop) (listed : Array Bool) (w : World) : Prop := listed.getD k false = false → F w
theorem Till.set {k i : Nat} {F : World → Prop} {listed : Array Bool} {w : World} (hik : i ≠ k) : Till k F (listed.setIfInBounds i true) w ↔ Till k F listed w := by
  unfold Till; rw [getD_set_ne false hik]
theorem wpAnyI_first {k i : Nat} {F : World → Prop} {oi : Oper} {v : Value} (hi : ops[i]? = some oi) (hik : i ≠ k) (hsel : ∀ (j : Nat) (o : Oper) cs b, ops[j]? = some o → o.op ≠ .select cs b)
    (hQ : ∀ c a w, Q (.panic c) (a.put oi.dst v) w → Q (.panic c) a w) :
    ∀ (fuel : Nat) (listed : Array Bool) (a : Act) (w : World),
      Closed md ops listed → (∀ j oj, ops[j]? = some oj → j ≠ i → listed.getD j true = false → (∀ e ∈ oj.after, Region.binds md e = true → e.on ≠ i) → oi.apart ops oj = true) →
      i ∈ Region.ready md ops listed → YieldsIf P ops (Open md ops (Till k F) i) oi v a → Till k F listed w →
      wpAnyI P md ops Q (Till k F) fuel (listed.setIfInBounds i true) (a.put oi.dst v) w → wpAnyI P md ops Q (Till k F) (fuel + 1) listed a w := by
  intro fuel
  induction fuel with
  | zero =>
    intro listed a w hcl _ hr hy hS H
    have hun := (mem_ready.1 hr).1
    refine ⟨fun h => (by rw [h] at hr; cases hr), fun j hj => ?_⟩
    by_cases hji : j = i
    · subst hji; exact hy.wpOp hi ⟨listed, hcl, hun, hS⟩ ⟨(Till.set hik).2 hS, H⟩
    · have := ready_mono hj hji
      rw [H.1] at this
      cases this
  | succ fuel ih =>
    intro listed a w hcl hfree hr hy hS H
    have hun := (mem_ready.1 hr).1
    refine ⟨fun h => (by rw [h] at hr; cases hr), fun j hj => ?_⟩
    by_cases hji : j = i
    · subst hji; exact hy.wpOp hi ⟨listed, hcl, hun, hS⟩ ⟨(Till.set hik).2 hS, H⟩
    · have h1 := H.2 j (ready_mono hj hji)
      obtain ⟨hjun, oj, hoj, hall⟩ := mem_ready.1 hj
      have hnot : ∀ e ∈ oj.after, Region.binds md e = true → e.on ≠ i := fun e he hb heq => by
        have h1 := hall e he hb
        rw [heq, getD_both hun] at h1
        cases h1
      have h2 := wpOp_putIf hoj (hfree j oj hoj hji hjun hnot) (fun cs b => hsel i oi cs b hi) (fun cs b => hsel j oj cs b hoj) hQ hy h1
      have hfree' : ∀ k ok, ops[k]? = some ok → k ≠ i → (listed.setIfInBounds j true).getD k true = false →
          (∀ e ∈ ok.after, Region.binds md e = true → e.on ≠ i) → oi.apart ops ok = true := fun k ok hk hki hun hno => by
        refine hfree k ok hk hki ?_ hno
        by_cases hjk : j = k
        · subst hjk; exact hjun
        · rw [getD_set_ne true hjk] at hun; exact hun
      refine wpOp_mono (fun a' w' h3 => ?_) h2
      have hS2 : Till k F (listed.setIfInBounds j true) w' := by
        have := h3.2.1
        rw [Array.setIfInBounds_comm _ _ (Ne.symm hji)] at this
        exact (Till.set hik).1 this
      refine ⟨hS2, ih (listed.setIfInBounds j true) a' w' (hcl.set hj) hfree' (ready_mono hr (Ne.symm hji)) h3.1 hS2 ?_⟩
      rw [Array.setIfInBounds_comm _ _ hji]
      exact h3.2.2
end
/-! the moves of a walk -/
section
variable {P : Program} {Q : Exit → Act → World → Prop} {k : Nat} {F : World → Prop} {l : List Oper} {ts : List Value} {df : List Deferred} {d : Nat} {ty : TypeId} {ps : String} {af : Array Edge} {g : Option (Nat × Bool)} {w : World} {fuel fuel2 : Nat} {listed : List Bool} {id : Nat}
def wpI (P : Program) (Q : Exit → Act → World → Prop) (k : Nat) (F : World → Prop) (l : List Oper) (fuel : Nat) (listed : List Bool) (a : Act) (w : World) : Prop := Closed .any l.toArray listed.toArray ∧ Till k F listed.toArray w → wpAnyI P .any l.toArray Q (Till k F) fuel listed.toArray a w
theorem wpi_region {a : Act} (k : Nat) (F : World → Prop) (hm : P.follows .mixedOrders = true)
    (h : ∀ w1, Ext w w1 → w1.heap = w.heap → F w1 ∧ wpI P Q k F l l.length (List.replicate l.length false) a w1) : (Code.region id l.toArray true).wp P Q a w := by
  refine wp_region_any hm (wpAny_of_I (S := Till k F) _ _ _ _ ?_)
  obtain ⟨h1, h2⟩ := h { w with drawn := w.drawn + 1 } (Ext.drew w) rfl
  have := h2 ⟨by simpa using Closed.start _, fun _ => h1⟩
  simpa using this
/-- what yields its value as long as F holds, and is needed by k, is taken first -/
theorem wpi_take {i : Nat} {op : Op} {v : Value} (hi : l[i]? = some (Oper.mk (some d) op ty ps af g)) (hfu : fuel2 = fuel + 1) (hik : decide (i ≠ k) = true) (hk : reaches .any l.toArray l.length k i = true) (hs : Region.noSelect l.toArray = true) (hf : Region.free .any l.toArray listed.toArray i = true) (hr : (Region.ready .any l.toArray listed.toArray).contains i = true)
    (hw : Region.wanted (Oper.mk (some d) op ty ps af g) (yielded l.toArray ts.toArray) = true)
    (hy : ∀ w', F w' → Runs P (Oper.mk (some d) op ty ps af g) (Act.mk ts.toArray df) w' v) (hQ : ∀ c a w, Q (.panic c) (a.put (some d) v) w → Q (.panic c) a w)
    (h : wpI P Q k F l fuel (listed.set i true) (Act.mk (ts.set d v).toArray df) w) : wpI P Q k F l fuel2 listed (Act.mk ts.toArray df) w := by
  subst hfu
  rintro ⟨hcl, hS⟩
  have hik' : i ≠ k := by simpa using hik
  have hr' : i ∈ Region.ready .any l.toArray listed.toArray := by simpa using hr
  refine wpAnyI_first (oi := Oper.mk (some d) op ty ps af g) (v := v) (by simpa using hi) hik' (Region.noSelect_spec hs) hQ fuel listed.toArray _ w hcl (Region.free_spec (by simpa using hi) hf) hr' (.inl ⟨hw, fun w' ⟨l', hcl', hun', hS'⟩ => (hy w' (hS' ?_)).run⟩) hS ?_
  · cases hkl : l'.getD k false with
    | false => rfl
    | true =>
      have := hcl'.reaches _ k i hk hkl
      rw [getD_both hun'] at this
      cases this
  · have := h ⟨by simpa using hcl.set hr', by simpa using (Till.set hik').2 hS⟩
    simpa [Act.put] using this
/-- what yields its value in every world is taken first -/
theorem wpi_pure {i : Nat} {op : Op} {v : Value} (hi : l[i]? = some (Oper.mk (some d) op ty ps af g)) (hfu : fuel2 = fuel + 1) (hik : decide (i ≠ k) = true) (hs : Region.noSelect l.toArray = true) (hf : Region.free .any l.toArray listed.toArray i = true) (hr : (Region.ready .any l.toArray listed.toArray).contains i = true)
    (hw : Region.wanted (Oper.mk (some d) op ty ps af g) (yielded l.toArray ts.toArray) = true)
    (hy : ∀ w', Runs P (Oper.mk (some d) op ty ps af g) (Act.mk ts.toArray df) w' v) (hQ : ∀ c a w, Q (.panic c) (a.put (some d) v) w → Q (.panic c) a w)
    (h : wpI P Q k F l fuel (listed.set i true) (Act.mk (ts.set d v).toArray df) w) : wpI P Q k F l fuel2 listed (Act.mk ts.toArray df) w := by
  subst hfu
  rintro ⟨hcl, hS⟩
  have hik' : i ≠ k := by simpa using hik
  have hr' : i ∈ Region.ready .any l.toArray listed.toArray := by simpa using hr
  refine wpAnyI_first (oi := Oper.mk (some d) op ty ps af g) (v := v) (by simpa using hi) hik' (Region.noSelect_spec hs) hQ fuel listed.toArray _ w hcl (Region.free_spec (by simpa using hi) hf) hr' (.inl ⟨hw, fun w' _ => (hy w').run⟩) hS ?_
  have := h ⟨by simpa using hcl.set hr', by simpa using (Till.set hik').2 hS⟩
  simpa [Act.put] using this
theorem wpi_op {i : Nat} {o : Oper} {a : Act} (hr : Region.ready .any l.toArray listed.toArray = [i]) (hi : l[i]? = some o) (hfu : fuel2 = fuel + 1)
    (h : wpList P l.toArray (Thn Q fun a' w' => Till k F (listed.set i true).toArray w' ∧ wpI P Q k F l fuel (listed.set i true) a' w') [o] a w) : wpI P Q k F l fuel2 listed a w := by
  subst hfu
  rintro ⟨hcl, hS⟩
  refine ⟨fun h0 => (by rw [hr] at h0; cases h0), fun j hj => ?_⟩
  have hj' := hj
  rw [hr] at hj
  have : j = i := by simpa using hj
  subst this
  refine wpOp_mono (fun a' w' h3 => ?_) (wph_op (o := o) (by simpa using hi) h)
  have hcl2 : Closed .any l.toArray (listed.set j true).toArray := by simpa using hcl.set hj'
  refine ⟨by simpa using h3.1, ?_⟩
  have := h3.2 ⟨hcl2, h3.1⟩
  simpa using this
theorem wpi_op2 {i j : Nat} {o o' : Oper} {a : Act} (hr : Region.ready .any l.toArray listed.toArray = [i, j]) (hi : l[i]? = some o) (hj : l[j]? = some o') (hfu : fuel2 = fuel + 1)
    (h1 : wpList P l.toArray (Thn Q fun a' w' => Till k F (listed.set i true).toArray w' ∧ wpI P Q k F l fuel (listed.set i true) a' w') [o] a w)
    (h2 : wpList P l.toArray (Thn Q fun a' w' => Till k F (listed.set j true).toArray w' ∧ wpI P Q k F l fuel (listed.set j true) a' w') [o'] a w) : wpI P Q k F l fuel2 listed a w := by
  subst hfu
  rintro ⟨hcl, hS⟩
  refine ⟨fun h0 => (by rw [hr] at h0; cases h0), fun n hn => ?_⟩
  have hn' := hn
  rw [hr] at hn
  have : n = i ∨ n = j := by simpa using hn
  rcases this with rfl | rfl
  · refine wpOp_mono (fun a' w' h3 => ?_) (wph_op (o := o) (by simpa using hi) h1)
    have hcl2 : Closed .any l.toArray (listed.set n true).toArray := by simpa using hcl.set hn'
    refine ⟨by simpa using h3.1, ?_⟩
    have := h3.2 ⟨hcl2, h3.1⟩
    simpa using this
  · refine wpOp_mono (fun a' w' h3 => ?_) (wph_op (o := o') (by simpa using hj) h2)
    have hcl2 : Closed .any l.toArray (listed.set n true).toArray := by simpa using hcl.set hn'
    refine ⟨by simpa using h3.1, ?_⟩
    have := h3.2 ⟨hcl2, h3.1⟩
    simpa using this
theorem wpi_done {a : Act} (hr : Region.ready .any l.toArray listed.toArray = []) (h : Q .normal a w) : wpI P Q k F l fuel listed a w := by
  intro _
  cases fuel with
  | zero => exact ⟨hr, h⟩
  | succ n => exact ⟨fun _ => h, by rw [hr]; simp⟩
theorem till_yes {listed : List Bool} (h : F w) : Till k F listed.toArray w := fun _ => h
theorem till_no {listed : List Bool} (h : listed.toArray.getD k false = true) : Till k F listed.toArray w := fun h' => by rw [h] at h'; cases h'
/-- both ways meet again: a goal that is shown twice is shown once -/
theorem meet2 {α : Type} {F : α → World → Prop} {G : α → World → Prop} {goal : Prop} (h1 : (∀ x w', F x w' → G x w') → goal) (h2 : ∀ x w', F x w' → G x w') : goal := h1 h2
end
end Go.Proofs.X
set_option linter.unusedVariables false
set_option linter.unusedSimpArgs false
namespace Go.Proofs.X
open Go.RowKit Go.Deep
/-! ### what came in, read -/
section
variable {H : Type} {enc : TypeId × Value → H} {P : Program} {w : World} {base : Nat} {spare : Nat → Bool} {held : Bool}
theorem trod_str {t : TypeId} {fuel : Nat} {c : Value} {x : DataW H × List MemPlace} (ht : P.underlying t = some .string) (h : DataW.trod enc P w base spare held fuel t [c] = some x) : ∃ s : List UInt8, c = str s ∧ s.length ≤ maxLen := by
  obtain ⟨s, h1, _, h3⟩ := DataW.trod_string ht h
  refine ⟨s.data.toList, ?_, by rw [Array.length_toList]; exact h3⟩
  simp only [List.cons.injEq, and_true] at h1
  rw [h1, str, Array.toArray_toList]
theorem trod_num {t : TypeId} {k : IntKind} {fuel : Nat} {c : Value} {x : DataW H × List MemPlace} (ht : P.underlying t = some (.int k)) (h : DataW.trod enc P w base spare held fuel t [c] = some x) : ∃ n : Int, c = .int k n ∧ (Lit.int k n).wf = true := by
  obtain ⟨n, h1, _, h3⟩ := DataW.trod_int ht h
  exact ⟨n, by simpa using h1, h3⟩
/-- a slice of structs of n one-cell fields: its elements' cells -/
theorem open_rows {t e : TypeId} {k fuel : Nat} {v : Value} {x : DataW H × List MemPlace} (ht : P.underlying t = some (.slice e)) (hc : P.cellsOf e = k) (hk : 0 < k) (h : DataW.trod enc P w base spare held fuel t [v] = some x) :
    ∃ es : List (List Value), Sl k w v es ∧ ∀ c ∈ es, ∃ n y, DataW.trod enc P w base spare held n e c = some y := by
  rcases open_slice ht h with ⟨h0, _⟩ | ⟨a, len, cap, m, n, D, Pl, h0, hb, hl, hm, hmm, _, hx⟩
  · simp only [List.cons.injEq, and_true] at h0
    subst h0
    exact ⟨[], Sl.nil _ _, by simp⟩
  · simp only [List.cons.injEq, and_true] at h0
    subst h0
    have hlm : len ≤ m := by rw [hmm]; split <;> omega
    obtain ⟨f, hf⟩ := choose_lt (α := List Value) (p := fun i cs => w.cells? base (a.add (i * P.cellsOf e)) (P.cellsOf e) = some cs ∧ DataW.trod enc P w base spare held n e cs = some (D i, Pl i)) (n := len) (fun i hi => hx i (by omega))
    have hfl : ∀ i, i < len → (f i).length = k := fun i hi => by
      obtain ⟨_, h2, _⟩ := World.cells?_some (hf i hi).1
      rw [h2, hc]
    have hcell : ∀ i, i < len → ∀ j u, (f i)[j]? = some u → w.cell? ((a.add (i * k)).add j) = some u := fun i hi j u hu => by
      obtain ⟨_, h2, h3⟩ := World.cells?_some (hf i hi).1
      have hj := (List.getElem?_eq_some_iff.1 hu).1
      have := h3 j (by rw [← h2]; exact hj)
      rw [hc] at this
      rw [this, hu]
    refine ⟨(List.range len).map f, ⟨some a, cap, by simp, by simpa using hl, by simpa [maxLen] using hm, ?_, (fun h => by cases h), ?_⟩, ?_⟩
    · intro x hx
      obtain ⟨i, hi, rfl⟩ := List.mem_map.1 hx
      exact hfl i (List.mem_range.1 hi)
    · intro hne
      have hlen : 0 < len := by
        rcases Nat.eq_zero_or_pos len with h | h
        · subst h; simp at hne
        · exact h
      obtain ⟨b, o, sp⟩ := a
      have h0 := hcell 0 hlen 0 ((f 0)[0]'(by rw [hfl 0 hlen]; exact hk)) (List.getElem?_eq_getElem _)
      have hsp : sp = none := by
        have := World.cell?_spot h0
        simpa [Addr.add] using this
      subst hsp
      refine ⟨b, o, rfl, fun i e j x hi hj => ?_⟩
      rw [List.getElem?_map] at hi
      have hil : i < len := by
        rcases Nat.lt_or_ge i len with h | h
        · exact h
        · rw [List.getElem?_eq_none (by simpa using h)] at hi; cases hi
      rw [List.getElem?_range hil] at hi
      cases hi
      have := hcell i hil j x hj
      rw [add_none, add_none] at this
      exact this
    · intro c hc
      obtain ⟨i, hi, rfl⟩ := List.mem_map.1 hc
      exact ⟨n, _, (hf i (List.mem_range.1 hi)).2⟩
/-- each of a list is one's image -/
theorem all_map {α β : Type} {f : α → β} : ∀ {l : List β}, (∀ x ∈ l, ∃ y, x = f y) → ∃ m : List α, l = m.map f
  | [], _ => ⟨[], rfl⟩
  | x :: l, h => by
    obtain ⟨y, rfl⟩ := h x (by simp)
    obtain ⟨m, rfl⟩ := all_map (l := l) (fun z hz => h z (by simp [hz]))
    exact ⟨y :: m, rfl⟩
end
end Go.Proofs.X
set_option linter.unusedVariables false
set_option linter.unusedSimpArgs false
namespace Go.Proofs.X
open Go.RowKit
set_option maxRecDepth 100000
theorem gset {G G' : Prop} (h : G') (e : G = G' := by ((simp only [List.set_cons_succ, List.set_cons_zero, List.getD_cons_succ, List.getD_cons_zero, List.length_map, if_true, Bool.false_eq_true, if_false, Int.toNat_natCast, Int.toNat_zero, Int.toNat_one, Nat.zero_mul, Bool.not_true, Bool.not_false, decide_true, decide_false]); (with_reducible exact rfl))) : G := e.mpr h
theorem extc {w w' : World} (h : Ext w w' := by (repeat (first | (with_reducible assumption) | exact Ext.refl _ | (refine Ext.trans ?_ (by with_reducible assumption))))) : Ext w w' := h
theorem rn {P : Program} {o : Oper} {a : Act} {w : World} {v : Value} (h : Runs P o a w v := by (first | exact Runs.moveT _ | exact Runs.assignT _ | exact Runs.moveC _ | exact Runs.assignC _ | ((apply Runs.pickTC); (rfl)) | ((apply Runs.pickCT); (rfl)) | ((apply Runs.pickT); (rfl)) | ((apply Runs.len); ((first | assumption | (apply Sl.ext; (assumption); (repeat (first | (with_reducible assumption) | exact Ext.refl _ | (refine Ext.trans ?_ (by with_reducible assumption))))))); (decide +kernel)) | ((apply Runs.lenS); (rfl); (decide +kernel)) | ((apply Runs.idxT); (rfl); ((first | assumption | (apply Sl.ext; (assumption); (repeat (first | (with_reducible assumption) | exact Ext.refl _ | (refine Ext.trans ?_ (by with_reducible assumption))))))); ((first | assumption | omega | (simp only [List.length_map, List.length_cons, Int.toNat_natCast, Int.toNat_zero, Int.toNat_one]; omega))); (decide +kernel)) | ((apply Runs.fieldLit); (rfl); (decide +kernel)) | ((apply Runs.fieldTn); ((first | assumption | (apply Pts.ext; (assumption); (repeat (first | (with_reducible assumption) | exact Ext.refl _ | (refine Ext.trans ?_ (by with_reducible assumption))))))); (decide +kernel)) | ((apply Runs.loadP); ((first | rfl | (simp only [List.getD_cons_succ, List.getD_cons_zero]; with_reducible rfl))); ((first | assumption | (apply Pts.ext; (assumption); (repeat (first | (with_reducible assumption) | exact Ext.refl _ | (refine Ext.trans ?_ (by with_reducible assumption))))))); (rfl); (decide +kernel)) | ((apply Runs.load); ((first | assumption | (apply Pts.ext; (assumption); (repeat (first | (with_reducible assumption) | exact Ext.refl _ | (refine Ext.trans ?_ (by with_reducible assumption))))))); (decide +kernel)) | ((apply Runs.loadN); ((first | assumption | (apply Pts.ext; (assumption); (repeat (first | (with_reducible assumption) | exact Ext.refl _ | (refine Ext.trans ?_ (by with_reducible assumption))))))); ((first | (simp only [List.length_cons, List.length_nil, Nat.zero_add, Nat.reduceAdd]; done) | (simp only [List.length_cons, List.length_nil, Nat.zero_add, Nat.reduceAdd]; rfl))); (decide +kernel)) | ((apply Runs.extract); (rfl); (rfl)) | ((apply Runs.not); (rfl)) | ((apply Runs.lss); (rfl); (rfl)) | ((apply Runs.leq); (rfl); (rfl)) | ((apply Runs.gtr); (rfl); (rfl)) | ((apply Runs.geq); (rfl); (rfl)) | ((apply Runs.eql); (rfl); (rfl)) | ((apply Runs.neq); (rfl); (rfl)) | ((apply Runs.inc); (rfl); (rfl); ((first | assumption | omega | (simp only [List.length_map, List.length_cons, Int.toNat_natCast, Int.toNat_zero, Int.toNat_one]; omega)))) | ((apply Runs.add); (rfl); (rfl); ((first | assumption | omega | (simp only [List.length_map, List.length_cons, Int.toNat_natCast, Int.toNat_zero, Int.toNat_one]; omega)))) | ((apply Runs.sub); (rfl); (rfl); ((first | assumption | omega | (simp only [List.length_map, List.length_cons, Int.toNat_natCast, Int.toNat_zero, Int.toNat_one]; omega)))) | ((apply Runs.addU); (rfl); (rfl)) | ((apply Runs.subU); (rfl); (rfl)) | ((apply Runs.eqlS); (rfl); (rfl)) | ((apply Runs.neqS); (rfl); (rfl)) | ((apply Runs.lssS); (rfl); (rfl)) | ((apply Runs.geqS); (rfl); (rfl)) | ((apply Runs.gtrS); (rfl); (rfl)) | ((apply Runs.idxS); (rfl); (rfl); ((first | assumption | omega | (simp only [List.length_map, List.length_cons, Int.toNat_natCast, Int.toNat_zero, Int.toNat_one]; omega))); (decide +kernel)) | ((apply Runs.idxTI); (rfl); ((first | assumption | (apply Sl.ext; (assumption); (repeat (first | (with_reducible assumption) | exact Ext.refl _ | (refine Ext.trans ?_ (by with_reducible assumption))))))); ((first | assumption | omega | (simp only [List.length_map, List.length_cons, Int.toNat_natCast, Int.toNat_zero, Int.toNat_one]; omega))); ((first | assumption | omega | (simp only [List.length_map, List.length_cons, Int.toNat_natCast, Int.toNat_zero, Int.toNat_one]; omega))); (decide +kernel)) | ((apply Runs.idxSI); (rfl); (rfl); ((first | assumption | omega | (simp only [List.length_map, List.length_cons, Int.toNat_natCast, Int.toNat_zero, Int.toNat_one]; omega))); ((first | assumption | omega | (simp only [List.length_map, List.length_cons, Int.toNat_natCast, Int.toNat_zero, Int.toNat_one]; omega))); (decide +kernel)) | ((apply Runs.convB); (rfl); (decide +kernel); (decide +kernel)) | ((apply Runs.cutSI); (rfl); (rfl); (rfl); ((first | assumption | omega | (simp only [List.length_map, List.length_cons, Int.toNat_natCast, Int.toNat_zero, Int.toNat_one]; omega))); ((first | assumption | omega | (simp only [List.length_map, List.length_cons, Int.toNat_natCast, Int.toNat_zero, Int.toNat_one]; omega))); ((first | assumption | omega | (simp only [List.length_map, List.length_cons, Int.toNat_natCast, Int.toNat_zero, Int.toNat_one]; omega))); (decide +kernel)) | ((apply Runs.dropSI); (rfl); (rfl); ((first | assumption | omega | (simp only [List.length_map, List.length_cons, Int.toNat_natCast, Int.toNat_zero, Int.toNat_one]; omega))); ((first | assumption | omega | (simp only [List.length_map, List.length_cons, Int.toNat_natCast, Int.toNat_zero, Int.toNat_one]; omega))); (decide +kernel)) | ((apply Runs.takeSI); (rfl); (rfl); ((first | assumption | omega | (simp only [List.length_map, List.length_cons, Int.toNat_natCast, Int.toNat_zero, Int.toNat_one]; omega))); ((first | assumption | omega | (simp only [List.length_map, List.length_cons, Int.toNat_natCast, Int.toNat_zero, Int.toNat_one]; omega))); (decide +kernel)) | ((apply Runs.cutTI); (rfl); (rfl); ((first | assumption | (apply Sl.ext; (assumption); (repeat (first | (with_reducible assumption) | exact Ext.refl _ | (refine Ext.trans ?_ (by with_reducible assumption))))))); ((first | assumption | omega | (simp only [List.length_map, List.length_cons, Int.toNat_natCast, Int.toNat_zero, Int.toNat_one]; omega))); ((first | assumption | omega | (simp only [List.length_map, List.length_cons, Int.toNat_natCast, Int.toNat_zero, Int.toNat_one]; omega))); ((first | assumption | omega | (simp only [List.length_map, List.length_cons, Int.toNat_natCast, Int.toNat_zero, Int.toNat_one]; omega))); (decide +kernel)) | ((apply Runs.dropTI); (rfl); ((first | assumption | (apply Sl.ext; (assumption); (repeat (first | (with_reducible assumption) | exact Ext.refl _ | (refine Ext.trans ?_ (by with_reducible assumption))))))); ((first | assumption | omega | (simp only [List.length_map, List.length_cons, Int.toNat_natCast, Int.toNat_zero, Int.toNat_one]; omega))); ((first | assumption | omega | (simp only [List.length_map, List.length_cons, Int.toNat_natCast, Int.toNat_zero, Int.toNat_one]; omega))); (decide +kernel)) | ((apply Runs.takeTI); (rfl); ((first | assumption | (apply Sl.ext; (assumption); (repeat (first | (with_reducible assumption) | exact Ext.refl _ | (refine Ext.trans ?_ (by with_reducible assumption))))))); ((first | assumption | omega | (simp only [List.length_map, List.length_cons, Int.toNat_natCast, Int.toNat_zero, Int.toNat_one]; omega))); ((first | assumption | omega | (simp only [List.length_map, List.length_cons, Int.toNat_natCast, Int.toNat_zero, Int.toNat_one]; omega))); (decide +kernel)) | ((apply Runs.shr); (rfl); (rfl); (decide +kernel); (decide +kernel)) | ((apply Runs.shl8); (rfl); (rfl); ((first | assumption | omega | (simp only [List.length_map, List.length_cons, Int.toNat_natCast, Int.toNat_zero, Int.toNat_one]; omega)))) | ((apply Runs.or8); (rfl); (rfl); ((first | assumption | omega | (simp only [List.length_map, List.length_cons, Int.toNat_natCast, Int.toNat_zero, Int.toNat_one]; omega))); ((first | assumption | omega | (simp only [List.length_map, List.length_cons, Int.toNat_natCast, Int.toNat_zero, Int.toNat_one]; omega)))) | ((apply Runs.mul); (rfl); (rfl); ((first | assumption | omega | (simp only [List.length_map, List.length_cons, Int.toNat_natCast, Int.toNat_zero, Int.toNat_one]; omega)))) | exact Runs.func1 | exact Runs.func0 | ((apply Runs.nilS); ((first | assumption | (apply Sl.ext; (assumption); (repeat (first | (with_reducible assumption) | exact Ext.refl _ | (refine Ext.trans ?_ (by with_reducible assumption))))))); (decide +kernel)) | ((apply Runs.nilP); (rfl)) | ((apply Runs.nilPts); ((first | assumption | (apply Pts.ext; (assumption); (repeat (first | (with_reducible assumption) | exact Ext.refl _ | (refine Ext.trans ?_ (by with_reducible assumption)))))))) | ((apply Runs.minI); (rfl); (rfl)) | ((apply Runs.strOf (e := 5)); ((first | assumption | (apply Sl.ext; (assumption); (repeat (first | (with_reducible assumption) | exact Ext.refl _ | (refine Ext.trans ?_ (by with_reducible assumption))))))); (decide +kernel); (decide +kernel)) | ((apply Runs.addS); (rfl); (rfl); ((first | omega | (simp only [List.length_append, List.length_cons, List.length_nil]; omega)))) | ((apply Runs.convU); (rfl); (decide +kernel); (decide +kernel)) | ((apply Runs.convS); (rfl); (decide +kernel); (decide +kernel)))) : Runs P o a w v := h
/-- one operation ahead of others: a name that hides what it comes to -/
structure St (P : Program) (ops : Array Oper) (Q : Exit → Act → World → Prop) (rest : List Oper) (o : Oper) (ts : List Value) (df : List Deferred) (w : World) : Prop where
  out : wpList P ops Q (o :: rest) (Act.mk ts.toArray df) w
section
variable {P : Program} {ops : Array Oper} {Q : Exit → Act → World → Prop} {rest : List Oper} {o : Oper} {ts ts' t1 t0 : List Value} {df : List Deferred} {w : World} {d e j : Nat} {op : Op} {ty : TypeId} {ps : String} {af : Array Edge} {b want : Bool} {v : Value} {p1 p0 : Prop}
theorem o_s (h : St P ops Q rest o ts df w) : wpList P ops Q (o :: rest) (Act.mk ts.toArray df) w := h.out
/-- some value comes of it, and with that value the slots are so -/
inductive SR (P : Program) (o : Oper) (ts : List Value) (df : List Deferred) (w : World) (d : Nat) (ts' : List Value) : Prop
  | mk {v : Value} (h1 : Runs P o (Act.mk ts.toArray df) w v) (h2 : ts.set d v = ts') : SR P o ts df w d ts'
/-- one operation without a guard -/
structure S1 (P : Program) (ops : Array Oper) (Q : Exit → Act → World → Prop) (rest : List Oper) (d : Nat) (op : Op) (ty : TypeId) (ps : String) (af : Array Edge) (ts : List Value) (df : List Deferred) (w : World) : Prop where
  out : St P ops Q rest (Oper.mk (some d) op ty ps af none) ts df w
/-- one with a guard -/
structure G1 (P : Program) (ops : Array Oper) (Q : Exit → Act → World → Prop) (rest : List Oper) (dd : Option Nat) (op : Op) (ty : TypeId) (ps : String) (af : Array Edge) (j : Nat) (want : Bool) (ts : List Value) (df : List Deferred) (w : World) : Prop where
  out : St P ops Q rest (Oper.mk dd op ty ps af (some (j, want))) ts df w
theorem o_1 (h : S1 P ops Q rest d op ty ps af ts df w) : St P ops Q rest (Oper.mk (some d) op ty ps af none) ts df w := h.out
theorem o_g {dd : Option Nat} (h : G1 P ops Q rest dd op ty ps af j want ts df w) : St P ops Q rest (Oper.mk dd op ty ps af (some (j, want))) ts df w := h.out
theorem o_2 (h : wpList P ops Q rest (Act.mk ts'.toArray df) w) (hr : SR P (Oper.mk (some d) op ty ps af none) ts df w d ts' := by (apply SR.mk; (exact rn); (((simp only [List.set_cons_succ, List.set_cons_zero, List.getD_cons_succ, List.getD_cons_zero, List.length_map, if_true, Bool.false_eq_true, if_false, Int.toNat_natCast, Int.toNat_zero, Int.toNat_one, Nat.zero_mul, Bool.not_true, Bool.not_false, decide_true, decide_false]); (with_reducible exact rfl))))) :
    S1 P ops Q rest d op ty ps af ts df w := by obtain ⟨hr, e⟩ := hr; exact ⟨⟨wpl_run0 hr (e ▸ h)⟩⟩
theorem o_u {dd : Option Nat} (h : wpList P ops Q (Oper.mk dd op ty ps af none :: rest) (Act.mk ts.toArray df) w) (h1 : (ops[j]?).bind (·.dst) = some e := by rfl) (h2 : ts.getD e undef = .bool b := by rfl) (h3 : b = want := by (with_reducible rfl)) :
    G1 P ops Q rest dd op ty ps af j want ts df w := ⟨⟨wpl_guardG h1 h2 (fun _ => h) (fun h' => (by rw [h3] at h'; cases want <;> cases h'))⟩⟩
theorem o_k (h : wpList P ops Q rest (Act.mk ts'.toArray df) w) (h1 : (ops[j]?).bind (·.dst) = some e := by rfl) (h2 : ts.getD e undef = .bool b := by rfl) (h3 : b = !want := by (first | (with_reducible exact (rfl : true = !false)) | (with_reducible exact (rfl : false = !true)) | (exact Bool.not_false.symm) | (exact Bool.not_true.symm))) (e : ts.set d undef = ts' := by ((simp only [List.set_cons_succ, List.set_cons_zero, List.getD_cons_succ, List.getD_cons_zero, List.length_map, if_true, Bool.false_eq_true, if_false, Int.toNat_natCast, Int.toNat_zero, Int.toNat_one, Nat.zero_mul, Bool.not_true, Bool.not_false, decide_true, decide_false]); (with_reducible exact rfl))) :
    G1 P ops Q rest (some d) op ty ps af j want ts df w := ⟨⟨wpl_skipG h1 h2 h3 (e ▸ h)⟩⟩
theorem o_v (h : wpList P ops Q rest (Act.mk ts'.toArray df) w) (h1 : (ops[j]?).bind (·.dst) = some e := by rfl) (h2 : ts.getD e undef = undef := by rfl) (e : ts.set d undef = ts' := by ((simp only [List.set_cons_succ, List.set_cons_zero, List.getD_cons_succ, List.getD_cons_zero, List.length_map, if_true, Bool.false_eq_true, if_false, Int.toNat_natCast, Int.toNat_zero, Int.toNat_one, Nat.zero_mul, Bool.not_true, Bool.not_false, decide_true, decide_false]); (with_reducible exact rfl))) :
    G1 P ops Q rest (some d) op ty ps af j want ts df w := ⟨⟨wpl_sU ⟨h1, h2⟩ (e ▸ h)⟩⟩
theorem o_n (h : wpList P ops Q rest (Act.mk ts.toArray df) w) (h1 : (ops[j]?).bind (·.dst) = some e := by rfl) (h2 : ts.getD e undef = .bool b := by rfl) (h3 : b = !want := by (first | (with_reducible exact (rfl : true = !false)) | (with_reducible exact (rfl : false = !true)) | (exact Bool.not_false.symm) | (exact Bool.not_true.symm))) :
    G1 P ops Q rest none op ty ps af j want ts df w := ⟨⟨wpl_gN (GV.mk h1 h2 ⟨fun h' => (by rw [h3] at h'; cases want <;> cases h'), fun _ => h⟩)⟩⟩
theorem o_G (k1 : p1 → wpList P ops Q (Oper.mk (some d) op ty ps af none :: rest) (Act.mk t1.toArray df) w) (k0 : p0 → wpList P ops Q rest (Act.mk t0.toArray df) w)
    (h1 : (ops[j]?).bind (·.dst) = some e := by rfl) (h2 : ts.getD e undef = .bool b := by rfl) (hp1 : (b = want) = p1 := by ((first | (simp only [decide_eq_true_eq, decide_eq_false_iff_not, Bool.not_true, Bool.not_false]; (with_reducible exact rfl)) | (with_reducible exact rfl)))) (hp0 : (b = !want) = p0 := by ((first | (simp only [decide_eq_true_eq, decide_eq_false_iff_not, Bool.not_true, Bool.not_false]; (with_reducible exact rfl)) | (with_reducible exact rfl))))
    (e1 : b = want → ts = t1 := by (intro hcW; (try simp only [hcW, Bool.not_true, Bool.not_false]); (try simp only [List.set_cons_succ, List.set_cons_zero, List.getD_cons_succ, List.getD_cons_zero, List.length_map, if_true, Bool.false_eq_true, if_false, Int.toNat_natCast, Int.toNat_zero, Int.toNat_one, Nat.zero_mul, Bool.not_true, Bool.not_false, decide_true, decide_false]); (with_reducible exact rfl))) (e0 : b = !want → ts.set d undef = t0 := by (intro hcW; (try simp only [hcW, Bool.not_true, Bool.not_false]); (try simp only [List.set_cons_succ, List.set_cons_zero, List.getD_cons_succ, List.getD_cons_zero, List.length_map, if_true, Bool.false_eq_true, if_false, Int.toNat_natCast, Int.toNat_zero, Int.toNat_one, Nat.zero_mul, Bool.not_true, Bool.not_false, decide_true, decide_false]); (with_reducible exact rfl))) : G1 P ops Q rest (some d) op ty ps af j want ts df w :=
  ⟨⟨wpl_gG ⟨h1, h2, fun h => e1 h ▸ k1 (hp1 ▸ h), fun h => e0 h ▸ k0 (hp0 ▸ h)⟩⟩⟩
theorem o_N (k1 : p1 → wpList P ops Q (Oper.mk none op ty ps af none :: rest) (Act.mk t1.toArray df) w) (k0 : p0 → wpList P ops Q rest (Act.mk t0.toArray df) w)
    (h1 : (ops[j]?).bind (·.dst) = some e := by rfl) (h2 : ts.getD e undef = .bool b := by rfl) (hp1 : (b = want) = p1 := by ((first | (simp only [decide_eq_true_eq, decide_eq_false_iff_not, Bool.not_true, Bool.not_false]; (with_reducible exact rfl)) | (with_reducible exact rfl)))) (hp0 : (b = !want) = p0 := by ((first | (simp only [decide_eq_true_eq, decide_eq_false_iff_not, Bool.not_true, Bool.not_false]; (with_reducible exact rfl)) | (with_reducible exact rfl))))
    (e1 : b = want → ts = t1 := by (intro hcW; (try simp only [hcW, Bool.not_true, Bool.not_false]); (try simp only [List.set_cons_succ, List.set_cons_zero, List.getD_cons_succ, List.getD_cons_zero, List.length_map, if_true, Bool.false_eq_true, if_false, Int.toNat_natCast, Int.toNat_zero, Int.toNat_one, Nat.zero_mul, Bool.not_true, Bool.not_false, decide_true, decide_false]); (with_reducible exact rfl))) (e0 : b = !want → ts = t0 := by (intro hcW; (try simp only [hcW, Bool.not_true, Bool.not_false]); (try simp only [List.set_cons_succ, List.set_cons_zero, List.getD_cons_succ, List.getD_cons_zero, List.length_map, if_true, Bool.false_eq_true, if_false, Int.toNat_natCast, Int.toNat_zero, Int.toNat_one, Nat.zero_mul, Bool.not_true, Bool.not_false, decide_true, decide_false]); (with_reducible exact rfl))) : G1 P ops Q rest none op ty ps af j want ts df w :=
  ⟨⟨wpl_gN ⟨h1, h2, fun h => e1 h ▸ k1 (hp1 ▸ h), fun h => e0 h ▸ k0 (hp0 ▸ h)⟩⟩⟩
structure Sq (P : Program) (ops : Array Oper) (C : World → Prop) (QQ : Act → Prop) (rest : List Oper) (o : Oper) (ts : List Value) (df : List Deferred) : Prop where
  out : wpQuiet P ops C QQ (o :: rest) (Act.mk ts.toArray df)
structure Q1 (P : Program) (ops : Array Oper) (C : World → Prop) (QQ : Act → Prop) (rest : List Oper) (d : Nat) (op : Op) (ty : TypeId) (ps : String) (af : Array Edge) (ts : List Value) (df : List Deferred) : Prop where
  out : Sq P ops C QQ rest (Oper.mk (some d) op ty ps af none) ts df
structure QG (P : Program) (ops : Array Oper) (C : World → Prop) (QQ : Act → Prop) (rest : List Oper) (d : Nat) (op : Op) (ty : TypeId) (ps : String) (af : Array Edge) (j : Nat) (want : Bool) (ts : List Value) (df : List Deferred) : Prop where
  out : Sq P ops C QQ rest (Oper.mk (some d) op ty ps af (some (j, want))) ts df
inductive SRq (P : Program) (o : Oper) (ts : List Value) (df : List Deferred) (C : World → Prop) (d : Nat) (ts' : List Value) : Prop
  | mk {v : Value} (h1 : ∀ w, C w → Runs P o (Act.mk ts.toArray df) w v) (h2 : ts.set d v = ts') : SRq P o ts df C d ts'
variable {C : World → Prop} {QQ : Act → Prop}
theorem q_s (h : Sq P ops C QQ rest o ts df) : wpQuiet P ops C QQ (o :: rest) (Act.mk ts.toArray df) := h.out
theorem q_1 (h : Q1 P ops C QQ rest d op ty ps af ts df) : Sq P ops C QQ rest (Oper.mk (some d) op ty ps af none) ts df := h.out
theorem q_g (h : QG P ops C QQ rest d op ty ps af j want ts df) : Sq P ops C QQ rest (Oper.mk (some d) op ty ps af (some (j, want))) ts df := h.out
theorem q_2 (h : wpQuiet P ops C QQ rest (Act.mk ts'.toArray df)) (hr : SRq P (Oper.mk (some d) op ty ps af none) ts df C d ts' := by (apply SRq.mk; (intro _ _; exact rn); (((simp only [List.set_cons_succ, List.set_cons_zero, List.getD_cons_succ, List.getD_cons_zero, List.length_map, if_true, Bool.false_eq_true, if_false, Int.toNat_natCast, Int.toNat_zero, Int.toNat_one, Nat.zero_mul, Bool.not_true, Bool.not_false, decide_true, decide_false]); (with_reducible exact rfl))))) : Q1 P ops C QQ rest d op ty ps af ts df := by
  obtain ⟨hr, e⟩ := hr; exact ⟨⟨wpq_run0 hr (e ▸ h)⟩⟩
theorem q_u (h : wpQuiet P ops C QQ (Oper.mk (some d) op ty ps af none :: rest) (Act.mk ts.toArray df)) (h1 : (ops[j]?).bind (·.dst) = some e := by rfl) (h2 : ts.getD e undef = .bool b := by rfl) (h3 : b = want := by (with_reducible rfl)) : QG P ops C QQ rest d op ty ps af j want ts df := by
  refine ⟨⟨?_⟩⟩
  have hw := wanted_yes (op := op) (ty := ty) (ps := ps) (af := af) (o := some d) h1 h2 h3
  unfold wpQuiet at h ⊢
  rw [if_pos hw]
  rw [if_pos (by simp [Region.wanted])] at h
  exact h
theorem q_k (h : wpQuiet P ops C QQ rest (Act.mk ts'.toArray df)) (h1 : (ops[j]?).bind (·.dst) = some e := by rfl) (h2 : ts.getD e undef = .bool b := by rfl) (h3 : b = !want := by (first | (with_reducible exact (rfl : true = !false)) | (with_reducible exact (rfl : false = !true)) | (exact Bool.not_false.symm) | (exact Bool.not_true.symm))) (e : ts.set d undef = ts' := by ((simp only [List.set_cons_succ, List.set_cons_zero, List.getD_cons_succ, List.getD_cons_zero, List.length_map, if_true, Bool.false_eq_true, if_false, Int.toNat_natCast, Int.toNat_zero, Int.toNat_one, Nat.zero_mul, Bool.not_true, Bool.not_false, decide_true, decide_false]); (with_reducible exact rfl))) : QG P ops C QQ rest d op ty ps af j want ts df :=
  ⟨⟨wpq_skipG h1 h2 h3 (e ▸ h)⟩⟩
theorem q_v (h : wpQuiet P ops C QQ rest (Act.mk ts'.toArray df)) (h1 : (ops[j]?).bind (·.dst) = some e := by rfl) (h2 : ts.getD e undef = undef := by rfl) (e : ts.set d undef = ts' := by ((simp only [List.set_cons_succ, List.set_cons_zero, List.getD_cons_succ, List.getD_cons_zero, List.length_map, if_true, Bool.false_eq_true, if_false, Int.toNat_natCast, Int.toNat_zero, Int.toNat_one, Nat.zero_mul, Bool.not_true, Bool.not_false, decide_true, decide_false]); (with_reducible exact rfl))) : QG P ops C QQ rest d op ty ps af j want ts df :=
  ⟨⟨wpq_skip (wanted_un ⟨h1, h2⟩) (e ▸ h)⟩⟩
theorem q_n {a : Act} (h : QQ a) : wpQuiet P ops C QQ [] a := wpq_nil h
end
section
variable {P : Program} {Q : Exit → Act → World → Prop} {S : World → Prop} {l : List Oper} {ts : List Value} {df : List Deferred} {d : Nat} {ty : TypeId} {ps : String} {af : Array Edge} {g : Option (Nat × Bool)} {w : World} {fuel : Nat} {listed : List Bool}
theorem tk (i : Nat) {fuel2 : Nat} {op : Op} {v : Value} (h : wpAnyH P .any l.toArray Q S fuel (listed.set i true).toArray (Act.mk (ts.set d v).toArray df) w)
    (hi : l[i]? = some (Oper.mk (some d) op ty ps af g) := by rfl) (hfu : fuel2 = fuel + 1 := by rfl) (hs : Region.noSelect l.toArray = true := by decide +kernel) (hf : Region.free .any l.toArray listed.toArray i = true := by decide +kernel) (hr : (Region.ready .any l.toArray listed.toArray).contains i = true := by decide +kernel)
    (hw : Region.wanted (Oper.mk (some d) op ty ps af g) (yielded l.toArray ts.toArray) = true := by rfl) (hS : S w := by (repeat (first | (with_reducible assumption) | exact Ext.refl _ | (refine Ext.trans ?_ (by with_reducible assumption)))))
    (hy : ∀ w', S w' → Runs P (Oper.mk (some d) op ty ps af g) (Act.mk ts.toArray df) w' v := by (intro _ _; exact rn)) (hQ : ∀ c a w, Q (.panic c) (a.put (some d) v) w → Q (.panic c) a w := by exact fun _ _ _ h => h) : wpAnyH P .any l.toArray Q S fuel2 listed.toArray (Act.mk ts.toArray df) w :=
  wph_take hi hfu hs hf hr hw hS hy hQ h
theorem tsk (i : Nat) {fuel2 : Nat} {op : Op} (h : wpAnyH P .any l.toArray Q S fuel (listed.set i true).toArray (Act.mk (ts.set d undef).toArray df) w)
    (hi : l[i]? = some (Oper.mk (some d) op ty ps af g) := by rfl) (hfu : fuel2 = fuel + 1 := by rfl) (hs : Region.noSelect l.toArray = true := by decide +kernel) (hf : Region.free .any l.toArray listed.toArray i = true := by decide +kernel) (hr : (Region.ready .any l.toArray listed.toArray).contains i = true := by decide +kernel)
    (hQ : ∀ c a w, Q (.panic c) (a.put (some d) undef) w → Q (.panic c) a w := by exact fun _ _ _ h => h) (hw : Region.wanted (Oper.mk (some d) op ty ps af g) (yielded l.toArray ts.toArray) = false := by rfl) (hS : S w := by (repeat (first | (with_reducible assumption) | exact Ext.refl _ | (refine Ext.trans ?_ (by with_reducible assumption))))) : wpAnyH P .any l.toArray Q S fuel2 listed.toArray (Act.mk ts.toArray df) w :=
  wph_skip hi hfu hs hf hr hQ hw hS h
end
end Go.Proofs.X
set_option linter.unusedSimpArgs false
set_option linter.unusedVariables false
namespace Go.Proofs.X
open Go.RowKit
set_option maxRecDepth 100000
def cellLen (w : World) (b : Nat) : Nat := match w.cell? ⟨b, 0, none⟩ with | some (.string s) => s.size | _ => 0
theorem cellLen_eq {w : World} {b : Nat} {l : List UInt8} {t : TypeId} {fr : Nat × Nat} (h : w.heap[b]? = some (.cells #[str l] t fr)) : cellLen w b = l.length := by
  unfold cellLen
  rw [cell_of_row w b 0 _ t fr h]
  simp [str, size_mk, -ByteArray.size_data]

/-- what a round answers: J is what the caller keeps between rounds, Jx what is so when it has left -/
def YieldOk (P : Program) (l b : Nat) (lp : Loop) (J : List (List UInt8) → World → Prop) (Jx : World → Prop) : Prop :=
  (∀ pre x rest W, pre.length < 254 → J pre W → W.heap[b]? = some (.cells #[str rest] 31 (0, 0)) → RoundIn Fence.wide 0 P l lp.fn ((lp.params.zip #[str x, .bool true]).foldl (fun tmps (t, a) => tmps.setIfInBounds t a) lp.tmps) lp.assign lp.body W
     fun e W' => e = .returned (.bool true) ∧ J (pre ++ [x]) W' ∧ W'.heap[b]? = some (.cells #[str rest] 31 (0, 0))) ∧
  (∀ pre W, J pre W → RoundIn Fence.wide 0 P l lp.fn ((lp.params.zip #[str [], .bool false]).foldl (fun tmps (t, a) => tmps.setIfInBounds t a) lp.tmps) lp.assign lp.body W fun e W' => e = .returned (.bool false) ∧ Jx W')
set_option maxHeartbeats 1000000 in
theorem t73 (l b : Nat) (lp : Loop) (J : List (List UInt8) → World → Prop) (Jx : World → Prop) (hp : lp.params.size = 2) (hL : ∀ pre W, J pre W → W.heap[l]? = some (.loop lp))
    (hput : ∀ pre W W' o, J pre W → Put W W' b o → J pre W') (hy : YieldOk Tryz.prog l b lp J Jx) (nm : List UInt8) (w : World) (h0 : J [] w) (hb : w.heap[b]? = some (.cells #[str nm] 31 (0, 0))) (hlen : nm.length ≤ 254) :
    Calls Tryz.prog 151 #[.func (.yield l) #[] #[], .pointer (some ⟨b, 0, none⟩)] w fun e w' => e = .returned (.tuple #[]) ∧ match parse nm with | some ls => J ls w' | none => Jx w' := by
  go_enter Tryz.func151, Tryz.ntmps151
  iterate 2 go_step
  go_loopw [3] (fun _ wr => ∃ pre rest, J pre wr ∧ wr.heap[b]? = some (.cells #[str rest] 31 (0, 0)) ∧ pre.length + rest.length ≤ 254 ∧ parse nm = (parse rest).map (pre ++ ·)) (fun _ wr => cellLen wr b)
  case atStart => exact ⟨[], nm, h0, hb, by simpa using hlen, by simp⟩
  case round =>
    obtain ⟨pre, rest, hJ, hbr, hrl, hpar⟩ := hrel
    have hc := pts_block (cs := [str rest]) hbr
    cases rest with
    | nil =>
      repeat' (first | ((with_reducible refine o_s ?_); (first | (refine o_1 ?_; refine o_2 ?_) | (refine o_g ?_; first | refine o_u ?_ | refine o_k ?_ | refine o_n ?_ | refine o_v ?_ | ((first | refine o_G ?_ ?_ | refine o_N ?_ ?_) <;> intro hc)))) | ((fail_if_success (with_reducible refine o_s ?_)); go_step))
      refine bodyPost_end (results_none rfl _ _ _) rfl ⟨rfl, ?_⟩
      rw [hpar, parse_nil]
      simpa using hJ
    | cons k t =>
      have hk : k.toNat < 256 := k.toNat_lt
      have hlt : t.length ≤ 253 := by simp only [List.length_cons] at hrl; omega
      have hfalse : (k.toNat < 1 ∨ 63 < k.toNat ∨ t.length < k.toNat) → parse nm = none := by
        intro h
        rw [hpar, parse_cons, if_pos h]; rfl
      have htrue : ¬ (k.toNat < 1 ∨ 63 < k.toNat ∨ t.length < k.toNat) → parse nm = (parse (t.drop k.toNat)).map ((pre ++ [t.take k.toNat]) ++ ·) := by
        intro h
        rw [hpar, parse_cons, if_neg h, Option.map_map]
        congr 1
        funext x
        simp
      have Hp := Lib.hid hpar
      clear hpar
      repeat' (first | (refine wp_region_in (id := 3) ?_) | (refine wp_region_in (id := 4) ?_) | ((with_reducible apply wplI_run); (rfl); exact rn; refine gset ?_) | (with_reducible (apply wplI_nil)) | ((with_reducible refine o_s ?_); (first | (refine o_1 ?_; refine o_2 ?_) | (refine o_g ?_; first | refine o_u ?_ | refine o_k ?_ | refine o_n ?_ | refine o_v ?_ | ((first | refine o_G ?_ ?_ | refine o_N ?_ ?_) <;> intro hc)))) | ((fail_if_success (with_reducible refine o_s ?_)); go_step))
      rotate_left
      · refine wplI_yield (lp := lp) rfl rfl rfl (hL _ _ hJ) (by simp [hp]) (hy.1 _ _ _ _ (by simp only [List.length_cons] at hrl; omega) hJ hbr) ?_
        rintro e W' ⟨rfl, hJ', hb'⟩
        refine ⟨_, rfl, ?_⟩
        simp only [List.set_cons_succ, List.set_cons_zero]
        rw [show List.drop 1 (List.take (k.toNat + 1) (k :: t)) = t.take k.toNat by simp] at hJ'
        have hc2 := pts_block (cs := [str (k :: t)]) hb'
        clear hJ
        have hlt2 : k.toNat ≤ t.length := by simp only [List.length_cons] at *; omega
        repeat' (first | (refine wp_region_in (id := 3) ?_) | (refine wp_region_in (id := 4) ?_) | ((with_reducible apply wplI_run); (rfl); exact rn; refine gset ?_) | (with_reducible (apply wplI_nil)) | ((with_reducible refine o_s ?_); (first | (refine o_1 ?_; refine o_2 ?_) | (refine o_g ?_; first | refine o_u ?_ | refine o_k ?_ | refine o_n ?_ | refine o_v ?_ | ((first | refine o_G ?_ ?_ | refine o_N ?_ ?_) <;> intro hc)))) | ((fail_if_success (with_reducible refine o_s ?_)); go_step))
        refine wpl_store1 (v := str (List.drop (k.toNat + 1) (k :: t))) rfl rfl rfl hb' (by decide +kernel) rfl ?_
        intro W2 hput2
        repeat' (first | ((with_reducible refine o_s ?_); (first | (refine o_1 ?_; refine o_2 ?_) | (refine o_g ?_; first | refine o_u ?_ | refine o_k ?_ | refine o_n ?_ | refine o_v ?_ | ((first | refine o_G ?_ ?_ | refine o_N ?_ ?_) <;> intro hc)))) | ((fail_if_success (with_reducible refine o_s ?_)); go_step))
        have hb2 := hput2.this
        have hJ2 := hput _ _ _ _ hJ' hput2
        have hd : List.drop (k.toNat + 1) (k :: t) = t.drop k.toNat := by simp
        go_roundw
        case rel => exact ⟨pre ++ [t.take k.toNat], t.drop k.toNat, hJ2, by rw [← hd]; exact hb2, by simp at hrl ⊢; omega, htrue (by omega)⟩
        case measure =>
          rw [cellLen_eq hb2, cellLen_eq hbr]
          simp; omega
      all_goals
        refine wplI_yield (lp := lp) rfl rfl rfl (hL _ _ hJ) (by simp [hp]) (hy.2 _ _ hJ) ?_
        rintro e W' ⟨rfl, hx⟩
        refine ⟨_, rfl, ?_⟩
        simp only [List.set_cons_succ, List.set_cons_zero]
        repeat' (first | (refine wp_region_in (id := 3) ?_) | (refine wp_region_in (id := 4) ?_) | ((with_reducible apply wplI_run); (rfl); exact rn; refine gset ?_) | (with_reducible (apply wplI_nil)) | ((with_reducible refine o_s ?_); (first | (refine o_1 ?_; refine o_2 ?_) | (refine o_g ?_; first | refine o_u ?_ | refine o_k ?_ | refine o_n ?_ | refine o_v ?_ | ((first | refine o_G ?_ ?_ | refine o_N ?_ ?_) <;> intro hc)))) | ((fail_if_success (with_reducible refine o_s ?_)); go_step))
        refine bodyPost_ret (results_none rfl _ _ _) rfl ⟨rfl, ?_⟩
        rw [hfalse (by simp only [List.length_cons] at *; omega)]
        exact hx

end Go.Proofs.X
set_option linter.unusedSimpArgs false
set_option linter.unusedVariables false
namespace Go.Proofs.X
open Go.RowKit
set_option maxRecDepth 100000
theorem t40 (nm : List UInt8) (w : World) : Calls Tryz.prog 116 #[str nm] w fun e w' => e = .returned (.func (.func 151) #[] #[.pointer (some ⟨w.heap.size, 0, none⟩)]) ∧ Ext w w' ∧ w'.heap.size = w.heap.size + 1 ∧ w'.heap[w.heap.size]? = some (.cells #[str nm] 31 (0, 0)) := by
  go_enter Tryz.func116, Tryz.ntmps116
  repeat' ((fail_if_success (with_reducible refine o_s ?_)); go_step)
  refine wpl_boxB (vs := [str nm]) rfl rfl ?_
  intro w1 x1 s1 h1
  refine gset ?_
  repeat' (first | ((with_reducible refine o_s ?_); (first | (refine o_1 ?_; refine o_2 ?_) | (refine o_g ?_; first | refine o_u ?_ | refine o_k ?_ | refine o_n ?_ | refine o_v ?_ | ((first | refine o_G ?_ ?_ | refine o_N ?_ ?_) <;> intro hc)))) | ((fail_if_success (with_reducible refine o_s ?_)); go_step))
  go_ret
  exact ⟨rfl, x1, s1, h1⟩
def tcells (ls : List (List UInt8)) : List (List Value) := ls.map fun x => [str x]
/-- between two rounds of cut's loop -/
structure CutMid (w : World) (s : Nat) (lp : Loop) (pre : List (List UInt8)) (W : World) : Prop where
  ext : Ext w W
  hs : w.heap.size = s
  c0 : W.heap[s]? = some (.cells #[.slice none 0 0] 33 (0, 0))
  c1 : W.heap[s + 1]? = some (.cells #[.bool false] 4 (0, 0))
  loc : ∃ v, W.heap[s + 2]? = some (.cells #[v] 33 (0, 0)) ∧ Own (s + 6) 1 9 W v (tcells pre)
  df : W.heap[s + 4]? = some (.deferred (some []))
  lp : W.heap[s + 5]? = some (.loop lp)
  size : s + 6 ≤ W.heap.size
structure CutOut (w : World) (s : Nat) (lp : Loop) (W : World) : Prop where
  ext : Ext w W
  hs : w.heap.size = s
  c0 : W.heap[s]? = some (.cells #[.slice none 0 0] 33 (0, 0))
  c1 : W.heap[s + 1]? = some (.cells #[.bool false] 4 (0, 0))
  df : W.heap[s + 4]? = some (.deferred (some []))
  lp : W.heap[s + 5]? = some (.loop { lp with state := .done, pending := some .ret })
theorem CutMid.put {w : World} {s : Nat} {lp : Loop} {pre : List (List UInt8)} {W W' : World} (h : CutMid w s lp pre W) {o : Obj} (hp : Put W W' (s + 3) o) : CutMid w s lp pre W' := by
  have hm := hp.mv
  have ne : ∀ k, k ≠ s + 3 → some k ≠ some (s + 3) := fun k hk e => hk (Option.some.inj e)
  obtain ⟨v, hv, ho⟩ := h.loc
  refine ⟨h.ext.move hm (by rintro k ⟨⟩; have := h.hs; omega), h.hs, hm.at h.c0 (ne _ (by omega)), hm.at h.c1 (ne _ (by omega)), ⟨v, hm.at hv (ne _ (by omega)), ho.mv hm ?_⟩, hm.at h.df (ne _ (by omega)), hm.at h.lp (ne _ (by omega)), Nat.le_trans h.size hm.size⟩
  cases hb : v.ownBlock with
  | none => exact .inl rfl
  | some r => have := ho.block r hb; exact .inr (ne r (by omega))
set_option maxHeartbeats 1000000 in
theorem t28 (nm : List UInt8) (w : World) : Calls Tryz.prog 83 #[str nm] w (Ret w fun v w' => match labels nm with
    | some ls => ∃ s, v = .tuple #[s, .bool true] ∧ Own w.heap.size 1 9 w' s (tcells ls)
    | none => v = .tuple #[.slice none 0 0, .bool false]) := by
  refine calls_of_wp_marks Tryz.func83 rfl ?_
  simp only [Tryz.ntmps83, List.size_toArray, List.length_cons, List.length_nil, Nat.reduceAdd, Nat.reduceSub, Array.replicate_succ, Array.replicate_zero, List.push_toArray, List.append_toArray, List.nil_append, List.cons_append]
  repeat' ((fail_if_success (with_reducible refine o_s ?_)); go_step)
  refine wpl_allocB (z := [.slice none 0 0]) rfl (by decide +kernel) ?_
  intro w1 x1 s1 h1
  refine gset ?_
  refine wpl_allocB (z := [.bool false]) rfl (by decide +kernel) ?_
  intro w2 x2 s2 h2
  refine gset ?_
  rw [s1] at h2 ⊢
  have h1' := x2.at h1
  repeat' (first | ((with_reducible refine o_s ?_); (first | (refine o_1 ?_; refine o_2 ?_) | (refine o_g ?_; first | refine o_u ?_ | refine o_k ?_ | refine o_n ?_ | refine o_v ?_ | ((first | refine o_G ?_ ?_ | refine o_N ?_ ?_) <;> intro hc)))) | ((fail_if_success (with_reducible refine o_s ?_)); go_step))
  · rename_i hc
    refine wpl_store1 (v := .slice none 0 0) rfl rfl rfl h1' (by decide +kernel) rfl ?_
    intro w3 p3
    have h23 := (p3.other _ (by omega)).trans h2
    refine wpl_store1 (v := .bool false) rfl rfl rfl h23 (by decide +kernel) rfl ?_
    intro w4 p4
    have h14 := (p4.other _ (by omega)).trans p3.this
    repeat' (first | ((with_reducible refine o_s ?_); (first | (refine o_1 ?_; refine o_2 ?_) | (refine o_g ?_; first | refine o_u ?_ | refine o_k ?_ | refine o_n ?_ | refine o_v ?_ | ((first | refine o_G ?_ ?_ | refine o_N ?_ ?_) <;> intro hc)))) | ((fail_if_success (with_reducible refine o_s ?_)); go_step))
    refine leaves_nil (results_cells2 rfl rfl rfl h14 p4.this (by decide +kernel) (by decide +kernel)) ⟨_, rfl, ?_, ?_⟩
    · exact ((x1.trans x2).move p3.mv (by rintro k ⟨⟩; omega)).move p4.mv (by rintro k ⟨⟩; omega)
    · rw [labels, if_pos (by omega)]
  · rename_i hc
    refine wpl_allocB (z := [.slice none 0 0]) rfl (by decide +kernel) ?_
    intro w3 x3 s3 h3
    rw [s2, s1] at h3 s3 ⊢
    repeat' (first | ((with_reducible refine o_s ?_); (first | (refine o_1 ?_; refine o_2 ?_) | (refine o_g ?_; first | refine o_u ?_ | refine o_k ?_ | refine o_n ?_ | refine o_v ?_ | ((first | refine o_G ?_ ?_ | refine o_N ?_ ?_) <;> intro hc)))) | ((fail_if_success (with_reducible refine o_s ?_)); go_step))
    refine wpl_callG (enters_of Tryz.func116 rfl rfl) rfl rfl (t40 nm _) ?_
    rintro e w4 ⟨rfl, x4, s4, h4⟩
    refine ⟨_, rfl, ?_⟩
    rw [s3] at h4 s4
    refine gset ?_
    repeat' ((fail_if_success (with_reducible refine o_s ?_)); go_step)
    simp only [s3]
    have e4 : w4.heap.size = w.heap.size + 4 := by omega
    generalize hs : w.heap.size = s at *
    have g0 : w4.heap[s]? = _ := x4.at (x3.at h1')
    have g1 : w4.heap[s + 1]? = _ := x4.at (x3.at h2)
    have g2 : w4.heap[s + 2]? = _ := x4.at h3
    have g3 : w4.heap[s + 3]? = _ := h4
    have gx : Ext w w4 := ((x1.trans x2).trans x3).trans x4
    clear h1 h2 h1' h3 h4 x1 x2 x3 x4 s1 s2 s3 s4
    refine wp_rangeFunc_of (caps := #[.pointer (some ⟨s + 3, 0, none⟩)]) rfl (enters_of Tryz.func151 rfl rfl) e4 ?_
    intro fn W lp hlp xW k4 k5 sW
    have hJ : CutMid w s lp [] W := ⟨gx.trans xW, hs, xW.at g0, xW.at g1, ⟨_, xW.at g2, Own.nil _ _ _ _⟩, k4, k5, by omega⟩
    have gb := xW.at g3
    have hrdy : lp.state = .ready ∧ lp.pending = none := by subst hlp; exact ⟨rfl, rfl⟩
    have hlab : labels nm = parse nm := by rw [labels, if_neg (by omega)]
    have hy : YieldOk Tryz.prog (s + 5) (s + 3) lp (CutMid w s lp) (CutOut w s lp) := by
      constructor
      · intro pre x rest W hpre hM hb
        subst hlp
        simp only [List.zip_toArray, List.zip_cons_cons, List.zip_nil_right, List.foldl_toArray', List.foldl_cons, List.foldl_nil, List.setIfInBounds_toArray, List.set_cons_succ, List.set_cons_zero, List.foldl_toArray, List.size_toArray, List.zip_toArray, List.length_cons, List.length_nil]
        have m0 := hM.c0
        have m1 := hM.c1
        obtain ⟨v, m2, mo⟩ := hM.loc
        have md := hM.df
        have ml := hM.lp
        have mx := hM.ext
        have ms := hM.size
        clear hM hJ gb xW k4 k5 sW g0 g1 g2 g3
        refine round_of ?_
        repeat' (first | refine wpR_region (by rfl) (by intro _ _ h; exact h) ?_ | ((with_reducible refine o_s ?_); (first | (refine o_1 ?_; refine o_2 ?_) | (refine o_g ?_; first | refine o_u ?_ | refine o_k ?_ | refine o_n ?_ | refine o_v ?_ | ((first | refine o_G ?_ ?_ | refine o_N ?_ ?_) <;> intro hc)))) | ((fail_if_success (with_reducible refine o_s ?_)); first | go_step | gi_step))
        refine ⟨_, ml, rfl, ?_⟩
        intro w2 p2
        have n0 := p2.at m0 (by omega)
        have n1 := p2.at m1 (by omega)
        have n2 := p2.at m2 (by omega)
        have no := mo.put p2 (by omega)
        have nb := p2.at hb (by omega)
        have nd := p2.at md (by omega)
        have nl := p2.this
        have nx := mx.move p2.mv (by rintro k ⟨⟩; omega)
        have ns : s + 6 ≤ w2.heap.size := Nat.le_trans ms p2.mv.size
        clear m0 m1 m2 mo hb md ml mx ms p2
        have hp2 := pts_block (cs := [v]) n2
        repeat' (first | refine wpR_region (by rfl) (by intro _ _ h; exact h) ?_ | ((with_reducible refine o_s ?_); (first | (refine o_1 ?_; refine o_2 ?_) | (refine o_g ?_; first | refine o_u ?_ | refine o_k ?_ | refine o_n ?_ | refine o_v ?_ | ((first | refine o_G ?_ ?_ | refine o_N ?_ ?_) <;> intro hc)))) | ((fail_if_success (with_reducible refine o_s ?_)); first | go_step | gi_step))
        refine wpl_slice (xs := [str x]) (k := 1) (e := 9) (bytes := 16) rfl rfl rfl (by intro y hy; simp at hy; subst hy; rfl) (by decide +kernel) (by simp) ?_
        intro v' w3 x3 s3 sl3 _
        refine gset ?_
        refine wpl_append (B := s + 6) (k := 1) (e := 9) (bytes := 16) (x := v') rfl (no.ext x3) rfl sl3 (by decide +kernel) (by simp [str, Value.cells]; rfl) (by have := x3.size; omega) (by simp [tcells]; omega) (by simp [tcells]; omega) ?_
        intro v2 w4 o4 mv4
        refine gset ?_
        have hv : Mv v.ownBlock w3 w4 := mv4
        have no3 := no.ext x3
        have q2 := no3.mvs hv (x3.at n2) (by omega)
        refine wpl_store1 (v := v2) rfl rfl rfl q2 (by decide +kernel) o4.one ?_
        intro w5 p5
        have q0 := p5.at (no3.mvs hv (x3.at n0) (by omega)) (by omega)
        have q1 := p5.at (no3.mvs hv (x3.at n1) (by omega)) (by omega)
        have q3 := p5.at (no3.mvs hv (x3.at nb) (by omega)) (by omega)
        have q4 := p5.at (no3.mvs hv (x3.at nd) (by omega)) (by omega)
        have q5 := p5.at (no3.mvs hv (x3.at nl) (by omega)) (by omega)
        have qx := (no3.mvx hv (nx.trans x3) (by omega)).move p5.mv (by rintro k ⟨⟩; omega)
        have qs : s + 6 ≤ w5.heap.size := by have := x3.size; have := hv.size; have := p5.mv.size; omega
        have qo := o4.put p5 (by omega)
        have q2' := p5.this
        repeat' (first | refine wpR_region (by rfl) (by intro _ _ h; exact h) ?_ | ((with_reducible refine o_s ?_); (first | (refine o_1 ?_; refine o_2 ?_) | (refine o_g ?_; first | refine o_u ?_ | refine o_k ?_ | refine o_n ?_ | refine o_v ?_ | ((first | refine o_G ?_ ?_ | refine o_N ?_ ?_) <;> intro hc)))) | ((fail_if_success (with_reducible refine o_s ?_)); first | go_step | gi_step))
        refine round_normal q5 fun w6 p6 => ⟨rfl, ⟨qx.move p6.mv (by rintro k ⟨⟩; omega), hs, p6.at q0 (by omega), p6.at q1 (by omega), ⟨v2, p6.at q2' (by omega), ?_⟩, p6.at q4 (by omega), p6.this, Nat.le_trans qs p6.mv.size⟩, p6.at q3 (by omega)⟩
        have := qo.put p6 (by omega)
        simpa [tcells, str, Value.cells] using this
      · intro pre W hM
        subst hlp
        simp only [List.zip_toArray, List.zip_cons_cons, List.zip_nil_right, List.foldl_toArray', List.foldl_cons, List.foldl_nil, List.setIfInBounds_toArray, List.set_cons_succ, List.set_cons_zero, List.foldl_toArray, List.size_toArray, List.length_cons, List.length_nil]
        have m0 := hM.c0
        have m1 := hM.c1
        have md := hM.df
        have ml := hM.lp
        have mx := hM.ext
        clear hM hJ gb xW k4 k5 sW g0 g1 g2 g3
        refine round_of ?_
        repeat' (first | refine wpR_region (by rfl) (by intro _ _ h; exact h) ?_ | ((with_reducible refine o_s ?_); (first | (refine o_1 ?_; refine o_2 ?_) | (refine o_g ?_; first | refine o_u ?_ | refine o_k ?_ | refine o_n ?_ | refine o_v ?_ | ((first | refine o_G ?_ ?_ | refine o_N ?_ ?_) <;> intro hc)))) | ((fail_if_success (with_reducible refine o_s ?_)); first | go_step | gi_step))
        refine ⟨_, ml, rfl, ?_⟩
        intro w2 p2
        have n0 := p2.at m0 (by omega)
        have n1 := p2.at m1 (by omega)
        have nd := p2.at md (by omega)
        have nl := p2.this
        have nx := mx.move p2.mv (by rintro k ⟨⟩; omega)
        clear m0 m1 md ml mx p2
        repeat' (first | refine wpR_region (by rfl) (by intro _ _ h; exact h) ?_ | ((with_reducible refine o_s ?_); (first | (refine o_1 ?_; refine o_2 ?_) | (refine o_g ?_; first | refine o_u ?_ | refine o_k ?_ | refine o_n ?_ | refine o_v ?_ | ((first | refine o_G ?_ ?_ | refine o_N ?_ ?_) <;> intro hc)))) | ((fail_if_success (with_reducible refine o_s ?_)); first | go_step | gi_step))
        refine wpl_store1 (v := .slice none 0 0) rfl rfl rfl n0 (by decide +kernel) rfl ?_
        intro w3 p3
        refine wpl_store1 (v := .bool false) rfl rfl rfl (p3.at n1 (by omega)) (by decide +kernel) rfl ?_
        intro w4 p4
        have q0 := p4.at p3.this (by omega)
        have q1 := p4.this
        have q4 := p4.at (p3.at nd (by omega)) (by omega)
        have q5 := p4.at (p3.at nl (by omega)) (by omega)
        have qx := (nx.move p3.mv (by rintro k ⟨⟩; omega)).move p4.mv (by rintro k ⟨⟩; omega)
        repeat' (first | refine wpR_region (by rfl) (by intro _ _ h; exact h) ?_ | ((with_reducible refine o_s ?_); (first | (refine o_1 ?_; refine o_2 ?_) | (refine o_g ?_; first | refine o_u ?_ | refine o_k ?_ | refine o_n ?_ | refine o_v ?_ | ((first | refine o_G ?_ ?_ | refine o_N ?_ ?_) <;> intro hc)))) | ((fail_if_success (with_reducible refine o_s ?_)); first | go_step | gi_step))
        exact round_ret q5 fun w6 p6 => ⟨rfl, ⟨qx.move p6.mv (by rintro k ⟨⟩; omega), hs, p6.at q0 (by omega), p6.at q1 (by omega), p6.at q4 (by omega), p6.this⟩⟩
    refine (t73 (s + 5) (s + 3) lp (CutMid w s lp) (CutOut w s lp) (by subst hlp; rfl) (fun _ _ h => h.lp) (fun _ _ _ _ h hp => h.put hp) hy nm W hJ gb (by omega)).mono ?_
    rintro e W' ⟨rfl, hR⟩
    refine ⟨⟨_, rfl⟩, ?_⟩
    clear hJ gb xW k4 k5 sW hy g0 g1 g2 g3
    cases hpn : parse nm with
    | some ls =>
      rw [hpn] at hR
      refine ⟨lp, hR.lp, by rw [hrdy.1]; simp, ?_⟩
      intro W2 hput
      rw [hrdy.2]
      clear hlp hrdy
      simp only
      have hm := hput.mv
      have ne : ∀ k, k ≠ s + 4 + 1 → some k ≠ some (s + 4 + 1) := fun k hk e => hk (Option.some.inj e)
      have f0 := hm.at hR.c0 (ne _ (by omega))
      have f1 := hm.at hR.c1 (ne _ (by omega))
      have fd := hm.at hR.df (ne _ (by omega))
      obtain ⟨v, f2, ho⟩ := hR.loc
      have fo : Own (s + 6) 1 9 W2 v (tcells ls) := ho.put hput (by omega)
      have f2 := hm.at f2 (ne _ (by omega))
      have fx : Ext w W2 := hR.ext.move hm (by rintro k ⟨⟩; omega)
      have fs := Nat.le_trans hR.size hm.size
      clear hR hput hm
      have hp2 := pts_block (cs := [v]) f2
      repeat' (first | ((with_reducible refine o_s ?_); (first | (refine o_1 ?_; refine o_2 ?_) | (refine o_g ?_; first | refine o_u ?_ | refine o_k ?_ | refine o_n ?_ | refine o_v ?_ | ((first | refine o_G ?_ ?_ | refine o_N ?_ ?_) <;> intro hc)))) | ((fail_if_success (with_reducible refine o_s ?_)); go_step))
      refine wpl_store1 (v := v) rfl rfl rfl f0 (by decide +kernel) fo.one ?_
      intro W3 p3
      refine wpl_store1 (v := .bool true) rfl rfl rfl ((p3.other _ (by omega)).trans f1) (by decide +kernel) rfl ?_
      intro W4 p4
      have q0 := (p4.other _ (by omega)).trans p3.this
      have qd := (p4.other _ (by omega)).trans ((p3.other _ (by omega)).trans fd)
      have qx : Ext w W4 := (fx.move p3.mv (by rintro k ⟨⟩; omega)).move p4.mv (by rintro k ⟨⟩; omega)
      have qo : Own (s + 6) 1 9 W4 v (tcells ls) := (fo.put p3 (by omega)).put p4 (by omega)
      have qf := (p4.this)
      repeat' (first | ((with_reducible refine o_s ?_); (first | (refine o_1 ?_; refine o_2 ?_) | (refine o_g ?_; first | refine o_u ?_ | refine o_k ?_ | refine o_n ?_ | refine o_v ?_ | ((first | refine o_G ?_ ?_ | refine o_N ?_ ?_) <;> intro hc)))) | ((fail_if_success (with_reducible refine o_s ?_)); go_step))
      refine leaves_mark qd fun W5 p5 => ⟨_, results_cells2 rfl rfl rfl (p5.at q0 (by omega)) (p5.at qf (by omega)) (by decide +kernel) (by decide +kernel), _, rfl, qx.move p5.mv (by rintro k ⟨⟩; omega), ?_⟩
      rw [hlab, hpn, hs]
      exact ⟨v, rfl, (qo.put p5 (by omega)).weaken (by omega)⟩
    | none =>
      rw [hpn] at hR
      refine ⟨_, hR.lp, by simp, ?_⟩
      intro W2 hput
      simp only
      have hm := hput.mv
      have ne : ∀ k, k ≠ s + 4 + 1 → some k ≠ some (s + 4 + 1) := fun k hk e => hk (Option.some.inj e)
      have f0 := hm.at hR.c0 (ne _ (by omega))
      have f1 := hm.at hR.c1 (ne _ (by omega))
      have fd := hm.at hR.df (ne _ (by omega))
      have fx : Ext w W2 := hR.ext.move hm (by rintro k ⟨⟩; omega)
      clear hlp hrdy
      repeat' ((fail_if_success (with_reducible refine o_s ?_)); go_step)
      refine leaves_mark fd fun W5 p5 => ⟨_, results_cells2 rfl rfl rfl (p5.at f0 (by omega)) (p5.at f1 (by omega)) (by decide +kernel) (by decide +kernel), _, rfl, fx.move p5.mv (by rintro k ⟨⟩; omega), ?_⟩
      rw [hlab, hpn]

end Go.Proofs.X
set_option linter.unusedSimpArgs false
set_option linter.unusedVariables false
namespace Go.Proofs.X
open Go.RowKit
set_option maxRecDepth 100000
/-- name.Check -/
theorem t27 (nm : List UInt8) (w : World) : Calls Tryz.prog 68 #[str nm] w (RetV w (.int .i64 (if (labels nm).isSome then 0 else 1))) := by
  go_enter Tryz.func68, Tryz.ntmps68
  repeat' (first | ((with_reducible refine o_s ?_); (first | (refine o_1 ?_; refine o_2 ?_) | (refine o_g ?_; first | refine o_u ?_ | refine o_k ?_ | refine o_n ?_ | refine o_v ?_ | ((first | refine o_G ?_ ?_ | refine o_N ?_ ?_) <;> intro hc)))) | ((fail_if_success (with_reducible refine o_s ?_)); go_step))
  refine wpl_callR (enters_of Tryz.func83 rfl rfl) rfl rfl (t28 nm _) ?_
  intro v w1 x1 hv
  cases hl : labels nm with
  | none =>
    rw [hl] at hv
    subst hv
    repeat' (first | ((with_reducible refine o_s ?_); (first | (refine o_1 ?_; refine o_2 ?_) | (refine o_g ?_; first | refine o_u ?_ | refine o_k ?_ | refine o_n ?_ | refine o_v ?_ | ((first | refine o_G ?_ ?_ | refine o_N ?_ ?_) <;> intro hc)))) | ((fail_if_success (with_reducible refine o_s ?_)); go_step))
    go_ret
    exact ⟨by simp [hl], x1⟩
  | some ls =>
    rw [hl] at hv
    obtain ⟨s, rfl, _⟩ := hv
    repeat' (first | ((with_reducible refine o_s ?_); (first | (refine o_1 ?_; refine o_2 ?_) | (refine o_g ?_; first | refine o_u ?_ | refine o_k ?_ | refine o_n ?_ | refine o_v ?_ | ((first | refine o_G ?_ ?_ | refine o_N ?_ ?_) <;> intro hc)))) | ((fail_if_success (with_reducible refine o_s ?_)); go_step))
    go_ret
    exact ⟨by simp [hl], x1⟩

end Go.Proofs.X
set_option linter.unusedSimpArgs false
set_option linter.unusedVariables false
namespace Go.Proofs.X
open Go.RowKit
set_option maxRecDepth 100000
theorem lowB_of {b : UInt8} (h : 65 ≤ b.toNat) (h2 : b.toNat ≤ 90) : IntKind.wrap .u8 (IntKind.wrap .u8 ((b.toNat : Int) - 65) + 97) = ((lowB b).toNat : Int) := by
  rw [lowB, if_pos ⟨h, h2⟩]
  rw [UInt8.toNat_add]
  simp only [IntKind.wrap, IntKind.bits, IntKind.signed]
  have : (32 : UInt8).toNat = 32 := rfl
  rw [this]
  simp
  omega
theorem bcells_get (l : List UInt8) (k : Nat) (b : UInt8) (h : l[k]? = some b) : (bcells l)[k]? = some [.int .u8 (b.toNat : Nat)] := by simp [bcells, h]
theorem bcells_set (l : List UInt8) (k : Nat) (b : UInt8) : (bcells l).set k [.int .u8 (b.toNat : Nat)] = bcells (l.set k b) := by simp [bcells, List.map_set]
/-- name.small -/
theorem t29 (l : List UInt8) (w : World) (hl : l.length ≤ 254) : Calls Tryz.prog 84 #[str l] w (RetV w (str (low l))) := by
  go_enter Tryz.func84, Tryz.ntmps84
  repeat' (first | ((with_reducible refine o_s ?_); (first | (refine o_1 ?_; refine o_2 ?_) | (refine o_g ?_; first | refine o_u ?_ | refine o_k ?_ | refine o_n ?_ | refine o_v ?_ | ((first | refine o_G ?_ ?_ | refine o_N ?_ ?_) <;> intro hc)))) | ((fail_if_success (with_reducible refine o_s ?_)); go_step))
  refine wpl_bytes (e := 5) (l := l) rfl rfl (by decide +kernel) (by decide +kernel) (by omega) ?_
  intro v w1 x1 o1
  refine gset ?_
  have sl := o1.sl
  repeat' (first | ((with_reducible refine o_s ?_); (first | (refine o_1 ?_; refine o_2 ?_) | (refine o_g ?_; first | refine o_u ?_ | refine o_k ?_ | refine o_n ?_ | refine o_v ?_ | ((first | refine o_G ?_ ?_ | refine o_N ?_ ?_) <;> intro hc)))) | ((fail_if_success (with_reducible refine o_s ?_)); go_step))
  clear sl
  have hlb : (bcells l).length = l.length := by simp [bcells]
  rw [hlb]
  go_loopw [10] (fun i wr => ∃ k : Nat, k ≤ l.length ∧ i = .int .i64 k ∧ Ext w wr ∧ Own w.heap.size 1 5 wr v (bcells (lowP l k))) (fun i _ => l.length - (intOf i).toNat)
  case atStart => exact ⟨0, Nat.zero_le _, rfl, x1, by simpa [lowP_zero] using o1⟩
  case round =>
    obtain ⟨k, hk, rfl, hx, ho⟩ := hrel
    have hsl := ho.sl
    have hlen : (bcells (lowP l k)).length = l.length := by simp [bcells, lowP_length]
    by_cases hlt : k < l.length
    · have hp := hsl.elem (bcells_get _ _ _ (lowP_get l k hlt))
      repeat' (first | ((with_reducible refine o_s ?_); (first | (refine o_1 ?_; refine o_2 ?_) | (refine o_g ?_; first | refine o_u ?_ | refine o_k ?_ | refine o_n ?_ | refine o_v ?_ | ((first | refine o_G ?_ ?_ | refine o_N ?_ ?_) <;> intro hc)))) | ((fail_if_success (with_reducible refine o_s ?_)); go_step))
      · rename_i h1 h2
        refine wpl_storeE1 (c := .int .u8 _) (i := k) rfl rfl rfl ho (by omega) (by decide +kernel) rfl ?_
        intro w2 o2 m2
        have hx2 := ho.mvx m2 hx (Nat.le_refl _)
        have e2 : (bcells (lowP l k)).set k [Value.int .u8 (IntKind.u8.wrap (IntKind.u8.wrap (↑l[k].toNat - 65) + 97))] = bcells (lowP l (k + 1)) := by
          rw [lowP_succ l k hlt, ← bcells_set, lowB_of (by omega) (by omega)]
        rw [e2] at o2
        clear hx ho hsl hp
        repeat' (first | ((with_reducible refine o_s ?_); (first | (refine o_1 ?_; refine o_2 ?_) | (refine o_g ?_; first | refine o_u ?_ | refine o_k ?_ | refine o_n ?_ | refine o_v ?_ | ((first | refine o_G ?_ ?_ | refine o_N ?_ ?_) <;> intro hc)))) | ((fail_if_success (with_reducible refine o_s ?_)); go_step))
        exact ⟨⟨k + 1, by omega, rfl, hx2, o2⟩, by simp [intOf]; omega⟩
      · refine ⟨⟨k + 1, by omega, rfl, hx, ?_⟩, by simp [intOf]; omega⟩
        rw [lowP_same l k hlt (lowB_no (by omega))]; exact ho
      · refine ⟨⟨k + 1, by omega, rfl, hx, ?_⟩, by simp [intOf]; omega⟩
        rw [lowP_same l k hlt (lowB_no (by omega))]; exact ho
    · have : k = l.length := by omega
      subst this
      rw [lowP_all] at hsl
      repeat' (first | ((with_reducible refine o_s ?_); (first | (refine o_1 ?_; refine o_2 ?_) | (refine o_g ?_; first | refine o_u ?_ | refine o_k ?_ | refine o_n ?_ | refine o_v ?_ | ((first | refine o_G ?_ ?_ | refine o_N ?_ ?_) <;> intro hc)))) | ((fail_if_success (with_reducible refine o_s ?_)); go_step))
      go_ret
      exact ⟨rfl, hx⟩

end Go.Proofs.X
set_option linter.unusedVariables false
namespace Go.Proofs.X
open Go.RowKit Go.Proofs
theorem bSize : (Tryz.prog.info? 126).map (·.size) = some 2 := by kernel_rfl
theorem bLies : liesAt Tryz.prog Tryz.prog.depth 126 (2 / Tryz.prog.cellsOf 126) 0 126 1 = true := by kernel_rfl
theorem bInfo : (Tryz.prog.info? 5).map (fun i => (i.zero, i.size, i.bytes)) = some (some (.int .u8 0), 1, 1) := by kernel_rfl


set_option maxHeartbeats 1000000 in
set_option maxRecDepth 100000 in
/-- copyCheck at a builder that has been used: nothing turns. -/
theorem T.Builder_copyCheck_used (b : Nat) (w : World) (h0 : w.cell? ⟨b, 0, none⟩ = some (.pointer (some ⟨b, 0, none⟩))) :
    Calls Tryz.prog 152 #[.pointer (some ⟨b, 0, none⟩)] w fun e w' => e = .returned (.tuple #[]) ∧ w' = w := by
  obtain ⟨j, hj, _⟩ := Option.map_eq_some_iff.1 bSize
  go_enter Tryz.func152, Tryz.ntmps152
  go_wp2
  rw [Lib.run_neq_ptr_same w _ Tryz.underlying124 hj]
  go_wp2
  go_end0
  exact ⟨rfl, rfl⟩


set_option maxHeartbeats 1000000 in
set_option maxRecDepth 100000 in
/-- copyCheck at a fresh builder: it stores its own address. -/
theorem T.Builder_copyCheck_fresh (b : Nat) (w : World) (h0 : w.cell? ⟨b, 0, none⟩ = some (.pointer none)) (hsh : w.shape? b = some (126, 2)) (hfz : w.frozen? ⟨b, 0, none⟩ = false) :
    Calls Tryz.prog 152 #[.pointer (some ⟨b, 0, none⟩)] w fun e w' => e = .returned (.tuple #[]) ∧ w' = w.setCell ⟨b, 0, none⟩ (.pointer (some ⟨b, 0, none⟩)) := by
  obtain ⟨j, hj, hjs⟩ := Option.map_eq_some_iff.1 bSize
  go_enter Tryz.func152, Tryz.ntmps152
  go_wp2
  rw [Lib.run_to_unsafe w ⟨b, 0, none⟩ Tryz.underlying124 Tryz.underlying170 hj (by rw [hjs]; decide) hsh (Nat.zero_lt_succ 1)]
  simp only [Result.andThen]
  rw [Oper.upon_value]
  go_wp2
  rw [run_callFunc_extern Tryz.func165 (by kernel_rfl) (by kernel_rfl) (by kernel_rfl) (e := Extern.AbiNoEscape.same) (by kernel_rfl)]
  rw [Lib.run_noEscape]
  simp only [Result.andThen]
  rw [Oper.upon_value]
  go_wp2
  rw [Lib.run_from_unsafe w ⟨b, 0, none⟩ Tryz.underlying170 Tryz.underlying124 hj hsh bLies]
  simp only [Result.andThen]
  rw [Oper.upon_value]
  go_wp2
  go_end0
  exact ⟨rfl, rfl⟩


/-- (*strings.Builder).copyCheck (what every writing method calls first): behind it the builder is 'used': 'addr' holds its own address; its bytes are as they were. -/
theorem T.Builder_copyCheck (B b : Nat) (bs : List Value) (w : World) (h : Lib.IsBuilder 126 5 B b bs w) :
    Calls Tryz.prog 152 #[.pointer (some ⟨b, 0, none⟩)] w fun e w' => e = .returned (.tuple #[]) ∧ (Lib.BuilderAt 126 5 B b (.pointer (some ⟨b, 0, none⟩)) bs w' ∧ Below B w w' ∧ w.drawn ≤ w'.drawn) := by
  rcases h with h | h
  · refine (T.Builder_copyCheck_fresh b w h.cell0 h.shape h.frozen0).mono ?_
    rintro e w' ⟨rfl, rfl⟩
    exact ⟨rfl, h.used _, (Below.refl B w).setCell (p := ⟨b, 0, none⟩) h.1 _, Nat.le_refl _⟩
  · refine (T.Builder_copyCheck_used b w h.cell0).mono ?_
    rintro e w' ⟨rfl, rfl⟩
    exact ⟨rfl, h, Below.refl B _, Nat.le_refl _⟩


set_option maxHeartbeats 2000000 in
set_option maxRecDepth 100000 in
/-- (*strings.Builder).WriteByte: "WriteByte appends the byte c to b's buffer. The returned error is always nil.": UNDER Go's OWN LIMIT: the new length takes at most 2^47 bytes. -/
theorem T.Builder_WriteByte (B b : Nat) (bs : List Value) (c : Int) (w : World) (h : Lib.IsBuilder 126 5 B b bs w) (hlen : bs.length + 1 ≤ 140737488355328) (hBw : B ≤ w.heap.size) :
    Calls Tryz.prog 118 #[.pointer (some ⟨b, 0, none⟩), .int .u8 c] w fun e w' => e = .returned .nilIface ∧ (Lib.BuilderAt 126 5 B b (.pointer (some ⟨b, 0, none⟩)) (bs ++ [.int .u8 c]) w' ∧ Below B w w' ∧ w.drawn ≤ w'.drawn) := by
  obtain ⟨i0, hi, hz0, hz1, hz2⟩ := info_parts bInfo
  go_enter Tryz.func118, Tryz.ntmps118
  go_wp2_with (go_at_call 152; refine (T.Builder_copyCheck B b bs _ h).mono ?_)
  rintro e w1 ⟨rfl, h1, hb1, hd1⟩
  obtain ⟨hB, v, hbk, hown, hne⟩ := h1
  have c0 : w1.cell? ⟨b, 0, none⟩ = some (.pointer (some ⟨b, 0, none⟩)) := by rw [Lib.cell_of_heap hbk]; rfl
  have c1 : w1.cell? ⟨b, 1, none⟩ = some v := by rw [Lib.cell_of_heap hbk]; rfl
  go_wp2_with (at_builtin; refine wpl_appOwn rfl _ _ 95 rfl B 5 i0 (.int .u8 0) 1 1 Tryz.underlying95 hi hz0 hz1 hz2 rfl (by decide) _ _ _ rfl (hown.alloc _) ⟨w1.heap.size, 0, none⟩ 1 1 [.int .u8 c] rfl rfl ?c1 ?c2 ?c3 ?c4 ?c5 ?_)
  case c1 =>
    intro j u hj
    match j, hj with
    | 0, hj => simp at hj; subst hj; simp [Addr.add]
  case c2 => intro u hu; simp at hu; subst hu; rfl
  case c3 => unfold maxLen; omega
  case c4 => omega
  case c5 => have := hb1.size; simp; omega
  intro v' w2 hown' hgrow hd2
  have hlt : b < w1.heap.size := by
    rcases Nat.lt_or_ge b w1.heap.size with h' | h'
    · exact h'
    · simp [Array.getElem?_eq_none h'] at hbk
  have hb2 : w2.heap[b]? = some (.cells #[.pointer (some ⟨b, 0, none⟩), v] 126 (0, 0)) := by
    rw [hgrow.block b (by simp; omega) (fun e => hne e.symm), Lib.alloc_old w1 _ b hlt]
    exact hbk
  have d0 : w2.cell? ⟨b, 0, none⟩ = some (.pointer (some ⟨b, 0, none⟩)) := by rw [Lib.cell_of_heap hb2]; rfl
  have d1 : w2.cell? ⟨b, 1, none⟩ = some v := by rw [Lib.cell_of_heap hb2]; rfl
  have f1 : w2.frozen? ⟨b, 1, none⟩ = false := Lib.frozen_of_heap hb2 1
  obtain ⟨g, cap, rfl⟩ : ∃ g cap, v' = .slice (some ⟨g, 0, none⟩) (bs.length + 1) cap := by
    rcases hown'.2 with ⟨_, h0⟩ | ⟨g, cap, cur, hv, _⟩
    · omega
    · exact ⟨g, cap, hv⟩
  go_wp2
  go_ret
  refine ⟨rfl, ?_, ?_⟩
  · exact Lib.BuilderAt.put (T := 126) (e := 5) hB hb2 (bs' := bs ++ [.int .u8 c]) (by simpa using hown') (by decide)
  · exact ⟨((hb1.alloc (by have := hb1.size; omega) _).grown hgrow (by have := hb1.size; simp; omega) (fun k hk => (hown.lt k hk).1)).setCell (p := ⟨b, 1, none⟩) hB _, Nat.le_trans hd1 hd2⟩


set_option maxHeartbeats 2000000 in
set_option maxRecDepth 100000 in
/-- (*strings.Builder).WriteString: "WriteString appends the contents of s to b's buffer. It returns the length of s and a nil error.": UNDER Go's OWN LIMIT: the new length takes at most 2^47 bytes. -/
theorem T.Builder_WriteString (B b : Nat) (bs : List Value) (s : ByteArray) (w : World) (h : Lib.IsBuilder 126 5 B b bs w) (hlen : bs.length + s.size ≤ 140737488355328) (hBw : B ≤ w.heap.size) :
    Calls Tryz.prog 119 #[.pointer (some ⟨b, 0, none⟩), .string s] w fun e w' => e = .returned (.tuple #[.int .i64 s.size, .nilIface]) ∧ (Lib.BuilderAt 126 5 B b (.pointer (some ⟨b, 0, none⟩)) (bs ++ Lib.strCells s) w' ∧ Below B w w' ∧ w.drawn ≤ w'.drawn) := by
  obtain ⟨i0, hi, hz0, hz1, hz2⟩ := info_parts bInfo
  go_enter Tryz.func119, Tryz.ntmps119
  go_wp2_with (go_at_call 152; refine (T.Builder_copyCheck B b bs _ h).mono ?_)
  rintro e w1 ⟨rfl, h1, hb1, hd1⟩
  obtain ⟨hB, v, hbk, hown, hne⟩ := h1
  have c0 : w1.cell? ⟨b, 0, none⟩ = some (.pointer (some ⟨b, 0, none⟩)) := by rw [Lib.cell_of_heap hbk]; rfl
  have c1 : w1.cell? ⟨b, 1, none⟩ = some v := by rw [Lib.cell_of_heap hbk]; rfl
  go_wp2_with (at_builtin; refine wpl_appOwnS rfl _ _ 95 9 rfl B 5 i0 Tryz.underlying95 Tryz.underlying9 hi hz0 hz1 hz2 _ _ _ rfl hown s rfl ?c3 ?c4 ?c5 ?_)
  case c3 => unfold maxLen; omega
  case c4 => omega
  case c5 => have := hb1.size; omega
  intro v' w2 hown' hgrow hd2
  have hlt : b < w1.heap.size := by
    rcases Nat.lt_or_ge b w1.heap.size with h' | h'
    · exact h'
    · simp [Array.getElem?_eq_none h'] at hbk
  have hb2 : w2.heap[b]? = some (.cells #[.pointer (some ⟨b, 0, none⟩), v] 126 (0, 0)) := by
    rw [hgrow.block b hlt (fun e => hne e.symm)]
    exact hbk
  have d0 : w2.cell? ⟨b, 0, none⟩ = some (.pointer (some ⟨b, 0, none⟩)) := by rw [Lib.cell_of_heap hb2]; rfl
  have d1 : w2.cell? ⟨b, 1, none⟩ = some v := by rw [Lib.cell_of_heap hb2]; rfl
  have f1 : w2.frozen? ⟨b, 1, none⟩ = false := Lib.frozen_of_heap hb2 1
  obtain ⟨ao, n', cap, rfl⟩ : ∃ ao n' cap, v' = .slice ao n' cap := by
    rcases hown'.2 with ⟨hv, _⟩ | ⟨g, cap, cur, hv, _⟩
    · exact ⟨_, _, _, hv⟩
    · exact ⟨_, _, _, hv⟩
  go_wp2
  go_ret2
  refine ⟨rfl, ?_, ?_⟩
  · exact Lib.BuilderAt.put (T := 126) (e := 5) hB hb2 (bs' := bs ++ Lib.strCells s) (by simpa [Lib.strCells_length] using hown') (by decide)
  · exact ⟨(hb1.grown hgrow (by have := hb1.size; omega) (fun k hk => (hown.lt k hk).1)).setCell (p := ⟨b, 1, none⟩) hB _, Nat.le_trans hd1 hd2⟩
end Go.Proofs.X
set_option linter.unusedSimpArgs false
set_option linter.unusedVariables false
namespace Go.Proofs.X
open Go.RowKit
set_option maxRecDepth 100000
theorem Ext.heapEq {w w1 : World} (h : w1.heap = w.heap) {k : Nat} {o : Obj} (hk : w.heap[k]? = some o) : w1.heap[k]? = some o := by rw [h]; exact hk
theorem ownsRow_heap {w w1 : World} (h : w1.heap = w.heap) {B e k : Nat} {v : Value} {n : Nat} {xs : List Value} (ho : w.ownsRow B e k v n xs) : w1.ownsRow B e k v n xs := by
  unfold World.ownsRow at *
  rw [h]; exact ho
theorem freeze_ext {w0 w : World} (h : Ext w0 w) {g n : Nat} (hg : w0.heap.size ≤ g) : Ext w0 (w.freeze ⟨g, 0, none⟩ n) := by
  unfold World.freeze
  split
  · exact h
  · refine ⟨h.os, h.tape, h.output, by simpa using h.size, fun k hk => ?_, h.drawn⟩
    have hne : g ≠ k := by omega
    simp only [Array.getElem?_modify]
    rw [if_neg hne]
    exact h.block k hk
set_option maxHeartbeats 1000000 in
/-- (*strings.Builder).String -/
theorem T.Builder_String (B b : Nat) (l : List UInt8) (w0 w : World) (h : Lib.IsBuilder 126 5 B b (Lib.byteCells l) w) (hx0 : Ext w0 w) (hB : w0.heap.size ≤ B) (hlen : l.length ≤ 9223372036854775807) :
    Calls Tryz.prog 120 #[.pointer (some ⟨b, 0, none⟩)] w fun e w' => e = .returned (str l) ∧ Ext w0 w' := by
  obtain ⟨p, hbB, v, hbk, hown, hne⟩ : ∃ p, Lib.BuilderAt 126 5 B b p (Lib.byteCells l) w := by
    rcases h with h | h <;> exact ⟨_, h⟩
  go_enter Tryz.func120, Tryz.ntmps120
  repeat' (first | ((with_reducible refine o_s ?_); (first | (refine o_1 ?_; refine o_2 ?_) | (refine o_g ?_; first | refine o_u ?_ | refine o_k ?_ | refine o_n ?_ | refine o_v ?_ | ((first | refine o_G ?_ ?_ | refine o_N ?_ ?_) <;> intro hc)))) | ((fail_if_success (with_reducible refine o_s ?_)); go_step))
  refine wph_region (S := fun w' => Ext w0 w' ∧ w'.heap[b]? = some (.cells #[p, v] 126 (0, 0))) (by decide +kernel) ?_
  intro w1 x1 hh1
  have hS : Ext w0 w1 ∧ w1.heap[b]? = some (.cells #[p, v] 126 (0, 0)) := ⟨hx0.trans x1, Ext.heapEq hh1 hbk⟩
  have hsl' := (Own.sl (B := B) (k := 1) (e := 5) (es := bcells l) ⟨by rw [bcells_flat]; simpa [bcells, Lib.byteCells] using ownsRowG_of hown, by simp [bcells]⟩)
  ((with_reducible apply wph_take (i := 0)); (rfl); (rfl); (decide +kernel); (decide +kernel); (decide +kernel); (rfl); (exact hS); (intro w9 hS9; (have hp := pts_block (cs := [p, v]) hS9.2); exact rn); (exact fun _ _ _ h => h); (refine gset ?_)); ((with_reducible apply wph_take (i := 1)); (rfl); (rfl); (decide +kernel); (decide +kernel); (decide +kernel); (rfl); (exact hS); (intro w9 hS9; (have hp := pts_block (cs := [p, v]) hS9.2); exact rn); (exact fun _ _ _ h => h); (refine gset ?_)); ((with_reducible apply wph_take (i := 2)); (rfl); (rfl); (decide +kernel); (decide +kernel); (decide +kernel); (rfl); (exact hS); (intro w9 hS9; (have hp := pts_block (cs := [p, v]) hS9.2); exact rn); (exact fun _ _ _ h => h); (refine gset ?_)); ((with_reducible apply wph_take (i := 3)); (rfl); (rfl); (decide +kernel); (decide +kernel); (decide +kernel); (rfl); (exact hS); (intro w9 hS9; (have hp := pts_block (cs := [p, v]) hS9.2); exact rn); (exact fun _ _ _ h => h); (refine gset ?_)); ((with_reducible apply wph_take (i := 5)); (rfl); (rfl); (decide +kernel); (decide +kernel); (decide +kernel); (rfl); (exact hS); (intro w9 hS9; (have hp := pts_block (cs := [p, v]) hS9.2); exact rn); (exact fun _ _ _ h => h); (refine gset ?_)); ((with_reducible apply wph_take (i := 6)); (rfl); (rfl); (decide +kernel); (decide +kernel); (decide +kernel); (rfl); (exact hS); (intro w9 hS9; (have hp := pts_block (cs := [p, v]) hS9.2); exact rn); (exact fun _ _ _ h => h); (refine gset ?_)); ((with_reducible apply wph_take (i := 7)); (rfl); (rfl); (decide +kernel); (decide +kernel); (decide +kernel); (rfl); (exact hS); (intro w9 hS9; (have hp := pts_block (cs := [p, v]) hS9.2); exact rn); (exact fun _ _ _ h => h); (refine gset ?_)); ((with_reducible apply wph_take (i := 8)); (rfl); (rfl); (decide +kernel); (decide +kernel); (decide +kernel); (rfl); (exact hS); (intro w9 hS9; (have hp := pts_block (cs := [p, v]) hS9.2); exact rn); (exact fun _ _ _ h => h); (refine gset ?_))
  have hsz : ∀ w', (Sl 1 w' v (bcells l)) ∨ True := fun _ => .inr trivial
  refine wph_take (i := 9) (v := .int .i64 ((bcells l).length : Nat)) rfl rfl (by decide +kernel) (by decide +kernel) (by decide +kernel) rfl hS (fun w' _ => ?_) (fun _ _ _ h => h) ?_
  · obtain ⟨ad, cap, h1, _⟩ := hsl'.out
    obtain ⟨e, i, ht, _⟩ := sliceOf_spec (P := Tryz.prog) (t := 95) (k := 1) (by decide +kernel)
    exact ⟨by simp [execOp, resolve, invoke, builtin, Act.eval, h1, Builtin.len_, run_underlying ht, goInt]⟩
  refine gset ?_
  have hlb : (bcells l).length = l.length := by simp [bcells]
  have hE : Ext w0 w1 := hx0.trans x1
  obtain ⟨q, w2, hr2, x2, hq⟩ : ∃ q w2, (Builtin.unsafeSliceData_ #[95] 158 #[v]).run Tryz.prog w1 = .ok (.pointer q) w2 ∧ Ext w1 w2 ∧ (l ≠ [] → ∃ g cur, q = some ⟨g, 0, none⟩ ∧ B ≤ g ∧ w2.heap[g]? = some (.cells cur 5 (0, 0)) ∧ l.length ≤ cur.size ∧ ∀ j x, l[j]? = some x → w2.cell? ⟨g, j, none⟩ = some (.int .u8 (x.toNat : Nat))) := by
    rcases hown.2 with ⟨rfl, h0⟩ | ⟨g, cap, cur, rfl, hbg, hg, hnc, hcm, hcs, htake⟩
    · refine ⟨none, w1, rfl, Ext.refl _, fun hne => absurd (List.eq_nil_of_length_eq_zero ?_) hne⟩
      simpa [Lib.byteCells] using h0
    · have hg1 : w1.heap[g]? = some (.cells cur 5 (0, 0)) := Ext.heapEq hh1 hg
      by_cases hc : cap = 0
      · subst hc
        have hl0 : l = [] := List.eq_nil_of_length_eq_zero (by simpa [Lib.byteCells] using hnc)
        exact ⟨_, _, Lib.run_unsafeSliceData_zero w1 _ _ 5 Tryz.underlying158 ⟨g, 0, none⟩ _ (5, cur.size) (by simp [World.shape?, hg1]), Ext.alloc _ _, fun hne => absurd hl0 hne⟩
      · refine ⟨_, w1, Lib.run_unsafeSliceData_row _ _ _ _ _ _ hc, Ext.refl _, fun _ => ⟨g, cur, rfl, hbg, hg1, ?_, fun j x hj => ?_⟩⟩
        · have : l.length ≤ cap := by simpa [Lib.byteCells] using hnc
          omega
        · rw [cell_of_row w1 g j cur 5 _ hg1]
          have := congrArg (·[j]?) htake
          have hjl : j < l.length := (List.getElem?_eq_some_iff.1 hj).1
          simp only [List.getElem?_take] at this
          rw [if_pos (by simpa [Lib.byteCells] using hjl)] at this
          rw [← Array.getElem?_toList, this]
          simp [Lib.byteCells, hj]
  refine wph_one (i := 4) (by decide +kernel) rfl rfl ?_
  refine wpl_val rfl (w' := w2) (v := .pointer q) (by simp [execOp, resolve, invoke, builtin, evalT, Act.eval, hr2]) ?_
  refine gset ?_
  have hb1 : b < w1.heap.size := (Array.getElem?_eq_some_iff.1 hS.2).1
  refine wph_nil ⟨⟨hE.trans x2, x2.at hS.2⟩, ?_⟩
  have hE2 : Ext w0 w2 := hE.trans x2
  obtain ⟨w3, hr3, x3, hb3⟩ : ∃ w3, (Builtin.unsafeString_ #[158, 3] 9 #[.pointer q, .int .i64 ((bcells l).length : Nat)]).run Tryz.prog w2 = .ok (str l) w3 ∧ Ext w0 w3 ∧ w3.heap[b]? = some (.cells #[p, v] 126 (0, 0)) := by
    by_cases hl0 : l = []
    · subst hl0
      exact ⟨w2, Lib.run_unsafeString_none w2 _ _ _ q, hE2, x2.at hS.2⟩
    · obtain ⟨g, cur, rfl, hbg, hg2, hcl, hcell⟩ := hq hl0
      refine ⟨_, by rw [hlb]; exact Lib.run_unsafeString_row w2 158 3 9 5 Tryz.underlying158 (by decide +kernel) g cur.size (by simp [World.shape?, hg2]) l hl0 hcl hlen (fun j x hj => by rw [add_none, Nat.zero_add]; exact hcell j x hj), freeze_ext hE2 (by omega), ?_⟩
      have hgb : g ≠ b := by
        rintro rfl
        rw [x2.at hS.2] at hg2
        simp at hg2
      unfold World.freeze
      split
      · exact x2.at hS.2
      · simp only [Array.getElem?_modify]
        rw [if_neg hgb]
        exact x2.at hS.2
  refine wph_one (i := 10) (by decide +kernel) rfl rfl ?_
  refine wpl_val rfl (w' := w3) (v := str l) (by rw [hlb] at hr3; simp [execOp, resolve, invoke, builtin, Act.eval, hlb, hr3]) ?_
  refine gset ?_
  refine wph_nil ⟨⟨x3, hb3⟩, ?_⟩
  refine wph_one (i := 11) (by decide +kernel) rfl rfl ?_
  repeat' (first | ((with_reducible refine o_s ?_); (first | (refine o_1 ?_; refine o_2 ?_) | (refine o_g ?_; first | refine o_u ?_ | refine o_k ?_ | refine o_n ?_ | refine o_v ?_ | ((first | refine o_G ?_ ?_ | refine o_N ?_ ?_) <;> intro hc)))) | ((fail_if_success (with_reducible refine o_s ?_)); go_step))
  refine ⟨⟨x3, hb3⟩, ?_⟩
  refine wph_done (by decide +kernel) ?_
  repeat' (first | ((with_reducible refine o_s ?_); (first | (refine o_1 ?_; refine o_2 ?_) | (refine o_g ?_; first | refine o_u ?_ | refine o_k ?_ | refine o_n ?_ | refine o_v ?_ | ((first | refine o_G ?_ ?_ | refine o_N ?_ ?_) <;> intro hc)))) | ((fail_if_success (with_reducible refine o_s ?_)); go_step))
  go_ret
  exact ⟨rfl, x3⟩

end Go.Proofs.X
