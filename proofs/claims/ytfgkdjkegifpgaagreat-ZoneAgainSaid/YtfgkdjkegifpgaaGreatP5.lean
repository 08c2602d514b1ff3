/- Laws and walks that the proof of the statement is made of (part 5). -/
import Derived.Shelf.SlSortCmp.WholeK
import Derived.Sort.Walk0
import Derived.Test.YtfgkdjkegifpgaaGreatProg
import Derived.Test.YtfgkdjkegifpgaaGreatShelf
import Derived.Shelf.SlSortCmp.NoneTotal
import Derived.Test.YtfgkdjkegifpgaaGreatP1
import Derived.Test.YtfgkdjkegifpgaaGreatP2
import Derived.Test.YtfgkdjkegifpgaaGreatP4
set_option linter.unusedVariables false
set_option linter.unusedSimpArgs false
namespace Go.Proofs.X
open Go.RowKit
/-! ### rows of elements of k cells that the library sorts -/
theorem flatK_toList {α : Type} [Inhabited α] (enc : α → List Value) (k : Nat) (hk : ∀ x, (enc x).length = k) (l : List α) : (Sort.flatK enc k l.toArray).toList = (l.map enc).flatten := by
  have hall : ∀ x ∈ l.map enc, x.length = k := by
    intro x hx
    obtain ⟨y, _, rfl⟩ := List.mem_map.1 hx
    exact hk y
  have hfl := length_flatten_of hall
  have h : Sort.flatK enc k l.toArray = ((l.map enc).flatten).toArray := by
    refine Sort.ext_get! (by simp [hfl]) fun t ht => ?_
    have ht' : t < l.length * k := by simpa using ht
    rw [Sort.get_flatK _ _ _ t (by simpa using ht')]
    have k0 : 0 < k := by
      rcases Nat.eq_zero_or_pos k with h | h
      · subst h; simp at ht'
      · exact h
    have hd : t / k < l.length := Nat.div_lt_of_lt_mul (by rw [Nat.mul_comm]; exact ht')
    have hm : t % k < k := Nat.mod_lt _ k0
    have e1 : l.toArray[t / k]! = l[t / k] := by rw [getElem!_pos _ _ (by simpa using hd)]; simp
    rw [e1]
    have h1 := flatten_at hall (i := t / k) (j := t % k) (e := enc l[t / k]) (x := (enc l[t / k])[t % k]'(by rw [hk]; exact hm)) (by simp [hd]) (List.getElem?_eq_getElem (by rw [hk]; exact hm))
    rw [show t / k * k + t % k = t by rw [Nat.mul_comm]; exact Nat.div_add_mod t k] at h1
    have h2 : t < (l.map enc).flatten.length := (List.getElem?_eq_some_iff.1 h1).1
    rw [getElem!_pos _ t (by simpa using h2)]
    have h3 := (List.getElem?_eq_some_iff.1 h1).2
    simp only [List.getElem_toArray]
    rw [h3, getElem!_pos _ _ (by rw [hk]; exact hm)]
  rw [h]
theorem Own.holdsF {B k e g cap n : Nat} {w : World} {es : List (List Value)} (h : Own B k e w (.slice (some ⟨g, 0, none⟩) n cap) es) : Sort.Holds id w g 0 es.flatten.toArray := by
  rcases h.row.2 with ⟨h0, _⟩ | ⟨g', cap', cur, fz, hv, hb, hg, hfz, hnc, hcm, hcs, htake⟩
  · cases h0
  · simp only [Value.slice.injEq, Option.some.injEq, Addr.mk.injEq, and_true, true_and] at hv
    obtain ⟨rfl, _, rfl⟩ := hv
    have hlen := length_flatten_of h.each
    have hck : es.length * k ≤ cap * k := Nat.mul_le_mul_right k hnc
    intro j hj
    have hj' : j < es.flatten.length := by simpa using hj
    have hjc : j < cur.size := by omega
    constructor
    · rw [Nat.zero_add, cell_of_row w g j cur e fz hg]
      have := congrArg (·[j]?) htake
      simp only [List.getElem?_take, if_pos (show j < es.length * k by omega), List.getElem?_eq_getElem hj'] at this
      rw [← Array.getElem?_toList, this]
      rw [getElem!_pos _ j hj]
      simp
    · rw [Nat.zero_add]; exact not_frozen hg hfz hjc
theorem Own.putRowF {B k e g cap : Nat} {w : World} {es fs : List (List Value)} (h : Own B k e w (.slice (some ⟨g, 0, none⟩) es.length cap) es) (hl : fs.length = es.length) (hf : ∀ x ∈ fs, x.length = k) (n : Nat) (os : Array Obj) :
    Own B k e (Sort.grow (Sort.putRow id (Sort.ahead w n) g 0 fs.flatten.toArray) os) (.slice (some ⟨g, 0, none⟩) es.length cap) fs ∧ Mv (some g) w (Sort.grow (Sort.putRow id (Sort.ahead w n) g 0 fs.flatten.toArray) os) := by
  rcases h.row.2 with ⟨h0, _⟩ | ⟨g', cap', cur, fz, hv, hb, hg, hfz, hnc, hcm, hcs, htake⟩
  · cases h0
  · simp only [Value.slice.injEq, Option.some.injEq, Addr.mk.injEq, and_true, true_and] at hv
    obtain ⟨rfl, rfl⟩ := hv
    have hgs : g < w.heap.size := (Array.getElem?_eq_some_iff.1 hg).1
    have hg2 : (Sort.grow (Sort.putRow id (Sort.ahead w n) g 0 fs.flatten.toArray) os).heap[g]? = some (.cells (Sort.putCells id 0 fs.flatten.toArray cur) e fz) := by
      simp only [Sort.grow, Sort.putRow, Sort.mapBlock, Sort.ahead]
      rw [Array.getElem?_append_left (by simpa using hgs), Array.getElem?_modify, if_pos rfl, hg]
      rfl
    have hsz : (Sort.putCells id 0 fs.flatten.toArray cur).size = cur.size := by simp [Sort.putCells]
    have hlen := length_flatten_of hf
    have hck : es.length * k ≤ cap * k := Nat.mul_le_mul_right k hnc
    refine ⟨⟨⟨hlen, .inr ⟨g, cap, _, fz, by rw [hl], hb, hg2, by rw [hsz]; exact hfz, by omega, hcm, by rw [hsz]; exact hcs, ?_⟩⟩, hf⟩, ⟨rfl, rfl, rfl, ?_, ?_, Nat.le_add_right _ _⟩⟩
    · apply List.ext_getElem?
      intro j
      simp only [List.getElem?_take]
      by_cases hj : j < fs.length * k
      · have hpk : fs.length * k = es.length * k := by rw [hl]
        have hjf : j < fs.flatten.length := by omega
        have hjc : j < cur.toList.length := by rw [Array.length_toList]; omega
        rw [if_pos hj, List.getElem?_eq_getElem hjf]
        simp only [Sort.putCells, Array.toList_mapIdx, List.getElem?_mapIdx]
        rw [List.getElem?_eq_getElem hjc, Option.map_some]
        have hc : (0 ≤ j ∧ j < 0 + fs.flatten.toArray.size) := by constructor; omega; simp only [List.size_toArray]; omega
        rw [if_pos hc]
        simp only [Nat.sub_zero, id]
        rw [getElem!_pos _ j (by simpa only [List.size_toArray] using hjf), List.getElem_toArray]
      · rw [if_neg hj, List.getElem?_eq_none (by omega)]
    · simp only [Sort.grow, Sort.putRow, Sort.mapBlock, Sort.ahead, Array.size_append, Array.size_modify]; omega
    · intro k hk hne
      simp only [Sort.grow, Sort.putRow, Sort.mapBlock, Sort.ahead]
      rw [Array.getElem?_append_left (by simpa using hk), Array.getElem?_modify, if_neg (fun e => hne (by rw [e]))]
end Go.Proofs.X
set_option linter.unusedVariables false
set_option linter.unusedSimpArgs false
namespace Go.Proofs.X
open Go
/-! ### three-way comparisons that order -/
structure TPO {α : Type} (c : α → α → Int) : Prop where
  anti : ∀ x y, c y x = - c x y
  tr : ∀ x y z, c x y ≤ 0 → c y z ≤ 0 → c x z ≤ 0
variable {α : Type} {c d : α → α → Int}
theorem TPO.refl (h : TPO c) (x : α) : c x x = 0 := by have := h.anti x x; omega
theorem TPO.swo (h : TPO c) : Sort.SWO (Go.Proofs.ltOf c) where
  irrefl x := by simp [Go.Proofs.ltOf, h.refl x]
  trans x y z h1 h2 := by
    simp only [Go.Proofs.ltOf, decide_eq_true_eq] at *
    have h3 := h.tr x y z (by omega) (by omega)
    rcases Int.lt_or_eq_of_le h3 with h4 | h4
    · exact h4
    · have a1 := h.anti x z
      have a2 := h.anti y z
      have a3 := h.anti x y
      have := h.tr z x y (by omega) (by omega)
      omega
  ntrans x y z h1 h2 := by
    simp only [Go.Proofs.ltOf, decide_eq_false_iff_not] at *
    have a1 := h.anti x y
    have a2 := h.anti y z
    have a3 := h.anti x z
    have := h.tr z y x (by omega) (by omega)
    omega
theorem TPO.eqL (h : TPO c) {x y z : α} (e : c x y = 0) : c x z ≤ 0 ↔ c y z ≤ 0 := by
  have a := h.anti x y
  exact ⟨fun h1 => h.tr y x z (by omega) h1, fun h1 => h.tr x y z (by omega) h1⟩
theorem TPO.eqR (h : TPO c) {x y z : α} (e : c x y = 0) : c z x ≤ 0 ↔ c z y ≤ 0 := by
  have a := h.anti x y
  exact ⟨fun h1 => h.tr z x y h1 (by omega), fun h1 => h.tr z y x h1 (by omega)⟩
/-- by the first, then by the second -/
def lexC (c d : α → α → Int) (x y : α) : Int := if c x y ≠ 0 then c x y else d x y
theorem TPO.lex (h : TPO c) (k : TPO d) : TPO (lexC c d) where
  anti x y := by
    have a := h.anti x y
    have b := k.anti x y
    unfold lexC
    split <;> split <;> omega
  tr x y z := by
    have a1 := h.anti x y
    have a2 := h.anti y z
    have a3 := h.anti x z
    have t1 := h.tr x y z
    have t2 := h.tr z x y
    have t3 := h.tr y z x
    have t4 := k.tr x y z
    unfold lexC
    intro h1 h2
    split at h1 <;> split at h2 <;> split <;> omega
theorem TPO.comap {β : Type} (h : TPO c) (f : β → α) : TPO (fun x y => c (f x) (f y)) := ⟨fun x y => h.anti _ _, fun x y z => h.tr _ _ _⟩
theorem tpo_int : TPO (fun a b : Int => if a < b then (-1 : Int) else if b < a then 1 else 0) where
  anti x y := by split <;> split <;> (try split) <;> omega
  tr x y z := by
    intro h1 h2
    split at h1 <;> split at h2 <;> split <;> (try omega)
    all_goals (split <;> (try omega))
    all_goals (first | (split at h1 <;> omega) | (split at h2 <;> omega) | (split at h1 <;> split at h2 <;> omega))
theorem bless {a b : List UInt8} : Op.bytesLess a b = true ↔ a < b := by rw [Go.Proofs.bytesLess_eq]; simp
theorem cmpB_val (a b : List UInt8) : cmpB a b = if a < b then -1 else if a = b then 0 else 1 := by
  unfold cmpB
  by_cases h : a < b
  · simp [bless.2 h, h]
  · have : Op.bytesLess a b = false := by
      cases h2 : Op.bytesLess a b with
      | false => rfl
      | true => exact absurd (bless.1 h2) h
    simp [this, h]
theorem tpo_cmpB : TPO cmpB where
  anti x y := by
    rw [cmpB_val, cmpB_val]
    rcases Std.lt_trichotomy x y with h | h | h
    · have h2 : ¬ y < x := fun h9 => Std.lt_irrefl (Std.lt_trans h h9)
      have h3 : x ≠ y := fun e => Std.lt_irrefl (e ▸ h)
      simp [h, h2, h3, Ne.symm h3]
    · subst h
      simp [Std.lt_irrefl]
    · have h2 : ¬ x < y := fun h9 => Std.lt_irrefl (Std.lt_trans h h9)
      have h3 : x ≠ y := fun e => Std.lt_irrefl (e ▸ h)
      simp [h, h2, h3, Ne.symm h3]
  tr x y z := by
    rw [cmpB_val, cmpB_val, cmpB_val]
    intro h1 h2
    by_cases hxy : x < y
    · by_cases hyz : y < z
      · simp [Std.lt_trans hxy hyz]
      · by_cases e : y = z
        · subst e; simp [hxy]
        · simp [hyz, e] at h2
    · by_cases e : x = y
      · subst e; exact h2
      · simp [hxy, e] at h1
theorem tpo_cmpL : TPO cmpL where
  anti := by
    intro x
    induction x with
    | nil => intro y; cases y <;> rfl
    | cons a x ih =>
      intro y
      cases y with
      | nil => rfl
      | cons b y =>
        have h1 := tpo_cmpB.anti a b
        have h2 := ih y
        simp only [cmpL]
        split <;> split <;> omega
  tr := by
    intro x
    induction x with
    | nil => intro y z _ _; cases z <;> simp [cmpL]
    | cons a x ih =>
      intro y z h1 h2
      cases y with
      | nil => simp [cmpL] at h1
      | cons b y =>
        cases z with
        | nil => simp [cmpL] at h2
        | cons e z =>
          have a1 := tpo_cmpB.anti a b
          have a2 := tpo_cmpB.anti b e
          have a3 := tpo_cmpB.anti a e
          have t1 := tpo_cmpB.tr a b e
          have t2 := tpo_cmpB.tr e a b
          have t3 := tpo_cmpB.tr b e a
          have t4 := ih y z
          simp only [cmpL] at *
          split at h1 <;> split at h2 <;> split <;> omega
theorem tpo_cmpN : TPO cmpN where
  anti x y := by
    have h1 := tpo_cmpB.anti x y
    unfold cmpN
    cases hx : turned x <;> cases hy : turned y <;> simp only [] <;> first | exact h1 | rfl | exact tpo_cmpL.anti _ _
  tr x y z := by
    have h1 := tpo_cmpB.tr x y z
    unfold cmpN
    cases hx : turned x <;> cases hy : turned y <;> cases hz : turned z <;> simp only [] <;> first | exact h1 | exact tpo_cmpL.tr _ _ _ | (intros; omega)
end Go.Proofs.X
set_option linter.unusedSimpArgs false
set_option linter.unusedVariables false
namespace Go.Proofs.X
open Go.RowKit
set_option maxRecDepth 100000
/-! ### slices.SortFunc at sets -/
/-- a set as it lies: its data's slice -/
structure SetC where
  name : List UInt8
  kind : Int
  ttl : Int
  a : Option Addr
  n : Nat
  c : Nat
  d : List (List UInt8)
  deriving Inhabited
def SetC.v (s : SetC) : Value := .slice s.a s.n s.c
def SetC.cells (s : SetC) : List Value := [str s.name, .int .i64 s.kind, .int .i64 s.ttl, s.v]
def cmpC (x y : SetC) : Int := cmpSet x.name y.name x.kind y.kind
theorem tpo_cmpSet : TPO (fun x y : List UInt8 × Int => cmpSet x.1 y.1 x.2 y.2) :=
  (tpo_cmpN.comap Prod.fst).lex (tpo_int.comap Prod.snd)
theorem tpo_cmpC : TPO cmpC := tpo_cmpSet.comap fun s : SetC => (s.name, s.kind)
theorem t20 {B g cap : Nat} (l : List SetC) (w : World) (h : Own B 4 35 w (.slice (some ⟨g, 0, none⟩) l.length cap) (l.map SetC.cells)) (hl : l.length < 4611686018427387904) :
    Calls Tryz.prog 49 #[.slice (some ⟨g, 0, none⟩) l.length cap, .func (.func 50) #[] #[]] w fun e w' => e = .returned (.tuple #[]) ∧ ∃ l' : List SetC, l'.Perm l ∧ (∀ i j (hi : i < j) (hj : j < l'.length), 0 ≤ cmpC l'[j] l'[i]) ∧ Own B 4 35 w' (.slice (some ⟨g, 0, none⟩) l'.length cap) (l'.map SetC.cells) ∧ Mv (some g) w w' := by
  have hlen : (l.map SetC.cells).length = l.length := by simp
  have h0 := h
  rw [← hlen] at h0
  have eg : ∀ args w, (callFunc 50 args).run Tryz.prog w = .ok (.enter 50 args) w := enters_of Tryz.func50 (by kernel_rfl) rfl
  have hk : ∀ x, (SetC.cells x).length = 4 := fun _ => rfl
  have hfl := flatK_toList SetC.cells 4 hk l
  have hH : Sort.HoldsK SetC.cells 4 w g 0 l.toArray := by
    unfold Sort.HoldsK
    have := h.holdsF
    rw [← hfl] at this
    simpa using this
  have hcmp : Go.Proofs.CmpLays Tryz.prog 50 #[] SetC.cells 4 cmpC g 0 l.toArray.size w := by
    intro m os dk hdk x y
    refine (t21 x.name y.name x.kind y.kind x.ttl y.ttl x.v y.v _).mono ?_
    rintro e w' ⟨rfl, hx⟩
    exact ⟨rfl, hx.grown⟩
  have hc := Go.Proofs.AnyQ.slices_SortFunc Tryz.sortSet 4 (fun w => isAgg_yes (u := (Tryz.prog.underlying 35).getD (.struct #[])) (by rfl) (by rfl)) (fun w => by obtain ⟨i, hq, hz⟩ := info_of (sizeTy_spec (show sizeTy Tryz.prog 35 4 = true by decide +kernel)); exact (by simp [sizeOf, typeInfo, hq, hz] : (Go.sizeOf 35).run Tryz.prog w = .ok 4 w)) SetC.cells hk (fun x v hv => by
      simp only [SetC.cells, List.mem_cons, List.not_mem_nil, or_false] at hv
      rcases hv with rfl | rfl | rfl | rfl <;> rfl) cmpC tpo_cmpC.swo 50 #[] g 0 cap l.toArray w eg hcmp hH (h.block g rfl).2 (by simpa using hl)
  change Calls Tryz.prog 49 _ _ _ at hc
  refine hc.mono ?_
  rintro e w' ⟨rfl, d', n, os, hp, hs, rfl⟩
  obtain ⟨p1, p2, p3⟩ := hp
  have hd : d'.toList.length = l.length := by simpa using p1
  have hfl2 := flatK_toList SetC.cells 4 hk d'.toList
  have hperm : d'.toList.Perm l := by
    have e1 : d'.extract 0 l.toArray.size = d' := by rw [← p1]; simp
    have e2 : l.toArray.extract 0 l.toArray.size = l.toArray := by simp
    rw [e1, e2] at p3
    simpa using p3
  have hput := h0.putRowF (fs := d'.toList.map SetC.cells) (by simpa using hd) (by intro x hx; obtain ⟨y, _, rfl⟩ := List.mem_map.1 hx; rfl) n os
  have hrow : Go.Proofs.sortWorldK SetC.cells 4 w g 0 n d' os = Sort.grow (Sort.putRow id (Sort.ahead w n) g 0 (d'.toList.map SetC.cells).flatten.toArray) os := by
    unfold Go.Proofs.sortWorldK Sort.putRowK
    rw [← hfl2]
  rw [hrow]
  refine ⟨rfl, d'.toList, hperm, ?_, ?_, hput.2⟩
  · intro i j hi hj
    have hjs : j < d'.size := by simpa using hj
    have := hs i j (Nat.zero_le _) hi (by rw [← p1]; exact hjs)
    rw [getElem!_pos d' j hjs, getElem!_pos d' i (by omega)] at this
    simp only [Go.Proofs.ltOf, decide_eq_false_iff_not] at this
    simp only [Array.getElem_toList]
    omega
  · have := hput.1
    rw [hlen] at this
    rw [hd]
    exact this
theorem t20nil (v : Value) (w : World) : Calls Tryz.prog 49 #[.slice none 0 0, v] w fun e w' => e = .returned (.tuple #[]) ∧ w' = w := by
  have h := Go.Proofs.AnyF.slices_SortFunc_none Tryz.sortSet none 0 v w
  change Calls Tryz.prog 49 _ _ _ at h
  exact h

end Go.Proofs.X
set_option linter.unusedSimpArgs false
set_option linter.unusedVariables false
namespace Go.Proofs.X
open Go.RowKit
set_option maxRecDepth 100000
/-! ### rrset.Group: what it builds -/
def match1 (s : RSet) (r : Rec) : Bool := decide (s.name = fold r.name) && decide (s.kind = r.kind)
def bump (s : RSet) (r : Rec) : RSet := ⟨s.name, s.kind, min s.ttl r.ttl, s.data ++ [r.data]⟩
def addTo : List RSet → Rec → List RSet
  | [], r => [⟨fold r.name, r.kind, r.ttl, [r.data]⟩]
  | s :: l, r => if match1 s r = true then bump s r :: l else s :: addTo l r
def Apart (gs : List RSet) : Prop := ∀ (i j : Nat) s t, gs[i]? = some s → gs[j]? = some t → i ≠ j → ¬ (s.name = t.name ∧ s.kind = t.kind)
theorem addTo_hit {r : Rec} : ∀ {gs : List RSet} {i : Nat} {s : RSet}, gs[i]? = some s → match1 s r = true → Apart gs → addTo gs r = gs.set i (bump s r)
  | [], i, s, h, _, _ => by simp at h
  | a :: l, 0, s, h, hm, _ => by
    cases h
    simp [addTo, hm]
  | a :: l, i + 1, s, h, hm, hd => by
    have ha : match1 a r = false := by
      cases hx : match1 a r with
      | false => rfl
      | true =>
        exfalso
        simp only [match1, Bool.and_eq_true, decide_eq_true_eq] at hm hx
        exact hd 0 (i + 1) a s rfl h (by omega) ⟨by rw [hx.1, hm.1], by rw [hx.2, hm.2]⟩
    have := addTo_hit (gs := l) (i := i) (by simpa using h) hm (fun p q s t hp hq hpq => hd (p + 1) (q + 1) s t (by simpa using hp) (by simpa using hq) (by omega))
    simp [addTo, ha, this]
theorem addTo_miss {r : Rec} : ∀ {gs : List RSet}, (∀ s ∈ gs, match1 s r = false) → addTo gs r = gs ++ [⟨fold r.name, r.kind, r.ttl, [r.data]⟩]
  | [], _ => rfl
  | a :: l, h => by
    have := addTo_miss (gs := l) (fun s hs => h s (by simp [hs]))
    simp [addTo, h a (by simp), this]
theorem addTo_keys {r : Rec} : ∀ {gs : List RSet} {s : RSet}, s ∈ addTo gs r → (∃ t ∈ gs, t.name = s.name ∧ t.kind = s.kind) ∨ (s.name = fold r.name ∧ s.kind = r.kind)
  | [], s, h => by
    simp only [addTo, List.mem_singleton] at h
    subst h; exact .inr ⟨rfl, rfl⟩
  | a :: l, s, h => by
    unfold addTo at h
    split at h
    · rename_i hm
      simp only [match1, Bool.and_eq_true, decide_eq_true_eq] at hm
      rcases List.mem_cons.1 h with rfl | h
      · exact .inr ⟨hm.1, hm.2⟩
      · exact .inl ⟨s, by simp [h], rfl, rfl⟩
    · rcases List.mem_cons.1 h with rfl | h
      · exact .inl ⟨s, by simp, rfl, rfl⟩
      · rcases addTo_keys h with ⟨t, ht, h2⟩ | h2
        · exact .inl ⟨t, by simp [ht], h2⟩
        · exact .inr h2
theorem apart_pw {gs : List RSet} : Apart gs ↔ gs.Pairwise fun s t => ¬ (s.name = t.name ∧ s.kind = t.kind) := by
  rw [List.pairwise_iff_getElem]
  constructor
  · intro h i j hi hj hij
    exact h i j _ _ (List.getElem?_eq_getElem hi) (List.getElem?_eq_getElem hj) (by omega)
  · intro h i j s t hs ht hij
    obtain ⟨hi, rfl⟩ := List.getElem?_eq_some_iff.1 hs
    obtain ⟨hj, rfl⟩ := List.getElem?_eq_some_iff.1 ht
    rcases Nat.lt_or_ge i j with h1 | h1
    · exact h i j hi hj h1
    · have := h j i hj hi (by omega)
      exact fun ⟨a, b⟩ => this ⟨a.symm, b.symm⟩
theorem addTo_apart {r : Rec} : ∀ {gs : List RSet}, Apart gs → Apart (addTo gs r)
  | [], _ => by rw [apart_pw]; simp [addTo]
  | a :: l, h => by
    rw [apart_pw] at h ⊢
    obtain ⟨h1, h2⟩ := List.pairwise_cons.1 h
    unfold addTo
    split
    · rename_i hm
      exact List.pairwise_cons.2 ⟨fun t ht => h1 t ht, h2⟩
    · rename_i hm
      refine List.pairwise_cons.2 ⟨fun t ht => ?_, apart_pw.1 (addTo_apart (apart_pw.2 h2))⟩
      rcases addTo_keys ht with ⟨u, hu, e1, e2⟩ | ⟨e1, e2⟩
      · have := h1 u hu
        rw [e1, e2] at this
        exact this
      · rintro ⟨f1, f2⟩
        exact hm (by simp [match1, f1, f2, e1, e2])
def gather (l : List Rec) : List RSet := l.foldl addTo []
theorem gather_apart (l : List Rec) : Apart (gather l) := by
  unfold gather
  suffices ∀ (l : List Rec) gs, Apart gs → Apart (l.foldl addTo gs) from this l [] (by intro i j s t h; simp at h)
  intro l
  induction l with
  | nil => exact fun _ h => h
  | cons r l ih => exact fun gs h => ih _ (addTo_apart h)
theorem gather_snoc {l : List Rec} {k : Nat} (h : k < l.length) : gather (l.take (k + 1)) = addTo (gather (l.take k)) l[k] := by
  unfold gather
  rw [List.take_add_one, List.getElem?_eq_getElem h, List.foldl_append]
  rfl
theorem addTo_len {r : Rec} : ∀ {gs : List RSet}, (addTo gs r).length ≤ gs.length + 1
  | [] => by simp [addTo]
  | a :: l => by
    have := addTo_len (r := r) (gs := l)
    unfold addTo
    split <;> simp <;> omega
def total (gs : List RSet) : Nat := (gs.map fun s => s.data.length).sum
theorem addTo_total {r : Rec} : ∀ {gs : List RSet}, total (addTo gs r) = total gs + 1
  | [] => by simp [addTo, total]
  | a :: l => by
    have := addTo_total (r := r) (gs := l)
    unfold total at this
    unfold addTo
    split
    · simp [total, bump]; omega
    · simp [total, this]; omega
theorem gather_total (l : List Rec) : total (gather l) = l.length := by
  unfold gather
  suffices ∀ (l : List Rec) gs, total (l.foldl addTo gs) = total gs + l.length from by simpa [total] using this l []
  intro l
  induction l with
  | nil => intro gs; simp
  | cons r l ih => intro gs; rw [List.foldl_cons, ih, addTo_total]; simp; omega
theorem gather_len (l : List Rec) : (gather l).length ≤ l.length := by
  unfold gather
  suffices ∀ (l : List Rec) gs, (l.foldl addTo gs).length ≤ gs.length + l.length from by simpa using this l []
  intro l
  induction l with
  | nil => intro gs; simp
  | cons r l ih => intro gs; rw [List.foldl_cons]; have := ih (addTo gs r); have := addTo_len (r := r) (gs := gs); simp; omega
theorem total_le {gs : List RSet} {s : RSet} (h : s ∈ gs) : s.data.length ≤ total gs := by
  induction gs with
  | nil => simp at h
  | cons a l ih =>
    unfold total at *
    rcases List.mem_cons.1 h with rfl | h
    · simp
    · have := ih h; simp; omega
/-! ### the sets as they lie while they grow -/
structure GC where
  b : Nat
  v : Value
  s : RSet
def GC.cells (c : GC) : List Value := [str c.s.name, .int .i64 c.s.kind, .int .i64 c.s.ttl, c.v]
def GC.key (c : GC) : Value × Value := (.agg #[str c.s.name, .int .i64 c.s.kind], .pointer (some ⟨c.b, 0, none⟩))
def GC.kcells (c : GC) : List Value := [str c.s.name, .int .i64 c.s.kind]
structure GOK (w : World) (B : Nat) (c : GC) : Prop where
  blk : w.heap[c.b]? = some (.cells c.cells.toArray 35 (0, 0))
  ge : B ≤ c.b
  own : Own B 1 9 w c.v (tcells c.s.data)
structure GS (w : World) (B : Nat) (gcs : List GC) : Prop where
  each : ∀ c ∈ gcs, GOK w B c
  apart : gcs.Pairwise fun c c' => c.b ≠ c'.b ∧ (c.v.ownBlock = none ∨ c'.v.ownBlock = none ∨ c.v.ownBlock ≠ c'.v.ownBlock)
theorem Own.type {B k e : Nat} {w : World} {v : Value} {es : List (List Value)} (h : Own B k e w v es) {r : Nat} (hr : v.ownBlock = some r) : ∃ cur fz, w.heap[r]? = some (.cells cur e fz) := by
  rcases h.row.2 with ⟨rfl, _⟩ | ⟨g, cap, cur, fz, rfl, hb, hg, _⟩
  · simp [Value.ownBlock] at hr
  · simp [Value.ownBlock] at hr; subst hr; exact ⟨cur, fz, hg⟩
theorem Own.neBlock {B k e t b : Nat} {w : World} {v : Value} {es : List (List Value)} {cs : Array Value} {fz : Nat × Nat} (h : Own B k e w v es) (hb : w.heap[b]? = some (.cells cs t fz)) (ht : t ≠ e) : v.ownBlock ≠ some b := fun e' => by
  obtain ⟨cur, fz', h'⟩ := h.type e'
  rw [hb] at h'
  simp only [Option.some.injEq, Obj.cells.injEq] at h'
  exact ht h'.2.1
theorem Own.neMap {B k e m c : Nat} {es' : Array MapEntry} {w : World} {v : Value} {es : List (List Value)} (h : Own B k e w v es) (hb : w.heap[m]? = some (.map es' c)) : v.ownBlock ≠ some m := fun e' => by
  obtain ⟨cur, fz', h'⟩ := h.type e'
  rw [hb] at h'
  cases h'
theorem Own.ne {B k e B' k' e' : Nat} {w : World} {v v' : Value} {es es' : List (List Value)} (h : Own B k e w v es) (h' : Own B' k' e' w v' es') (he : e ≠ e') : v.ownBlock = none ∨ v.ownBlock ≠ v'.ownBlock := by
  cases hv : v.ownBlock with
  | none => exact .inl rfl
  | some r =>
    refine .inr fun e2 => ?_
    obtain ⟨cur, fz, h1⟩ := h.type hv
    exact h'.neBlock h1 he e2.symm
/-- what leaves a set's block and its data's row alone leaves the set alone -/
theorem GOK.mv {w w' : World} {B : Nat} {c : GC} {row : Option Nat} (h : GOK w B c) (hm : Mv row w w') (h1 : some c.b ≠ row) (h2 : c.v.ownBlock = none ∨ c.v.ownBlock ≠ row) : GOK w' B c :=
  ⟨hm.at h.blk h1, h.ge, h.own.mv hm h2⟩
theorem GS.ext {w w' : World} {B : Nat} {gcs : List GC} (h : GS w B gcs) (hx : Ext w w') : GS w' B gcs :=
  ⟨fun c hc => (h.each c hc).mv (hx.mv none) (by simp) (by cases c.v.ownBlock <;> simp), h.apart⟩

end Go.Proofs.X
set_option linter.unusedSimpArgs false
set_option linter.unusedVariables false
namespace Go.Proofs.X
open Go.RowKit
set_option maxRecDepth 100000
theorem pw_set {α : Type} {R : α → α → Prop} {l : List α} {i : Nat} {c : α} (h : l.Pairwise R) (hi : i < l.length) (h1 : ∀ j (hj : j < i), R l[j] c) (h2 : ∀ j (hj : i < j) (hl : j < l.length), R c l[j]) : (l.set i c).Pairwise R := by
  rw [List.pairwise_iff_getElem] at *
  intro p q hp hq hpq
  simp only [List.length_set] at hp hq
  simp only [List.getElem_set]
  by_cases e1 : i = p
  · subst e1
    rw [if_pos rfl, if_neg (by omega)]
    exact h2 q hpq hq
  · by_cases e2 : i = q
    · subst e2
      rw [if_neg e1, if_pos rfl]
      exact h1 p hpq
    · rw [if_neg e1, if_neg e2]
      exact h p q hp hq hpq
theorem GS.split {w : World} {B : Nat} {gcs : List GC} (h : GS w B gcs) {i j : Nat} {c c' : GC} (hi : gcs[i]? = some c) (hj : gcs[j]? = some c') (hij : i ≠ j) : c.b ≠ c'.b ∧ (c.v.ownBlock = none ∨ c'.v.ownBlock = none ∨ c.v.ownBlock ≠ c'.v.ownBlock) := by
  have := List.pairwise_iff_getElem.1 h.apart
  obtain ⟨hi2, e1⟩ := List.getElem?_eq_some_iff.1 hi
  obtain ⟨hj2, e2⟩ := List.getElem?_eq_some_iff.1 hj
  subst e1 e2
  rcases Nat.lt_or_ge i j with h1 | h1
  · exact this i j hi2 hj2 h1
  · obtain ⟨a, b⟩ := this j i hj2 hi2 (by omega)
    exact ⟨fun e => a e.symm, by rcases b with b | b | b; exact .inr (.inl b); exact .inl b; exact .inr (.inr fun e => b e.symm)⟩
theorem mem_set_at {α : Type} {l : List α} {i : Nat} {c x : α} (h : x ∈ l.set i c) : x = c ∨ ∃ j, j ≠ i ∧ l[j]? = some x := by
  obtain ⟨j, hj⟩ := List.mem_iff_getElem?.1 h
  by_cases e : j = i
  · subst e
    have hl : j < l.length := by simpa using (List.getElem?_eq_some_iff.1 hj).1
    rw [List.getElem?_set_self hl] at hj
    exact .inl (Option.some.inj hj).symm
  · rw [List.getElem?_set_ne (Ne.symm e)] at hj
    exact .inr ⟨j, e, hj⟩
/-- one set is another one: its data's row may be another one, or turned -/
theorem GS.turn {w w1 w2 : World} {B : Nat} {gcs : List GC} {i : Nat} {c c' : GC} (h : GS w B gcs) (hi : gcs[i]? = some c) (hb : c'.b = c.b) (m : Mv c.v.ownBlock w w1) (o : Own B 1 9 w1 c'.v (tcells c'.s.data))
    (kin : c'.v.ownBlock = c.v.ownBlock ∨ c'.v.ownBlock = some w.heap.size) (hp : Put w1 w2 c.b (.cells c'.cells.toArray 35 (0, 0))) : GS w2 B (gcs.set i c') := by
  have hc := h.each c (List.mem_of_getElem? hi)
  have hil := (List.getElem?_eq_some_iff.1 hi).1
  have hcb : c.v.ownBlock ≠ some c.b := hc.own.neBlock hc.blk (by omega)
  have ho : Own B 1 9 w2 c'.v (tcells c'.s.data) := o.mv hp.mv (.inr (o.neBlock (cs := c.cells.toArray) (fz := (0, 0)) (m.at hc.blk (fun e => hcb e.symm)) (by omega)))
  have hother : ∀ j x, j ≠ i → gcs[j]? = some x → GOK w2 B x ∧ x.b ≠ c.b ∧ (x.v.ownBlock = none ∨ x.v.ownBlock ≠ c'.v.ownBlock) := by
    intro j x hj hx
    have hxo := h.each x (List.mem_of_getElem? hx)
    obtain ⟨s1, s2⟩ := h.split hx hi hj
    have n1 : some x.b ≠ c.v.ownBlock := fun e => (hc.own.neBlock hxo.blk (by omega)) e.symm
    have n2 : x.v.ownBlock = none ∨ x.v.ownBlock ≠ c.v.ownBlock := by
      rcases s2 with s2 | s2 | s2
      · exact .inl s2
      · cases hv : x.v.ownBlock with
        | none => exact .inl rfl
        | some r => rw [s2]; exact .inr (by simp)
      · exact .inr s2
    have g1 := hxo.mv m n1 n2
    refine ⟨g1.mv hp.mv (fun e => s1 (Option.some.inj e)) (.inr (hxo.own.neBlock hc.blk (by omega))), s1, ?_⟩
    rcases kin with k | k
    · rw [k]; exact n2
    · rw [k]
      cases hv : x.v.ownBlock with
      | none => exact .inl rfl
      | some r => exact .inr fun e => by have := (hxo.own.block r hv).2; have := Option.some.inj e; omega
  refine ⟨fun x hx => ?_, pw_set h.apart hil (fun j hj => ?_) (fun j hj hl => ?_)⟩
  · rcases mem_set_at hx with rfl | ⟨j, hj, hx⟩
    · exact ⟨by rw [hb]; exact hp.this, by rw [hb]; exact hc.ge, ho⟩
    · exact (hother j x hj hx).1
  · obtain ⟨_, a, b⟩ := hother j gcs[j] (by omega) (List.getElem?_eq_getElem (by omega))
    exact ⟨by rw [hb]; exact a, by rcases b with b | b; exact .inl b; exact .inr (.inr b)⟩
  · obtain ⟨_, a, b⟩ := hother j gcs[j] (by omega) (List.getElem?_eq_getElem hl)
    exact ⟨by rw [hb]; exact fun e => a e.symm, by rcases b with b | b; exact .inr (.inl b); exact .inr (.inr fun e => b e.symm)⟩
/-- a set is put to them -/
theorem GS.push {w : World} {B : Nat} {gcs : List GC} {c : GC} (h : GS w B gcs) (hc : GOK w B c) (hn : ∀ x ∈ gcs, x.b ≠ c.b) (hv : c.v.ownBlock = none) : GS w B (gcs ++ [c]) := by
  refine ⟨fun x hx => ?_, ?_⟩
  · rcases List.mem_append.1 hx with hx | hx
    · exact h.each x hx
    · rw [List.mem_singleton.1 hx]; exact hc
  · rw [List.pairwise_append]
    refine ⟨h.apart, by simp, fun x hx y hy => ?_⟩
    rw [List.mem_singleton.1 hy]
    exact ⟨hn x hx, .inr (.inl hv)⟩
/-- what leaves all of them alone -/
theorem GS.mv {w w' : World} {B : Nat} {gcs : List GC} {row : Option Nat} (h : GS w B gcs) (hm : Mv row w w') (h1 : ∀ c ∈ gcs, some c.b ≠ row ∧ (c.v.ownBlock = none ∨ c.v.ownBlock ≠ row)) : GS w' B gcs :=
  ⟨fun c hc => (h.each c hc).mv hm (h1 c hc).1 (h1 c hc).2, h.apart⟩
theorem kt48 : Tryz.prog.keyTypeAt 2 72 = true := by kernel_rfl
theorem ktiled48 : Tryz.prog.tiled 2 72 = true := by kernel_rfl
theorem law48 : WideMaps.KeyLaw Tryz.prog 72 := deep_law (m := 2) (by omega) kt48 ktiled48 (by kernel_rfl)
theorem keyOf48 (n : List UInt8) (k : Int) (hn : n.length ≤ 1000000) (hk : 0 ≤ k ∧ k ≤ 65535) : ∃ l, keyOf Tryz.prog 72 (.agg #[str n, .int .i64 k]) = some l := by
  unfold keyOf
  rw [Tryz.underlying72]
  have kt2 : Tryz.prog.keyType 72 = true := by kernel_rfl
  simp only [kt2]
  rw [show Tryz.prog.types.size = 188 from by kernel_rfl]
  have c48 : Tryz.prog.cellsOf 72 = 2 := by kernel_rfl
  have c30 : Tryz.prog.cellsOf 31 = 1 := by kernel_rfl
  have c3 : Tryz.prog.cellsOf 3 = 1 := by kernel_rfl
  have f : Value.formed Tryz.prog 72 (Value.agg #[str n, Value.int IntKind.i64 k]) = true := by simp [Value.formed, Tryz.underlying72, c48]
  have hs : (ByteArray.mk n.toArray).size ≤ maxLen := by rw [size_mk]; unfold maxLen; omega
  have hw : (Lit.int .i64 k).wf = true := by simp [Lit.wf, IntKind.min, IntKind.max, IntKind.bits, IntKind.signed]; omega
  have l30 : Tryz.prog.keyLits 188 31 [str n] = some [.string n] := by simp [Program.keyLits, Tryz.underlying31, str, -ByteArray.size_data, hs]
  have l3 : Tryz.prog.keyLits 188 3 [Value.int .i64 k] = some [.int .i64 k] := by simp [Program.keyLits, Tryz.underlying3, hw]
  rw [f]
  simp only [Bool.and_self, if_true]
  unfold Program.keyLits
  simp [Tryz.underlying72, c48, c30, c3, Value.cells, l30, l3]
/-- what Group holds while it gathers -/
structure L1 (w0 w : World) (kv : Value) (gcs : List GC) : Prop where
  ext : Ext w0 w
  map : MapAt Tryz.prog 72 w w0.heap.size (gcs.map GC.key)
  keys : Own (w0.heap.size + 1) 2 72 w kv (gcs.map GC.kcells)
  sets : GS w (w0.heap.size + 1) gcs
theorem L1.grow {w0 w w' : World} {kv : Value} {gcs : List GC} (h : L1 w0 w kv gcs) (hx : Ext w w') : L1 w0 w' kv gcs :=
  ⟨h.ext.trans hx, h.map.at (fun o ho => hx.at ho), h.keys.ext hx, h.sets.ext hx⟩

end Go.Proofs.X
set_option linter.unusedSimpArgs false
set_option linter.unusedVariables false
namespace Go.Proofs.X
open Go.RowKit
set_option maxRecDepth 100000
theorem Sl.slf {k : Nat} {w : World} {v : Value} {es : List (List Value)} (h : Sl k w v es) : ∃ a n c, v = .slice a n c := by
  obtain ⟨a, c, h1, _⟩ := h
  exact ⟨a, _, c, h1⟩
/-- the cells of sets -/
structure SetsC (w : World) (css : List (List Value)) (l : List RSet) : Prop where
  len : css.length = l.length
  at' : ∀ (i : Nat) (s : RSet), l[i]? = some s → ∃ x, css[i]? = some [str s.name, .int .i64 s.kind, .int .i64 s.ttl, x] ∧ Sl 1 w x (tcells s.data)
theorem SetsAt.rows {w : World} {v : Value} {l : List RSet} (h : SetsAt w v l) : ∃ css, Sl 4 w v css ∧ SetsC w css l := by
  obtain ⟨css, h1, h2, h3⟩ := h.out
  exact ⟨css, h1, h2, h3⟩
theorem SetsC.sets {w : World} {v : Value} {l : List RSet} {css : List (List Value)} (h : SetsC w css l) (hv : Sl 4 w v css) : SetsAt w v l := ⟨css, hv, h.len, h.at'⟩
theorem SetsC.ext {w w' : World} {l : List RSet} {css : List (List Value)} (h : SetsC w css l) (hx : Ext w w') : SetsC w' css l :=
  ⟨h.len, fun i s hi => let ⟨x, a, b⟩ := h.at' i s hi; ⟨x, a, b.ext hx⟩⟩
theorem SetsC.append {w : World} {l m : List RSet} {c d : List (List Value)} (h : SetsC w c l) (k : SetsC w d m) : SetsC w (c ++ d) (l ++ m) := by
  refine ⟨by rw [List.length_append, List.length_append, h.len, k.len], fun i s hi => ?_⟩
  rw [List.getElem?_append] at hi ⊢
  rw [h.len]
  split at hi
  · rw [if_pos ‹_›]; exact h.at' i s hi
  · rw [if_neg ‹_›]; exact k.at' _ s hi
theorem SetsC.take {w : World} {l : List RSet} {c : List (List Value)} (h : SetsC w c l) (n : Nat) : SetsC w (c.take n) (l.take n) := by
  refine ⟨by simp [h.len], fun i s hi => ?_⟩
  rw [List.getElem?_take] at hi ⊢
  split at hi
  · rw [if_pos ‹_›]; exact h.at' i s hi
  · cases hi
theorem SetsC.drop {w : World} {l : List RSet} {c : List (List Value)} (h : SetsC w c l) (n : Nat) : SetsC w (c.drop n) (l.drop n) := by
  refine ⟨by simp [h.len], fun i s hi => ?_⟩
  rw [List.getElem?_drop] at hi ⊢
  exact h.at' _ s hi
theorem SetsC.one {w : World} {s : RSet} {x : Value} (h : Sl 1 w x (tcells s.data)) : SetsC w [[str s.name, .int .i64 s.kind, .int .i64 s.ttl, x]] [s] :=
  ⟨rfl, fun i t hi => by
    match i, hi with
    | 0, hi => cases hi; exact ⟨x, rfl, h⟩⟩
theorem SetsC.cell {w : World} {l : List RSet} {c : List (List Value)} (h : SetsC w c l) : ∀ f ∈ c, ∀ u ∈ f, u.oneCell' = true := by
  intro f hf u hu
  obtain ⟨i, hi, rfl⟩ := List.mem_iff_getElem.1 hf
  obtain ⟨x, h1, h2⟩ := h.at' i _ (List.getElem?_eq_getElem (by rw [← h.len]; exact hi))
  rw [List.getElem?_eq_getElem hi] at h1
  rw [Option.some.inj h1] at hu
  simp only [List.mem_cons, List.not_mem_nil, or_false] at hu
  rcases hu with rfl | rfl | rfl | rfl
  · rfl
  · rfl
  · rfl
  · exact h2.one
/-- a slice whose block is at or above B -/
def From (B : Nat) (v : Value) : Prop := ∀ b o s n c, v = .slice (some ⟨b, o, s⟩) n c → B ≤ b
theorem From.weaken {B C : Nat} {v : Value} (h : From B v) (hc : C ≤ B) : From C v := fun b o s n c e => Nat.le_trans hc (h b o s n c e)
theorem Own.from' {B C k e : Nat} {w : World} {v : Value} {es : List (List Value)} (h : Own B k e w v es) (hc : C ≤ B) : From C v := by
  intro b o s n c hv
  rcases h.form with ⟨rfl, _⟩ | ⟨g, cap, rfl, _, hg, _⟩
  · cases hv
  · simp only [Value.slice.injEq, Option.some.injEq, Addr.mk.injEq] at hv
    obtain ⟨⟨rfl, _⟩, _⟩ := hv
    exact Nat.le_trans hc hg
/-- each slice of cells is at or above B -/
def FromC (B : Nat) (css : List (List Value)) : Prop := ∀ f ∈ css, ∀ u ∈ f, From B u
theorem FromC.append {B : Nat} {c d : List (List Value)} (h : FromC B c) (k : FromC B d) : FromC B (c ++ d) := fun f hf => by
  rcases List.mem_append.1 hf with hf | hf
  · exact h f hf
  · exact k f hf
theorem FromC.take {B : Nat} {c : List (List Value)} (h : FromC B c) (n : Nat) : FromC B (c.take n) := fun f hf => h f (List.mem_of_mem_take hf)
theorem FromC.drop {B : Nat} {c : List (List Value)} (h : FromC B c) (n : Nat) : FromC B (c.drop n) := fun f hf => h f (List.mem_of_mem_drop hf)
theorem FromC.one {B : Nat} {n : List UInt8} {k t : Int} {x : Value} (h : From B x) : FromC B [[str n, .int .i64 k, .int .i64 t, x]] := by
  intro f hf u hu
  simp only [List.mem_cons, List.not_mem_nil, or_false] at hf
  subst hf
  simp only [List.mem_cons, List.not_mem_nil, or_false] at hu
  rcases hu with rfl | rfl | rfl | rfl
  · intro b o s n c e; cases e
  · intro b o s n c e; cases e
  · intro b o s n c e; cases e
  · exact h
/-- sets whose blocks are at or above B -/
structure SetsO (B : Nat) (w : World) (v : Value) (l : List RSet) : Prop where
  out : ∃ css, Sl 4 w v css ∧ From B v ∧ SetsC w css l ∧ FromC B css
theorem SetsO.sets {B : Nat} {w : World} {v : Value} {l : List RSet} (h : SetsO B w v l) : SetsAt w v l := by
  obtain ⟨css, h1, _, h2, _⟩ := h
  exact h2.sets h1
theorem SetsO.ext {B : Nat} {w w' : World} {v : Value} {l : List RSet} (h : SetsO B w v l) (hx : Ext w w') : SetsO B w' v l := by
  obtain ⟨css, h1, h2, h3, h4⟩ := h
  exact ⟨css, h1.ext hx, h2, h3.ext hx, h4⟩
theorem SetsO.weaken {B C : Nat} {w : World} {v : Value} {l : List RSet} (h : SetsO B w v l) (hc : C ≤ B) : SetsO C w v l := by
  obtain ⟨css, h1, h2, h3, h4⟩ := h
  exact ⟨css, h1, h2.weaken hc, h3, fun f hf u hu => (h4 f hf u hu).weaken hc⟩
theorem Sl.put {B k b : Nat} {w w' : World} {v : Value} {es : List (List Value)} {o : Obj} (h : Sl k w v es) (hf : From B v) (hp : Put w w' b o) (hb : b < B) : Sl k w' v es := by
  obtain ⟨a, cap, h1, h2, h3, h4, h5, h6⟩ := h
  refine ⟨a, cap, h1, h2, h3, h4, h5, fun hn => ?_⟩
  obtain ⟨g, o, e, hc⟩ := h6 hn
  have hg : B ≤ g := hf g o none _ _ (by rw [h1, e])
  exact ⟨g, o, e, fun i e j x h1 h2 => (World.cell?_of_block (hp.other g (by omega))).trans (hc i e j x h1 h2)⟩
theorem SetsO.put {B b : Nat} {w w' : World} {v : Value} {l : List RSet} {o : Obj} (h : SetsO B w v l) (hp : Put w w' b o) (hb : b < B) : SetsO B w' v l := by
  obtain ⟨css, h1, h2, h3, h4⟩ := h
  refine ⟨css, h1.put h2 hp hb, h2, ⟨h3.len, fun i s hi => ?_⟩, h4⟩
  obtain ⟨x, e, hx⟩ := h3.at' i s hi
  exact ⟨x, e, hx.put (h4 _ (List.mem_of_getElem? e) x (by simp)) hp hb⟩
theorem SetsO.nil (B : Nat) (w : World) : SetsO B w (.slice none 0 0) [] := ⟨[], Sl.nil _ _, (by intro b o s n c e; cases e), ⟨rfl, by simp⟩, by intro f hf; cases hf⟩

end Go.Proofs.X
