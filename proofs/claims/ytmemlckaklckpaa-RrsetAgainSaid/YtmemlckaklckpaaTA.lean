/- A part of the proof of a statement on sets of records: what some functions of the program do, walked step by step. -/
import Derived.Test.YtmemlckaklckpaaTF
import Derived.Test.YtmemlckaklckpaaTL
set_option linter.unusedSimpArgs false
set_option linter.unusedVariables false
namespace Go.Proofs.X
open Go.RowKit
set_option maxRecDepth 100000
/-! ### plain laws: each record is in the set that is found -/
theorem apart_eq {gs : List RSet} (h : Apart gs) {s t : RSet} (hs : s ∈ gs) (ht : t ∈ gs) (hn : s.name = t.name) (hk : s.kind = t.kind) : s = t := by
  obtain ⟨i, hi⟩ := List.mem_iff_getElem?.1 hs
  obtain ⟨j, hj⟩ := List.mem_iff_getElem?.1 ht
  by_cases e : i = j
  · subst e
    rw [hi] at hj
    exact Option.some.inj hj
  · exact absurd ⟨hn, hk⟩ (h i j s t hi hj e)
theorem group_found {l : List Rec} {out : List RSet} (hp : out.Perm (groups l)) {q : Rec} (hq : q ∈ l) : ∃ s, findS out q.name q.kind = some s ∧ s ∈ out ∧ s.ttl ≤ q.ttl ∧ q.data ∈ s.data := by
  obtain ⟨t, ht, hm, h1, h2⟩ := gather_cov hq
  simp only [match1, Bool.and_eq_true, decide_eq_true_eq] at hm
  have hn : norm t ∈ out := hp.mem_iff.2 (List.mem_map_of_mem ht)
  have hh : hit (fold q.name) q.kind (norm t) = true := by simp [hit, norm_eq, hm.1, hm.2]
  cases hf : findS out q.name q.kind with
  | none =>
    rw [findS, List.find?_eq_none] at hf
    exact absurd hh (hf _ hn)
  | some s =>
    have hs := List.mem_of_find?_eq_some hf
    have hsh := List.find?_some hf
    simp only [hit, Bool.and_eq_true, decide_eq_true_eq] at hsh
    obtain ⟨u, hu, rfl⟩ := List.mem_map.1 (hp.mem_iff.1 hs)
    have e : u = t := apart_eq (gather_apart l) hu ht (hsh.1.trans hm.1.symm) (hsh.2.trans hm.2.symm)
    subst e
    exact ⟨_, rfl, hs, h1, by rw [norm_eq]; exact mem_nub.2 h2⟩
theorem group_small {l : List Rec} {out : List RSet} (hp : out.Perm (groups l)) (h : groupE l = 0) : ∀ s ∈ out, s.data.length ≤ 20 := by
  intro s hs
  rw [groupE] at h
  split at h
  · omega
  · split at h
    · omega
    · rename_i hb
      have hm := hp.mem_iff.1 hs
      have : (groups l).any big = false := by simpa using hb
      rw [List.any_eq_false] at this
      have := this s hm
      simpa [big] using this
theorem mem_take_succ {α : Type} {l : List α} {k : Nat} (h : k < l.length) {x : α} : x ∈ l.take (k + 1) ↔ x ∈ l.take k ∨ l[k] = x := by
  rw [List.take_add_one, List.getElem?_eq_getElem h]
  rw [List.mem_append]
  simp only [Option.toList_some, List.mem_singleton]
  rw [eq_comm (a := x)]
theorem or_step {A B : Prop} [Decidable B] (h : (false = true) ↔ A) : decide B = true ↔ A ∨ B := by
  rw [decide_eq_true_eq]
  exact ⟨.inr, fun x => x.resolve_left fun a => by cases h.2 a⟩

end Go.Proofs.X
