/- A part of the proof of a statement on sets of records: what some functions of the program do, walked step by step. -/
import Derived.Test.YtmemlckaklckpaaTG
set_option linter.unusedSimpArgs false
set_option linter.unusedVariables false
namespace Go.Proofs.X
open Go.RowKit
set_option maxRecDepth 100000
set_option linter.unusedSectionVars false
/-! ### plain laws: the records of what is grouped -/
theorem upTo_len (d : Array (List UInt8)) : ∀ m, (Lib.compactUpTo d m).length ≤ m
  | 0 => by simp [Lib.compactUpTo]
  | m + 1 => by
    have := upTo_len d m
    rw [Lib.compactUpTo_succ, List.length_append]
    split <;> simp <;> omega
theorem nub_len (l : List (List UInt8)) : (nub l).length ≤ l.length := by
  unfold nub Lib.compact
  refine Nat.le_trans (upTo_len _ _) ?_
  simp
theorem recs_len (l : List RSet) : (recordsS l).length = total l := by
  simp [recordsS, recsOf, total, List.length_flatten, List.map_map, Function.comp_def]
theorem total_norm : ∀ l : List RSet, total (l.map norm) ≤ total l
  | [] => by simp [total]
  | s :: l => by
    have h1 := total_norm l
    have h2 := nub_len s.data
    simp only [total, List.map_cons, List.sum_cons] at *
    have : (norm s).data.length = (nub s.data).length := rfl
    omega
theorem total_perm {a b : List RSet} (h : a.Perm b) : total a = total b := (h.map _).sum_nat
theorem again_len {l : List Rec} {out : List RSet} (hp : out.Perm (groups l)) : (recordsS out).length ≤ l.length := by
  rw [recs_len, total_perm hp, groups]
  have := total_norm (gather l)
  rw [gather_total] at this
  exact this
theorem checkR_zero {r : Rec} : checkR r = 0 ↔ ¬ (r.kind = 41 ∨ r.kind = 251 ∨ r.kind = 252 ∨ r.kind = 255) ∧ ¬ (r.kind < 1 ∨ 65535 < r.kind) ∧ ¬ (r.ttl < 0 ∨ 2147483647 < r.ttl) ∧ ¬ (4000 < r.data.length ∨ fits r.kind r.data = false) ∧ (labels r.name).isSome = true := by
  unfold checkR
  split
  · rename_i h
    exact ⟨fun x => by omega, fun x => absurd h x.1⟩
  · rename_i h
    split
    · rename_i k
      refine ⟨fun x => by omega, fun x => ?_⟩
      obtain ⟨_, x1, x2, x3, _⟩ := x
      exfalso
      rcases k with k | k | k | k | k | k
      · exact x1 (.inl k)
      · exact x1 (.inr k)
      · exact x2 (.inl k)
      · exact x2 (.inr k)
      · exact x3 (.inl k)
      · exact x3 (.inr k)
    · rename_i k
      split
      · rename_i g
        refine ⟨fun _ => ⟨h, ?_, ?_, ?_, g⟩, fun _ => rfl⟩
        · rintro (x | x)
          · exact k (.inl x)
          · exact k (.inr (.inl x))
        · rintro (x | x)
          · exact k (.inr (.inr (.inl x)))
          · exact k (.inr (.inr (.inr (.inl x))))
        · rintro (x | x)
          · exact k (.inr (.inr (.inr (.inr (.inl x)))))
          · exact k (.inr (.inr (.inr (.inr (.inr x)))))
      · rename_i g
        exact ⟨fun x => by omega, fun x => absurd x.2.2.2.2 g⟩
section
variable {l : List Rec} {out : List RSet} (hp : out.Perm (groups l)) (hE : groupE l = 0)
include hE
theorem again_ok : l.all okR = true := by
  cases h : l.all okR with
  | true => rfl
  | false => rw [groupE, if_pos h] at hE; omega
include hp
theorem out_small {s : RSet} (hs : s ∈ out) : fold s.name = s.name ∧ (labels s.name).isSome = true := by
  obtain ⟨m, ls, h1, e⟩ := groups_small (again_ok hE) (hp.mem_iff.1 hs)
  obtain ⟨_, h2, h3⟩ := fold_valid h1
  rw [e]
  exact ⟨h3, by rw [h2]; rfl⟩
theorem out_rec {s : RSet} (hs : s ∈ out) {d : List UInt8} (hd : d ∈ s.data) : checkR (recOf s d) = 0 := by
  obtain ⟨hc, _⟩ := groups_ch (hp.mem_iff.1 hs)
  obtain ⟨_, hl⟩ := out_small hp hE hs
  obtain ⟨q, h1, h2, h3⟩ := (hc.dat d).1 hd
  obtain ⟨p, k1, k2, k3⟩ := hc.ttl
  have ok : ∀ r ∈ l, checkR r = 0 := fun r hr => by simpa [okR] using List.all_eq_true.1 (again_ok hE) r hr
  obtain ⟨a1, a2, a3, a4, a5⟩ := checkR_zero.1 (ok q h1)
  obtain ⟨b1, b2, b3, b4, b5⟩ := checkR_zero.1 (ok p k1)
  simp only [match1, Bool.and_eq_true, decide_eq_true_eq] at h2 k2
  refine checkR_zero.2 ?_
  show ¬ (s.kind = 41 ∨ s.kind = 251 ∨ s.kind = 252 ∨ s.kind = 255) ∧ ¬ (s.kind < 1 ∨ 65535 < s.kind) ∧ ¬ (s.ttl < 0 ∨ 2147483647 < s.ttl) ∧ ¬ (4000 < d.length ∨ fits s.kind d = false) ∧ (labels s.name).isSome = true
  rw [h2.2, ← h3, ← k3]
  exact ⟨a1, a2, b3, a4, hl⟩
theorem out_may {s : RSet} (hs : s ∈ out) : mayS s = true := by
  obtain ⟨hc, hst⟩ := groups_ch (hp.mem_iff.1 hs)
  obtain ⟨hf, _⟩ := out_small hp hE hs
  have h20 := group_small hp hE s hs
  obtain ⟨q, h1, h2, _⟩ := hc.ttl
  have hm := (hc.dat q.data).2 ⟨q, h1, h2, rfl⟩
  have h0 : 1 ≤ s.data.length := List.length_pos_of_mem hm
  have hb : ((List.range s.data.length).all fun i => !badAt s i) = true := by
    rw [List.all_eq_true]
    intro i hi
    have hi' : i < s.data.length := by simpa using hi
    have e1 : s.data.getD i [] = s.data[i] := by simp [hi']
    have h3 := out_rec hp hE hs (List.getElem_mem hi')
    have h4 : checkR ⟨s.name, s.kind, s.ttl, s.data[i]⟩ = 0 := h3
    simp only [badAt, e1, h4, ne_eq, not_true_eq_false, decide_false, Bool.false_or, Bool.not_eq_true', Bool.and_eq_false_iff, decide_eq_false_iff_not, Bool.not_eq_false']
    by_cases hi0 : 0 < i
    · right
      have e2 : s.data.getD (i - 1) [] = s.data[i - 1] := by simp [show i - 1 < s.data.length by omega]
      rw [e2]
      exact bless.2 (List.pairwise_iff_getElem.1 hst (i - 1) i (by omega) hi' (by omega))
    · exact .inl hi0
  simp [mayS, hf, h0, h20, hb]
theorem out_len : out.length ≤ 200 := by
  rw [hp.length_eq]
  rw [groupE] at hE
  split at hE
  · omega
  · split at hE
    · omega
    · split at hE
      · omega
      · omega
theorem again_check (hso : Sorted out) : checkS out = 0 := by
  have hlen := out_len hp hE
  have hall : (List.range out.length).all (fun i => !badSet out i) = true := by
    rw [List.all_eq_true]
    intro i hi
    have hi' : i < out.length := by simpa using hi
    rw [badSet, List.getElem?_eq_getElem hi']
    have h1 := out_may hp hE (List.getElem_mem hi')
    simp only [h1, Bool.not_true, Bool.false_or, Bool.not_eq_true', Bool.and_eq_false_iff, decide_eq_false_iff_not]
    by_cases hi0 : 0 < i
    · right
      have hj : i - 1 < out.length := by omega
      have e : out.getD (i - 1) default = out[i - 1] := by simp [hj]
      rw [e]
      have h2 := hso (i - 1) i _ _ (by omega) (List.getElem?_eq_getElem hj) (List.getElem?_eq_getElem hi')
      have h3 : cmpSet out[i].name out[i - 1].name out[i].kind out[i - 1].kind = - cmpSet out[i - 1].name out[i].name out[i - 1].kind out[i].kind := tpo_cmpSet.anti (out[i - 1].name, out[i - 1].kind) (out[i].name, out[i].kind)
      intro h4
      have h5 : cmpSet out[i - 1].name out[i].name out[i - 1].kind out[i].kind = 0 := by omega
      have s1 := groups_small (again_ok hE) (hp.mem_iff.1 (List.getElem_mem hj))
      have s2 := groups_small (again_ok hE) (hp.mem_iff.1 (List.getElem_mem hi'))
      have h6 := cmpSet_zero s1 s2 h5
      have hpw : out.Pairwise fun s t => ¬ (s.name = t.name ∧ s.kind = t.kind) := (hp.pairwise_iff (fun {x y} h k => h ⟨k.1.symm, k.2.symm⟩)).2 (groups_apart l)
      exact List.pairwise_iff_getElem.1 hpw (i - 1) i hj hi' (by omega) h6
    · exact .inl hi0
  rw [checkS, hall, if_neg (by omega)]
  rfl
theorem out_apart {s t : RSet} (hs : s ∈ out) (ht : t ∈ out) (hn : s.name = t.name) (hk : s.kind = t.kind) : s = t := by
  obtain ⟨u, hu, rfl⟩ := List.mem_map.1 (hp.mem_iff.1 hs)
  obtain ⟨v, hv, rfl⟩ := List.mem_map.1 (hp.mem_iff.1 ht)
  rw [apart_eq (gather_apart l) hu hv hn hk]
theorem mem_recs {q : Rec} : q ∈ (recordsS out).reverse ↔ ∃ s ∈ out, ∃ d ∈ s.data, q = recOf s d := by
  rw [List.mem_reverse, recordsS, List.mem_flatten]
  constructor
  · rintro ⟨L, h1, h2⟩
    obtain ⟨s, hs, rfl⟩ := List.mem_map.1 h1
    obtain ⟨d, hd, rfl⟩ := List.mem_map.1 h2
    exact ⟨s, hs, d, hd, rfl⟩
  · rintro ⟨s, hs, d, hd, rfl⟩
    exact ⟨recsOf s, List.mem_map_of_mem hs, List.mem_map_of_mem hd⟩
theorem again_all : (recordsS out).reverse.all okR = true := by
  rw [List.all_eq_true]
  intro q hq
  obtain ⟨s, hs, d, hd, rfl⟩ := (mem_recs hp hE).1 hq
  simp [okR, out_rec hp hE hs hd]
theorem out_ch {s : RSet} (hs : s ∈ out) : Ch (recordsS out).reverse s := by
  obtain ⟨hc, hst⟩ := groups_ch (hp.mem_iff.1 hs)
  have key : ∀ q ∈ (recordsS out).reverse, match1 s q = true → ∃ d ∈ s.data, q = recOf s d := by
    intro q hq hm
    obtain ⟨t, ht, d, hd, rfl⟩ := (mem_recs hp hE).1 hq
    simp only [match1, Bool.and_eq_true, decide_eq_true_eq] at hm
    have hn : s.name = t.name := hm.1.trans (out_small hp hE ht).1
    have e := out_apart hp hE hs ht hn hm.2
    subst e
    exact ⟨d, hd, rfl⟩
  have self : ∀ d ∈ s.data, recOf s d ∈ (recordsS out).reverse ∧ match1 s (recOf s d) = true := fun d hd =>
    ⟨(mem_recs hp hE).2 ⟨s, hs, d, hd, rfl⟩, by
      simp only [match1, Bool.and_eq_true, decide_eq_true_eq]
      exact ⟨(out_small hp hE hs).1.symm, rfl⟩⟩
  refine ⟨fun d => ⟨fun hd => ⟨recOf s d, (self d hd).1, (self d hd).2, rfl⟩, ?_⟩, ?_, ?_⟩
  · rintro ⟨q, h1, h2, rfl⟩
    obtain ⟨d, hd, rfl⟩ := key q h1 h2
    exact hd
  · obtain ⟨q, h1, h2, _⟩ := hc.ttl
    have hd := (hc.dat q.data).2 ⟨q, h1, h2, rfl⟩
    exact ⟨_, (self _ hd).1, (self _ hd).2, rfl⟩
  · intro q h1 h2
    obtain ⟨d, hd, rfl⟩ := key q h1 h2
    exact Int.le_refl _
theorem again_mem (s : RSet) : s ∈ groups (recordsS out).reverse ↔ s ∈ out := by
  constructor
  · intro h
    obtain ⟨hc, hst⟩ := groups_ch h
    obtain ⟨q, h1, h2, _⟩ := hc.ttl
    obtain ⟨t, ht, d, hd, rfl⟩ := (mem_recs hp hE).1 h1
    simp only [match1, Bool.and_eq_true, decide_eq_true_eq] at h2
    have hn : s.name = t.name := h2.1.trans (out_small hp hE ht).1
    have e := hc.uniq (out_ch hp hE ht) hst (groups_ch (hp.mem_iff.1 ht)).2 hn h2.2
    rw [e]; exact ht
  · intro hs
    obtain ⟨q, h1, h2, _⟩ := (out_ch hp hE hs).ttl
    obtain ⟨t, ht, hm, _⟩ := gather_cov h1
    have hg : norm t ∈ groups (recordsS out).reverse := List.mem_map_of_mem ht
    obtain ⟨hc, hst⟩ := groups_ch hg
    simp only [match1, Bool.and_eq_true, decide_eq_true_eq] at h2 hm
    have e := hc.uniq (out_ch hp hE hs) hst (groups_ch (hp.mem_iff.1 hs)).2 (hm.1.trans h2.1.symm) (hm.2.trans h2.2.symm)
    rw [← e]; exact hg
theorem again_perm : out.Perm (groups (recordsS out).reverse) := by
  have n1 : (groups (recordsS out).reverse).Nodup := (groups_apart _).imp fun h e => by subst e; exact h ⟨rfl, rfl⟩
  have n0 : (groups l).Nodup := (groups_apart _).imp fun h e => by subst e; exact h ⟨rfl, rfl⟩
  have n2 : out.Nodup := hp.nodup_iff.2 n0
  exact (List.perm_ext_iff_of_nodup n2 n1).2 fun s => (again_mem hp hE s).symm
theorem again_E : groupE (recordsS out).reverse = 0 := by
  have h1 := again_all hp hE
  have h2 := again_perm hp hE
  have h3 : (groups (recordsS out).reverse).any big = false := by
    rw [List.any_eq_false]
    intro s hs
    have := group_small hp hE s ((again_mem hp hE s).1 hs)
    simp [big]; omega
  have h4 := out_len hp hE
  rw [h2.length_eq] at h4
  rw [groupE, h1, h3, if_neg (by simp), if_neg (by simp), if_neg (by omega)]
end
theorem rev_take {α : Type} (R : List α) {m : Nat} (h : m < R.length) : R.reverse.take (m + 1) = R.reverse.take m ++ [R[R.length - 1 - m]'(by omega)] := by
  rw [List.take_add_one, List.getElem?_reverse h, List.getElem?_eq_getElem (by omega)]
  rfl

end Go.Proofs.X
