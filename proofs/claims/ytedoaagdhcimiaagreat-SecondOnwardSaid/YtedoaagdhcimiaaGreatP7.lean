/- Laws and walks that the proof of the statement is made of (part 7). -/
import Derived.Test.YtedoaagdhcimiaaGreatProg
import Derived.Shelf.RegionOpenPlain
import Derived.Lib.Strings
import Derived.Lib.Slices
import Derived.Lib.Walk
import Derived.Lib.Builder
import Derived.Lib.AppendStr
import Derived.Lib.UnsafeStr
import Derived.Lib.MakeNoZero
import Derived.WalkKit
import Derived.Laws.Externs
import Derived.Laws.IdiomCopy
import Derived.Laws.BitsLemmas
import GoSem.Claims
import Derived.Test.YtedoaagdhcimiaaGreatShelf
import Derived.Shelf.SlSortCmp.NoneTotal
import Derived.Lib.Hide
import Derived.OwnWalk
import Derived.Test.YtedoaagdhcimiaaGreatP1
import Derived.Test.YtedoaagdhcimiaaGreatP2
import Derived.Test.YtedoaagdhcimiaaGreatP3
import Derived.Test.YtedoaagdhcimiaaGreatP4
import Derived.Test.YtedoaagdhcimiaaGreatP5
import Derived.Test.YtedoaagdhcimiaaGreatP6
set_option linter.unusedSimpArgs false
set_option linter.unusedVariables false
namespace Go.Proofs.X
open Go.RowKit
set_option maxRecDepth 100000
def aheadS (a b : RSet) : Bool := decide (cmpN a.name b.name < 0) || (decide (cmpN a.name b.name = 0) && decide (a.kind < b.kind))
theorem ahead_cmp (a b : RSet) : aheadS a b = decide (cmpSet a.name b.name a.kind b.kind < 0) := by
  unfold aheadS cmpSet cmpI
  by_cases h1 : cmpN a.name b.name < 0
  · rw [if_pos (by omega)]; simp [h1]
  · by_cases h2 : cmpN a.name b.name = 0
    · simp [h2]
      by_cases h3 : a.kind < b.kind
      · simp [h3]
      · simp [h3]; split <;> omega
    · rw [if_pos h2]; simp [h1, h2]


def checkE (o : List UInt8) : Int := if (labels o).isSome then 0 else 1
def zoneR (o : List UInt8) (l : List RSet) : Int :=
  if checkE o ≠ 0 ∨ fold o ≠ o ∨ checkS l ≠ 0 then 1 else
  if (findS l o 6).isSome = false ∨ (findS l o 2).isSome = false then 2 else
  if l.any (fun s => !rightR o l s) = true then 2 else 0
theorem TPO.ltt {α : Type} {c : α → α → Int} (h : TPO c) {x y z : α} (h1 : c x y < 0) (h2 : c y z < 0) : c x z < 0 := by
  have h3 := h.tr x y z (by omega) (by omega)
  rcases Int.lt_or_eq_of_le h3 with h4 | h4
  · exact h4
  · exfalso
    have h5 := (h.eqL h4 (z := y)).1 (by omega)
    have h6 := h.anti y z
    omega
theorem check_ok {l : List RSet} (h : checkS l = 0) : ∀ i, i < l.length → badSet l i = false := by
  unfold checkS at h
  split at h
  · omega
  · split at h
    · rename_i h1
      intro i hi
      rw [List.all_eq_true] at h1
      have := h1 i (by simpa using hi)
      simpa using this
    · omega
theorem check_may {l : List RSet} (h : checkS l = 0) {i : Nat} (hi : i < l.length) : mayS l[i] = true := by
  have := check_ok h i hi
  rw [badSet, List.getElem?_eq_getElem hi] at this
  simp only [Bool.or_eq_false_iff, Bool.not_eq_false'] at this
  exact this.1
theorem check_lt {l : List RSet} (h : checkS l = 0) {i : Nat} (hi : i + 1 < l.length) : cmpSet l[i].name l[i + 1].name l[i].kind l[i + 1].kind < 0 := by
  have := check_ok h (i + 1) hi
  rw [badSet, List.getElem?_eq_getElem hi] at this
  simp only [Bool.or_eq_false_iff, Bool.and_eq_false_iff, decide_eq_false_iff_not] at this
  have h2 := this.2.resolve_left (by omega)
  have e : l.getD (i + 1 - 1) default = l[i] := by simp [show i < l.length by omega]
  rw [e] at h2
  omega
theorem check_sorted {l : List RSet} (h : checkS l = 0) (i : Nat) : ∀ j (hj : i < j) (hl : j < l.length), cmpSet l[i].name l[j].name l[i].kind l[j].kind < 0
  | 0, hj, _ => by omega
  | j + 1, hj, hl => by
    have h1 := check_lt h hl
    by_cases e : i = j
    · subst e; exact h1
    · have h2 := check_sorted h i j (by omega) (by omega)
      exact tpo_cmpSet.ltt (x := (l[i].name, l[i].kind)) (y := (l[j].name, l[j].kind)) (z := (l[j + 1].name, l[j + 1].kind)) h2 h1
theorem may_fold {s : RSet} (h : mayS s = true) : fold s.name = s.name := by
  simp only [mayS, Bool.and_eq_true, decide_eq_true_eq] at h
  exact h.1.1.1
theorem found_all {l : List RSet} (h : checkS l = 0) {i : Nat} (hi : i < l.length) : findS l l[i].name l[i].kind = some l[i] := by
  have hf := may_fold (check_may h hi)
  refine find_at hi ?_ (by simp [hit, hf])
  rw [List.find?_eq_none]
  intro x hx hh
  obtain ⟨j, hj, rfl⟩ := List.getElem_of_mem hx
  have hj' : j < i := by rw [List.length_take] at hj; omega
  rw [List.getElem_take] at hh
  simp only [hit, hf, Bool.and_eq_true, decide_eq_true_eq] at hh
  have h1 := check_sorted h j i hj' hi
  rw [hh.1, hh.2] at h1
  have h2 := tpo_cmpSet.refl (l[i].name, l[i].kind)
  simp only at h2
  omega
def isCut (o n : List UInt8) (s : RSet) : Bool := decide (s.kind = 2) && decide (s.name ≠ o) && underN n s.name
def cutP (o : List UInt8) (l : List RSet) (n : List UInt8) : List UInt8 × Bool := match l.find? (isCut o n) with
  | some s => (s.name, true)
  | none => ([], false)
theorem cutStep_no {o n : List UInt8} {b : List UInt8 × Bool} {s : RSet} (h : isCut o n s = false) : cutStep o n b s = b := by
  unfold cutStep
  rw [if_neg]
  rintro ⟨h1, h2, h3, _⟩
  simp [isCut, h1, h2, h3] at h
theorem cutStep_yes {o n : List UInt8} {m : List UInt8} {s : RSet} (h : isCut o n s = true) : cutStep o n (m, false) s = (s.name, true) := by
  simp only [isCut, Bool.and_eq_true, decide_eq_true_eq] at h
  unfold cutStep
  rw [if_pos ⟨h.1.1, h.1.2, h.2, .inl rfl⟩]
theorem cutStep_more {o n : List UInt8} {m : List UInt8} {s : RSet} (h : isCut o n s = true → labN m ≤ labN s.name) : cutStep o n (m, true) s = (m, true) := by
  cases hc : isCut o n s with
  | false => exact cutStep_no hc
  | true =>
    have := h hc
    unfold cutStep
    rw [if_neg]
    rintro ⟨_, _, _, h4⟩
    rcases h4 with h4 | h4
    · cases h4
    · simp only at h4; omega
theorem cut_stays {o n m : List UInt8} : ∀ {l : List RSet}, (∀ t ∈ l, isCut o n t = true → labN m ≤ labN t.name) → l.foldl (cutStep o n) (m, true) = (m, true)
  | [], _ => rfl
  | t :: l, h => by
    rw [List.foldl_cons, cutStep_more (h t (by simp)), cut_stays fun u hu => h u (by simp [hu])]
theorem cut_first {o n : List UInt8} : ∀ {l : List RSet}, l.Pairwise (fun s t => isCut o n s = true → isCut o n t = true → labN s.name ≤ labN t.name) → cutR o l n = cutP o l n
  | [], _ => rfl
  | t :: l, h => by
    obtain ⟨h1, h2⟩ := List.pairwise_cons.1 h
    unfold cutR cutP
    rw [List.foldl_cons, List.find?_cons]
    cases hc : isCut o n t with
    | true => simp only [cutStep_yes hc]; exact cut_stays fun u hu => h1 u hu hc
    | false => simp only [cutStep_no hc]; exact cut_first h2
theorem labN_turned {n : List UInt8} {a : List (List UInt8)} (h : turned n = some a) : labN n = a.length := by
  rw [turned_eq] at h
  cases hl : labels n with
  | none => rw [hl] at h; cases h
  | some ls =>
    rw [hl] at h
    cases h
    simp [labN, hl]
theorem under_turned {n t : List UInt8} (h : underN n t = true) : ∃ a b, turned n = some a ∧ turned t = some b ∧ a.take b.length = b := by
  unfold underN at h
  cases ha : turned n with
  | none => rw [ha] at h; cases h
  | some a =>
    cases hb : turned t with
    | none => rw [ha, hb] at h; cases h
    | some b =>
      rw [ha, hb] at h
      exact ⟨a, b, rfl, rfl, by simpa using h⟩
theorem under_iff {n t : List UInt8} {a b : List (List UInt8)} (ha : turned n = some a) (hb : turned t = some b) : underN n t = decide (a.take b.length = b) := by
  unfold underN; rw [ha, hb]
theorem take_len_le {α : Type} {a b : List α} (h : a.take b.length = b) : b.length ≤ a.length := by
  have := congrArg List.length h
  rw [List.length_take] at this
  omega
theorem cmp_prefix {a b c : List (List UInt8)} (hb : a.take b.length = b) (hc : a.take c.length = c) (h : cmpL b c ≤ 0) : b.length ≤ c.length := by
  have e : cmpL b c = if b.length < c.length then -1 else if c.length < b.length then 1 else 0 := by
    rcases Nat.le_total b.length c.length with hl | hl
    · refine cmpL_end (k := b.length) ?_ (Nat.le_refl _) hl (.inl rfl)
      rw [List.take_length, ← hc, List.take_take, Nat.min_eq_left hl, hb]
    · refine cmpL_end (k := c.length) ?_ hl (Nat.le_refl _) (.inr rfl)
      rw [List.take_length, ← hb, List.take_take, Nat.min_eq_left hl, hc]
  rw [e] at h
  split at h
  · omega
  · split at h <;> omega
theorem cmpSet_N {a b : List UInt8} {j k : Int} (h : cmpSet a b j k < 0) : cmpN a b ≤ 0 := by
  unfold cmpSet at h
  split at h <;> omega
theorem cut_eq {o : List UInt8} {l : List RSet} (h : checkS l = 0) (n : List UInt8) : cutR o l n = cutP o l n := by
  refine cut_first ?_
  rw [List.pairwise_iff_getElem]
  intro i j hi hj hij h1 h2
  have hc := cmpSet_N (check_sorted h i j hij hj)
  simp only [isCut, Bool.and_eq_true] at h1 h2
  obtain ⟨a, b, ha, hb, e1⟩ := under_turned h1.2
  obtain ⟨a', c, ha', hc', e2⟩ := under_turned h2.2
  rw [ha] at ha'
  cases ha'
  rw [labN_turned hb, labN_turned hc']
  refine cmp_prefix e1 e2 ?_
  unfold cmpN at hc
  rw [hb, hc'] at hc
  exact hc
theorem turned_some {n : List UInt8} : (turned n).isSome = (labels n).isSome := by
  rw [turned_eq]; cases labels n <;> rfl
theorem under_refl {n : List UInt8} (h : (labels n).isSome = true) : underN n n = true := by
  rw [← turned_some] at h
  obtain ⟨a, ha⟩ := Option.isSome_iff_exists.1 h
  rw [under_iff ha ha]
  simp
theorem under_trans {a b c : List UInt8} (h : underN a b = true) (k : underN b c = true) : underN a c = true := by
  obtain ⟨x, y, hx, hy, e1⟩ := under_turned h
  obtain ⟨y', z, hy', hz, e2⟩ := under_turned k
  rw [hy] at hy'
  cases hy'
  have hl := take_len_le e2
  rw [under_iff hx hz, decide_eq_true_eq]
  rw [← e1, List.take_take, Nat.min_eq_left hl] at e2
  exact e2
theorem under_labels {a b : List UInt8} (h : underN a b = true) : (labels a).isSome = true ∧ (labels b).isSome = true := by
  obtain ⟨x, y, hx, hy, _⟩ := under_turned h
  rw [← turned_some, ← turned_some, hx, hy]
  exact ⟨rfl, rfl⟩
structure ZoneOk (o : List UInt8) (l : List RSet) : Prop where
  lab : (labels o).isSome = true
  fold : fold o = o
  chk : checkS l = 0
  soa : (findS l o 6).isSome = true
  ns : (findS l o 2).isSome = true
  right : ∀ s ∈ l, rightR o l s = true
theorem zone_ok {o : List UInt8} {l : List RSet} (h : zoneR o l = 0) : ZoneOk o l := by
  unfold zoneR at h
  split at h
  · cases h
  · rename_i h1
    split at h
    · cases h
    · rename_i h2
      split at h
      · cases h
      · rename_i h3
        simp only [not_or, ne_eq, Decidable.not_not, Bool.not_eq_false] at h1 h2
        refine ⟨?_, h1.2.1, h1.2.2, h2.1, h2.2, fun s hs => ?_⟩
        · have := h1.1
          unfold checkE at this
          split at this
          · assumption
          · cases this
        · cases hr : rightR o l s with
          | true => rfl
          | false => exact absurd (List.any_eq_true.2 ⟨s, hs, by simp [hr]⟩) h3
theorem zone_ok' {o : List UInt8} {l : List RSet} (h : ZoneOk o l) : zoneR o l = 0 := by
  obtain ⟨h1, h2, h3, h4, h5, h6⟩ := h
  have h7 : l.any (fun s => !rightR o l s) = false := by
    rw [List.any_eq_false]
    intro s hs
    simp [h6 s hs]
  unfold zoneR checkE
  simp [h1, h2, h3, h4, h5, h7]
theorem right_under {o : List UInt8} {l : List RSet} {s : RSet} (h : rightR o l s = true) : underN s.name o = true := by
  simp only [rightR, Bool.and_eq_true] at h
  exact h.1.1.1
theorem ZoneOk.may {o : List UInt8} {l : List RSet} (h : ZoneOk o l) {s : RSet} (hs : s ∈ l) : mayS s = true := by
  obtain ⟨i, hi, rfl⟩ := List.getElem_of_mem hs
  exact check_may h.chk hi
theorem ZoneOk.small {o : List UInt8} {l : List RSet} (h : ZoneOk o l) {s : RSet} (hs : s ∈ l) : X.fold s.name = s.name ∧ (labels s.name).isSome = true :=
  ⟨may_fold (h.may hs), (under_labels (right_under (h.right s hs))).1⟩
theorem findS_mem {l : List RSet} {n : List UInt8} {k : Int} {s : RSet} (h : findS l n k = some s) : s ∈ l ∧ s.name = fold n ∧ s.kind = k := by
  have h1 := List.mem_of_find?_eq_some h
  have h2 := List.find?_some h
  simp only [hit, Bool.and_eq_true, decide_eq_true_eq] at h2
  exact ⟨h1, h2⟩
theorem ZoneOk.cut {o : List UInt8} {l : List RSet} (h : ZoneOk o l) {n c : List UInt8} (hc : cutR o l n = (c, true)) : underN n c = true ∧ c ≠ o ∧ cutR o l c = (c, true) := by
  rw [cut_eq h.chk, cutP] at hc
  rw [cut_eq h.chk, cutP]
  cases hf : l.find? (isCut o n) with
  | none => rw [hf] at hc; cases hc
  | some s =>
    rw [hf] at hc
    simp only [Prod.mk.injEq, and_true] at hc
    subst hc
    obtain ⟨h1, la, lb, h2, h3⟩ := List.find?_eq_some_iff_append.1 hf
    have hs : s ∈ l := by rw [h2]; simp
    have h1' := h1
    simp only [isCut, Bool.and_eq_true, decide_eq_true_eq] at h1'
    refine ⟨h1'.2, h1'.1.2, ?_⟩
    have : l.find? (isCut o s.name) = some s := by
      rw [List.find?_eq_some_iff_append]
      refine ⟨?_, la, lb, h2, fun t ht => ?_⟩
      · simp only [isCut, Bool.and_eq_true, decide_eq_true_eq]
        exact ⟨h1'.1, under_refl (h.small hs).2⟩
      · have hn := h3 t ht
        cases hq : isCut o s.name t with
        | false => rfl
        | true =>
          simp only [isCut, Bool.and_eq_true, decide_eq_true_eq] at hq
          have : isCut o n t = true := by
            simp only [isCut, Bool.and_eq_true, decide_eq_true_eq]
            exact ⟨hq.1, under_trans h1'.2 hq.2⟩
          rw [this] at hn
          exact hn
    rw [this]

set_option maxHeartbeats 3000000 in
theorem p_Equal (u v : Value) (a b : List (List UInt8)) (w : World) (hu : Sl 1 w u (tcells a)) (hv : Sl 1 w v (tcells b)) : Calls Tryz.prog 196 #[u, v] w (RetV w (.bool (decide (a = b)))) := by
  have hal := hu.le
  have ha := tcells_length a
  have hb := tcells_length b
  go_enter Tryz.func196, Tryz.ntmps196
  repeat' (first | ((with_reducible refine nx0 ?_); go_step) | ((with_reducible refine o_s ?_); first | refine wk0 ?_ | (refine wg0 ?_ ?_ <;> intro hc)) | fail)
  · have hne := ‹(!decide (((tcells a).length : Int) = ((tcells b).length : Int))) = true›
    go_ret
    refine ⟨?_, Ext.refl _⟩
    have : a ≠ b := by rintro rfl; simp at hne
    simp [this]
  · have hne := ‹(!decide (((tcells a).length : Int) = ((tcells b).length : Int))) = false›
    have hlen : a.length = b.length := by simp at hne; omega
    go_loopw [5, 13] (fun _ i wr => ∃ k : Nat, k ≤ a.length ∧ i = .int .i64 k ∧ Ext w wr ∧ a.take k = b.take k) (fun _ i _ => a.length - (intOf i).toNat)
    case atStart => exact ⟨0, Nat.zero_le _, rfl, Ext.refl _, rfl⟩
    case round =>
      obtain ⟨k, hk, rfl, hx, hall⟩ := hrel
      by_cases hlt : k < a.length
      · have hlt2 : k < b.length := by omega
        have h1 := (hu.ext hx).elem (tcells_at hlt)
        have h2 := (hv.ext hx).elem (tcells_at hlt2)
        have hu2 := hu.ext hx
        have hv2 := hv.ext hx
        repeat' (first | ((with_reducible refine nx0 ?_); go_step) | ((with_reducible refine o_s ?_); first | refine wk0 ?_ | (refine wg0 ?_ ?_ <;> intro hc)) | fail)
        refine wph_region (S := Ext wr) (by decide +kernel) ?_
        intro w2 x2 _
        refine tk 0 ?_; refine gset ?_; refine tk 1 ?_; refine gset ?_; refine tk 2 ?_; refine gset ?_; refine tk 3 ?_; refine gset ?_; refine tk 4 ?_; refine gset ?_; refine tk 5 ?_; refine gset ?_; refine tk 6 ?_; refine gset ?_; refine tk 7 ?_; refine gset ?_; refine tk 8 ?_; refine gset ?_
        refine wph_done (by decide +kernel) ?_
        by_cases he : a[k] = b[k]
        · have e1 : decide (a[k] = b[k]) = true := decide_eq_true he
          simp only [e1, Bool.not_true]
          repeat' (first | ((with_reducible refine nx0 ?_); go_step) | ((with_reducible refine o_s ?_); first | refine wk0 ?_ | (refine wg0 ?_ ?_ <;> intro hc)) | fail)
          exact ⟨⟨k + 1, by omega, by go_num, by exact extc, take_succ_eq hall hlt hlt2 he⟩, by simp [intOf]; omega⟩
        · have e1 : decide (a[k] = b[k]) = false := decide_eq_false he
          simp only [e1, Bool.not_false]
          repeat' (first | ((with_reducible refine nx0 ?_); go_step) | ((with_reducible refine o_s ?_); first | refine wk0 ?_ | (refine wg0 ?_ ?_ <;> intro hc)) | fail)
          go_ret
          refine ⟨?_, by exact extc⟩
          simp [ne_of_at hlt hlt2 he]
      · have hk2 : k = a.length := by omega
        subst hk2
        repeat' (first | ((with_reducible refine nx0 ?_); go_step) | ((with_reducible refine o_s ?_); first | refine wk0 ?_ | (refine wg0 ?_ ?_ <;> intro hc)) | fail)
        go_ret
        refine ⟨?_, by exact extc⟩
        rw [List.take_length, hlen, List.take_length] at hall
        simp [hall]
set_option maxHeartbeats 3000000 in
theorem p_Under (n t : List UInt8) (w : World) : Calls Tryz.prog 141 #[str n, str t] w (RetV w (.bool (underN n t))) := by
  go_enter Tryz.func141, Tryz.ntmps141
  repeat' (first | ((with_reducible refine nx0 ?_); go_step) | ((with_reducible refine o_s ?_); first | refine wk0 ?_ | (refine wg0 ?_ ?_ <;> intro hc)) | fail)
  refine wpl_callR (enters_of Tryz.func195 rfl rfl) rfl rfl (t64 n _) ?_
  intro r1 w1 x1 h1
  cases ha : turned n with
  | none =>
    rw [ha] at h1
    obtain ⟨s1, rfl⟩ := h1
    repeat' (first | ((with_reducible refine nx0 ?_); go_step) | ((with_reducible refine o_s ?_); first | refine wk0 ?_ | (refine wg0 ?_ ?_ <;> intro hc)) | fail)
    refine wpl_callR (enters_of Tryz.func195 rfl rfl) rfl rfl (t64 t _) ?_
    intro r2 w2 x2 h2
    obtain ⟨s2, b2, rfl⟩ : ∃ s b, r2 = .tuple #[s, .bool b] := by
      cases hb : turned t with
      | none => rw [hb] at h2; obtain ⟨s, rfl⟩ := h2; exact ⟨s, _, rfl⟩
      | some y => rw [hb] at h2; obtain ⟨s, rfl, _⟩ := h2; exact ⟨s, _, rfl⟩
    repeat' (first | ((with_reducible refine nx0 ?_); go_step) | ((with_reducible refine o_s ?_); first | refine wk0 ?_ | (refine wg0 ?_ ?_ <;> intro hc)) | fail)
    go_ret
    exact ⟨by simp [underN, ha], x1.trans x2⟩
  | some a =>
    rw [ha] at h1
    obtain ⟨s1, rfl, hs1, hl1⟩ := h1
    repeat' (first | ((with_reducible refine nx0 ?_); go_step) | ((with_reducible refine o_s ?_); first | refine wk0 ?_ | (refine wg0 ?_ ?_ <;> intro hc)) | fail)
    refine wpl_callR (enters_of Tryz.func195 rfl rfl) rfl rfl (t64 t _) ?_
    intro r2 w2 x2 h2
    cases hb : turned t with
    | none =>
      rw [hb] at h2
      obtain ⟨s2, rfl⟩ := h2
      repeat' (first | ((with_reducible refine nx0 ?_); go_step) | ((with_reducible refine o_s ?_); first | refine wk0 ?_ | (refine wg0 ?_ ?_ <;> intro hc)) | fail)
      go_ret
      exact ⟨by simp [underN, ha, hb], x1.trans x2⟩
    | some b =>
      rw [hb] at h2
      obtain ⟨s2, rfl, hs2, hl2⟩ := h2
      have hs1 := hs1.ext x2
      have tl1 := tcells_length a
      have tl2 := tcells_length b
      repeat' (first | ((with_reducible refine nx0 ?_); go_step) | ((with_reducible refine o_s ?_); first | refine wk0 ?_ | (refine wg0 ?_ ?_ <;> intro hc)) | fail)
      · have hle : b.length ≤ a.length := by omega
        have hcut := hs1.cut (m := 0) (n := (tcells b).length) (Nat.zero_le _) (by omega)
        rw [List.drop_zero] at hcut
        have hcut : Sl 1 w2 (cutSl s1 1 0 (tcells b).length) (tcells (a.take b.length)) := by
          rw [tl2] at hcut ⊢
          simpa [tcells, List.map_take] using hcut
        refine wpl_callV (enters_of Tryz.func196 rfl rfl) rfl rfl (p_Equal _ _ _ _ _ hcut hs2) ?_; intro w3 x3; refine gset ?_
        repeat' (first | ((with_reducible refine nx0 ?_); go_step) | ((with_reducible refine o_s ?_); first | refine wk0 ?_ | (refine wg0 ?_ ?_ <;> intro hc)) | fail)
        go_ret
        exact ⟨by rw [under_iff ha hb]; rfl, (x1.trans x2).trans x3⟩
      · go_ret
        refine ⟨?_, x1.trans x2⟩
        have hlt : a.length < b.length := by omega
        rw [under_iff ha hb, decide_eq_false (fun h => by have := take_len_le h; omega)]
        rfl
def idxI {α : Type} (p : α → Bool) (l : List α) : Int := match l.findIdx? p with
  | some i => (i : Int)
  | none => -1
theorem idx_cases {α : Type} (p : α → Bool) (l : List α) : (∃ (k : Nat) (hk : k < l.length), idxI p l = k ∧ p l[k] = true ∧ l.find? p = some l[k]) ∨ (idxI p l = -1 ∧ l.any p = false ∧ l.find? p = none) := by
  unfold idxI
  cases h : l.findIdx? p with
  | none =>
    rw [List.findIdx?_eq_none_iff] at h
    refine .inr ⟨rfl, ?_, ?_⟩
    · rw [List.any_eq_false]; intro x hx; simp [h x hx]
    · rw [List.find?_eq_none]; intro x hx; simp [h x hx]
  | some k =>
    rw [List.findIdx?_eq_some_iff_getElem] at h
    obtain ⟨hk, hp, hj⟩ := h
    refine .inl ⟨k, hk, rfl, hp, ?_⟩
    rw [List.find?_eq_some_iff_getElem]
    exact ⟨hp, k, hk, rfl, fun j hjk => by simpa using hj j hjk⟩
theorem idx_at {α : Type} {p : α → Bool} {l : List α} {k : Nat} (hk : k < l.length) (ha : (l.take k).any p = false) (hp : p l[k] = true) : idxI p l = k := by
  have : l.findIdx? p = some k := by
    rw [List.findIdx?_eq_some_iff_getElem]
    refine ⟨hk, hp, fun j hj => ?_⟩
    rw [List.any_eq_false] at ha
    exact ha l[j] (by rw [List.mem_take_iff_getElem]; exact ⟨j, by omega, rfl⟩)
  rw [idxI, this]
theorem idx_no {α : Type} {p : α → Bool} {l : List α} (ha : l.any p = false) : idxI p l = -1 := by
  have : l.findIdx? p = none := by
    rw [List.findIdx?_eq_none_iff]
    intro x hx
    rw [List.any_eq_false] at ha
    simpa using ha x hx
  rw [idxI, this]
theorem idx_any {α : Type} (p : α → Bool) (l : List α) : decide (0 ≤ idxI p l) = l.any p := by
  rcases idx_cases p l with ⟨k, hk, e, hp, _⟩ | ⟨e, h, _⟩
  · rw [e, any_at hk hp]; simp
  · rw [e, h]; rfl
def SetFn (w : World) (f : FuncId) (caps : Array Value) (l : List RSet) (p : RSet → Bool) : Prop :=
  ∀ s ∈ l, ∀ x w', Ext w w' → Sl 1 w' x (tcells s.data) → Calls Tryz.prog f ([Value.agg #[str s.name, .int .i64 s.kind, .int .i64 s.ttl, x]].toArray ++ caps) w' (RetV w' (.bool (p s)))
theorem SetFn.ext {w w1 : World} {f : FuncId} {caps : Array Value} {l : List RSet} {p : RSet → Bool} (h : SetFn w f caps l p) (hx : Ext w w1) : SetFn w1 f caps l p :=
  fun s hs x w' hx' hd => h s hs x w' (hx.trans hx') hd
set_option maxHeartbeats 3000000 in
theorem p_IndexFunc (v : Value) (l : List RSet) (f : FuncId) (caps : Array Value) (p : RSet → Bool) (w : World) (hv : SetsAt w v l) (he : Enters Tryz.prog f) (hf : SetFn w f caps l p) : Calls Tryz.prog 139 #[v, .func (.func f) #[] caps] w (RetV w (.int .i64 (idxI p l))) := by
  obtain ⟨cv, hv1, hvl⟩ := hv.sl
  have hle := hv1.le
  go_enter Tryz.func139, Tryz.ntmps139
  repeat' (first | ((with_reducible refine nx0 ?_); go_step) | ((with_reducible refine o_s ?_); first | refine wk0 ?_ | (refine wg0 ?_ ?_ <;> intro hc)) | fail)
  go_loopw [5, 8] (fun _ i wr => ∃ k : Nat, k ≤ l.length ∧ i = .int .i64 k ∧ Ext w wr ∧ (l.take k).any p = false) (fun _ i _ => l.length - (intOf i).toNat)
  case atStart => exact ⟨0, Nat.zero_le _, rfl, Ext.refl _, rfl⟩
  case round =>
    obtain ⟨k, hk, rfl, hx, hall⟩ := hrel
    have hv2 := hv1.ext hx
    by_cases hlt : k < l.length
    · obtain ⟨x, h4, h4d⟩ := (hv.ext hx).elem (List.getElem?_eq_getElem hlt)
      repeat' (first | ((with_reducible refine nx0 ?_); go_step) | ((with_reducible refine o_s ?_); first | refine wk0 ?_ | (refine wg0 ?_ ?_ <;> intro hc)) | fail)
      refine wpl_callT he rfl rfl rfl (hf _ (List.getElem_mem hlt) x _ hx h4d) ?_
      rintro e w2 ⟨rfl, x2⟩
      refine ⟨_, rfl, ?_⟩
      refine gset ?_
      cases hp : p l[k] with
      | true =>
        repeat' (first | ((with_reducible refine nx0 ?_); go_step) | ((with_reducible refine o_s ?_); first | refine wk0 ?_ | (refine wg0 ?_ ?_ <;> intro hc)) | fail)
        go_ret
        exact ⟨by rw [idx_at hlt hall hp]; rfl, hx.trans x2⟩
      | false =>
        repeat' (first | ((with_reducible refine nx0 ?_); go_step) | ((with_reducible refine o_s ?_); first | refine wk0 ?_ | (refine wg0 ?_ ?_ <;> intro hc)) | fail)
        exact ⟨⟨k + 1, by omega, by go_num, hx.trans x2, any_take hlt hall hp⟩, by simp [intOf]; omega⟩
    · have : k = l.length := by omega
      subst this
      rw [List.take_length] at hall
      repeat' (first | ((with_reducible refine nx0 ?_); go_step) | ((with_reducible refine o_s ?_); first | refine wk0 ?_ | (refine wg0 ?_ ?_ <;> intro hc)) | fail)
      go_ret
      exact ⟨by rw [idx_no hall]; rfl, hx⟩
theorem p_ContainsFunc (v : Value) (l : List RSet) (f : FuncId) (caps : Array Value) (p : RSet → Bool) (w : World) (hv : SetsAt w v l) (he : Enters Tryz.prog f) (hf : SetFn w f caps l p) : Calls Tryz.prog 85 #[v, .func (.func f) #[] caps] w (RetV w (.bool (l.any p))) := by
  go_enter Tryz.func85, Tryz.ntmps85
  repeat' (first | ((with_reducible refine nx0 ?_); go_step) | ((with_reducible refine o_s ?_); first | refine wk0 ?_ | (refine wg0 ?_ ?_ <;> intro hc)) | fail)
  refine wpl_callV (enters_of Tryz.func139 rfl rfl) rfl rfl (p_IndexFunc v l f caps p _ hv he hf) ?_; intro w1 x1; refine gset ?_
  repeat' (first | ((with_reducible refine nx0 ?_); go_step) | ((with_reducible refine o_s ?_); first | refine wk0 ?_ | (refine wg0 ?_ ?_ <;> intro hc)) | fail)
  go_ret
  exact ⟨by rw [← idx_any]; rfl, x1⟩
set_option maxHeartbeats 3000000 in
theorem p_cut1 (o n : List UInt8) (v pz pn : Value) (s : RSet) (x : Value) (w : World) (hz : Pts w pz [str o, v]) (hn : Pts w pn [str n]) : Calls Tryz.prog 197 #[.agg #[str s.name, .int .i64 s.kind, .int .i64 s.ttl, x], pz, pn] w (RetV w (.bool (isCut o n s))) := by
  go_enter Tryz.func197, Tryz.ntmps197
  repeat' (first | ((with_reducible refine nx0 ?_); go_step) | fail)
  refine wpl_box (vs := [str s.name, .int .i64 s.kind, .int .i64 s.ttl, x]) rfl rfl ?_
  intro p w1 x1 hp
  refine gset ?_
  have hz1 := hz.ext x1
  have hn1 := hn.ext x1
  repeat' (first | ((with_reducible refine nx0 ?_); go_step) | ((with_reducible refine o_s ?_); first | refine wk0 ?_ | (refine wg0 ?_ ?_ <;> intro hc)) | fail)
  · have hk := ‹s.kind = 2›
    have hne := ‹(!decide (s.name = o)) = true›
    refine wpl_callV (enters_of Tryz.func141 rfl rfl) rfl rfl (p_Under n s.name _) ?_; intro w2 x2; refine gset ?_
    repeat' (first | ((with_reducible refine nx0 ?_); go_step) | ((with_reducible refine o_s ?_); first | refine wk0 ?_ | (refine wg0 ?_ ?_ <;> intro hc)) | fail)
    go_ret
    refine ⟨?_, x1.trans x2⟩
    have hne' : s.name ≠ o := by simpa using hne
    simp [isCut, hk, hne']
  all_goals
    go_ret
    refine ⟨?_, x1⟩
    simp_all [isCut]
set_option maxHeartbeats 3000000 in
theorem p_cut (o : List UInt8) (v : Value) (l : List RSet) (n : List UInt8) (w : World) (hv : SetsAt w v l) : Calls Tryz.prog 146 #[.agg #[str o, v], str n] w (RetV w (.tuple #[str (cutP o l n).1, .bool (cutP o l n).2])) := by
  obtain ⟨cv, hv1, hvl⟩ := hv.sl
  go_enter Tryz.func146, Tryz.ntmps146
  repeat' (first | ((with_reducible refine nx0 ?_); go_step) | fail)
  refine wpl_box (vs := [str o, v]) rfl rfl ?_
  intro pz w1 x1 hz
  refine gset ?_
  repeat' (first | ((with_reducible refine nx0 ?_); go_step) | fail)
  refine wpl_box (vs := [str n]) rfl rfl ?_
  intro pn w2 x2 hn
  refine gset ?_
  have hx2 := x1.trans x2
  have hz2 := hz.ext x2
  repeat' (first | ((with_reducible refine nx0 ?_); go_step) | ((with_reducible refine o_s ?_); first | refine wk0 ?_ | (refine wg0 ?_ ?_ <;> intro hc)) | fail)
  have hf : SetFn w2 197 #[pz, pn] l (isCut o n) := fun s _ x w' hx' _ => p_cut1 o n v pz pn s x w' (hz2.ext hx') (hn.ext hx')
  refine wpl_callV (enters_of Tryz.func139 rfl rfl) rfl rfl (p_IndexFunc v l 197 #[pz, pn] (isCut o n) _ (hv.ext hx2) (enters_of Tryz.func197 rfl rfl) hf) ?_; intro w3 x3; refine gset ?_
  have hx3 := hx2.trans x3
  have hz3 := hz2.ext x3
  rcases idx_cases (isCut o n) l with ⟨k, hk, e, hp, hfi⟩ | ⟨e, h, hfi⟩
  · rw [e]
    obtain ⟨x, h4, h4d⟩ := (hv.ext hx3).elem (List.getElem?_eq_getElem hk)
    have hv3 := hv1.ext hx3
    repeat' (first | ((with_reducible refine nx0 ?_); go_step) | ((with_reducible refine o_s ?_); first | refine wk0 ?_ | (refine wg0 ?_ ?_ <;> intro hc)) | fail)
    go_ret2
    exact ⟨by simp only [cutP, hfi]; rfl, hx3⟩
  · rw [e]
    repeat' (first | ((with_reducible refine nx0 ?_); go_step) | ((with_reducible refine o_s ?_); first | refine wk0 ?_ | (refine wg0 ?_ ?_ <;> intro hc)) | fail)
    go_ret2
    exact ⟨by simp only [cutP, hfi]; rfl, hx3⟩
def Rule (w : World) (f : Value) (b : Bool) : Prop := ∃ (g : FuncId) (caps : Array Value), f = .func (.func g) #[] caps ∧ Enters Tryz.prog g ∧ ∀ w', Ext w w' → Calls Tryz.prog g (([] : List Value).toArray ++ caps) w' (RetV w' (.bool b))
theorem p_right1 (o : List UInt8) (v ps pz : Value) (s : RSet) (u : Value) (w : World) (hs : Pts w ps [str s.name, .int .i64 s.kind, .int .i64 s.ttl, u]) (hz : Pts w pz [str o, v]) : Calls Tryz.prog 140 #[ps, pz] w (RetV w (.bool (underN s.name o))) := by
  go_enter Tryz.func140, Tryz.ntmps140
  repeat' (first | ((with_reducible refine nx0 ?_); go_step) | ((with_reducible refine o_s ?_); first | refine wk0 ?_ | (refine wg0 ?_ ?_ <;> intro hc)) | fail)
  refine wpl_callV (enters_of Tryz.func141 rfl rfl) rfl rfl (p_Under s.name o _) ?_; intro w1 x1; refine gset ?_
  repeat' (first | ((with_reducible refine nx0 ?_); go_step) | ((with_reducible refine o_s ?_); first | refine wk0 ?_ | (refine wg0 ?_ ?_ <;> intro hc)) | fail)
  go_ret
  exact ⟨rfl, x1⟩
def rule2 (o : List UInt8) (s : RSet) (one : Bool) : Bool := decide (s.kind ≠ 6) || (decide (s.name = o) && one)
set_option maxHeartbeats 3000000 in
theorem p_right2 (o : List UInt8) (v ps pz pb : Value) (s : RSet) (u : Value) (one : Bool) (w : World) (hs : Pts w ps [str s.name, .int .i64 s.kind, .int .i64 s.ttl, u]) (hz : Pts w pz [str o, v]) (hb : Pts w pb [.bool one]) : Calls Tryz.prog 142 #[ps, pz, pb] w (RetV w (.bool (rule2 o s one))) := by
  go_enter Tryz.func142, Tryz.ntmps142
  repeat' (first | ((with_reducible refine nx0 ?_); go_step) | ((with_reducible refine o_s ?_); first | refine wk0 ?_ | (refine wg0 ?_ ?_ <;> intro hc)) | fail)
  all_goals
    go_ret
    refine ⟨?_, Ext.refl _⟩
    simp_all [rule2]
set_option maxHeartbeats 3000000 in
theorem p_right31 (ps : Value) (s t : RSet) (u x : Value) (w : World) (hs : Pts w ps [str s.name, .int .i64 s.kind, .int .i64 s.ttl, u]) : Calls Tryz.prog 144 #[.agg #[str t.name, .int .i64 t.kind, .int .i64 t.ttl, x], ps] w (RetV w (.bool (clash s t))) := by
  go_enter Tryz.func144, Tryz.ntmps144
  repeat' (first | ((with_reducible refine nx0 ?_); go_step) | fail)
  refine wpl_box (vs := [str t.name, .int .i64 t.kind, .int .i64 t.ttl, x]) rfl rfl ?_
  intro p w1 x1 hp
  refine gset ?_
  have hs1 := hs.ext x1
  repeat' (first | ((with_reducible refine nx0 ?_); go_step) | ((with_reducible refine o_s ?_); first | refine wk0 ?_ | (refine wg0 ?_ ?_ <;> intro hc)) | fail)
  all_goals
    go_ret
    refine ⟨?_, x1⟩
    simp_all [clash]
def rule3 (l : List RSet) (s : RSet) (one : Bool) : Bool := decide (s.kind ≠ 5) || (one && !l.any (clash s))
set_option maxHeartbeats 3000000 in
theorem p_right3 (o : List UInt8) (v ps pz pb : Value) (l : List RSet) (s : RSet) (u : Value) (one : Bool) (w : World) (hs : Pts w ps [str s.name, .int .i64 s.kind, .int .i64 s.ttl, u]) (hz : Pts w pz [str o, v]) (hb : Pts w pb [.bool one]) (hv : SetsAt w v l) : Calls Tryz.prog 143 #[ps, pb, pz] w (RetV w (.bool (rule3 l s one))) := by
  have hf : SetFn w 144 #[ps] l (clash s) := fun t _ x w' hx' _ => p_right31 ps s t u x w' (hs.ext hx')
  go_enter Tryz.func143, Tryz.ntmps143
  cases one with
  | false =>
    repeat' (first | ((with_reducible refine nx0 ?_); go_step) | ((with_reducible refine o_s ?_); first | refine wk0 ?_ | (refine wg0 ?_ ?_ <;> intro hc)) | fail)
    all_goals
      go_ret
      refine ⟨?_, Ext.refl _⟩
      simp_all [rule3]
  | true =>
    repeat' (first | ((with_reducible refine nx0 ?_); go_step) | ((with_reducible refine o_s ?_); first | refine wk0 ?_ | (refine wg0 ?_ ?_ <;> intro hc)) | fail)
    · have h5 : s.kind = 5 := by simpa using (by assumption : (!decide (s.kind = 5)) = false)
      refine wpl_callV (enters_of Tryz.func85 rfl rfl) rfl rfl (p_ContainsFunc v l 144 #[ps] (clash s) _ hv (enters_of Tryz.func144 rfl rfl) hf) ?_; intro w1 x1; refine gset ?_
      repeat' (first | ((with_reducible refine nx0 ?_); go_step) | ((with_reducible refine o_s ?_); first | refine wk0 ?_ | (refine wg0 ?_ ?_ <;> intro hc)) | fail)
      go_ret
      exact ⟨by simp [rule3, h5], x1⟩
    all_goals
      go_ret
      refine ⟨?_, Ext.refl _⟩
      simp_all [rule3]
def rule4 (o : List UInt8) (l : List RSet) (s : RSet) : Bool :=
  !(cutP o l s.name).2 || decide (s.kind = 1) || decide (s.kind = 28) || (decide (s.kind = 2) && decide (s.name = (cutP o l s.name).1))
set_option maxHeartbeats 3000000 in
theorem p_right4 (o : List UInt8) (v ps pz : Value) (l : List RSet) (s : RSet) (u : Value) (w : World) (hs : Pts w ps [str s.name, .int .i64 s.kind, .int .i64 s.ttl, u]) (hz : Pts w pz [str o, v]) (hv : SetsAt w v l) : Calls Tryz.prog 145 #[pz, ps] w (RetV w (.bool (rule4 o l s))) := by
  go_enter Tryz.func145, Tryz.ntmps145
  repeat' (first | ((with_reducible refine nx0 ?_); go_step) | ((with_reducible refine o_s ?_); first | refine wk0 ?_ | (refine wg0 ?_ ?_ <;> intro hc)) | fail)
  refine wpl_callV (enters_of Tryz.func146 rfl rfl) rfl rfl (p_cut o v l s.name _ hv) ?_; intro w1 x1; refine gset ?_
  generalize hcut : cutP o l s.name = g at *
  obtain ⟨c, is⟩ := g
  have hs1 := hs.ext x1
  cases is with
  | false =>
    repeat' (first | ((with_reducible refine nx0 ?_); go_step) | ((with_reducible refine o_s ?_); first | refine wk0 ?_ | (refine wg0 ?_ ?_ <;> intro hc)) | fail)
    go_ret
    exact ⟨by simp [rule4, hcut], x1⟩
  | true =>
    repeat' (first | ((with_reducible refine nx0 ?_); go_step) | ((with_reducible refine o_s ?_); first | refine wk0 ?_ | (refine wg0 ?_ ?_ <;> intro hc)) | fail)
    all_goals
      go_ret
      refine ⟨?_, x1⟩
      simp_all [rule4]
set_option maxHeartbeats 3000000 in
theorem p_right5 (f : Value) (b : Bool) (w : World) (hf : Rule w f b) : Calls Tryz.prog 148 #[f] w (RetV w (.bool (!b))) := by
  obtain ⟨g, caps, rfl, he, hc⟩ := hf
  go_enter Tryz.func148, Tryz.ntmps148
  repeat' (first | ((with_reducible refine nx0 ?_); go_step) | ((with_reducible refine o_s ?_); first | refine wk0 ?_ | (refine wg0 ?_ ?_ <;> intro hc)) | fail)
  refine wpl_callT he rfl rfl rfl (hc _ (Ext.refl _)) ?_
  rintro e w1 ⟨rfl, x1⟩
  refine ⟨_, rfl, ?_⟩
  refine gset ?_
  repeat' (first | ((with_reducible refine nx0 ?_); go_step) | ((with_reducible refine o_s ?_); first | refine wk0 ?_ | (refine wg0 ?_ ?_ <;> intro hc)) | fail)
  go_ret
  exact ⟨rfl, x1⟩
theorem Rule.ext {w w' : World} {f : Value} {b : Bool} (h : Rule w f b) (hx : Ext w w') : Rule w' f b := by
  obtain ⟨g, caps, h1, h2, h3⟩ := h
  exact ⟨g, caps, h1, h2, fun w2 hx2 => h3 w2 (hx.trans hx2)⟩
def fcells (l : List (Value × Bool)) : List (List Value) := l.map fun x => [x.1]
theorem fcells_length (l : List (Value × Bool)) : (fcells l).length = l.length := by simp [fcells]
theorem fcells_at {l : List (Value × Bool)} {k : Nat} (h : k < l.length) : (fcells l)[k]? = some [l[k].1] := by simp [fcells, h]
def notB (x : Value × Bool) : Bool := !x.2
set_option maxHeartbeats 3000000 in
theorem p_IndexRule (v : Value) (l : List (Value × Bool)) (w : World) (hv : Sl 1 w v (fcells l)) (hf : ∀ x ∈ l, Rule w x.1 x.2) : Calls Tryz.prog 198 #[v, .func (.func 148) #[] #[]] w (RetV w (.int .i64 (idxI notB l))) := by
  have hle := hv.le
  have hlen := fcells_length l
  go_enter Tryz.func198, Tryz.ntmps198
  repeat' (first | ((with_reducible refine nx0 ?_); go_step) | ((with_reducible refine o_s ?_); first | refine wk0 ?_ | (refine wg0 ?_ ?_ <;> intro hc)) | fail)
  go_loopw [5, 8] (fun _ i wr => ∃ k : Nat, k ≤ l.length ∧ i = .int .i64 k ∧ Ext w wr ∧ (l.take k).any notB = false) (fun _ i _ => l.length - (intOf i).toNat)
  case atStart => exact ⟨0, Nat.zero_le _, rfl, Ext.refl _, rfl⟩
  case round =>
    obtain ⟨k, hk, rfl, hx, hall⟩ := hrel
    have hv2 := hv.ext hx
    by_cases hlt : k < l.length
    · have hp := hv2.elem (fcells_at hlt)
      repeat' (first | ((with_reducible refine nx0 ?_); go_step) | ((with_reducible refine o_s ?_); first | refine wk0 ?_ | (refine wg0 ?_ ?_ <;> intro hc)) | fail)
      refine wpl_callT (f := 148) (caps := #[]) (enters_of Tryz.func148 rfl rfl) rfl rfl rfl (p_right5 l[k].1 l[k].2 _ ((hf _ (List.getElem_mem hlt)).ext hx)) ?_
      rintro e w2 ⟨rfl, x2⟩
      refine ⟨_, rfl, ?_⟩
      refine gset ?_
      cases hb : l[k].2 with
      | false =>
        repeat' (first | ((with_reducible refine nx0 ?_); go_step) | ((with_reducible refine o_s ?_); first | refine wk0 ?_ | (refine wg0 ?_ ?_ <;> intro hc)) | fail)
        go_ret
        exact ⟨by rw [idx_at hlt hall (by simp [notB, hb])]; rfl, hx.trans x2⟩
      | true =>
        repeat' (first | ((with_reducible refine nx0 ?_); go_step) | ((with_reducible refine o_s ?_); first | refine wk0 ?_ | (refine wg0 ?_ ?_ <;> intro hc)) | fail)
        exact ⟨⟨k + 1, by omega, by go_num, hx.trans x2, any_take hlt hall (by simp [notB, hb])⟩, by simp [intOf]; omega⟩
    · have : k = l.length := by omega
      subst this
      rw [List.take_length] at hall
      repeat' (first | ((with_reducible refine nx0 ?_); go_step) | ((with_reducible refine o_s ?_); first | refine wk0 ?_ | (refine wg0 ?_ ?_ <;> intro hc)) | fail)
      go_ret
      exact ⟨by rw [idx_no hall]; rfl, hx⟩
theorem p_ContainsRule (v : Value) (l : List (Value × Bool)) (w : World) (hv : Sl 1 w v (fcells l)) (hf : ∀ x ∈ l, Rule w x.1 x.2) : Calls Tryz.prog 147 #[v, .func (.func 148) #[] #[]] w (RetV w (.bool (l.any notB))) := by
  go_enter Tryz.func147, Tryz.ntmps147
  repeat' (first | ((with_reducible refine nx0 ?_); go_step) | ((with_reducible refine o_s ?_); first | refine wk0 ?_ | (refine wg0 ?_ ?_ <;> intro hc)) | fail)
  refine wpl_callV (enters_of Tryz.func198 rfl rfl) rfl rfl (p_IndexRule v l _ hv hf) ?_; intro w1 x1; refine gset ?_
  repeat' (first | ((with_reducible refine nx0 ?_); go_step) | ((with_reducible refine o_s ?_); first | refine wk0 ?_ | (refine wg0 ?_ ?_ <;> intro hc)) | fail)
  go_ret
  exact ⟨by rw [← idx_any]; rfl, x1⟩
set_option maxHeartbeats 6000000 in
theorem p_right (o : List UInt8) (v : Value) (l : List RSet) (s : RSet) (u : Value) (w : World) (hv : SetsAt w v l) (hu : Sl 1 w u (tcells s.data)) (hck : checkS l = 0) : Calls Tryz.prog 87 #[.agg #[str o, v], .agg #[str s.name, .int .i64 s.kind, .int .i64 s.ttl, u]] w (RetV w (.bool (rightR o l s))) := by
  have hlen := tcells_length s.data
  go_enter Tryz.func87, Tryz.ntmps87
  repeat' (first | ((with_reducible refine nx0 ?_); go_step) | fail)
  refine wpl_box (vs := [str o, v]) rfl rfl ?_
  intro pz w1 x1 hz
  refine gset ?_
  repeat' (first | ((with_reducible refine nx0 ?_); go_step) | fail)
  refine wpl_box (vs := [str s.name, .int .i64 s.kind, .int .i64 s.ttl, u]) rfl rfl ?_
  intro ps w2 x2 hs
  refine gset ?_
  have hz2 := hz.ext x2
  have hx2 := x1.trans x2
  have hu2 := hu.ext hx2
  repeat' (first | ((with_reducible refine nx0 ?_); go_step) | ((with_reducible refine o_s ?_); first | refine wk0 ?_ | (refine wg0 ?_ ?_ <;> intro hc)) | fail)
  refine wpl_allocB (z := [.bool false]) rfl (by decide +kernel) ?_
  intro w3 x3 s3 h3
  refine gset ?_
  have hone : decide (((tcells s.data).length : Int) = 1) = decide (s.data.length = 1) := by rw [hlen, Bool.eq_iff_iff]; simp; omega
  rw [hone]
  refine wpl_store1 (v := .bool (decide (s.data.length = 1))) rfl rfl rfl h3 (by decide +kernel) rfl ?_
  intro w4 p4
  have x4 : Ext w2 w4 := x3.move p4.mv (by rintro k ⟨⟩; exact Nat.le_refl _)
  have hb4 := pts_block (cs := [.bool (decide (s.data.length = 1))]) p4.this
  have hz4 := hz2.ext x4
  have hs4 := hs.ext x4
  have hx4 := hx2.trans x4
  have hv4 := hv.ext hx4
  clear p4 h3 x3
  generalize hpb : Value.pointer (some ⟨w2.heap.size, 0, none⟩) = pb at *
  repeat' (first | ((with_reducible refine nx0 ?_); go_step) | ((with_reducible refine o_s ?_); first | refine wk0 ?_ | (refine wg0 ?_ ?_ <;> intro hc)) | fail)
  have r1 : Rule w4 (.func (.func 140) #[] #[ps, pz]) (underN s.name o) := ⟨140, _, rfl, enters_of Tryz.func140 rfl rfl, fun w' hx' => p_right1 o v ps pz s u w' (hs4.ext hx') (hz4.ext hx')⟩
  have r2 : Rule w4 (.func (.func 142) #[] #[ps, pz, pb]) (rule2 o s (decide (s.data.length = 1))) := ⟨142, _, rfl, enters_of Tryz.func142 rfl rfl, fun w' hx' => p_right2 o v ps pz pb s u _ w' (hs4.ext hx') (hz4.ext hx') (hb4.ext hx')⟩
  have r3 : Rule w4 (.func (.func 143) #[] #[ps, pb, pz]) (rule3 l s (decide (s.data.length = 1))) := ⟨143, _, rfl, enters_of Tryz.func143 rfl rfl, fun w' hx' => p_right3 o v ps pz pb l s u _ w' (hs4.ext hx') (hz4.ext hx') (hb4.ext hx') (hv4.ext hx')⟩
  have r4 : Rule w4 (.func (.func 145) #[] #[pz, ps]) (rule4 o l s) := ⟨145, _, rfl, enters_of Tryz.func145 rfl rfl, fun w' hx' => p_right4 o v ps pz l s u w' (hs4.ext hx') (hz4.ext hx') (hv4.ext hx')⟩
  refine wpl_slice (e := 22) (k := 1) (bytes := 8) (xs := [.func (.func 140) #[] #[ps, pz], .func (.func 142) #[] #[ps, pz, pb], .func (.func 143) #[] #[ps, pb, pz], .func (.func 145) #[] #[pz, ps]]) rfl rfl rfl (by simp [Value.cells]) (by decide +kernel) (by simp) ?_
  intro v5 w5 x5 _ sl5 _
  refine gset ?_
  have sl5 : Sl 1 w5 v5 (fcells [(.func (.func 140) #[] #[ps, pz], underN s.name o), (.func (.func 142) #[] #[ps, pz, pb], rule2 o s (decide (s.data.length = 1))), (.func (.func 143) #[] #[ps, pb, pz], rule3 l s (decide (s.data.length = 1))), (.func (.func 145) #[] #[pz, ps], rule4 o l s)]) := sl5
  repeat' (first | ((with_reducible refine nx0 ?_); go_step) | ((with_reducible refine o_s ?_); first | refine wk0 ?_ | (refine wg0 ?_ ?_ <;> intro hc)) | fail)
  refine wpl_callV (enters_of Tryz.func147 rfl rfl) rfl rfl (p_ContainsRule v5 _ _ sl5 (by
    intro x hx
    simp only [List.mem_cons, List.not_mem_nil, or_false] at hx
    rcases hx with rfl | rfl | rfl | rfl
    · exact r1.ext x5
    · exact r2.ext x5
    · exact r3.ext x5
    · exact r4.ext x5)) ?_; intro w6 x6; refine gset ?_
  repeat' (first | ((with_reducible refine nx0 ?_); go_step) | ((with_reducible refine o_s ?_); first | refine wk0 ?_ | (refine wg0 ?_ ?_ <;> intro hc)) | fail)
  go_ret
  refine ⟨?_, (hx4.trans x5).trans x6⟩
  congr 2
  have h4 : lastR o l s = rule4 o l s := by rw [lastR, rule4, cut_eq hck]
  simp only [rightR, h4, List.any_cons, List.any_nil, notB, rule2, rule3, Bool.or_false]
  cases underN s.name o <;> cases rule4 o l s <;> simp <;> by_cases a6 : s.kind = 6 <;> by_cases a5 : s.kind = 5 <;> by_cases an : s.name = o <;> by_cases a1 : s.data.length = 1 <;> cases l.any (clash s) <;> simp_all
def zeroS : RSet := ⟨[], 0, 0, []⟩
theorem find_one {w w' : World} {r : Value} {o : Option RSet} (h : match o with
    | some s => ∃ x, r = .tuple #[.agg #[str s.name, .int .i64 s.kind, .int .i64 s.ttl, x], .bool true] ∧ Own w.heap.size 1 9 w' x (tcells s.data)
    | none => r = .tuple #[.agg zset.toArray, .bool false]) : ∃ x, r = .tuple #[.agg #[str (o.getD zeroS).name, .int .i64 (o.getD zeroS).kind, .int .i64 (o.getD zeroS).ttl, x], .bool o.isSome] ∧ Sl 1 w' x (tcells (o.getD zeroS).data) := by
  cases o with
  | none => exact ⟨.slice none 0 0, h, Sl.nil _ _⟩
  | some s => obtain ⟨x, h1, h2⟩ := h; exact ⟨x, h1, h2.sl⟩
set_option maxHeartbeats 3000000 in
theorem p_Check1 (o : List UInt8) (v pz : Value) (l : List RSet) (s : RSet) (u : Value) (w : World) (hz : Pts w pz [str o, v]) (hv : SetsAt w v l) (hu : Sl 1 w u (tcells s.data)) (hck : checkS l = 0) : Calls Tryz.prog 86 #[.agg #[str s.name, .int .i64 s.kind, .int .i64 s.ttl, u], pz] w (RetV w (.bool (!rightR o l s))) := by
  go_enter Tryz.func86, Tryz.ntmps86
  repeat' (first | ((with_reducible refine nx0 ?_); go_step) | fail)
  refine wpl_box (vs := [str s.name, .int .i64 s.kind, .int .i64 s.ttl, u]) rfl rfl ?_
  intro ps w1 x1 hs
  refine gset ?_
  have hz1 := hz.ext x1
  repeat' (first | ((with_reducible refine nx0 ?_); go_step) | ((with_reducible refine o_s ?_); first | refine wk0 ?_ | (refine wg0 ?_ ?_ <;> intro hc)) | fail)
  refine wpl_callV (enters_of Tryz.func87 rfl rfl) rfl rfl (p_right o v l s u _ (hv.ext x1) (hu.ext x1) hck) ?_; intro w2 x2; refine gset ?_
  repeat' (first | ((with_reducible refine nx0 ?_); go_step) | ((with_reducible refine o_s ?_); first | refine wk0 ?_ | (refine wg0 ?_ ?_ <;> intro hc)) | fail)
  go_ret
  exact ⟨rfl, x1.trans x2⟩
set_option maxHeartbeats 6000000 in
theorem p_Check (o : List UInt8) (v : Value) (l : List RSet) (w : World) (hv : SetsAt w v l) (hb : ∀ s ∈ l, s.data.length ≤ 1000000) : Calls Tryz.prog 39 #[.agg #[str o, v]] w (RetV w (.int .i64 (zoneR o l))) := by
  obtain ⟨cv, hv1, hvl⟩ := hv.sl
  have hle := hv1.le
  have hb' : ∀ s ∈ l, s.data.length ≤ 8796093022208 := fun s hs => by have := hb s hs; omega
  go_enter Tryz.func39, Tryz.ntmps39
  repeat' (first | ((with_reducible refine nx0 ?_); go_step) | fail)
  refine wpl_box (vs := [str o, v]) rfl rfl ?_
  intro p w1 x1 hp
  refine gset ?_
  repeat' (first | ((with_reducible refine nx0 ?_); go_step) | ((with_reducible refine o_s ?_); first | refine wk0 ?_ | (refine wg0 ?_ ?_ <;> intro hc)) | fail)
  have c1 : ∀ w', Calls Tryz.prog 63 #[str o] w' (RetV w' (.int .i64 (checkE o))) := fun w' => t27 o w'
  have hv2 := hv.ext x1
  have c3 : ∀ w', Ext w1 w' → Calls Tryz.prog 83 #[v] w' (RetV w' (.int .i64 (checkS l))) := fun w' x' => t12 v l w' (hv2.ext x')
  refine wpq_region (by decide +kernel) (by decide +kernel) ?_
  (try ((with_reducible refine qh0 ?_); refine qk0 ?_))
  refine wpq_call (enters_of Tryz.func63 rfl rfl) rfl rfl (fun w' _ => c1 w') ?_
  refine gset ?_
  (try ((with_reducible refine qh0 ?_); refine qk0 ?_))
  by_cases q1 : checkE o = 0
  · rw [decide_eq_true q1]
    simp only [Bool.not_true]
    (try ((with_reducible refine qh0 ?_); refine qk0 ?_))
    refine wpq_call (enters_of Tryz.func69 rfl rfl) rfl rfl (fun w' _ => t17 o w') ?_
    refine gset ?_
    (try ((with_reducible refine qh0 ?_); refine qk0 ?_))
    by_cases q2 : fold o = o
    · rw [decide_eq_true q2]
      simp only [Bool.not_true]
      (try ((with_reducible refine qh0 ?_); refine qk0 ?_))
      refine wpq_call (enters_of Tryz.func83 rfl rfl) rfl rfl (fun w' x' => c3 w' x') ?_
      refine gset ?_
      (try ((with_reducible refine qh0 ?_); refine qk0 ?_))
      intro w2 x2
      by_cases q3 : checkS l = 0
      · rw [decide_eq_true q3]
        simp only [Bool.not_true]
        have hx2 := x1.trans x2
        have hp2 := hp.ext x2
        have hs2 := hv.ext hx2
        repeat' (first | ((with_reducible refine nx0 ?_); go_step) | ((with_reducible refine o_s ?_); first | refine wk0 ?_ | (refine wg0 ?_ ?_ <;> intro hc)) | fail)
        refine wpl_callR (enters_of Tryz.func84 rfl rfl) rfl rfl (t13 v l o 6 _ hs2 hb') ?_
        intro r3 w3 x3 hr3
        obtain ⟨y3, rfl, hy3⟩ := find_one hr3
        clear hr3
        repeat' (first | ((with_reducible refine nx0 ?_); go_step) | ((with_reducible refine o_s ?_); first | refine wk0 ?_ | (refine wg0 ?_ ?_ <;> intro hc)) | fail)
        refine wpl_allocB (z := zset) rfl (by decide +kernel) ?_
        intro w4 x4 s4 h4
        refine gset ?_
        refine wpl_storeB rfl rfl rfl h4 (show sizeTy Tryz.prog 115 4 = true by decide +kernel) rfl (all4 rfl rfl rfl (hy3.one)) ?_
        intro w5 p5
        have x5 : Ext w3 w5 := x4.move p5.mv (by rintro k ⟨⟩; exact Nat.le_refl _)
        have hx5 := hx2.trans (x3.trans x5)
        have hp5 := hp.ext (x2.trans (x3.trans x5))
        have hs5 := hv.ext hx5
        clear p5 h4 x4
        repeat' (first | ((with_reducible refine nx0 ?_); go_step) | ((with_reducible refine o_s ?_); first | refine wk0 ?_ | (refine wg0 ?_ ?_ <;> intro hc)) | fail)
        refine wpl_callR (enters_of Tryz.func84 rfl rfl) rfl rfl (t13 v l o 2 _ hs5 hb') ?_
        intro r6 w6 x6 hr6
        obtain ⟨y6, rfl, hy6⟩ := find_one hr6
        clear hr6
        repeat' (first | ((with_reducible refine nx0 ?_); go_step) | ((with_reducible refine o_s ?_); first | refine wk0 ?_ | (refine wg0 ?_ ?_ <;> intro hc)) | fail)
        refine wpl_allocB (z := zset) rfl (by decide +kernel) ?_
        intro w7 x7 s7 h7
        refine gset ?_
        refine wpl_storeB rfl rfl rfl h7 (show sizeTy Tryz.prog 115 4 = true by decide +kernel) rfl (all4 rfl rfl rfl (hy6.one)) ?_
        intro w8 p8
        have x8 : Ext w6 w8 := x7.move p8.mv (by rintro k ⟨⟩; exact Nat.le_refl _)
        have hx8 := hx5.trans (x6.trans x8)
        have hp8 := hp5.ext (x6.trans x8)
        have hs8 := hv.ext hx8
        clear p8 h7 x7
        cases f6 : (findS l o 6).isSome with
        | false =>
          repeat' (first | ((with_reducible refine nx0 ?_); go_step) | ((with_reducible refine o_s ?_); first | refine wk0 ?_ | (refine wg0 ?_ ?_ <;> intro hc)) | fail)
          go_ret
          exact ⟨by rw [show zoneR o l = 2 by simp [zoneR, q1, q2, q3, f6]]; rfl, hx8⟩
        | true =>
          cases f2 : (findS l o 2).isSome with
          | false =>
            repeat' (first | ((with_reducible refine nx0 ?_); go_step) | ((with_reducible refine o_s ?_); first | refine wk0 ?_ | (refine wg0 ?_ ?_ <;> intro hc)) | fail)
            go_ret
            exact ⟨by rw [show zoneR o l = 2 by simp [zoneR, q1, q2, q3, f6, f2]]; rfl, hx8⟩
          | true =>
            repeat' (first | ((with_reducible refine nx0 ?_); go_step) | ((with_reducible refine o_s ?_); first | refine wk0 ?_ | (refine wg0 ?_ ?_ <;> intro hc)) | fail)
            have hf : SetFn w8 86 #[p] l (fun s => !rightR o l s) := fun s _ x w' hx' hd' => p_Check1 o v p l s x w' (hp8.ext hx') (hs8.ext hx') hd' q3
            refine wpl_callV (enters_of Tryz.func85 rfl rfl) rfl rfl (p_ContainsFunc v l 86 #[p] (fun s => !rightR o l s) _ hs8 (enters_of Tryz.func86 rfl rfl) hf) ?_; intro w9 x9; refine gset ?_
            cases ha : l.any (fun s => !rightR o l s) with
            | true =>
              repeat' (first | ((with_reducible refine nx0 ?_); go_step) | ((with_reducible refine o_s ?_); first | refine wk0 ?_ | (refine wg0 ?_ ?_ <;> intro hc)) | fail)
              go_ret
              exact ⟨by rw [show zoneR o l = 2 by simp only [zoneR, q1, q2, q3, f6, f2, ha]; simp]; rfl, hx8.trans x9⟩
            | false =>
              repeat' (first | ((with_reducible refine nx0 ?_); go_step) | ((with_reducible refine o_s ?_); first | refine wk0 ?_ | (refine wg0 ?_ ?_ <;> intro hc)) | fail)
              go_ret
              exact ⟨by rw [show zoneR o l = 0 by simp only [zoneR, q1, q2, q3, f6, f2, ha]; simp]; rfl, hx8.trans x9⟩
      · rw [decide_eq_false q3]
        simp only [Bool.not_false]
        repeat' (first | ((with_reducible refine nx0 ?_); go_step) | ((with_reducible refine o_s ?_); first | refine wk0 ?_ | (refine wg0 ?_ ?_ <;> intro hc)) | fail)
        go_ret
        exact ⟨by rw [show zoneR o l = 1 by simp [zoneR, q3]]; rfl, x1.trans x2⟩
    · rw [decide_eq_false q2]
      simp only [Bool.not_false]
      (try ((with_reducible refine qh0 ?_); refine qk0 ?_))
      intro w2 x2
      repeat' (first | ((with_reducible refine nx0 ?_); go_step) | ((with_reducible refine o_s ?_); first | refine wk0 ?_ | (refine wg0 ?_ ?_ <;> intro hc)) | fail)
      go_ret
      exact ⟨by rw [show zoneR o l = 1 by simp [zoneR, q2]]; rfl, x1.trans x2⟩
  · rw [decide_eq_false q1]
    simp only [Bool.not_false]
    (try ((with_reducible refine qh0 ?_); refine qk0 ?_))
    intro w2 x2
    repeat' (first | ((with_reducible refine nx0 ?_); go_step) | ((with_reducible refine o_s ?_); first | refine wk0 ?_ | (refine wg0 ?_ ?_ <;> intro hc)) | fail)
    go_ret
    exact ⟨by rw [show zoneR o l = 1 by simp [zoneR, q1]]; rfl, x1.trans x2⟩
theorem may_at {s : RSet} (h : mayS s = true) {i : Nat} (hi : i < s.data.length) : checkR ⟨s.name, s.kind, s.ttl, s.data[i]⟩ = 0 := by
  simp only [mayS, Bool.and_eq_true, List.all_eq_true] at h
  have := h.2 i (by simpa using hi)
  simp only [badAt, Bool.not_eq_true', Bool.or_eq_false_iff, decide_eq_false_iff_not, ne_eq, Decidable.not_not] at this
  have e : s.data.getD i [] = s.data[i] := by simp [hi]
  rw [e] at this
  exact this.1
theorem checkR_data {r : Rec} (h : checkR r = 0) : r.data.length ≤ 4000 ∧ fits r.kind r.data = true := by
  unfold checkR at h
  split at h
  · omega
  · split at h
    · omega
    · rename_i h2
      simp only [not_or, Bool.not_eq_false] at h2
      exact ⟨by omega, h2.2.2.2.2.2⟩
def zR : SoaR := ⟨[], [], 0, 0, 0, 0, 0⟩
theorem zR_cells : zR.cells = zeroSoa := rfl
def soaD (o : List UInt8) (l : List RSet) : List UInt8 := ((findS l o 6).getD zeroS).data.getD 0 []
def soaZ (o : List UInt8) (l : List RSet) : SoaR := if zoneR o l = 0 then soaOf (soaD o l) else zR
theorem parse_some {d : List UInt8} (h : (parseSoa d).isSome = true) : parseSoa d = some (soaOf d) := by
  unfold parseSoa at *
  simp only at *
  split at h
  · rename_i h1; rw [if_pos h1]
  · cases h
theorem ZoneOk.soaSet {o : List UInt8} {l : List RSet} (h : ZoneOk o l) : ∃ s, findS l o 6 = some s ∧ s ∈ l ∧ s.name = o ∧ s.kind = 6 ∧ s.data = [soaD o l] ∧ parseSoa (soaD o l) = some (soaOf (soaD o l)) ∧ (soaD o l).length ≤ 4000 := by
  obtain ⟨s, hs⟩ := Option.isSome_iff_exists.1 h.soa
  obtain ⟨h1, h2, h3⟩ := findS_mem hs
  have hr := h.right s h1
  have hm := h.may h1
  have hl : s.data.length = 1 := by
    simp only [rightR, Bool.and_eq_true, Bool.not_eq_true', h3] at hr
    have := hr.1.1.2
    simp only [decide_true, Bool.true_and, Bool.or_eq_false_iff, decide_eq_false_iff_not, ne_eq, Decidable.not_not] at this
    exact this.2
  have hd : s.data = [soaD o l] := by
    have e : soaD o l = s.data.getD 0 [] := by rw [soaD, hs]; rfl
    rw [e]
    match s.data, hl with
    | [d], _ => rfl
  have hc := may_at hm (i := 0) (by omega)
  obtain ⟨c1, c2⟩ := checkR_data hc
  have e0 : s.data[0]'(by omega) = soaD o l := by simp [hd]
  simp only [e0, h3] at c1 c2
  refine ⟨s, hs, h1, by rw [h2, h.fold], h3, hd, parse_some ?_, c1⟩
  simpa [fits] using c2
theorem soaR_one (s : SoaR) : (Value.agg s.cells.toArray).cells.all (·.oneCell') = true := by
  simp [SoaR.cells, Value.cells, Value.oneCell', str]
set_option maxHeartbeats 3000000 in
theorem p_Soa (o : List UInt8) (v : Value) (l : List RSet) (w : World) (hv : SetsAt w v l) (hb : ∀ s ∈ l, s.data.length ≤ 1000000) (hd : ∀ s ∈ l, ∀ d ∈ s.data, d.length ≤ 4611686018427387904) : Calls Tryz.prog 40 #[.agg #[str o, v]] w (RetV w (.tuple #[.agg (soaZ o l).cells.toArray, .int .i64 (zoneR o l)])) := by
  go_enter Tryz.func40, Tryz.ntmps40
  repeat' (first | ((with_reducible refine nx0 ?_); go_step) | fail)
  refine wpl_box (vs := [str o, v]) rfl rfl ?_
  intro p w1 x1 hp
  refine gset ?_
  refine wpl_allocB (z := zeroSoa) rfl (by decide +kernel) ?_
  intro w2 x2 s2 h2
  refine gset ?_
  have hx2 := x1.trans x2
  have hp2 := hp.ext x2
  have hv2 := hv.ext hx2
  repeat' (first | ((with_reducible refine nx0 ?_); go_step) | ((with_reducible refine o_s ?_); first | refine wk0 ?_ | (refine wg0 ?_ ?_ <;> intro hc)) | fail)
  refine wpl_callV (enters_of Tryz.func39 rfl rfl) rfl rfl (p_Check o v l _ hv2 hb) ?_; intro w3 x3; refine gset ?_
  have hx3 := hx2.trans x3
  have hp3 := hp2.ext x3
  have hv3 := hv2.ext x3
  have h3 := x3.at h2
  repeat' (first | ((with_reducible refine nx0 ?_); go_step) | ((with_reducible refine o_s ?_); first | refine wk0 ?_ | (refine wg0 ?_ ?_ <;> intro hc)) | fail)
  · have q : ¬ zoneR o l = 0 := by simpa using (by assumption : (!decide (zoneR o l = 0)) = true)
    refine wpl_run (v := .agg zeroSoa.toArray) rfl (Runs.build0 (by kernel_rfl)) ?_
    refine gset ?_
    repeat' (first | ((with_reducible refine nx0 ?_); go_step) | ((with_reducible refine o_s ?_); first | refine wk0 ?_ | (refine wg0 ?_ ?_ <;> intro hc)) | fail)
    refine wpl_storeB (v := .agg zeroSoa.toArray) rfl rfl rfl h3 (by decide +kernel) rfl (by decide +kernel) ?_
    intro w4 p4
    have x4 : Ext w w4 := hx3.move p4.mv (by rintro k ⟨⟩; exact x1.size)
    repeat' (first | ((with_reducible refine nx0 ?_); go_step) | ((with_reducible refine o_s ?_); first | refine wk0 ?_ | (refine wg0 ?_ ?_ <;> intro hc)) | fail)
    refine bodyPost_ret (results_cellT (cs := zeroSoa) rfl rfl p4.this (by decide +kernel)) rfl ⟨?_, x4⟩
    rw [show soaZ o l = zR by rw [soaZ, if_neg q], zR_cells]
    rfl
  · have q : zoneR o l = 0 := by simpa using (by assumption : (!decide (zoneR o l = 0)) = false)
    obtain ⟨s, hf, hs, hn, hk, hdat, hpar, hlen⟩ := (zone_ok q).soaSet
    have hZ : soaZ o l = soaOf (soaD o l) := by rw [soaZ, if_pos q]
    have hP : ∀ w', Calls Tryz.prog 88 #[str (soaD o l)] w' (RetV w' (.tuple #[.agg (soaOf (soaD o l)).cells.toArray, .int .i64 0])) := fun w' => by
      have := t38 (soaD o l) w' (by omega)
      rw [hpar] at this
      exact this
    clear hpar
    generalize soaD o l = dd at *
    generalize hgen : soaOf dd = ss at *
    refine wpl_callR (enters_of Tryz.func84 rfl rfl) rfl rfl (t13 v l o 6 _ hv3 (fun s hs => by have := hb s hs; omega)) ?_
    intro r4 w4 x4 hr4
    rw [hf] at hr4
    obtain ⟨y, rfl, oy⟩ := hr4
    have hx4 := hx3.trans x4
    repeat' (first | ((with_reducible refine nx0 ?_); go_step) | ((with_reducible refine o_s ?_); first | refine wk0 ?_ | (refine wg0 ?_ ?_ <;> intro hc)) | fail)
    refine wpl_allocB (z := zset) rfl (by decide +kernel) ?_
    intro w5 x5 s5 h5
    refine gset ?_
    refine wpl_storeB (v := .agg #[str s.name, .int .i64 s.kind, .int .i64 s.ttl, y]) rfl rfl rfl h5 (show sizeTy Tryz.prog 115 4 = true by decide +kernel) rfl (all4 rfl rfl rfl oy.one) ?_
    intro w6 p6
    have x6 : Ext w4 w6 := x5.move p6.mv (by rintro k ⟨⟩; exact Nat.le_refl _)
    have hp6 := pts_block (cs := [str s.name, .int .i64 s.kind, .int .i64 s.ttl, y]) p6.this
    have hy6 := oy.sl.ext x6
    rw [hdat] at hy6
    have hx6 := hx4.trans x6
    have h6 := (x4.trans x6).at h3
    have hy0 := hy6.elem (i := 0) (e := [str dd]) rfl
    clear p6 h5 x5
    have hl1 : (tcells [dd]).length = 1 := rfl
    repeat' (first | ((with_reducible refine nx0 ?_); go_step) | ((with_reducible refine o_s ?_); first | refine wk0 ?_ | (refine wg0 ?_ ?_ <;> intro hc)) | fail)
    refine wpl_callV (enters_of Tryz.func88 rfl rfl) rfl rfl (hP _) ?_; intro w7 x7; refine gset ?_
    have h7 := x7.at h6
    repeat' (first | ((with_reducible refine nx0 ?_); go_step) | ((with_reducible refine o_s ?_); first | refine wk0 ?_ | (refine wg0 ?_ ?_ <;> intro hc)) | fail)
    refine wpl_storeB (v := .agg ss.cells.toArray) rfl rfl rfl h7 (show sizeTy Tryz.prog 61 7 = true by decide +kernel) rfl (soaR_one _) ?_
    intro w8 p8
    have x8 : Ext w w8 := (hx6.trans x7).move p8.mv (by rintro k ⟨⟩; exact x1.size)
    repeat' (first | ((with_reducible refine nx0 ?_); go_step) | ((with_reducible refine o_s ?_); first | refine wk0 ?_ | (refine wg0 ?_ ?_ <;> intro hc)) | fail)
    refine bodyPost_ret (results_cellT (cs := ss.cells) rfl rfl p8.this (show aggTy Tryz.prog 61 7 = true by decide +kernel)) rfl ⟨?_, x8⟩
    rw [hZ, q]
    rfl
def textS (s : List UInt8) : List (List UInt8) → List (List UInt8)
  | [] => [s]
  | x :: l => if Op.bytesLess x s = true then x :: textS s l else if x = s then x :: l else s :: x :: l
theorem textS_len (s : List UInt8) : ∀ l : List (List UInt8), (textS s l).length ≤ l.length + 1
  | [] => by simp [textS]
  | x :: l => by
    rw [textS]
    split
    · have := textS_len s l; simp; omega
    · split <;> simp
def recSet (r : Rec) : RSet := ⟨fold r.name, r.kind, r.ttl, [r.data]⟩
def putS (r : Rec) : List RSet → List RSet
  | [] => [recSet r]
  | g :: gs => if aheadS g (recSet r) = true then g :: putS r gs else if aheadS (recSet r) g = true then recSet r :: g :: gs else ⟨fold r.name, r.kind, min r.ttl g.ttl, textS r.data g.data⟩ :: gs
def putAll (l : List Rec) : List RSet := l.foldl (fun gs r => putS r gs) []
theorem putAll_succ {l : List Rec} {k : Nat} (h : k < l.length) : putAll (l.take (k + 1)) = putS l[k] (putAll (l.take k)) := by
  rw [putAll, List.take_add_one, List.getElem?_eq_getElem h, Option.toList_some, List.foldl_append]
  rfl
theorem putS_len (r : Rec) : ∀ gs : List RSet, (putS r gs).length ≤ gs.length + 1
  | [] => by simp [putS]
  | g :: gs => by
    have := putS_len r gs
    rw [putS]
    split
    · simp; omega
    · split <;> simp
theorem putS_data (r : Rec) (n : Nat) : ∀ gs : List RSet, (∀ s ∈ gs, s.data.length ≤ n) → ∀ s ∈ putS r gs, s.data.length ≤ n + 1
  | [], _, s, h => by
    have : s = recSet r := by simpa [putS] using h
    subst this; simp [recSet]
  | g :: gs, hn, s, h => by
    have hg := hn g (by simp)
    have hn' : ∀ s ∈ gs, s.data.length ≤ n := fun s hs => hn s (by simp [hs])
    rw [putS] at h
    split at h
    · rcases List.mem_cons.1 h with rfl | h
      · omega
      · exact putS_data r n gs hn' s h
    · split at h
      · rcases List.mem_cons.1 h with rfl | h
        · simp [recSet]
        · have := hn s h; omega
      · rcases List.mem_cons.1 h with rfl | h
        · have := textS_len r.data g.data
          show (textS r.data g.data).length ≤ n + 1
          omega
        · have := hn' s h; omega
theorem putAll_bounds (l : List Rec) : ∀ k, k ≤ l.length → (putAll (l.take k)).length ≤ k ∧ ∀ s ∈ putAll (l.take k), s.data.length ≤ k
  | 0, _ => by simp [putAll]
  | k + 1, h => by
    obtain ⟨h1, h2⟩ := putAll_bounds l k (by omega)
    rw [putAll_succ (show k < l.length by omega)]
    have := putS_len (l[k]'(by omega)) (putAll (l.take k))
    exact ⟨by omega, putS_data _ k _ h2⟩
def refE (l : List Rec) : Int := if l.all okR = false then 1 else if 200 < (putAll l).length then 4 else if (putAll l).any big = true then 4 else 0
def RefR (B : Nat) (l : List Rec) (r : Value) (w' : World) : Prop := if refE l = 0 then ∃ v, r = .tuple #[v, .int .i64 0] ∧ SetsO B w' v (putAll l) else r = .tuple #[.slice none 0 0, .int .i64 (refE l)]
theorem mem_addTo : ∀ {gs : List RSet} {r : Rec} {s : RSet}, Apart gs → s ∈ addTo gs r → (s ∈ gs ∧ match1 s r = false) ∨ (∃ t ∈ gs, match1 t r = true ∧ s = bump t r) ∨ ((∀ t ∈ gs, match1 t r = false) ∧ s = ⟨fold r.name, r.kind, r.ttl, [r.data]⟩)
  | [], r, s, _, h => by
    right; right
    exact ⟨by simp, by simpa [addTo] using h⟩
  | a :: l, r, s, hd, h => by
    obtain ⟨p1, p2⟩ := List.pairwise_cons.1 (apart_pw.1 hd)
    by_cases hm : match1 a r = true
    · simp only [addTo, hm, if_true, List.mem_cons] at h
      rcases h with h | h
      · exact .inr (.inl ⟨a, by simp, hm, h⟩)
      · refine .inl ⟨by simp [h], ?_⟩
        cases hs : match1 s r with
        | false => rfl
        | true =>
          exfalso
          simp only [match1, Bool.and_eq_true, decide_eq_true_eq] at hs hm
          exact p1 s h ⟨by rw [hm.1, hs.1], by rw [hm.2, hs.2]⟩
    · have hm' : match1 a r = false := by simpa using hm
      simp only [addTo, hm', Bool.false_eq_true, if_false, List.mem_cons] at h
      rcases h with rfl | h
      · exact .inl ⟨by simp, hm'⟩
      · rcases mem_addTo (apart_pw.2 p2) h with ⟨h1, h2⟩ | ⟨t, h1, h2, h3⟩ | ⟨h1, h2⟩
        · exact .inl ⟨by simp [h1], h2⟩
        · exact .inr (.inl ⟨t, by simp [h1], h2, h3⟩)
        · refine .inr (.inr ⟨?_, h2⟩)
          intro t ht
          rcases List.mem_cons.1 ht with rfl | ht
          · exact hm'
          · exact h1 t ht
structure Ch (L : List Rec) (s : RSet) : Prop where
  dat : ∀ d, d ∈ s.data ↔ ∃ r ∈ L, match1 s r = true ∧ r.data = d
  ttl : ∃ r ∈ L, match1 s r = true ∧ r.ttl = s.ttl
  low : ∀ r ∈ L, match1 s r = true → s.ttl ≤ r.ttl
theorem Ch.miss {L : List Rec} {s : RSet} {r : Rec} (h : Ch L s) (hm : match1 s r = false) : Ch (L ++ [r]) s where
  dat d := by
    rw [h.dat]
    constructor
    · rintro ⟨q, h1, h2⟩; exact ⟨q, by simp [h1], h2⟩
    · rintro ⟨q, h1, h2, h3⟩
      rcases List.mem_append.1 h1 with h1 | h1
      · exact ⟨q, h1, h2, h3⟩
      · obtain rfl := List.mem_singleton.1 h1
        rw [hm] at h2; cases h2
  ttl := let ⟨q, h1, h2⟩ := h.ttl; ⟨q, by simp [h1], h2⟩
  low q h1 h2 := by
    rcases List.mem_append.1 h1 with h1 | h1
    · exact h.low q h1 h2
    · obtain rfl := List.mem_singleton.1 h1
      rw [hm] at h2; cases h2
theorem Ch.bump {L : List Rec} {s : RSet} {r : Rec} (h : Ch L s) (hm : match1 s r = true) : Ch (L ++ [r]) (X.bump s r) where
  dat d := by
    show d ∈ s.data ++ [r.data] ↔ ∃ q ∈ L ++ [r], match1 s q = true ∧ q.data = d
    rw [List.mem_append, h.dat, List.mem_singleton]
    constructor
    · rintro (⟨q, h1, h2⟩ | rfl)
      · exact ⟨q, by simp [h1], h2⟩
      · exact ⟨r, by simp, hm, rfl⟩
    · rintro ⟨q, h1, h2, h3⟩
      rcases List.mem_append.1 h1 with h1 | h1
      · exact .inl ⟨q, h1, h2, h3⟩
      · obtain rfl := List.mem_singleton.1 h1
        exact .inr h3.symm
  ttl := by
    show ∃ q ∈ L ++ [r], match1 s q = true ∧ q.ttl = min s.ttl r.ttl
    obtain ⟨q, h1, h2, h3⟩ := h.ttl
    rcases Int.le_total s.ttl r.ttl with hl | hl
    · exact ⟨q, by simp [h1], h2, by rw [h3]; omega⟩
    · exact ⟨r, by simp, hm, by omega⟩
  low q h1 h2 := by
    show min s.ttl r.ttl ≤ q.ttl
    rcases List.mem_append.1 h1 with h1 | h1
    · have := h.low q h1 h2
      omega
    · obtain rfl := List.mem_singleton.1 h1
      omega
theorem Ch.new {L : List Rec} {r : Rec} (h : ∀ q ∈ L, match1 ⟨fold r.name, r.kind, r.ttl, [r.data]⟩ q = false) : Ch (L ++ [r]) ⟨fold r.name, r.kind, r.ttl, [r.data]⟩ where
  dat d := by
    rw [List.mem_singleton]
    constructor
    · rintro rfl; exact ⟨r, by simp, by simp [match1], rfl⟩
    · rintro ⟨q, h1, h2, h3⟩
      rcases List.mem_append.1 h1 with h1 | h1
      · rw [h q h1] at h2; cases h2
      · obtain rfl := List.mem_singleton.1 h1
        exact h3.symm
  ttl := ⟨r, by simp, by simp [match1], rfl⟩
  low q h1 h2 := by
    rcases List.mem_append.1 h1 with h1 | h1
    · rw [h q h1] at h2; cases h2
    · obtain rfl := List.mem_singleton.1 h1
      exact Int.le_refl _
theorem gather_ch (l : List Rec) : ∀ k, k ≤ l.length → ∀ s ∈ gather (l.take k), Ch (l.take k) s
  | 0, _, s, h => by simp [gather] at h
  | k + 1, hk, s, h => by
    have hlt : k < l.length := by omega
    have e : l.take (k + 1) = l.take k ++ [l[k]] := by simp
    rw [gather_snoc hlt] at h
    rw [e]
    have ih := gather_ch l k (by omega)
    rcases mem_addTo (gather_apart _) h with ⟨h1, h2⟩ | ⟨t, h1, h2, rfl⟩ | ⟨h1, rfl⟩
    · exact (ih s h1).miss h2
    · exact (ih t h1).bump h2
    · refine Ch.new fun q hq => ?_
      obtain ⟨t, ht, hm, _⟩ := gather_cov hq
      have := h1 t ht
      cases hx : match1 ⟨fold l[k].name, l[k].kind, l[k].ttl, [l[k].data]⟩ q with
      | false => rfl
      | true =>
        exfalso
        simp only [match1, Bool.and_eq_true, decide_eq_true_eq] at hx hm
        have h5 : match1 t l[k] = true := by
          simp only [match1, Bool.and_eq_true, decide_eq_true_eq]
          exact ⟨by rw [hm.1, hx.1], by rw [hm.2, hx.2]⟩
        rw [this] at h5; cases h5
theorem Ch.norm {L : List Rec} {s : RSet} (h : Ch L s) : Ch L (X.norm s) where
  dat d := by
    show d ∈ nub s.data ↔ ∃ r ∈ L, match1 s r = true ∧ r.data = d
    rw [mem_nub, h.dat]
  ttl := h.ttl
  low := h.low
theorem groups_ch {l : List Rec} {s : RSet} (h : s ∈ groups l) : Ch l s ∧ s.data.Pairwise (· < ·) := by
  obtain ⟨u, hu, rfl⟩ := List.mem_map.1 h
  have := gather_ch l l.length (Nat.le_refl _)
  rw [List.take_length] at this
  exact ⟨(this u hu).norm, strict_nub _⟩
theorem Ch.uniq {L : List Rec} {s t : RSet} (h : Ch L s) (k : Ch L t) (hs : s.data.Pairwise (· < ·)) (ht : t.data.Pairwise (· < ·)) (hn : s.name = t.name) (hk : s.kind = t.kind) : s = t := by
  have hm : ∀ r, match1 s r = match1 t r := fun r => by rw [match1, match1, hn, hk]
  have hd : s.data = t.data := strict_eq hs ht fun d => by
    rw [h.dat, k.dat]
    simp only [hm]
  have ha : s.ttl = t.ttl := by
    obtain ⟨q, h1, h2, h3⟩ := h.ttl
    obtain ⟨q', k1, k2, k3⟩ := k.ttl
    have e1 := k.low q h1 (by rw [← hm]; exact h2)
    have e2 := h.low q' k1 (by rw [hm]; exact k2)
    omega
  cases s; cases t
  simp_all
end Go.Proofs.X
