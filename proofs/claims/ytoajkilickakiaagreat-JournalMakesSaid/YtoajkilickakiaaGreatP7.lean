/- Laws and walks that the proof of the statement is made of (part 7). -/
import Derived.Test.YtoajkilickakiaaGreatProg
import Derived.Lib.Hide
import Derived.Test.YtoajkilickakiaaGreatShelf
import Derived.Shelf.SlSortCmp.NoneTotal
import Derived.OwnWalk
import Derived.Shelf.RegionOpenPlain
import Derived.Lib.Strings
import Derived.Lib.Slices
import Derived.Lib.Walk
import Derived.Lib.Builder
import Derived.Lib.AppendStr
import Derived.Lib.UnsafeStr
import Derived.Lib.MakeNoZero
import Derived.WalkKit
import Derived.Laws.Externs
import Derived.Laws.IdiomCopy
import Derived.Laws.BitsLemmas
import GoSem.Claims
import Derived.Test.YtoajkilickakiaaGreatP1
import Derived.Test.YtoajkilickakiaaGreatP2
import Derived.Test.YtoajkilickakiaaGreatP3
import Derived.Test.YtoajkilickakiaaGreatP4
import Derived.Test.YtoajkilickakiaaGreatP5
import Derived.Test.YtoajkilickakiaaGreatP6
set_option linter.unusedSimpArgs false
set_option linter.unusedVariables false
namespace Go.Proofs.X
open Go.RowKit
set_option maxRecDepth 100000
theorem mem_upTo (d : Array (List UInt8)) (x : List UInt8) : ∀ m, x ∈ Lib.compactUpTo d m ↔ ∃ j, j < m ∧ d[j]! = x
  | 0 => by simp [Lib.compactUpTo]
  | m + 1 => by
    have ih := mem_upTo d x m
    rw [Lib.compactUpTo_succ, List.mem_append, ih]
    constructor
    · rintro (⟨j, h1, h2⟩ | h)
      · exact ⟨j, by omega, h2⟩
      · split at h
        · exact ⟨m, by omega, (List.mem_singleton.1 h).symm⟩
        · cases h
    · rintro ⟨j, h1, h2⟩
      by_cases hj : j < m
      · exact .inl ⟨j, hj, h2⟩
      · have : j = m := by omega
        subst this
        by_cases hk : Lib.keeps d j = true
        · right; rw [if_pos hk]; simp [h2]
        · left
          simp only [Lib.keeps, decide_eq_true_eq, not_or, ne_eq, Classical.not_not] at hk
          exact ⟨j - 1, by omega, by rw [← hk.2]; exact h2⟩
theorem lt_of_le_ne {a b : List UInt8} (h : a ≤ b) (hn : a ≠ b) : a < b := by
  rcases Std.lt_trichotomy a b with h1 | h1 | h1
  · exact h1
  · exact absurd h1 hn
  · exact absurd h (List.not_le.2 h1)
theorem strict_upTo (d : Array (List UInt8)) (hd : ∀ i j, i < j → j < d.size → d[i]! ≤ d[j]!) : ∀ m, m ≤ d.size → (Lib.compactUpTo d m).Pairwise (· < ·)
  | 0, _ => by simp [Lib.compactUpTo]
  | m + 1, hm => by
    have ih := strict_upTo d hd m (by omega)
    rw [Lib.compactUpTo_succ, List.pairwise_append]
    refine ⟨ih, by split <;> simp, fun x hx y hy => ?_⟩
    split at hy
    · rename_i hk
      have hy := List.mem_singleton.1 hy
      subst hy
      obtain ⟨j, hj, rfl⟩ := (mem_upTo d x m).1 hx
      simp only [Lib.keeps, decide_eq_true_eq] at hk
      have hne : d[m]! ≠ d[m - 1]! := hk.resolve_left (by omega)
      have h1 : d[j]! ≤ d[m - 1]! := by
        by_cases e : j = m - 1
        · rw [e]; exact List.le_refl _
        · exact hd j (m - 1) (by omega) (by omega)
      have h2 := lt_of_le_ne (hd (m - 1) m (by omega) (by omega)) (Ne.symm hne)
      exact Std.lt_of_le_of_lt h1 h2
    · cases hy
def nub (l : List (List UInt8)) : List (List UInt8) := Lib.compact (l.mergeSort fun x y => decide (x ≤ y))
theorem mem_nub {l : List (List UInt8)} {x : List UInt8} : x ∈ nub l ↔ x ∈ l := by
  unfold nub Lib.compact
  rw [mem_upTo]
  rw [← List.mem_mergeSort (le := fun x y : List UInt8 => decide (x ≤ y)) (l := l)]
  generalize l.mergeSort (fun x y => decide (x ≤ y)) = s
  constructor
  · rintro ⟨j, hj, h⟩
    rw [getElem!_pos s.toArray j (by simpa using hj)] at h
    rw [← h]
    simp
  · intro h
    obtain ⟨j, hj⟩ := List.mem_iff_getElem?.1 h
    obtain ⟨hj1, hj2⟩ := List.getElem?_eq_some_iff.1 hj
    exact ⟨j, hj1, by rw [getElem!_pos s.toArray j (by simpa using hj1)]; simpa using hj2⟩
theorem strict_nub (l : List (List UInt8)) : (nub l).Pairwise (· < ·) := by
  unfold nub Lib.compact
  have hs := List.pairwise_mergeSort (le := fun x y : List UInt8 => decide (x ≤ y)) (fun a b c h1 h2 => by simp at *; exact Std.le_trans h1 h2) (fun a b => by simp; exact Std.le_total) l
  generalize l.mergeSort (fun x y => decide (x ≤ y)) = s at hs ⊢
  refine strict_upTo _ (fun i j hij hj => ?_) _ (by simp)
  have hj' : j < s.length := by simpa using hj
  rw [getElem!_pos s.toArray j hj, getElem!_pos s.toArray i (by simp; omega)]
  have := List.pairwise_iff_getElem.1 hs i j (by omega) hj' hij
  simpa using this
theorem strict_eq : ∀ {a b : List (List UInt8)}, a.Pairwise (· < ·) → b.Pairwise (· < ·) → (∀ x, x ∈ a ↔ x ∈ b) → a = b := by
  intro a b ha hb h
  have na : a.Nodup := ha.imp (fun h e => by subst e; exact Std.lt_irrefl h)
  have nb : b.Nodup := hb.imp (fun h e => by subst e; exact Std.lt_irrefl h)
  have hp : a.Perm b := (List.perm_ext_iff_of_nodup na nb).2 h
  exact hp.eq_of_pairwise (le := (· < ·)) (fun x y _ _ h1 h2 => absurd (Std.lt_trans h1 h2) (Std.lt_irrefl)) ha hb
def Cov (gs : List RSet) (r : Rec) : Prop := ∃ s ∈ gs, match1 s r = true ∧ s.ttl ≤ r.ttl ∧ r.data ∈ s.data
theorem match1_bump {s : RSet} {r q : Rec} : match1 (bump s r) q = match1 s q := rfl
theorem addTo_cov_new : ∀ {gs : List RSet} {r : Rec}, Cov (addTo gs r) r
  | [], r => ⟨⟨fold r.name, r.kind, r.ttl, [r.data]⟩, by simp [addTo], by simp [match1], Int.le_refl _, by simp⟩
  | a :: l, r => by
    by_cases h : match1 a r = true
    · exact ⟨bump a r, by simp [addTo, h], by rw [match1_bump]; exact h, Int.min_le_right _ _, by simp [bump]⟩
    · obtain ⟨s, h1, h2⟩ := addTo_cov_new (gs := l) (r := r)
      exact ⟨s, by simp [addTo, h, h1], h2⟩
theorem addTo_cov : ∀ {gs : List RSet} {r q : Rec}, Cov gs q → Cov (addTo gs r) q
  | [], r, q, ⟨s, h, _⟩ => by simp at h
  | a :: l, r, q, ⟨s, h1, h2, h3, h4⟩ => by
    by_cases h : match1 a r = true
    · rcases List.mem_cons.1 h1 with rfl | h1
      · exact ⟨bump s r, by simp [addTo, h], by rw [match1_bump]; exact h2, Int.le_trans (Int.min_le_left _ _) h3, by simp [bump, h4]⟩
      · exact ⟨s, by simp [addTo, h, h1], h2, h3, h4⟩
    · rcases List.mem_cons.1 h1 with rfl | h1
      · exact ⟨s, by simp [addTo, h], h2, h3, h4⟩
      · obtain ⟨t, g1, g2⟩ := addTo_cov (gs := l) (r := r) ⟨s, h1, h2, h3, h4⟩
        exact ⟨t, by simp [addTo, h, g1], g2⟩
theorem gather_cov_aux (l : List Rec) : ∀ gs, (∀ q, Cov gs q → Cov (l.foldl addTo gs) q) ∧ ∀ q ∈ l, Cov (l.foldl addTo gs) q := by
  induction l with
  | nil => intro gs; exact ⟨fun _ h => h, by simp⟩
  | cons r l ih =>
    intro gs
    obtain ⟨h1, h2⟩ := ih (addTo gs r)
    refine ⟨fun q h => h1 q (addTo_cov h), fun q hq => ?_⟩
    rcases List.mem_cons.1 hq with rfl | hq
    · exact h1 q addTo_cov_new
    · exact h2 q hq
theorem gather_cov {l : List Rec} {q : Rec} (h : q ∈ l) : Cov (gather l) q := (gather_cov_aux l []).2 q h
theorem parse_enc : ∀ {ls : List (List UInt8)}, ls.all fitL = true → parse (enc ls) = some ls
  | [], _ => rfl
  | x :: ls, h => by
    simp only [List.all_cons, Bool.and_eq_true] at h
    obtain ⟨hx, hl⟩ := h
    have e : enc (x :: ls) = UInt8.ofNat x.length :: (x ++ enc ls) := by simp [enc]
    simp only [fitL, Bool.and_eq_true, decide_eq_true_eq] at hx
    have hn : (UInt8.ofNat x.length).toNat = x.length := by rw [UInt8.toNat_ofNat']; exact Nat.mod_eq_of_lt (by omega)
    rw [e, parse_cons, hn, if_neg (by rw [List.length_append]; omega), List.drop_left, List.take_left, parse_enc hl]
    rfl
theorem labels_enc {ls : List (List UInt8)} (h : ls.all fitL = true) (hl : (enc ls).length ≤ 254) : labels (enc ls) = some ls := by
  rw [labels, if_neg (by omega), parse_enc h]
theorem lowB_idem (b : UInt8) : lowB (lowB b) = lowB b := by
  unfold lowB
  by_cases h : 65 ≤ b.toNat ∧ b.toNat ≤ 90
  · rw [if_pos h, if_neg]
    have : (b + 32).toNat = b.toNat + 32 := by rw [UInt8.toNat_add]; have : (32 : UInt8).toNat = 32 := rfl; rw [this]; omega
    omega
  · rw [if_neg h, if_neg h]
theorem low_idem (l : List UInt8) : low (low l) = low l := by simp [low, lowB_idem]
theorem fit_low {ls : List (List UInt8)} (h : ls.all fitL = true) : (ls.map low).all fitL = true := by
  simp only [List.all_map, List.all_eq_true] at *
  intro x hx
  have := h x hx
  simpa [fitL, low_length] using this
theorem fold_valid {n : List UInt8} {ls : List (List UInt8)} (h : labels n = some ls) : fold n = enc (ls.map low) ∧ labels (fold n) = some (ls.map low) ∧ fold (fold n) = fold n := by
  obtain ⟨h1, h2, h3⟩ := labels_fit h
  have hf := fit_low h1
  have hl : (enc (ls.map low)).length ≤ 254 := by rw [enc_low_length, h2]; exact h3
  have e1 : fold n = enc (ls.map low) := by
    unfold fold
    rw [h]
    simp only [join]
    rw [if_pos ⟨hf, hl⟩]
    rfl
  have e2 : labels (fold n) = some (ls.map low) := by rw [e1]; exact labels_enc hf hl
  refine ⟨e1, e2, ?_⟩
  have hmm : (ls.map low).map low = ls.map low := by simp [List.map_map, Function.comp_def, low_idem]
  show (match labels (fold n) with | none => fold n | some ls => (join (ls.map low)).getD []) = fold n
  rw [e2]
  simp only [hmm, join]
  rw [if_pos ⟨hf, hl⟩, e1]
  rfl
def Small (n : List UInt8) : Prop := ∃ m ls, labels m = some ls ∧ n = fold m
theorem Small.turned {n : List UInt8} (h : Small n) : ∃ ls, turned n = some ls.reverse ∧ n = enc ls := by
  obtain ⟨m, ls, h1, rfl⟩ := h
  obtain ⟨e1, e2, e3⟩ := fold_valid h1
  exact ⟨ls.map low, by rw [X.turned, e3, e2]; rfl, e1⟩
theorem cmpB_zero {a b : List UInt8} (h : cmpB a b = 0) : a = b := by
  rw [cmpB_val] at h
  split at h
  · omega
  · split at h
    · assumption
    · omega
theorem cmpL_zero : ∀ {a b : List (List UInt8)}, cmpL a b = 0 → a = b
  | [], [], _ => rfl
  | [], _ :: _, h => by simp [cmpL] at h
  | _ :: _, [], h => by simp [cmpL] at h
  | x :: xs, y :: ys, h => by
    simp only [cmpL] at h
    split at h
    · rename_i hn; exact absurd h hn
    · rename_i hn
      have hz : cmpB x y = 0 := by omega
      rw [cmpB_zero hz, cmpL_zero h]
theorem cmpN_zero {a b : List UInt8} (ha : Small a) (hb : Small b) (h : cmpN a b = 0) : a = b := by
  obtain ⟨x, hx, rfl⟩ := ha.turned
  obtain ⟨y, hy, rfl⟩ := hb.turned
  unfold cmpN at h
  rw [hx, hy] at h
  have := cmpL_zero h
  rw [List.reverse_inj.1 this]
theorem cmpSet_zero {a b : List UInt8} {j k : Int} (ha : Small a) (hb : Small b) (h : cmpSet a b j k = 0) : a = b ∧ j = k := by
  unfold cmpSet at h
  split at h
  · rename_i hn; exact absurd h hn
  · rename_i hn
    refine ⟨cmpN_zero ha hb (by omega), ?_⟩
    unfold cmpI at h
    split at h
    · omega
    · split at h <;> omega
theorem groups_small {l : List Rec} (h : l.all okR = true) {s : RSet} (hs : s ∈ groups l) : Small s.name := by
  obtain ⟨t, ht, rfl⟩ := List.mem_map.1 hs
  obtain ⟨r, hr, e1, _⟩ := gather_ok ht
  have hrc : checkR r = 0 := by simpa [okR] using List.all_eq_true.1 h r hr
  obtain ⟨hlab, _⟩ := ready_labels (n := []) hrc
  obtain ⟨ls, hls⟩ := Option.isSome_iff_exists.1 hlab
  exact ⟨r.name, ls, hls, e1⟩
theorem groups_apart (l : List Rec) : (groups l).Pairwise fun s t => ¬ (s.name = t.name ∧ s.kind = t.kind) := List.pairwise_map.2 (apart_pw.1 (gather_apart l))
def leS (s t : RSet) : Prop := 0 ≤ cmpSet t.name s.name t.kind s.kind
theorem sorted_pw {l : List RSet} (h : Sorted l) : l.Pairwise leS := by
  rw [List.pairwise_iff_getElem]
  intro i j hi hj hij
  exact h i j _ _ hij (List.getElem?_eq_getElem hi) (List.getElem?_eq_getElem hj)
theorem sorted_one {l : List Rec} (hok : l.all okR = true) {a b : List RSet} (ha : a.Perm (groups l)) (hb : b.Perm (groups l)) (sa : Sorted a) (sb : Sorted b) : a = b := by
  have key : ∀ s t, s ∈ a → t ∈ b → leS s t → leS t s → s = t := by
    intro s t hs ht h1 h2
    have hs' := ha.mem_iff.1 hs
    have ht' := hb.mem_iff.1 ht
    have an : cmpSet t.name s.name t.kind s.kind = - cmpSet s.name t.name s.kind t.kind := tpo_cmpSet.anti (s.name, s.kind) (t.name, t.kind)
    have h1' : 0 ≤ cmpSet t.name s.name t.kind s.kind := h1
    have h2' : 0 ≤ cmpSet s.name t.name s.kind t.kind := h2
    clear h1 h2
    have hz : cmpSet s.name t.name s.kind t.kind = 0 := by
      generalize cmpSet s.name t.name s.kind t.kind = p at *
      generalize cmpSet t.name s.name t.kind s.kind = q at *
      omega
    obtain ⟨e1, e2⟩ := cmpSet_zero (groups_small hok hs') (groups_small hok ht') hz
    by_cases e : s = t
    · exact e
    · exfalso
      obtain ⟨i, hi⟩ := List.mem_iff_getElem?.1 hs'
      obtain ⟨j, hj⟩ := List.mem_iff_getElem?.1 ht'
      have hij : i ≠ j := by
        rintro rfl
        rw [hi] at hj
        exact e (Option.some.inj hj)
      exact apart_pw.2 (groups_apart l) i j s t hi hj hij ⟨e1, e2⟩
  exact List.Perm.eq_of_pairwise key (sorted_pw sa) (sorted_pw sb) (ha.trans hb.symm)
theorem turned_eq (n : List UInt8) : turned n = (labels n).map fun ls => (ls.map low).reverse := by
  cases h : labels n with
  | none => simp [turned, fold, h]
  | some ls => simp [turned, (fold_valid h).2.1]
set_option maxHeartbeats 6000000 in
theorem r1_Fold (nm : List UInt8) (w : World) : Calls Tryz.prog 44 #[str nm] w (RetV w (str (fold nm))) := by
  go_enter Tryz.func44, Tryz.ntmps44
  repeat' (first | ((with_reducible refine o_s ?_); (first | (refine o_1 ?_; refine o_2 ?_) | (refine o_g ?_; first | refine o_u ?_ | refine o_k ?_ | refine o_n ?_ | refine o_v ?_ | ((first | refine o_G ?_ ?_ | refine o_N ?_ ?_) <;> intro hc)))) | ((fail_if_success (with_reducible refine o_s ?_)); go_step))
  refine wpl_callR (enters_of Tryz.func94 rfl rfl) rfl rfl (r1_cut nm _) ?_
  intro v w1 x1 hv
  cases hl : labels nm with
  | none =>
    rw [hl] at hv
    subst hv
    repeat' (first | ((with_reducible refine o_s ?_); (first | (refine o_1 ?_; refine o_2 ?_) | (refine o_g ?_; first | refine o_u ?_ | refine o_k ?_ | refine o_n ?_ | refine o_v ?_ | ((first | refine o_G ?_ ?_ | refine o_N ?_ ?_) <;> intro hc)))) | ((fail_if_success (with_reducible refine o_s ?_)); go_step))
    go_ret
    exact ⟨by simp [fold, hl], x1⟩
  | some ls =>
    rw [hl] at hv
    obtain ⟨s, rfl, hs⟩ := hv
    have hfit := labels_fit hl
    have hlen := len_le_enc ls
    rw [hfit.2.1] at hlen
    repeat' (first | ((with_reducible refine o_s ?_); (first | (refine o_1 ?_; refine o_2 ?_) | (refine o_g ?_; first | refine o_u ?_ | refine o_k ?_ | refine o_n ?_ | refine o_v ?_ | ((first | refine o_G ?_ ?_ | refine o_N ?_ ?_) <;> intro hc)))) | ((fail_if_success (with_reducible refine o_s ?_)); go_step))
    go_loopw [5] (fun i wr => ∃ k : Nat, k ≤ ls.length ∧ i = .int .i64 k ∧ Ext w wr ∧ Own w.heap.size 1 9 wr s (tcells (mapP low ls k))) (fun i _ => ls.length - (intOf i).toNat)
    case atStart => exact ⟨0, Nat.zero_le _, rfl, x1, by simpa [mapP_zero] using hs⟩
    case round =>
      obtain ⟨k, hk, rfl, hx, ho⟩ := hrel
      have hsl := ho.sl
      have hlen2 : (tcells (mapP low ls k)).length = ls.length := by rw [tcells_length, mapP_length]
      by_cases hlt : k < ls.length
      · have hp := hsl.elem (tcells_get _ _ _ (mapP_get low ls k hlt))
        have h254 : ls[k].length ≤ 254 := by have := mem_enc_le (List.getElem_mem hlt); rw [hfit.2.1] at this; omega
        repeat' (first | ((with_reducible refine o_s ?_); (first | (refine o_1 ?_; refine o_2 ?_) | (refine o_g ?_; first | refine o_u ?_ | refine o_k ?_ | refine o_n ?_ | refine o_v ?_ | ((first | refine o_G ?_ ?_ | refine o_N ?_ ?_) <;> intro hc)))) | ((fail_if_success (with_reducible refine o_s ?_)); go_step))
        refine wpl_callV (enters_of Tryz.func95 rfl rfl) rfl rfl (r1_Small _ _ (by omega)) ?_; intro w2 x2; refine gset ?_
        have hsl := hsl.ext x2
        have ho := ho.ext x2
        have hx := hx.trans x2
        clear hp
        repeat' (first | ((with_reducible refine o_s ?_); (first | (refine o_1 ?_; refine o_2 ?_) | (refine o_g ?_; first | refine o_u ?_ | refine o_k ?_ | refine o_n ?_ | refine o_v ?_ | ((first | refine o_G ?_ ?_ | refine o_N ?_ ?_) <;> intro hc)))) | ((fail_if_success (with_reducible refine o_s ?_)); go_step))
        refine wpl_storeE1 (c := str (low ls[k])) (i := k) rfl rfl rfl ho (by omega) (by decide +kernel) rfl ?_
        intro w3 o3 m3
        have hx3 := ho.mvx m3 hx (Nat.le_refl _)
        rw [tcells_set, ← mapP_succ low ls k hlt] at o3
        clear hx ho hsl
        repeat' (first | ((with_reducible refine o_s ?_); (first | (refine o_1 ?_; refine o_2 ?_) | (refine o_g ?_; first | refine o_u ?_ | refine o_k ?_ | refine o_n ?_ | refine o_v ?_ | ((first | refine o_G ?_ ?_ | refine o_N ?_ ?_) <;> intro hc)))) | ((fail_if_success (with_reducible refine o_s ?_)); go_step))
        exact ⟨⟨k + 1, by omega, by go_num, hx3, o3⟩, by simp [intOf]; omega⟩
      · have : k = ls.length := by omega
        subst this
        rw [mapP_all] at hsl hlen2
        repeat' (first | ((with_reducible refine o_s ?_); (first | (refine o_1 ?_; refine o_2 ?_) | (refine o_g ?_; first | refine o_u ?_ | refine o_k ?_ | refine o_n ?_ | refine o_v ?_ | ((first | refine o_G ?_ ?_ | refine o_N ?_ ?_) <;> intro hc)))) | ((fail_if_success (with_reducible refine o_s ?_)); go_step))
        refine wpl_callV (enters_of Tryz.func96 rfl rfl) rfl rfl (r1_Join _ _ _ hsl) ?_; intro w2 x2; refine gset ?_
        cases hj : join (ls.map low) with
        | none =>
          repeat' (first | ((with_reducible refine o_s ?_); (first | (refine o_1 ?_; refine o_2 ?_) | (refine o_g ?_; first | refine o_u ?_ | refine o_k ?_ | refine o_n ?_ | refine o_v ?_ | ((first | refine o_G ?_ ?_ | refine o_N ?_ ?_) <;> intro hc)))) | ((fail_if_success (with_reducible refine o_s ?_)); go_step))
          go_ret
          exact ⟨by simp [fold, hl, hj], hx.trans x2⟩
        | some n =>
          repeat' (first | ((with_reducible refine o_s ?_); (first | (refine o_1 ?_; refine o_2 ?_) | (refine o_g ?_; first | refine o_u ?_ | refine o_k ?_ | refine o_n ?_ | refine o_v ?_ | ((first | refine o_G ?_ ?_ | refine o_N ?_ ?_) <;> intro hc)))) | ((fail_if_success (with_reducible refine o_s ?_)); go_step))
          go_ret
          exact ⟨by simp [fold, hl, hj], hx.trans x2⟩
def underN (n t : List UInt8) : Bool := match turned n with
  | none => false
  | some a => match turned t with
    | none => false
    | some b => decide (a.take b.length = b)
def rlow (ls : List (List UInt8)) : List (List UInt8) := (ls.map low).reverse
theorem rlow_length (ls : List (List UInt8)) : (rlow ls).length = ls.length := by simp [rlow]
theorem rlow_get {ls : List (List UInt8)} {k : Nat} (h : k < ls.length) : (rlow ls)[k]'(by rw [rlow_length]; exact h) = low (ls[ls.length - 1 - k]'(by omega)) := by
  simp [rlow]
theorem back_at {w : World} {v : Value} {ls : List (List UInt8)} (h : Sl 1 w v (tcells ls)) {k : Nat} (hk : k < ls.length) : Pts w (elemPtr v ((((tcells ls).length : Int) - 1 - k).toNat * 1)) [str (ls[ls.length - 1 - k]'(by omega))] := by
  have := h.elem (i := ls.length - 1 - k) (e := [str (ls[ls.length - 1 - k]'(by omega))]) (tcells_at (by omega))
  rwa [show (((tcells ls).length : Int) - 1 - k).toNat = ls.length - 1 - k by rw [tcells_length]; omega]
theorem take_len_eq {α : Type} {a b : List α} {k : Nat} (h : a.take b.length = b) (hk : k < b.length) (ha : k < a.length) : a[k] = b[k] := by
  have h1 : (a.take b.length)[k]? = b[k]? := by rw [h]
  rw [List.getElem?_take, if_pos hk, List.getElem?_eq_getElem ha, List.getElem?_eq_getElem hk] at h1
  exact Option.some.inj h1
set_option maxHeartbeats 12000000 in
theorem r1_Under (a b : List UInt8) (w : World) : Calls Tryz.prog 50 #[str a, str b] w (RetV w (.bool (underN a b))) := by
  go_enter Tryz.func50, Tryz.ntmps50
  repeat' (first | ((with_reducible refine o_s ?_); (first | (refine o_1 ?_; refine o_2 ?_) | (refine o_g ?_; first | refine o_u ?_ | refine o_k ?_ | refine o_n ?_ | refine o_v ?_ | ((first | refine o_G ?_ ?_ | refine o_N ?_ ?_) <;> intro hc)))) | ((fail_if_success (with_reducible refine o_s ?_)); go_step))
  refine wpl_callR (enters_of Tryz.func94 rfl rfl) rfl rfl (r1_cut a _) ?_
  intro v w1 x1 hv
  cases hl : labels a with
  | none =>
    rw [hl] at hv
    subst hv
    repeat' (first | ((with_reducible refine o_s ?_); (first | (refine o_1 ?_; refine o_2 ?_) | (refine o_g ?_; first | refine o_u ?_ | refine o_k ?_ | refine o_n ?_ | refine o_v ?_ | ((first | refine o_G ?_ ?_ | refine o_N ?_ ?_) <;> intro hc)))) | ((fail_if_success (with_reducible refine o_s ?_)); go_step))
    refine wpl_callR (enters_of Tryz.func94 rfl rfl) rfl rfl (r1_cut b _) ?_
    intro v2 w2 x2 hv2
    have hu : underN a b = false := by simp [underN, turned_eq, hl]
    cases hm : labels b with
    | none =>
      rw [hm] at hv2
      subst hv2
      repeat' (first | ((with_reducible refine o_s ?_); (first | (refine o_1 ?_; refine o_2 ?_) | (refine o_g ?_; first | refine o_u ?_ | refine o_k ?_ | refine o_n ?_ | refine o_v ?_ | ((first | refine o_G ?_ ?_ | refine o_N ?_ ?_) <;> intro hc)))) | ((fail_if_success (with_reducible refine o_s ?_)); go_step))
      go_ret
      exact ⟨by rw [hu]; rfl, x1.trans x2⟩
    | some ms =>
      rw [hm] at hv2
      obtain ⟨s2, rfl, o2⟩ := hv2
      repeat' (first | ((with_reducible refine o_s ?_); (first | (refine o_1 ?_; refine o_2 ?_) | (refine o_g ?_; first | refine o_u ?_ | refine o_k ?_ | refine o_n ?_ | refine o_v ?_ | ((first | refine o_G ?_ ?_ | refine o_N ?_ ?_) <;> intro hc)))) | ((fail_if_success (with_reducible refine o_s ?_)); go_step))
      go_ret
      exact ⟨by rw [hu]; rfl, x1.trans x2⟩
  | some ls =>
    rw [hl] at hv
    obtain ⟨s1, rfl, o1⟩ := hv
    repeat' (first | ((with_reducible refine o_s ?_); (first | (refine o_1 ?_; refine o_2 ?_) | (refine o_g ?_; first | refine o_u ?_ | refine o_k ?_ | refine o_n ?_ | refine o_v ?_ | ((first | refine o_G ?_ ?_ | refine o_N ?_ ?_) <;> intro hc)))) | ((fail_if_success (with_reducible refine o_s ?_)); go_step))
    refine wpl_callR (enters_of Tryz.func94 rfl rfl) rfl rfl (r1_cut b _) ?_
    intro v2 w2 x2 hv2
    cases hm : labels b with
    | none =>
      have hu : underN a b = false := by simp [underN, turned_eq, hm, hl]
      rw [hm] at hv2
      subst hv2
      repeat' (first | ((with_reducible refine o_s ?_); (first | (refine o_1 ?_; refine o_2 ?_) | (refine o_g ?_; first | refine o_u ?_ | refine o_k ?_ | refine o_n ?_ | refine o_v ?_ | ((first | refine o_G ?_ ?_ | refine o_N ?_ ?_) <;> intro hc)))) | ((fail_if_success (with_reducible refine o_s ?_)); go_step))
      go_ret
      exact ⟨by rw [hu]; rfl, x1.trans x2⟩
    | some ms =>
      rw [hm] at hv2
      obtain ⟨s2, rfl, o2⟩ := hv2
      have hu : underN a b = true ↔ (rlow ls).take ms.length = rlow ms := by
        simp only [underN, turned_eq, hm, hl, Option.map_some, decide_eq_true_eq]
        rw [show ((ms.map low).reverse).length = ms.length by simp]; rfl
      have hA := o1.sl.ext x2
      have hB := o2.sl
      have tl := tcells_length ls
      have tm := tcells_length ms
      have fl := labels_fit hl
      have fm := labels_fit hm
      have ll := len_le_enc ls
      have lm := len_le_enc ms
      rw [fl.2.1] at ll
      rw [fm.2.1] at lm
      by_cases hlt : ls.length < ms.length
      · have hno : (rlow ls).take ms.length ≠ rlow ms := fun h => by
          have := congrArg List.length h
          simp [rlow_length] at this; omega
        repeat' (first | ((with_reducible refine o_s ?_); (first | (refine o_1 ?_; refine o_2 ?_) | (refine o_g ?_; first | refine o_u ?_ | refine o_k ?_ | refine o_n ?_ | refine o_v ?_ | ((first | refine o_G ?_ ?_ | refine o_N ?_ ?_) <;> intro hc)))) | ((fail_if_success (with_reducible refine o_s ?_)); go_step))
        go_ret
        have hno' : underN a b = false := by cases h : underN a b with | false => rfl | true => exact absurd (hu.1 h) hno
        exact ⟨by rw [hno']; rfl, x1.trans x2⟩
      · have x12 := x1.trans x2
        repeat' (first | ((with_reducible refine o_s ?_); (first | (refine o_1 ?_; refine o_2 ?_) | (refine o_g ?_; first | refine o_u ?_ | refine o_k ?_ | refine o_n ?_ | refine o_v ?_ | ((first | refine o_G ?_ ?_ | refine o_N ?_ ?_) <;> intro hc)))) | ((fail_if_success (with_reducible refine o_s ?_)); go_step))
        go_loopw [9] (fun i wr => ∃ k : Nat, k ≤ ms.length ∧ i = .int .i64 k ∧ Ext w2 wr ∧ (rlow ls).take k = (rlow ms).take k) (fun i _ => ms.length - (intOf i).toNat)
        case atStart => exact ⟨0, Nat.zero_le _, rfl, Ext.refl _, rfl⟩
        case round =>
          obtain ⟨k, hk, rfl, hx, hall⟩ := hrel
          by_cases hk2 : k < ms.length
          · have hA := hA.ext hx
            have hB := hB.ext hx
            have hkl : k < ls.length := by omega
            have hpA := back_at hA hkl
            have hpB := back_at hB hk2
            have lA : (ls[ls.length - 1 - k]'(by omega)).length ≤ 254 := by have := mem_enc_le (List.getElem_mem (l := ls) (n := ls.length - 1 - k) (by omega)); rw [fl.2.1] at this; omega
            have lB : (ms[ms.length - 1 - k]'(by omega)).length ≤ 254 := by have := mem_enc_le (List.getElem_mem (l := ms) (n := ms.length - 1 - k) (by omega)); rw [fm.2.1] at this; omega
            have gA := rlow_get hkl
            have gB := rlow_get hk2
            generalize hx1 : ls[ls.length - 1 - k]'(by omega) = x at *
            generalize hy1 : ms[ms.length - 1 - k]'(by omega) = y at *
            repeat' (first | ((with_reducible refine o_s ?_); (first | (refine o_1 ?_; refine o_2 ?_) | (refine o_g ?_; first | refine o_u ?_ | refine o_k ?_ | refine o_n ?_ | refine o_v ?_ | ((first | refine o_G ?_ ?_ | refine o_N ?_ ?_) <;> intro hc)))) | ((fail_if_success (with_reducible refine o_s ?_)); go_step))
            refine wpq_region (by decide +kernel) (by decide +kernel) ?_
            repeat' (first | ((with_reducible refine q_s ?_); (first | (refine q_1 ?_; refine q_2 ?_) | (refine q_g ?_; first | refine q_u ?_ | refine q_k ?_ | refine q_v ?_))) | (with_reducible refine q_n ?_))
            refine wpq_call (enters_of Tryz.func95 rfl rfl) rfl rfl (fun w' _ => r1_Small x w' (by omega)) ?_
            refine gset ?_
            repeat' (first | ((with_reducible refine q_s ?_); (first | (refine q_1 ?_; refine q_2 ?_) | (refine q_g ?_; first | refine q_u ?_ | refine q_k ?_ | refine q_v ?_))) | (with_reducible refine q_n ?_))
            refine wpq_call (enters_of Tryz.func95 rfl rfl) rfl rfl (fun w' _ => r1_Small y w' (by omega)) ?_
            refine gset ?_
            repeat' (first | ((with_reducible refine q_s ?_); (first | (refine q_1 ?_; refine q_2 ?_) | (refine q_g ?_; first | refine q_u ?_ | refine q_k ?_ | refine q_v ?_))) | (with_reducible refine q_n ?_))
            intro w3 x3
            repeat' (first | ((with_reducible refine o_s ?_); (first | (refine o_1 ?_; refine o_2 ?_) | (refine o_g ?_; first | refine o_u ?_ | refine o_k ?_ | refine o_n ?_ | refine o_v ?_ | ((first | refine o_G ?_ ?_ | refine o_N ?_ ?_) <;> intro hc)))) | ((fail_if_success (with_reducible refine o_s ?_)); go_step))
            · have hne := ‹(!decide (low x = low y)) = true›
              have hno : underN a b = false := by
                cases h : underN a b with
                | false => rfl
                | true =>
                  have h2 := hu.1 h
                  rw [← rlow_length ms] at h2
                  have := take_len_eq h2 (by rw [rlow_length]; exact hk2) (by rw [rlow_length]; exact hkl)
                  rw [gA, gB] at this
                  simp [this] at hne
              go_ret
              exact ⟨by rw [hno]; rfl, x12.trans (hx.trans x3)⟩
            · have heq := ‹(!decide (low x = low y)) = false›
              refine ⟨⟨k + 1, by omega, by go_num, hx.trans x3, ?_⟩, by simp [intOf]; omega⟩
              refine take_succ_eq hall (by rw [rlow_length]; exact hkl) (by rw [rlow_length]; exact hk2) ?_
              rw [gA, gB]
              simpa using heq
          · have : k = ms.length := by omega
            subst this
            have hyes : underN a b = true := hu.2 (by rw [hall, ← rlow_length, List.take_length])
            repeat' (first | ((with_reducible refine o_s ?_); (first | (refine o_1 ?_; refine o_2 ?_) | (refine o_g ?_; first | refine o_u ?_ | refine o_k ?_ | refine o_n ?_ | refine o_v ?_ | ((first | refine o_G ?_ ?_ | refine o_N ?_ ?_) <;> intro hc)))) | ((fail_if_success (with_reducible refine o_s ?_)); go_step))
            go_ret
            exact ⟨by rw [hyes]; rfl, x12.trans hx⟩

theorem cmpL_take : ∀ (k : Nat) (a b : List (List UInt8)), a.take k = b.take k → k ≤ a.length → k ≤ b.length → cmpL a b = cmpL (a.drop k) (b.drop k)
  | 0, a, b, _, _, _ => by simp
  | k + 1, x :: a, y :: b, h, h1, h2 => by
    simp only [List.take_succ_cons, List.cons.injEq] at h
    obtain ⟨rfl, h⟩ := h
    have e : cmpB x x = 0 := tpo_cmpB.refl x
    rw [cmpL, e]
    simp only [ne_eq, not_true_eq_false, if_false, List.drop_succ_cons]
    exact cmpL_take k a b h (by simpa using h1) (by simpa using h2)
  | k + 1, [], _, _, h1, _ => by simp at h1
  | k + 1, _ :: _, [], _, _, h2 => by simp at h2
theorem cmpL_at {k : Nat} {a b : List (List UInt8)} (h : a.take k = b.take k) (ha : k < a.length) (hb : k < b.length) (hne : cmpB a[k] b[k] ≠ 0) : cmpL a b = cmpB a[k] b[k] := by
  rw [cmpL_take k a b h (by omega) (by omega), List.drop_eq_getElem_cons ha, List.drop_eq_getElem_cons hb, cmpL, if_pos hne]
theorem cmpL_end {k : Nat} {a b : List (List UInt8)} (h : a.take k = b.take k) (h1 : k ≤ a.length) (h2 : k ≤ b.length) (he : k = a.length ∨ k = b.length) : cmpL a b = if a.length < b.length then -1 else if b.length < a.length then 1 else 0 := by
  rw [cmpL_take k a b h h1 h2]
  rcases he with rfl | rfl
  · rw [List.drop_length]
    cases hd : b.drop a.length with
    | nil =>
      have := List.drop_eq_nil_iff.1 hd
      rw [cmpL, if_neg (by omega), if_neg (by omega)]
    | cons y l =>
      have : a.length < b.length := by
        rcases Nat.lt_or_ge a.length b.length with h | h
        · exact h
        · rw [List.drop_eq_nil_iff.2 h] at hd; cases hd
      rw [cmpL, if_pos this]
  · rw [List.drop_length]
    cases hd : a.drop b.length with
    | nil =>
      have := List.drop_eq_nil_iff.1 hd
      rw [cmpL, if_neg (by omega), if_neg (by omega)]
    | cons y l =>
      have : b.length < a.length := by
        rcases Nat.lt_or_ge b.length a.length with h | h
        · exact h
        · rw [List.drop_eq_nil_iff.2 h] at hd; cases hd
      rw [cmpL, if_neg (by omega), if_pos this]
set_option maxHeartbeats 24000000 in
theorem r1_Compare (a b : List UInt8) (w : World) : Calls Tryz.prog 194 #[str a, str b] w (RetV w (.int .i64 (cmpN a b))) := by
  go_enter Tryz.func194, Tryz.ntmps194
  repeat' (first | ((with_reducible refine o_s ?_); (first | (refine o_1 ?_; refine o_2 ?_) | (refine o_g ?_; first | refine o_u ?_ | refine o_k ?_ | refine o_n ?_ | refine o_v ?_ | ((first | refine o_G ?_ ?_ | refine o_N ?_ ?_) <;> intro hc)))) | ((fail_if_success (with_reducible refine o_s ?_)); go_step))
  refine wpl_callR (enters_of Tryz.func94 rfl rfl) rfl rfl (r1_cut a _) ?_
  intro v w1 x1 hv
  cases hl : labels a with
  | none =>
    rw [hl] at hv
    subst hv
    repeat' (first | ((with_reducible refine o_s ?_); (first | (refine o_1 ?_; refine o_2 ?_) | (refine o_g ?_; first | refine o_u ?_ | refine o_k ?_ | refine o_n ?_ | refine o_v ?_ | ((first | refine o_G ?_ ?_ | refine o_N ?_ ?_) <;> intro hc)))) | ((fail_if_success (with_reducible refine o_s ?_)); go_step))
    refine wpl_callR (enters_of Tryz.func94 rfl rfl) rfl rfl (r1_cut b _) ?_
    intro v2 w2 x2 hv2
    cases hm : labels b with
    | none =>
      rw [hm] at hv2
      subst hv2
      repeat' (first | ((with_reducible refine o_s ?_); (first | (refine o_1 ?_; refine o_2 ?_) | (refine o_g ?_; first | refine o_u ?_ | refine o_k ?_ | refine o_n ?_ | refine o_v ?_ | ((first | refine o_G ?_ ?_ | refine o_N ?_ ?_) <;> intro hc)))) | ((fail_if_success (with_reducible refine o_s ?_)); go_step))
      refine wpl_callV (enters_of Tryz.func222 rfl rfl) rfl rfl (r1_order a b _) ?_; intro w3 x3; refine gset ?_
      repeat' (first | ((with_reducible refine o_s ?_); (first | (refine o_1 ?_; refine o_2 ?_) | (refine o_g ?_; first | refine o_u ?_ | refine o_k ?_ | refine o_n ?_ | refine o_v ?_ | ((first | refine o_G ?_ ?_ | refine o_N ?_ ?_) <;> intro hc)))) | ((fail_if_success (with_reducible refine o_s ?_)); go_step))
      go_ret
      exact ⟨by simp [cmpN, turned_eq, hl, hm], (x1.trans x2).trans x3⟩
    | some ms =>
      rw [hm] at hv2
      obtain ⟨s2, rfl, o2⟩ := hv2
      repeat' (first | ((with_reducible refine o_s ?_); (first | (refine o_1 ?_; refine o_2 ?_) | (refine o_g ?_; first | refine o_u ?_ | refine o_k ?_ | refine o_n ?_ | refine o_v ?_ | ((first | refine o_G ?_ ?_ | refine o_N ?_ ?_) <;> intro hc)))) | ((fail_if_success (with_reducible refine o_s ?_)); go_step))
      go_ret
      exact ⟨by simp [cmpN, turned_eq, hl, hm], x1.trans x2⟩
  | some ls =>
    rw [hl] at hv
    obtain ⟨s1, rfl, o1⟩ := hv
    repeat' (first | ((with_reducible refine o_s ?_); (first | (refine o_1 ?_; refine o_2 ?_) | (refine o_g ?_; first | refine o_u ?_ | refine o_k ?_ | refine o_n ?_ | refine o_v ?_ | ((first | refine o_G ?_ ?_ | refine o_N ?_ ?_) <;> intro hc)))) | ((fail_if_success (with_reducible refine o_s ?_)); go_step))
    refine wpl_callR (enters_of Tryz.func94 rfl rfl) rfl rfl (r1_cut b _) ?_
    intro v2 w2 x2 hv2
    cases hm : labels b with
    | none =>
      rw [hm] at hv2
      subst hv2
      repeat' (first | ((with_reducible refine o_s ?_); (first | (refine o_1 ?_; refine o_2 ?_) | (refine o_g ?_; first | refine o_u ?_ | refine o_k ?_ | refine o_n ?_ | refine o_v ?_ | ((first | refine o_G ?_ ?_ | refine o_N ?_ ?_) <;> intro hc)))) | ((fail_if_success (with_reducible refine o_s ?_)); go_step))
      go_ret
      exact ⟨by simp [cmpN, turned_eq, hl, hm], x1.trans x2⟩
    | some ms =>
      rw [hm] at hv2
      obtain ⟨s2, rfl, o2⟩ := hv2
      have hu : cmpN a b = cmpL (rlow ls) (rlow ms) := by simp [cmpN, turned_eq, hm, hl, rlow]
      have hA := o1.sl.ext x2
      have hB := o2.sl
      have tl := tcells_length ls
      have tm := tcells_length ms
      have fl := labels_fit hl
      have fm := labels_fit hm
      have ll := len_le_enc ls
      have lm := len_le_enc ms
      rw [fl.2.1] at ll
      rw [fm.2.1] at lm
      have x12 := x1.trans x2
      have rl := rlow_length ls
      have rm := rlow_length ms
      repeat' (first | ((with_reducible refine o_s ?_); (first | (refine o_1 ?_; refine o_2 ?_) | (refine o_g ?_; first | refine o_u ?_ | refine o_k ?_ | refine o_n ?_ | refine o_v ?_ | ((first | refine o_G ?_ ?_ | refine o_N ?_ ?_) <;> intro hc)))) | ((fail_if_success (with_reducible refine o_s ?_)); go_step))
      go_loopw [9, 10] (fun i _ wr => ∃ k : Nat, k ≤ ls.length ∧ k ≤ ms.length ∧ i = .int .i64 k ∧ Ext w2 wr ∧ (rlow ls).take k = (rlow ms).take k) (fun i _ _ => ms.length - (intOf i).toNat)
      case atStart => exact ⟨0, Nat.zero_le _, Nat.zero_le _, rfl, Ext.refl _, rfl⟩
      case round =>
        obtain ⟨k, hk, hk2, rfl, hx, hall⟩ := hrel
        have hA := hA.ext hx
        have hB := hB.ext hx
        by_cases hin : k < ls.length ∧ k < ms.length
        · obtain ⟨hkl, hkm⟩ := hin
          have hpA := back_at hA hkl
          have hpB := back_at hB hkm
          have lA : (ls[ls.length - 1 - k]'(by omega)).length ≤ 254 := by have := mem_enc_le (List.getElem_mem (l := ls) (n := ls.length - 1 - k) (by omega)); rw [fl.2.1] at this; omega
          have lB : (ms[ms.length - 1 - k]'(by omega)).length ≤ 254 := by have := mem_enc_le (List.getElem_mem (l := ms) (n := ms.length - 1 - k) (by omega)); rw [fm.2.1] at this; omega
          have gA := rlow_get hkl
          have gB := rlow_get hkm
          generalize hx1 : ls[ls.length - 1 - k]'(by omega) = x at *
          generalize hy1 : ms[ms.length - 1 - k]'(by omega) = y at *
          repeat' (first | ((with_reducible refine o_s ?_); (first | (refine o_1 ?_; refine o_2 ?_) | (refine o_g ?_; first | refine o_u ?_ | refine o_k ?_ | refine o_n ?_ | refine o_v ?_ | ((first | refine o_G ?_ ?_ | refine o_N ?_ ?_) <;> intro hc)))) | ((fail_if_success (with_reducible refine o_s ?_)); go_step))
          refine wpq_region (by decide +kernel) (by decide +kernel) ?_
          repeat' (first | ((with_reducible refine q_s ?_); (first | (refine q_1 ?_; refine q_2 ?_) | (refine q_g ?_; first | refine q_u ?_ | refine q_k ?_ | refine q_v ?_))) | (with_reducible refine q_n ?_))
          refine wpq_call (enters_of Tryz.func95 rfl rfl) rfl rfl (fun w' _ => r1_Small x w' (by omega)) ?_
          refine gset ?_
          repeat' (first | ((with_reducible refine q_s ?_); (first | (refine q_1 ?_; refine q_2 ?_) | (refine q_g ?_; first | refine q_u ?_ | refine q_k ?_ | refine q_v ?_))) | (with_reducible refine q_n ?_))
          refine wpq_call (enters_of Tryz.func95 rfl rfl) rfl rfl (fun w' _ => r1_Small y w' (by omega)) ?_
          refine gset ?_
          repeat' (first | ((with_reducible refine q_s ?_); (first | (refine q_1 ?_; refine q_2 ?_) | (refine q_g ?_; first | refine q_u ?_ | refine q_k ?_ | refine q_v ?_))) | (with_reducible refine q_n ?_))
          refine wpq_call (enters_of Tryz.func222 rfl rfl) rfl rfl (fun w' _ => r1_order (low x) (low y) w') ?_
          refine gset ?_
          repeat' (first | ((with_reducible refine q_s ?_); (first | (refine q_1 ?_; refine q_2 ?_) | (refine q_g ?_; first | refine q_u ?_ | refine q_k ?_ | refine q_v ?_))) | (with_reducible refine q_n ?_))
          intro w3 x3
          repeat' (first | ((with_reducible refine o_s ?_); (first | (refine o_1 ?_; refine o_2 ?_) | (refine o_g ?_; first | refine o_u ?_ | refine o_k ?_ | refine o_n ?_ | refine o_v ?_ | ((first | refine o_G ?_ ?_ | refine o_N ?_ ?_) <;> intro hc)))) | ((fail_if_success (with_reducible refine o_s ?_)); go_step))
          · have hne := ‹(!decide (cmpB (low x) (low y) = 0)) = true›
            go_ret
            refine ⟨?_, x12.trans (hx.trans x3)⟩
            rw [hu, cmpL_at hall (by omega) (by omega) (by rw [gA, gB]; simpa using hne), gA, gB]
            rfl
          · have heq := ‹(!decide (cmpB (low x) (low y) = 0)) = false›
            refine ⟨⟨k + 1, by omega, by omega, by go_num, hx.trans x3, ?_⟩, by simp [intOf]; omega⟩
            refine take_succ_eq hall (by omega) (by omega) ?_
            rw [gA, gB]
            exact cmpB_zero (by simpa using heq)
        · have he : cmpN a b = if ls.length < ms.length then -1 else if ms.length < ls.length then 1 else 0 := by
            rw [hu, cmpL_end hall (by omega) (by omega) (by omega), rl, rm]
          repeat' (first | ((with_reducible refine o_s ?_); (first | (refine o_1 ?_; refine o_2 ?_) | (refine o_g ?_; first | refine o_u ?_ | refine o_k ?_ | refine o_n ?_ | refine o_v ?_ | ((first | refine o_G ?_ ?_ | refine o_N ?_ ?_) <;> intro hc)))) | ((fail_if_success (with_reducible refine o_s ?_)); go_step))
          all_goals
            go_ret
            refine ⟨?_, x12.trans hx⟩
            rw [he]
            first
              | (rw [if_pos (by omega)]; rfl)
              | (rw [if_neg (by omega), if_pos (by omega)]; rfl)
              | (rw [if_neg (by omega), if_neg (by omega)]; rfl)
theorem any_take {α : Type} {p : α → Bool} {l : List α} {k : Nat} (hk : k < l.length) (h : (l.take k).any p = false) (hp : p l[k] = false) : (l.take (k + 1)).any p = false := by
  rw [List.take_succ_eq_append_getElem hk, List.any_append, h]; simp [hp]
theorem any_at {α : Type} {p : α → Bool} {l : List α} {k : Nat} (hk : k < l.length) (hp : p l[k] = true) : l.any p = true :=
  List.any_eq_true.mpr ⟨_, List.getElem_mem hk, hp⟩
theorem suf_concat (l : List UInt8) (a : UInt8) : Lib.hasSuffix (l ++ [a]) [0] = decide (a = 0) := by
  have h : Lib.hasSuffix (l ++ [a]) [0] = true ↔ a = 0 := by
    unfold Lib.hasSuffix
    rw [List.isSuffixOf_iff_suffix]
    constructor
    · rintro ⟨t, ht⟩
      have := congrArg List.reverse ht
      simp at this
      exact this.1.symm
    · rintro rfl; exact ⟨l, rfl⟩
  by_cases ha : a = 0
  · rw [h.2 ha, decide_eq_true ha]
  · cases hh : Lib.hasSuffix (l ++ [a]) [0] with
    | true => exact absurd (h.1 hh) ha
    | false => rw [decide_eq_false ha]
theorem hostN_nil : hostN [] = none := by simp [hostN, Lib.hasSuffix]
theorem hostN_concat (l : List UInt8) (a : UInt8) : hostN (l ++ [a]) = if a = 0 ∧ (labels l).isSome = true then some l else none := by
  have hs := suf_concat l a
  by_cases ha : a = 0
  · subst ha
    have ht : Lib.trimSuffix (l ++ [0]) [0] = l := by simp [Lib.trimSuffix, hs]
    simp [hostN, hs, ht]
  · simp [hostN, hs, ha]
theorem host_take {s n : List UInt8} (h : hostN s = some n) : n = s.take (s.length - 1) := by
  rcases List.eq_nil_or_concat s with rfl | ⟨l, a, rfl⟩
  · rw [hostN_nil] at h; cases h
  · rw [List.concat_eq_append, hostN_concat] at h
    split at h
    · cases h; simp
    · cases h
set_option maxHeartbeats 1000000 in
theorem r3_isHost (s : List UInt8) (w : World) (hl : s.length ≤ 4611686018427387904) : Calls Tryz.prog 182 #[str s] w (RetV w (.bool (hostN s).isSome)) := by
  rcases List.eq_nil_or_concat s with rfl | ⟨l, a, rfl⟩
  · rw [hostN_nil]
    go_enter Tryz.func182, Tryz.ntmps182
    repeat' (first | ((with_reducible refine o_s ?_); (first | (refine o_1 ?_; refine o_2 ?_) | (refine o_g ?_; first | refine o_u ?_ | refine o_k ?_ | refine o_n ?_ | refine o_v ?_ | ((first | refine o_G ?_ ?_ | refine o_N ?_ ?_) <;> intro hc)))) | ((fail_if_success (with_reducible refine o_s ?_)); go_step))
    go_ret
    exact ⟨rfl, Ext.refl _⟩
  · rw [List.concat_eq_append] at *
    have hlen : (l ++ [a]).length = l.length + 1 := by simp
    have hn : (((l ++ [a]).length : Int) - 1).toNat = l.length := by rw [hlen]; omega
    have e1 : (l ++ [a]).getD (((l ++ [a]).length : Int) - 1).toNat 0 = a := by rw [hn]; simp
    have e2 : (l ++ [a]).take (((l ++ [a]).length : Int) - 1).toNat = l := by rw [hn]; simp
    have hh : (hostN (l ++ [a])).isSome = (decide (a = 0) && (labels l).isSome) := by
      rw [hostN_concat]; by_cases h1 : a = 0 <;> cases h2 : (labels l).isSome <;> simp [h1]
    generalize l ++ [a] = s at *
    rw [hh]
    go_enter Tryz.func182, Tryz.ntmps182
    repeat' (first | ((with_reducible refine o_s ?_); (first | (refine o_1 ?_; refine o_2 ?_) | (refine o_g ?_; first | refine o_u ?_ | refine o_k ?_ | refine o_n ?_ | refine o_v ?_ | ((first | refine o_G ?_ ?_ | refine o_N ?_ ?_) <;> intro hc)))) | ((fail_if_success (with_reducible refine o_s ?_)); go_step))
    · have hz := ‹((s.getD ((s.length : Int) - 1).toNat 0).toNat : Int) = 0›
      rw [e1] at hz
      have ha : a = 0 := by apply UInt8.toNat_inj.1; simpa using hz
      rw [e2]
      refine wpl_callV (enters_of Tryz.func136 rfl rfl) rfl rfl (r1_Check l _) ?_; intro w1 x1; refine gset ?_
      cases hls : (labels l).isSome with
      | true =>
        repeat' (first | ((with_reducible refine o_s ?_); (first | (refine o_1 ?_; refine o_2 ?_) | (refine o_g ?_; first | refine o_u ?_ | refine o_k ?_ | refine o_n ?_ | refine o_v ?_ | ((first | refine o_G ?_ ?_ | refine o_N ?_ ?_) <;> intro hc)))) | ((fail_if_success (with_reducible refine o_s ?_)); go_step))
        go_ret
        exact ⟨by simp [ha, hls], x1⟩
      | false =>
        repeat' (first | ((with_reducible refine o_s ?_); (first | (refine o_1 ?_; refine o_2 ?_) | (refine o_g ?_; first | refine o_u ?_ | refine o_k ?_ | refine o_n ?_ | refine o_v ?_ | ((first | refine o_G ?_ ?_ | refine o_N ?_ ?_) <;> intro hc)))) | ((fail_if_success (with_reducible refine o_s ?_)); go_step))
        go_ret
        exact ⟨by simp [ha, hls], x1⟩
    · have hz := ‹¬((s.getD ((s.length : Int) - 1).toNat 0).toNat : Int) = 0›
      rw [e1] at hz
      have ha : ¬ a = 0 := by rintro rfl; simp at hz
      go_ret
      exact ⟨by simp [ha], Ext.refl _⟩
    · omega
theorem r3_ahead (k : Int) (w : World) : Calls Tryz.prog 217 #[.int .i64 k] w (RetV w (.int .i64 (ahead k))) := by
  go_enter Tryz.func217, Tryz.ntmps217
  repeat' (first | ((with_reducible refine o_s ?_); (first | (refine o_1 ?_; refine o_2 ?_) | (refine o_g ?_; first | refine o_u ?_ | refine o_k ?_ | refine o_n ?_ | refine o_v ?_ | ((first | refine o_G ?_ ?_ | refine o_N ?_ ?_) <;> intro hc)))) | ((fail_if_success (with_reducible refine o_s ?_)); go_step))
  all_goals
    go_ret
    exact ⟨by unfold ahead; simp_all, Ext.refl _⟩
theorem r3_Host (nm : List UInt8) (w : World) (hl : nm.length ≤ 9223372036854775806) : Calls Tryz.prog 183 #[str nm] w (RetV w (if (labels nm).isSome = true then .tuple #[str (nm ++ [0]), .int .i64 0] else .tuple #[str [], .int .i64 1])) := by
  go_enter Tryz.func183, Tryz.ntmps183
  repeat' (first | ((with_reducible refine o_s ?_); (first | (refine o_1 ?_; refine o_2 ?_) | (refine o_g ?_; first | refine o_u ?_ | refine o_k ?_ | refine o_n ?_ | refine o_v ?_ | ((first | refine o_G ?_ ?_ | refine o_N ?_ ?_) <;> intro hc)))) | ((fail_if_success (with_reducible refine o_s ?_)); go_step))
  refine wpl_callV (enters_of Tryz.func136 rfl rfl) rfl rfl (r1_Check nm _) ?_; intro w1 x1; refine gset ?_
  cases hls : (labels nm).isSome with
  | true =>
    simp only [↓reduceIte]
    repeat' (first | ((with_reducible refine o_s ?_); (first | (refine o_1 ?_; refine o_2 ?_) | (refine o_g ?_; first | refine o_u ?_ | refine o_k ?_ | refine o_n ?_ | refine o_v ?_ | ((first | refine o_G ?_ ?_ | refine o_N ?_ ?_) <;> intro hc)))) | ((fail_if_success (with_reducible refine o_s ?_)); go_step))
    go_ret2
    exact ⟨by rw [hls]; rfl, x1⟩
  | false =>
    simp only [↓reduceIte, Bool.false_eq_true]
    repeat' (first | ((with_reducible refine o_s ?_); (first | (refine o_1 ?_; refine o_2 ?_) | (refine o_g ?_; first | refine o_u ?_ | refine o_k ?_ | refine o_n ?_ | refine o_v ?_ | ((first | refine o_G ?_ ?_ | refine o_N ?_ ?_) <;> intro hc)))) | ((fail_if_success (with_reducible refine o_s ?_)); go_step))
    go_ret2
    exact ⟨by rw [hls]; rfl, x1⟩

def textsAt (s : List UInt8) (i : Nat) : Bool := if s.length < i then false else textsN (s.drop i)
theorem textsAt_step {s : List UInt8} {i : Nat} (h : i < s.length) : textsAt s i = textsAt s (i + 1 + (s.getD i 0).toNat) := by
  unfold textsAt
  rw [if_neg (by omega), drop_get h, textsN_cons, getD_get h, List.drop_drop]
  simp only [List.length_drop]
  by_cases hc : s.length - (i + 1) < s[i].toNat
  · rw [if_pos hc, if_pos (by omega)]
  · rw [if_neg hc, if_neg (by omega)]
set_option maxHeartbeats 1000000 in
theorem r3_texts (s : List UInt8) (w : World) (hl : s.length ≤ 4611686018427387904) : Calls Tryz.prog 216 #[str s] w (RetV w (.bool (textsB s))) := by
  go_enter Tryz.func216, Tryz.ntmps216
  repeat' (first | ((with_reducible refine o_s ?_); (first | (refine o_1 ?_; refine o_2 ?_) | (refine o_g ?_; first | refine o_u ?_ | refine o_k ?_ | refine o_n ?_ | refine o_v ?_ | ((first | refine o_G ?_ ?_ | refine o_N ?_ ?_) <;> intro hc)))) | ((fail_if_success (with_reducible refine o_s ?_)); go_step))
  go_loopw [3] (fun a wr => ∃ i : Nat, i ≤ s.length + 256 ∧ a = .int .i64 i ∧ Ext w wr ∧ textsN s = textsAt s i ∧ (s.length < i → i ≤ s.length + 256)) (fun a _ => s.length - (intOf a).toNat)
  case atStart => exact ⟨0, by omega, rfl, Ext.refl _, by simp [textsAt], by omega⟩
  case round =>
    obtain ⟨i, hi, rfl, hx, ht, _⟩ := hrel
    by_cases hlt : i < s.length
    · rw [textsAt_step hlt] at ht
      have hb : (s.getD i 0).toNat < 256 := UInt8.toNat_lt _
      repeat' (first | ((with_reducible refine o_s ?_); (first | (refine o_1 ?_; refine o_2 ?_) | (refine o_g ?_; first | refine o_u ?_ | refine o_k ?_ | refine o_n ?_ | refine o_v ?_ | ((first | refine o_G ?_ ?_ | refine o_N ?_ ?_) <;> intro hc)))) | ((fail_if_success (with_reducible refine o_s ?_)); go_step))
      exact ⟨⟨i + 1 + (s.getD i 0).toNat, by omega, by go_num, hx, ht, by omega⟩, by simp [intOf]; omega⟩
    · have hv : textsB s = (decide (s ≠ []) && decide (i = s.length)) := by
        unfold textsB
        rw [ht, textsAt]
        by_cases he : s.length < i
        · rw [if_pos he, decide_eq_false (show ¬ i = s.length by omega)]; simp
        · have : i = s.length := by omega
          subst this
          rw [if_neg he, List.drop_length]
          simp [textsN, textsF]
      repeat' (first | ((with_reducible refine o_s ?_); (first | (refine o_1 ?_; refine o_2 ?_) | (refine o_g ?_; first | refine o_u ?_ | refine o_k ?_ | refine o_n ?_ | refine o_v ?_ | ((first | refine o_G ?_ ?_ | refine o_N ?_ ?_) <;> intro hc)))) | ((fail_if_success (with_reducible refine o_s ?_)); go_step))
      · have h0 := ‹(!decide (s = [])) = true›
        go_ret
        exact ⟨by simp [hv] at h0 ⊢; simp [h0]; omega, hx⟩
      · have h0 := ‹(!decide (s = [])) = false›
        go_ret
        exact ⟨by simp [hv] at h0 ⊢; simp [h0], hx⟩

def numU (s : List UInt8) (k : Nat) : Nat := (s.take k).foldl (fun n c => 256 * n + c.toNat) 0
theorem numU_succ {s : List UInt8} {k : Nat} (h : k < s.length) : numU s (k + 1) = 256 * numU s k + (s.getD k 0).toNat := by
  rw [numU, List.take_add_one, List.getElem?_eq_getElem h, Option.toList_some, List.foldl_append, getD_get h]
  rfl
theorem numU_lt (s : List UInt8) : ∀ k, k ≤ s.length → numU s k < 256 ^ k
  | 0, _ => by simp [numU]
  | k + 1, h => by
    have h1 := numU_lt s k (by omega)
    have h2 : (s.getD k 0).toNat < 256 := UInt8.toNat_lt _
    rw [numU_succ (by omega), Nat.pow_succ]
    omega
set_option maxHeartbeats 1000000 in
theorem r3_Number (s : List UInt8) (w : World) (hl : s.length ≤ 4) : Calls Tryz.prog 152 #[str s] w (RetV w (.int .i64 (numU s s.length : Nat))) := by
  go_enter Tryz.func152, Tryz.ntmps152
  repeat' (first | ((with_reducible refine o_s ?_); (first | (refine o_1 ?_; refine o_2 ?_) | (refine o_g ?_; first | refine o_u ?_ | refine o_k ?_ | refine o_n ?_ | refine o_v ?_ | ((first | refine o_G ?_ ?_ | refine o_N ?_ ?_) <;> intro hc)))) | ((fail_if_success (with_reducible refine o_s ?_)); go_step))
  go_loopw [3, 4] (fun n i wr => ∃ k : Nat, k ≤ s.length ∧ i = .int .i64 k ∧ Ext w wr ∧ n = .int .i64 (numU s k : Nat)) (fun _ i _ => s.length - (intOf i).toNat)
  case atStart => exact ⟨0, by omega, rfl, Ext.refl _, rfl⟩
  case round =>
    obtain ⟨k, hk, rfl, hx, rfl⟩ := hrel
    by_cases hlt : k < s.length
    · have hb : (s.getD k 0).toNat < 256 := UInt8.toNat_lt _
      have hn : numU s k < 4294967296 := Nat.lt_of_lt_of_le (numU_lt s k hk) (by calc 256 ^ k ≤ 256 ^ 4 := Nat.pow_le_pow_right (by omega) (by omega)
                                                                                      _ = _ := by decide)
      repeat' (first | ((with_reducible refine o_s ?_); (first | (refine o_1 ?_; refine o_2 ?_) | (refine o_g ?_; first | refine o_u ?_ | refine o_k ?_ | refine o_n ?_ | refine o_v ?_ | ((first | refine o_G ?_ ?_ | refine o_N ?_ ?_) <;> intro hc)))) | ((fail_if_success (with_reducible refine o_s ?_)); go_step))
      refine ⟨⟨k + 1, by omega, by go_num, hx, ?_⟩, by simp [intOf]; omega⟩
      rw [numU_succ hlt]
      go_num
    · have : k = s.length := by omega
      subst this
      repeat' (first | ((with_reducible refine o_s ?_); (first | (refine o_1 ?_; refine o_2 ?_) | (refine o_g ?_; first | refine o_u ?_ | refine o_k ?_ | refine o_n ?_ | refine o_v ?_ | ((first | refine o_G ?_ ?_ | refine o_N ?_ ?_) <;> intro hc)))) | ((fail_if_success (with_reducible refine o_s ?_)); go_step))
      go_ret
      exact ⟨rfl, hx⟩
def wideP (n j : Nat) : List UInt8 := [if 4 ≤ j then UInt8.ofNat (n / 16777216) else 0, if 3 ≤ j then UInt8.ofNat (n / 65536) else 0, if 2 ≤ j then UInt8.ofNat (n / 256) else 0, if 1 ≤ j then UInt8.ofNat n else 0]
theorem wideP_zero (n : Nat) : bcells (wideP n 0) = List.replicate 4 [.int .u8 0] := by simp [wideP, bcells, List.replicate]
theorem wideP_four (n : Nat) : wideP n 4 = be4 n := by simp [wideP, be4]
theorem wideP_succ (n j : Nat) (h : j < 4) : (bcells (wideP n j)).set (3 - j) [.int .u8 ((UInt8.ofNat (n / 256 ^ j)).toNat : Nat)] = bcells (wideP n (j + 1)) := by
  have : j = 0 ∨ j = 1 ∨ j = 2 ∨ j = 3 := by omega
  rcases this with rfl | rfl | rfl | rfl <;> simp [wideP, bcells]
set_option maxHeartbeats 2000000 in
theorem r3_Wide (n : Nat) (w : World) (hn : n < 4294967296) : Calls Tryz.prog 184 #[.int .i64 (n : Nat), .int .i64 4] w (RetV w (str (be4 n))) := by
  go_enter Tryz.func184, Tryz.ntmps184
  repeat' (first | ((with_reducible refine o_s ?_); (first | (refine o_1 ?_; refine o_2 ?_) | (refine o_g ?_; first | refine o_u ?_ | refine o_k ?_ | refine o_n ?_ | refine o_v ?_ | ((first | refine o_G ?_ ?_ | refine o_N ?_ ?_) <;> intro hc)))) | ((fail_if_success (with_reducible refine o_s ?_)); go_step))
  refine wpl_makeZ (e := 5) (n := 4) (z := .int .u8 0) ?_ rfl rfl (by omega)
  intro v w1 x1 o1
  refine gset ?_
  repeat' (first | ((with_reducible refine o_s ?_); (first | (refine o_1 ?_; refine o_2 ?_) | (refine o_g ?_; first | refine o_u ?_ | refine o_k ?_ | refine o_n ?_ | refine o_v ?_ | ((first | refine o_G ?_ ?_ | refine o_N ?_ ?_) <;> intro hc)))) | ((fail_if_success (with_reducible refine o_s ?_)); go_step))
  rw [← wideP_zero n] at o1
  go_loopw [0, 6] (fun m i wr => ∃ j : Nat, j ≤ 4 ∧ i = .int .i64 (3 - (j : Int)) ∧ m = .int .i64 (n / 256 ^ j : Nat) ∧ Ext w wr ∧ Own w.heap.size 1 5 wr v (bcells (wideP n j))) (fun _ i _ => (intOf i + 1).toNat)
  case atStart => exact ⟨0, by omega, rfl, by simp, x1, o1⟩
  case round =>
    obtain ⟨j, hj, rfl, rfl, hx, ho⟩ := hrel
    have hsl := ho.sl
    have hle : n / 256 ^ j ≤ n := Nat.div_le_self _ _
    have hbl : (bcells (wideP n j)).length = 4 := by simp [bcells, wideP]
    by_cases hlt : j < 4
    · generalize hq : n / 256 ^ j = q at *
      repeat' (first | ((with_reducible refine o_s ?_); (first | (refine o_1 ?_; refine o_2 ?_) | (refine o_g ?_; first | refine o_u ?_ | refine o_k ?_ | refine o_n ?_ | refine o_v ?_ | ((first | refine o_G ?_ ?_ | refine o_N ?_ ?_) <;> intro hc)))) | ((fail_if_success (with_reducible refine o_s ?_)); go_step))
      refine wpl_run rfl (Runs.remN (n := 256) rfl rfl (by omega) (by omega)) ?_
      refine gset ?_
      repeat' (first | ((with_reducible refine o_s ?_); (first | (refine o_1 ?_; refine o_2 ?_) | (refine o_g ?_; first | refine o_u ?_ | refine o_k ?_ | refine o_n ?_ | refine o_v ?_ | ((first | refine o_G ?_ ?_ | refine o_N ?_ ?_) <;> intro hc)))) | ((fail_if_success (with_reducible refine o_s ?_)); go_step))
      refine wpl_storeE1 (c := .int .u8 _) (i := (3 - (j : Int)).toNat) rfl rfl rfl ho (by omega) (by decide +kernel) rfl ?_
      intro w2 o2 m2
      have hx2 := ho.mvx m2 hx (Nat.le_refl _)
      have e2 : (bcells (wideP n j)).set (3 - (j : Int)).toNat [Value.int .u8 (IntKind.wrap .u8 ((q % 256 : Nat) : Int))] = bcells (wideP n (j + 1)) := by
        rw [show (3 - (j : Int)).toNat = 3 - j by omega, wrapU, ← wideP_succ n j hlt, hq]
        congr 4
        simp
      rw [e2] at o2
      clear ho hsl
      repeat' (first | ((with_reducible refine o_s ?_); (first | (refine o_1 ?_; refine o_2 ?_) | (refine o_g ?_; first | refine o_u ?_ | refine o_k ?_ | refine o_n ?_ | refine o_v ?_ | ((first | refine o_G ?_ ?_ | refine o_N ?_ ?_) <;> intro hc)))) | ((fail_if_success (with_reducible refine o_s ?_)); go_step))
      refine wpl_run rfl (Runs.quoN (n := 256) rfl rfl (by omega) (by omega)) ?_
      refine gset ?_
      repeat' (first | ((with_reducible refine o_s ?_); (first | (refine o_1 ?_; refine o_2 ?_) | (refine o_g ?_; first | refine o_u ?_ | refine o_k ?_ | refine o_n ?_ | refine o_v ?_ | ((first | refine o_G ?_ ?_ | refine o_N ?_ ?_) <;> intro hc)))) | ((fail_if_success (with_reducible refine o_s ?_)); go_step))
      refine ⟨⟨j + 1, by omega, by go_num, ?_, hx2, o2⟩, by simp [intOf]; omega⟩
      rw [← hq, Nat.div_div_eq_div_mul, Nat.pow_succ]
    · have : j = 4 := by omega
      subst this
      rw [wideP_four] at hsl
      repeat' (first | ((with_reducible refine o_s ?_); (first | (refine o_1 ?_; refine o_2 ?_) | (refine o_g ?_; first | refine o_u ?_ | refine o_k ?_ | refine o_n ?_ | refine o_v ?_ | ((first | refine o_G ?_ ?_ | refine o_N ?_ ?_) <;> intro hc)))) | ((fail_if_success (with_reducible refine o_s ?_)); go_step))
      go_ret
      exact ⟨rfl, hx⟩

theorem walkN_at {s : List UInt8} {i : Nat} (h : i < s.length) : walkN (s.drop i) = if (s.getD i 0).toNat = 0 then 0 else 1 + (s.getD i 0).toNat + walkN (s.drop (i + 1 + (s.getD i 0).toNat)) := by
  rw [drop_get h, walkN_cons, getD_get h, List.drop_drop]
def firstR (s : List UInt8) : Nat := if s.length ≤ walkN s then 0 else if (hostN (s.take (walkN s + 1))).isSome = true then walkN s + 1 else 0
theorem firstR_firstN (s : List UInt8) : firstN s = if firstR s = 0 then (if s.length ≤ walkN s then ([], [], false) else ([], s.drop (walkN s + 1), false)) else (s.take (firstR s - 1), s.drop (firstR s), true) := by
  unfold firstR firstN
  by_cases h : s.length ≤ walkN s
  · simp [h]
  · simp only [h, if_false]
    cases hh : hostN (s.take (walkN s + 1)) with
    | none => simp
    | some n =>
      have := host_take hh
      simp only [Option.isSome_some, if_true, Option.getD_some]
      rw [if_neg (by omega), this]
      rw [List.length_take, List.take_take]
      congr 2
      omega
theorem firstR_le (s : List UInt8) : firstR s ≤ s.length := by
  unfold firstR; split
  · omega
  · split <;> omega
set_option maxHeartbeats 1000000 in
theorem r3_first (s : List UInt8) (w : World) (hl : s.length ≤ 4611686018427387904) : Calls Tryz.prog 151 #[str s] w (RetV w (.int .i64 (firstR s : Nat))) := by
  go_enter Tryz.func151, Tryz.ntmps151
  repeat' (first | ((with_reducible refine o_s ?_); (first | (refine o_1 ?_; refine o_2 ?_) | (refine o_g ?_; first | refine o_u ?_ | refine o_k ?_ | refine o_n ?_ | refine o_v ?_ | ((first | refine o_G ?_ ?_ | refine o_N ?_ ?_) <;> intro hc)))) | ((fail_if_success (with_reducible refine o_s ?_)); go_step))
  go_loopw [3] (fun a wr => ∃ i : Nat, a = .int .i64 i ∧ i ≤ s.length + 256 ∧ Ext w wr ∧ walkN s = i + walkN (s.drop i)) (fun a _ => s.length - (intOf a).toNat)
  case atStart => exact ⟨0, rfl, by omega, Ext.refl _, by simp⟩
  case round =>
    obtain ⟨i, rfl, hi, hx, hw⟩ := hrel
    by_cases hlt : i < s.length
    · rw [walkN_at hlt] at hw
      have hb : (s.getD i 0).toNat < 256 := UInt8.toNat_lt _
      by_cases hz : (s.getD i 0).toNat = 0
      · rw [if_pos hz] at hw
        repeat' (first | ((with_reducible refine o_s ?_); (first | (refine o_1 ?_; refine o_2 ?_) | (refine o_g ?_; first | refine o_u ?_ | refine o_k ?_ | refine o_n ?_ | refine o_v ?_ | ((first | refine o_G ?_ ?_ | refine o_N ?_ ?_) <;> intro hc)))) | ((fail_if_success (with_reducible refine o_s ?_)); go_step))
        refine wpl_callV (enters_of Tryz.func182 rfl rfl) rfl rfl (r3_isHost (s.take (i + 1)) _ (by simp; omega)) ?_; intro w2 x2; refine gset ?_
        cases hh : (hostN (s.take (i + 1))).isSome with
        | true =>
          repeat' (first | ((with_reducible refine o_s ?_); (first | (refine o_1 ?_; refine o_2 ?_) | (refine o_g ?_; first | refine o_u ?_ | refine o_k ?_ | refine o_n ?_ | refine o_v ?_ | ((first | refine o_G ?_ ?_ | refine o_N ?_ ?_) <;> intro hc)))) | ((fail_if_success (with_reducible refine o_s ?_)); go_step))
          go_ret
          exact ⟨by rw [firstR, hw, if_neg (by omega), Nat.add_zero, hh]; rfl, hx.trans x2⟩
        | false =>
          repeat' (first | ((with_reducible refine o_s ?_); (first | (refine o_1 ?_; refine o_2 ?_) | (refine o_g ?_; first | refine o_u ?_ | refine o_k ?_ | refine o_n ?_ | refine o_v ?_ | ((first | refine o_G ?_ ?_ | refine o_N ?_ ?_) <;> intro hc)))) | ((fail_if_success (with_reducible refine o_s ?_)); go_step))
          go_ret
          exact ⟨by rw [firstR, hw, if_neg (by omega), Nat.add_zero, hh]; rfl, hx.trans x2⟩
      · rw [if_neg hz] at hw
        repeat' (first | ((with_reducible refine o_s ?_); (first | (refine o_1 ?_; refine o_2 ?_) | (refine o_g ?_; first | refine o_u ?_ | refine o_k ?_ | refine o_n ?_ | refine o_v ?_ | ((first | refine o_G ?_ ?_ | refine o_N ?_ ?_) <;> intro hc)))) | ((fail_if_success (with_reducible refine o_s ?_)); go_step))
        exact ⟨⟨i + 1 + (s.getD i 0).toNat, by go_num, by omega, hx, by omega⟩, by simp [intOf]; omega⟩
    · repeat' (first | ((with_reducible refine o_s ?_); (first | (refine o_1 ?_; refine o_2 ?_) | (refine o_g ?_; first | refine o_u ?_ | refine o_k ?_ | refine o_n ?_ | refine o_v ?_ | ((first | refine o_G ?_ ?_ | refine o_N ?_ ?_) <;> intro hc)))) | ((fail_if_success (with_reducible refine o_s ?_)); go_step))
      go_ret
      exact ⟨by rw [firstR, if_pos (by omega)]; rfl, hx⟩
def icells (l : List Int) : List (List Value) := l.map fun n => [.int .i64 n]
theorem icells_at {l : List Int} {k : Nat} (h : k < l.length) : (icells l)[k]? = some [.int .i64 l[k]] := by simp [icells, h]
theorem r3_WideI (m : Int) (w : World) (h0 : 0 ≤ m) (h1 : m < 4294967296) : Calls Tryz.prog 184 #[.int .i64 m, .int .i64 4] w (RetV w (str (be4 m.toNat))) := by
  obtain ⟨n, rfl⟩ := Int.eq_ofNat_of_zero_le h0
  rw [Int.toNat_natCast]
  exact r3_Wide n w (by omega)
theorem be4_len (n : Nat) : (be4 n).length = 4 := rfl
set_option maxHeartbeats 4000000 in
theorem r3_Soa (s : SoaR) (w : World) (h1 : s.main.length ≤ 4611686018427387904) (h2 : s.mail.length ≤ 4611686018427387904) : Calls Tryz.prog 153 #[.agg s.cells.toArray] w (RetV w (if s.ok = true then .tuple #[str s.data, .int .i64 0] else .tuple #[str [], .int .i64 1])) := by
  have hA := fun w => r3_Host s.main w (by omega)
  have hB := fun w => r3_Host s.mail w (by omega)
  rw [soa_ok]
  cases hm : (labels s.main).isSome with
  | false =>
    simp only [hm, Bool.false_eq_true, ↓reduceIte] at hA
    go_enter Tryz.func153, Tryz.ntmps153
    repeat' ((fail_if_success (with_reducible refine o_s ?_)); go_step)
    refine wpl_box (vs := s.cells) rfl rfl ?_
    intro p w1 x1 hp
    refine gset ?_
    have hp' : Pts w1 p [str s.main, str s.mail, .int .i64 s.serial, .int .i64 s.refresh, .int .i64 s.retry, .int .i64 s.expire, .int .i64 s.minimum] := hp
    repeat' (first | ((with_reducible refine o_s ?_); (first | (refine o_1 ?_; refine o_2 ?_) | (refine o_g ?_; first | refine o_u ?_ | refine o_k ?_ | refine o_n ?_ | refine o_v ?_ | ((first | refine o_G ?_ ?_ | refine o_N ?_ ?_) <;> intro hc)))) | ((fail_if_success (with_reducible refine o_s ?_)); go_step))
    refine wpl_callV (enters_of Tryz.func183 rfl rfl) rfl rfl (hA _) ?_; intro w2 x2; refine gset ?_
    have hp' := hp'.ext x2
    repeat' (first | ((with_reducible refine o_s ?_); (first | (refine o_1 ?_; refine o_2 ?_) | (refine o_g ?_; first | refine o_u ?_ | refine o_k ?_ | refine o_n ?_ | refine o_v ?_ | ((first | refine o_G ?_ ?_ | refine o_N ?_ ?_) <;> intro hc)))) | ((fail_if_success (with_reducible refine o_s ?_)); go_step))
    refine wpl_callV (enters_of Tryz.func183 rfl rfl) rfl rfl (hB _) ?_; intro w3 x3; refine gset ?_
    cases hl : (labels s.mail).isSome
    all_goals
      have hp' := hp'.ext x3
      simp only [↓reduceIte, Bool.false_eq_true]
      repeat' (first | ((with_reducible refine o_s ?_); (first | (refine o_1 ?_; refine o_2 ?_) | (refine o_g ?_; first | refine o_u ?_ | refine o_k ?_ | refine o_n ?_ | refine o_v ?_ | ((first | refine o_G ?_ ?_ | refine o_N ?_ ?_) <;> intro hc)))) | ((fail_if_success (with_reducible refine o_s ?_)); go_step))
      go_ret2
      exact ⟨rfl, (x1.trans x2).trans x3⟩
  | true =>
    simp only [hm, ↓reduceIte] at hA
    cases hl : (labels s.mail).isSome with
    | false =>
      simp only [hl, Bool.false_eq_true, ↓reduceIte] at hB
      go_enter Tryz.func153, Tryz.ntmps153
      repeat' ((fail_if_success (with_reducible refine o_s ?_)); go_step)
      refine wpl_box (vs := s.cells) rfl rfl ?_
      intro p w1 x1 hp
      refine gset ?_
      have hp' : Pts w1 p [str s.main, str s.mail, .int .i64 s.serial, .int .i64 s.refresh, .int .i64 s.retry, .int .i64 s.expire, .int .i64 s.minimum] := hp
      repeat' (first | ((with_reducible refine o_s ?_); (first | (refine o_1 ?_; refine o_2 ?_) | (refine o_g ?_; first | refine o_u ?_ | refine o_k ?_ | refine o_n ?_ | refine o_v ?_ | ((first | refine o_G ?_ ?_ | refine o_N ?_ ?_) <;> intro hc)))) | ((fail_if_success (with_reducible refine o_s ?_)); go_step))
      refine wpl_callV (enters_of Tryz.func183 rfl rfl) rfl rfl (hA _) ?_; intro w2 x2; refine gset ?_
      have hp' := hp'.ext x2
      repeat' (first | ((with_reducible refine o_s ?_); (first | (refine o_1 ?_; refine o_2 ?_) | (refine o_g ?_; first | refine o_u ?_ | refine o_k ?_ | refine o_n ?_ | refine o_v ?_ | ((first | refine o_G ?_ ?_ | refine o_N ?_ ?_) <;> intro hc)))) | ((fail_if_success (with_reducible refine o_s ?_)); go_step))
      refine wpl_callV (enters_of Tryz.func183 rfl rfl) rfl rfl (hB _) ?_; intro w3 x3; refine gset ?_
      have hp' := hp'.ext x3
      repeat' (first | ((with_reducible refine o_s ?_); (first | (refine o_1 ?_; refine o_2 ?_) | (refine o_g ?_; first | refine o_u ?_ | refine o_k ?_ | refine o_n ?_ | refine o_v ?_ | ((first | refine o_G ?_ ?_ | refine o_N ?_ ?_) <;> intro hc)))) | ((fail_if_success (with_reducible refine o_s ?_)); go_step))
      go_ret2
      exact ⟨rfl, (x1.trans x2).trans x3⟩
    | true =>
      simp only [hl, ↓reduceIte] at hB
      obtain ⟨ls, hls⟩ := Option.isSome_iff_exists.1 hm
      obtain ⟨ms, hms⟩ := Option.isSome_iff_exists.1 hl
      have hfm := labels_fit hls
      have hfm2 := labels_fit hms
      simp only [Bool.true_and]
      go_enter Tryz.func153, Tryz.ntmps153
      repeat' ((fail_if_success (with_reducible refine o_s ?_)); go_step)
      refine wpl_box (vs := s.cells) rfl rfl ?_
      intro p w1 x1 hp
      refine gset ?_
      have hp' : Pts w1 p [str s.main, str s.mail, .int .i64 s.serial, .int .i64 s.refresh, .int .i64 s.retry, .int .i64 s.expire, .int .i64 s.minimum] := hp
      repeat' (first | ((with_reducible refine o_s ?_); (first | (refine o_1 ?_; refine o_2 ?_) | (refine o_g ?_; first | refine o_u ?_ | refine o_k ?_ | refine o_n ?_ | refine o_v ?_ | ((first | refine o_G ?_ ?_ | refine o_N ?_ ?_) <;> intro hc)))) | ((fail_if_success (with_reducible refine o_s ?_)); go_step))
      refine wpl_callV (enters_of Tryz.func183 rfl rfl) rfl rfl (hA _) ?_; intro w2 x2; refine gset ?_
      have hp' := hp'.ext x2
      repeat' (first | ((with_reducible refine o_s ?_); (first | (refine o_1 ?_; refine o_2 ?_) | (refine o_g ?_; first | refine o_u ?_ | refine o_k ?_ | refine o_n ?_ | refine o_v ?_ | ((first | refine o_G ?_ ?_ | refine o_N ?_ ?_) <;> intro hc)))) | ((fail_if_success (with_reducible refine o_s ?_)); go_step))
      refine wpl_callV (enters_of Tryz.func183 rfl rfl) rfl rfl (hB _) ?_; intro w3 x3; refine gset ?_
      have hp' := hp'.ext x3
      have x13 := (x1.trans x2).trans x3
      clear x1 x2 x3 hp hA hB
      repeat' (first | ((with_reducible refine o_s ?_); (first | (refine o_1 ?_; refine o_2 ?_) | (refine o_g ?_; first | refine o_u ?_ | refine o_k ?_ | refine o_n ?_ | refine o_v ?_ | ((first | refine o_G ?_ ?_ | refine o_N ?_ ?_) <;> intro hc)))) | ((fail_if_success (with_reducible refine o_s ?_)); go_step))
      rotate_left
      · have hc := ‹s.serial ≤ 4294967295›
        have hc0 := ‹¬s.serial < 0›
        have hser : (decide (0 ≤ s.serial) && decide (s.serial ≤ 4294967295)) = true := by simp; omega
        refine wpl_slice (e := 3) (k := 1) (bytes := 8) (xs := (soaNums s).map (.int .i64)) rfl rfl rfl (by intro x hx; obtain ⟨n, _, rfl⟩ := List.mem_map.1 hx; rfl) (by decide +kernel) (by simp [soaNums]) ?_
        intro v4 w4 x4 _ s4 _
        have s4 : Sl 1 w4 v4 (icells (soaNums s)) := by simpa [icells, soaNums, Value.cells] using s4
        refine gset ?_
        have hp' := hp'.ext x4
        repeat' (first | ((with_reducible refine o_s ?_); (first | (refine o_1 ?_; refine o_2 ?_) | (refine o_g ?_; first | refine o_u ?_ | refine o_k ?_ | refine o_n ?_ | refine o_v ?_ | ((first | refine o_G ?_ ?_ | refine o_N ?_ ?_) <;> intro hc)))) | ((fail_if_success (with_reducible refine o_s ?_)); go_step))
        refine wpl_callV (enters_of Tryz.func184 rfl rfl) rfl rfl (r3_WideI s.serial _ (by omega) (by omega)) ?_; intro w5 x5; refine gset ?_
        refine wpl_run rfl (Runs.addS rfl rfl (by simp [be4_len]; omega)) ?_
        refine gset ?_
        repeat' (first | ((with_reducible refine o_s ?_); (first | (refine o_1 ?_; refine o_2 ?_) | (refine o_g ?_; first | refine o_u ?_ | refine o_k ?_ | refine o_n ?_ | refine o_v ?_ | ((first | refine o_G ?_ ?_ | refine o_N ?_ ?_) <;> intro hc)))) | ((fail_if_success (with_reducible refine o_s ?_)); go_step))
        have x15 := (x13.trans x4).trans x5
        have s5 := s4.ext x5
        have hb0 : (soaBase s).length ≤ 600 := by simp [soaBase, be4_len]; omega
        rw [show s.main ++ [0] ++ (s.mail ++ [0]) ++ be4 s.serial.toNat = soaBase s from rfl]
        have hlen : (soaNums s).length = 4 := rfl
        have hlen2 : (icells (soaNums s)).length = 4 := rfl
        clear s4 x4 hp' x5
        go_loopw [9, 10] (fun o i wr => ∃ k : Nat, k ≤ 4 ∧ i = .int .i64 k ∧ Ext w5 wr ∧ o = str (soaBase s ++ be4s ((soaNums s).take k)) ∧ ((soaNums s).take k).all ttlOk = true) (fun _ i _ => 4 - (intOf i).toNat)
        case atStart => exact ⟨0, by omega, rfl, Ext.refl _, by simp [be4s], rfl⟩
        case round =>
          obtain ⟨k, hk, rfl, hx, rfl, hall⟩ := hrel
          have hsl := s5.ext hx
          by_cases hlt : k < 4
          · have hlt2 : k < (soaNums s).length := hlt
            have hp := hsl.elem (icells_at hlt2)
            have hsplit : (soaNums s).all ttlOk = true → ttlOk (soaNums s)[k] = true := fun h => List.all_eq_true.1 h _ (List.getElem_mem hlt2)
            have hbs : (be4s ((soaNums s).take k)).length ≤ 16 := by rw [be4s_len]; simp; omega
            repeat' (first | ((with_reducible refine o_s ?_); (first | (refine o_1 ?_; refine o_2 ?_) | (refine o_g ?_; first | refine o_u ?_ | refine o_k ?_ | refine o_n ?_ | refine o_v ?_ | ((first | refine o_G ?_ ?_ | refine o_N ?_ ?_) <;> intro hc)))) | ((fail_if_success (with_reducible refine o_s ?_)); go_step))
            rotate_left
            · refine wpl_callV (enters_of Tryz.func184 rfl rfl) rfl rfl (r3_WideI (soaNums s)[k] _ (by omega) (by omega)) ?_; intro w6 x6; refine gset ?_
              refine wpl_run rfl (Runs.addS rfl rfl (by simp [be4_len]; omega)) ?_
              refine gset ?_
              rw [show soaBase s ++ be4s ((soaNums s).take k) ++ be4 (soaNums s)[k].toNat = soaBase s ++ be4s ((soaNums s).take (k + 1)) by rw [be4s_succ _ _ hlt2, List.append_assoc]]
              repeat' (first | ((with_reducible refine o_s ?_); (first | (refine o_1 ?_; refine o_2 ?_) | (refine o_g ?_; first | refine o_u ?_ | refine o_k ?_ | refine o_n ?_ | refine o_v ?_ | ((first | refine o_G ?_ ?_ | refine o_N ?_ ?_) <;> intro hc)))) | ((fail_if_success (with_reducible refine o_s ?_)); go_step))
              refine ⟨⟨k + 1, by omega, by go_num, hx.trans x6, rfl, ?_⟩, by simp [intOf]; omega⟩
              rw [List.take_add_one, List.getElem?_eq_getElem hlt2, Option.toList_some, List.all_append, hall]
              simp only [List.all_cons, List.all_nil, ttlOk, Bool.true_and, Bool.and_true, Bool.and_eq_true, decide_eq_true_eq]
              omega
            all_goals
              have hno : (soaNums s).all ttlOk = false := by
                cases h : (soaNums s).all ttlOk with
                | false => rfl
                | true => have := hsplit h; simp [ttlOk] at this; omega
              go_ret2
              refine ⟨?_, x15.trans hx⟩
              simp only [hser, hno, Bool.and_false, Bool.false_eq_true, if_false]
              rfl
          · have : k = 4 := by omega
            subst this
            rw [show (soaNums s).take 4 = soaNums s from rfl] at hall ⊢
            repeat' (first | ((with_reducible refine o_s ?_); (first | (refine o_1 ?_; refine o_2 ?_) | (refine o_g ?_; first | refine o_u ?_ | refine o_k ?_ | refine o_n ?_ | refine o_v ?_ | ((first | refine o_G ?_ ?_ | refine o_N ?_ ?_) <;> intro hc)))) | ((fail_if_success (with_reducible refine o_s ?_)); go_step))
            go_ret2
            refine ⟨?_, x15.trans hx⟩
            simp only [hser, hall, Bool.and_self, if_true]
            rw [soa_data]
            rfl
      all_goals
        have hno : (decide (0 ≤ s.serial) && decide (s.serial ≤ 4294967295)) = false := by simp only [Bool.and_eq_false_iff, decide_eq_false_iff_not]; omega
        go_ret2
        refine ⟨?_, x13⟩
        simp only [hno, Bool.false_and, Bool.false_eq_true, if_false]
        rfl

theorem numU4 {r : List UInt8} {i : Nat} (hr : r.length = 20) (hi : i < 5) : (numU ((r.take (4 * i + 4)).drop (4 * i)) 4 : Nat) = numP r i 4 := by
  have hl : ((r.take (4 * i + 4)).drop (4 * i)).length = 4 := by simp; omega
  have hg : ∀ k, k < 4 → ((r.take (4 * i + 4)).drop (4 * i)).getD k 0 = r.getD (4 * i + k) 0 := by
    intro k hk
    simp only [List.getD_eq_getElem?_getD, List.getElem?_drop, List.getElem?_take]
    rw [if_pos (by omega)]
  have h0 : numU ((r.take (4 * i + 4)).drop (4 * i)) 0 = 0 := rfl
  rw [numU_succ (by omega), numU_succ (by omega), numU_succ (by omega), numU_succ (by omega), h0, hg 0 (by omega), hg 1 (by omega), hg 2 (by omega), hg 3 (by omega)]
  simp only [numP]
  omega
theorem r3_Num4 (s : List UInt8) (w : World) (hl : s.length = 4) : Calls Tryz.prog 152 #[str s] w (RetV w (.int .i64 (numU s 4 : Nat))) := by
  have := r3_Number s w (by omega)
  rwa [hl] at this
theorem parseSoa_ref (d : List UInt8) : parseSoa d = if firstR d = 0 then none else if firstR (d.drop (firstR d)) = 0 ∨ d.length ≠ firstR d + firstR (d.drop (firstR d)) + 20 then none
    else if (soaOf d).ok = true then some (soaOf d) else none := by
  have hd := firstR_firstN d
  have he := firstR_firstN (d.drop (firstR d))
  by_cases h0 : firstR d = 0
  · rw [if_pos h0] at hd ⊢
    have : (firstN d).2.2 = false := by rw [hd]; split <;> rfl
    simp [parseSoa, this]
  · rw [if_neg h0] at hd ⊢
    have h1 : (firstN d).2.2 = true := by rw [hd]
    have h2 : (firstN d).2.1 = d.drop (firstR d) := by rw [hd]
    unfold parseSoa
    simp only [h1, h2, true_and]
    by_cases hm : firstR (d.drop (firstR d)) = 0
    · rw [if_pos hm] at he
      have : (firstN (d.drop (firstR d))).2.2 = false := by rw [he]; split <;> rfl
      simp [this, hm]
    · rw [if_neg hm] at he
      have h3 : (firstN (d.drop (firstR d))).2.2 = true := by rw [he]
      have h4 : (firstN (d.drop (firstR d))).2.1 = (d.drop (firstR d)).drop (firstR (d.drop (firstR d))) := by rw [he]
      have l1 := firstR_le d
      have l2 := firstR_le (d.drop (firstR d))
      rw [List.length_drop] at l2
      simp only [h3, h4, true_and, hm, false_or, List.length_drop]
      by_cases hl : d.length = firstR d + firstR (d.drop (firstR d)) + 20
      · have : d.length - firstR d - firstR (d.drop (firstR d)) = 20 := by omega
        simp [hl, this]
        rw [← hl]
        simp [this]
      · have : ¬ d.length - firstR d - firstR (d.drop (firstR d)) = 20 := by omega
        simp [hl, this]
end Go.Proofs.X
