/- Laws and walks that the proof of the statement is made of (part 11). -/
import Derived.Test.YtoajkilickakiaaGreatProg
import Derived.Lib.Hide
import Derived.Test.YtoajkilickakiaaGreatShelf
import Derived.Shelf.SlSortCmp.NoneTotal
import Derived.OwnWalk
import Derived.Shelf.RegionOpenPlain
import Derived.Lib.Strings
import Derived.Lib.Slices
import Derived.Lib.Walk
import Derived.Lib.Builder
import Derived.Lib.AppendStr
import Derived.Lib.UnsafeStr
import Derived.Lib.MakeNoZero
import Derived.WalkKit
import Derived.Laws.Externs
import Derived.Laws.IdiomCopy
import Derived.Laws.BitsLemmas
import GoSem.Claims
import Derived.Test.YtoajkilickakiaaGreatP1
import Derived.Test.YtoajkilickakiaaGreatP2
import Derived.Test.YtoajkilickakiaaGreatP3
import Derived.Test.YtoajkilickakiaaGreatP4
import Derived.Test.YtoajkilickakiaaGreatP5
import Derived.Test.YtoajkilickakiaaGreatP7
import Derived.Test.YtoajkilickakiaaGreatP8
import Derived.Test.YtoajkilickakiaaGreatP9
import Derived.Test.YtoajkilickakiaaGreatP10
set_option linter.unusedSimpArgs false
set_option linter.unusedVariables false
namespace Go.Proofs.X
open Go.RowKit
set_option maxRecDepth 100000
def cmpG (s t : RSet) : Int := cmpSet s.name t.name s.kind t.kind
theorem tpoG : TPO cmpG := tpo_cmpSet.comap fun s : RSet => (s.name, s.kind)
def SO (gs : List RSet) : Prop := gs.Pairwise fun s t => cmpG s t < 0
def newS (r : Rec) (t : RSet) : RSet := ⟨fold r.name, r.kind, min r.ttl t.ttl, textS r.data t.data⟩
theorem ahead_G (a b : RSet) : aheadS a b = decide (cmpG a b < 0) := ahead_cmp a b
theorem match_key {s : RSet} {r : Rec} : match1 s r = true ↔ s.name = fold r.name ∧ s.kind = r.kind := by simp [match1]
theorem cmpG_key {s t u : RSet} (hn : s.name = t.name) (hk : s.kind = t.kind) : cmpG u s = cmpG u t ∧ cmpG s u = cmpG t u := by
  unfold cmpG; rw [hn, hk]; exact ⟨rfl, rfl⟩
theorem no_match {s : RSet} {r : Rec} (h : cmpG s (recSet r) ≠ 0) : match1 s r = false := by
  cases hm : match1 s r with
  | false => rfl
  | true =>
    obtain ⟨h1, h2⟩ := match_key.1 hm
    exact absurd (by rw [(cmpG_key (t := recSet r) h1 h2).2]; exact tpoG.refl _) h
theorem mem_putS {r : Rec} (hr : Small (fold r.name)) : ∀ {gs : List RSet} {s : RSet}, SO gs → (∀ g ∈ gs, Small g.name) → s ∈ putS r gs →
    (s ∈ gs ∧ match1 s r = false) ∨ (∃ t ∈ gs, match1 t r = true ∧ s = newS r t) ∨ ((∀ t ∈ gs, match1 t r = false) ∧ s = recSet r)
  | [], s, _, _, h => by
    right; right
    exact ⟨by simp, by simpa [putS] using h⟩
  | g :: gs, s, hso, hsm, h => by
    obtain ⟨p1, p2⟩ := List.pairwise_cons.1 hso
    have hg := hsm g (by simp)
    rw [putS, ahead_G, ahead_G] at h
    by_cases h1 : cmpG g (recSet r) < 0
    · rw [if_pos (decide_eq_true h1)] at h
      have m1 : match1 g r = false := no_match (by omega)
      rcases List.mem_cons.1 h with rfl | h
      · exact .inl ⟨by simp, m1⟩
      · rcases mem_putS hr p2 (fun x hx => hsm x (by simp [hx])) h with ⟨a, b⟩ | ⟨t, a, b, c⟩ | ⟨a, b⟩
        · exact .inl ⟨by simp [a], b⟩
        · exact .inr (.inl ⟨t, by simp [a], b, c⟩)
        · refine .inr (.inr ⟨fun t ht => ?_, b⟩)
          rcases List.mem_cons.1 ht with rfl | ht
          · exact m1
          · exact a t ht
    · rw [if_neg (by simpa using h1)] at h
      by_cases h2 : cmpG (recSet r) g < 0
      · rw [if_pos (decide_eq_true h2)] at h
        have m1 : match1 g r = false := no_match (by have := tpoG.anti g (recSet r); omega)
        have m2 : ∀ t ∈ gs, match1 t r = false := fun t ht => no_match (by
          have := tpoG.ltt h2 (p1 t ht)
          have := tpoG.anti t (recSet r); omega)
        rcases List.mem_cons.1 h with rfl | h
        · refine .inr (.inr ⟨fun t ht => ?_, rfl⟩)
          rcases List.mem_cons.1 ht with rfl | ht
          · exact m1
          · exact m2 t ht
        · rcases List.mem_cons.1 h with rfl | h
          · exact .inl ⟨by simp, m1⟩
          · exact .inl ⟨by simp [h], m2 s h⟩
      · rw [if_neg (by simpa using h2)] at h
        have h0 : cmpG g (recSet r) = 0 := by have := tpoG.anti g (recSet r); omega
        obtain ⟨e1, e2⟩ := cmpSet_zero hg hr h0
        have mg : match1 g r = true := match_key.2 ⟨e1, e2⟩
        rcases List.mem_cons.1 h with rfl | h
        · exact .inr (.inl ⟨g, by simp, mg, rfl⟩)
        · refine .inl ⟨by simp [h], no_match ?_⟩
          have := p1 s h
          rw [(cmpG_key (t := recSet r) e1 e2).2] at this
          have := tpoG.anti s (recSet r); omega
theorem key_putS {r : Rec} : ∀ {gs : List RSet} {s : RSet}, s ∈ putS r gs → s ∈ gs ∨ (s.name = fold r.name ∧ s.kind = r.kind)
  | [], s, h => by
    right
    have : s = recSet r := by simpa [putS] using h
    subst this; exact ⟨rfl, rfl⟩
  | g :: gs, s, h => by
    rw [putS] at h
    split at h
    · rcases List.mem_cons.1 h with rfl | h
      · exact .inl (by simp)
      · rcases key_putS h with h | h
        · exact .inl (by simp [h])
        · exact .inr h
    · split at h
      · rcases List.mem_cons.1 h with rfl | h
        · exact .inr ⟨rfl, rfl⟩
        · exact .inl h
      · rcases List.mem_cons.1 h with rfl | h
        · exact .inr ⟨rfl, rfl⟩
        · exact .inl (by simp [h])
theorem so_putS {r : Rec} (hr : Small (fold r.name)) : ∀ {gs : List RSet}, SO gs → (∀ g ∈ gs, Small g.name) → SO (putS r gs)
  | [], _, _ => by simp [putS, SO]
  | g :: gs, hso, hsm => by
    obtain ⟨p1, p2⟩ := List.pairwise_cons.1 hso
    have hg := hsm g (by simp)
    rw [putS, ahead_G, ahead_G]
    by_cases h1 : cmpG g (recSet r) < 0
    · rw [if_pos (decide_eq_true h1)]
      refine List.pairwise_cons.2 ⟨fun s hs => ?_, so_putS hr p2 fun x hx => hsm x (by simp [hx])⟩
      rcases key_putS hs with h | ⟨a, b⟩
      · exact p1 s h
      · rw [(cmpG_key (t := recSet r) a b).1]; exact h1
    · rw [if_neg (by simpa using h1)]
      by_cases h2 : cmpG (recSet r) g < 0
      · rw [if_pos (decide_eq_true h2)]
        refine List.pairwise_cons.2 ⟨fun s hs => ?_, hso⟩
        rcases List.mem_cons.1 hs with rfl | hs
        · exact h2
        · exact tpoG.ltt h2 (p1 s hs)
      · rw [if_neg (by simpa using h2)]
        have h0 : cmpG g (recSet r) = 0 := by have := tpoG.anti g (recSet r); omega
        obtain ⟨e1, e2⟩ := cmpSet_zero hg hr h0
        refine List.pairwise_cons.2 ⟨fun s hs => ?_, p2⟩
        have := p1 s hs
        rw [(cmpG_key (s := g) (t := ⟨fold r.name, r.kind, min r.ttl g.ttl, textS r.data g.data⟩) e1 e2).2] at this
        exact this
theorem strict_textS {s : List UInt8} : ∀ {l : List (List UInt8)}, l.Pairwise (· < ·) → (textS s l).Pairwise (· < ·) ∧ ∀ x, x ∈ textS s l ↔ x = s ∨ x ∈ l
  | [], _ => by simp [textS]
  | y :: l, h => by
    obtain ⟨p1, p2⟩ := List.pairwise_cons.1 h
    obtain ⟨i1, i2⟩ := strict_textS (s := s) p2
    rw [textS]
    by_cases h1 : y < s
    · rw [if_pos (bless.2 h1)]
      refine ⟨List.pairwise_cons.2 ⟨fun x hx => ?_, i1⟩, fun x => ?_⟩
      · rcases (i2 x).1 hx with rfl | hx
        · exact h1
        · exact p1 x hx
      · simp only [List.mem_cons, i2]; exact or_left_comm
    · rw [if_neg (fun hb => h1 (bless.1 hb))]
      by_cases h2 : y = s
      · rw [if_pos h2]
        subst h2
        exact ⟨h, fun x => by simp⟩
      · rw [if_neg h2]
        have h3 : s < y := lt_of_le_ne (List.not_lt.1 h1) (fun e => h2 e.symm)
        refine ⟨List.pairwise_cons.2 ⟨fun x hx => ?_, h⟩, fun x => by simp⟩
        rcases List.mem_cons.1 hx with rfl | hx
        · exact h3
        · exact List.lt_trans h3 (p1 x hx)
theorem keep_putS {r : Rec} (hr : Small (fold r.name)) : ∀ {gs : List RSet}, (∀ g ∈ gs, Small g.name) → ∀ t ∈ gs, ∃ s ∈ putS r gs, s.name = t.name ∧ s.kind = t.kind
  | [], _, t, h => by simp at h
  | g :: gs, hsm, t, h => by
    have hg := hsm g (by simp)
    rw [putS, ahead_G, ahead_G]
    by_cases h1 : cmpG g (recSet r) < 0
    · rw [if_pos (decide_eq_true h1)]
      rcases List.mem_cons.1 h with rfl | h
      · exact ⟨t, by simp, rfl, rfl⟩
      · obtain ⟨s, a, b⟩ := keep_putS hr (fun x hx => hsm x (by simp [hx])) t h
        exact ⟨s, by simp [a], b⟩
    · rw [if_neg (by simpa using h1)]
      by_cases h2 : cmpG (recSet r) g < 0
      · rw [if_pos (decide_eq_true h2)]
        exact ⟨t, List.mem_cons_of_mem _ h, rfl, rfl⟩
      · rw [if_neg (by simpa using h2)]
        have h0 : cmpG g (recSet r) = 0 := by have := tpoG.anti g (recSet r); omega
        obtain ⟨e1, e2⟩ := cmpSet_zero hg hr h0
        rcases List.mem_cons.1 h with rfl | h
        · exact ⟨_, List.mem_cons_self, e1.symm, e2.symm⟩
        · exact ⟨t, by simp [h], rfl, rfl⟩
theorem new_putS (r : Rec) : ∀ gs : List RSet, ∃ s ∈ putS r gs, s.name = fold r.name ∧ s.kind = r.kind
  | [] => ⟨recSet r, by simp [putS], rfl, rfl⟩
  | g :: gs => by
    obtain ⟨s, a, b⟩ := new_putS r gs
    rw [putS]
    split
    · exact ⟨s, by simp [a], b⟩
    · split
      · exact ⟨recSet r, by simp, rfl, rfl⟩
      · exact ⟨_, List.mem_cons_self, rfl, rfl⟩
theorem Ch.newS {L : List Rec} {t : RSet} {r : Rec} (h : Ch L t) (hm : match1 t r = true) (ht : t.data.Pairwise (· < ·)) : Ch (L ++ [r]) (X.newS r t) := by
  have hb := h.bump hm
  obtain ⟨e1, e2⟩ := match_key.1 hm
  have hk : ∀ q, match1 (X.newS r t) q = match1 (X.bump t r) q := fun q => by simp only [match1, X.newS, X.bump, e1, e2]; rfl
  refine ⟨fun d => ?_, ?_, fun q hq hmq => ?_⟩
  · show d ∈ textS r.data t.data ↔ _
    rw [(strict_textS ht).2]
    have := hb.dat d
    simp only [hk]
    rw [← this]
    show _ ↔ d ∈ t.data ++ [r.data]
    simp [or_comm]
  · obtain ⟨q, a, b, c⟩ := hb.ttl
    exact ⟨q, a, by rw [hk]; exact b, by rw [c]; show min t.ttl r.ttl = min r.ttl t.ttl; omega⟩
  · have := hb.low q hq (by rw [← hk]; exact hmq)
    show min r.ttl t.ttl ≤ q.ttl
    have h2 : min t.ttl r.ttl ≤ q.ttl := this
    omega
theorem small_ok {r : Rec} (h : okR r = true) : Small (fold r.name) := by
  obtain ⟨ls, hl⟩ := Option.isSome_iff_exists.1 (ready_labels (r := r) (n := []) (by simpa [okR] using h)).1
  exact ⟨r.name, ls, hl, rfl⟩
theorem putAll_inv {l : List Rec} (hok : l.all okR = true) : ∀ k, k ≤ l.length → SO (putAll (l.take k)) ∧ (∀ s ∈ putAll (l.take k), Ch (l.take k) s ∧ s.data.Pairwise (· < ·) ∧ Small s.name) ∧ ∀ q ∈ l.take k, ∃ s ∈ putAll (l.take k), match1 s q = true
  | 0, _ => by simp [putAll, SO]
  | k + 1, h => by
    have hlt : k < l.length := by omega
    obtain ⟨i1, i2, i3⟩ := putAll_inv hok k (by omega)
    have hr := small_ok (List.all_eq_true.1 hok _ (List.getElem_mem hlt))
    have hsm : ∀ g ∈ putAll (l.take k), Small g.name := fun g hg => (i2 g hg).2.2
    have e : l.take (k + 1) = l.take k ++ [l[k]] := by simp
    rw [putAll_succ hlt, e]
    refine ⟨so_putS hr i1 hsm, fun s hs => ?_, fun q hq => ?_⟩
    · rcases mem_putS hr i1 hsm hs with ⟨a, b⟩ | ⟨t, a, b, rfl⟩ | ⟨a, rfl⟩
      · exact ⟨(i2 s a).1.miss b, (i2 s a).2⟩
      · exact ⟨(i2 t a).1.newS b (i2 t a).2.1, (strict_textS (i2 t a).2.1).1, hr⟩
      · refine ⟨Ch.new fun q hq => ?_, by simp [recSet], hr⟩
        obtain ⟨t, ht, hm⟩ := i3 q hq
        cases hx : match1 ⟨fold l[k].name, l[k].kind, l[k].ttl, [l[k].data]⟩ q with
        | false => rfl
        | true =>
          exfalso
          obtain ⟨x1, x2⟩ := match_key.1 hx
          obtain ⟨y1, y2⟩ := match_key.1 hm
          have h5 : match1 t l[k] = true := match_key.2 ⟨y1.trans x1.symm, y2.trans x2.symm⟩
          rw [a t ht] at h5; cases h5
    · rcases List.mem_append.1 hq with hq | hq
      · obtain ⟨t, ht, hm⟩ := i3 q hq
        obtain ⟨s, a, b, c⟩ := keep_putS hr hsm t ht
        obtain ⟨y1, y2⟩ := match_key.1 hm
        exact ⟨s, a, match_key.2 ⟨b.trans y1, c.trans y2⟩⟩
      · obtain rfl := List.mem_singleton.1 hq
        obtain ⟨s, a, b, c⟩ := new_putS l[k] (putAll (l.take k))
        exact ⟨s, a, match_key.2 ⟨b, c⟩⟩
theorem putAll_all {l : List Rec} (hok : l.all okR = true) : SO (putAll l) ∧ (∀ s ∈ putAll l, Ch l s ∧ s.data.Pairwise (· < ·) ∧ Small s.name) ∧ ∀ q ∈ l, ∃ s ∈ putAll l, match1 s q = true := by
  have := putAll_inv hok l.length (Nat.le_refl _)
  rwa [List.take_length] at this
theorem putAll_perm {l : List Rec} (hok : l.all okR = true) : (putAll l).Perm (groups l) := by
  obtain ⟨i1, i2, i3⟩ := putAll_all hok
  have n1 : (groups l).Nodup := (groups_apart _).imp fun h e => by subst e; exact h ⟨rfl, rfl⟩
  have n0 : (putAll l).Nodup := i1.imp fun h e => by subst e; have := tpoG.refl ‹RSet›; omega
  refine (List.perm_ext_iff_of_nodup n0 n1).2 fun s => ⟨fun hs => ?_, fun hs => ?_⟩
  · obtain ⟨hc, hst, _⟩ := i2 s hs
    obtain ⟨q, h1, h2, _⟩ := hc.ttl
    obtain ⟨t, ht, hm, _⟩ := gather_cov h1
    have hg : norm t ∈ groups l := List.mem_map_of_mem ht
    obtain ⟨hc', hst'⟩ := groups_ch hg
    obtain ⟨x1, x2⟩ := match_key.1 h2
    obtain ⟨y1, y2⟩ := match_key.1 hm
    have e := hc.uniq hc' hst hst' (x1.trans y1.symm) (x2.trans y2.symm)
    rw [e]; exact hg
  · obtain ⟨hc, hst⟩ := groups_ch hs
    obtain ⟨q, h1, h2, _⟩ := hc.ttl
    obtain ⟨t, ht, hm⟩ := i3 q h1
    obtain ⟨hc', hst', _⟩ := i2 t ht
    obtain ⟨x1, x2⟩ := match_key.1 h2
    obtain ⟨y1, y2⟩ := match_key.1 hm
    have e := hc.uniq hc' hst hst' (x1.trans y1.symm) (x2.trans y2.symm)
    rw [e]; exact ht
theorem putAll_sorted {l : List Rec} (hok : l.all okR = true) : Sorted (putAll l) := by
  obtain ⟨i1, _, _⟩ := putAll_all hok
  intro i j s t hij hi hj
  obtain ⟨a, rfl⟩ := List.getElem?_eq_some_iff.1 hi
  obtain ⟨b, rfl⟩ := List.getElem?_eq_some_iff.1 hj
  have h := List.pairwise_iff_getElem.1 i1 i j a b hij
  have := tpoG.anti (putAll l)[j] (putAll l)[i]
  show 0 ≤ cmpG (putAll l)[j] (putAll l)[i]
  omega
theorem ref_out {l : List Rec} (hok : l.all okR = true) {out : List RSet} (hp : out.Perm (groups l)) (hs : Sorted out) : out = putAll l :=
  sorted_one hok hp (putAll_perm hok) hs (putAll_sorted hok)
theorem ref_E (l : List Rec) : refE l = groupE l := by
  unfold refE groupE
  cases hok : l.all okR with
  | false => simp
  | true =>
    have hp := putAll_perm hok
    have hl := hp.length_eq
    have ha : (putAll l).any big = (groups l).any big := by
      cases h : (groups l).any big with
      | true =>
        obtain ⟨s, h1, h2⟩ := List.any_eq_true.1 h
        exact List.any_eq_true.2 ⟨s, hp.mem_iff.2 h1, h2⟩
      | false =>
        cases h' : (putAll l).any big with
        | false => rfl
        | true =>
          obtain ⟨s, h1, h2⟩ := List.any_eq_true.1 h'
          rw [List.any_eq_true.2 ⟨s, hp.mem_iff.1 h1, h2⟩] at h; cases h
    rw [ha, hl]
    simp only [Bool.true_eq_false, if_false]
    split <;> split <;> rfl
def zeroS : RSet := ⟨[], 0, 0, []⟩
theorem find_one {w w' : World} {r : Value} {o : Option RSet} (h : match o with
    | some s => ∃ x, r = .tuple #[.agg #[str s.name, .int .i64 s.kind, .int .i64 s.ttl, x], .bool true] ∧ Own w.heap.size 1 9 w' x (tcells s.data)
    | none => r = .tuple #[.agg zset.toArray, .bool false]) : ∃ x, r = .tuple #[.agg #[str (o.getD zeroS).name, .int .i64 (o.getD zeroS).kind, .int .i64 (o.getD zeroS).ttl, x], .bool o.isSome] ∧ Sl 1 w' x (tcells (o.getD zeroS).data) := by
  cases o with
  | none => exact ⟨.slice none 0 0, h, Sl.nil _ _⟩
  | some s => obtain ⟨x, h1, h2⟩ := h; exact ⟨x, h1, h2.sl⟩
set_option maxHeartbeats 3000000 in
theorem p_Check1 (o : List UInt8) (v pz : Value) (l : List RSet) (s : RSet) (u : Value) (w : World) (hz : Pts w pz [str o, v]) (hv : SetsAt w v l) (hu : Sl 1 w u (tcells s.data)) (hck : checkS l = 0) : Calls Tryz.prog 87 #[.agg #[str s.name, .int .i64 s.kind, .int .i64 s.ttl, u], pz] w (RetV w (.bool (!rightR o l s))) := by
  go_enter Tryz.func87, Tryz.ntmps87
  repeat' ((fail_if_success (with_reducible refine o_s ?_)); go_step)
  refine wpl_box (vs := [str s.name, .int .i64 s.kind, .int .i64 s.ttl, u]) rfl rfl ?_
  intro ps w1 x1 hs
  refine gset ?_
  have hz1 := hz.ext x1
  repeat' (first | ((with_reducible refine o_s ?_); (first | (refine o_1 ?_; refine o_2 ?_) | (refine o_g ?_; first | refine o_u ?_ | refine o_k ?_ | refine o_n ?_ | refine o_v ?_ | ((first | refine o_G ?_ ?_ | refine o_N ?_ ?_) <;> intro hc)))) | ((fail_if_success (with_reducible refine o_s ?_)); go_step))
  refine wpl_callV (enters_of Tryz.func88 rfl rfl) rfl rfl (p_right o v l s u _ (hv.ext x1) (hu.ext x1) hck) ?_; intro w2 x2; refine gset ?_
  repeat' (first | ((with_reducible refine o_s ?_); (first | (refine o_1 ?_; refine o_2 ?_) | (refine o_g ?_; first | refine o_u ?_ | refine o_k ?_ | refine o_n ?_ | refine o_v ?_ | ((first | refine o_G ?_ ?_ | refine o_N ?_ ?_) <;> intro hc)))) | ((fail_if_success (with_reducible refine o_s ?_)); go_step))
  go_ret
  exact ⟨rfl, x1.trans x2⟩
set_option maxHeartbeats 6000000 in
theorem p_Check (o : List UInt8) (v : Value) (l : List RSet) (w : World) (hv : SetsAt w v l) (hb : ∀ s ∈ l, s.data.length ≤ 1000000) : Calls Tryz.prog 37 #[.agg #[str o, v]] w (RetV w (.int .i64 (zoneR o l))) := by
  obtain ⟨cv, hv1, hvl⟩ := hv.sl
  have hle := hv1.le
  have hb' : ∀ s ∈ l, s.data.length ≤ 8796093022208 := fun s hs => by have := hb s hs; omega
  go_enter Tryz.func37, Tryz.ntmps37
  repeat' ((fail_if_success (with_reducible refine o_s ?_)); go_step)
  refine wpl_box (vs := [str o, v]) rfl rfl ?_
  intro p w1 x1 hp
  refine gset ?_
  repeat' (first | ((with_reducible refine o_s ?_); (first | (refine o_1 ?_; refine o_2 ?_) | (refine o_g ?_; first | refine o_u ?_ | refine o_k ?_ | refine o_n ?_ | refine o_v ?_ | ((first | refine o_G ?_ ?_ | refine o_N ?_ ?_) <;> intro hc)))) | ((fail_if_success (with_reducible refine o_s ?_)); go_step))
  have c1 : ∀ w', Calls Tryz.prog 83 #[str o] w' (RetV w' (.int .i64 (checkE o))) := fun w' => t27 o w'
  have hv2 := hv.ext x1
  have c3 : ∀ w', Ext w1 w' → Calls Tryz.prog 85 #[v] w' (RetV w' (.int .i64 (checkS l))) := fun w' x' => t12 v l w' (hv2.ext x')
  refine wpq_region (by decide +kernel) (by decide +kernel) ?_
  repeat' (first | ((with_reducible refine q_s ?_); (first | (refine q_1 ?_; refine q_2 ?_) | (refine q_g ?_; first | refine q_u ?_ | refine q_k ?_ | refine q_v ?_))) | (with_reducible refine q_n ?_))
  refine wpq_call (enters_of Tryz.func83 rfl rfl) rfl rfl (fun w' _ => c1 w') ?_
  refine gset ?_
  repeat' (first | ((with_reducible refine q_s ?_); (first | (refine q_1 ?_; refine q_2 ?_) | (refine q_g ?_; first | refine q_u ?_ | refine q_k ?_ | refine q_v ?_))) | (with_reducible refine q_n ?_))
  by_cases q1 : checkE o = 0
  · rw [decide_eq_true q1]
    simp only [Bool.not_true]
    repeat' (first | ((with_reducible refine q_s ?_); (first | (refine q_1 ?_; refine q_2 ?_) | (refine q_g ?_; first | refine q_u ?_ | refine q_k ?_ | refine q_v ?_))) | (with_reducible refine q_n ?_))
    refine wpq_call (enters_of Tryz.func84 rfl rfl) rfl rfl (fun w' _ => t17 o w') ?_
    refine gset ?_
    repeat' (first | ((with_reducible refine q_s ?_); (first | (refine q_1 ?_; refine q_2 ?_) | (refine q_g ?_; first | refine q_u ?_ | refine q_k ?_ | refine q_v ?_))) | (with_reducible refine q_n ?_))
    by_cases q2 : fold o = o
    · rw [decide_eq_true q2]
      simp only [Bool.not_true]
      repeat' (first | ((with_reducible refine q_s ?_); (first | (refine q_1 ?_; refine q_2 ?_) | (refine q_g ?_; first | refine q_u ?_ | refine q_k ?_ | refine q_v ?_))) | (with_reducible refine q_n ?_))
      refine wpq_call (enters_of Tryz.func85 rfl rfl) rfl rfl (fun w' x' => c3 w' x') ?_
      refine gset ?_
      repeat' (first | ((with_reducible refine q_s ?_); (first | (refine q_1 ?_; refine q_2 ?_) | (refine q_g ?_; first | refine q_u ?_ | refine q_k ?_ | refine q_v ?_))) | (with_reducible refine q_n ?_))
      intro w2 x2
      by_cases q3 : checkS l = 0
      · rw [decide_eq_true q3]
        simp only [Bool.not_true]
        have hx2 := x1.trans x2
        have hp2 := hp.ext x2
        have hs2 := hv.ext hx2
        repeat' (first | ((with_reducible refine o_s ?_); (first | (refine o_1 ?_; refine o_2 ?_) | (refine o_g ?_; first | refine o_u ?_ | refine o_k ?_ | refine o_n ?_ | refine o_v ?_ | ((first | refine o_G ?_ ?_ | refine o_N ?_ ?_) <;> intro hc)))) | ((fail_if_success (with_reducible refine o_s ?_)); go_step))
        refine wpl_callR (enters_of Tryz.func40 rfl rfl) rfl rfl (t13 v l o 6 _ hs2 hb') ?_
        intro r3 w3 x3 hr3
        obtain ⟨y3, rfl, hy3⟩ := find_one hr3
        clear hr3
        repeat' (first | ((with_reducible refine o_s ?_); (first | (refine o_1 ?_; refine o_2 ?_) | (refine o_g ?_; first | refine o_u ?_ | refine o_k ?_ | refine o_n ?_ | refine o_v ?_ | ((first | refine o_G ?_ ?_ | refine o_N ?_ ?_) <;> intro hc)))) | ((fail_if_success (with_reducible refine o_s ?_)); go_step))
        refine wpl_allocB (z := zset) rfl (by decide +kernel) ?_
        intro w4 x4 s4 h4
        refine gset ?_
        refine wpl_storeB rfl rfl rfl h4 (show sizeTy Tryz.prog 55 4 = true by decide +kernel) rfl (all4 rfl rfl rfl (hy3.one)) ?_
        intro w5 p5
        have x5 : Ext w3 w5 := x4.move p5.mv (by rintro k ⟨⟩; exact Nat.le_refl _)
        have hx5 := hx2.trans (x3.trans x5)
        have hp5 := hp.ext (x2.trans (x3.trans x5))
        have hs5 := hv.ext hx5
        clear p5 h4 x4
        repeat' (first | ((with_reducible refine o_s ?_); (first | (refine o_1 ?_; refine o_2 ?_) | (refine o_g ?_; first | refine o_u ?_ | refine o_k ?_ | refine o_n ?_ | refine o_v ?_ | ((first | refine o_G ?_ ?_ | refine o_N ?_ ?_) <;> intro hc)))) | ((fail_if_success (with_reducible refine o_s ?_)); go_step))
        refine wpl_callR (enters_of Tryz.func40 rfl rfl) rfl rfl (t13 v l o 2 _ hs5 hb') ?_
        intro r6 w6 x6 hr6
        obtain ⟨y6, rfl, hy6⟩ := find_one hr6
        clear hr6
        repeat' (first | ((with_reducible refine o_s ?_); (first | (refine o_1 ?_; refine o_2 ?_) | (refine o_g ?_; first | refine o_u ?_ | refine o_k ?_ | refine o_n ?_ | refine o_v ?_ | ((first | refine o_G ?_ ?_ | refine o_N ?_ ?_) <;> intro hc)))) | ((fail_if_success (with_reducible refine o_s ?_)); go_step))
        refine wpl_allocB (z := zset) rfl (by decide +kernel) ?_
        intro w7 x7 s7 h7
        refine gset ?_
        refine wpl_storeB rfl rfl rfl h7 (show sizeTy Tryz.prog 55 4 = true by decide +kernel) rfl (all4 rfl rfl rfl (hy6.one)) ?_
        intro w8 p8
        have x8 : Ext w6 w8 := x7.move p8.mv (by rintro k ⟨⟩; exact Nat.le_refl _)
        have hx8 := hx5.trans (x6.trans x8)
        have hp8 := hp5.ext (x6.trans x8)
        have hs8 := hv.ext hx8
        clear p8 h7 x7
        cases f6 : (findS l o 6).isSome with
        | false =>
          repeat' (first | ((with_reducible refine o_s ?_); (first | (refine o_1 ?_; refine o_2 ?_) | (refine o_g ?_; first | refine o_u ?_ | refine o_k ?_ | refine o_n ?_ | refine o_v ?_ | ((first | refine o_G ?_ ?_ | refine o_N ?_ ?_) <;> intro hc)))) | ((fail_if_success (with_reducible refine o_s ?_)); go_step))
          go_ret
          exact ⟨by rw [show zoneR o l = 2 by simp [zoneR, q1, q2, q3, f6]]; rfl, hx8⟩
        | true =>
          cases f2 : (findS l o 2).isSome with
          | false =>
            repeat' (first | ((with_reducible refine o_s ?_); (first | (refine o_1 ?_; refine o_2 ?_) | (refine o_g ?_; first | refine o_u ?_ | refine o_k ?_ | refine o_n ?_ | refine o_v ?_ | ((first | refine o_G ?_ ?_ | refine o_N ?_ ?_) <;> intro hc)))) | ((fail_if_success (with_reducible refine o_s ?_)); go_step))
            go_ret
            exact ⟨by rw [show zoneR o l = 2 by simp [zoneR, q1, q2, q3, f6, f2]]; rfl, hx8⟩
          | true =>
            repeat' (first | ((with_reducible refine o_s ?_); (first | (refine o_1 ?_; refine o_2 ?_) | (refine o_g ?_; first | refine o_u ?_ | refine o_k ?_ | refine o_n ?_ | refine o_v ?_ | ((first | refine o_G ?_ ?_ | refine o_N ?_ ?_) <;> intro hc)))) | ((fail_if_success (with_reducible refine o_s ?_)); go_step))
            have hf : SetFn w8 87 #[p] l (fun s => !rightR o l s) := fun s _ x w' hx' hd' => p_Check1 o v p l s x w' (hp8.ext hx') (hs8.ext hx') hd' q3
            refine wpl_callV (enters_of Tryz.func86 rfl rfl) rfl rfl (p_ContainsFunc v l 87 #[p] (fun s => !rightR o l s) _ hs8 (enters_of Tryz.func87 rfl rfl) hf) ?_; intro w9 x9; refine gset ?_
            cases ha : l.any (fun s => !rightR o l s) with
            | true =>
              repeat' (first | ((with_reducible refine o_s ?_); (first | (refine o_1 ?_; refine o_2 ?_) | (refine o_g ?_; first | refine o_u ?_ | refine o_k ?_ | refine o_n ?_ | refine o_v ?_ | ((first | refine o_G ?_ ?_ | refine o_N ?_ ?_) <;> intro hc)))) | ((fail_if_success (with_reducible refine o_s ?_)); go_step))
              go_ret
              exact ⟨by rw [show zoneR o l = 2 by simp only [zoneR, q1, q2, q3, f6, f2, ha]; simp]; rfl, hx8.trans x9⟩
            | false =>
              repeat' (first | ((with_reducible refine o_s ?_); (first | (refine o_1 ?_; refine o_2 ?_) | (refine o_g ?_; first | refine o_u ?_ | refine o_k ?_ | refine o_n ?_ | refine o_v ?_ | ((first | refine o_G ?_ ?_ | refine o_N ?_ ?_) <;> intro hc)))) | ((fail_if_success (with_reducible refine o_s ?_)); go_step))
              go_ret
              exact ⟨by rw [show zoneR o l = 0 by simp only [zoneR, q1, q2, q3, f6, f2, ha]; simp]; rfl, hx8.trans x9⟩
      · rw [decide_eq_false q3]
        simp only [Bool.not_false]
        repeat' (first | ((with_reducible refine o_s ?_); (first | (refine o_1 ?_; refine o_2 ?_) | (refine o_g ?_; first | refine o_u ?_ | refine o_k ?_ | refine o_n ?_ | refine o_v ?_ | ((first | refine o_G ?_ ?_ | refine o_N ?_ ?_) <;> intro hc)))) | ((fail_if_success (with_reducible refine o_s ?_)); go_step))
        go_ret
        exact ⟨by rw [show zoneR o l = 1 by simp [zoneR, q3]]; rfl, x1.trans x2⟩
    · rw [decide_eq_false q2]
      simp only [Bool.not_false]
      repeat' (first | ((with_reducible refine q_s ?_); (first | (refine q_1 ?_; refine q_2 ?_) | (refine q_g ?_; first | refine q_u ?_ | refine q_k ?_ | refine q_v ?_))) | (with_reducible refine q_n ?_))
      intro w2 x2
      repeat' (first | ((with_reducible refine o_s ?_); (first | (refine o_1 ?_; refine o_2 ?_) | (refine o_g ?_; first | refine o_u ?_ | refine o_k ?_ | refine o_n ?_ | refine o_v ?_ | ((first | refine o_G ?_ ?_ | refine o_N ?_ ?_) <;> intro hc)))) | ((fail_if_success (with_reducible refine o_s ?_)); go_step))
      go_ret
      exact ⟨by rw [show zoneR o l = 1 by simp [zoneR, q2]]; rfl, x1.trans x2⟩
  · rw [decide_eq_false q1]
    simp only [Bool.not_false]
    repeat' (first | ((with_reducible refine q_s ?_); (first | (refine q_1 ?_; refine q_2 ?_) | (refine q_g ?_; first | refine q_u ?_ | refine q_k ?_ | refine q_v ?_))) | (with_reducible refine q_n ?_))
    intro w2 x2
    repeat' (first | ((with_reducible refine o_s ?_); (first | (refine o_1 ?_; refine o_2 ?_) | (refine o_g ?_; first | refine o_u ?_ | refine o_k ?_ | refine o_n ?_ | refine o_v ?_ | ((first | refine o_G ?_ ?_ | refine o_N ?_ ?_) <;> intro hc)))) | ((fail_if_success (with_reducible refine o_s ?_)); go_step))
    go_ret
    exact ⟨by rw [show zoneR o l = 1 by simp [zoneR, q1]]; rfl, x1.trans x2⟩
def zzone : List Value := [str [], .slice none 0 0]
theorem textS_mem {s x : List UInt8} : ∀ {l : List (List UInt8)}, x ∈ textS s l → x = s ∨ x ∈ l
  | [], h => by simp [textS] at h; exact .inl h
  | y :: l, h => by
    unfold textS at h
    split at h
    · rcases List.mem_cons.1 h with rfl | h
      · exact .inr (by simp)
      · rcases textS_mem h with h | h
        · exact .inl h
        · exact .inr (by simp [h])
    · split at h
      · exact .inr h
      · rcases List.mem_cons.1 h with rfl | h
        · exact .inl rfl
        · exact .inr h
theorem putS_mem {r : Rec} : ∀ {gs : List RSet} {s : RSet} {d : List UInt8}, s ∈ putS r gs → d ∈ s.data → d = r.data ∨ ∃ t ∈ gs, d ∈ t.data
  | [], s, d, h, hd => by
    have : s = recSet r := by simpa [putS] using h
    subst this
    exact .inl (by simpa [recSet] using hd)
  | g :: gs, s, d, h, hd => by
    rw [putS] at h
    split at h
    · rcases List.mem_cons.1 h with rfl | h
      · exact .inr ⟨s, by simp, hd⟩
      · rcases putS_mem h hd with h | ⟨t, ht, h⟩
        · exact .inl h
        · exact .inr ⟨t, by simp [ht], h⟩
    · split at h
      · rcases List.mem_cons.1 h with rfl | h
        · exact .inl (by simpa [recSet] using hd)
        · exact .inr ⟨s, h, hd⟩
      · rcases List.mem_cons.1 h with rfl | h
        · rcases textS_mem hd with h | h
          · exact .inl h
          · exact .inr ⟨g, by simp, h⟩
        · exact .inr ⟨s, by simp [h], hd⟩
theorem putAll_mem {l : List Rec} : ∀ k, k ≤ l.length → ∀ s ∈ putAll (l.take k), ∀ d ∈ s.data, ∃ r ∈ l, d = r.data
  | 0, _, s, hs, _, _ => by simp [putAll] at hs
  | k + 1, h, s, hs, d, hd => by
    rw [putAll_succ (show k < l.length by omega)] at hs
    rcases putS_mem hs hd with h1 | ⟨t, ht, h1⟩
    · exact ⟨_, List.getElem_mem _, h1⟩
    · exact putAll_mem k (by omega) t ht d h1
theorem putAll_data {l : List Rec} {s : RSet} (hs : s ∈ putAll l) {d : List UInt8} (hd : d ∈ s.data) : ∃ r ∈ l, d = r.data :=
  putAll_mem l.length (Nat.le_refl _) s (by rw [List.take_length]; exact hs) d hd
theorem putAll_len (l : List Rec) : ∀ s ∈ putAll l, s.data.length ≤ l.length := by
  have := (putAll_bounds l l.length (Nat.le_refl _)).2
  rwa [List.take_length] at this
def loadE (o : List UInt8) (l : List Rec) : Int := if refE l = 0 then zoneR (fold o) (putAll l) else refE l
def loadO (o : List UInt8) (l : List Rec) : List UInt8 := if loadE o l = 0 then fold o else []
def loadL (o : List UInt8) (l : List Rec) : List RSet := if loadE o l = 0 then putAll l else []
def LoadU (B : Nat) (o : List UInt8) (l : List Rec) (r : Value) (w' : World) : Prop :=
  ∃ v, r = .tuple #[.agg #[str (loadO o l), v], .int .i64 (loadE o l)] ∧ SetsO B w' v (loadL o l)
theorem LoadU.bad {B : Nat} {o : List UInt8} {l : List Rec} {e : Int} {w' : World} (h : loadE o l = e) (he : e ≠ 0) : LoadU B o l (.tuple #[.agg zzone.toArray, .int .i64 e]) w' := by
  refine ⟨.slice none 0 0, ?_, ?_⟩
  · rw [h, loadO, if_neg (by rw [h]; exact he)]; rfl
  · rw [loadL, if_neg (by rw [h]; exact he)]; exact SetsO.nil _ _
theorem LoadU.good {B : Nat} {o : List UInt8} {l : List Rec} {v : Value} {w' : World} (h : loadE o l = 0) (hv : SetsO B w' v (putAll l)) : LoadU B o l (.tuple #[.agg #[str (fold o), v], .int .i64 0]) w' := by
  refine ⟨v, ?_, ?_⟩
  · rw [loadO, if_pos h, h]
  · rw [loadL, if_pos h]; exact hv
def GroupU (B : Nat) (l : List Rec) (r : Value) (w' : World) : Prop := ∃ v, r = .tuple #[v, .int .i64 (refE l)] ∧ (refE l = 0 → SetsO B w' v (putAll l))
theorem RefR.uni {B : Nat} {l : List Rec} {r : Value} {w' : World} (h : RefR B l r w') : GroupU B l r w' := by
  unfold RefR at h
  split at h
  · rename_i h0
    obtain ⟨v, rfl, hv⟩ := h
    exact ⟨v, by rw [h0], fun _ => hv⟩
  · rename_i h0
    exact ⟨_, h, fun h1 => absurd h1 h0⟩
theorem GroupO.uni {B : Nat} {l : List Rec} {r : Value} {w' : World} (h : GroupO B l r w') : GroupU B l r w' := by
  unfold GroupO at h
  rw [← ref_E] at h
  split at h
  · rename_i h0
    obtain ⟨out, v, rfl, hp, hs, hv⟩ := h
    have hok : l.all okR = true := by
      cases hok : l.all okR with
      | true => rfl
      | false => rw [refE, if_pos hok] at h0; cases h0
    have e := ref_out hok hp hs
    exact ⟨v, by rw [h0], fun _ => by rw [← e]; exact hv⟩
  · rename_i h0
    exact ⟨_, h, fun h1 => absurd h1 h0⟩
theorem zone_one {o : List UInt8} {v : Value} (h : v.oneCell' = true) : (Value.agg #[str o, v]).cells.all (·.oneCell') = true := by
  simp [Value.cells, h, show (str o).oneCell' = true from rfl]
set_option maxHeartbeats 3000000 in
theorem p_Load (o : List UInt8) (v : Value) (l : List Rec) (w : World) (hv : Sl 4 w v (rcells l)) (hl : l.length ≤ 10000) (hd : ∀ r ∈ l, r.data.length ≤ 4611686018427387904) : Calls Tryz.prog 64 #[str o, v] w (Ret w (LoadU w.heap.size o l)) := by
  have hb : ∀ s ∈ putAll l, s.data.length ≤ 1000000 := fun s hs => by have := putAll_len l s hs; omega
  have hd2 : ∀ s ∈ putAll l, ∀ d ∈ s.data, d.length ≤ 4611686018427387904 := fun s hs d hd3 => by
    obtain ⟨r, hr, rfl⟩ := putAll_data hs hd3
    exact hd r hr
  go_enter Tryz.func64, Tryz.ntmps64
  repeat' ((fail_if_success (with_reducible refine o_s ?_)); go_step)
  refine wpl_allocB (z := zzone) rfl (by decide +kernel) ?_
  intro w1 x1 s1 h1
  refine gset ?_
  have hv1 := hv.ext x1
  repeat' (first | ((with_reducible refine o_s ?_); (first | (refine o_1 ?_; refine o_2 ?_) | (refine o_g ?_; first | refine o_u ?_ | refine o_k ?_ | refine o_n ?_ | refine o_v ?_ | ((first | refine o_G ?_ ?_ | refine o_N ?_ ?_) <;> intro hc)))) | ((fail_if_success (with_reducible refine o_s ?_)); go_step))
  refine wpl_callR (enters_of Tryz.func107 rfl rfl) rfl rfl (t9o v l _ hv1 hl) ?_
  intro r w2 x2 hr
  obtain ⟨y, rfl, hy⟩ := hr.uni
  clear hr
  have h2 := x2.at h1
  have hx2 := x1.trans x2
  by_cases hE : refE l = 0
  · have hy := hy hE
    have hLE : loadE o l = zoneR (fold o) (putAll l) := by rw [loadE, if_pos hE]
    rw [hE]
    obtain ⟨ya, yn, yc, hys⟩ : ∃ a n c, y = .slice a n c := by obtain ⟨css, h, _⟩ := hy; exact h.slf
    repeat' (first | ((with_reducible refine o_s ?_); (first | (refine o_1 ?_; refine o_2 ?_) | (refine o_g ?_; first | refine o_u ?_ | refine o_k ?_ | refine o_n ?_ | refine o_v ?_ | ((first | refine o_G ?_ ?_ | refine o_N ?_ ?_) <;> intro hc)))) | ((fail_if_success (with_reducible refine o_s ?_)); go_step))
    refine wpl_callV (enters_of Tryz.func84 rfl rfl) rfl rfl (t17 o _) ?_; intro w3 x3; refine gset ?_
    have h3 := x3.at h2
    have hx3 := hx2.trans x3
    have hy3 := hy.ext x3
    repeat' (first | ((with_reducible refine o_s ?_); (first | (refine o_1 ?_; refine o_2 ?_) | (refine o_g ?_; first | refine o_u ?_ | refine o_k ?_ | refine o_n ?_ | refine o_v ?_ | ((first | refine o_G ?_ ?_ | refine o_N ?_ ?_) <;> intro hc)))) | ((fail_if_success (with_reducible refine o_s ?_)); go_step))
    refine wpl_run (v := .agg #[str (fold o), y]) rfl (Runs.build (vals := [(0, str (fold o)), (1, y)]) rfl (by rw [hys]; kernel_rfl)) ?_
    refine gset ?_
    refine wpl_allocB (z := zzone) rfl (by decide +kernel) ?_
    intro w4 x4 s4 h4
    refine gset ?_
    have hy1 : y.oneCell' = true := by rw [hys]; rfl
    refine wpl_storeB (v := .agg #[str (fold o), y]) rfl rfl rfl h4 (show sizeTy Tryz.prog 25 2 = true by decide +kernel) rfl (zone_one hy1) ?_
    intro w5 p5
    have x5 : Ext w3 w5 := x4.move p5.mv (by rintro k ⟨⟩; exact Nat.le_refl _)
    have h5 := pts_block (cs := [str (fold o), y]) p5.this
    have hx5 := hx3.trans x5
    have hy5 := hy3.ext x5
    have hz5 := x5.at h3
    clear p5 h4 x4
    repeat' (first | ((with_reducible refine o_s ?_); (first | (refine o_1 ?_; refine o_2 ?_) | (refine o_g ?_; first | refine o_u ?_ | refine o_k ?_ | refine o_n ?_ | refine o_v ?_ | ((first | refine o_G ?_ ?_ | refine o_N ?_ ?_) <;> intro hc)))) | ((fail_if_success (with_reducible refine o_s ?_)); go_step))
    refine wpl_callV (enters_of Tryz.func37 rfl rfl) rfl rfl (p_Check (fold o) y (putAll l) _ hy5.sets hb) ?_; intro w6 x6; refine gset ?_
    have h6 := h5.ext x6
    have hx6 := hx5.trans x6
    have hy6 := hy5.ext x6
    have hz6 := x6.at hz5
    repeat' (first | ((with_reducible refine o_s ?_); (first | (refine o_1 ?_; refine o_2 ?_) | (refine o_g ?_; first | refine o_u ?_ | refine o_k ?_ | refine o_n ?_ | refine o_v ?_ | ((first | refine o_G ?_ ?_ | refine o_N ?_ ?_) <;> intro hc)))) | ((fail_if_success (with_reducible refine o_s ?_)); go_step))
    · have q : ¬ zoneR (fold o) (putAll l) = 0 := by simpa using (by assumption : (!decide (zoneR (fold o) (putAll l) = 0)) = true)
      refine wpl_run (v := .agg zzone.toArray) rfl (Runs.build0 (by kernel_rfl)) ?_
      refine gset ?_
      repeat' (first | ((with_reducible refine o_s ?_); (first | (refine o_1 ?_; refine o_2 ?_) | (refine o_g ?_; first | refine o_u ?_ | refine o_k ?_ | refine o_n ?_ | refine o_v ?_ | ((first | refine o_G ?_ ?_ | refine o_N ?_ ?_) <;> intro hc)))) | ((fail_if_success (with_reducible refine o_s ?_)); go_step))
      refine wpl_storeB (v := .agg zzone.toArray) rfl rfl rfl hz6 (by decide +kernel) rfl (by decide +kernel) ?_
      intro w7 p7
      have x7 : Ext w w7 := hx6.move p7.mv (by rintro k ⟨⟩; exact Nat.le_refl _)
      repeat' (first | ((with_reducible refine o_s ?_); (first | (refine o_1 ?_; refine o_2 ?_) | (refine o_g ?_; first | refine o_u ?_ | refine o_k ?_ | refine o_n ?_ | refine o_v ?_ | ((first | refine o_G ?_ ?_ | refine o_N ?_ ?_) <;> intro hc)))) | ((fail_if_success (with_reducible refine o_s ?_)); go_step))
      refine bodyPost_ret (results_cellT (cs := zzone) rfl rfl p7.this (by decide +kernel)) rfl ⟨_, rfl, x7, ?_⟩
      exact LoadU.bad hLE q
    · have q : zoneR (fold o) (putAll l) = 0 := by simpa using (by assumption : (!decide (zoneR (fold o) (putAll l) = 0)) = false)
      refine wpl_storeB (v := .agg #[str (fold o), y]) rfl rfl rfl hz6 (show sizeTy Tryz.prog 25 2 = true by decide +kernel) rfl (zone_one hy1) ?_
      intro w7 p7
      have x7 : Ext w w7 := hx6.move p7.mv (by rintro k ⟨⟩; exact Nat.le_refl _)
      have hy7 := hy6.put p7 (by have := s1; omega)
      repeat' (first | ((with_reducible refine o_s ?_); (first | (refine o_1 ?_; refine o_2 ?_) | (refine o_g ?_; first | refine o_u ?_ | refine o_k ?_ | refine o_n ?_ | refine o_v ?_ | ((first | refine o_G ?_ ?_ | refine o_N ?_ ?_) <;> intro hc)))) | ((fail_if_success (with_reducible refine o_s ?_)); go_step))
      refine bodyPost_ret (results_cellT (cs := [str (fold o), y]) rfl rfl p7.this (show aggTy Tryz.prog 25 2 = true by decide +kernel)) rfl ⟨_, rfl, x7, ?_⟩
      exact LoadU.good (by rw [hLE, q]) (hy7.weaken x1.size)
  · have hLE : loadE o l = refE l := by rw [loadE, if_neg hE]
    repeat' (first | ((with_reducible refine o_s ?_); (first | (refine o_1 ?_; refine o_2 ?_) | (refine o_g ?_; first | refine o_u ?_ | refine o_k ?_ | refine o_n ?_ | refine o_v ?_ | ((first | refine o_G ?_ ?_ | refine o_N ?_ ?_) <;> intro hc)))) | ((fail_if_success (with_reducible refine o_s ?_)); go_step))
    · refine wpl_run (v := .agg zzone.toArray) rfl (Runs.build0 (by kernel_rfl)) ?_
      refine gset ?_
      repeat' (first | ((with_reducible refine o_s ?_); (first | (refine o_1 ?_; refine o_2 ?_) | (refine o_g ?_; first | refine o_u ?_ | refine o_k ?_ | refine o_n ?_ | refine o_v ?_ | ((first | refine o_G ?_ ?_ | refine o_N ?_ ?_) <;> intro hc)))) | ((fail_if_success (with_reducible refine o_s ?_)); go_step))
      refine wpl_storeB (v := .agg zzone.toArray) rfl rfl rfl h2 (by decide +kernel) rfl (by decide +kernel) ?_
      intro w3 p3
      have x3 : Ext w w3 := hx2.move p3.mv (by rintro k ⟨⟩; exact Nat.le_refl _)
      repeat' (first | ((with_reducible refine o_s ?_); (first | (refine o_1 ?_; refine o_2 ?_) | (refine o_g ?_; first | refine o_u ?_ | refine o_k ?_ | refine o_n ?_ | refine o_v ?_ | ((first | refine o_G ?_ ?_ | refine o_N ?_ ?_) <;> intro hc)))) | ((fail_if_success (with_reducible refine o_s ?_)); go_step))
      refine bodyPost_ret (results_cellT (cs := zzone) rfl rfl p3.this (by decide +kernel)) rfl ⟨_, rfl, x3, ?_⟩
      exact LoadU.bad hLE hE
    · exact absurd (by assumption : (!decide (refE l = 0)) = false) (by simp [hE])
theorem flatten_setF {k : Nat} {c : Value} : ∀ (es : List (List Value)) (i j : Nat) (e : List Value), (∀ x ∈ es, x.length = k) → es[i]? = some e → j < k → (es.set i (e.set j c)).flatten = es.flatten.set (i * k + j) c
  | [], i, _, _, _, hi, _ => by simp at hi
  | x :: es, 0, j, e, hall, hi, hj => by
    have hx := hall x (by simp)
    cases hi
    simp only [List.set_cons_zero, List.flatten_cons, Nat.zero_mul, Nat.zero_add]
    rw [List.set_append_left _ _ (by omega)]
  | x :: es, i + 1, j, e, hall, hi, hj => by
    have hx := hall x (by simp)
    simp only [List.set_cons_succ, List.flatten_cons]
    rw [flatten_setF es i j e (fun y hy => hall y (by simp [hy])) (by simpa using hi) hj]
    rw [List.set_append_right _ _ (by rw [Nat.add_mul]; omega), show (i + 1) * k + j - x.length = i * k + j by rw [hx, Nat.add_mul]; omega]
theorem Own.storeF {P : Program} {B k e : Nat} {w : World} {v : Value} {es : List (List Value)} {t : TypeId} {i j : Nat} {ce : List Value} {c : Value} (h : Own B k e w v es) (hi : es[i]? = some ce) (hj : j < k) (hs : sizeTy P t 1 = true) (h1 : c.oneCell' = true) :
    ∃ w' b o, partPtr (elemPtr v (i * k)) j = .pointer (some ⟨b, o, none⟩) ∧ (storeVar t ⟨b, o, none⟩ c).run P w = .ok () w' ∧ Own B k e w' v (es.set i (ce.set j c)) ∧ Mv v.ownBlock w w' := by
  have hil := (List.getElem?_eq_some_iff.1 hi).1
  have hce : ce.length = k := h.each ce (List.mem_of_getElem? hi)
  have hcc : c.cells = #[c] := by cases c <;> first | rfl | cases h1
  rcases h.row.2 with ⟨rfl, h0⟩ | ⟨g, cap, cur, fz, rfl, hb, hg, hfz, hnc, hcm, hcs, htake⟩
  · omega
  · have hl := length_flatten_of h.each
    have hik : i * k + k ≤ es.length * k := by
      have : (i + 1) * k ≤ es.length * k := Nat.mul_le_mul_right k hil
      rwa [Nat.add_mul, Nat.one_mul] at this
    have hck : es.length * k ≤ cap * k := Nat.mul_le_mul_right k hnc
    have hst := run_storeCells_G P g (i * k + j) e fz [c] 0 cur w hg hfz (by simp; omega) (by simpa using h1)
    simp only [Nat.add_zero, List.length_cons, List.length_nil, Nat.zero_add] at hst
    have hset : cur.toList.take (i * k + j) ++ [c] ++ cur.toList.drop (i * k + j + 1) = cur.toList.set (i * k + j) c := by
      rw [List.set_eq_take_append_cons_drop, if_pos (by simp; omega)]; simp
    rw [hset] at hst
    obtain ⟨ti, hq, hsz⟩ := info_of (sizeTy_spec hs)
    have hall : ∀ x ∈ es.set i (ce.set j c), x.length = k := by
      intro x hx
      rcases List.mem_or_eq_of_mem_set hx with hx | rfl
      · exact h.each x hx
      · simpa using hce
    refine ⟨w.setRow g (cur.toList.set (i * k + j) c).toArray, g, i * k + j, by simp [elemPtr, partPtr, add_none], ?_, ⟨⟨?_, .inr ⟨g, cap, (cur.toList.set (i * k + j) c).toArray, fz, ?_, hb, setRow_heap w g cur _ e _ hg, ?_, ?_, hcm, ?_, ?_⟩⟩, hall⟩, ⟨rfl, rfl, rfl, by simp, fun k _ hk => setRow_other w g k _ (fun e => hk (by simp [Value.ownBlock, e])), Nat.le_refl _⟩⟩
    · simpa [storeVar, sizeOf, typeInfo, hq, hsz, hcc] using hst
    · rw [length_flatten_of hall]
    · simp
    · simpa using hfz
    · simpa using hnc
    · simpa using hcs
    · rw [flatten_setF es i j ce h.each hi hj, ← htake]
      simp only [List.length_set, List.take_set]
section
variable {P : Program} {ops : Array Oper} {Q : Exit → Act → World → Prop} {w : World} {rest : List Oper} {ts : List Value} {df : List Deferred} {ty : TypeId} {ps : String} {af : Array Edge} {g : Option (Nat × Bool)}
theorem wpl_storeEF {B k e : Nat} {v c : Value} {es : List (List Value)} {ce : List Value} {t ty2 : TypeId} {x y : Operand} {i j : Nat} (hw : Region.wanted (Oper.mk none (.store t x y) ty2 ps af g) (yielded ops ts.toArray) = true)
    (hx : (Act.mk ts.toArray df).eval x = partPtr (elemPtr v (i * k)) j) (hy : (Act.mk ts.toArray df).eval y = c) (h : Own B k e w v es) (hi : es[i]? = some ce) (hj : j < k) (hs : sizeTy P t 1 = true) (h1 : c.oneCell' = true)
    (hk : ∀ w', Own B k e w' v (es.set i (ce.set j c)) → Mv v.ownBlock w w' → wpList P ops Q rest (Act.mk ts.toArray df) w') : wpList P ops Q (Oper.mk none (.store t x y) ty2 ps af g :: rest) (Act.mk ts.toArray df) w := by
  obtain ⟨w', b, o, he, hr, ho, hm⟩ := h.storeF (P := P) hi hj hs h1
  refine wpl_skipper hw (w' := w') ?_ (hk w' ho hm)
  simp [execOp, hx, hy, he, Instr.storeAt, Instr.sureAddr, hr]
end
structure SetsW (B : Nat) (w : World) (css : List (List Value)) (l : List RSet) : Prop where
  len : css.length = l.length
  at' : ∀ (i : Nat) (s : RSet), l[i]? = some s → ∃ x, css[i]? = some [str s.name, .int .i64 s.kind, .int .i64 s.ttl, x] ∧ Own B 1 9 w x (tcells s.data)
theorem SetsW.sets {B : Nat} {w : World} {css : List (List Value)} {l : List RSet} (h : SetsW B w css l) : SetsC w css l :=
  ⟨h.len, fun i s hi => let ⟨x, a, b⟩ := h.at' i s hi; ⟨x, a, b.sl⟩⟩
theorem SetsW.ext {B : Nat} {w w' : World} {css : List (List Value)} {l : List RSet} (h : SetsW B w css l) (hx : Ext w w') : SetsW B w' css l :=
  ⟨h.len, fun i s hi => let ⟨x, a, b⟩ := h.at' i s hi; ⟨x, a, b.ext hx⟩⟩
theorem SetsW.mv {B B' k' e' : Nat} {w w' : World} {css : List (List Value)} {l : List RSet} {v : Value} {es : List (List Value)} (h : SetsW B w css l) (ho : Own B' k' e' w v es) (he : 9 ≠ e') (hm : Mv v.ownBlock w w') : SetsW B w' css l :=
  ⟨h.len, fun i s hi => let ⟨x, a, b⟩ := h.at' i s hi; ⟨x, a, b.mv hm (b.ne ho he)⟩⟩
theorem SetsW.put {B b t : Nat} {w w' : World} {css : List (List Value)} {l : List RSet} {cs : Array Value} {fz : Nat × Nat} {o : Obj} (h : SetsW B w css l) (hb : w.heap[b]? = some (.cells cs t fz)) (ht : t ≠ 9) (hp : Put w w' b o) : SetsW B w' css l :=
  ⟨h.len, fun i s hi => let ⟨x, a, c⟩ := h.at' i s hi; ⟨x, a, c.mv hp.mv (.inr (c.neBlock hb ht))⟩⟩
theorem SetsW.weaken {B C : Nat} {w : World} {css : List (List Value)} {l : List RSet} (h : SetsW B w css l) (hc : C ≤ B) : SetsW C w css l :=
  ⟨h.len, fun i s hi => let ⟨x, a, b⟩ := h.at' i s hi; ⟨x, a, b.weaken hc⟩⟩
theorem SetsW.append {B : Nat} {w : World} {l m : List RSet} {c d : List (List Value)} (h : SetsW B w c l) (k : SetsW B w d m) : SetsW B w (c ++ d) (l ++ m) := by
  refine ⟨by rw [List.length_append, List.length_append, h.len, k.len], fun i s hi => ?_⟩
  rw [List.getElem?_append] at hi ⊢
  rw [h.len]
  split at hi
  · rw [if_pos ‹_›]; exact h.at' i s hi
  · rw [if_neg ‹_›]; exact k.at' _ s hi
theorem SetsW.one {B : Nat} {w : World} {s : RSet} {x : Value} (h : Own B 1 9 w x (tcells s.data)) : SetsW B w [[str s.name, .int .i64 s.kind, .int .i64 s.ttl, x]] [s] :=
  ⟨rfl, fun i t hi => by
    match i, hi with
    | 0, hi => cases hi; exact ⟨x, rfl, h⟩⟩
theorem SetsW.nil (B : Nat) (w : World) : SetsW B w [] [] := ⟨rfl, by simp⟩
theorem SetsW.from' {B C : Nat} {w : World} {css : List (List Value)} {l : List RSet} (h : SetsW B w css l) (hc : C ≤ B) : FromC C css := by
  intro f hf u hu
  obtain ⟨i, hi, rfl⟩ := List.mem_iff_getElem.1 hf
  obtain ⟨x, h1, h2⟩ := h.at' i _ (List.getElem?_eq_getElem (by rw [← h.len]; exact hi))
  rw [List.getElem?_eq_getElem hi] at h1
  rw [Option.some.inj h1] at hu
  exact (FromC.one (h2.from' hc)) _ (List.mem_singleton.2 rfl) u hu
structure SetsV (B : Nat) (w : World) (v : Value) (l : List RSet) : Prop where
  out : ∃ css, Own B 4 55 w v css ∧ SetsW B w css l
theorem SetsV.toO {B C : Nat} {w : World} {v : Value} {l : List RSet} (h : SetsV B w v l) (hc : C ≤ B) : SetsO C w v l := by
  obtain ⟨css, h1, h2⟩ := h
  exact ⟨css, h1.sl, h1.from' hc, h2.sets, h2.from' hc⟩
theorem SetsV.ext {B : Nat} {w w' : World} {v : Value} {l : List RSet} (h : SetsV B w v l) (hx : Ext w w') : SetsV B w' v l := by
  obtain ⟨css, h1, h2⟩ := h
  exact ⟨css, h1.ext hx, h2.ext hx⟩
theorem SetsV.weaken {B C : Nat} {w : World} {v : Value} {l : List RSet} (h : SetsV B w v l) (hc : C ≤ B) : SetsV C w v l := by
  obtain ⟨css, h1, h2⟩ := h
  exact ⟨css, h1.weaken hc, h2.weaken hc⟩
theorem SetsV.put {B b t : Nat} {w w' : World} {v : Value} {l : List RSet} {cs : Array Value} {fz : Nat × Nat} {o : Obj} (h : SetsV B w v l) (hb : w.heap[b]? = some (.cells cs t fz)) (ht : t ≠ 9) (ht2 : t ≠ 55) (hp : Put w w' b o) : SetsV B w' v l := by
  obtain ⟨css, h1, h2⟩ := h
  exact ⟨css, h1.mv hp.mv (.inr (h1.neBlock hb ht2)), h2.put hb ht hp⟩
theorem SetsV.slf {B : Nat} {w : World} {v : Value} {l : List RSet} (h : SetsV B w v l) : ∃ a n c, v = .slice a n c := by
  obtain ⟨css, h1, h2⟩ := h
  exact h1.sl.slf
set_option maxHeartbeats 6000000 in
theorem r7_Copies (v : Value) (l : List RSet) (w : World) (hv : SetsAt w v l) (hl : l.length ≤ 100000) (hb : ∀ s ∈ l, s.data.length ≤ 1000000) : Calls Tryz.prog 73 #[v] w (Ret w fun r w' => SetsV w.heap.size w' r l) := by
  obtain ⟨cv, hv1, hvl⟩ := hv.sl
  have hle := hv1.le
  go_enter Tryz.func73, Tryz.ntmps73
  repeat' (first | ((with_reducible refine o_s ?_); (first | (refine o_1 ?_; refine o_2 ?_) | (refine o_g ?_; first | refine o_u ?_ | refine o_k ?_ | refine o_n ?_ | refine o_v ?_ | ((first | refine o_G ?_ ?_ | refine o_N ?_ ?_) <;> intro hc)))) | ((fail_if_success (with_reducible refine o_s ?_)); go_step))
  go_loopw [3, 4] (fun o i wr => ∃ (k : Nat) (css : List (List Value)), k ≤ l.length ∧ i = .int .i64 k ∧ Ext w wr ∧ Own w.heap.size 4 55 wr o css ∧ SetsW w.heap.size wr css (l.take k)) (fun _ i _ => l.length - (intOf i).toNat)
  case atStart => exact ⟨0, [], Nat.zero_le _, rfl, Ext.refl _, Own.nil _ _ _ _, SetsW.nil _ _⟩
  case round =>
    obtain ⟨k, css, hk, rfl, hx, ho, hs⟩ := hrel
    have hv2 := hv1.ext hx
    have hsl := hs.len
    rw [List.length_take] at hsl
    by_cases hlt : k < l.length
    · obtain ⟨x, h4, h4d⟩ := (hv.ext hx).elem (List.getElem?_eq_getElem hlt)
      repeat' (first | ((with_reducible refine o_s ?_); (first | (refine o_1 ?_; refine o_2 ?_) | (refine o_g ?_; first | refine o_u ?_ | refine o_k ?_ | refine o_n ?_ | refine o_v ?_ | ((first | refine o_G ?_ ?_ | refine o_N ?_ ?_) <;> intro hc)))) | ((fail_if_success (with_reducible refine o_s ?_)); go_step))
      refine wpl_callR (enters_of Tryz.func97 rfl rfl) rfl rfl (r7_Copy l[k] x _ h4d (hb _ (List.getElem_mem hlt))) ?_
      intro r2 w2 x2 hr2
      obtain ⟨y, rfl, oy⟩ := hr2
      have hx2 := hx.trans x2
      have ho2 := ho.ext x2
      have hs2 := hs.ext x2
      have oy := oy.weaken hx.size
      refine gset ?_
      repeat' (first | ((with_reducible refine o_s ?_); (first | (refine o_1 ?_; refine o_2 ?_) | (refine o_g ?_; first | refine o_u ?_ | refine o_k ?_ | refine o_n ?_ | refine o_v ?_ | ((first | refine o_G ?_ ?_ | refine o_N ?_ ?_) <;> intro hc)))) | ((fail_if_success (with_reducible refine o_s ?_)); go_step))
      refine ap1 [str l[k].name, .int .i64 l[k].kind, .int .i64 l[k].ttl, y] hx2 ho2 (by omega) ?_ (by exact ⟨rfl, rfl, rfl, by intro u hu; simp only [List.mem_cons, List.not_mem_nil, or_false] at hu; rcases hu with rfl | rfl | rfl | rfl <;> first | rfl | exact oy.one⟩)
      intro s3 v3 w3 w4 x3 m4 x4 o4
      refine gset ?_
      have oy4 := (oy.ext x3).mv m4 ((oy.ext x3).ne (ho2.ext x3) (by decide))
      have hs4 := (hs2.ext x3).mv (ho2.ext x3) (by decide) m4
      repeat' (first | ((with_reducible refine o_s ?_); (first | (refine o_1 ?_; refine o_2 ?_) | (refine o_g ?_; first | refine o_u ?_ | refine o_k ?_ | refine o_n ?_ | refine o_v ?_ | ((first | refine o_G ?_ ?_ | refine o_N ?_ ?_) <;> intro hc)))) | ((fail_if_success (with_reducible refine o_s ?_)); go_step))
      refine ⟨⟨k + 1, _, by omega, by go_num, x4, o4, ?_⟩, by simp [intOf]; omega⟩
      rw [List.take_add_one, List.getElem?_eq_getElem hlt]
      exact hs4.append (SetsW.one oy4)
    · have : k = l.length := by omega
      subst this
      rw [List.take_length] at hs
      repeat' (first | ((with_reducible refine o_s ?_); (first | (refine o_1 ?_; refine o_2 ?_) | (refine o_g ?_; first | refine o_u ?_ | refine o_k ?_ | refine o_n ?_ | refine o_v ?_ | ((first | refine o_G ?_ ?_ | refine o_N ?_ ?_) <;> intro hc)))) | ((fail_if_success (with_reducible refine o_s ?_)); go_step))
      go_ret
      exact ⟨_, rfl, hx, css, ho, hs⟩
set_option maxHeartbeats 6000000 in
theorem r8_Copy (o : List UInt8) (v : Value) (l : List RSet) (w : World) (hv : SetsAt w v l) (hl : l.length ≤ 100000) (hb : ∀ s ∈ l, s.data.length ≤ 1000000) : Calls Tryz.prog 27 #[.agg #[str o, v]] w (Ret w fun r w' => ∃ y, r = .agg #[str o, y] ∧ SetsV w.heap.size w' y l) := by
  go_enter Tryz.func27, Tryz.ntmps27
  repeat' ((fail_if_success (with_reducible refine o_s ?_)); go_step)
  refine wpl_box (vs := [str o, v]) rfl rfl ?_
  intro p w1 x1 hp
  refine gset ?_
  refine wpl_allocB (z := zzone) rfl (by decide +kernel) ?_
  intro w2 x2 s2 h2
  refine gset ?_
  have hp2 := hp.ext x2
  have hx2 := x1.trans x2
  have hv2 := hv.ext hx2
  have z1 := x1.size
  repeat' (first | ((with_reducible refine o_s ?_); (first | (refine o_1 ?_; refine o_2 ?_) | (refine o_g ?_; first | refine o_u ?_ | refine o_k ?_ | refine o_n ?_ | refine o_v ?_ | ((first | refine o_G ?_ ?_ | refine o_N ?_ ?_) <;> intro hc)))) | ((fail_if_success (with_reducible refine o_s ?_)); go_step))
  refine wph_region (S := fun w' => Ext w1 w') (by decide +kernel) ?_
  intro w3 x3 hh3
  have hp3 := hp2.ext x3
  have hS3 : Ext w1 w3 := x2.trans x3
  refine tk 0 ?_ (hS := hS3) (hy := by intro w9 hS9; exact Runs.fieldTn (hp.ext hS9) (by decide +kernel)); refine gset ?_
  refine tk 1 ?_ (hS := hS3) (hy := by intro w9 hS9; have := hp.ext hS9; exact rn); refine gset ?_
  refine tk 2 ?_ (hS := hS3) (hy := by intro w9 hS9; have := hp.ext hS9; exact rn); refine gset ?_
  refine tk 3 ?_ (hS := hS3) (hy := by intro w9 hS9; have := hp.ext hS9; exact rn); refine gset ?_
  refine wph_one (i := 4) (by decide +kernel) rfl rfl ?_
  refine wpl_callR (enters_of Tryz.func73 rfl rfl) rfl rfl (r7_Copies v l _ (hv2.ext x3) hl hb) ?_
  intro y w4 x4 hy
  refine gset ?_
  have hS4 := hS3.trans x4
  refine wph_nil ⟨hS4, ?_⟩
  obtain ⟨ya, yn, yc, hys⟩ := hy.slf
  have hy1 : y.oneCell' = true := by rw [hys]; rfl
  refine wph_take (i := 5) (v := .agg #[str o, y]) rfl rfl (by decide +kernel) (by decide +kernel) (by decide +kernel) rfl hS4 (fun w' _ => Runs.build (vals := [(0, str o), (1, y)]) rfl (by rw [hys]; kernel_rfl)) (fun _ _ _ h => h) ?_
  refine gset ?_
  refine wph_one (i := 6) (by decide +kernel) rfl rfl ?_
  have h4 := (x3.trans x4).at h2
  refine wpl_storeB (v := .agg #[str o, y]) rfl rfl rfl h4 (show sizeTy Tryz.prog 25 2 = true by decide +kernel) rfl (zone_one hy1) ?_
  intro w5 p5
  have hS5 : Ext w1 w5 := hS4.move p5.mv (by rintro k ⟨⟩; exact Nat.le_refl _)
  have hy5 := hy.put h4 (by decide) (by decide) p5
  refine wph_nil ⟨hS5, ?_⟩
  refine wph_done (by decide +kernel) ?_
  repeat' (first | ((with_reducible refine o_s ?_); (first | (refine o_1 ?_; refine o_2 ?_) | (refine o_g ?_; first | refine o_u ?_ | refine o_k ?_ | refine o_n ?_ | refine o_v ?_ | ((first | refine o_G ?_ ?_ | refine o_N ?_ ?_) <;> intro hc)))) | ((fail_if_success (with_reducible refine o_s ?_)); go_step))
  refine bodyPost_ret (results_cell1 (cs := [str o, y]) rfl rfl p5.this (show aggTy Tryz.prog 25 2 = true by decide +kernel)) rfl ⟨_, rfl, x1.trans hS5, y, rfl, hy5.weaken (Nat.le_trans z1 hS3.size)⟩
set_option maxHeartbeats 6000000 in
theorem p_CloneS (v : Value) (css : List (List Value)) (w : World) (hv : Sl 4 w v css) (h1 : ∀ f ∈ css, ∀ u ∈ f, u.oneCell' = true) (hl : css.length ≤ 1000000) : Calls Tryz.prog 109 #[v] w (Ret w fun v' w' => Own w.heap.size 4 55 w' v' css) := by
  go_enter Tryz.func109, Tryz.ntmps109
  repeat' (first | ((with_reducible refine o_s ?_); (first | (refine o_1 ?_; refine o_2 ?_) | (refine o_g ?_; first | refine o_u ?_ | refine o_k ?_ | refine o_n ?_ | refine o_v ?_ | ((first | refine o_G ?_ ?_ | refine o_N ?_ ?_) <;> intro hc)))) | ((fail_if_success (with_reducible refine o_s ?_)); go_step))
  · have hn := ‹isNil v = true›
    go_ret
    have : css = [] := hv.isNil hn
    refine ⟨_, rfl, Ext.refl _, ?_⟩
    rw [this]
    exact Own.nil _ _ _ _
  · refine wpl_slice0 (t := 23) (e := 55) (k := 4) (bytes := 56) (by decide +kernel) rfl ?_
    intro v2 w2 x2 s2 o2
    refine gset ?_
    repeat' (first | ((with_reducible refine o_s ?_); (first | (refine o_1 ?_; refine o_2 ?_) | (refine o_g ?_; first | refine o_u ?_ | refine o_k ?_ | refine o_n ?_ | refine o_v ?_ | ((first | refine o_G ?_ ?_ | refine o_N ?_ ?_) <;> intro hc)))) | ((fail_if_success (with_reducible refine o_s ?_)); go_step))
    refine wpl_appendO (B := w.heap.size) (e := 55) rfl o2 rfl (hv.ext x2) h1 x2.size (by simp; omega) ?_
    intro v3 w3 o3 m3 _
    have x3 := o2.mvx m3 x2 (Nat.le_refl _)
    refine gset ?_
    repeat' (first | ((with_reducible refine o_s ?_); (first | (refine o_1 ?_; refine o_2 ?_) | (refine o_g ?_; first | refine o_u ?_ | refine o_k ?_ | refine o_n ?_ | refine o_v ?_ | ((first | refine o_G ?_ ?_ | refine o_N ?_ ?_) <;> intro hc)))) | ((fail_if_success (with_reducible refine o_s ?_)); go_step))
    go_ret
    exact ⟨_, rfl, x3, by simpa using o3⟩
structure SetsN (B : Nat) (w : World) (css0 css : List (List Value)) (l : List RSet) (k : Nat) : Prop where
  len : css.length = l.length
  new : ∀ (i : Nat) (s : RSet), l[i]? = some s → i < k → ∃ x, css[i]? = some [str s.name, .int .i64 s.kind, .int .i64 s.ttl, x] ∧ Own B 1 9 w x (tcells s.data)
  old : ∀ i, k ≤ i → css[i]? = css0[i]?
theorem SetsN.ext {B : Nat} {w w' : World} {css0 css : List (List Value)} {l : List RSet} {k : Nat} (h : SetsN B w css0 css l k) (hx : Ext w w') : SetsN B w' css0 css l k :=
  ⟨h.len, fun i s hi hk => let ⟨x, a, b⟩ := h.new i s hi hk; ⟨x, a, b.ext hx⟩, h.old⟩
theorem SetsN.mv {B : Nat} {w w' : World} {css0 css : List (List Value)} {l : List RSet} {k : Nat} {row : Option Nat} (h : SetsN B w css0 css l k) (hm : Mv row w w') (hne : ∀ x es, Own B 1 9 w x es → x.ownBlock = none ∨ x.ownBlock ≠ row) : SetsN B w' css0 css l k :=
  ⟨h.len, fun i s hi hk => let ⟨x, a, b⟩ := h.new i s hi hk; ⟨x, a, b.mv hm (hne x _ b)⟩, h.old⟩
theorem SetsN.step {B : Nat} {w : World} {css0 css : List (List Value)} {l : List RSet} {k : Nat} (h : SetsN B w css0 css l k) (hk : k < l.length) {y : Value} (hy : Own B 1 9 w y (tcells l[k].data)) :
    SetsN B w css0 (css.set k [str l[k].name, .int .i64 l[k].kind, .int .i64 l[k].ttl, y]) l (k + 1) := by
  refine ⟨by rw [List.length_set, h.len], fun i s hi hik => ?_, fun i hi => ?_⟩
  · by_cases e : k = i
    · subst e
      rw [List.getElem?_eq_getElem hk] at hi
      cases hi
      exact ⟨y, List.getElem?_set_self (by rw [h.len]; exact hk), hy⟩
    · obtain ⟨x, a, b⟩ := h.new i s hi (by omega)
      exact ⟨x, by rw [List.getElem?_set_ne e]; exact a, b⟩
  · rw [List.getElem?_set_ne (by omega)]; exact h.old i (by omega)
theorem SetsN.done {B : Nat} {w : World} {css0 css : List (List Value)} {l : List RSet} (h : SetsN B w css0 css l l.length) : SetsW B w css l :=
  ⟨h.len, fun i s hi => h.new i s hi (List.getElem?_eq_some_iff.1 hi).1⟩
set_option maxHeartbeats 6000000 in
theorem p_copied (o : List UInt8) (v : Value) (l : List RSet) (w : World) (hv : SetsAt w v l) (hl : l.length ≤ 100000) (hb : ∀ s ∈ l, s.data.length ≤ 1000000) :
    Calls Tryz.prog 100 #[.agg #[str o, v]] w (Ret w fun r w' => ∃ y, r = .agg #[str o, y] ∧ SetsV w.heap.size w' y l) := by
  obtain ⟨css0, hv0, hvs⟩ := hv.rows
  have hlen0 := hvs.len
  go_enter Tryz.func100, Tryz.ntmps100
  repeat' ((fail_if_success (with_reducible refine o_s ?_)); go_step)
  refine wpl_boxB (vs := [str o, v]) rfl rfl ?_
  intro w1 x1 s1 hz1
  refine gset ?_
  refine wpl_allocB (z := zzone) rfl (by decide +kernel) ?_
  intro w2 x2 s2 h2
  refine gset ?_
  have hz2 := x2.at hz1
  have hx2 := x1.trans x2
  have hp2 := pts_block hz2
  have z1 := x1.size
  repeat' (first | ((with_reducible refine o_s ?_); (first | (refine o_1 ?_; refine o_2 ?_) | (refine o_g ?_; first | refine o_u ?_ | refine o_k ?_ | refine o_n ?_ | refine o_v ?_ | ((first | refine o_G ?_ ?_ | refine o_N ?_ ?_) <;> intro hc)))) | ((fail_if_success (with_reducible refine o_s ?_)); go_step))
  refine wpl_callR (enters_of Tryz.func109 rfl rfl) rfl rfl (p_CloneS v css0 _ (hv0.ext hx2) (hvs.ext hx2).cell (by rw [hlen0]; omega)) ?_
  intro y w8 x8 ho8
  have hx8 := hx2.trans x8
  have h8 := x8.at h2
  have hz8 := x8.at hz2
  have hp8 := pts_block hz8
  refine gset ?_
  repeat' (first | ((with_reducible refine o_s ?_); (first | (refine o_1 ?_; refine o_2 ?_) | (refine o_g ?_; first | refine o_u ?_ | refine o_k ?_ | refine o_n ?_ | refine o_v ?_ | ((first | refine o_G ?_ ?_ | refine o_N ?_ ?_) <;> intro hc)))) | ((fail_if_success (with_reducible refine o_s ?_)); go_step))
  refine wpl_storeF (n := 1) hz8 rfl rfl rfl (by simp) (by decide +kernel) ho8.one ?_
  intro w9 p9
  have hx9 : Ext w w9 := hx8.move p9.mv (by rintro k ⟨⟩; exact Nat.le_refl _)
  have hz9 : w9.heap[w.heap.size]? = some (.cells [str o, y].toArray 25 (0, 0)) := p9.this
  have h9 := p9.at h8 (by omega)
  have ho9 := ho8.mv p9.mv (.inr (ho8.neBlock hz8 (by decide)))
  have hzB : w1.heap.size < w2.heap.size := by omega
  have hzW := hx2.size
  have hB9 : w2.heap.size ≤ w9.heap.size := by have a1 := x8.size; have a2 := p9.size; omega
  have hne : w.heap.size ≠ w1.heap.size := by omega
  have hsl9 := ho9.sl
  have hpz9 := pts_block hz9
  clear p9 hz8 hp8 h8 ho8 hp2 hz2 hz1 h2
  repeat' (first | ((with_reducible refine o_s ?_); (first | (refine o_1 ?_; refine o_2 ?_) | (refine o_g ?_; first | refine o_u ?_ | refine o_k ?_ | refine o_n ?_ | refine o_v ?_ | ((first | refine o_G ?_ ?_ | refine o_N ?_ ?_) <;> intro hc)))) | ((fail_if_success (with_reducible refine o_s ?_)); go_step))
  generalize hrb : w1.heap.size = rb at *
  generalize w2.heap.size = B at *
  clear hpz9 hsl9
  go_loopw [3, 4, 12] (fun _ _ i wr => ∃ (k : Nat) (css : List (List Value)), k ≤ l.length ∧ i = .int .i64 k ∧ Ext w wr ∧ B ≤ wr.heap.size ∧ wr.heap[w.heap.size]? = some (.cells [str o, y].toArray 25 (0, 0)) ∧ wr.heap[rb]? = some (.cells zzone.toArray 25 (0, 0)) ∧ Own B 4 55 wr y css ∧ SetsN B wr css0 css l k) (fun _ _ i _ => l.length - (intOf i).toNat)
  case atStart => exact ⟨0, css0, Nat.zero_le _, rfl, hx9, hB9, hz9, h9, ho9, ⟨hlen0, by omega, fun i _ => rfl⟩⟩
  case round =>
    obtain ⟨k, css, hk, rfl, hx, hBr, hbz, hbr, ho, hs⟩ := hrel
    have hpz := pts_block hbz
    have hsl := ho.sl
    have hlen := hs.len
    by_cases hlt : k < l.length
    · obtain ⟨x, hc0, hxd0⟩ := hvs.at' k _ (List.getElem?_eq_getElem hlt)
      have hc : css[k]? = some [str l[k].name, .int .i64 l[k].kind, .int .i64 l[k].ttl, x] := by rw [hs.old k (Nat.le_refl _)]; exact hc0
      have hxd := hxd0.ext hx
      have hpe := hsl.elem hc
      have hbk := hb _ (List.getElem_mem hlt)
      repeat' (first | ((with_reducible refine o_s ?_); (first | (refine o_1 ?_; refine o_2 ?_) | (refine o_g ?_; first | refine o_u ?_ | refine o_k ?_ | refine o_n ?_ | refine o_v ?_ | ((first | refine o_G ?_ ?_ | refine o_N ?_ ?_) <;> intro hc)))) | ((fail_if_success (with_reducible refine o_s ?_)); go_step))
      refine wpl_allocB (z := zset) rfl (by decide +kernel) ?_
      intro w10 x10 s10 h10
      refine gset ?_
      repeat' (first | ((with_reducible refine o_s ?_); (first | (refine o_1 ?_; refine o_2 ?_) | (refine o_g ?_; first | refine o_u ?_ | refine o_k ?_ | refine o_n ?_ | refine o_v ?_ | ((first | refine o_G ?_ ?_ | refine o_N ?_ ?_) <;> intro hc)))) | ((fail_if_success (with_reducible refine o_s ?_)); go_step))
      refine wpl_storeB (v := .agg #[str l[k].name, .int .i64 l[k].kind, .int .i64 l[k].ttl, x]) rfl rfl rfl h10 (show sizeTy Tryz.prog 55 4 = true by decide +kernel) rfl (all4 rfl rfl rfl hxd.one) ?_
      intro w11 p11
      have x11 : Ext wr w11 := x10.move p11.mv (by rintro k ⟨⟩; exact Nat.le_refl _)
      have hbs : w11.heap[wr.heap.size]? = some (.cells [str l[k].name, .int .i64 l[k].kind, .int .i64 l[k].ttl, x].toArray 55 (0, 0)) := p11.this
      have hx11 := hx.trans x11
      have hbz11 := x11.at hbz
      have hbr11 := x11.at hbr
      have ho11 := ho.ext x11
      have hs11 := hs.ext x11
      have hps := pts_block hbs
      have hpz11 := pts_block hbz11
      have hsl11 := ho11.sl
      have hpe11 := hsl11.elem hc
      have hxd11 := hxd.ext x11
      clear p11 h10 x10 hpe hpz hsl
      repeat' (first | ((with_reducible refine o_s ?_); (first | (refine o_1 ?_; refine o_2 ?_) | (refine o_g ?_; first | refine o_u ?_ | refine o_k ?_ | refine o_n ?_ | refine o_v ?_ | ((first | refine o_G ?_ ?_ | refine o_N ?_ ?_) <;> intro hc)))) | ((fail_if_success (with_reducible refine o_s ?_)); go_step))
      refine wpi_region 8 (Ext w11) (by decide +kernel) ?_
      intro w12 x12 _
      refine ⟨x12, ?_⟩
      ((with_reducible apply wpi_take (i := 0)); (rfl); (rfl); (rfl); (decide +kernel); (decide +kernel); (decide +kernel); (decide +kernel); (rfl); (intro _ _; exact rn); (exact fun _ _ _ h => h); (refine gset ?_)); ((with_reducible apply wpi_take (i := 1)); (rfl); (rfl); (rfl); (decide +kernel); (decide +kernel); (decide +kernel); (decide +kernel); (rfl); (intro _ _; exact rn); (exact fun _ _ _ h => h); (refine gset ?_)); ((with_reducible apply wpi_take (i := 2)); (rfl); (rfl); (rfl); (decide +kernel); (decide +kernel); (decide +kernel); (decide +kernel); (rfl); (intro _ _; exact rn); (exact fun _ _ _ h => h); (refine gset ?_)); ((with_reducible apply wpi_take (i := 3)); (rfl); (rfl); (rfl); (decide +kernel); (decide +kernel); (decide +kernel); (decide +kernel); (rfl); (intro _ _; exact rn); (exact fun _ _ _ h => h); (refine gset ?_)); ((with_reducible apply wpi_take (i := 4)); (rfl); (rfl); (rfl); (decide +kernel); (decide +kernel); (decide +kernel); (decide +kernel); (rfl); (intro _ _; exact rn); (exact fun _ _ _ h => h); (refine gset ?_))
      refine wpi_op (i := 5) (by decide +kernel) rfl rfl ?_
      refine wpl_callR (enters_of Tryz.func90 rfl rfl) rfl rfl (t24 x l[k].data _ (hxd11.ext x12) (by omega)) ?_
      intro u w13 x13 ou
      refine gset ?_
      have x1113 := x12.trans x13
      refine wph_nil ⟨till_yes x1113, ?_⟩
      ((with_reducible apply wpi_take (i := 6)); (rfl); (rfl); (rfl); (decide +kernel); (decide +kernel); (decide +kernel); (decide +kernel); (rfl); (intro _ _; exact rn); (exact fun _ _ _ h => h); (refine gset ?_)); ((with_reducible apply wpi_take (i := 7)); (rfl); (rfl); (rfl); (decide +kernel); (decide +kernel); (decide +kernel); (decide +kernel); (rfl); (intro _ _; exact rn); (exact fun _ _ _ h => h); (refine gset ?_))
      refine wpi_op (i := 8) (by decide +kernel) rfl rfl ?_
      have ho13 := ho11.ext x1113
      refine wpl_storeEF (i := k) (j := 3) rfl rfl rfl ho13 hc (by decide) (by decide +kernel) ou.one ?_
      intro w14 o14 m14
      refine wph_nil ⟨till_no rfl, ?_⟩
      refine wpi_done (by decide +kernel) ?_
      have hx13 := hx11.trans x1113
      have x14 : Ext w w14 := ho13.mvx m14 hx13 hzW
      have hbz14 := m14.at (x1113.at hbz11) (fun e => ho13.neBlock (x1113.at hbz11) (by decide) e.symm)
      have hbr14 := m14.at (x1113.at hbr11) (fun e => ho13.neBlock (x1113.at hbr11) (by decide) e.symm)
      have ou14 := ou.mv m14 (ou.ne ho13 (by decide))
      have hs14 := (hs11.ext x1113).mv m14 (fun x es hx => hx.ne ho13 (by decide))
      have hB14 : B ≤ w14.heap.size := by have a1 := x1113.size; have a2 := m14.size; have a3 := x11.size; omega
      have ouk : Own B 1 9 w14 u (tcells l[k].data) := ou14.weaken (by have a1 := x12.size; have a2 := x11.size; omega)
      clear hps hpz11 hsl11 hpe11 hbs hbz11 hbr11 hs11 ho13 ho11 hxd11
      repeat' (first | ((with_reducible refine o_s ?_); (first | (refine o_1 ?_; refine o_2 ?_) | (refine o_g ?_; first | refine o_u ?_ | refine o_k ?_ | refine o_n ?_ | refine o_v ?_ | ((first | refine o_G ?_ ?_ | refine o_N ?_ ?_) <;> intro hc)))) | ((fail_if_success (with_reducible refine o_s ?_)); go_step))
      exact ⟨⟨k + 1, _, by omega, by go_num, x14, hB14, hbz14, hbr14, o14, hs14.step hlt ouk⟩, by simp [intOf]; omega⟩
    · have : k = l.length := by omega
      subst this
      repeat' (first | ((with_reducible refine o_s ?_); (first | (refine o_1 ?_; refine o_2 ?_) | (refine o_g ?_; first | refine o_u ?_ | refine o_k ?_ | refine o_n ?_ | refine o_v ?_ | ((first | refine o_G ?_ ?_ | refine o_N ?_ ?_) <;> intro hc)))) | ((fail_if_success (with_reducible refine o_s ?_)); go_step))
      refine wpl_storeB (v := .agg #[str o, y]) rfl rfl rfl hbr (show sizeTy Tryz.prog 25 2 = true by decide +kernel) rfl (zone_one ho.one) ?_
      intro w11 p11
      have x11 : Ext w w11 := hx.move p11.mv (by rintro k ⟨⟩; omega)
      have hfin : SetsV w.heap.size w11 y l := by
        have : SetsV B wr y l := ⟨css, ho, hs.done⟩
        exact (this.put hbr (by decide) (by decide) p11).weaken hzW
      repeat' (first | ((with_reducible refine o_s ?_); (first | (refine o_1 ?_; refine o_2 ?_) | (refine o_g ?_; first | refine o_u ?_ | refine o_k ?_ | refine o_n ?_ | refine o_v ?_ | ((first | refine o_G ?_ ?_ | refine o_N ?_ ?_) <;> intro hc)))) | ((fail_if_success (with_reducible refine o_s ?_)); go_step))
      exact bodyPost_ret (results_cell1 (cs := [str o, y]) rfl rfl p11.this (show aggTy Tryz.prog 25 2 = true by decide +kernel)) rfl ⟨_, rfl, x11, y, rfl, hfin⟩

theorem may_at {s : RSet} (h : mayS s = true) {i : Nat} (hi : i < s.data.length) : checkR ⟨s.name, s.kind, s.ttl, s.data[i]⟩ = 0 := by
  simp only [mayS, Bool.and_eq_true, List.all_eq_true] at h
  have := h.2 i (by simpa using hi)
  simp only [badAt, Bool.not_eq_true', Bool.or_eq_false_iff, decide_eq_false_iff_not, ne_eq, Decidable.not_not] at this
  have e : s.data.getD i [] = s.data[i] := by simp [hi]
  rw [e] at this
  exact this.1
theorem checkR_data {r : Rec} (h : checkR r = 0) : r.data.length ≤ 4000 ∧ fits r.kind r.data = true := by
  unfold checkR at h
  split at h
  · omega
  · split at h
    · omega
    · rename_i h2
      simp only [not_or, Bool.not_eq_false] at h2
      exact ⟨by omega, h2.2.2.2.2.2⟩
def zR : SoaR := ⟨[], [], 0, 0, 0, 0, 0⟩
theorem zR_cells : zR.cells = zeroSoa := rfl
def soaD (o : List UInt8) (l : List RSet) : List UInt8 := ((findS l o 6).getD zeroS).data.getD 0 []
def soaZ (o : List UInt8) (l : List RSet) : SoaR := if zoneR o l = 0 then soaOf (soaD o l) else zR
theorem parse_some {d : List UInt8} (h : (parseSoa d).isSome = true) : parseSoa d = some (soaOf d) := by
  unfold parseSoa at *
  simp only at *
  split at h
  · rename_i h1; rw [if_pos h1]
  · cases h
theorem ZoneOk.soaSet {o : List UInt8} {l : List RSet} (h : ZoneOk o l) : ∃ s, findS l o 6 = some s ∧ s ∈ l ∧ s.name = o ∧ s.kind = 6 ∧ s.data = [soaD o l] ∧ parseSoa (soaD o l) = some (soaOf (soaD o l)) ∧ (soaD o l).length ≤ 4000 := by
  obtain ⟨s, hs⟩ := Option.isSome_iff_exists.1 h.soa
  obtain ⟨h1, h2, h3⟩ := findS_mem hs
  have hr := h.right s h1
  have hm := h.may h1
  have hl : s.data.length = 1 := by
    simp only [rightR, Bool.and_eq_true, Bool.not_eq_true', h3] at hr
    have := hr.1.1.2
    simp only [decide_true, Bool.true_and, Bool.or_eq_false_iff, decide_eq_false_iff_not, ne_eq, Decidable.not_not] at this
    exact this.2
  have hd : s.data = [soaD o l] := by
    have e : soaD o l = s.data.getD 0 [] := by rw [soaD, hs]; rfl
    rw [e]
    match s.data, hl with
    | [d], _ => rfl
  have hc := may_at hm (i := 0) (by omega)
  obtain ⟨c1, c2⟩ := checkR_data hc
  have e0 : s.data[0]'(by omega) = soaD o l := by simp [hd]
  simp only [e0, h3] at c1 c2
  refine ⟨s, hs, h1, by rw [h2, h.fold], h3, hd, parse_some ?_, c1⟩
  simpa [fits] using c2
theorem soaR_one (s : SoaR) : (Value.agg s.cells.toArray).cells.all (·.oneCell') = true := by
  simp [SoaR.cells, Value.cells, Value.oneCell', str]
set_option maxHeartbeats 3000000 in
theorem p_Soa (o : List UInt8) (v : Value) (l : List RSet) (w : World) (hv : SetsAt w v l) (hb : ∀ s ∈ l, s.data.length ≤ 1000000) (hd : ∀ s ∈ l, ∀ d ∈ s.data, d.length ≤ 4611686018427387904) : Calls Tryz.prog 63 #[.agg #[str o, v]] w (RetV w (.tuple #[.agg (soaZ o l).cells.toArray, .int .i64 (zoneR o l)])) := by
  go_enter Tryz.func63, Tryz.ntmps63
  repeat' ((fail_if_success (with_reducible refine o_s ?_)); go_step)
  refine wpl_box (vs := [str o, v]) rfl rfl ?_
  intro p w1 x1 hp
  refine gset ?_
  refine wpl_allocB (z := zeroSoa) rfl (by decide +kernel) ?_
  intro w2 x2 s2 h2
  refine gset ?_
  have hx2 := x1.trans x2
  have hp2 := hp.ext x2
  have hv2 := hv.ext hx2
  repeat' (first | ((with_reducible refine o_s ?_); (first | (refine o_1 ?_; refine o_2 ?_) | (refine o_g ?_; first | refine o_u ?_ | refine o_k ?_ | refine o_n ?_ | refine o_v ?_ | ((first | refine o_G ?_ ?_ | refine o_N ?_ ?_) <;> intro hc)))) | ((fail_if_success (with_reducible refine o_s ?_)); go_step))
  refine wpl_callV (enters_of Tryz.func37 rfl rfl) rfl rfl (p_Check o v l _ hv2 hb) ?_; intro w3 x3; refine gset ?_
  have hx3 := hx2.trans x3
  have hp3 := hp2.ext x3
  have hv3 := hv2.ext x3
  have h3 := x3.at h2
  repeat' (first | ((with_reducible refine o_s ?_); (first | (refine o_1 ?_; refine o_2 ?_) | (refine o_g ?_; first | refine o_u ?_ | refine o_k ?_ | refine o_n ?_ | refine o_v ?_ | ((first | refine o_G ?_ ?_ | refine o_N ?_ ?_) <;> intro hc)))) | ((fail_if_success (with_reducible refine o_s ?_)); go_step))
  · have q : ¬ zoneR o l = 0 := by simpa using (by assumption : (!decide (zoneR o l = 0)) = true)
    refine wpl_run (v := .agg zeroSoa.toArray) rfl (Runs.build0 (by kernel_rfl)) ?_
    refine gset ?_
    repeat' (first | ((with_reducible refine o_s ?_); (first | (refine o_1 ?_; refine o_2 ?_) | (refine o_g ?_; first | refine o_u ?_ | refine o_k ?_ | refine o_n ?_ | refine o_v ?_ | ((first | refine o_G ?_ ?_ | refine o_N ?_ ?_) <;> intro hc)))) | ((fail_if_success (with_reducible refine o_s ?_)); go_step))
    refine wpl_storeB (v := .agg zeroSoa.toArray) rfl rfl rfl h3 (by decide +kernel) rfl (by decide +kernel) ?_
    intro w4 p4
    have x4 : Ext w w4 := hx3.move p4.mv (by rintro k ⟨⟩; exact x1.size)
    repeat' (first | ((with_reducible refine o_s ?_); (first | (refine o_1 ?_; refine o_2 ?_) | (refine o_g ?_; first | refine o_u ?_ | refine o_k ?_ | refine o_n ?_ | refine o_v ?_ | ((first | refine o_G ?_ ?_ | refine o_N ?_ ?_) <;> intro hc)))) | ((fail_if_success (with_reducible refine o_s ?_)); go_step))
    refine bodyPost_ret (results_cellT (cs := zeroSoa) rfl rfl p4.this (by decide +kernel)) rfl ⟨?_, x4⟩
    rw [show soaZ o l = zR by rw [soaZ, if_neg q], zR_cells]
    rfl
  · have q : zoneR o l = 0 := by simpa using (by assumption : (!decide (zoneR o l = 0)) = false)
    obtain ⟨s, hf, hs, hn, hk, hdat, hpar, hlen⟩ := (zone_ok q).soaSet
    have hZ : soaZ o l = soaOf (soaD o l) := by rw [soaZ, if_pos q]
    have hP : ∀ w', Calls Tryz.prog 106 #[str (soaD o l)] w' (RetV w' (.tuple #[.agg (soaOf (soaD o l)).cells.toArray, .int .i64 0])) := fun w' => by
      have := t38 (soaD o l) w' (by omega)
      rw [hpar] at this
      exact this
    clear hpar
    generalize soaD o l = dd at *
    generalize hgen : soaOf dd = ss at *
    refine wpl_callR (enters_of Tryz.func40 rfl rfl) rfl rfl (t13 v l o 6 _ hv3 (fun s hs => by have := hb s hs; omega)) ?_
    intro r4 w4 x4 hr4
    rw [hf] at hr4
    obtain ⟨y, rfl, oy⟩ := hr4
    have hx4 := hx3.trans x4
    repeat' (first | ((with_reducible refine o_s ?_); (first | (refine o_1 ?_; refine o_2 ?_) | (refine o_g ?_; first | refine o_u ?_ | refine o_k ?_ | refine o_n ?_ | refine o_v ?_ | ((first | refine o_G ?_ ?_ | refine o_N ?_ ?_) <;> intro hc)))) | ((fail_if_success (with_reducible refine o_s ?_)); go_step))
    refine wpl_allocB (z := zset) rfl (by decide +kernel) ?_
    intro w5 x5 s5 h5
    refine gset ?_
    refine wpl_storeB (v := .agg #[str s.name, .int .i64 s.kind, .int .i64 s.ttl, y]) rfl rfl rfl h5 (show sizeTy Tryz.prog 55 4 = true by decide +kernel) rfl (all4 rfl rfl rfl oy.one) ?_
    intro w6 p6
    have x6 : Ext w4 w6 := x5.move p6.mv (by rintro k ⟨⟩; exact Nat.le_refl _)
    have hp6 := pts_block (cs := [str s.name, .int .i64 s.kind, .int .i64 s.ttl, y]) p6.this
    have hy6 := oy.sl.ext x6
    rw [hdat] at hy6
    have hx6 := hx4.trans x6
    have h6 := (x4.trans x6).at h3
    have hy0 := hy6.elem (i := 0) (e := [str dd]) rfl
    clear p6 h5 x5
    have hl1 : (tcells [dd]).length = 1 := rfl
    repeat' (first | ((with_reducible refine o_s ?_); (first | (refine o_1 ?_; refine o_2 ?_) | (refine o_g ?_; first | refine o_u ?_ | refine o_k ?_ | refine o_n ?_ | refine o_v ?_ | ((first | refine o_G ?_ ?_ | refine o_N ?_ ?_) <;> intro hc)))) | ((fail_if_success (with_reducible refine o_s ?_)); go_step))
    refine wpl_callV (enters_of Tryz.func106 rfl rfl) rfl rfl (hP _) ?_; intro w7 x7; refine gset ?_
    have h7 := x7.at h6
    repeat' (first | ((with_reducible refine o_s ?_); (first | (refine o_1 ?_; refine o_2 ?_) | (refine o_g ?_; first | refine o_u ?_ | refine o_k ?_ | refine o_n ?_ | refine o_v ?_ | ((first | refine o_G ?_ ?_ | refine o_N ?_ ?_) <;> intro hc)))) | ((fail_if_success (with_reducible refine o_s ?_)); go_step))
    refine wpl_storeB (v := .agg ss.cells.toArray) rfl rfl rfl h7 (show sizeTy Tryz.prog 103 7 = true by decide +kernel) rfl (soaR_one _) ?_
    intro w8 p8
    have x8 : Ext w w8 := (hx6.trans x7).move p8.mv (by rintro k ⟨⟩; exact x1.size)
    repeat' (first | ((with_reducible refine o_s ?_); (first | (refine o_1 ?_; refine o_2 ?_) | (refine o_g ?_; first | refine o_u ?_ | refine o_k ?_ | refine o_n ?_ | refine o_v ?_ | ((first | refine o_G ?_ ?_ | refine o_N ?_ ?_) <;> intro hc)))) | ((fail_if_success (with_reducible refine o_s ?_)); go_step))
    refine bodyPost_ret (results_cellT (cs := ss.cells) rfl rfl p8.this (show aggTy Tryz.prog 103 7 = true by decide +kernel)) rfl ⟨?_, x8⟩
    rw [hZ, q]
    rfl
set_option maxHeartbeats 3000000 in
theorem r8_Soa (o : List UInt8) (v : Value) (l : List RSet) (w : World) (hv : SetsAt w v l) (hb : ∀ s ∈ l, s.data.length ≤ 1000000) (hd : ∀ s ∈ l, ∀ d ∈ s.data, d.length ≤ 4611686018427387904) : Calls Tryz.prog 68 #[.agg #[str o, v]] w (RetV w (.tuple #[.agg (soaZ o l).cells.toArray, .int .i64 (zoneR o l)])) := by
  go_enter Tryz.func68, Tryz.ntmps68
  repeat' ((fail_if_success (with_reducible refine o_s ?_)); go_step)
  refine wpl_box (vs := [str o, v]) rfl rfl ?_
  intro p w1 x1 hp
  refine gset ?_
  refine wpl_allocB (z := zeroSoa) rfl (by decide +kernel) ?_
  intro w2 x2 s2 h2
  refine gset ?_
  have hx2 := x1.trans x2
  have hp2 := hp.ext x2
  have hv2 := hv.ext hx2
  repeat' (first | ((with_reducible refine o_s ?_); (first | (refine o_1 ?_; refine o_2 ?_) | (refine o_g ?_; first | refine o_u ?_ | refine o_k ?_ | refine o_n ?_ | refine o_v ?_ | ((first | refine o_G ?_ ?_ | refine o_N ?_ ?_) <;> intro hc)))) | ((fail_if_success (with_reducible refine o_s ?_)); go_step))
  refine wpl_callV (enters_of Tryz.func101 rfl rfl) rfl rfl (r8_Check o v l _ hv2 hb hd) ?_; intro w3 x3; refine gset ?_
  have hx3 := hx2.trans x3
  have hp3 := hp2.ext x3
  have hv3 := hv2.ext x3
  have h3 := x3.at h2
  repeat' (first | ((with_reducible refine o_s ?_); (first | (refine o_1 ?_; refine o_2 ?_) | (refine o_g ?_; first | refine o_u ?_ | refine o_k ?_ | refine o_n ?_ | refine o_v ?_ | ((first | refine o_G ?_ ?_ | refine o_N ?_ ?_) <;> intro hc)))) | ((fail_if_success (with_reducible refine o_s ?_)); go_step))
  · have q : ¬ zoneR o l = 0 := by simpa using (by assumption : (!decide (zoneR o l = 0)) = true)
    refine wpl_run (v := .agg zeroSoa.toArray) rfl (Runs.build0 (by kernel_rfl)) ?_
    refine gset ?_
    repeat' (first | ((with_reducible refine o_s ?_); (first | (refine o_1 ?_; refine o_2 ?_) | (refine o_g ?_; first | refine o_u ?_ | refine o_k ?_ | refine o_n ?_ | refine o_v ?_ | ((first | refine o_G ?_ ?_ | refine o_N ?_ ?_) <;> intro hc)))) | ((fail_if_success (with_reducible refine o_s ?_)); go_step))
    refine wpl_storeB (v := .agg zeroSoa.toArray) rfl rfl rfl h3 (by decide +kernel) rfl (by decide +kernel) ?_
    intro w4 p4
    have x4 : Ext w w4 := hx3.move p4.mv (by rintro k ⟨⟩; exact x1.size)
    repeat' (first | ((with_reducible refine o_s ?_); (first | (refine o_1 ?_; refine o_2 ?_) | (refine o_g ?_; first | refine o_u ?_ | refine o_k ?_ | refine o_n ?_ | refine o_v ?_ | ((first | refine o_G ?_ ?_ | refine o_N ?_ ?_) <;> intro hc)))) | ((fail_if_success (with_reducible refine o_s ?_)); go_step))
    refine bodyPost_ret (results_cellT (cs := zeroSoa) rfl rfl p4.this (by decide +kernel)) rfl ⟨?_, x4⟩
    rw [show soaZ o l = zR by rw [soaZ, if_neg q], zR_cells]
    rfl
  · have q : zoneR o l = 0 := by simpa using (by assumption : (!decide (zoneR o l = 0)) = false)
    obtain ⟨s, hf, hs, hn, hk, hdat, hpar, hlen⟩ := (zone_ok q).soaSet
    have hZ : soaZ o l = soaOf (soaD o l) := by rw [soaZ, if_pos q]
    have hP : ∀ w', Calls Tryz.prog 110 #[str (soaD o l)] w' (RetV w' (.tuple #[.agg (soaOf (soaD o l)).cells.toArray, .int .i64 0])) := fun w' => by
      have := r3_ParseSoa (soaD o l) w' (by omega)
      rw [hpar] at this
      exact this
    clear hpar
    generalize soaD o l = dd at *
    generalize hgen : soaOf dd = ss at *
    refine wpl_callR (enters_of Tryz.func48 rfl rfl) rfl rfl (r7_Find v l o 6 _ hv3 hb) ?_
    intro r4 w4 x4 hr4
    rw [hf] at hr4
    obtain ⟨y, rfl, oy⟩ := hr4
    have hx4 := hx3.trans x4
    repeat' (first | ((with_reducible refine o_s ?_); (first | (refine o_1 ?_; refine o_2 ?_) | (refine o_g ?_; first | refine o_u ?_ | refine o_k ?_ | refine o_n ?_ | refine o_v ?_ | ((first | refine o_G ?_ ?_ | refine o_N ?_ ?_) <;> intro hc)))) | ((fail_if_success (with_reducible refine o_s ?_)); go_step))
    refine wpl_allocB (z := zset) rfl (by decide +kernel) ?_
    intro w5 x5 s5 h5
    refine gset ?_
    refine wpl_storeB (v := .agg #[str s.name, .int .i64 s.kind, .int .i64 s.ttl, y]) rfl rfl rfl h5 (show sizeTy Tryz.prog 55 4 = true by decide +kernel) rfl (all4 rfl rfl rfl oy.one) ?_
    intro w6 p6
    have x6 : Ext w4 w6 := x5.move p6.mv (by rintro k ⟨⟩; exact Nat.le_refl _)
    have hp6 := pts_block (cs := [str s.name, .int .i64 s.kind, .int .i64 s.ttl, y]) p6.this
    have hy6 := oy.sl.ext x6
    rw [hdat] at hy6
    have hx6 := hx4.trans x6
    have h6 := (x4.trans x6).at h3
    have hy0 := hy6.elem (i := 0) (e := [str dd]) rfl
    clear p6 h5 x5
    have hl1 : (tcells [dd]).length = 1 := rfl
    repeat' (first | ((with_reducible refine o_s ?_); (first | (refine o_1 ?_; refine o_2 ?_) | (refine o_g ?_; first | refine o_u ?_ | refine o_k ?_ | refine o_n ?_ | refine o_v ?_ | ((first | refine o_G ?_ ?_ | refine o_N ?_ ?_) <;> intro hc)))) | ((fail_if_success (with_reducible refine o_s ?_)); go_step))
    refine wpl_callV (enters_of Tryz.func110 rfl rfl) rfl rfl (hP _) ?_; intro w7 x7; refine gset ?_
    have h7 := x7.at h6
    repeat' (first | ((with_reducible refine o_s ?_); (first | (refine o_1 ?_; refine o_2 ?_) | (refine o_g ?_; first | refine o_u ?_ | refine o_k ?_ | refine o_n ?_ | refine o_v ?_ | ((first | refine o_G ?_ ?_ | refine o_N ?_ ?_) <;> intro hc)))) | ((fail_if_success (with_reducible refine o_s ?_)); go_step))
    refine wpl_storeB (v := .agg ss.cells.toArray) rfl rfl rfl h7 (show sizeTy Tryz.prog 103 7 = true by decide +kernel) rfl (soaR_one _) ?_
    intro w8 p8
    have x8 : Ext w w8 := (hx6.trans x7).move p8.mv (by rintro k ⟨⟩; exact x1.size)
    repeat' (first | ((with_reducible refine o_s ?_); (first | (refine o_1 ?_; refine o_2 ?_) | (refine o_g ?_; first | refine o_u ?_ | refine o_k ?_ | refine o_n ?_ | refine o_v ?_ | ((first | refine o_G ?_ ?_ | refine o_N ?_ ?_) <;> intro hc)))) | ((fail_if_success (with_reducible refine o_s ?_)); go_step))
    refine bodyPost_ret (results_cellT (cs := ss.cells) rfl rfl p8.this (show aggTy Tryz.prog 103 7 = true by decide +kernel)) rfl ⟨?_, x8⟩
    rw [hZ, q]
    rfl
end Go.Proofs.X
