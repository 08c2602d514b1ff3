/- Laws and walks that the proof of the statement is made of (part 14). -/
import Derived.Test.YtoajkilickakiaaGreatProg
import Derived.Test.YtoajkilickakiaaGreatShelf
import Derived.Shelf.SlSortCmp.NoneTotal
import Derived.Shelf.RegionOpenPlain
import Derived.Lib.Strings
import Derived.Lib.Slices
import Derived.Lib.Walk
import Derived.Lib.Builder
import Derived.Lib.AppendStr
import Derived.Lib.UnsafeStr
import Derived.Lib.MakeNoZero
import Derived.WalkKit
import Derived.Laws.Externs
import Derived.Laws.IdiomCopy
import Derived.Laws.BitsLemmas
import GoSem.Claims
import Derived.Lib.Hide
import Derived.OwnWalk
import Derived.Test.YtoajkilickakiaaGreatP1
import Derived.Test.YtoajkilickakiaaGreatP2
import Derived.Test.YtoajkilickakiaaGreatP4
import Derived.Test.YtoajkilickakiaaGreatP5
import Derived.Test.YtoajkilickakiaaGreatP6
import Derived.Test.YtoajkilickakiaaGreatP7
import Derived.Test.YtoajkilickakiaaGreatP8
import Derived.Test.YtoajkilickakiaaGreatP9
import Derived.Test.YtoajkilickakiaaGreatP10
import Derived.Test.YtoajkilickakiaaGreatP11
import Derived.Test.YtoajkilickakiaaGreatP12
import Derived.Test.YtoajkilickakiaaGreatP13
set_option linter.unusedSimpArgs false
set_option linter.unusedVariables false
namespace Go.Proofs.X
open Go.RowKit
set_option maxRecDepth 100000
/-! ### what changes between two zones, in plain Lean -/
def lessR (a b : List Rec) : List Rec := a.filter fun r => !decide (r ∈ b)
theorem mem_less {a b : List Rec} {r : Rec} : r ∈ lessR a b ↔ r ∈ a ∧ r ∉ b := by simp [lessR]
structure DeltaR where
  fr : Int
  to : Int
  gone : List Rec
  new : List Rec
  deriving DecidableEq, Inhabited
def zeroD : DeltaR := ⟨0, 0, [], []⟩
def mkE (oa : List UInt8) (la : List RSet) (ob : List UInt8) (lb : List RSet) : Int :=
  if zoneR oa la = 0 then (if zoneR ob lb = 0 then (if oa = ob then 0 else 1) else zoneR ob lb) else zoneR oa la
def mkD (oa : List UInt8) (la : List RSet) (ob : List UInt8) (lb : List RSet) : DeltaR :=
  if mkE oa la ob lb = 0 then ⟨(soaZ oa la).serial, (soaZ ob lb).serial, lessR (recordsS la) (recordsS lb), lessR (recordsS lb) (recordsS la)⟩ else zeroD
def goneF : List Rec → List Rec → Option (List Rec)
  | l, [] => some l
  | l, r :: g => if r ∈ l then goneF (l.erase r) g else none
def newF : List Rec → List Rec → Option (List Rec)
  | l, [] => some l
  | l, r :: g => if r ∈ l then none else newF (l ++ [r]) g
def editR (l : List Rec) (d : DeltaR) : Option (List Rec) := (goneF l d.gone).bind fun m => newF m d.new
def endE (o : List UInt8) (m : List Rec) (to : Int) : Int :=
  if loadE o m = 0 then (if (soaZ (loadO o m) (loadL o m)).serial = to ∧ (recordsS (loadL o m)).length = m.length ∧ lessR m (recordsS (loadL o m)) = [] then 0 else 2) else loadE o m
def appE (o : List UInt8) (l : List RSet) (d : DeltaR) : Int :=
  if zoneR o l = 0 then (if (soaZ o l).serial = d.fr then (match editR (recordsS l) d with
    | none => 5
    | some m => endE o m d.to) else 7) else zoneR o l
def appL (o : List UInt8) (l : List RSet) (d : DeltaR) : List RSet := if appE o l d = 0 then loadL o ((editR (recordsS l) d).getD []) else []
def appO (o : List UInt8) (l : List RSet) (d : DeltaR) : List UInt8 := if appE o l d = 0 then loadO o ((editR (recordsS l) d).getD []) else []
def invD (d : DeltaR) : DeltaR := ⟨d.to, d.fr, d.new, d.gone⟩
def comE (a b : DeltaR) : Int := if a.to = b.fr then 0 else 7
def comG (a b : DeltaR) : List Rec := a.gone ++ lessR b.gone a.new
def comN (a b : DeltaR) : List Rec := lessR a.new b.gone ++ b.new
def comD (a b : DeltaR) : DeltaR := if comE a b = 0 then ⟨a.fr, b.to, lessR (comG a b) (comN a b), lessR (comN a b) (comG a b)⟩ else zeroD
/-! a zone's records -/
theorem recOf_inj {s : RSet} {d e : List UInt8} (h : recOf s d = recOf s e) : d = e := by simpa [recOf] using h
theorem ZoneOk.nodup {o : List UInt8} {l : List RSet} (h : ZoneOk o l) : (recordsS l).Nodup := by
  unfold recordsS List.Nodup
  rw [List.pairwise_flatten]
  constructor
  · intro rs hrs
    obtain ⟨s, hs, rfl⟩ := List.mem_map.1 hrs
    unfold recsOf
    rw [List.pairwise_map, List.pairwise_iff_getElem]
    intro i j hi hj hij he
    have h1 := may_sorted (h.may hs) i j hij hj
    rw [recOf_inj he] at h1
    exact Std.lt_irrefl h1
  · rw [List.pairwise_map, List.pairwise_iff_getElem]
    intro i j hi hj hij x hx y hy he
    simp only [recsOf, List.mem_map] at hx hy
    obtain ⟨d, _, rfl⟩ := hx
    obtain ⟨e, _, rfl⟩ := hy
    simp only [recOf, Rec.mk.injEq] at he
    have h1 := check_sorted h.chk i j hij hj
    rw [he.1, he.2.1] at h1
    have h2 := tpo_cmpSet.refl (l[j].name, l[j].kind)
    simp only at h2
    omega
/-! what is grouped depends on what is there alone -/
theorem Ch.same {L M : List Rec} {s : RSet} (h : Ch L s) (hm : ∀ r, r ∈ L ↔ r ∈ M) : Ch M s where
  dat d := by
    rw [h.dat]
    constructor
    · rintro ⟨r, h1, h2⟩; exact ⟨r, (hm r).1 h1, h2⟩
    · rintro ⟨r, h1, h2⟩; exact ⟨r, (hm r).2 h1, h2⟩
  ttl := let ⟨r, h1, h2⟩ := h.ttl; ⟨r, (hm r).1 h1, h2⟩
  low r h1 h2 := h.low r ((hm r).2 h1) h2
theorem all_same {a b : List Rec} (hm : ∀ r, r ∈ a ↔ r ∈ b) : a.all okR = b.all okR := by
  rw [Bool.eq_iff_iff, List.all_eq_true, List.all_eq_true]
  exact ⟨fun h r hr => h r ((hm r).2 hr), fun h r hr => h r ((hm r).1 hr)⟩
theorem match_keys {s t : RSet} {r : Rec} (h : match1 s r = true) (k : match1 t r = true) : s.name = t.name ∧ s.kind = t.kind := by
  simp only [match1, Bool.and_eq_true, decide_eq_true_eq] at h k
  exact ⟨h.1.trans k.1.symm, h.2.trans k.2.symm⟩
theorem putAll_sub {a b : List Rec} (ha : a.all okR = true) (hm : ∀ r, r ∈ a ↔ r ∈ b) {s : RSet} (hs : s ∈ putAll a) : s ∈ putAll b := by
  have hb : b.all okR = true := by rw [← all_same hm]; exact ha
  obtain ⟨_, a2, _⟩ := putAll_all ha
  obtain ⟨_, b2, b3⟩ := putAll_all hb
  obtain ⟨c1, c2, _⟩ := a2 s hs
  obtain ⟨r, hr, hmr, _⟩ := c1.ttl
  obtain ⟨t, ht, htm⟩ := b3 r ((hm r).1 hr)
  obtain ⟨d1, d2, _⟩ := b2 t ht
  obtain ⟨e1, e2⟩ := match_keys hmr htm
  rw [(c1.same hm).uniq d1 c2 d2 e1 e2]
  exact ht
theorem so_eq : ∀ {a b : List RSet}, SO a → SO b → (∀ s, s ∈ a ↔ s ∈ b) → a = b
  | [], [], _, _, _ => rfl
  | [], y :: b, _, _, h => by have := (h y).2 (by simp); cases this
  | x :: a, [], _, _, h => by have := (h x).1 (by simp); cases this
  | x :: a, y :: b, ha, hb, h => by
    obtain ⟨a1, a2⟩ := List.pairwise_cons.1 ha
    obtain ⟨b1, b2⟩ := List.pairwise_cons.1 hb
    have irr : ∀ s, ¬ cmpG s s < 0 := fun s => by have := tpoG.refl s; omega
    have asy : ∀ s t, cmpG s t < 0 → ¬ cmpG t s < 0 := fun s t h1 h2 => by have := tpoG.anti s t; omega
    have hxy : x = y := by
      rcases List.mem_cons.1 ((h x).1 (by simp)) with e | hx
      · exact e
      · rcases List.mem_cons.1 ((h y).2 (by simp)) with e | hy
        · exact e.symm
        · exact absurd (a1 y hy) (asy _ _ (b1 x hx))
    subst hxy
    rw [so_eq a2 b2 fun s => ?_]
    constructor
    · intro hs
      rcases List.mem_cons.1 ((h s).1 (by simp [hs])) with rfl | h1
      · exact absurd (a1 s hs) (irr s)
      · exact h1
    · intro hs
      rcases List.mem_cons.1 ((h s).2 (by simp [hs])) with rfl | h1
      · exact absurd (b1 s hs) (irr s)
      · exact h1
theorem putAll_congr {a b : List Rec} (ha : a.all okR = true) (hm : ∀ r, r ∈ a ↔ r ∈ b) : putAll a = putAll b := by
  have hb : b.all okR = true := by rw [← all_same hm]; exact ha
  exact so_eq (putAll_all ha).1 (putAll_all hb).1 fun s => ⟨putAll_sub ha hm, putAll_sub hb (fun r => (hm r).symm)⟩
theorem refE_congr {a b : List Rec} (hm : ∀ r, r ∈ a ↔ r ∈ b) : refE a = refE b := by
  unfold refE
  rw [all_same hm]
  by_cases hb : b.all okR = false
  · rw [if_pos hb, if_pos hb]
  · have ha : a.all okR = true := by rw [all_same hm]; simpa using hb
    rw [putAll_congr ha hm]
theorem load_congr {o : List UInt8} {a b : List Rec} (hm : ∀ r, r ∈ a ↔ r ∈ b) : loadE o a = loadE o b ∧ loadO o a = loadO o b ∧ loadL o a = loadL o b := by
  have e : loadE o a = loadE o b := by
    unfold loadE
    rw [refE_congr hm]
    by_cases h0 : refE b = 0
    · rw [if_pos h0, if_pos h0]
      have ha : a.all okR = true := by
        rw [all_same hm]
        cases hb : b.all okR with
        | true => rfl
        | false => rw [refE, if_pos hb] at h0; cases h0
      rw [putAll_congr ha hm]
    · rw [if_neg h0, if_neg h0]
  refine ⟨e, by unfold loadO; rw [e], ?_⟩
  unfold loadL
  rw [e]
  by_cases h0 : loadE o b = 0
  · rw [if_pos h0, if_pos h0]
    have hr : refE a = 0 := by
      rw [refE_congr hm]
      unfold loadE at h0
      split at h0
      · assumption
      · exact h0
    have ha : a.all okR = true := by
      cases ha : a.all okR with
      | true => rfl
      | false => rw [refE, if_pos ha] at hr; cases hr
    exact putAll_congr ha hm
  · rw [if_neg h0, if_neg h0]
/-! what is changed -/
theorem gone_ok : ∀ {g l : List Rec}, l.Nodup → g.Nodup → (∀ r ∈ g, r ∈ l) → goneF l g = some (l.filter fun r => !decide (r ∈ g))
  | [], l, _, _, _ => by
    rw [goneF]
    congr 1
    symm
    rw [List.filter_eq_self]
    intro r _
    simp
  | r :: g, l, hl, hg, hs => by
    obtain ⟨g1, g2⟩ := List.nodup_cons.1 hg
    rw [goneF, if_pos (hs r (by simp)), gone_ok (hl.erase r) g2 (fun q hq => by
      rw [hl.mem_erase_iff]
      exact ⟨fun e => g1 (e ▸ hq), hs q (by simp [hq])⟩), hl.erase_eq_filter, List.filter_filter]
    congr 1
    apply List.filter_congr
    intro q _
    by_cases h1 : q = r <;> by_cases h2 : q ∈ g <;> simp [h1, h2]
theorem new_ok : ∀ {g l : List Rec}, g.Nodup → (∀ r ∈ g, r ∉ l) → newF l g = some (l ++ g)
  | [], l, _, _ => by simp [newF]
  | r :: g, l, hg, hs => by
    obtain ⟨g1, g2⟩ := List.nodup_cons.1 hg
    rw [newF, if_neg (hs r (by simp)), new_ok g2 (fun q hq h => by
      rcases List.mem_append.1 h with h | h
      · exact hs q (by simp [hq]) h
      · obtain rfl := List.mem_singleton.1 h
        exact g1 hq)]
    simp
theorem less_nodup {a b : List Rec} (h : a.Nodup) : (lessR a b).Nodup := h.filter _
theorem apply_ok {o : List UInt8} {la lb : List RSet} (ha : ZoneOk o la) (hb : ZoneOk o lb) {d : DeltaR} (h1 : d.fr = (soaZ o la).serial) (h2 : d.to = (soaZ o lb).serial) (hg : d.gone.Nodup) (hn : d.new.Nodup)
    (mg : ∀ r, r ∈ d.gone ↔ r ∈ recordsS la ∧ r ∉ recordsS lb) (mn : ∀ r, r ∈ d.new ↔ r ∈ recordsS lb ∧ r ∉ recordsS la) : appE o la d = 0 ∧ appL o la d = lb ∧ appO o la d = o := by
  have e1 := gone_ok ha.nodup hg (fun r hr => ((mg r).1 hr).1)
  have e2 := new_ok (l := (recordsS la).filter fun r => !decide (r ∈ d.gone)) hn (fun r hr h => ((mn r).1 hr).2 (List.mem_filter.1 h).1)
  have e3 : editR (recordsS la) d = some (((recordsS la).filter fun r => !decide (r ∈ d.gone)) ++ d.new) := by
    rw [editR, e1]; exact e2
  generalize hmg : ((recordsS la).filter fun r => !decide (r ∈ d.gone)) ++ d.new = m at e3
  have hm : ∀ r, r ∈ m ↔ r ∈ recordsS lb := by
    intro r
    rw [← hmg, List.mem_append, List.mem_filter, mn r]
    simp only [Bool.not_eq_true', decide_eq_false_iff_not, mg r, not_and, Decidable.not_not]
    constructor
    · rintro (⟨h3, h4⟩ | ⟨h3, _⟩)
      · exact h4 h3
      · exact h3
    · intro h3
      by_cases h4 : r ∈ recordsS la
      · exact .inl ⟨h4, fun _ => h3⟩
      · exact .inr ⟨h3, h4⟩
  have hnd : m.Nodup := by
    rw [← hmg, List.nodup_append]
    refine ⟨ha.nodup.filter _, hn, ?_⟩
    intro x hx y hy e
    subst e
    exact ((mn x).1 hy).2 (List.mem_filter.1 hx).1
  have hperm := (List.perm_ext_iff_of_nodup hnd hb.nodup).2 hm
  obtain ⟨c1, c2, c3⟩ := load_congr (o := o) hm
  obtain ⟨b1, b2, b3⟩ := hb.again
  rw [b1] at c1
  rw [b2] at c2
  rw [b3] at c3
  have hend : endE o m d.to = 0 := by
    unfold endE
    rw [if_pos c1, c2, c3, if_pos]
    refine ⟨h2.symm, hperm.length_eq.symm, ?_⟩
    unfold lessR
    rw [List.filter_eq_nil_iff]
    intro r hr
    simp [(hm r).1 hr]
  have hE : appE o la d = 0 := by
    unfold appE
    rw [if_pos (zone_ok' ha), if_pos h1.symm, e3]
    exact hend
  refine ⟨hE, ?_, ?_⟩
  · rw [appL, if_pos hE, e3]; exact c3
  · rw [appO, if_pos hE, e3]; exact c2
theorem mk_ok {oa ob : List UInt8} {la lb : List RSet} (h : mkE oa la ob lb = 0) : ZoneOk oa la ∧ ZoneOk oa lb ∧ oa = ob ∧ mkD oa la ob lb = ⟨(soaZ oa la).serial, (soaZ oa lb).serial, lessR (recordsS la) (recordsS lb), lessR (recordsS lb) (recordsS la)⟩ := by
  have h0 := h
  unfold mkE at h
  split at h
  · rename_i q1
    split at h
    · rename_i q2
      split at h
      · rename_i q3
        subst q3
        exact ⟨zone_ok q1, zone_ok q2, rfl, by rw [mkD, if_pos h0]⟩
      · cases h
    · rename_i q2; exact absurd h q2
  · rename_i q1; exact absurd h q1
/-- what was made of two zones makes the second one of the first one, and back -/
theorem back_ok {oa ob : List UInt8} {la lb : List RSet} (h : mkE oa la ob lb = 0) :
    (appE oa la (mkD oa la ob lb) = 0 ∧ appL oa la (mkD oa la ob lb) = lb ∧ appO oa la (mkD oa la ob lb) = oa) ∧
    (appE oa lb (invD (mkD oa la ob lb)) = 0 ∧ appL oa lb (invD (mkD oa la ob lb)) = la ∧ appO oa lb (invD (mkD oa la ob lb)) = oa) := by
  obtain ⟨ha, hb, _, hd⟩ := mk_ok h
  rw [hd]
  exact ⟨apply_ok ha hb rfl rfl (less_nodup ha.nodup) (less_nodup hb.nodup) (fun r => mem_less) (fun r => mem_less),
    apply_ok hb ha rfl rfl (less_nodup hb.nodup) (less_nodup ha.nodup) (fun r => mem_less) (fun r => mem_less)⟩
theorem nodup_two {a b : List Rec} (ha : a.Nodup) (hb : b.Nodup) (h : ∀ r ∈ a, r ∉ b) : (a ++ b).Nodup := by
  rw [List.nodup_append]
  exact ⟨ha, hb, fun x hx y hy e => h x hx (e ▸ hy)⟩
/-- two of them, one behind the other -/
theorem two_ok {oa ob oc : List UInt8} {la lb lc : List RSet} (h : mkE oa la ob lb = 0) (k : mkE ob lb oc lc = 0) :
    comE (mkD oa la ob lb) (mkD ob lb oc lc) = 0 ∧ appE oa la (comD (mkD oa la ob lb) (mkD ob lb oc lc)) = 0 ∧ appL oa la (comD (mkD oa la ob lb) (mkD ob lb oc lc)) = lc ∧ appO oa la (comD (mkD oa la ob lb) (mkD ob lb oc lc)) = oa ∧ oa = oc := by
  obtain ⟨ha, hb, e1, hd⟩ := mk_ok h
  subst e1
  obtain ⟨_, hc, e2, hk⟩ := mk_ok k
  subst e2
  rw [hd, hk]
  have h0 : comE ⟨(soaZ oa la).serial, (soaZ oa lb).serial, lessR (recordsS la) (recordsS lb), lessR (recordsS lb) (recordsS la)⟩ ⟨(soaZ oa lb).serial, (soaZ oa lc).serial, lessR (recordsS lb) (recordsS lc), lessR (recordsS lc) (recordsS lb)⟩ = 0 := by
    rw [comE, if_pos rfl]
  refine ⟨h0, ?_⟩
  rw [comD, if_pos h0]
  generalize hx : recordsS la = x
  generalize hy : recordsS lb = y
  generalize hz : recordsS lc = z
  have nx : x.Nodup := hx ▸ ha.nodup
  have ny : y.Nodup := hy ▸ hb.nodup
  have nz : z.Nodup := hz ▸ hc.nodup
  have ng : (lessR x y ++ lessR (lessR y z) (lessR y x)).Nodup := nodup_two (less_nodup nx) (less_nodup (less_nodup ny)) (fun r h1 h2 => by
    simp only [mem_less] at h1 h2
    exact h1.2 h2.1.1)
  have nn : (lessR (lessR y x) (lessR y z) ++ lessR z y).Nodup := nodup_two (less_nodup (less_nodup ny)) (less_nodup nz) (fun r h1 h2 => by
    simp only [mem_less] at h1 h2
    exact h2.2 h1.1.1)
  have hh := apply_ok ha hc (d := ⟨(soaZ oa la).serial, (soaZ oa lc).serial, lessR (lessR x y ++ lessR (lessR y z) (lessR y x)) (lessR (lessR y x) (lessR y z) ++ lessR z y), lessR (lessR (lessR y x) (lessR y z) ++ lessR z y) (lessR x y ++ lessR (lessR y z) (lessR y x))⟩) rfl rfl (less_nodup ng) (less_nodup nn)
    (fun r => by
      simp only [mem_less, List.mem_append, hx, hz]
      by_cases p : r ∈ x <;> by_cases q : r ∈ y <;> by_cases s : r ∈ z <;> simp [p, q, s])
    (fun r => by
      simp only [mem_less, List.mem_append, hx, hz]
      by_cases p : r ∈ x <;> by_cases q : r ∈ y <;> by_cases s : r ∈ z <;> simp [p, q, s])
  exact ⟨hh.1, hh.2.1, hh.2.2, rfl⟩
theorem less_self (a : List Rec) : lessR a a = [] := by
  unfold lessR
  rw [List.filter_eq_nil_iff]
  intro r hr
  simp [hr]
/-- a delta and its way back are, one behind the other, none -/
theorem none_ok (d : DeltaR) : comE d (invD d) = 0 ∧ comD d (invD d) = ⟨d.fr, d.fr, [], []⟩ := by
  have h0 : comE d (invD d) = 0 := if_pos rfl
  refine ⟨h0, ?_⟩
  rw [comD, if_pos h0]
  have e1 : comG d (invD d) = d.gone := by simp [comG, invD, less_self]
  have e2 : comN d (invD d) = d.gone := by simp [comN, invD, less_self]
  rw [e1, e2, less_self]
  rfl
/-! ### records held against each other; slices.Index, slices.Contains at records; the reference's Has -/
def zrec : List Value := [str [], .int .i64 0, .int .i64 0, str []]
theorem Runs.eqlRec {r q : Rec} {x y : Operand} {a : Act} {w : World} {d : Option Nat} {u ty : TypeId} {ps : String} {af : Array Edge} {g : Option (Nat × Bool)}
    (hx : a.eval x = .agg #[str r.name, .int .i64 r.kind, .int .i64 r.ttl, str r.data]) (hy : a.eval y = .agg #[str q.name, .int .i64 q.kind, .int .i64 q.ttl, str q.data]) :
    Runs Tryz.prog (Oper.mk d (.binOp .eql 75 x y u) ty ps af g) a w (.bool (decide (r = q))) := by
  constructor
  have hg := run_eqGuard_agg (P := Tryz.prog) w .eql 75 x y #[str r.name, .int .i64 r.kind, .int .i64 r.ttl, str r.data] #[str q.name, .int .i64 q.kind, .int .i64 q.ttl, str q.data] (by kernel_rfl)
  simp only [execOp, hx, hy, Sem.run_bind, hg, Result.andThen_ok, run_eql_struct, run_eqRec, Sem.run_pure]
theorem any_mem {l : List Rec} {r : Rec} : l.any (fun q => decide (r = q)) = decide (r ∈ l) := by
  rw [Bool.eq_iff_iff, List.any_eq_true, decide_eq_true_eq]
  constructor
  · rintro ⟨q, hq, h⟩; rw [decide_eq_true_eq] at h; exact h ▸ hq
  · intro h; exact ⟨r, h, by simp⟩
set_option maxHeartbeats 3000000 in
theorem p_Index (v : Value) (l : List Rec) (r : Rec) (w : World) (hv : Sl 4 w v (rcells l)) : Calls Tryz.prog 74 #[v, .agg #[str r.name, .int .i64 r.kind, .int .i64 r.ttl, str r.data]] w (RetV w (.int .i64 (idxI (fun q => decide (r = q)) l))) := by
  have hlen := rcells_length l
  have hle := hv.le
  go_enter Tryz.func74, Tryz.ntmps74
  repeat' ((fail_if_success (with_reducible refine o_s ?_)); go_step)
  refine wpl_box (vs := [str r.name, .int .i64 r.kind, .int .i64 r.ttl, str r.data]) rfl rfl ?_
  intro p w1 x1 hp
  refine gset ?_
  have hv1 := hv.ext x1
  repeat' (first | ((with_reducible refine o_s ?_); (first | (refine o_1 ?_; refine o_2 ?_) | (refine o_g ?_; first | refine o_u ?_ | refine o_k ?_ | refine o_n ?_ | refine o_v ?_ | ((first | refine o_G ?_ ?_ | refine o_N ?_ ?_) <;> intro hc)))) | ((fail_if_success (with_reducible refine o_s ?_)); go_step))
  go_loopw [5, 8] (fun _ i wr => ∃ k : Nat, k ≤ l.length ∧ i = .int .i64 k ∧ Ext w1 wr ∧ (l.take k).any (fun q => decide (r = q)) = false) (fun _ i _ => l.length - (intOf i).toNat)
  case atStart => exact ⟨0, Nat.zero_le _, rfl, Ext.refl _, rfl⟩
  case round =>
    obtain ⟨k, hk, rfl, hx, hall⟩ := hrel
    have hv2 := hv1.ext hx
    have hp2 := hp.ext hx
    by_cases hlt : k < l.length
    · have hpe := hv2.elem (rcells_at hlt)
      repeat' (first | ((with_reducible refine o_s ?_); (first | (refine o_1 ?_; refine o_2 ?_) | (refine o_g ?_; first | refine o_u ?_ | refine o_k ?_ | refine o_n ?_ | refine o_v ?_ | ((first | refine o_G ?_ ?_ | refine o_N ?_ ?_) <;> intro hc)))) | ((fail_if_success (with_reducible refine o_s ?_)); go_step))
      refine wpq_region (by decide +kernel) (by decide +kernel) ?_
      repeat' (first | ((with_reducible refine q_s ?_); (first | (refine q_1 ?_; refine q_2 ?_) | (refine q_g ?_; first | refine q_u ?_ | refine q_k ?_ | refine q_v ?_))) | (with_reducible refine q_n ?_))
      refine wpq_run0 (fun w' _ => Runs.eqlRec (r := r) (q := l[k]) rfl rfl) ?_
      refine gset ?_
      repeat' (first | ((with_reducible refine q_s ?_); (first | (refine q_1 ?_; refine q_2 ?_) | (refine q_g ?_; first | refine q_u ?_ | refine q_k ?_ | refine q_v ?_))) | (with_reducible refine q_n ?_))
      intro w2 x2
      cases he : decide (r = l[k]) with
      | true =>
        repeat' (first | ((with_reducible refine o_s ?_); (first | (refine o_1 ?_; refine o_2 ?_) | (refine o_g ?_; first | refine o_u ?_ | refine o_k ?_ | refine o_n ?_ | refine o_v ?_ | ((first | refine o_G ?_ ?_ | refine o_N ?_ ?_) <;> intro hc)))) | ((fail_if_success (with_reducible refine o_s ?_)); go_step))
        go_ret
        exact ⟨by rw [idx_at hlt hall he]; rfl, (x1.trans hx).trans x2⟩
      | false =>
        repeat' (first | ((with_reducible refine o_s ?_); (first | (refine o_1 ?_; refine o_2 ?_) | (refine o_g ?_; first | refine o_u ?_ | refine o_k ?_ | refine o_n ?_ | refine o_v ?_ | ((first | refine o_G ?_ ?_ | refine o_N ?_ ?_) <;> intro hc)))) | ((fail_if_success (with_reducible refine o_s ?_)); go_step))
        exact ⟨⟨k + 1, by omega, by go_num, hx.trans x2, any_take hlt hall he⟩, by simp [intOf]; omega⟩
    · have : k = l.length := by omega
      subst this
      rw [List.take_length] at hall
      repeat' (first | ((with_reducible refine o_s ?_); (first | (refine o_1 ?_; refine o_2 ?_) | (refine o_g ?_; first | refine o_u ?_ | refine o_k ?_ | refine o_n ?_ | refine o_v ?_ | ((first | refine o_G ?_ ?_ | refine o_N ?_ ?_) <;> intro hc)))) | ((fail_if_success (with_reducible refine o_s ?_)); go_step))
      go_ret
      exact ⟨by rw [idx_no hall]; rfl, x1.trans hx⟩
theorem p_Contains (v : Value) (l : List Rec) (r : Rec) (w : World) (hv : Sl 4 w v (rcells l)) : Calls Tryz.prog 76 #[v, .agg #[str r.name, .int .i64 r.kind, .int .i64 r.ttl, str r.data]] w (RetV w (.bool (decide (r ∈ l)))) := by
  go_enter Tryz.func76, Tryz.ntmps76
  repeat' ((fail_if_success (with_reducible refine o_s ?_)); go_step)
  refine wpl_box (vs := [str r.name, .int .i64 r.kind, .int .i64 r.ttl, str r.data]) rfl rfl ?_
  intro p w1 x1 hp
  refine gset ?_
  repeat' (first | ((with_reducible refine o_s ?_); (first | (refine o_1 ?_; refine o_2 ?_) | (refine o_g ?_; first | refine o_u ?_ | refine o_k ?_ | refine o_n ?_ | refine o_v ?_ | ((first | refine o_G ?_ ?_ | refine o_N ?_ ?_) <;> intro hc)))) | ((fail_if_success (with_reducible refine o_s ?_)); go_step))
  refine wpl_callV (enters_of Tryz.func74 rfl rfl) rfl rfl (p_Index v l r _ (hv.ext x1)) ?_; intro w2 x2; refine gset ?_
  repeat' (first | ((with_reducible refine o_s ?_); (first | (refine o_1 ?_; refine o_2 ?_) | (refine o_g ?_; first | refine o_u ?_ | refine o_k ?_ | refine o_n ?_ | refine o_v ?_ | ((first | refine o_G ?_ ?_ | refine o_N ?_ ?_) <;> intro hc)))) | ((fail_if_success (with_reducible refine o_s ?_)); go_step))
  go_ret
  exact ⟨by rw [← any_mem, ← idx_any]; rfl, x1.trans x2⟩
set_option maxHeartbeats 3000000 in
/-- lodestarref10.Has -/
theorem r10_Has (v : Value) (l : List Rec) (r : Rec) (w : World) (hv : Sl 4 w v (rcells l)) : Calls Tryz.prog 77 #[v, .agg #[str r.name, .int .i64 r.kind, .int .i64 r.ttl, str r.data]] w (RetV w (.bool (decide (r ∈ l)))) := by
  have hlen := rcells_length l
  have hle := hv.le
  go_enter Tryz.func77, Tryz.ntmps77
  repeat' ((fail_if_success (with_reducible refine o_s ?_)); go_step)
  refine wpl_box (vs := [str r.name, .int .i64 r.kind, .int .i64 r.ttl, str r.data]) rfl rfl ?_
  intro p w1 x1 hp
  refine gset ?_
  have hv1 := hv.ext x1
  repeat' (first | ((with_reducible refine o_s ?_); (first | (refine o_1 ?_; refine o_2 ?_) | (refine o_g ?_; first | refine o_u ?_ | refine o_k ?_ | refine o_n ?_ | refine o_v ?_ | ((first | refine o_G ?_ ?_ | refine o_N ?_ ?_) <;> intro hc)))) | ((fail_if_success (with_reducible refine o_s ?_)); go_step))
  go_loopw [5] (fun i wr => ∃ k : Nat, k ≤ l.length ∧ i = .int .i64 k ∧ Ext w1 wr ∧ (l.take k).any (fun q => decide (r = q)) = false) (fun i _ => l.length - (intOf i).toNat)
  case atStart => exact ⟨0, Nat.zero_le _, rfl, Ext.refl _, rfl⟩
  case round =>
    obtain ⟨k, hk, rfl, hx, hall⟩ := hrel
    have hv2 := hv1.ext hx
    have hp2 := hp.ext hx
    by_cases hlt : k < l.length
    · have hpe := hv2.elem (rcells_at hlt)
      repeat' (first | ((with_reducible refine o_s ?_); (first | (refine o_1 ?_; refine o_2 ?_) | (refine o_g ?_; first | refine o_u ?_ | refine o_k ?_ | refine o_n ?_ | refine o_v ?_ | ((first | refine o_G ?_ ?_ | refine o_N ?_ ?_) <;> intro hc)))) | ((fail_if_success (with_reducible refine o_s ?_)); go_step))
      refine wpq_region (by decide +kernel) (by decide +kernel) ?_
      repeat' (first | ((with_reducible refine q_s ?_); (first | (refine q_1 ?_; refine q_2 ?_) | (refine q_g ?_; first | refine q_u ?_ | refine q_k ?_ | refine q_v ?_))) | (with_reducible refine q_n ?_))
      refine wpq_run0 (fun w' _ => Runs.eqlRec (r := l[k]) (q := r) rfl rfl) ?_
      refine gset ?_
      repeat' (first | ((with_reducible refine q_s ?_); (first | (refine q_1 ?_; refine q_2 ?_) | (refine q_g ?_; first | refine q_u ?_ | refine q_k ?_ | refine q_v ?_))) | (with_reducible refine q_n ?_))
      intro w2 x2
      have hsw : decide (l[k] = r) = decide (r = l[k]) := by rw [Bool.eq_iff_iff]; simp [eq_comm]
      rw [hsw]
      cases he : decide (r = l[k]) with
      | true =>
        repeat' (first | ((with_reducible refine o_s ?_); (first | (refine o_1 ?_; refine o_2 ?_) | (refine o_g ?_; first | refine o_u ?_ | refine o_k ?_ | refine o_n ?_ | refine o_v ?_ | ((first | refine o_G ?_ ?_ | refine o_N ?_ ?_) <;> intro hc)))) | ((fail_if_success (with_reducible refine o_s ?_)); go_step))
        go_ret
        exact ⟨by rw [← any_mem, any_at hlt he]; rfl, (x1.trans hx).trans x2⟩
      | false =>
        repeat' (first | ((with_reducible refine o_s ?_); (first | (refine o_1 ?_; refine o_2 ?_) | (refine o_g ?_; first | refine o_u ?_ | refine o_k ?_ | refine o_n ?_ | refine o_v ?_ | ((first | refine o_G ?_ ?_ | refine o_N ?_ ?_) <;> intro hc)))) | ((fail_if_success (with_reducible refine o_s ?_)); go_step))
        exact ⟨⟨k + 1, by omega, by go_num, hx.trans x2, any_take hlt hall he⟩, by simp [intOf]; omega⟩
    · have : k = l.length := by omega
      subst this
      rw [List.take_length] at hall
      repeat' (first | ((with_reducible refine o_s ?_); (first | (refine o_1 ?_; refine o_2 ?_) | (refine o_g ?_; first | refine o_u ?_ | refine o_k ?_ | refine o_n ?_ | refine o_v ?_ | ((first | refine o_G ?_ ?_ | refine o_N ?_ ?_) <;> intro hc)))) | ((fail_if_success (with_reducible refine o_s ?_)); go_step))
      go_ret
      exact ⟨by rw [← any_mem, hall]; rfl, x1.trans hx⟩
/-! ### less, of both -/
theorem less_take {a b : List Rec} {k : Nat} (h : k < a.length) : lessR (a.take (k + 1)) b = lessR (a.take k) b ++ (if a[k] ∈ b then [] else [a[k]]) := by
  unfold lessR
  rw [List.take_succ_eq_append_getElem h, List.filter_append]
  congr 1
  by_cases hm : a[k] ∈ b <;> simp [hm]
theorem less_len (a b : List Rec) : (lessR a b).length ≤ a.length := List.length_filter_le _ _
theorem rec_elem {ts : List Value} {df : List Deferred} {x : Operand} {r : Rec} (h : (Act.mk ts.toArray df).eval x = .agg #[str r.name, .int .i64 r.kind, .int .i64 r.ttl, str r.data]) : ElemIs (Act.mk ts.toArray df) x 4 [str r.name, .int .i64 r.kind, .int .i64 r.ttl, str r.data] :=
  ⟨h, rfl, rfl, by intro u hu; simp only [List.mem_cons, List.not_mem_nil, or_false] at hu; rcases hu with rfl | rfl | rfl | rfl <;> rfl⟩
set_option maxHeartbeats 3000000 in
/-- diff.less -/
theorem p_less (u v : Value) (a b : List Rec) (w : World) (hu : Sl 4 w u (rcells a)) (hv : Sl 4 w v (rcells b)) (hl : a.length ≤ 100000) : Calls Tryz.prog 67 #[u, v] w (Ret w fun r w' => Own w.heap.size 4 75 w' r (rcells (lessR a b))) := by
  have hlen := rcells_length a
  go_enter Tryz.func67, Tryz.ntmps67
  repeat' (first | ((with_reducible refine o_s ?_); (first | (refine o_1 ?_; refine o_2 ?_) | (refine o_g ?_; first | refine o_u ?_ | refine o_k ?_ | refine o_n ?_ | refine o_v ?_ | ((first | refine o_G ?_ ?_ | refine o_N ?_ ?_) <;> intro hc)))) | ((fail_if_success (with_reducible refine o_s ?_)); go_step))
  go_loopw [5, 7, 10] (fun o _ i wr => ∃ k : Nat, k ≤ a.length ∧ i = .int .i64 k ∧ Ext w wr ∧ Own w.heap.size 4 75 wr o (rcells (lessR (a.take k) b))) (fun _ _ i _ => a.length - (intOf i).toNat)
  case atStart => exact ⟨0, Nat.zero_le _, rfl, Ext.refl _, by simpa [lessR, rcells] using Own.nil _ _ _ _⟩
  case round =>
    obtain ⟨k, hk, rfl, hx, ho⟩ := hrel
    have hu2 := hu.ext hx
    by_cases hlt : k < a.length
    · have hpe := hu2.elem (rcells_at hlt)
      have hst := less_take (b := b) hlt
      have hll := less_len (a.take k) b
      rw [List.length_take] at hll
      have hcl := rcells_length (lessR (a.take k) b)
      repeat' (first | ((with_reducible refine o_s ?_); (first | (refine o_1 ?_; refine o_2 ?_) | (refine o_g ?_; first | refine o_u ?_ | refine o_k ?_ | refine o_n ?_ | refine o_v ?_ | ((first | refine o_G ?_ ?_ | refine o_N ?_ ?_) <;> intro hc)))) | ((fail_if_success (with_reducible refine o_s ?_)); go_step))
      refine wpl_allocB (z := zrec) rfl (by decide +kernel) ?_
      intro w2 x2 s2 h2
      refine gset ?_
      refine wpl_storeB (v := .agg #[str a[k].name, .int .i64 a[k].kind, .int .i64 a[k].ttl, str a[k].data]) rfl rfl rfl h2 (show sizeTy Tryz.prog 75 4 = true by decide +kernel) rfl (all4 rfl rfl rfl rfl) ?_
      intro w3 p3
      have x3 : Ext wr w3 := x2.move p3.mv (by rintro k ⟨⟩; exact Nat.le_refl _)
      have hp3 := pts_block (cs := [str a[k].name, .int .i64 a[k].kind, .int .i64 a[k].ttl, str a[k].data]) p3.this
      have hx3 := hx.trans x3
      have ho3 := ho.ext x3
      clear p3 h2 x2
      repeat' (first | ((with_reducible refine o_s ?_); (first | (refine o_1 ?_; refine o_2 ?_) | (refine o_g ?_; first | refine o_u ?_ | refine o_k ?_ | refine o_n ?_ | refine o_v ?_ | ((first | refine o_G ?_ ?_ | refine o_N ?_ ?_) <;> intro hc)))) | ((fail_if_success (with_reducible refine o_s ?_)); go_step))
      refine wpl_callV (enters_of Tryz.func76 rfl rfl) rfl rfl (p_Contains v b a[k] _ (hv.ext hx3)) ?_; intro w4 x4; refine gset ?_
      have hx4 := hx3.trans x4
      have ho4 := ho3.ext x4
      have hp4 := hp3.ext x4
      by_cases hm : a[k] ∈ b
      · rw [decide_eq_true hm]
        rw [if_pos hm, List.append_nil] at hst
        repeat' (first | ((with_reducible refine o_s ?_); (first | (refine o_1 ?_; refine o_2 ?_) | (refine o_g ?_; first | refine o_u ?_ | refine o_k ?_ | refine o_n ?_ | refine o_v ?_ | ((first | refine o_G ?_ ?_ | refine o_N ?_ ?_) <;> intro hc)))) | ((fail_if_success (with_reducible refine o_s ?_)); go_step))
        exact ⟨⟨k + 1, by omega, by go_num, hx4, by rw [hst]; exact ho4⟩, by simp [intOf]; omega⟩
      · rw [decide_eq_false hm]
        rw [if_neg hm] at hst
        repeat' (first | ((with_reducible refine o_s ?_); (first | (refine o_1 ?_; refine o_2 ?_) | (refine o_g ?_; first | refine o_u ?_ | refine o_k ?_ | refine o_n ?_ | refine o_v ?_ | ((first | refine o_G ?_ ?_ | refine o_N ?_ ?_) <;> intro hc)))) | ((fail_if_success (with_reducible refine o_s ?_)); go_step))
        refine ap1 [str a[k].name, .int .i64 a[k].kind, .int .i64 a[k].ttl, str a[k].data] hx4 ho4 (by omega) ?_ (rec_elem rfl)
        intro s5 v5 w5 w6 x5 m6 x6 o6
        refine gset ?_
        repeat' (first | ((with_reducible refine o_s ?_); (first | (refine o_1 ?_; refine o_2 ?_) | (refine o_g ?_; first | refine o_u ?_ | refine o_k ?_ | refine o_n ?_ | refine o_v ?_ | ((first | refine o_G ?_ ?_ | refine o_N ?_ ?_) <;> intro hc)))) | ((fail_if_success (with_reducible refine o_s ?_)); go_step))
        refine ⟨⟨k + 1, by omega, by go_num, x6, ?_⟩, by simp [intOf]; omega⟩
        rw [hst]
        simpa [rcells, Rec.cells] using o6
    · have : k = a.length := by omega
      subst this
      rw [List.take_length] at ho
      repeat' (first | ((with_reducible refine o_s ?_); (first | (refine o_1 ?_; refine o_2 ?_) | (refine o_g ?_; first | refine o_u ?_ | refine o_k ?_ | refine o_n ?_ | refine o_v ?_ | ((first | refine o_G ?_ ?_ | refine o_N ?_ ?_) <;> intro hc)))) | ((fail_if_success (with_reducible refine o_s ?_)); go_step))
      go_ret
      exact ⟨_, rfl, hx, ho⟩
set_option maxHeartbeats 3000000 in
/-- lodestarref10.less -/
theorem r10_less (u v : Value) (a b : List Rec) (w : World) (hu : Sl 4 w u (rcells a)) (hv : Sl 4 w v (rcells b)) (hl : a.length ≤ 100000) : Calls Tryz.prog 70 #[u, v] w (Ret w fun r w' => Own w.heap.size 4 75 w' r (rcells (lessR a b))) := by
  have hlen := rcells_length a
  go_enter Tryz.func70, Tryz.ntmps70
  repeat' (first | ((with_reducible refine o_s ?_); (first | (refine o_1 ?_; refine o_2 ?_) | (refine o_g ?_; first | refine o_u ?_ | refine o_k ?_ | refine o_n ?_ | refine o_v ?_ | ((first | refine o_G ?_ ?_ | refine o_N ?_ ?_) <;> intro hc)))) | ((fail_if_success (with_reducible refine o_s ?_)); go_step))
  go_loopw [5, 6] (fun o i wr => ∃ k : Nat, k ≤ a.length ∧ i = .int .i64 k ∧ Ext w wr ∧ Own w.heap.size 4 75 wr o (rcells (lessR (a.take k) b))) (fun _ i _ => a.length - (intOf i).toNat)
  case atStart => exact ⟨0, Nat.zero_le _, rfl, Ext.refl _, by simpa [lessR, rcells] using Own.nil _ _ _ _⟩
  case round =>
    obtain ⟨k, hk, rfl, hx, ho⟩ := hrel
    have hu2 := hu.ext hx
    by_cases hlt : k < a.length
    · have hpe := hu2.elem (rcells_at hlt)
      have hst := less_take (b := b) hlt
      have hll := less_len (a.take k) b
      rw [List.length_take] at hll
      have hcl := rcells_length (lessR (a.take k) b)
      repeat' (first | ((with_reducible refine o_s ?_); (first | (refine o_1 ?_; refine o_2 ?_) | (refine o_g ?_; first | refine o_u ?_ | refine o_k ?_ | refine o_n ?_ | refine o_v ?_ | ((first | refine o_G ?_ ?_ | refine o_N ?_ ?_) <;> intro hc)))) | ((fail_if_success (with_reducible refine o_s ?_)); go_step))
      refine wpl_callV (enters_of Tryz.func77 rfl rfl) rfl rfl (r10_Has v b a[k] _ (hv.ext hx)) ?_; intro w4 x4; refine gset ?_
      have hx4 := hx.trans x4
      have ho4 := ho.ext x4
      have hu4 := hu2.ext x4
      have hpe4 := hpe.ext x4
      by_cases hm : a[k] ∈ b
      · rw [decide_eq_true hm]
        rw [if_pos hm, List.append_nil] at hst
        repeat' (first | ((with_reducible refine o_s ?_); (first | (refine o_1 ?_; refine o_2 ?_) | (refine o_g ?_; first | refine o_u ?_ | refine o_k ?_ | refine o_n ?_ | refine o_v ?_ | ((first | refine o_G ?_ ?_ | refine o_N ?_ ?_) <;> intro hc)))) | ((fail_if_success (with_reducible refine o_s ?_)); go_step))
        exact ⟨⟨k + 1, by omega, by go_num, hx4, by rw [hst]; exact ho4⟩, by simp [intOf]; omega⟩
      · rw [decide_eq_false hm]
        rw [if_neg hm] at hst
        repeat' (first | ((with_reducible refine o_s ?_); (first | (refine o_1 ?_; refine o_2 ?_) | (refine o_g ?_; first | refine o_u ?_ | refine o_k ?_ | refine o_n ?_ | refine o_v ?_ | ((first | refine o_G ?_ ?_ | refine o_N ?_ ?_) <;> intro hc)))) | ((fail_if_success (with_reducible refine o_s ?_)); go_step))
        refine ap1 [str a[k].name, .int .i64 a[k].kind, .int .i64 a[k].ttl, str a[k].data] hx4 ho4 (by omega) ?_ (rec_elem rfl)
        intro s5 v5 w5 w6 x5 m6 x6 o6
        refine gset ?_
        repeat' (first | ((with_reducible refine o_s ?_); (first | (refine o_1 ?_; refine o_2 ?_) | (refine o_g ?_; first | refine o_u ?_ | refine o_k ?_ | refine o_n ?_ | refine o_v ?_ | ((first | refine o_G ?_ ?_ | refine o_N ?_ ?_) <;> intro hc)))) | ((fail_if_success (with_reducible refine o_s ?_)); go_step))
        refine ⟨⟨k + 1, by omega, by go_num, x6, ?_⟩, by simp [intOf]; omega⟩
        rw [hst]
        simpa [rcells, Rec.cells] using o6
    · have : k = a.length := by omega
      subst this
      rw [List.take_length] at ho
      repeat' (first | ((with_reducible refine o_s ?_); (first | (refine o_1 ?_; refine o_2 ?_) | (refine o_g ?_; first | refine o_u ?_ | refine o_k ?_ | refine o_n ?_ | refine o_v ?_ | ((first | refine o_G ?_ ?_ | refine o_N ?_ ?_) <;> intro hc)))) | ((fail_if_success (with_reducible refine o_s ?_)); go_step))
      go_ret
      exact ⟨_, rfl, hx, ho⟩
set_option maxHeartbeats 3000000 in
/-- slices.Clone at records -/
theorem p_CloneR (v : Value) (l : List Rec) (w : World) (hv : Sl 4 w v (rcells l)) (hl : l.length ≤ 1000000) : Calls Tryz.prog 82 #[v] w (Ret w fun v' w' => Own w.heap.size 4 75 w' v' (rcells l)) := by
  have hlen := rcells_length l
  go_enter Tryz.func82, Tryz.ntmps82
  repeat' (first | ((with_reducible refine o_s ?_); (first | (refine o_1 ?_; refine o_2 ?_) | (refine o_g ?_; first | refine o_u ?_ | refine o_k ?_ | refine o_n ?_ | refine o_v ?_ | ((first | refine o_G ?_ ?_ | refine o_N ?_ ?_) <;> intro hc)))) | ((fail_if_success (with_reducible refine o_s ?_)); go_step))
  · have hn := ‹isNil v = true›
    go_ret
    have : rcells l = [] := hv.isNil hn
    refine ⟨_, rfl, Ext.refl _, ?_⟩
    rw [this]
    exact Own.nil _ _ _ _
  · refine wpl_slice0 (t := 28) (e := 75) (k := 4) (bytes := 48) (by decide +kernel) rfl ?_
    intro v2 w2 x2 s2 o2
    refine gset ?_
    repeat' (first | ((with_reducible refine o_s ?_); (first | (refine o_1 ?_; refine o_2 ?_) | (refine o_g ?_; first | refine o_u ?_ | refine o_k ?_ | refine o_n ?_ | refine o_v ?_ | ((first | refine o_G ?_ ?_ | refine o_N ?_ ?_) <;> intro hc)))) | ((fail_if_success (with_reducible refine o_s ?_)); go_step))
    refine wpl_appendO (B := w.heap.size) (e := 75) rfl o2 rfl (hv.ext x2) (by intro f hf u hu; obtain ⟨r, _, rfl⟩ := List.mem_map.1 hf; simp only [Rec.cells, List.mem_cons, List.not_mem_nil, or_false] at hu; rcases hu with rfl | rfl | rfl | rfl <;> rfl) x2.size (by simp; omega) ?_
    intro v3 w3 o3 m3 _
    have x3 := o2.mvx m3 x2 (Nat.le_refl _)
    refine gset ?_
    repeat' (first | ((with_reducible refine o_s ?_); (first | (refine o_1 ?_; refine o_2 ?_) | (refine o_g ?_; first | refine o_u ?_ | refine o_k ?_ | refine o_n ?_ | refine o_v ?_ | ((first | refine o_G ?_ ?_ | refine o_N ?_ ?_) <;> intro hc)))) | ((fail_if_success (with_reducible refine o_s ?_)); go_step))
    go_ret
    exact ⟨_, rfl, x3, by simpa using o3⟩
set_option maxHeartbeats 3000000 in
/-- lodestarref10.without -/
theorem r10_without (v : Value) (l : List Rec) (r : Rec) (w : World) (hv : Sl 4 w v (rcells l)) (hl : l.length ≤ 100000) : Calls Tryz.prog 78 #[v, .agg #[str r.name, .int .i64 r.kind, .int .i64 r.ttl, str r.data]] w (Ret w fun u w' => Own w.heap.size 4 75 w' u (rcells (l.erase r))) := by
  have hlen := rcells_length l
  go_enter Tryz.func78, Tryz.ntmps78
  repeat' ((fail_if_success (with_reducible refine o_s ?_)); go_step)
  refine wpl_box (vs := [str r.name, .int .i64 r.kind, .int .i64 r.ttl, str r.data]) rfl rfl ?_
  intro p w1 x1 hp
  refine gset ?_
  have hv1 := hv.ext x1
  repeat' (first | ((with_reducible refine o_s ?_); (first | (refine o_1 ?_; refine o_2 ?_) | (refine o_g ?_; first | refine o_u ?_ | refine o_k ?_ | refine o_n ?_ | refine o_v ?_ | ((first | refine o_G ?_ ?_ | refine o_N ?_ ?_) <;> intro hc)))) | ((fail_if_success (with_reducible refine o_s ?_)); go_step))
  go_loopw [5, 6] (fun o i wr => ∃ k : Nat, k ≤ l.length ∧ i = .int .i64 k ∧ Ext w1 wr ∧ r ∉ l.take k ∧ Own w1.heap.size 4 75 wr o (rcells (l.take k))) (fun _ i _ => l.length - (intOf i).toNat)
  case atStart => exact ⟨0, Nat.zero_le _, rfl, Ext.refl _, by simp, by simpa [rcells] using Own.nil _ _ _ _⟩
  case round =>
    obtain ⟨k, hk, rfl, hx, hnot, ho⟩ := hrel
    have hv2 := hv1.ext hx
    have hp2 := hp.ext hx
    by_cases hlt : k < l.length
    · have hpe := hv2.elem (rcells_at hlt)
      repeat' (first | ((with_reducible refine o_s ?_); (first | (refine o_1 ?_; refine o_2 ?_) | (refine o_g ?_; first | refine o_u ?_ | refine o_k ?_ | refine o_n ?_ | refine o_v ?_ | ((first | refine o_G ?_ ?_ | refine o_N ?_ ?_) <;> intro hc)))) | ((fail_if_success (with_reducible refine o_s ?_)); go_step))
      refine wpq_region (by decide +kernel) (by decide +kernel) ?_
      repeat' (first | ((with_reducible refine q_s ?_); (first | (refine q_1 ?_; refine q_2 ?_) | (refine q_g ?_; first | refine q_u ?_ | refine q_k ?_ | refine q_v ?_))) | (with_reducible refine q_n ?_))
      refine wpq_run0 (fun w' _ => Runs.eqlRec (r := l[k]) (q := r) rfl rfl) ?_
      refine gset ?_
      repeat' (first | ((with_reducible refine q_s ?_); (first | (refine q_1 ?_; refine q_2 ?_) | (refine q_g ?_; first | refine q_u ?_ | refine q_k ?_ | refine q_v ?_))) | (with_reducible refine q_n ?_))
      intro w2 x2
      have hx2 := hx.trans x2
      have ho2 := ho.ext x2
      have hv3 := hv2.ext x2
      have hpe3 := hpe.ext x2
      by_cases he : l[k] = r
      · rw [decide_eq_true he]
        repeat' (first | ((with_reducible refine o_s ?_); (first | (refine o_1 ?_; refine o_2 ?_) | (refine o_g ?_; first | refine o_u ?_ | refine o_k ?_ | refine o_n ?_ | refine o_v ?_ | ((first | refine o_G ?_ ?_ | refine o_N ?_ ?_) <;> intro hc)))) | ((fail_if_success (with_reducible refine o_s ?_)); go_step))
        have hcut := hv3.cut (m := k + 1) (n := (rcells l).length) (by omega) (Nat.le_refl _)
        rw [List.take_length] at hcut
        refine wpl_appendO (B := w1.heap.size) (e := 75) rfl ho2 rfl hcut (by intro f hf u hu; obtain ⟨r, _, rfl⟩ := List.mem_map.1 (List.mem_of_mem_drop hf); simp only [Rec.cells, List.mem_cons, List.not_mem_nil, or_false] at hu; rcases hu with rfl | rfl | rfl | rfl <;> rfl) hx2.size (by simp [rcells_length]; omega) ?_
        intro v4 w4 o4 m4 _
        have x4 := ho2.mvx m4 hx2 (Nat.le_refl _)
        refine gset ?_
        repeat' (first | ((with_reducible refine o_s ?_); (first | (refine o_1 ?_; refine o_2 ?_) | (refine o_g ?_; first | refine o_u ?_ | refine o_k ?_ | refine o_n ?_ | refine o_v ?_ | ((first | refine o_G ?_ ?_ | refine o_N ?_ ?_) <;> intro hc)))) | ((fail_if_success (with_reducible refine o_s ?_)); go_step))
        go_ret
        refine ⟨_, rfl, x1.trans x4, ?_⟩
        have hee : l.erase r = l.take k ++ l.drop (k + 1) := by
          conv => lhs; rw [← List.take_append_drop k l, List.drop_eq_getElem_cons hlt]
          rw [List.erase_append_right _ hnot, he, List.erase_cons_head]
        have e1 : rcells (l.take k) ++ (rcells l).drop (k + 1) = rcells (l.erase r) := by rw [hee]; simp [rcells, List.map_drop]
        rw [← e1]
        exact o4.weaken x1.size
      · rw [decide_eq_false he]
        repeat' (first | ((with_reducible refine o_s ?_); (first | (refine o_1 ?_; refine o_2 ?_) | (refine o_g ?_; first | refine o_u ?_ | refine o_k ?_ | refine o_n ?_ | refine o_v ?_ | ((first | refine o_G ?_ ?_ | refine o_N ?_ ?_) <;> intro hc)))) | ((fail_if_success (with_reducible refine o_s ?_)); go_step))
        refine ap1 [str l[k].name, .int .i64 l[k].kind, .int .i64 l[k].ttl, str l[k].data] hx2 ho2 (by rw [rcells_length, List.length_take]; omega) ?_ (rec_elem rfl)
        intro s5 v5 w5 w6 x5 m6 x6 o6
        refine gset ?_
        repeat' (first | ((with_reducible refine o_s ?_); (first | (refine o_1 ?_; refine o_2 ?_) | (refine o_g ?_; first | refine o_u ?_ | refine o_k ?_ | refine o_n ?_ | refine o_v ?_ | ((first | refine o_G ?_ ?_ | refine o_N ?_ ?_) <;> intro hc)))) | ((fail_if_success (with_reducible refine o_s ?_)); go_step))
        refine ⟨⟨k + 1, by omega, by go_num, x6, ?_, ?_⟩, by simp [intOf]; omega⟩
        · rw [List.take_succ_eq_append_getElem hlt, List.mem_append]
          rintro (h | h)
          · exact hnot h
          · exact he (List.mem_singleton.1 h).symm
        · have e1 : rcells (l.take (k + 1)) = rcells (l.take k) ++ [l[k].cells] := by rw [List.take_succ_eq_append_getElem hlt, rcells, List.map_append]; rfl
          rw [e1]
          exact o6
    · have : k = l.length := by omega
      subst this
      rw [List.take_length] at hnot ho
      repeat' (first | ((with_reducible refine o_s ?_); (first | (refine o_1 ?_; refine o_2 ?_) | (refine o_g ?_; first | refine o_u ?_ | refine o_k ?_ | refine o_n ?_ | refine o_v ?_ | ((first | refine o_G ?_ ?_ | refine o_N ?_ ?_) <;> intro hc)))) | ((fail_if_success (with_reducible refine o_s ?_)); go_step))
      go_ret
      refine ⟨_, rfl, x1.trans hx, ?_⟩
      rw [List.erase_of_not_mem hnot]
      exact ho.weaken x1.size
theorem rcells_one {l : List Rec} : ∀ f ∈ rcells l, ∀ u ∈ f, u.oneCell' = true := by
  intro f hf u hu
  obtain ⟨r, _, rfl⟩ := List.mem_map.1 hf
  simp only [Rec.cells, List.mem_cons, List.not_mem_nil, or_false] at hu
  rcases hu with rfl | rfl | rfl | rfl <;> rfl
set_option maxHeartbeats 4000000 in
/-- slices.Delete, of one record -/
theorem p_Delete {B : Nat} {v : Value} {l : List Rec} {w : World} {i : Nat} (h : Own B 4 75 w v (rcells l)) (hi : i < l.length) (hl : l.length ≤ 1000000) : Calls Tryz.prog 75 #[v, .int .i64 i, .int .i64 (i + 1 : Nat)] w fun e w' => ∃ v', e = .returned v' ∧ Own B 4 75 w' v' (rcells (l.eraseIdx i)) ∧ Mv v.ownBlock w w' ∧ v'.ownBlock = v.ownBlock := by
  have hlen := rcells_length l
  have h1c := rcells_one (l := l)
  rcases h.form with ⟨rfl, hn⟩ | ⟨g, cap, rfl, hg, hb, hc, _⟩
  · exfalso
    rw [hn] at hlen
    simp at hlen; omega
  · have hs := h.sl
    rw [hlen] at hc
    have hs' := hs
    rw [hlen] at hs'
    go_enter Tryz.func75, Tryz.ntmps75
    repeat' (first | ((with_reducible refine o_s ?_); (first | (refine o_1 ?_; refine o_2 ?_) | (refine o_g ?_; first | refine o_u ?_ | refine o_k ?_ | refine o_n ?_ | refine o_v ?_ | ((first | refine o_G ?_ ?_ | refine o_N ?_ ?_) <;> intro hc)))) | ((fail_if_success (with_reducible refine o_s ?_)); go_step))
    refine wpl_run0 (Runs.cut3 (k := 4) (m := i) (n := i + 1) (p := l.length) (l := (rcells l).length) (c := cap) (ad := some ⟨g, 0, none⟩) rfl rfl rfl (by rw [← hlen]; rfl) (by omega) (by omega) hc (by decide +kernel)) ?_
    refine gset ?_
    repeat' (first | ((with_reducible refine o_s ?_); (first | (refine o_1 ?_; refine o_2 ?_) | (refine o_g ?_; first | refine o_u ?_ | refine o_k ?_ | refine o_n ?_ | refine o_v ?_ | ((first | refine o_G ?_ ?_ | refine o_N ?_ ?_) <;> intro hc)))) | ((fail_if_success (with_reducible refine o_s ?_)); go_step))
    refine wpi_region 6 (fun w' => Sl 4 w' (Value.slice (some ⟨g, 0, none⟩) (rcells l).length cap) (rcells l)) (by decide +kernel) ?_
    intro w1 x1 _
    refine ⟨hs.ext x1, ?_⟩
    ((with_reducible apply wpi_take (i := 0)); (rfl); (rfl); (rfl); (decide +kernel); (decide +kernel); (decide +kernel); (decide +kernel); (rfl); (intro _ _; exact rn); (exact fun _ _ _ h => h); (refine gset ?_)); ((with_reducible apply wpi_take (i := 1)); (rfl); (rfl); (rfl); (decide +kernel); (decide +kernel); (decide +kernel); (decide +kernel); (rfl); (intro _ _; exact rn); (exact fun _ _ _ h => h); (refine gset ?_)); ((with_reducible apply wpi_take (i := 2)); (rfl); (rfl); (rfl); (decide +kernel); (decide +kernel); (decide +kernel); (decide +kernel); (rfl); (intro _ _; exact rn); (exact fun _ _ _ h => h); (refine gset ?_)); ((with_reducible apply wpi_take (i := 3)); (rfl); (rfl); (rfl); (decide +kernel); (decide +kernel); (decide +kernel); (decide +kernel); (rfl); (intro _ _; exact rn); (exact fun _ _ _ h => h); (refine gset ?_)); ((with_reducible apply wpi_take (i := 4)); (rfl); (rfl); (rfl); (decide +kernel); (decide +kernel); (decide +kernel); (decide +kernel); (rfl); (intro _ _; exact rn); (exact fun _ _ _ h => h); (refine gset ?_)); ((with_reducible apply wpi_take (i := 5)); (rfl); (rfl); (rfl); (decide +kernel); (decide +kernel); (decide +kernel); (decide +kernel); (rfl); (intro _ _; exact rn); (exact fun _ _ _ h => h); (refine gset ?_))
    have e22 : cutSl (Value.slice (some ⟨g, 0, none⟩) (rcells l).length cap) 4 0 i = .slice (some ⟨g, 0, none⟩) i cap := by simp [cutSl, add_none]
    obtain ⟨ad, e25⟩ : ∃ ad, cutSl (Value.slice (some ⟨g, 0, none⟩) (rcells l).length cap) 4 (i + 1) (rcells l).length = .slice (some ad) ((rcells l).length - (i + 1)) (cap - (i + 1)) := by
      by_cases hq : cap = i + 1
      · exact ⟨⟨g, 0, none⟩, by simp [cutSl, hq]⟩
      · exact ⟨_, by simp only [cutSl, if_neg hq]; rfl⟩
    have hcut := (hs.ext x1).cut (m := i + 1) (n := (rcells l).length) (by omega) (Nat.le_refl _)
    rw [e25, List.take_length] at hcut
    refine wpi_op (i := 6) (by decide +kernel) rfl rfl ?_
    refine wpl_appOver (i := i) (j := i + 1) (h.ext x1) e22 e25 hcut (by omega) (by omega) h1c ?_
    intro w2 o2 m2
    refine gset ?_
    refine wph_nil ⟨till_no rfl, ?_⟩
    ((with_reducible apply wpi_pure (i := 7)); (rfl); (rfl); (rfl); (decide +kernel); (decide +kernel); (decide +kernel); (rfl); (intro _; exact rn); (exact fun _ _ _ h => h); (refine gset ?_))
    refine wpi_done (by decide +kernel) ?_
    obtain ⟨m, hm⟩ : ∃ m, i + ((rcells l).length - (i + 1)) = m := ⟨_, rfl⟩
    rw [hm] at o2 ⊢
    have ee : (rcells l).take i ++ (rcells l).drop (i + 1) = rcells (l.eraseIdx i) := by
      rw [List.eraseIdx_eq_take_drop_succ]; simp [rcells, List.map_take, List.map_drop]
    rw [ee] at o2
    have hml : (rcells (l.eraseIdx i)).length = m := by rw [rcells_length, List.length_eraseIdx_of_lt hi]; omega
    have h2l : (rcells (l.eraseIdx i) ++ (rcells l).drop m).length = (rcells l).length := by rw [List.length_append, hml, List.length_drop]; omega
    have hsh := o2
    rw [← h2l] at hsh
    have hsh := hsh.short (m := m) (by omega)
    rw [List.take_left' hml] at hsh
    have hs2 := hsh.sl
    repeat' (first | ((with_reducible refine o_s ?_); (first | (refine o_1 ?_; refine o_2 ?_) | (refine o_g ?_; first | refine o_u ?_ | refine o_k ?_ | refine o_n ?_ | refine o_v ?_ | ((first | refine o_G ?_ ?_ | refine o_N ?_ ?_) <;> intro hc)))) | ((fail_if_success (with_reducible refine o_s ?_)); go_step))
    refine wpl_run0 (Runs.cutC (k := 4) (m := m) (n := l.length) (l := m) (c := cap) (ad := some ⟨g, 0, none⟩) rfl (by rw [← hml]; rfl) (by rw [← hlen]; rfl) (by omega) hc (by decide +kernel)) ?_
    refine gset ?_
    have e31 : (if cap = m then some (⟨g, 0, none⟩ : Addr) else Option.map (fun x : Addr => x.add (m * 4)) (some (⟨g, 0, none⟩ : Addr))) = some (⟨g, m * 4, none⟩ : Addr) := by
      rw [if_neg (by omega)]; simp [add_none]
    rw [e31]
    rw [← h2l] at o2
    have h2l' : (rcells (l.eraseIdx i) ++ (rcells l).drop m).length = l.length := by omega
    refine wpl_clearO (m := m) (z := zrec) o2 (by rw [h2l']; rfl) (by omega) ?_
    intro w3 o3 m3
    rw [List.take_left' hml] at o3
    repeat' (first | ((with_reducible refine o_s ?_); (first | (refine o_1 ?_; refine o_2 ?_) | (refine o_g ?_; first | refine o_u ?_ | refine o_k ?_ | refine o_n ?_ | refine o_v ?_ | ((first | refine o_G ?_ ?_ | refine o_N ?_ ?_) <;> intro hc)))) | ((fail_if_success (with_reducible refine o_s ?_)); go_step))
    go_ret
    exact ⟨_, rfl, o3, (x1.mv (some g)).trans (m2.trans m3), rfl⟩
/-! ### deltas, as values; Make, of both -/
def zdel : List Value := [.int .i64 0, .int .i64 0, .slice none 0 0, .slice none 0 0]
/-- a delta, as a value -/
def DelA (d : DeltaR) (r : Value) (w : World) : Prop := ∃ g n, r = .agg #[.int .i64 d.fr, .int .i64 d.to, g, n] ∧ Sl 4 w g (rcells d.gone) ∧ Sl 4 w n (rcells d.new)
/-- one of the call's own -/
def DelO (B : Nat) (d : DeltaR) (r : Value) (w : World) : Prop := ∃ g n, r = .agg #[.int .i64 d.fr, .int .i64 d.to, g, n] ∧ Own B 4 75 w g (rcells d.gone) ∧ Own B 4 75 w n (rcells d.new)
theorem DelO.a {B : Nat} {d : DeltaR} {r : Value} {w : World} (h : DelO B d r w) : DelA d r w := let ⟨g, n, e, a, b⟩ := h; ⟨g, n, e, a.sl, b.sl⟩
/-- a delta, and why there is none -/
def DelU (B : Nat) (d : DeltaR) (e : Int) (r : Value) (w : World) : Prop := ∃ y, r = .tuple #[y, .int .i64 e] ∧ DelO B d y w
theorem DelU.bad {B : Nat} {d : DeltaR} {e : Int} {w : World} (h : d = zeroD) : DelU B d e (.tuple #[.agg zdel.toArray, .int .i64 e]) w := by
  subst h
  exact ⟨_, rfl, _, _, rfl, Own.nil _ _ _ _, Own.nil _ _ _ _⟩
theorem mkD_bad {oa ob : List UInt8} {la lb : List RSet} (h : mkE oa la ob lb ≠ 0) : mkD oa la ob lb = zeroD := if_neg h
set_option maxHeartbeats 6000000 in
/-- diff.Make -/
theorem p_Make (oa : List UInt8) (u : Value) (la : List RSet) (ob : List UInt8) (v : Value) (lb : List RSet) (w : World) (hu : SetsAt w u la) (hv : SetsAt w v lb)
    (ba : ∀ s ∈ la, s.data.length ≤ 1000000) (da : ∀ s ∈ la, ∀ d ∈ s.data, d.length ≤ 4611686018427387904) (bb : ∀ s ∈ lb, s.data.length ≤ 1000000) (db : ∀ s ∈ lb, ∀ d ∈ s.data, d.length ≤ 4611686018427387904)
    (h1 : (recordsS la).length ≤ 100000) (h2 : (recordsS lb).length ≤ 100000) : Calls Tryz.prog 21 #[.agg #[str oa, u], .agg #[str ob, v]] w (Ret w (DelU w.heap.size (mkD oa la ob lb) (mkE oa la ob lb))) := by
  go_enter Tryz.func21, Tryz.ntmps21
  repeat' ((fail_if_success (with_reducible refine o_s ?_)); go_step)
  refine wpl_box (vs := [str oa, u]) rfl rfl ?_
  intro p w1 x1 hp
  refine gset ?_
  refine wpl_box (vs := [str ob, v]) rfl rfl ?_
  intro q w2 x2 hq
  refine gset ?_
  refine wpl_allocB (z := zdel) rfl (by decide +kernel) ?_
  intro w3 x3 s3 h3
  refine gset ?_
  have hx3 := (x1.trans x2).trans x3
  have zz := (x1.trans x2).size
  have hp3 := (hp.ext x2).ext x3
  have hq3 := hq.ext x3
  repeat' (first | ((with_reducible refine o_s ?_); (first | (refine o_1 ?_; refine o_2 ?_) | (refine o_g ?_; first | refine o_u ?_ | refine o_k ?_ | refine o_n ?_ | refine o_v ?_ | ((first | refine o_G ?_ ?_ | refine o_N ?_ ?_) <;> intro hc)))) | ((fail_if_success (with_reducible refine o_s ?_)); go_step))
  refine wpl_callV (enters_of Tryz.func63 rfl rfl) rfl rfl (p_Soa oa u la _ (hu.ext hx3) ba da) ?_; intro w4 x4; refine gset ?_
  have hx4 := hx3.trans x4
  repeat' (first | ((with_reducible refine o_s ?_); (first | (refine o_1 ?_; refine o_2 ?_) | (refine o_g ?_; first | refine o_u ?_ | refine o_k ?_ | refine o_n ?_ | refine o_v ?_ | ((first | refine o_G ?_ ?_ | refine o_N ?_ ?_) <;> intro hc)))) | ((fail_if_success (with_reducible refine o_s ?_)); go_step))
  refine wpl_allocB (z := zeroSoa) rfl (by decide +kernel) ?_
  intro w5 x5 s5 h5
  refine gset ?_
  refine wpl_storeB (v := .agg (soaZ oa la).cells.toArray) rfl rfl rfl h5 (show sizeTy Tryz.prog 103 7 = true by decide +kernel) rfl (soaR_one _) ?_
  intro w6 p6
  have x46 : Ext w4 w6 := x5.move p6.mv (by rintro k ⟨⟩; exact Nat.le_refl _)
  have b6 : w6.heap[w4.heap.size]? = some (.cells (soaZ oa la).cells.toArray 103 (0, 0)) := p6.this
  have x36 := x4.trans x46
  have hx6 := hx3.trans x36
  clear p6 h5 x5
  have h6 := x36.at h3
  have hp6 := hp3.ext x36
  have hq6 := hq3.ext x36
  repeat' (first | ((with_reducible refine o_s ?_); (first | (refine o_1 ?_; refine o_2 ?_) | (refine o_g ?_; first | refine o_u ?_ | refine o_k ?_ | refine o_n ?_ | refine o_v ?_ | ((first | refine o_G ?_ ?_ | refine o_N ?_ ?_) <;> intro hc)))) | ((fail_if_success (with_reducible refine o_s ?_)); go_step))
  · have q0 : ¬ zoneR oa la = 0 := by simpa using (by assumption : (!decide (zoneR oa la = 0)) = true)
    refine wpl_run (v := .agg zdel.toArray) rfl (Runs.build0 (by kernel_rfl)) ?_
    refine gset ?_
    repeat' (first | ((with_reducible refine o_s ?_); (first | (refine o_1 ?_; refine o_2 ?_) | (refine o_g ?_; first | refine o_u ?_ | refine o_k ?_ | refine o_n ?_ | refine o_v ?_ | ((first | refine o_G ?_ ?_ | refine o_N ?_ ?_) <;> intro hc)))) | ((fail_if_success (with_reducible refine o_s ?_)); go_step))
    refine wpl_storeB (v := .agg zdel.toArray) rfl rfl rfl h6 (by decide +kernel) rfl (by decide +kernel) ?_
    intro w7 p7
    have x7 : Ext w w7 := hx6.move p7.mv (by rintro k ⟨⟩; exact zz)
    repeat' (first | ((with_reducible refine o_s ?_); (first | (refine o_1 ?_; refine o_2 ?_) | (refine o_g ?_; first | refine o_u ?_ | refine o_k ?_ | refine o_n ?_ | refine o_v ?_ | ((first | refine o_G ?_ ?_ | refine o_N ?_ ?_) <;> intro hc)))) | ((fail_if_success (with_reducible refine o_s ?_)); go_step))
    refine bodyPost_ret (results_cellT (cs := zdel) rfl rfl p7.this (by decide +kernel)) rfl ⟨_, rfl, x7, ?_⟩
    have he : mkE oa la ob lb = zoneR oa la := by rw [mkE, if_neg q0]
    rw [mkD_bad (by rw [he]; exact q0), he]
    exact DelU.bad rfl
  · have q0 : zoneR oa la = 0 := by simpa using (by assumption : (!decide (zoneR oa la = 0)) = false)
    refine wpl_callV (enters_of Tryz.func63 rfl rfl) rfl rfl (p_Soa ob v lb _ (hv.ext hx6) bb db) ?_; intro w7 x7; refine gset ?_
    have hx7 := hx6.trans x7
    repeat' (first | ((with_reducible refine o_s ?_); (first | (refine o_1 ?_; refine o_2 ?_) | (refine o_g ?_; first | refine o_u ?_ | refine o_k ?_ | refine o_n ?_ | refine o_v ?_ | ((first | refine o_G ?_ ?_ | refine o_N ?_ ?_) <;> intro hc)))) | ((fail_if_success (with_reducible refine o_s ?_)); go_step))
    refine wpl_allocB (z := zeroSoa) rfl (by decide +kernel) ?_
    intro w8 x8 s8 h8
    refine gset ?_
    refine wpl_storeB (v := .agg (soaZ ob lb).cells.toArray) rfl rfl rfl h8 (show sizeTy Tryz.prog 103 7 = true by decide +kernel) rfl (soaR_one _) ?_
    intro w9 p9
    have x79 : Ext w7 w9 := x8.move p9.mv (by rintro k ⟨⟩; exact Nat.le_refl _)
    have c9 : w9.heap[w7.heap.size]? = some (.cells (soaZ ob lb).cells.toArray 103 (0, 0)) := p9.this
    have x69 := x7.trans x79
    have hx9 := hx6.trans x69
    clear p9 h8 x8
    have h9 := x69.at h6
    have b9 := x69.at b6
    have hp9 := hp6.ext x69
    have hq9 := hq6.ext x69
    repeat' (first | ((with_reducible refine o_s ?_); (first | (refine o_1 ?_; refine o_2 ?_) | (refine o_g ?_; first | refine o_u ?_ | refine o_k ?_ | refine o_n ?_ | refine o_v ?_ | ((first | refine o_G ?_ ?_ | refine o_N ?_ ?_) <;> intro hc)))) | ((fail_if_success (with_reducible refine o_s ?_)); go_step))
    · have q1 : ¬ zoneR ob lb = 0 := by simpa using (by assumption : (!decide (zoneR ob lb = 0)) = true)
      refine wpl_run (v := .agg zdel.toArray) rfl (Runs.build0 (by kernel_rfl)) ?_
      refine gset ?_
      repeat' (first | ((with_reducible refine o_s ?_); (first | (refine o_1 ?_; refine o_2 ?_) | (refine o_g ?_; first | refine o_u ?_ | refine o_k ?_ | refine o_n ?_ | refine o_v ?_ | ((first | refine o_G ?_ ?_ | refine o_N ?_ ?_) <;> intro hc)))) | ((fail_if_success (with_reducible refine o_s ?_)); go_step))
      refine wpl_storeB (v := .agg zdel.toArray) rfl rfl rfl h9 (by decide +kernel) rfl (by decide +kernel) ?_
      intro wz pz
      have xz : Ext w wz := hx9.move pz.mv (by rintro k ⟨⟩; exact zz)
      repeat' (first | ((with_reducible refine o_s ?_); (first | (refine o_1 ?_; refine o_2 ?_) | (refine o_g ?_; first | refine o_u ?_ | refine o_k ?_ | refine o_n ?_ | refine o_v ?_ | ((first | refine o_G ?_ ?_ | refine o_N ?_ ?_) <;> intro hc)))) | ((fail_if_success (with_reducible refine o_s ?_)); go_step))
      refine bodyPost_ret (results_cellT (cs := zdel) rfl rfl pz.this (by decide +kernel)) rfl ⟨_, rfl, xz, ?_⟩
      have he : mkE oa la ob lb = zoneR ob lb := by rw [mkE, if_pos q0, if_neg q1]
      rw [mkD_bad (by rw [he]; exact q1), he]
      exact DelU.bad rfl
    · have q1 : zoneR ob lb = 0 := by simpa using (by assumption : (!decide (zoneR ob lb = 0)) = false)
      · have q2 : ¬ oa = ob := by simpa using (by assumption : (!decide (oa = ob)) = true)
        refine wpl_run (v := .agg zdel.toArray) rfl (Runs.build0 (by kernel_rfl)) ?_
        refine gset ?_
        repeat' (first | ((with_reducible refine o_s ?_); (first | (refine o_1 ?_; refine o_2 ?_) | (refine o_g ?_; first | refine o_u ?_ | refine o_k ?_ | refine o_n ?_ | refine o_v ?_ | ((first | refine o_G ?_ ?_ | refine o_N ?_ ?_) <;> intro hc)))) | ((fail_if_success (with_reducible refine o_s ?_)); go_step))
        refine wpl_storeB (v := .agg zdel.toArray) rfl rfl rfl h9 (by decide +kernel) rfl (by decide +kernel) ?_
        intro wz pz
        have xz : Ext w wz := hx9.move pz.mv (by rintro k ⟨⟩; exact zz)
        repeat' (first | ((with_reducible refine o_s ?_); (first | (refine o_1 ?_; refine o_2 ?_) | (refine o_g ?_; first | refine o_u ?_ | refine o_k ?_ | refine o_n ?_ | refine o_v ?_ | ((first | refine o_G ?_ ?_ | refine o_N ?_ ?_) <;> intro hc)))) | ((fail_if_success (with_reducible refine o_s ?_)); go_step))
        refine bodyPost_ret (results_cellT (cs := zdel) rfl rfl pz.this (by decide +kernel)) rfl ⟨_, rfl, xz, ?_⟩
        have he : mkE oa la ob lb = 1 := by rw [mkE, if_pos q0, if_pos q1, if_neg q2]
        rw [mkD_bad (by rw [he]; decide), he]
        exact DelU.bad rfl
    · have q1 : zoneR ob lb = 0 := by simpa using (by assumption : (!decide (zoneR ob lb = 0)) = false)
      have q2 : oa = ob := by simpa using (by assumption : (!decide (oa = ob)) = false)
      have he : mkE oa la ob lb = 0 := by rw [mkE, if_pos q0, if_pos q1, if_pos q2]
      refine wph_region (S := fun w' => Ext w9 w') (by decide +kernel) ?_
      intro w10 x10 hh10
      refine tk 0 ?_; refine gset ?_; refine tk 1 ?_; refine gset ?_; refine tk 3 ?_; refine gset ?_; refine tk 4 ?_; refine gset ?_
      refine wph_one (i := 2) (by decide +kernel) rfl rfl ?_
      refine wpl_callR (enters_of Tryz.func43 rfl rfl) rfl rfl (t10 u la _ (hu.ext (hx9.trans x10)) (by omega)) ?_
      intro r1 w11 x11 o11
      refine gset ?_
      have x911 := x10.trans x11
      refine wph_nil ⟨x911, ?_⟩
      refine wph_one (i := 5) (by decide +kernel) rfl rfl ?_
      refine wpl_callR (enters_of Tryz.func43 rfl rfl) rfl rfl (t10 v lb _ (hv.ext (hx9.trans x911)) (by omega)) ?_
      intro r2 w12 x12 o12
      refine gset ?_
      have x912 := x911.trans x12
      refine wph_nil ⟨x912, ?_⟩
      refine tk 6 ?_; refine gset ?_; refine tk 7 ?_; refine gset ?_
      refine wph_done (by decide +kernel) ?_
      have hx12 := hx9.trans x912
      have h12 := x912.at h9
      have sr1 := (o11.ext x12).sl
      have sr2 := o12.sl
      have pb12 := pts_block (x912.at b9)
      have pc12 := pts_block (x912.at c9)
      repeat' (first | ((with_reducible refine o_s ?_); (first | (refine o_1 ?_; refine o_2 ?_) | (refine o_g ?_; first | refine o_u ?_ | refine o_k ?_ | refine o_n ?_ | refine o_v ?_ | ((first | refine o_G ?_ ?_ | refine o_N ?_ ?_) <;> intro hc)))) | ((fail_if_success (with_reducible refine o_s ?_)); go_step))
      refine wpi_region 11 (Ext w12) (by decide +kernel) ?_
      intro w13 x13 _
      refine ⟨x13, ?_⟩
      ((with_reducible apply wpi_take (i := 0)); (rfl); (rfl); (rfl); (decide +kernel); (decide +kernel); (decide +kernel); (decide +kernel); (rfl); (intro _ _; exact rn); (exact fun _ _ _ h => h); (refine gset ?_)); ((with_reducible apply wpi_take (i := 1)); (rfl); (rfl); (rfl); (decide +kernel); (decide +kernel); (decide +kernel); (decide +kernel); (rfl); (intro _ _; exact rn); (exact fun _ _ _ h => h); (refine gset ?_)); ((with_reducible apply wpi_take (i := 2)); (rfl); (rfl); (rfl); (decide +kernel); (decide +kernel); (decide +kernel); (decide +kernel); (rfl); (intro _ _; exact rn); (exact fun _ _ _ h => h); (refine gset ?_)); ((with_reducible apply wpi_take (i := 3)); (rfl); (rfl); (rfl); (decide +kernel); (decide +kernel); (decide +kernel); (decide +kernel); (rfl); (intro _ _; exact rn); (exact fun _ _ _ h => h); (refine gset ?_)); ((with_reducible apply wpi_take (i := 4)); (rfl); (rfl); (rfl); (decide +kernel); (decide +kernel); (decide +kernel); (decide +kernel); (rfl); (intro _ _; exact rn); (exact fun _ _ _ h => h); (refine gset ?_)); ((with_reducible apply wpi_take (i := 5)); (rfl); (rfl); (rfl); (decide +kernel); (decide +kernel); (decide +kernel); (decide +kernel); (rfl); (intro _ _; exact rn); (exact fun _ _ _ h => h); (refine gset ?_)); ((with_reducible apply wpi_take (i := 7)); (rfl); (rfl); (rfl); (decide +kernel); (decide +kernel); (decide +kernel); (decide +kernel); (rfl); (intro _ _; exact rn); (exact fun _ _ _ h => h); (refine gset ?_)); ((with_reducible apply wpi_take (i := 8)); (rfl); (rfl); (rfl); (decide +kernel); (decide +kernel); (decide +kernel); (decide +kernel); (rfl); (intro _ _; exact rn); (exact fun _ _ _ h => h); (refine gset ?_))
      refine wpi_op (i := 6) (by decide +kernel) rfl rfl ?_
      refine wpl_callR (enters_of Tryz.func67 rfl rfl) rfl rfl (p_less r1 r2 _ _ _ (sr1.ext x13) (sr2.ext x13) (by omega)) ?_
      intro g w14 x14 og
      refine gset ?_
      have x1214 := x13.trans x14
      refine wph_nil ⟨till_yes x1214, ?_⟩
      refine wpi_op (i := 9) (by decide +kernel) rfl rfl ?_
      refine wpl_callR (enters_of Tryz.func67 rfl rfl) rfl rfl (p_less r2 r1 _ _ _ (sr2.ext x1214) (sr1.ext x1214) (by omega)) ?_
      intro n w15 x15 on
      refine gset ?_
      have x1215 := x1214.trans x15
      refine wph_nil ⟨till_yes x1215, ?_⟩
      have sg := (og.ext x15).sl
      have sn := on.sl
      refine wpi_take (i := 10) (v := .agg #[.int .i64 (soaZ oa la).serial, .int .i64 (soaZ ob lb).serial, g, n]) rfl rfl rfl (by decide +kernel) (by decide +kernel) (by decide +kernel) (by decide +kernel) rfl (fun w' _ => Runs.build rfl (by obtain ⟨_, _, _, rfl⟩ := sg.slf; obtain ⟨_, _, _, rfl⟩ := sn.slf; kernel_rfl)) (fun _ _ _ h => h) ?_
      refine gset ?_
      refine wpi_op (i := 11) (by decide +kernel) rfl rfl ?_
      have h15 := x1215.at h12
      refine wpl_storeB (v := .agg #[.int .i64 (soaZ oa la).serial, .int .i64 (soaZ ob lb).serial, g, n]) rfl rfl rfl h15 (show sizeTy Tryz.prog 30 4 = true by decide +kernel) rfl (all4 rfl rfl sg.one sn.one) ?_
      intro w16 p16
      refine wph_nil ⟨till_no rfl, ?_⟩
      ((with_reducible apply wpi_pure (i := 12)); (rfl); (rfl); (rfl); (decide +kernel); (decide +kernel); (decide +kernel); (rfl); (intro _; exact rn); (exact fun _ _ _ h => h); (refine gset ?_))
      refine wpi_done (by decide +kernel) ?_
      have x16 : Ext w w16 := (hx12.trans x1215).move p16.mv (by rintro k ⟨⟩; exact zz)
      repeat' (first | ((with_reducible refine o_s ?_); (first | (refine o_1 ?_; refine o_2 ?_) | (refine o_g ?_; first | refine o_u ?_ | refine o_k ?_ | refine o_n ?_ | refine o_v ?_ | ((first | refine o_G ?_ ?_ | refine o_N ?_ ?_) <;> intro hc)))) | ((fail_if_success (with_reducible refine o_s ?_)); go_step))
      refine bodyPost_ret (results_cellT (cs := [.int .i64 (soaZ oa la).serial, .int .i64 (soaZ ob lb).serial, g, n]) rfl rfl p16.this (show aggTy Tryz.prog 30 4 = true by decide +kernel)) rfl ⟨_, rfl, x16, ?_⟩
      have hd : mkD oa la ob lb = ⟨(soaZ oa la).serial, (soaZ ob lb).serial, lessR (recordsS la) (recordsS lb), lessR (recordsS lb) (recordsS la)⟩ := by rw [mkD, if_pos he]
      rw [hd, he]
      exact ⟨_, rfl, g, n, rfl, (og.ext x15).mv p16.mv (.inr ((og.ext x15).neBlock h15 (by decide))) |>.weaken (hx12.trans x13).size, on.mv p16.mv (.inr (on.neBlock h15 (by decide))) |>.weaken (hx12.trans x1214).size⟩
set_option maxHeartbeats 500000 in
/-- lodestarref08.Few -/
theorem r8_Few (o : List UInt8) (v : Value) (l : List RSet) (w : World) (hv : SetsAt w v l) : Calls Tryz.prog 25 #[.agg #[str o, v]] w (RetV w (.bool (decide ((o.length : Int) ≤ 300) && fewS l))) := by
  go_enter Tryz.func25, Tryz.ntmps25
  repeat' ((fail_if_success (with_reducible refine o_s ?_)); go_step)
  refine wpl_box (vs := [str o, v]) rfl rfl ?_
  intro p w1 x1 hp
  refine gset ?_
  have hv1 := hv.ext x1
  repeat' (first | ((with_reducible refine o_s ?_); (first | (refine o_1 ?_; refine o_2 ?_) | (refine o_g ?_; first | refine o_u ?_ | refine o_k ?_ | refine o_n ?_ | refine o_v ?_ | ((first | refine o_G ?_ ?_ | refine o_N ?_ ?_) <;> intro hc)))) | ((fail_if_success (with_reducible refine o_s ?_)); go_step))
  · refine wpl_callV (enters_of Tryz.func71 rfl rfl) rfl rfl (t14 v l _ hv1) ?_; intro w2 x2; refine gset ?_
    repeat' (first | ((with_reducible refine o_s ?_); (first | (refine o_1 ?_; refine o_2 ?_) | (refine o_g ?_; first | refine o_u ?_ | refine o_k ?_ | refine o_n ?_ | refine o_v ?_ | ((first | refine o_G ?_ ?_ | refine o_N ?_ ?_) <;> intro hc)))) | ((fail_if_success (with_reducible refine o_s ?_)); go_step))
    go_ret
    exact ⟨by rw [decide_eq_true hc]; rfl, x1.trans x2⟩
  · go_ret
    exact ⟨by rw [decide_eq_false hc]; rfl, x1⟩
set_option maxHeartbeats 500000 in
/-- lodestarref08.Same -/
theorem r8_Same (o o' : List UInt8) (u v : Value) (a b : List RSet) (w : World) (hu : SetsAt w u a) (hv : SetsAt w v b) : Calls Tryz.prog 31 #[.agg #[str o, u], .agg #[str o', v]] w (RetV w (.bool (decide (o = o') && decide (a = b)))) := by
  go_enter Tryz.func31, Tryz.ntmps31
  repeat' ((fail_if_success (with_reducible refine o_s ?_)); go_step)
  refine wpl_box (vs := [str o, u]) rfl rfl ?_
  intro p w1 x1 hp
  refine gset ?_
  repeat' ((fail_if_success (with_reducible refine o_s ?_)); go_step)
  refine wpl_box (vs := [str o', v]) rfl rfl ?_
  intro q w2 x2 hq
  refine gset ?_
  have hx2 := x1.trans x2
  have hp2 := hp.ext x2
  repeat' (first | ((with_reducible refine o_s ?_); (first | (refine o_1 ?_; refine o_2 ?_) | (refine o_g ?_; first | refine o_u ?_ | refine o_k ?_ | refine o_n ?_ | refine o_v ?_ | ((first | refine o_G ?_ ?_ | refine o_N ?_ ?_) <;> intro hc)))) | ((fail_if_success (with_reducible refine o_s ?_)); go_step))
  · refine wpl_callV (enters_of Tryz.func80 rfl rfl) rfl rfl (t11 u v a b _ (hu.ext hx2) (hv.ext hx2)) ?_; intro w3 x3; refine gset ?_
    repeat' (first | ((with_reducible refine o_s ?_); (first | (refine o_1 ?_; refine o_2 ?_) | (refine o_g ?_; first | refine o_u ?_ | refine o_k ?_ | refine o_n ?_ | refine o_v ?_ | ((first | refine o_G ?_ ?_ | refine o_N ?_ ?_) <;> intro hc)))) | ((fail_if_success (with_reducible refine o_s ?_)); go_step))
    go_ret
    exact ⟨by rw [decide_eq_true hc]; rfl, hx2.trans x3⟩
  · go_ret
    exact ⟨by rw [decide_eq_false hc]; rfl, hx2⟩
end Go.Proofs.X
