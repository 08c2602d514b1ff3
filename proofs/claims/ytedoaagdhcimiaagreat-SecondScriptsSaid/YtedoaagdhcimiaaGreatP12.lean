/- Laws and walks that the proof of the statement is made of (part 12). -/
import Derived.Test.YtedoaagdhcimiaaGreatProg
import Derived.Test.YtedoaagdhcimiaaGreatShelf
import Derived.Shelf.RegionOpenPlain
import Derived.Lib.Strings
import Derived.Lib.Slices
import Derived.Lib.Walk
import Derived.Lib.Builder
import Derived.Lib.AppendStr
import Derived.Lib.UnsafeStr
import Derived.Lib.MakeNoZero
import Derived.WalkKit
import Derived.Laws.Externs
import Derived.Laws.IdiomCopy
import Derived.Laws.BitsLemmas
import GoSem.Claims
import Derived.Shelf.SlSortCmp.NoneTotal
import Derived.OwnWalk
import Derived.Lib.Hide
import Derived.Laws.Pointers
import Derived.OrdersIn
import Derived.LoopIn
import Derived.WalkMore
import Derived.ScopeJumps
import Derived.Test.YtedoaagdhcimiaaGreatP1
import Derived.Test.YtedoaagdhcimiaaGreatP2
import Derived.Test.YtedoaagdhcimiaaGreatP3
import Derived.Test.YtedoaagdhcimiaaGreatP4
import Derived.Test.YtedoaagdhcimiaaGreatP5
import Derived.Test.YtedoaagdhcimiaaGreatP8
import Derived.Test.YtedoaagdhcimiaaGreatP9
import Derived.Test.YtedoaagdhcimiaaGreatP10
import Derived.Test.YtedoaagdhcimiaaGreatP11
set_option linter.unusedSimpArgs false
set_option linter.unusedVariables false
namespace Go.Proofs.X
open Go.RowKit
set_option maxRecDepth 100000
theorem goneF_append : ∀ (g h l : List Rec), goneF l (g ++ h) = (goneF l g).bind fun m => goneF m h
 | [], h, l => by simp [goneF]
 | r :: g, h, l => by
   rw [List.cons_append, goneF, goneF]
   split
   ·exact goneF_append g h _
   ·rfl
theorem newF_append : ∀ (g h l : List Rec), newF l (g ++ h) = (newF l g).bind fun m => newF m h
 | [], h, l => by simp [newF]
 | r :: g, h, l => by
   rw [List.cons_append, newF, newF]
   split
   ·rfl
   ·exact newF_append g h _
theorem gone_step {l m g : List Rec} {k : Nat} (hk : k < g.length) (h : goneF l (g.take k) = some m) : goneF l (g.take (k + 1)) = if g[k] ∈ m then some (m.erase g[k]) else none := by
 rw [List.take_succ_eq_append_getElem hk, goneF_append, h]
 simp [goneF]
theorem new_step {l m g : List Rec} {k : Nat} (hk : k < g.length) (h : newF l (g.take k) = some m) : newF l (g.take (k + 1)) = if g[k] ∈ m then none else some (m ++ [g[k]]) := by
 rw [List.take_succ_eq_append_getElem hk, newF_append, h]
 simp [newF]
theorem gone_bad {l m g : List Rec} {k : Nat} (hk : k < g.length) (h : goneF l (g.take k) = some m) (hn : g[k] ∉ m) : goneF l g = none := by
 rw [← List.take_append_drop k g, goneF_append, h, List.drop_eq_getElem_cons hk]
 simp [goneF, hn]
theorem new_bad {l m g : List Rec} {k : Nat} (hk : k < g.length) (h : newF l (g.take k) = some m) (hn : g[k] ∈ m) : newF l g = none := by
 rw [← List.take_append_drop k g, newF_append, h, List.drop_eq_getElem_cons hk]
 simp [newF, hn]
theorem gone_len : ∀ {g l m : List Rec}, goneF l g = some m → m.length ≤ l.length ∧ ∀ r ∈ m, r ∈ l
 | [], l, m, h => by rw [goneF] at h; cases h; exact ⟨Nat.le_refl _, fun _ h => h⟩
 | r :: g, l, m, h => by
   rw [goneF] at h
   split at h
   ·obtain ⟨h1, h2⟩ := gone_len h
    exact ⟨Nat.le_trans h1 (List.length_erase_le), fun q hq => List.mem_of_mem_erase (h2 q hq)⟩
   ·cases h
theorem new_len : ∀ {g l m : List Rec}, newF l g = some m → m.length = l.length + g.length ∧ ∀ r ∈ m, r ∈ l ∨ r ∈ g
 | [], l, m, h => by rw [newF] at h; cases h; exact ⟨by simp, fun _ h => .inl h⟩
 | r :: g, l, m, h => by
   rw [newF] at h
   split at h
   ·cases h
   ·obtain ⟨h1, h2⟩ := new_len h
    refine ⟨by rw [h1]; simp; omega, fun q hq => ?_⟩
    rcases h2 q hq with h3 | h3
    ·rcases List.mem_append.1 h3 with h4 | h4
     ·exact .inl h4
     ·exact .inr (by rw [List.mem_singleton.1 h4]; simp)
    ·exact .inr (List.mem_cons_of_mem _ h3)
theorem idx_mem {m : List Rec} {r : Rec} (h : r ∈ m) : ∃ i, i < m.length ∧ idxI (fun q => decide (r = q)) m = (i : Nat) ∧ m.eraseIdx i = m.erase r := by
 have hlt := List.idxOf_lt_length_of_mem h
 refine ⟨m.idxOf r, hlt, idx_at hlt ?_ ?_, (List.erase_eq_eraseIdx_of_idxOf rfl).symm⟩
 ·rw [any_mem, decide_eq_false_iff_not]
  intro hm
  obtain ⟨j, hj, he⟩ := List.getElem_of_mem hm
  rw [List.length_take] at hj
  rw [List.getElem_take] at he
  have := List.not_of_lt_findIdx (p := (· == r)) (xs := m) (i := j) (by unfold List.idxOf at hj; omega)
  simp [he] at this
 ·have := List.getElem_idxOf hlt
  rw [this]; simp
theorem idx_none {m : List Rec} {r : Rec} (h : r ∉ m) : idxI (fun q => decide (r = q)) m = -1 := idx_no (by rw [any_mem, decide_eq_false h])
theorem recs_len {s : RSet} : (recsOf s).length = s.data.length := by simp [recsOf]
theorem putS_recs (r : Rec) : ∀ gs : List RSet, (recordsS (putS r gs)).length ≤ (recordsS gs).length + 1
 | [] => by simp [putS, recordsS, recsOf, recSet]
 | g :: gs => by
   have ih := putS_recs r gs
   unfold recordsS at ih ⊢
   rw [putS]
   split
   ·simp only [List.map_cons, List.flatten_cons, List.length_append] at ih ⊢; omega
   ·split
    ·simp only [List.map_cons, List.flatten_cons, List.length_append]
     have : (recsOf (recSet r)).length = 1 := rfl
     omega
    ·simp only [List.map_cons, List.flatten_cons, List.length_append]
     have h1 : (recsOf ⟨fold r.name, r.kind, min r.ttl g.ttl, textS r.data g.data⟩).length ≤ (recsOf g).length + 1 := by
      rw [recs_len, recs_len]
      exact textS_len _ _
     omega
theorem putAll_recs (l : List Rec) : ∀ k, k ≤ l.length → (recordsS (putAll (l.take k))).length ≤ k
 | 0, _ => by simp [putAll, recordsS]
 | k + 1, h => by
   rw [putAll_succ h]
   have := putS_recs l[k] (putAll (l.take k))
   have ih := putAll_recs l k (by omega)
   omega
theorem loadL_bounds {o : List UInt8} {m : List Rec} {n : Nat} (hm : ∀ r ∈ m, r.data.length ≤ n) : (∀ s ∈ loadL o m, s.data.length ≤ m.length) ∧ (∀ s ∈ loadL o m, ∀ d ∈ s.data, d.length ≤ n) ∧ (recordsS (loadL o m)).length ≤ m.length := by
 unfold loadL
 split
 ·refine ⟨putAll_len m, fun s hs d hd => ?_, ?_⟩
  ·obtain ⟨r, hr, rfl⟩ := putAll_data hs hd
   exact hm r hr
  ·have := putAll_recs m m.length (Nat.le_refl _)
   rwa [List.take_length] at this
 ·simp [recordsS]
theorem recs_data {l : List RSet} {n : Nat} (h : ∀ s ∈ l, ∀ d ∈ s.data, d.length ≤ n) : ∀ r ∈ recordsS l, r.data.length ≤ n := by
 intro r hr
 unfold recordsS at hr
 obtain ⟨x, hx, hr⟩ := List.mem_flatten.1 hr
 obtain ⟨s, hs, rfl⟩ := List.mem_map.1 hx
 unfold recsOf at hr
 obtain ⟨d, hd, rfl⟩ := List.mem_map.1 hr
 exact h s hs d hd
def AppU (B : Nat) (o : List UInt8) (l : List RSet) (d : DeltaR) (q : Value) (w : World) : Prop := ∃ y, q = .tuple #[.agg #[str (appO o l d), y], .int .i64 (appE o l d)] ∧ SetsO B w y (appL o l d)
theorem AppU.bad {B : Nat} {o : List UInt8} {l : List RSet} {d : DeltaR} {e : Int} {w : World} (h : appE o l d = e) (he : e ≠ 0) : AppU B o l d (.tuple #[.agg zzone.toArray, .int .i64 e]) w := by
 refine ⟨.slice none 0 0, ?_, ?_⟩
 ·rw [appO, if_neg (by rw [h]; exact he), h]; rfl
 ·rw [appL, if_neg (by rw [h]; exact he)]; exact SetsO.nil _ _
theorem appE_none {o : List UInt8} {l : List RSet} {d : DeltaR} (q0 : zoneR o l = 0) (q1 : (soaZ o l).serial = d.fr) (h : editR (recordsS l) d = none) : appE o l d = 5 := by rw [appE, if_pos q0, if_pos q1, h]
theorem appE_some {o : List UInt8} {l : List RSet} {d : DeltaR} {x : List Rec} (q0 : zoneR o l = 0) (q1 : (soaZ o l).serial = d.fr) (h : editR (recordsS l) d = some x) : appE o l d = endE o x d.to := by rw [appE, if_pos q0, if_pos q1, h]
theorem edit_none1 {l : List Rec} {d : DeltaR} (h : goneF l d.gone = none) : editR l d = none := by rw [editR, h]; rfl
theorem edit_of {l m : List Rec} {d : DeltaR} (h : goneF l d.gone = some m) : editR l d = newF m d.new := by rw [editR, h]; rfl
def isSoaR (r : Rec) : Bool := decide (r.kind = 6)
def soaT (d : List UInt8) : SoaR := match parseSoa d with | some s => s | none => zR
def serOf (r : Rec) : Int := (soaT r.data).serial
def nextSoa : List Rec → Nat
 | [] => 0
 | r :: t => if isSoaR r then 0 else nextSoa t + 1
theorem nextSoa_le : ∀ l : List Rec, nextSoa l ≤ l.length
 | [] => Nat.le_refl _
 | r :: t => by
   rw [nextSoa]
   split
   ·omega
   ·have := nextSoa_le t
    rw [List.length_cons]; omega
def partN (l : List Rec) : Nat := 1 + nextSoa (l.drop 1)
theorem partN_le {l : List Rec} (h : l ≠ []) : 1 ≤ partN l ∧ partN l ≤ l.length := by
 have := nextSoa_le (l.drop 1)
 cases l with
 | nil => exact absurd rfl h
 | cons r t =>
  unfold partN
  simp only [List.drop_succ_cons, List.drop_zero, List.length_cons] at *
  omega
def zeroRec : Rec := ⟨[], 0, 0, []⟩
def headOf (l : List Rec) : Rec := l.headD zeroRec
def dltOf (gone come : List Rec) : DeltaR := ⟨serOf (headOf gone), serOf (headOf come), gone, come⟩
structure ZE where
 e : Int
 o : List UInt8
 l : List RSet
def ZE.bad (e : Int) : ZE := ⟨e, [], []⟩
def chg : Nat → List UInt8 → List RSet → List Rec → ZE
 | 0, o, l, _ => ⟨0, o, l⟩
 | f + 1, o, l, rs =>
  if rs = [] then ⟨0, o, l⟩ else
  let gone := rs.take (partN rs)
  let rest := rs.drop (partN rs)
  if rest = [] then ZE.bad 2 else
  let come := rest.take (partN rest)
  if appE o l (dltOf gone come) = 0 then chg f (appO o l (dltOf gone come)) (appL o l (dltOf gone come)) (rest.drop (partN rest))
  else ZE.bad (if appE o l (dltOf gone come) = 5 then 2 else appE o l (dltOf gone come))
def chgZ (o : List UInt8) (l : List RSet) (rs : List Rec) : ZE := chg rs.length o l rs
theorem chg_succ (f : Nat) (o : List UInt8) (l : List RSet) {rs : List Rec} (h : rs ≠ []) : chg (f + 1) o l rs =
 if rs.drop (partN rs) = [] then ZE.bad 2 else
 if appE o l (dltOf (rs.take (partN rs)) ((rs.drop (partN rs)).take (partN (rs.drop (partN rs))))) = 0 then
  chg f (appO o l (dltOf (rs.take (partN rs)) ((rs.drop (partN rs)).take (partN (rs.drop (partN rs)))))) (appL o l (dltOf (rs.take (partN rs)) ((rs.drop (partN rs)).take (partN (rs.drop (partN rs)))))) ((rs.drop (partN rs)).drop (partN (rs.drop (partN rs))))
 else ZE.bad (if appE o l (dltOf (rs.take (partN rs)) ((rs.drop (partN rs)).take (partN (rs.drop (partN rs))))) = 5 then 2 else appE o l (dltOf (rs.take (partN rs)) ((rs.drop (partN rs)).take (partN (rs.drop (partN rs)))))) := by
 rw [chg, if_neg h]
theorem chg_nil : ∀ (f : Nat) (o : List UInt8) (l : List RSet), chg f o l [] = ⟨0, o, l⟩
 | 0, o, l => rfl
 | f + 1, o, l => by rw [chg, if_pos rfl]
theorem chg_more : ∀ (n f g : Nat) (o : List UInt8) (l : List RSet) (rs : List Rec), rs.length ≤ n → rs.length ≤ f → rs.length ≤ g → chg f o l rs = chg g o l rs
 | n, f, g, o, l, [], _, _, _ => by rw [chg_nil, chg_nil]
 | 0, f, g, o, l, r :: t, h, _, _ => by simp at h
 | n + 1, 0, g, o, l, r :: t, _, h, _ => by simp at h
 | n + 1, f + 1, 0, o, l, r :: t, _, _, h => by simp at h
 | n + 1, f + 1, g + 1, o, l, r :: t, hn, hf, hg => by
   have h1 := partN_le (l := r :: t) (by simp)
   rw [chg_succ f o l (by simp), chg_succ g o l (by simp)]
   by_cases hr : (r :: t).drop (partN (r :: t)) = []
   ·rw [if_pos hr, if_pos hr]
   ·rw [if_neg hr, if_neg hr]
    have h2 := partN_le hr
    have h3 : (((r :: t).drop (partN (r :: t))).drop (partN ((r :: t).drop (partN (r :: t))))).length ≤ t.length := by
     have e1 : ((r :: t).drop (partN (r :: t))).length = (r :: t).length - partN (r :: t) := List.length_drop ..
     rw [List.length_drop, e1]
     simp only [List.length_cons] at h1 ⊢
     omega
    simp only [List.length_cons] at hn hf hg
    rw [chg_more n f g _ _ _ (by omega) (by omega) (by omega)]
theorem chgZ_nil (o : List UInt8) (l : List RSet) : chgZ o l [] = ⟨0, o, l⟩ := rfl
theorem chgZ_cons (o : List UInt8) (l : List RSet) {rs : List Rec} (h : rs ≠ []) : chgZ o l rs =
 if rs.drop (partN rs) = [] then ZE.bad 2 else
 if appE o l (dltOf (rs.take (partN rs)) ((rs.drop (partN rs)).take (partN (rs.drop (partN rs))))) = 0 then
  chgZ (appO o l (dltOf (rs.take (partN rs)) ((rs.drop (partN rs)).take (partN (rs.drop (partN rs)))))) (appL o l (dltOf (rs.take (partN rs)) ((rs.drop (partN rs)).take (partN (rs.drop (partN rs)))))) ((rs.drop (partN rs)).drop (partN (rs.drop (partN rs))))
 else ZE.bad (if appE o l (dltOf (rs.take (partN rs)) ((rs.drop (partN rs)).take (partN (rs.drop (partN rs))))) = 5 then 2 else appE o l (dltOf (rs.take (partN rs)) ((rs.drop (partN rs)).take (partN (rs.drop (partN rs)))))) := by
 cases rs with
 | nil => exact absurd rfl h
 | cons r t =>
  have h1 := partN_le (l := r :: t) (by simp)
  conv => lhs; unfold chgZ
  rw [List.length_cons, chg_succ _ _ _ h]
  by_cases hr : (r :: t).drop (partN (r :: t)) = []
  ·rw [if_pos hr, if_pos hr]
  ·rw [if_neg hr, if_neg hr]
   have h2 := partN_le hr
   have h3 : (((r :: t).drop (partN (r :: t))).drop (partN ((r :: t).drop (partN (r :: t))))).length ≤ t.length := by
    have e1 : ((r :: t).drop (partN (r :: t))).length = (r :: t).length - partN (r :: t) := List.length_drop ..
    rw [List.length_drop, e1]
    simp only [List.length_cons] at h1 ⊢
    omega
   unfold chgZ
   rw [chg_more _ _ _ _ _ _ (Nat.le_refl _) h3 (Nat.le_refl _)]
def toldZ (oo : List UInt8) (lo : List RSet) (og : List UInt8) (l : List Rec) : ZE :=
 if isSoaR (l.getD 1 zeroRec) = false then ⟨loadE og l.dropLast, loadO og l.dropLast, loadL og l.dropLast⟩ else
 if lo = [] then ZE.bad 5 else chgZ oo lo (l.dropLast.drop 1)
def instZ (oo : List UInt8) (lo : List RSet) (og : List UInt8) (l : List Rec) : ZE :=
 if checkE og ≠ 0 ∨ l.any (fun r => !decide (checkR r = 0)) = true then ZE.bad 1 else
 if l = [] then ZE.bad 2 else
 if isSoaR (headOf l) = false ∨ fold (headOf l).name ≠ fold og then ZE.bad 2 else
 if l.length = 1 then ZE.bad 5 else
 if l.length = 2 ∨ l.getD (l.length - 1) zeroRec ≠ headOf l then ZE.bad 3 else
 let q := toldZ oo lo og l
 if q.e ≠ 0 then ZE.bad q.e else
 if (soaZ q.o q.l).serial ≠ serOf (headOf l) then ZE.bad 2 else
 if lo ≠ [] ∧ laterB (soaZ q.o q.l).serial (soaZ oo lo).serial = false then ZE.bad 7 else q
theorem load_zone {o : List UInt8} {l : List Rec} (h : loadE o l = 0) : ZoneOk (loadO o l) (loadL o l) := by
 have h0 := h
 unfold loadE at h
 split at h
 ·rw [loadO, if_pos h0, loadL, if_pos h0]; exact zone_ok h
 ·rename_i q; exact absurd h q
theorem loadO_fold {o : List UInt8} {l : List Rec} (h : loadE o l = 0) : loadO o l = fold o := by rw [loadO, if_pos h]
theorem app_zone {o : List UInt8} {l : List RSet} {d : DeltaR} (h : appE o l d = 0) : ZoneOk (appO o l d) (appL o l d) ∧ appO o l d = o := by
 have h0 := h
 unfold appE at h
 split at h
 ·rename_i q0
  split at h
  ·cases hx : editR (recordsS l) d with
   | none => rw [hx] at h; cases h
   | some m =>
    rw [hx] at h
    simp only at h
    unfold endE at h
    split at h
    ·rename_i q1
     have hz := load_zone q1
     rw [appO, if_pos h0, appL, if_pos h0, hx]
     simp only [Option.getD_some]
     refine ⟨hz, ?_⟩
     rw [loadO_fold q1]
     exact (zone_ok q0).fold
    ·rename_i q1; exact absurd h q1
  ·cases h
 ·rename_i q; exact absurd h q
theorem chg_zone : ∀ (n : Nat) (rs : List Rec), rs.length ≤ n → ∀ (o : List UInt8) (l : List RSet), (chgZ o l rs).e = 0 → rs ≠ [] → ZoneOk (chgZ o l rs).o (chgZ o l rs).l ∧ (chgZ o l rs).o = o
 | 0, rs, hn, o, l, h, hne => by
   have : rs = [] := List.eq_nil_of_length_eq_zero (by omega)
   exact absurd this hne
 | n + 1, rs, hn, o, l, h, hne => by
   have h1 := partN_le hne
   rw [chgZ_cons o l hne] at h ⊢
   split at h
   ·cases h
   ·rename_i hr
    have h2 := partN_le hr
    rw [if_neg hr]
    split at h
    ·rename_i ha
     rw [if_pos ha]
     obtain ⟨z1, z2⟩ := app_zone ha
     by_cases hq : (rs.drop (partN rs)).drop (partN (rs.drop (partN rs))) = []
     ·rw [hq, chgZ_nil]
      exact ⟨z1, z2⟩
     ·obtain ⟨a, b⟩ := chg_zone n _ (by simp only [List.length_drop] at *; omega) _ _ h hq
      exact ⟨a, b.trans z2⟩
    ·rename_i ha
     split at h
     ·cases h
     ·exact absurd h ha
theorem inst_ok {oo : List UInt8} {lo : List RSet} {og : List UInt8} {l : List Rec} (h : (instZ oo lo og l).e = 0) :
 ZoneOk (instZ oo lo og l).o (instZ oo lo og l).l ∧ ((lo = [] ∨ oo = fold og) → (instZ oo lo og l).o = fold og) ∧ (lo ≠ [] → laterB (soaZ (instZ oo lo og l).o (instZ oo lo og l).l).serial (soaZ oo lo).serial = true) := by
 unfold instZ at h ⊢
 split at h
 ·cases h
 ·rename_i c1
  rw [if_neg c1]
  split at h
  ·cases h
  ·rename_i c2
   rw [if_neg c2]
   split at h
   ·cases h
   ·rename_i c3
    rw [if_neg c3]
    split at h
    ·cases h
    ·rename_i c4
     rw [if_neg c4]
     split at h
     ·cases h
     ·rename_i c5
      rw [if_neg c5]
      simp only at h ⊢
      split at h
      ·rename_i c6; exact absurd h c6
      ·rename_i c6
       rw [if_neg c6]
       split at h
       ·cases h
       ·rename_i c7
        rw [if_neg c7]
        split at h
        ·cases h
        ·rename_i c8
         rw [if_neg c8]
         have hz : ZoneOk (toldZ oo lo og l).o (toldZ oo lo og l).l ∧ ((lo = [] ∨ oo = fold og) → (toldZ oo lo og l).o = fold og) := by
          have h6 : (toldZ oo lo og l).e = 0 := by simpa using c6
          unfold toldZ at h6 ⊢
          split at h6
          ·rename_i d1
           rw [if_pos d1]
           exact ⟨load_zone h6, fun _ => loadO_fold h6⟩
          ·rename_i d1
           rw [if_neg d1]
           split at h6
           ·cases h6
           ·rename_i d2
            rw [if_neg d2]
            have hl : 2 < l.length := by
             have n0 : l.length ≠ 0 := fun e => c2 (List.eq_nil_of_length_eq_zero e)
             have n2 : l.length ≠ 2 := fun e => c5 (.inl e)
             omega
            obtain ⟨a, b⟩ := chg_zone _ _ (Nat.le_refl _) oo lo h6 (by
             intro e
             have := congrArg List.length e
             simp at this
             omega)
            exact ⟨a, fun hh => by rcases hh with hh | hh; exact absurd hh d2; exact b.trans hh⟩
         refine ⟨hz.1, hz.2, fun hne => ?_⟩
         cases hb : laterB (soaZ (toldZ oo lo og l).o (toldZ oo lo og l).l).serial (soaZ oo lo).serial with
         | true => rfl
         | false => exact absurd ⟨hne, hb⟩ c8
structure SecR where
 og : List UInt8
 retry : Int
 z : Option (List UInt8 × List RSet)
 next : Int
 til : Int
 take : Bool
def SecR.soa (s : SecR) : SoaR := match s.z with | none => ⟨[], [], 0, s.retry, s.retry, 0, 0⟩ | some z => soaZ z.1 z.2
def SecR.o (s : SecR) : List UInt8 := match s.z with | none => [] | some z => z.1
def SecR.l (s : SecR) : List RSet := match s.z with | none => [] | some z => z.2
def okTime (n : Int) : Bool := decide (0 ≤ n) && decide (n ≤ 1099511627776)
def SecR.news (s : SecR) (n : Int) : Bool := s.z.isNone || laterB n s.soa.serial
def SecR.wants (s : SecR) (now : Int) : Int := if okTime now = false then 0 else if s.take = true then 2 else if s.next ≤ now then 1 else 0
def SecR.notify (s : SecR) (n now : Int) : SecR := if (okTime now && okSer n && s.news n) = true then { s with next := min s.next now } else s
def SecR.failed (s : SecR) (now : Int) : SecR := if okTime now = true then { s with take := false, next := now + s.soa.retry } else s
def SecR.fresh (s : SecR) (now : Int) : SecR := { s with take := false, next := now + s.soa.refresh, til := now + s.soa.expire }
def SecR.heard (s : SecR) (n now : Int) : SecR :=
 if okTime now = false then s else if okSer n = false then s.failed now else if s.news n = true then { s with take := true, next := now + s.soa.retry } else s.fresh now
def SecR.inst (s : SecR) (l : List Rec) : ZE := instZ s.o s.l s.og l
def SecR.gotE (s : SecR) (l : List Rec) (now : Int) : Int := if okTime now = false then 1 else (s.inst l).e
def SecR.withZ (s : SecR) (q : ZE) : SecR := { s with z := some (q.o, q.l) }
def SecR.got (s : SecR) (l : List Rec) (now : Int) : SecR :=
 if okTime now = false then s else
 if (s.inst l).e = 5 ∧ s.z.isSome = true then s.fresh now else
 if (s.inst l).e ≠ 0 then s.failed now else (s.withZ (s.inst l)).fresh now
def SecR.crash (s : SecR) : SecR := { s with take := false, next := 0 }
def SecR.up (s : SecR) (now : Int) : Bool := okTime now && (s.z.isSome && decide (now < s.til))
def secE (og : List UInt8) (retry : Int) : Int := if checkE og ≠ 0 ∨ retry < 1 ∨ 2147483647 < retry then 1 else 0
def secNew (og : List UInt8) (retry : Int) : SecR := ⟨og, retry, none, 0, 0, false⟩
structure SecOk (s : SecR) : Prop where
 og : checkE s.og = 0
 retry : 1 ≤ s.retry ∧ s.retry ≤ 2147483647
 zone : ∀ o l, s.z = some (o, l) → ZoneOk o l ∧ o = fold s.og
theorem soaZ_ok {o : List UInt8} {l : List RSet} (h : ZoneOk o l) : (soaZ o l).ok = true := by
 obtain ⟨s, _, _, _, _, _, hp, _⟩ := h.soaSet
 rw [soaZ, if_pos (zone_ok' h)]
 exact parse_ok hp
theorem soaZ_fits {o : List UInt8} {l : List RSet} (h : ZoneOk o l) : 0 ≤ (soaZ o l).serial ∧ (soaZ o l).serial ≤ 4294967295 ∧ 0 ≤ (soaZ o l).refresh ∧ (soaZ o l).refresh ≤ 2147483647 ∧ 0 ≤ (soaZ o l).retry ∧ (soaZ o l).retry ≤ 2147483647 ∧ 0 ≤ (soaZ o l).expire ∧ (soaZ o l).expire ≤ 2147483647 := by
 have := soaZ_ok h
 simp only [SoaR.ok, ttlOk, Bool.and_eq_true, decide_eq_true_eq] at this
 omega
theorem ZoneOk.ne {o : List UInt8} {l : List RSet} (h : ZoneOk o l) : l ≠ [] := by
 rintro rfl
 have := h.soa
 simp [findS] at this
theorem SecOk.soa {s : SecR} (h : SecOk s) : 0 ≤ s.soa.refresh ∧ s.soa.refresh ≤ 2147483647 ∧ 0 ≤ s.soa.retry ∧ s.soa.retry ≤ 2147483647 ∧ 0 ≤ s.soa.expire ∧ s.soa.expire ≤ 2147483647 := by
 have hr := h.retry
 unfold SecR.soa
 split
 ·simp only; omega
 ·rename_i z hz
  have := soaZ_fits (h.zone z.1 z.2 hz).1
  omega
theorem okTime_iff {n : Int} : okTime n = true ↔ 0 ≤ n ∧ n ≤ 1099511627776 := by simp [okTime]
theorem SecOk.old {s : SecR} (h : SecOk s) : (s.l = [] ↔ s.z = none) ∧ (s.l = [] ∨ s.o = fold s.og) := by
 unfold SecR.l SecR.o
 split
 ·rename_i hz; simp [hz]
 ·rename_i z hz
  have := h.zone z.1 z.2 hz
  refine ⟨⟨fun e => absurd e this.1.ne, fun e => by rw [hz] at e; cases e⟩, .inr this.2⟩
theorem SecOk.of {s t : SecR} (h : SecOk s) (h1 : t.og = s.og) (h2 : t.retry = s.retry) (h3 : t.z = s.z) : SecOk t := ⟨by rw [h1]; exact h.og, by rw [h2]; exact h.retry, by rw [h1, h3]; exact h.zone⟩
theorem SecOk.new {og : List UInt8} {retry : Int} (h : secE og retry = 0) : SecOk (secNew og retry) := by
 unfold secE at h
 split at h
 ·cases h
 ·rename_i c
  refine ⟨?_, ?_, ?_⟩
  ·unfold secNew; simp only
   exact Decidable.byContradiction fun e => c (.inl e)
  ·unfold secNew; simp only
   omega
  ·intro o l e; cases e
theorem SecOk.notify {s : SecR} (h : SecOk s) (n now : Int) : SecOk (s.notify n now) := by
 unfold SecR.notify; split <;> first | exact h | exact h.of rfl rfl rfl
theorem SecOk.failed {s : SecR} (h : SecOk s) (now : Int) : SecOk (s.failed now) := by
 unfold SecR.failed; split <;> first | exact h | exact h.of rfl rfl rfl
theorem SecOk.fresh {s : SecR} (h : SecOk s) (now : Int) : SecOk (s.fresh now) := h.of rfl rfl rfl
theorem SecOk.crash {s : SecR} (h : SecOk s) : SecOk s.crash := h.of rfl rfl rfl
theorem SecOk.heard {s : SecR} (h : SecOk s) (n now : Int) : SecOk (s.heard n now) := by
 unfold SecR.heard
 split
 ·exact h
 ·split
  ·exact h.failed now
  ·split
   ·exact h.of rfl rfl rfl
   ·exact h.fresh now
theorem SecOk.inst {s : SecR} (h : SecOk s) {l : List Rec} (he : (s.inst l).e = 0) : ZoneOk (s.inst l).o (s.inst l).l ∧ (s.inst l).o = fold s.og ∧ (∀ o l', s.z = some (o, l') → laterB (soaZ (s.inst l).o (s.inst l).l).serial (soaZ o l').serial = true) := by
 obtain ⟨a, b, c⟩ := inst_ok (oo := s.o) (lo := s.l) (og := s.og) he
 obtain ⟨h1, h2⟩ := h.old
 refine ⟨a, b h2, fun o l' hz => ?_⟩
 have := c (fun e => by rw [h1.1 e] at hz; cases hz)
 unfold SecR.o SecR.l at this
 rw [hz] at this
 unfold SecR.inst SecR.o SecR.l
 rw [hz]
 exact this
theorem SecOk.got {s : SecR} (h : SecOk s) (l : List Rec) (now : Int) : SecOk (s.got l now) := by
 unfold SecR.got
 split
 ·exact h
 ·split
  ·exact h.fresh now
  ·split
   ·exact h.failed now
   ·rename_i c
    obtain ⟨a, b, _⟩ := h.inst (l := l) (by simpa using c)
    refine SecOk.fresh (s := s.withZ (s.inst l)) ⟨h.og, h.retry, ?_⟩ now
    intro o l' e
    simp only [SecR.withZ, Option.some.injEq, Prod.mk.injEq] at e
    obtain ⟨rfl, rfl⟩ := e
    exact ⟨a, b⟩
def Yes (w : World) (e : Ending) (w' : World) : Prop := e = .returned (.bool true) ∧ Ext w w'
def secC (s : SecR) (pz : Value) : List Value := str s.og :: (s.soa.cells ++ [pz, .int .i64 s.next, .int .i64 s.til, .bool s.take])
def kecC (s : SecR) (v : Value) : List Value := [str s.og, .int .i64 s.retry, .bool s.z.isSome, str s.o, v, .int .i64 s.next, .int .i64 s.til, .bool s.take]
theorem SetsO.mvb {B b : Nat} {w w' : World} {v : Value} {l : List RSet} (h : SetsO B w v l) (hm : Mv (some b) w w') (hb : b < B) : SetsO B w' v l := by
 obtain ⟨css, h1, h2, h3, h4⟩ := h
 have hs : ∀ (k : Nat) (u : Value) (es : List (List Value)), Sl k w u es → From B u → Sl k w' u es := by
  intro k u es hsl hf
  obtain ⟨a, cap, k1, k2, k3, k4, k5, k6⟩ := hsl
  refine ⟨a, cap, k1, k2, k3, k4, k5, fun hn => ?_⟩
  obtain ⟨g, o, e, hc⟩ := k6 hn
  have hg : B ≤ g := hf g o none _ _ (by rw [k1, e])
  refine ⟨g, o, e, fun i e j x i1 i2 => ?_⟩
  have hcell := hc i e j x i1 i2
  have hlt := World.block_lt_of_cell? w _ hcell
  exact (World.cell?_of_block (hm.block g hlt (fun e => by have := Option.some.inj e; omega))).trans hcell
 refine ⟨css, hs _ _ _ h1 h2, h2, ⟨h3.len, fun i s hi => ?_⟩, h4⟩
 obtain ⟨x, e, hx⟩ := h3.at' i s hi
 exact ⟨x, e, hs _ _ _ hx (h4 _ (List.mem_of_getElem? e) x (by simp))⟩
structure SAt (B : Nat) (w : World) (b : Nat) (s : SecR) : Prop where
 lt : b < B
 out : ∃ pz, w.heap[b]? = some (.cells (secC s pz).toArray 103 (0, 0)) ∧ (s.z = none → pz = .pointer none) ∧
  (∀ o l, s.z = some (o, l) → ∃ c v, pz = .pointer (some ⟨c, 0, none⟩) ∧ B ≤ c ∧ w.heap[c]? = some (.cells [str o, v].toArray 34 (0, 0)) ∧ SetsO B w v l)
structure KSt (B : Nat) (w : World) (b : Nat) (s : SecR) : Prop where
 lt : b < B
 out : ∃ v, w.heap[b]? = some (.cells (kecC s v).toArray 55 (0, 0)) ∧ SetsO B w v s.l
theorem SAt.grow {B : Nat} {w w' : World} {b : Nat} {s : SecR} (h : SAt B w b s) (hx : Ext w w') : SAt B w' b s := by
 obtain ⟨h1, pz, h2, h3, h4⟩ := h
 exact ⟨h1, pz, hx.at h2, h3, fun o l e => let ⟨c, v, a1, a2, a3, a4⟩ := h4 o l e; ⟨c, v, a1, a2, hx.at a3, a4.ext hx⟩⟩
theorem KSt.grow {B : Nat} {w w' : World} {b : Nat} {s : SecR} (h : KSt B w b s) (hx : Ext w w') : KSt B w' b s := by
 obtain ⟨h1, v, h2, h3⟩ := h
 exact ⟨h1, v, hx.at h2, h3.ext hx⟩
theorem SAt.other {B c : Nat} {w w' : World} {b : Nat} {s : SecR} (h : SAt B w b s) (hm : Mv (some c) w w') (hc : c < B) (hne : b ≠ c) : SAt B w' b s := by
 obtain ⟨h1, pz, h2, h3, h4⟩ := h
 refine ⟨h1, pz, hm.at h2 (fun e => hne (Option.some.inj e)), h3, fun o l e => ?_⟩
 obtain ⟨d, v, a1, a2, a3, a4⟩ := h4 o l e
 exact ⟨d, v, a1, a2, hm.at a3 (fun e => by have := Option.some.inj e; omega), a4.mvb hm hc⟩
theorem KSt.other {B c : Nat} {w w' : World} {b : Nat} {s : SecR} (h : KSt B w b s) (hm : Mv (some c) w w') (hc : c < B) (hne : b ≠ c) : KSt B w' b s := by
 obtain ⟨h1, v, h2, h3⟩ := h
 exact ⟨h1, v, hm.at h2 (fun e => hne (Option.some.inj e)), h3.mvb hm hc⟩
theorem SAt.put {B : Nat} {w w' : World} {b : Nat} {s t : SecR} {pz : Value} (h : SAt B w b s) (hb : w.heap[b]? = some (.cells (secC s pz).toArray 103 (0, 0))) (hp : Put w w' b (.cells (secC t pz).toArray 103 (0, 0))) (hz : t.z = s.z) : SAt B w' b t := by
 obtain ⟨h1, pz', h2, h3, h4⟩ := h
 have e : pz' = pz := by
  rw [hb] at h2
  have h5 : (secC s pz).toArray = (secC s pz').toArray := by simpa using h2
  have h6 : secC s pz = secC s pz' := by simpa using h5
  simpa [secC] using h6.symm
 subst e
 refine ⟨h1, pz', hp.this, fun e => h3 (by rw [← hz]; exact e), fun o l e => ?_⟩
 obtain ⟨d, v, a1, a2, a3, a4⟩ := h4 o l (by rw [← hz]; exact e)
 exact ⟨d, v, a1, a2, hp.at a3 (by omega), a4.mvb hp.mv h1⟩
theorem KSt.put {B : Nat} {w w' : World} {b : Nat} {s t : SecR} {v : Value} (h : SetsO B w v s.l) (h1 : b < B) (hp : Put w w' b (.cells (kecC t v).toArray 55 (0, 0))) (hz : t.l = s.l) : KSt B w' b t :=
 ⟨h1, v, hp.this, by rw [hz]; exact h.mvb hp.mv h1⟩
theorem p_isTime (n : Int) (w : World) : Calls Tryz.prog 64 #[.int .i64 n] w (RetV w (.bool (okTime n))) := by
 go_enter Tryz.func64, Tryz.ntmps64
 (repeat' first | ((with_reducible refine nx0 ?_); go_step) | ((with_reducible refine o_s ?_); first | refine wk1 ?_ | (refine wg0 ?_ ?_ <;> intro hc)) | fail)
 all_goals
  go_ret
  refine ⟨?_, Ext.refl _⟩
  simp [okTime]
  omega
theorem SAt.pts {B : Nat} {w : World} {b : Nat} {s : SecR} (h : SAt B w b s) : ∃ pz, w.heap[b]? = some (.cells (secC s pz).toArray 103 (0, 0)) ∧ Pts w (.pointer (some ⟨b, 0, none⟩)) (secC s pz) ∧ Pts w (partPtr (.pointer (some ⟨b, 0, none⟩)) 1) s.soa.cells ∧ Pts w (partPtr (.pointer (some ⟨b, 0, none⟩)) 8) [pz, .int .i64 s.next, .int .i64 s.til, .bool s.take] ∧
 Pts w (partPtr (.pointer (some ⟨b, 0, none⟩)) 9) [.int .i64 s.next, .int .i64 s.til, .bool s.take] ∧ Pts w (partPtr (.pointer (some ⟨b, 0, none⟩)) 10) [.int .i64 s.til, .bool s.take] ∧ Pts w (partPtr (.pointer (some ⟨b, 0, none⟩)) 11) [.bool s.take] ∧ (s.z = none → pz = .pointer none) ∧ (∀ o l, s.z = some (o, l) → ∃ c v, pz = .pointer (some ⟨c, 0, none⟩) ∧ B ≤ c ∧ w.heap[c]? = some (.cells [str o, v].toArray 34 (0, 0)) ∧ SetsO B w v l) := by
 obtain ⟨_, pz, h2, h3, h4⟩ := h
 have hp := pts_block (cs := secC s pz) h2
 refine ⟨pz, h2, hp, ?_, hp.part 8, hp.part 9, hp.part 10, hp.part 11, h3, h4⟩
 exact (hp.part 1).front 7
theorem p_Wants {B : Nat} {w : World} {b : Nat} {s : SecR} (h : SAt B w b s) (now : Int) : Calls Tryz.prog 17 #[.pointer (some ⟨b, 0, none⟩), .int .i64 now] w (RetV w (.int .i64 (s.wants now))) := by
 obtain ⟨pz, hb, hp, hps, h8, h9, h10, h11, _, _⟩ := h.pts
 go_enter Tryz.func17, Tryz.ntmps17
 (repeat' first | ((with_reducible refine nx0 ?_); go_step) | ((with_reducible refine o_s ?_); first | refine wk1 ?_ | (refine wg0 ?_ ?_ <;> intro hc)) | fail)
 refine wpl_callV (enters_of Tryz.func64 rfl rfl) rfl rfl (p_isTime now _) ?_; intro w1 x1; refine gset ?_
 have g9 := h9.ext x1
 have g11 := h11.ext x1
 cases ht : okTime now with
 | false =>
  (repeat' first | ((with_reducible refine nx0 ?_); go_step) | ((with_reducible refine o_s ?_); first | refine wk1 ?_ | (refine wg0 ?_ ?_ <;> intro hc)) | fail)
  go_ret
  exact ⟨by simp [SecR.wants, ht], x1⟩
 | true =>
  (repeat' first | ((with_reducible refine nx0 ?_); go_step) | ((with_reducible refine o_s ?_); first | refine wk1 ?_ | (refine wg0 ?_ ?_ <;> intro hc)) | fail)
  all_goals
   go_ret
   refine ⟨?_, x1⟩
   simp_all [SecR.wants]
theorem p_news {B : Nat} {w : World} {b : Nat} {s : SecR} (h : SAt B w b s) (n : Int) : Calls Tryz.prog 66 #[.pointer (some ⟨b, 0, none⟩), .int .i64 n] w (RetV w (.bool (s.news n))) := by
 obtain ⟨pz, hb, hp, hps, h8, h9, h10, h11, hn, hz⟩ := h.pts
 have hse : Pts w (partPtr (partPtr (.pointer (some ⟨b, 0, none⟩)) 1) 2) [.int .i64 s.soa.serial, .int .i64 s.soa.refresh, .int .i64 s.soa.retry, .int .i64 s.soa.expire, .int .i64 s.soa.minimum] := hps.part 2
 go_enter Tryz.func66, Tryz.ntmps66
 cases hq : s.z with
 | none =>
  have := hn hq
  subst this
  (repeat' first | ((with_reducible refine nx0 ?_); go_step) | ((with_reducible refine o_s ?_); first | refine wk1 ?_ | (refine wg0 ?_ ?_ <;> intro hc)) | fail)
  go_ret
  exact ⟨by simp [SecR.news, hq], Ext.refl _⟩
 | some q =>
  obtain ⟨c, v, rfl, _⟩ := hz q.1 q.2 hq
  (repeat' first | ((with_reducible refine nx0 ?_); go_step) | ((with_reducible refine o_s ?_); first | refine wk1 ?_ | (refine wg0 ?_ ?_ <;> intro hc)) | fail)
  refine wpl_callV (enters_of Tryz.func25 rfl rfl) rfl rfl (p_Later _ _ _) ?_; intro w1 x1; refine gset ?_
  (repeat' first | ((with_reducible refine nx0 ?_); go_step) | ((with_reducible refine o_s ?_); first | refine wk1 ?_ | (refine wg0 ?_ ?_ <;> intro hc)) | fail)
  go_ret
  exact ⟨by simp [SecR.news, hq], x1⟩
theorem secC_take (s : SecR) (pz : Value) (t : Bool) : (secC s pz).set 11 (.bool t) = secC { s with take := t } pz := rfl
theorem secC_next (s : SecR) (pz : Value) (n : Int) : (secC s pz).set 9 (.int .i64 n) = secC { s with next := n } pz := rfl
theorem secC_til (s : SecR) (pz : Value) (n : Int) : (secC s pz).set 10 (.int .i64 n) = secC { s with til := n } pz := rfl
def SecStep (B b : Nat) (t : SecR) (w : World) (e : Ending) (w' : World) : Prop := e = .returned (.tuple #[]) ∧ SAt B w' b t ∧ Mv (some b) w w'
set_option maxHeartbeats 4000000 in
theorem p_fresh {B : Nat} {w : World} {b : Nat} {s : SecR} (h : SAt B w b s) (hs : SecOk s) (now : Int) (hn : okTime now = true) : Calls Tryz.prog 67 #[.pointer (some ⟨b, 0, none⟩), .int .i64 now] w (SecStep B b (s.fresh now) w) := by
 obtain ⟨pz, hb, hp, hps, h8, h9, h10, h11, _, _⟩ := h.pts
 have hn' := okTime_iff.1 hn
 obtain ⟨b1, b2, b3, b4, b5, b6⟩ := hs.soa
 have f3 : Pts w (partPtr (partPtr (.pointer (some ⟨b, 0, none⟩)) 1) 3) [.int .i64 s.soa.refresh, .int .i64 s.soa.retry, .int .i64 s.soa.expire, .int .i64 s.soa.minimum] := hps.part 3
 have f5 : Pts w (partPtr (partPtr (.pointer (some ⟨b, 0, none⟩)) 1) 5) [.int .i64 s.soa.expire, .int .i64 s.soa.minimum] := hps.part 5
 go_enter Tryz.func67, Tryz.ntmps67
 repeat' (first | ((with_reducible refine nx0 ?_); go_step) | fail)
 refine wpi_region 19 (Ext w) (by decide +kernel) ?_
 intro w1 x1 _
 refine ⟨x1, ?_⟩
 refine ip1 0 ?_; refine ip1 1 ?_; refine ip1 2 ?_; refine ip1 3 ?_; refine ip1 4 ?_; refine ip1 5 ?_; refine ip1 6 ?_
 refine it1 7 ?_; refine it1 8 ?_
 refine ip1 9 ?_; refine ip1 10 ?_; refine ip1 11 ?_; refine ip1 12 ?_; refine ip1 13 ?_
 refine it1 14 ?_; refine it1 15 ?_
 refine ip1 16 ?_; refine ip1 17 ?_; refine ip1 18 ?_
 have hb1 := x1.at hb
 refine wpi_op (i := 19) (by decide +kernel) rfl rfl ?_
 refine wpl_storeF (n := 11) (v := .bool false) hb1 rfl rfl rfl (by simp [secC, SoaR.cells]) (by decide +kernel) rfl ?_
 intro w2 p2
 rw [secC_take] at p2
 refine wph_nil ⟨till_no rfl, ?_⟩
 refine ip1 20 ?_; refine ip1 21 ?_
 refine wpi_op (i := 22) (by decide +kernel) rfl rfl ?_
 refine wpl_storeF (n := 9) (v := .int .i64 (now + s.soa.refresh)) p2.this rfl rfl rfl (by simp [secC, SoaR.cells]) (by decide +kernel) rfl ?_
 intro w3 p3
 rw [secC_next] at p3
 refine wph_nil ⟨till_no rfl, ?_⟩
 refine ip1 23 ?_; refine ip1 24 ?_
 refine wpi_op (i := 25) (by decide +kernel) rfl rfl ?_
 refine wpl_storeF (n := 10) (v := .int .i64 (now + s.soa.expire)) p3.this rfl rfl rfl (by simp [secC, SoaR.cells]) (by decide +kernel) rfl ?_
 intro w4 p4
 rw [secC_til] at p4
 refine wph_nil ⟨till_no rfl, ?_⟩
 refine wpi_done (by decide +kernel) ?_
 (repeat' first | ((with_reducible refine nx0 ?_); go_step) | ((with_reducible refine o_s ?_); first | refine wk1 ?_ | (refine wg0 ?_ ?_ <;> intro hc)) | fail)
 go_end0
 have a2 := (h.grow x1).put hb1 p2 rfl
 have a3 := a2.put p2.this p3 rfl
 have a4 := a3.put p3.this p4 rfl
 exact ⟨rfl, a4, (((x1.mv _).trans p2.mv).trans p3.mv).trans p4.mv⟩
set_option maxHeartbeats 4000000 in
theorem p_Failed {B : Nat} {w : World} {b : Nat} {s : SecR} (h : SAt B w b s) (hs : SecOk s) (now : Int) : Calls Tryz.prog 19 #[.pointer (some ⟨b, 0, none⟩), .int .i64 now] w (SecStep B b (s.failed now) w) := by
 obtain ⟨pz, hb, hp, hps, h8, h9, h10, h11, _, _⟩ := h.pts
 obtain ⟨b1, b2, b3, b4, b5, b6⟩ := hs.soa
 have f4 : Pts w (partPtr (partPtr (.pointer (some ⟨b, 0, none⟩)) 1) 4) [.int .i64 s.soa.retry, .int .i64 s.soa.expire, .int .i64 s.soa.minimum] := hps.part 4
 go_enter Tryz.func19, Tryz.ntmps19
 (repeat' first | ((with_reducible refine nx0 ?_); go_step) | ((with_reducible refine o_s ?_); first | refine wk1 ?_ | (refine wg0 ?_ ?_ <;> intro hc)) | fail)
 refine wpl_callV (enters_of Tryz.func64 rfl rfl) rfl rfl (p_isTime now _) ?_; intro w1 x1; refine gset ?_
 have g4 := f4.ext x1
 have hb1 := x1.at hb
 cases ht : okTime now with
 | false =>
  (repeat' first | ((with_reducible refine nx0 ?_); go_step) | ((with_reducible refine o_s ?_); first | refine wk1 ?_ | (refine wg0 ?_ ?_ <;> intro hc)) | fail)
  go_end0
  exact ⟨rfl, by rw [SecR.failed, if_neg (by simp [ht])]; exact h.grow x1, x1.mv _⟩
 | true =>
  have hn' := okTime_iff.1 ht
  (repeat' first | ((with_reducible refine nx0 ?_); go_step) | ((with_reducible refine o_s ?_); first | refine wk1 ?_ | (refine wg0 ?_ ?_ <;> intro hc)) | fail)
  refine wpl_storeF (n := 11) (v := .bool false) hb1 rfl rfl rfl (by simp [secC, SoaR.cells]) (by decide +kernel) rfl ?_
  intro w2 p2
  rw [secC_take] at p2
  (repeat' first | ((with_reducible refine nx0 ?_); go_step) | ((with_reducible refine o_s ?_); first | refine wk1 ?_ | (refine wg0 ?_ ?_ <;> intro hc)) | fail)
  refine wpl_storeF (n := 9) (v := .int .i64 (now + s.soa.retry)) p2.this rfl rfl rfl (by simp [secC, SoaR.cells]) (by decide +kernel) rfl ?_
  intro w3 p3
  rw [secC_next] at p3
  (repeat' first | ((with_reducible refine nx0 ?_); go_step) | ((with_reducible refine o_s ?_); first | refine wk1 ?_ | (refine wg0 ?_ ?_ <;> intro hc)) | fail)
  go_end0
  have a2 := (h.grow x1).put hb1 p2 rfl
  have a3 := a2.put p2.this p3 rfl
  exact ⟨rfl, by rw [SecR.failed, if_pos ht]; exact a3, ((x1.mv _).trans p2.mv).trans p3.mv⟩
theorem p_Crash {B : Nat} {w : World} {b : Nat} {s : SecR} (h : SAt B w b s) : Calls Tryz.prog 79 #[.pointer (some ⟨b, 0, none⟩)] w (SecStep B b s.crash w) := by
 obtain ⟨pz, hb, hp, hps, h8, h9, h10, h11, _, _⟩ := h.pts
 go_enter Tryz.func79, Tryz.ntmps79
 (repeat' first | ((with_reducible refine nx0 ?_); go_step) | ((with_reducible refine o_s ?_); first | refine wk1 ?_ | (refine wg0 ?_ ?_ <;> intro hc)) | fail)
 refine wpl_storeF (n := 11) (v := .bool false) hb rfl rfl rfl (by simp [secC, SoaR.cells]) (by decide +kernel) rfl ?_
 intro w2 p2
 rw [secC_take] at p2
 (repeat' first | ((with_reducible refine nx0 ?_); go_step) | ((with_reducible refine o_s ?_); first | refine wk1 ?_ | (refine wg0 ?_ ?_ <;> intro hc)) | fail)
 refine wpl_storeF (n := 9) (v := .int .i64 0) p2.this rfl rfl rfl (by simp [secC, SoaR.cells]) (by decide +kernel) rfl ?_
 intro w3 p3
 rw [secC_next] at p3
 (repeat' first | ((with_reducible refine nx0 ?_); go_step) | ((with_reducible refine o_s ?_); first | refine wk1 ?_ | (refine wg0 ?_ ?_ <;> intro hc)) | fail)
 go_end0
 have a2 := h.put hb p2 rfl
 have a3 := a2.put p2.this p3 rfl
 exact ⟨rfl, a3, p2.mv.trans p3.mv⟩
theorem p_Add0 (n : Int) (w : World) : Calls Tryz.prog 125 #[.int .i64 n, .int .i64 0] w (RetV w (.tuple #[.int .i64 (if okSer n = true then n else 0), .int .i64 (if okSer n = true then 0 else 1)])) := by
 go_enter Tryz.func125, Tryz.ntmps125
 (repeat' first | ((with_reducible refine nx0 ?_); go_step) | ((with_reducible refine o_s ?_); first | refine wk1 ?_ | (refine wg0 ?_ ?_ <;> intro hc)) | fail)
 refine wpl_slice (e := 3) (k := 1) (bytes := 8) (xs := [.int .i64 n]) rfl rfl rfl (by simp [Value.cells]) (by decide +kernel) (by simp) ?_
 intro v1 w1 x1 _ sl1 _
 refine gset ?_
 (repeat' first | ((with_reducible refine nx0 ?_); go_step) | ((with_reducible refine o_s ?_); first | refine wk1 ?_ | (refine wg0 ?_ ?_ <;> intro hc)) | fail)
 refine wpl_callV (enters_of Tryz.func135 rfl rfl) rfl rfl (p_may v1 [n] _ sl1) ?_; intro w2 x2; refine gset ?_
 have hx2 := x1.trans x2
 have hall : [n].all okSer = okSer n := by simp
 rw [hall]
 cases hok : okSer n with
 | false =>
  (repeat' first | ((with_reducible refine nx0 ?_); go_step) | ((with_reducible refine o_s ?_); first | refine wk1 ?_ | (refine wg0 ?_ ?_ <;> intro hc)) | fail)
  go_ret2
  exact ⟨by rw [if_neg (by simp [hok]), if_neg (by simp [hok])]; rfl, hx2⟩
 | true =>
  have hn : 0 ≤ n ∧ n ≤ 4294967295 := by simpa [okSer] using hok
  (repeat' first | ((with_reducible refine nx0 ?_); go_step) | ((with_reducible refine o_s ?_); first | refine wk1 ?_ | (refine wg0 ?_ ?_ <;> intro hc)) | fail)
  all_goals first
   | (exfalso; omega)
   | skip
  refine wpl_run0 (Runs.and32 rfl rfl) ?_
  refine gset ?_
  rw [show (n + 0) % 4294967296 = n by omega]
  (repeat' first | ((with_reducible refine nx0 ?_); go_step) | ((with_reducible refine o_s ?_); first | refine wk1 ?_ | (refine wg0 ?_ ?_ <;> intro hc)) | fail)
  go_ret2
  exact ⟨by rw [if_pos hok, if_pos hok]; rfl, hx2⟩
theorem p_isSerial (n : Int) (w : World) : Calls Tryz.prog 65 #[.int .i64 n] w (RetV w (.bool (okSer n))) := by
 go_enter Tryz.func65, Tryz.ntmps65
 (repeat' first | ((with_reducible refine nx0 ?_); go_step) | ((with_reducible refine o_s ?_); first | refine wk1 ?_ | (refine wg0 ?_ ?_ <;> intro hc)) | fail)
 refine wpl_callV (enters_of Tryz.func125 rfl rfl) rfl rfl (p_Add0 n _) ?_; intro w1 x1; refine gset ?_
 (repeat' first | ((with_reducible refine nx0 ?_); go_step) | ((with_reducible refine o_s ?_); first | refine wk1 ?_ | (refine wg0 ?_ ?_ <;> intro hc)) | fail)
 go_ret
 refine ⟨?_, x1⟩
 cases okSer n <;> rfl
set_option maxHeartbeats 4000000 in
theorem p_Notify {B : Nat} {w : World} {b : Nat} {s : SecR} (h : SAt B w b s) (hs : SecOk s) (n now : Int) : Calls Tryz.prog 20 #[.pointer (some ⟨b, 0, none⟩), .int .i64 n, .int .i64 now] w (SecStep B b (s.notify n now) w) := by
 obtain ⟨pz, hb, hp, hps, h8, h9, h10, h11, _, _⟩ := h.pts
 go_enter Tryz.func20, Tryz.ntmps20
 (repeat' first | ((with_reducible refine nx0 ?_); go_step) | ((with_reducible refine o_s ?_); first | refine wk1 ?_ | (refine wg0 ?_ ?_ <;> intro hc)) | fail)
 refine wpl_callV (enters_of Tryz.func64 rfl rfl) rfl rfl (p_isTime now _) ?_; intro w1 x1; refine gset ?_
 cases ht : okTime now with
 | false =>
  (repeat' first | ((with_reducible refine nx0 ?_); go_step) | ((with_reducible refine o_s ?_); first | refine wk1 ?_ | (refine wg0 ?_ ?_ <;> intro hc)) | fail)
  go_end0
  exact ⟨rfl, by rw [SecR.notify, if_neg (by simp [ht])]; exact h.grow x1, x1.mv _⟩
 | true =>
  (repeat' first | ((with_reducible refine nx0 ?_); go_step) | ((with_reducible refine o_s ?_); first | refine wk1 ?_ | (refine wg0 ?_ ?_ <;> intro hc)) | fail)
  refine wpl_callV (enters_of Tryz.func65 rfl rfl) rfl rfl (p_isSerial n _) ?_; intro w2 x2; refine gset ?_
  have hx2 := x1.trans x2
  cases hk : okSer n with
  | false =>
   (repeat' first | ((with_reducible refine nx0 ?_); go_step) | ((with_reducible refine o_s ?_); first | refine wk1 ?_ | (refine wg0 ?_ ?_ <;> intro hc)) | fail)
   go_end0
   exact ⟨rfl, by rw [SecR.notify, if_neg (by simp [hk])]; exact h.grow hx2, hx2.mv _⟩
  | true =>
   (repeat' first | ((with_reducible refine nx0 ?_); go_step) | ((with_reducible refine o_s ?_); first | refine wk1 ?_ | (refine wg0 ?_ ?_ <;> intro hc)) | fail)
   refine wpl_callV (enters_of Tryz.func66 rfl rfl) rfl rfl (p_news (h.grow hx2) n) ?_; intro w3 x3; refine gset ?_
   have hx3 := hx2.trans x3
   cases hnw : s.news n with
   | false =>
    (repeat' first | ((with_reducible refine nx0 ?_); go_step) | ((with_reducible refine o_s ?_); first | refine wk1 ?_ | (refine wg0 ?_ ?_ <;> intro hc)) | fail)
    go_end0
    exact ⟨rfl, by rw [SecR.notify, if_neg (by simp [hnw])]; exact h.grow hx3, hx3.mv _⟩
   | true =>
    have hb3 := hx3.at hb
    have g9 := h9.ext hx3
    (repeat' first | ((with_reducible refine nx0 ?_); go_step) | ((with_reducible refine o_s ?_); first | refine wk1 ?_ | (refine wg0 ?_ ?_ <;> intro hc)) | fail)
    refine wpl_storeF (n := 9) (v := .int .i64 (min s.next now)) hb3 rfl rfl rfl (by simp [secC, SoaR.cells]) (by decide +kernel) rfl ?_
    intro w4 p4
    rw [secC_next] at p4
    (repeat' first | ((with_reducible refine nx0 ?_); go_step) | ((with_reducible refine o_s ?_); first | refine wk1 ?_ | (refine wg0 ?_ ?_ <;> intro hc)) | fail)
    go_end0
    have a4 := (h.grow hx3).put hb3 p4 rfl
    exact ⟨rfl, by rw [SecR.notify, if_pos (by simp [ht, hk, hnw])]; exact a4, (hx3.mv _).trans p4.mv⟩
set_option maxHeartbeats 4000000 in
theorem p_Heard {B : Nat} {w : World} {b : Nat} {s : SecR} (h : SAt B w b s) (hs : SecOk s) (n now : Int) : Calls Tryz.prog 18 #[.pointer (some ⟨b, 0, none⟩), .int .i64 n, .int .i64 now] w (SecStep B b (s.heard n now) w) := by
 obtain ⟨pz, hb, hp, hps, h8, h9, h10, h11, _, _⟩ := h.pts
 obtain ⟨b1, b2, b3, b4, b5, b6⟩ := hs.soa
 have f4 : Pts w (partPtr (partPtr (.pointer (some ⟨b, 0, none⟩)) 1) 4) [.int .i64 s.soa.retry, .int .i64 s.soa.expire, .int .i64 s.soa.minimum] := hps.part 4
 go_enter Tryz.func18, Tryz.ntmps18
 (repeat' first | ((with_reducible refine nx0 ?_); go_step) | ((with_reducible refine o_s ?_); first | refine wk1 ?_ | (refine wg0 ?_ ?_ <;> intro hc)) | fail)
 refine wpl_callV (enters_of Tryz.func64 rfl rfl) rfl rfl (p_isTime now _) ?_; intro w1 x1; refine gset ?_
 cases ht : okTime now with
 | false =>
  (repeat' first | ((with_reducible refine nx0 ?_); go_step) | ((with_reducible refine o_s ?_); first | refine wk1 ?_ | (refine wg0 ?_ ?_ <;> intro hc)) | fail)
  go_end0
  exact ⟨rfl, by rw [SecR.heard, if_pos ht]; exact h.grow x1, x1.mv _⟩
 | true =>
  have hn' := okTime_iff.1 ht
  have q1 : ¬ okTime now = false := by simp [ht]
  (repeat' first | ((with_reducible refine nx0 ?_); go_step) | ((with_reducible refine o_s ?_); first | refine wk1 ?_ | (refine wg0 ?_ ?_ <;> intro hc)) | fail)
  refine wpl_callV (enters_of Tryz.func65 rfl rfl) rfl rfl (p_isSerial n _) ?_; intro w2 x2; refine gset ?_
  have hx2 := x1.trans x2
  cases hk : okSer n with
  | false =>
   (repeat' first | ((with_reducible refine nx0 ?_); go_step) | ((with_reducible refine o_s ?_); first | refine wk1 ?_ | (refine wg0 ?_ ?_ <;> intro hc)) | fail)
   refine wpl_callG (enters_of Tryz.func19 rfl rfl) rfl rfl (p_Failed (h.grow hx2) hs now) ?_; rintro _ w3 ⟨rfl, o3, m3⟩; refine ⟨_, rfl, ?_⟩; refine gset ?_
   (repeat' first | ((with_reducible refine nx0 ?_); go_step) | ((with_reducible refine o_s ?_); first | refine wk1 ?_ | (refine wg0 ?_ ?_ <;> intro hc)) | fail)
   go_end0
   exact ⟨rfl, by rw [SecR.heard, if_neg q1, if_pos hk]; exact o3, (hx2.mv _).trans m3⟩
  | true =>
   have q2 : ¬ okSer n = false := by simp [hk]
   (repeat' first | ((with_reducible refine nx0 ?_); go_step) | ((with_reducible refine o_s ?_); first | refine wk1 ?_ | (refine wg0 ?_ ?_ <;> intro hc)) | fail)
   refine wpl_callV (enters_of Tryz.func66 rfl rfl) rfl rfl (p_news (h.grow hx2) n) ?_; intro w3 x3; refine gset ?_
   have hx3 := hx2.trans x3
   cases hnw : s.news n with
   | false =>
    (repeat' first | ((with_reducible refine nx0 ?_); go_step) | ((with_reducible refine o_s ?_); first | refine wk1 ?_ | (refine wg0 ?_ ?_ <;> intro hc)) | fail)
    refine wpl_callG (enters_of Tryz.func67 rfl rfl) rfl rfl (p_fresh (h.grow hx3) hs now ht) ?_; rintro _ w4 ⟨rfl, o4, m4⟩; refine ⟨_, rfl, ?_⟩; refine gset ?_
    (repeat' first | ((with_reducible refine nx0 ?_); go_step) | ((with_reducible refine o_s ?_); first | refine wk1 ?_ | (refine wg0 ?_ ?_ <;> intro hc)) | fail)
    go_end0
    exact ⟨rfl, by rw [SecR.heard, if_neg q1, if_neg q2, if_neg (by simp [hnw])]; exact o4, (hx3.mv _).trans m4⟩
   | true =>
    have hb3 := hx3.at hb
    have g4 := f4.ext hx3
    (repeat' first | ((with_reducible refine nx0 ?_); go_step) | ((with_reducible refine o_s ?_); first | refine wk1 ?_ | (refine wg0 ?_ ?_ <;> intro hc)) | fail)
    refine wpl_storeF (n := 11) (v := .bool true) hb3 rfl rfl rfl (by simp [secC, SoaR.cells]) (by decide +kernel) rfl ?_
    intro w4 p4
    rw [secC_take] at p4
    (repeat' first | ((with_reducible refine nx0 ?_); go_step) | ((with_reducible refine o_s ?_); first | refine wk1 ?_ | (refine wg0 ?_ ?_ <;> intro hc)) | fail)
    refine wpl_storeF (n := 9) (v := .int .i64 (now + s.soa.retry)) p4.this rfl rfl rfl (by simp [secC, SoaR.cells]) (by decide +kernel) rfl ?_
    intro w5 p5
    rw [secC_next] at p5
    (repeat' first | ((with_reducible refine nx0 ?_); go_step) | ((with_reducible refine o_s ?_); first | refine wk1 ?_ | (refine wg0 ?_ ?_ <;> intro hc)) | fail)
    go_end0
    have a4 := ((h.grow hx3).put hb3 p4 rfl).put p4.this p5 rfl
    exact ⟨rfl, by rw [SecR.heard, if_neg q1, if_neg q2, if_pos hnw]; exact a4, ((hx3.mv _).trans p4.mv).trans p5.mv⟩
theorem set_take_drop {α : Type} (l : List α) (i : Nat) (x : α) (h : i < l.length) : l.take i ++ [x] ++ l.drop (i + 1) = l.set i x := by
 rw [List.set_eq_take_append_cons_drop, if_pos h, List.append_assoc]
 rfl
section
variable {P : Program} {ops : Array Oper} {Q : Exit → Act → World → Prop} {w : World} {rest : List Oper} {ts : List Value} {df : List Deferred} {ty : TypeId} {ps : String} {af : Array Edge} {g : Option (Nat × Bool)}
theorem Own.slf {B k e : Nat} {w : World} {v : Value} {es : List (List Value)} (h : Own B k e w v es) : v = .slice none 0 0 ∧ es = [] ∨ ∃ g cap, v = .slice (some ⟨g, 0, none⟩) es.length cap := by
 rcases h.row.2 with ⟨h0, h1⟩ | ⟨g', cap', cur, fz, hv, _⟩
 ·exact .inl ⟨h0, List.eq_nil_of_length_eq_zero h1⟩
 ·exact .inr ⟨g', cap', hv⟩
theorem run_storeEk {B k e : Nat} {v : Value} {es : List (List Value)} {i : Nat} {c : Value} {f : List Value} {t : TypeId} (ho : Own B k e w v es) (hi : i < es.length) (hc : c.cells = f.toArray) (hf : f.length = k) (h1 : ∀ u ∈ f, u.oneCell' = true) (ht : sizeTy P t k = true) :
 ∃ w' b, elemPtr v (i * k) = .pointer (some ⟨b, i * k, none⟩) ∧ (storeVar t ⟨b, i * k, none⟩ c).run P w = .ok () w' ∧ Own B k e w' v (es.set i f) ∧ Mv v.ownBlock w w' := by
 rcases ho.slf with ⟨_, rfl⟩ | ⟨gb, cap, rfl⟩
 ·simp at hi
 ·obtain ⟨inf, hq, hsz⟩ := info_of (sizeTy_spec ht)
  obtain ⟨cur, fz, hg, hfz, hnc, h3, h4, how, hmv⟩ := ho.over (i := i) (fs := [f]) (by simp; omega) (by intro x hx; rw [List.mem_singleton.1 hx]; exact hf)
  simp only [List.flatten_cons, List.flatten_nil, List.append_nil, List.length_cons, List.length_nil, Nat.zero_add] at h3 how hmv
  rw [set_take_drop _ _ _ hi] at how
  have hr := run_storeCells_G P gb (i * k) e fz f 0 cur w hg (by omega) (by omega) h1
  simp only [Nat.add_zero] at hr
  refine ⟨_, gb, by simp [elemPtr, add_none], ?_, by simpa using how, hmv⟩
  simp [storeVar, sizeOf, typeInfo, hq, hsz, hc, hr, hf]
theorem wpl_storeEk {B k e : Nat} {v c : Value} {es : List (List Value)} {f : List Value} {t ty2 : TypeId} {x y : Operand} {i : Nat} (hw : Region.wanted (Oper.mk none (.store t x y) ty2 ps af g) (yielded ops ts.toArray) = true)
 (hx : (Act.mk ts.toArray df).eval x = elemPtr v (i * k)) (hy : (Act.mk ts.toArray df).eval y = c) (ho : Own B k e w v es) (hi : i < es.length) (hc : c.cells = f.toArray) (hf : f.length = k) (h1 : ∀ u ∈ f, u.oneCell' = true) (ht : sizeTy P t k = true)
 (h : ∀ w', Own B k e w' v (es.set i f) → Mv v.ownBlock w w' → wpList P ops Q rest (Act.mk ts.toArray df) w') : wpList P ops Q (Oper.mk none (.store t x y) ty2 ps af g :: rest) (Act.mk ts.toArray df) w := by
 obtain ⟨w', b, e1, hr, ho', hm⟩ := run_storeEk (P := P) ho hi hc hf h1 ht
 refine wpl_skipper hw (w' := w') ?_ (h w' ho' hm)
 simp [execOp, hx, hy, e1, Instr.storeAt, Instr.sureAddr, hr]
end
set_option maxHeartbeats 8000000 in
theorem p_Apply (o : List UInt8) (v : Value) (l : List RSet) {d : DeltaR} {r : Value} (w : World) (hv : SetsAt w v l) (hd : DelA d r w)
 (bl : ∀ s ∈ l, s.data.length ≤ 1000000) (dl : ∀ s ∈ l, ∀ d ∈ s.data, d.length ≤ 1000000) (h1 : (recordsS l).length ≤ 5000) (h2 : d.new.length ≤ 5000) (dn : ∀ q ∈ d.new, q.data.length ≤ 1000000) :
 Calls Tryz.prog 215 #[.agg #[str o, v], r] w (Ret w (AppU w.heap.size o l d)) := by
 obtain ⟨g, n, rfl, sg, sn⟩ := hd
 have lg := rcells_length d.gone
 have ln := rcells_length d.new
 have lgl := sg.le
 have lnl := sn.le
 go_enter Tryz.func215, Tryz.ntmps215
 repeat' (first | ((with_reducible refine nx0 ?_); go_step) | fail)
 refine wpl_box (vs := [str o, v]) rfl rfl ?_
 intro p w1 x1 hp
 refine gset ?_
 refine wpl_box (vs := [.int .i64 d.fr, .int .i64 d.to, g, n]) rfl rfl ?_
 intro q w2 x2 hq
 refine gset ?_
 refine wpl_allocB (z := zzone) rfl (by decide +kernel) ?_
 intro w3 x3 s3 h3
 refine gset ?_
 have hx3 := (x1.trans x2).trans x3
 have zz := (x1.trans x2).size
 have hp3 := (hp.ext x2).ext x3
 have hq3 := hq.ext x3
 (repeat' first | ((with_reducible refine nx0 ?_); go_step) | ((with_reducible refine o_s ?_); first | refine wk0 ?_ | (refine wg0 ?_ ?_ <;> intro hc)) | fail)
 refine wpl_callV (enters_of Tryz.func40 rfl rfl) rfl rfl (p_Soa o v l _ (hv.ext hx3) bl (fun s hs d hd => by have := dl s hs d hd; omega)) ?_; intro w4 x4; refine gset ?_
 have hx4 := hx3.trans x4
 (repeat' first | ((with_reducible refine nx0 ?_); go_step) | ((with_reducible refine o_s ?_); first | refine wk0 ?_ | (refine wg0 ?_ ?_ <;> intro hc)) | fail)
 refine wpl_allocB (z := zeroSoa) rfl (by decide +kernel) ?_
 intro w5 x5 s5 h5
 refine gset ?_
 refine wpl_storeB (v := .agg (soaZ o l).cells.toArray) rfl rfl rfl h5 (show sizeTy Tryz.prog 61 7 = true by decide +kernel) rfl (soaR_one _) ?_
 intro w6 p6
 have x46 : Ext w4 w6 := x5.move p6.mv (by rintro k ⟨⟩; exact Nat.le_refl _)
 have b6 : w6.heap[w4.heap.size]? = some (.cells (soaZ o l).cells.toArray 61 (0, 0)) := p6.this
 have x36 := x4.trans x46
 have hx6 := hx3.trans x36
 clear p6 h5 x5
 have h6 := x36.at h3
 have hp6 := hp3.ext x36
 have hq6 := hq3.ext x36
 (repeat' first | ((with_reducible refine nx0 ?_); go_step) | ((with_reducible refine o_s ?_); first | refine wk0 ?_ | (refine wg0 ?_ ?_ <;> intro hc)) | fail)
 ·have q0 : ¬ zoneR o l = 0 := by simpa using (by assumption : (!decide (zoneR o l = 0)) = true)
  refine wpl_run (v := .agg zzone.toArray) rfl (Runs.build0 (by kernel_rfl)) ?_
  refine gset ?_
  (repeat' first | ((with_reducible refine nx0 ?_); go_step) | ((with_reducible refine o_s ?_); first | refine wk0 ?_ | (refine wg0 ?_ ?_ <;> intro hc)) | fail)
  refine wpl_storeB (v := .agg zzone.toArray) rfl rfl rfl h6 (by decide +kernel) rfl (by decide +kernel) ?_
  intro wz pz
  have xz : Ext w wz := hx6.move pz.mv (by rintro k ⟨⟩; exact zz)
  (repeat' first | ((with_reducible refine nx0 ?_); go_step) | ((with_reducible refine o_s ?_); first | refine wk0 ?_ | (refine wg0 ?_ ?_ <;> intro hc)) | fail)
  refine bodyPost_ret (results_cellT (cs := zzone) rfl rfl pz.this (by decide +kernel)) rfl ⟨_, rfl, xz, ?_⟩
  exact AppU.bad (by rw [appE, if_neg q0]) q0
 ·have q0 : zoneR o l = 0 := by simpa using (by assumption : (!decide (zoneR o l = 0)) = false)
  have pb6 := pts_block b6
  have pb6' : Pts w6 (.pointer (some ⟨w4.heap.size, 0, none⟩)) [str (soaZ o l).main, str (soaZ o l).mail, .int .i64 (soaZ o l).serial, .int .i64 (soaZ o l).refresh, .int .i64 (soaZ o l).retry, .int .i64 (soaZ o l).expire, .int .i64 (soaZ o l).minimum] := pb6
  (repeat' first | ((with_reducible refine nx0 ?_); go_step) | ((with_reducible refine o_s ?_); first | refine wk0 ?_ | (refine wg0 ?_ ?_ <;> intro hc)) | fail)
  ·have q1 : ¬ (soaZ o l).serial = d.fr := by simpa using (by assumption : (!decide ((soaZ o l).serial = d.fr)) = true)
   refine wpl_run (v := .agg zzone.toArray) rfl (Runs.build0 (by kernel_rfl)) ?_
   refine gset ?_
   refine wpl_storeB (v := .agg zzone.toArray) rfl rfl rfl h6 (by decide +kernel) rfl (by decide +kernel) ?_
   intro wz pz
   have xz : Ext w wz := hx6.move pz.mv (by rintro k ⟨⟩; exact zz)
   (repeat' first | ((with_reducible refine nx0 ?_); go_step) | ((with_reducible refine o_s ?_); first | refine wk0 ?_ | (refine wg0 ?_ ?_ <;> intro hc)) | fail)
   refine bodyPost_ret (results_cellT (cs := zzone) rfl rfl pz.this (by decide +kernel)) rfl ⟨_, rfl, xz, ?_⟩
   exact AppU.bad (by rw [appE, if_pos q0, if_neg q1]) (by decide)
  ·have q1 : (soaZ o l).serial = d.fr := by simpa using (by assumption : (!decide ((soaZ o l).serial = d.fr)) = false)
   refine wpl_callR (enters_of Tryz.func71 rfl rfl) rfl rfl (t10 v l _ (hv.ext hx6) (by omega)) ?_
   intro r0 w7 x7 o7
   refine gset ?_
   have hq7 := hq6.ext x7
   have sg6 := sg.ext hx6
   have sn6 := sn.ext hx6
   have hrd := recs_data dl
   (repeat' first | ((with_reducible refine nx0 ?_); go_step) | ((with_reducible refine o_s ?_); first | refine wk0 ?_ | (refine wg0 ?_ ?_ <;> intro hc)) | fail)
   go_loopw [8, 10, 11, 39] (fun o _ _ i wr => ∃ (k : Nat) (m : List Rec), k ≤ d.gone.length ∧ i = .int .i64 k ∧ Ext w6 wr ∧ Own w6.heap.size 4 81 wr o (rcells m) ∧ goneF (recordsS l) (d.gone.take k) = some m) (fun _ _ _ i _ => d.gone.length - (intOf i).toNat)
   case atStart => exact ⟨0, recordsS l, Nat.zero_le _, rfl, x7, o7, rfl⟩
   case round =>
    obtain ⟨k, m, hk, rfl, hx, ho, hg⟩ := hrel
    obtain ⟨gl, gm⟩ := gone_len hg
    have hml := rcells_length m
    have hsg := sg6.ext hx
    have hqr := hq6.ext hx
    have hpr := hp6.ext hx
    by_cases hlt : k < d.gone.length
    ·have hpe := hsg.elem (rcells_at hlt)
     (repeat' first | ((with_reducible refine nx0 ?_); go_step) | ((with_reducible refine o_s ?_); first | refine wk0 ?_ | (refine wg0 ?_ ?_ <;> intro hc)) | fail)
     refine wpl_allocB (z := zrec) rfl (by decide +kernel) ?_
     intro w8 x8 s8 h8
     refine gset ?_
     refine wpl_storeB (v := .agg #[str d.gone[k].name, .int .i64 d.gone[k].kind, .int .i64 d.gone[k].ttl, str d.gone[k].data]) rfl rfl rfl h8 (show sizeTy Tryz.prog 81 4 = true by decide +kernel) rfl (all4 rfl rfl rfl rfl) ?_
     intro w9 p9
     have x9 : Ext wr w9 := x8.move p9.mv (by rintro k ⟨⟩; exact Nat.le_refl _)
     have hp9 := pts_block (cs := [str d.gone[k].name, .int .i64 d.gone[k].kind, .int .i64 d.gone[k].ttl, str d.gone[k].data]) p9.this
     have hx9 := hx.trans x9
     have ho9 := ho.ext x9
     clear p9 h8 x8
     (repeat' first | ((with_reducible refine nx0 ?_); go_step) | ((with_reducible refine o_s ?_); first | refine wk0 ?_ | (refine wg0 ?_ ?_ <;> intro hc)) | fail)
     refine wpl_callV (enters_of Tryz.func253 rfl rfl) rfl rfl (p_Index _ m d.gone[k] _ ho9.sl) ?_; intro w10 x10; refine gset ?_
     have hx10 := hx9.trans x10
     have ho10 := ho9.ext x10
     by_cases hm : d.gone[k] ∈ m
     ·obtain ⟨i, hi, ei, ee⟩ := idx_mem hm
      rw [ei]
      have hst := gone_step hlt hg
      rw [if_pos hm] at hst
      (repeat' first | ((with_reducible refine nx0 ?_); go_step) | ((with_reducible refine o_s ?_); first | refine wk0 ?_ | (refine wg0 ?_ ?_ <;> intro hc)) | fail)
      refine wpl_callG (enters_of Tryz.func257 rfl rfl) rfl rfl (p_Delete ho10 hi (by omega)) ?_
      rintro _ w11 ⟨v11, rfl, o11, m11, k11⟩
      refine ⟨_, rfl, ?_⟩
      refine gset ?_
      rw [ee] at o11
      have hx11 : Ext w6 w11 := ho10.mvx m11 hx10 (Nat.le_refl _)
      (repeat' first | ((with_reducible refine nx0 ?_); go_step) | ((with_reducible refine o_s ?_); first | refine wk0 ?_ | (refine wg0 ?_ ?_ <;> intro hc)) | fail)
      exact ⟨⟨k + 1, _, by omega, by go_num, hx11, o11, hst⟩, by simp [intOf]; omega⟩
     ·rw [idx_none hm]
      have hb := edit_none1 (gone_bad hlt hg hm)
      (repeat' first | ((with_reducible refine nx0 ?_); go_step) | ((with_reducible refine o_s ?_); first | refine wk0 ?_ | (refine wg0 ?_ ?_ <;> intro hc)) | fail)
      refine wpl_run (v := .agg zzone.toArray) rfl (Runs.build0 (by kernel_rfl)) ?_
      refine gset ?_
      refine wpl_storeB (v := .agg zzone.toArray) rfl rfl rfl (hx10.at h6) (by decide +kernel) rfl (by decide +kernel) ?_
      intro wz pz
      have xz : Ext w wz := (hx6.trans hx10).move pz.mv (by rintro k ⟨⟩; exact zz)
      (repeat' first | ((with_reducible refine nx0 ?_); go_step) | ((with_reducible refine o_s ?_); first | refine wk0 ?_ | (refine wg0 ?_ ?_ <;> intro hc)) | fail)
      refine bodyPost_ret (results_cellT (cs := zzone) rfl rfl pz.this (by decide +kernel)) rfl ⟨_, rfl, xz, ?_⟩
      exact AppU.bad (appE_none q0 q1 hb) (by decide)
    ·have : k = d.gone.length := by omega
     subst this
     rw [List.take_length] at hg
     have hed := edit_of hg
     (repeat' first | ((with_reducible refine nx0 ?_); go_step) | ((with_reducible refine o_s ?_); first | refine wk0 ?_ | (refine wg0 ?_ ?_ <;> intro hc)) | fail)
     go_loopw [8, 13, 58] (fun o _ i wr => ∃ (k : Nat) (m' : List Rec), k ≤ d.new.length ∧ i = .int .i64 k ∧ Ext w6 wr ∧ Own w6.heap.size 4 81 wr o (rcells m') ∧ newF m (d.new.take k) = some m') (fun _ _ i _ => d.new.length - (intOf i).toNat)
     case atStart => exact ⟨0, m, Nat.zero_le _, rfl, hx, ho, rfl⟩
     case round =>
      obtain ⟨k, m', hk, rfl, hx, ho, hn⟩ := hrel
      obtain ⟨nl, nm⟩ := new_len hn
      have hml := rcells_length m'
      have hsn := sn6.ext hx
      have hqr := hq6.ext hx
      have hpr := hp6.ext hx
      rw [List.length_take] at nl
      by_cases hlt : k < d.new.length
      ·have hpe := hsn.elem (rcells_at hlt)
       have hst := new_step hlt hn
       (repeat' first | ((with_reducible refine nx0 ?_); go_step) | ((with_reducible refine o_s ?_); first | refine wk0 ?_ | (refine wg0 ?_ ?_ <;> intro hc)) | fail)
       refine wpl_allocB (z := zrec) rfl (by decide +kernel) ?_
       intro w8 x8 s8 h8
       refine gset ?_
       refine wpl_storeB (v := .agg #[str d.new[k].name, .int .i64 d.new[k].kind, .int .i64 d.new[k].ttl, str d.new[k].data]) rfl rfl rfl h8 (show sizeTy Tryz.prog 81 4 = true by decide +kernel) rfl (all4 rfl rfl rfl rfl) ?_
       intro w9 p9
       have x9 : Ext wr w9 := x8.move p9.mv (by rintro k ⟨⟩; exact Nat.le_refl _)
       have hp9 := pts_block (cs := [str d.new[k].name, .int .i64 d.new[k].kind, .int .i64 d.new[k].ttl, str d.new[k].data]) p9.this
       have hx9 := hx.trans x9
       have ho9 := ho.ext x9
       clear p9 h8 x8
       (repeat' first | ((with_reducible refine nx0 ?_); go_step) | ((with_reducible refine o_s ?_); first | refine wk0 ?_ | (refine wg0 ?_ ?_ <;> intro hc)) | fail)
       refine wpl_callV (enters_of Tryz.func206 rfl rfl) rfl rfl (p_Contains _ m' d.new[k] _ ho9.sl) ?_; intro w10 x10; refine gset ?_
       have hx10 := hx9.trans x10
       have ho10 := ho9.ext x10
       have hp10 := hp9.ext x10
       by_cases hm : d.new[k] ∈ m'
       ·rw [decide_eq_true hm]
        have hb := new_bad hlt hn hm
        (repeat' first | ((with_reducible refine nx0 ?_); go_step) | ((with_reducible refine o_s ?_); first | refine wk0 ?_ | (refine wg0 ?_ ?_ <;> intro hc)) | fail)
        refine wpl_run (v := .agg zzone.toArray) rfl (Runs.build0 (by kernel_rfl)) ?_
        refine gset ?_
        refine wpl_storeB (v := .agg zzone.toArray) rfl rfl rfl (hx10.at h6) (by decide +kernel) rfl (by decide +kernel) ?_
        intro wz pz
        have xz : Ext w wz := (hx6.trans hx10).move pz.mv (by rintro k ⟨⟩; exact zz)
        (repeat' first | ((with_reducible refine nx0 ?_); go_step) | ((with_reducible refine o_s ?_); first | refine wk0 ?_ | (refine wg0 ?_ ?_ <;> intro hc)) | fail)
        refine bodyPost_ret (results_cellT (cs := zzone) rfl rfl pz.this (by decide +kernel)) rfl ⟨_, rfl, xz, ?_⟩
        exact AppU.bad (appE_none q0 q1 (hed.trans hb)) (by decide)
       ·rw [decide_eq_false hm]
        rw [if_neg hm] at hst
        (repeat' first | ((with_reducible refine nx0 ?_); go_step) | ((with_reducible refine o_s ?_); first | refine wk0 ?_ | (refine wg0 ?_ ?_ <;> intro hc)) | fail)
        refine ap1 [str d.new[k].name, .int .i64 d.new[k].kind, .int .i64 d.new[k].ttl, str d.new[k].data] hx10 ho10 (by omega) ?_ (rec_elem rfl)
        intro s5 v5 w11 w12 x11 m12 x12 o12
        refine gset ?_
        (repeat' first | ((with_reducible refine nx0 ?_); go_step) | ((with_reducible refine o_s ?_); first | refine wk0 ?_ | (refine wg0 ?_ ?_ <;> intro hc)) | fail)
        refine ⟨⟨k + 1, _, by omega, by go_num, x12, ?_, hst⟩, by simp [intOf]; omega⟩
        simpa [rcells, Rec.cells] using o12
      ·have : k = d.new.length := by omega
       subst this
       rw [List.take_length] at hn
       rw [hn] at hed
       have hmd : ∀ q ∈ m', q.data.length ≤ 1000000 := by
        intro q hq
        rcases nm q hq with h | h
        ·exact hrd q (gm q h)
        ·exact dn q (List.mem_of_mem_take h)
       have hm5 : m'.length ≤ 10000 := by omega
       obtain ⟨lb1, lb2, lb3⟩ := loadL_bounds (o := o) hmd
       have hend := appE_some q0 q1 hed
       (repeat' first | ((with_reducible refine nx0 ?_); go_step) | ((with_reducible refine o_s ?_); first | refine wk0 ?_ | (refine wg0 ?_ ?_ <;> intro hc)) | fail)
       refine wpl_callR (enters_of Tryz.func21 rfl rfl) rfl rfl (p_Load o _ m' _ ho.sl hm5 (fun q hq => by have := hmd q hq; omega)) ?_
       rintro _ w20 x20 ⟨y, rfl, sy⟩
       refine gset ?_
       have hx20 := hx.trans x20
       obtain ⟨ya, yn, yc, hys⟩ : ∃ a n c, y = .slice a n c := by obtain ⟨css, h, _⟩ := sy.out; exact h.slf
       have hy1 : y.oneCell' = true := by rw [hys]; rfl
       (repeat' first | ((with_reducible refine nx0 ?_); go_step) | ((with_reducible refine o_s ?_); first | refine wk0 ?_ | (refine wg0 ?_ ?_ <;> intro hc)) | fail)
       refine wpl_allocB (z := zzone) rfl (by decide +kernel) ?_
       intro w21 x21 s21 h21
       refine gset ?_
       refine wpl_storeB (v := .agg #[str (loadO o m'), y]) rfl rfl rfl h21 (show sizeTy Tryz.prog 34 2 = true by decide +kernel) rfl (zone_one hy1) ?_
       intro w22 p22
       have x2022 : Ext w20 w22 := x21.move p22.mv (by rintro k ⟨⟩; exact Nat.le_refl _)
       have z22 : w22.heap[w20.heap.size]? = some (.cells [str (loadO o m'), y].toArray 34 (0, 0)) := p22.this
       have hx22 := hx20.trans x2022
       have sy22 := sy.ext x2022
       have ho22 := ho.ext (x20.trans x2022)
       clear p22 h21 x21
       (repeat' first | ((with_reducible refine nx0 ?_); go_step) | ((with_reducible refine o_s ?_); first | refine wk0 ?_ | (refine wg0 ?_ ?_ <;> intro hc)) | fail)
       ·have q2 : ¬ loadE o m' = 0 := by simpa using (by assumption : (!decide (loadE o m' = 0)) = true)
        refine wpl_run (v := .agg zzone.toArray) rfl (Runs.build0 (by kernel_rfl)) ?_
        refine gset ?_
        (repeat' first | ((with_reducible refine nx0 ?_); go_step) | ((with_reducible refine o_s ?_); first | refine wk0 ?_ | (refine wg0 ?_ ?_ <;> intro hc)) | fail)
        refine wpl_storeB (v := .agg zzone.toArray) rfl rfl rfl (hx22.at h6) (by decide +kernel) rfl (by decide +kernel) ?_
        intro wz pz
        have xz : Ext w wz := (hx6.trans hx22).move pz.mv (by rintro k ⟨⟩; exact zz)
        (repeat' first | ((with_reducible refine nx0 ?_); go_step) | ((with_reducible refine o_s ?_); first | refine wk0 ?_ | (refine wg0 ?_ ?_ <;> intro hc)) | fail)
        refine bodyPost_ret (results_cellT (cs := zzone) rfl rfl pz.this (by decide +kernel)) rfl ⟨_, rfl, xz, ?_⟩
        exact AppU.bad (by rw [hend, endE, if_neg q2]) q2
       ·have q2 : loadE o m' = 0 := by simpa using (by assumption : (!decide (loadE o m' = 0)) = false)
        have pz22 := pts_block z22
        (repeat' first | ((with_reducible refine nx0 ?_); go_step) | ((with_reducible refine o_s ?_); first | refine wk0 ?_ | (refine wg0 ?_ ?_ <;> intro hc)) | fail)
        refine wpl_callV (enters_of Tryz.func40 rfl rfl) rfl rfl (p_Soa (loadO o m') y (loadL o m') _ sy22.sets (fun s hs => by have := lb1 s hs; omega) (fun s hs d hd => by have := lb2 s hs d hd; omega)) ?_; intro w23 x23; refine gset ?_
        have hx23 := hx22.trans x23
        have b23 := hx23.at b6
        (repeat' first | ((with_reducible refine nx0 ?_); go_step) | ((with_reducible refine o_s ?_); first | refine wk0 ?_ | (refine wg0 ?_ ?_ <;> intro hc)) | fail)
        refine wpl_storeB (v := .agg (soaZ (loadO o m') (loadL o m')).cells.toArray) rfl rfl rfl b23 (show sizeTy Tryz.prog 61 7 = true by decide +kernel) rfl (soaR_one _) ?_
        intro w24 p24
        have e1 := x4.size
        have e2 := x46.size
        have e3 := hx.size
        have e4 := x20.size
        have e5 : w4.heap.size < w6.heap.size := (Array.getElem?_eq_some_iff.1 b6).1
        have x24 : Ext w3 w24 := (x36.trans hx23).move p24.mv (by rintro k ⟨⟩; exact e1)
        have hxw24 := hx3.trans x24
        have hq24 := hq3.ext x24
        have b24 : w24.heap[w4.heap.size]? = some (.cells [str (soaZ (loadO o m') (loadL o m')).main, str (soaZ (loadO o m') (loadL o m')).mail, .int .i64 (soaZ (loadO o m') (loadL o m')).serial, .int .i64 (soaZ (loadO o m') (loadL o m')).refresh, .int .i64 (soaZ (loadO o m') (loadL o m')).retry, .int .i64 (soaZ (loadO o m') (loadL o m')).expire, .int .i64 (soaZ (loadO o m') (loadL o m')).minimum].toArray 61 (0, 0)) := p24.this
        have h24 := p24.at (hx23.at h6) (by omega)
        have z24 := p24.at (x23.at z22) (by omega)
        have sy24 := (sy22.ext x23).put p24 (by omega)
        have ho24 := (ho22.ext x23).mv p24.mv (.inr ((ho22.ext x23).neBlock b23 (by decide)))
        have pz24 := pts_block z24
        clear p24 b23
        (repeat' first | ((with_reducible refine nx0 ?_); go_step) | ((with_reducible refine o_s ?_); first | refine wk0 ?_ | (refine wg0 ?_ ?_ <;> intro hc)) | fail)
        refine wpl_callR (enters_of Tryz.func71 rfl rfl) rfl rfl (t10 y (loadL o m') _ sy24.sets (by omega)) ?_
        intro r5 w25 x25 o25
        refine gset ?_
        have hxw25 := hxw24.trans x25
        have h25 := x25.at h24
        have z25 := x25.at z24
        have pz25 := pz24.ext x25
        have pb25 := pts_block (x25.at b24)
        have hq25 := hq24.ext x25
        have sl25 := (ho24.ext x25).sl
        have sr25 := o25.sl
        have lr := rcells_length (recordsS (loadL o m'))
        (repeat' first | ((with_reducible refine nx0 ?_); go_step) | ((with_reducible refine o_s ?_); first | refine wk0 ?_ | (refine wg0 ?_ ?_ <;> intro hc)) | fail)
        ·have q3 : (soaZ (loadO o m') (loadL o m')).serial = d.to := by simpa using (by assumption : (!decide ((soaZ (loadO o m') (loadL o m')).serial = d.to)) = false)
         have q4 : (recordsS (loadL o m')).length = m'.length := by
          have : (↑(rcells (recordsS (loadL o m'))).length : Int) = ↑(rcells m').length := by simpa using hc
          omega
         refine wpl_callR (enters_of Tryz.func156 rfl rfl) rfl rfl (p_less _ r5 m' (recordsS (loadL o m')) _ sl25 sr25 (by omega)) ?_
         intro r6 w26 x26 o26
         have sr26 := o26.sl
         have hxw26 := hxw25.trans x26
         have h26 := x26.at h25
         have z26 := x26.at z25
         have pz26 := pz25.ext x26
         have l6 := rcells_length (lessR m' (recordsS (loadL o m')))
         have sy26 := (sy24.ext x25).ext x26
         refine gset ?_
         (repeat' first | ((with_reducible refine nx0 ?_); go_step) | ((with_reducible refine o_s ?_); first | refine wk0 ?_ | (refine wg0 ?_ ?_ <;> intro hc)) | fail)
         ·have q5 : ¬ lessR m' (recordsS (loadL o m')) = [] := by
           intro e
           rw [e] at l6
           simp at l6
           have := (by assumption : (0 : Int) < ↑(rcells (lessR m' (recordsS (loadL o m')))).length)
           rw [e] at this
           simp [rcells] at this
          refine wpl_run (v := .agg zzone.toArray) rfl (Runs.build0 (by kernel_rfl)) ?_
          refine gset ?_
          refine wpl_storeB (v := .agg zzone.toArray) rfl rfl rfl h26 (by decide +kernel) rfl (by decide +kernel) ?_
          intro wz pz
          have xz : Ext w wz := hxw26.move pz.mv (by rintro k ⟨⟩; exact zz)
          (repeat' first | ((with_reducible refine nx0 ?_); go_step) | ((with_reducible refine o_s ?_); first | refine wk0 ?_ | (refine wg0 ?_ ?_ <;> intro hc)) | fail)
          refine bodyPost_ret (results_cellT (cs := zzone) rfl rfl pz.this (by decide +kernel)) rfl ⟨_, rfl, xz, ?_⟩
          exact AppU.bad (by rw [hend, endE, if_pos q2, if_neg (fun h => q5 h.2.2)]) (by decide)
         ·have q5 : lessR m' (recordsS (loadL o m')) = [] := List.eq_nil_of_length_eq_zero (by omega)
          have hE : appE o l d = 0 := by rw [hend, endE, if_pos q2, if_pos ⟨q3, q4, q5⟩]
          (repeat' first | ((with_reducible refine nx0 ?_); go_step) | ((with_reducible refine o_s ?_); first | refine wk0 ?_ | (refine wg0 ?_ ?_ <;> intro hc)) | fail)
          refine wpl_storeB (v := .agg #[str (loadO o m'), y]) rfl rfl rfl h26 (show sizeTy Tryz.prog 34 2 = true by decide +kernel) rfl (zone_one hy1) ?_
          intro wz pz
          have xz : Ext w wz := hxw26.move pz.mv (by rintro k ⟨⟩; exact zz)
          (repeat' first | ((with_reducible refine nx0 ?_); go_step) | ((with_reducible refine o_s ?_); first | refine wk0 ?_ | (refine wg0 ?_ ?_ <;> intro hc)) | fail)
          refine bodyPost_ret (results_cellT (cs := [str (loadO o m'), y]) rfl rfl pz.this (show aggTy Tryz.prog 34 2 = true by decide +kernel)) rfl ⟨_, rfl, xz, ?_⟩
          refine ⟨y, ?_, ?_⟩
          ·rw [appO, if_pos hE, hE, hed]; rfl
          ·rw [appL, if_pos hE, hed]
           exact (sy26.put pz (by omega)).weaken (hx6.trans hx).size
        ·have q4 : ¬ (recordsS (loadL o m')).length = m'.length := by
          have : ¬ (↑(rcells (recordsS (loadL o m'))).length : Int) = ↑(rcells m').length := by simpa using hc
          omega
         refine wpl_run (v := .agg zzone.toArray) rfl (Runs.build0 (by kernel_rfl)) ?_
         refine gset ?_
         refine wpl_storeB (v := .agg zzone.toArray) rfl rfl rfl h25 (by decide +kernel) rfl (by decide +kernel) ?_
         intro wz pz
         have xz : Ext w wz := hxw25.move pz.mv (by rintro k ⟨⟩; exact zz)
         (repeat' first | ((with_reducible refine nx0 ?_); go_step) | ((with_reducible refine o_s ?_); first | refine wk0 ?_ | (refine wg0 ?_ ?_ <;> intro hc)) | fail)
         refine bodyPost_ret (results_cellT (cs := zzone) rfl rfl pz.this (by decide +kernel)) rfl ⟨_, rfl, xz, ?_⟩
         exact AppU.bad (by rw [hend, endE, if_pos q2, if_neg (fun h => q4 h.2.1)]) (by decide)
        ·have q3 : ¬ (soaZ (loadO o m') (loadL o m')).serial = d.to := by simpa using hc
         refine wpl_run (v := .agg zzone.toArray) rfl (Runs.build0 (by kernel_rfl)) ?_
         refine gset ?_
         refine wpl_storeB (v := .agg zzone.toArray) rfl rfl rfl h25 (by decide +kernel) rfl (by decide +kernel) ?_
         intro wz pz
         have xz : Ext w wz := hxw25.move pz.mv (by rintro k ⟨⟩; exact zz)
         (repeat' first | ((with_reducible refine nx0 ?_); go_step) | ((with_reducible refine o_s ?_); first | refine wk0 ?_ | (refine wg0 ?_ ?_ <;> intro hc)) | fail)
         refine bodyPost_ret (results_cellT (cs := zzone) rfl rfl pz.this (by decide +kernel)) rfl ⟨_, rfl, xz, ?_⟩
         exact AppU.bad (by rw [hend, endE, if_pos q2, if_neg (fun h => q3 h.1)]) (by decide)
end Go.Proofs.X
