/- Laws and walks that the proof of the statement is made of (part 13). -/
import Derived.Test.YteofaejlmdplhaaGreatRows
import Derived.Test.YteofaejlmdplhaaGreatP12
set_option linter.unusedSimpArgs false
set_option linter.unusedVariables false
namespace Go.Proofs.X
open Go.RowKit
set_option maxRecDepth 100000
def aS (r : Rec) : Bool := decide (r.kind = 6)
def vV (d : List UInt8) : SoaR := match cB d with | some s => s | none => zR
def kP (r : Rec) : Int := (vV r.data).serial
def nextSoa : List Rec → Nat
 | [] => 0
 | r :: t => if aS r then 0 else nextSoa t + 1
theorem vW : ∀ l : List Rec, nextSoa l ≤ l.length
 | [] => Nat.le_refl _
 | r :: t => by
   rw [nextSoa]
   split
   ·omega
   ·have := vW t
    rw [List.length_cons]; omega
def partN (l : List Rec) : Nat := 1 + nextSoa (l.drop 1)
theorem fC {l : List Rec} (h : l ≠ []) : 1 ≤ partN l ∧ partN l ≤ l.length := by
 have := vW (l.drop 1)
 cases l with
 | nil => exact absurd rfl h
 | cons r t =>
  unfold partN
  simp only [List.drop_succ_cons, List.drop_zero, List.length_cons] at *
  omega
def bM : Rec := ⟨[], 0, 0, []⟩
def cC (l : List Rec) : Rec := l.headD bM
def iC (gone come : List Rec) : DeltaR := ⟨kP (cC gone), kP (cC come), gone, come⟩
structure ZE where
 e : Int
 o : List UInt8
 l : List RSet
def ZE.bad (e : Int) : ZE := ⟨e, [], []⟩
def NH : Nat → List UInt8 → List RSet → List Rec → ZE
 | 0, o, l, _ => ⟨0, o, l⟩
 | f + 1, o, l, rs =>
  if rs = [] then ⟨0, o, l⟩ else
  let gone := rs.take (partN rs)
  let rest := rs.drop (partN rs)
  if rest = [] then ZE.bad 2 else
  let come := rest.take (partN rest)
  if kE o l (iC gone come) = 0 then NH f (xS o l (iC gone come)) (DH o l (iC gone come)) (rest.drop (partN rest))
  else ZE.bad (if kE o l (iC gone come) = 5 then 2 else kE o l (iC gone come))
def oS (o : List UInt8) (l : List RSet) (rs : List Rec) : ZE := NH rs.length o l rs
theorem vX (f : Nat) (o : List UInt8) (l : List RSet) {rs : List Rec} (h : rs ≠ []) : NH (f + 1) o l rs =
 if rs.drop (partN rs) = [] then ZE.bad 2 else
 if kE o l (iC (rs.take (partN rs)) ((rs.drop (partN rs)).take (partN (rs.drop (partN rs))))) = 0 then
  NH f (xS o l (iC (rs.take (partN rs)) ((rs.drop (partN rs)).take (partN (rs.drop (partN rs)))))) (DH o l (iC (rs.take (partN rs)) ((rs.drop (partN rs)).take (partN (rs.drop (partN rs)))))) ((rs.drop (partN rs)).drop (partN (rs.drop (partN rs))))
 else ZE.bad (if kE o l (iC (rs.take (partN rs)) ((rs.drop (partN rs)).take (partN (rs.drop (partN rs))))) = 5 then 2 else kE o l (iC (rs.take (partN rs)) ((rs.drop (partN rs)).take (partN (rs.drop (partN rs)))))) := by
 rw [NH, if_neg h]
theorem GT : ∀ (f : Nat) (o : List UInt8) (l : List RSet), NH f o l [] = ⟨0, o, l⟩
 | 0, o, l => rfl
 | f + 1, o, l => by rw [NH, if_pos rfl]
theorem DP : ∀ (n f g : Nat) (o : List UInt8) (l : List RSet) (rs : List Rec), rs.length ≤ n → rs.length ≤ f → rs.length ≤ g → NH f o l rs = NH g o l rs
 | n, f, g, o, l, [], _, _, _ => by rw [GT, GT]
 | 0, f, g, o, l, r :: t, h, _, _ => by simp at h
 | n + 1, 0, g, o, l, r :: t, _, h, _ => by simp at h
 | n + 1, f + 1, 0, o, l, r :: t, _, _, h => by simp at h
 | n + 1, f + 1, g + 1, o, l, r :: t, hn, hf, hg => by
   have h1 := fC (l := r :: t) (by simp)
   rw [vX f o l (by simp), vX g o l (by simp)]
   by_cases hr : (r :: t).drop (partN (r :: t)) = []
   ·rw [if_pos hr, if_pos hr]
   ·rw [if_neg hr, if_neg hr]
    have h2 := fC hr
    have h3 : (((r :: t).drop (partN (r :: t))).drop (partN ((r :: t).drop (partN (r :: t))))).length ≤ t.length := by
     have e1 : ((r :: t).drop (partN (r :: t))).length = (r :: t).length - partN (r :: t) := List.length_drop ..
     rw [List.length_drop, e1]
     simp only [List.length_cons] at h1 ⊢
     omega
    simp only [List.length_cons] at hn hf hg
    rw [DP n f g _ _ _ (by omega) (by omega) (by omega)]
theorem DQ (o : List UInt8) (l : List RSet) : oS o l [] = ⟨0, o, l⟩ := rfl
theorem rY (o : List UInt8) (l : List RSet) {rs : List Rec} (h : rs ≠ []) : oS o l rs =
 if rs.drop (partN rs) = [] then ZE.bad 2 else
 if kE o l (iC (rs.take (partN rs)) ((rs.drop (partN rs)).take (partN (rs.drop (partN rs))))) = 0 then
  oS (xS o l (iC (rs.take (partN rs)) ((rs.drop (partN rs)).take (partN (rs.drop (partN rs)))))) (DH o l (iC (rs.take (partN rs)) ((rs.drop (partN rs)).take (partN (rs.drop (partN rs)))))) ((rs.drop (partN rs)).drop (partN (rs.drop (partN rs))))
 else ZE.bad (if kE o l (iC (rs.take (partN rs)) ((rs.drop (partN rs)).take (partN (rs.drop (partN rs))))) = 5 then 2 else kE o l (iC (rs.take (partN rs)) ((rs.drop (partN rs)).take (partN (rs.drop (partN rs)))))) := by
 cases rs with
 | nil => exact absurd rfl h
 | cons r t =>
  have h1 := fC (l := r :: t) (by simp)
  conv => lhs; unfold oS
  rw [List.length_cons, vX _ _ _ h]
  by_cases hr : (r :: t).drop (partN (r :: t)) = []
  ·rw [if_pos hr, if_pos hr]
  ·rw [if_neg hr, if_neg hr]
   have h2 := fC hr
   have h3 : (((r :: t).drop (partN (r :: t))).drop (partN ((r :: t).drop (partN (r :: t))))).length ≤ t.length := by
    have e1 : ((r :: t).drop (partN (r :: t))).length = (r :: t).length - partN (r :: t) := List.length_drop ..
    rw [List.length_drop, e1]
    simp only [List.length_cons] at h1 ⊢
    omega
   unfold oS
   rw [DP _ _ _ _ _ _ (Nat.le_refl _) h3 (Nat.le_refl _)]
def iA (oo : List UInt8) (lo : List RSet) (og : List UInt8) (l : List Rec) : ZE :=
 if aS (l.getD 1 bM) = false then ⟨gC og l.dropLast, eA og l.dropLast, dF og l.dropLast⟩ else
 if lo = [] then ZE.bad 5 else oS oo lo (l.dropLast.drop 1)
def eB (oo : List UInt8) (lo : List RSet) (og : List UInt8) (l : List Rec) : ZE :=
 if eC og ≠ 0 ∨ l.any (fun r => !decide (aV r = 0)) = true then ZE.bad 1 else
 if l = [] then ZE.bad 2 else
 if aS (cC l) = false ∨ fold (cC l).name ≠ fold og then ZE.bad 2 else
 if l.length = 1 then ZE.bad 5 else
 if l.length = 2 ∨ l.getD (l.length - 1) bM ≠ cC l then ZE.bad 3 else
 let q := iA oo lo og l
 if q.e ≠ 0 then ZE.bad q.e else
 if (bD q.o q.l).serial ≠ kP (cC l) then ZE.bad 2 else
 if lo ≠ [] ∧ dQ (bD q.o q.l).serial (bD oo lo).serial = false then ZE.bad 7 else q
theorem rZ {o : List UInt8} {l : List Rec} (h : gC o l = 0) : ZoneOk (eA o l) (dF o l) := by
 have h0 := h
 unfold gC at h
 split at h
 ·rw [eA, if_pos h0, dF, if_pos h0]; exact eW h
 ·rename_i q; exact absurd h q
theorem vY {o : List UInt8} {l : List Rec} (h : gC o l = 0) : eA o l = fold o := by rw [eA, if_pos h]
theorem DR {o : List UInt8} {l : List RSet} {d : DeltaR} (h : kE o l d = 0) : ZoneOk (xS o l d) (DH o l d) ∧ xS o l d = o := by
 have h0 := h
 unfold kE at h
 split at h
 ·rename_i q0
  split at h
  ·cases hx : pH (aL l) d with
   | none => rw [hx] at h; cases h
   | some m =>
    rw [hx] at h
    simp only at h
    unfold DG at h
    split at h
    ·rename_i q1
     have hz := rZ q1
     rw [xS, if_pos h0, DH, if_pos h0, hx]
     simp only [Option.getD_some]
     refine ⟨hz, ?_⟩
     rw [vY q1]
     exact (eW q0).fold
    ·rename_i q1; exact absurd h q1
  ·cases h
 ·rename_i q; exact absurd h q
theorem vZ : ∀ (n : Nat) (rs : List Rec), rs.length ≤ n → ∀ (o : List UInt8) (l : List RSet), (oS o l rs).e = 0 → rs ≠ [] → ZoneOk (oS o l rs).o (oS o l rs).l ∧ (oS o l rs).o = o
 | 0, rs, hn, o, l, h, hne => by
   have : rs = [] := List.eq_nil_of_length_eq_zero (by omega)
   exact absurd this hne
 | n + 1, rs, hn, o, l, h, hne => by
   have h1 := fC hne
   rw [rY o l hne] at h ⊢
   split at h
   ·cases h
   ·rename_i hr
    have h2 := fC hr
    rw [if_neg hr]
    split at h
    ·rename_i ha
     rw [if_pos ha]
     obtain ⟨z1, z2⟩ := DR ha
     by_cases hq : (rs.drop (partN rs)).drop (partN (rs.drop (partN rs))) = []
     ·rw [hq, DQ]
      exact ⟨z1, z2⟩
     ·obtain ⟨a, b⟩ := vZ n _ (by simp only [List.length_drop] at *; omega) _ _ h hq
      exact ⟨a, b.trans z2⟩
    ·rename_i ha
     split at h
     ·cases h
     ·exact absurd h ha
theorem NI {oo : List UInt8} {lo : List RSet} {og : List UInt8} {l : List Rec} (h : (eB oo lo og l).e = 0) :
 ZoneOk (eB oo lo og l).o (eB oo lo og l).l ∧ ((lo = [] ∨ oo = fold og) → (eB oo lo og l).o = fold og) ∧ (lo ≠ [] → dQ (bD (eB oo lo og l).o (eB oo lo og l).l).serial (bD oo lo).serial = true) := by
 unfold eB at h ⊢
 split at h
 ·cases h
 ·rename_i c1
  rw [if_neg c1]
  split at h
  ·cases h
  ·rename_i c2
   rw [if_neg c2]
   split at h
   ·cases h
   ·rename_i c3
    rw [if_neg c3]
    split at h
    ·cases h
    ·rename_i c4
     rw [if_neg c4]
     split at h
     ·cases h
     ·rename_i c5
      rw [if_neg c5]
      simp only at h ⊢
      split at h
      ·rename_i c6; exact absurd h c6
      ·rename_i c6
       rw [if_neg c6]
       split at h
       ·cases h
       ·rename_i c7
        rw [if_neg c7]
        split at h
        ·cases h
        ·rename_i c8
         rw [if_neg c8]
         have hz : ZoneOk (iA oo lo og l).o (iA oo lo og l).l ∧ ((lo = [] ∨ oo = fold og) → (iA oo lo og l).o = fold og) := by
          have h6 : (iA oo lo og l).e = 0 := by simpa using c6
          unfold iA at h6 ⊢
          split at h6
          ·rename_i d1
           rw [if_pos d1]
           exact ⟨rZ h6, fun _ => vY h6⟩
          ·rename_i d1
           rw [if_neg d1]
           split at h6
           ·cases h6
           ·rename_i d2
            rw [if_neg d2]
            have hl : 2 < l.length := by
             have n0 : l.length ≠ 0 := fun e => c2 (List.eq_nil_of_length_eq_zero e)
             have n2 : l.length ≠ 2 := fun e => c5 (.inl e)
             omega
            obtain ⟨a, b⟩ := vZ _ _ (Nat.le_refl _) oo lo h6 (by
             intro e
             have := congrArg List.length e
             simp at this
             omega)
            exact ⟨a, fun hh => by rcases hh with hh | hh; exact absurd hh d2; exact b.trans hh⟩
         refine ⟨hz.1, hz.2, fun hne => ?_⟩
         cases hb : dQ (bD (iA oo lo og l).o (iA oo lo og l).l).serial (bD oo lo).serial with
         | true => rfl
         | false => exact absurd ⟨hne, hb⟩ c8
structure SecR where
 og : List UInt8
 retry : Int
 z : Option (List UInt8 × List RSet)
 next : Int
 til : Int
 take : Bool
def SecR.soa (s : SecR) : SoaR := match s.z with | none => ⟨[], [], 0, s.retry, s.retry, 0, 0⟩ | some z => bD z.1 z.2
def SecR.o (s : SecR) : List UInt8 := match s.z with | none => [] | some z => z.1
def SecR.l (s : SecR) : List RSet := match s.z with | none => [] | some z => z.2
def wL (n : Int) : Bool := decide (0 ≤ n) && decide (n ≤ 1099511627776)
def SecR.news (s : SecR) (n : Int) : Bool := s.z.isNone || dQ n s.soa.serial
def SecR.notify (s : SecR) (n now : Int) : SecR := if (wL now && eN n && s.news n) = true then { s with next := min s.next now } else s
def SecR.failed (s : SecR) (now : Int) : SecR := if wL now = true then { s with take := false, next := now + s.soa.retry } else s
def SecR.fresh (s : SecR) (now : Int) : SecR := { s with take := false, next := now + s.soa.refresh, til := now + s.soa.expire }
def SecR.heard (s : SecR) (n now : Int) : SecR :=
 if wL now = false then s else if eN n = false then s.failed now else if s.news n = true then { s with take := true, next := now + s.soa.retry } else s.fresh now
def SecR.inst (s : SecR) (l : List Rec) : ZE := eB s.o s.l s.og l
def SecR.withZ (s : SecR) (q : ZE) : SecR := { s with z := some (q.o, q.l) }
def SecR.got (s : SecR) (l : List Rec) (now : Int) : SecR :=
 if wL now = false then s else
 if (s.inst l).e = 5 ∧ s.z.isSome = true then s.fresh now else
 if (s.inst l).e ≠ 0 then s.failed now else (s.withZ (s.inst l)).fresh now
def SecR.up (s : SecR) (now : Int) : Bool := wL now && (s.z.isSome && decide (now < s.til))
def RO (og : List UInt8) (retry : Int) : Int := if eC og ≠ 0 ∨ retry < 1 ∨ 2147483647 < retry then 1 else 0
def BC (og : List UInt8) (retry : Int) : SecR := ⟨og, retry, none, 0, 0, false⟩
structure SecOk (s : SecR) : Prop where
 og : eC s.og = 0
 retry : 1 ≤ s.retry ∧ s.retry ≤ 2147483647
 zone : ∀ o l, s.z = some (o, l) → ZoneOk o l ∧ o = fold s.og
theorem NJ {o : List UInt8} {l : List RSet} (h : ZoneOk o l) : (bD o l).ok = true := by
 obtain ⟨s, _, _, _, _, _, hp, _⟩ := h.soaSet
 rw [bD, if_pos (jZ h)]
 exact KO hp
theorem II {o : List UInt8} {l : List RSet} (h : ZoneOk o l) : 0 ≤ (bD o l).serial ∧ (bD o l).serial ≤ 4294967295 ∧ 0 ≤ (bD o l).refresh ∧ (bD o l).refresh ≤ 2147483647 ∧ 0 ≤ (bD o l).retry ∧ (bD o l).retry ≤ 2147483647 ∧ 0 ≤ (bD o l).expire ∧ (bD o l).expire ≤ 2147483647 := by
 have := NJ h
 simp only [SoaR.ok, fP, Bool.and_eq_true, decide_eq_true_eq] at this
 omega
theorem ZoneOk.ne {o : List UInt8} {l : List RSet} (h : ZoneOk o l) : l ≠ [] := by
 rintro rfl
 have := h.soa
 simp [fB] at this
theorem SecOk.soa {s : SecR} (h : SecOk s) : 0 ≤ s.soa.refresh ∧ s.soa.refresh ≤ 2147483647 ∧ 0 ≤ s.soa.retry ∧ s.soa.retry ≤ 2147483647 ∧ 0 ≤ s.soa.expire ∧ s.soa.expire ≤ 2147483647 := by
 have hr := h.retry
 unfold SecR.soa
 split
 ·simp only; omega
 ·rename_i z hz
  have := II (h.zone z.1 z.2 hz).1
  omega
theorem SecOk.old {s : SecR} (h : SecOk s) : (s.l = [] ↔ s.z = none) ∧ (s.l = [] ∨ s.o = fold s.og) := by
 unfold SecR.l SecR.o
 split
 ·rename_i hz; simp [hz]
 ·rename_i z hz
  have := h.zone z.1 z.2 hz
  refine ⟨⟨fun e => absurd e this.1.ne, fun e => by rw [hz] at e; cases e⟩, .inr this.2⟩
theorem SecOk.of {s t : SecR} (h : SecOk s) (h1 : t.og = s.og) (h2 : t.retry = s.retry) (h3 : t.z = s.z) : SecOk t := ⟨by rw [h1]; exact h.og, by rw [h2]; exact h.retry, by rw [h1, h3]; exact h.zone⟩
theorem SecOk.new {og : List UInt8} {retry : Int} (h : RO og retry = 0) : SecOk (BC og retry) := by
 unfold RO at h
 split at h
 ·cases h
 ·rename_i c
  refine ⟨?_, ?_, ?_⟩
  ·unfold BC; simp only
   exact Decidable.byContradiction fun e => c (.inl e)
  ·unfold BC; simp only
   omega
  ·intro o l e; cases e
theorem SecOk.notify {s : SecR} (h : SecOk s) (n now : Int) : SecOk (s.notify n now) := by
 unfold SecR.notify; split <;> first | exact h | exact h.of rfl rfl rfl
theorem SecOk.failed {s : SecR} (h : SecOk s) (now : Int) : SecOk (s.failed now) := by
 unfold SecR.failed; split <;> first | exact h | exact h.of rfl rfl rfl
theorem SecOk.fresh {s : SecR} (h : SecOk s) (now : Int) : SecOk (s.fresh now) := h.of rfl rfl rfl
theorem SecOk.heard {s : SecR} (h : SecOk s) (n now : Int) : SecOk (s.heard n now) := by
 unfold SecR.heard
 split
 ·exact h
 ·split
  ·exact h.failed now
  ·split
   ·exact h.of rfl rfl rfl
   ·exact h.fresh now
theorem SecOk.inst {s : SecR} (h : SecOk s) {l : List Rec} (he : (s.inst l).e = 0) : ZoneOk (s.inst l).o (s.inst l).l ∧ (s.inst l).o = fold s.og ∧ (∀ o l', s.z = some (o, l') → dQ (bD (s.inst l).o (s.inst l).l).serial (bD o l').serial = true) := by
 obtain ⟨a, b, c⟩ := NI (oo := s.o) (lo := s.l) (og := s.og) he
 obtain ⟨h1, h2⟩ := h.old
 refine ⟨a, b h2, fun o l' hz => ?_⟩
 have := c (fun e => by rw [h1.1 e] at hz; cases hz)
 unfold SecR.o SecR.l at this
 rw [hz] at this
 unfold SecR.inst SecR.o SecR.l
 rw [hz]
 exact this
theorem SecOk.got {s : SecR} (h : SecOk s) (l : List Rec) (now : Int) : SecOk (s.got l now) := by
 unfold SecR.got
 split
 ·exact h
 ·split
  ·exact h.fresh now
  ·split
   ·exact h.failed now
   ·rename_i c
    obtain ⟨a, b, _⟩ := h.inst (l := l) (by simpa using c)
    refine SecOk.fresh (s := s.withZ (s.inst l)) ⟨h.og, h.retry, ?_⟩ now
    intro o l' e
    simp only [SecR.withZ, Option.some.injEq, Prod.mk.injEq] at e
    obtain ⟨rfl, rfl⟩ := e
    exact ⟨a, b⟩
open Go.ChangeShapes Go.WideShapes Go.ChangeAt Go.RowKit
theorem FN {H : Type} {enc : TypeId × Value → H} {w : World} {base : Nat} {spare : Nat → Bool} {held : Bool} {fuel : Nat} {v : Value} {x : DataW H × List MemPlace} (h : DataW.trod enc Tryz.prog w base spare held fuel 117 [v] = some x) : ∃ l : List (List UInt8), Sl 1 w v (aM l) := by
 obtain ⟨es, hs, he⟩ := jR Tryz.underlying117 (show Tryz.prog.cellsOf 9 = 1 by kernel_rfl) (by omega) h
 obtain ⟨l, rfl⟩ : ∃ l : List (List UInt8), es = l.map fun s => [aH s] := by
  refine lU fun c hc => ?_
  obtain ⟨n, y, hy⟩ := he c hc
  have hl : c.length = 1 := by
   obtain ⟨_, _, _, _, _, h4, _, _⟩ := hs
   exact h4 c hc
  match c, hl with
  | [a], _ =>
   obtain ⟨s, rfl, _⟩ := lE Tryz.underlying9 hy
   exact ⟨s, rfl⟩
 exact ⟨l, hs⟩
theorem IJ {H : Type} {enc : TypeId × Value → H} {w : World} {base : Nat} {spare : Nat → Bool} {held : Bool} {fuel : Nat} {v : Value} {x : DataW H × List MemPlace} (h : DataW.trod enc Tryz.prog w base spare held fuel 23 [v] = some x) : ∃ l : List RSet, SetsAt w v l := by
 obtain ⟨es, hs, he⟩ := jR Tryz.underlying23 (show Tryz.prog.cellsOf 119 = 4 by kernel_rfl) (by omega) h
 obtain ⟨l, rfl⟩ : ∃ l : List {p : RSet × Value // Sl 1 w p.2 (aM p.1.data)}, es = l.map fun p => [aH p.1.1.name, .int .i64 p.1.1.kind, .int .i64 p.1.1.ttl, p.1.2] := by
  refine lU fun c hc => ?_
  obtain ⟨n, y, hy⟩ := he c hc
  obtain ⟨xs, n', _, _, hl, hxl, hf⟩ := DataW.trod_struct Tryz.underlying119 hy
  have c30 : Tryz.prog.cellsOf 22 = 1 := by kernel_rfl
  have c3 : Tryz.prog.cellsOf 3 = 1 := by kernel_rfl
  have c35 : Tryz.prog.cellsOf 117 = 1 := by kernel_rfl
  have c37 : Tryz.prog.cellsOf 119 = 4 := by kernel_rfl
  rw [c37] at hl
  match c, hl, xs, hxl with
  | [a, b, d, e], _, [y0, y1, y2, y3], _ =>
   have g0 := hf 0 _ rfl
   have g1 := hf 1 _ rfl
   have g2 := hf 2 _ rfl
   have g3 := hf 3 _ rfl
   simp [c30, c3, c35] at g0 g1 g2 g3
   obtain ⟨s0, rfl, _⟩ := lE Tryz.underlying22 g0
   obtain ⟨n1, rfl, _⟩ := fA Tryz.underlying3 g1
   obtain ⟨n2, rfl, _⟩ := fA Tryz.underlying3 g2
   obtain ⟨ts, hts⟩ := FN g3
   exact ⟨⟨(⟨s0, n1, n2, ts⟩, e), hts⟩, rfl⟩
 refine ⟨l.map fun p => p.1.1, _, hs, by simp, ?_⟩
 intro i s hi
 rw [List.getElem?_map] at hi
 obtain ⟨p, hp, rfl⟩ := Option.map_eq_some_iff.1 hi
 exact ⟨p.1.2, by rw [List.getElem?_map, hp]; rfl, p.2⟩
open Go.ChangeShapes Go.WideShapes Go.ChangeAt Go.RowKit
theorem zV {H : Type} {enc : TypeId × Value → H} {w : World} {base : Nat} {spare : Nat → Bool} {held : Bool} {fuel : Nat} {c : Array Value} {x : DataW H × List MemPlace} (h : DataW.trod enc Tryz.prog w base spare held fuel 25 (Value.agg c).cells.toList = some x) : ∃ (o : List UInt8) (l : List RSet) (u : Value), c = #[aH o, u] ∧ SetsAt w u l := by
 have e : (Value.agg c).cells.toList = c.toList := rfl
 rw [e] at h
 obtain ⟨xs, n', _, _, hl, hxl, hf⟩ := DataW.trod_struct Tryz.underlying25 h
 have c30 : Tryz.prog.cellsOf 22 = 1 := by kernel_rfl
 have c25 : Tryz.prog.cellsOf 23 = 1 := by kernel_rfl
 have c43 : Tryz.prog.cellsOf 25 = 2 := by kernel_rfl
 rw [c43] at hl
 obtain ⟨cl⟩ := c
 match cl, hl, xs, hxl with
 | [a, b], _, [y0, y1], _ =>
  have g0 := hf 0 _ rfl
  have g1 := hf 1 _ rfl
  simp [c30, c25] at g0 g1
  obtain ⟨s0, rfl, _⟩ := lE Tryz.underlying22 g0
  obtain ⟨l, hls⟩ := IJ g1
  exact ⟨s0, l, b, rfl, hls⟩
open Go.ChangeShapes Go.WideShapes Go.ChangeAt Go.RowKit
theorem FO {H : Type} {enc : TypeId × Value → H} {w : World} {base : Nat} {spare : Nat → Bool} {held : Bool} {fuel : Nat} {v : Value} {x : DataW H × List MemPlace} (h : DataW.trod enc Tryz.prog w base spare held fuel 26 [v] = some x) : ∃ zs : List (List UInt8 × List RSet), ZonesAt w v zs := by
 obtain ⟨es, hs, he⟩ := jR Tryz.underlying26 (show Tryz.prog.cellsOf 25 = 2 by kernel_rfl) (by omega) h
 obtain ⟨l, rfl⟩ : ∃ l : List {p : (List UInt8 × List RSet) × Value // SetsAt w p.2 p.1.2}, es = l.map fun p => [aH p.1.1.1, p.1.2] := by
  refine lU fun c hc => ?_
  obtain ⟨n, y, hy⟩ := he c hc
  have hl : c.length = 2 := by
   obtain ⟨_, _, _, _, _, h4, _, _⟩ := hs
   exact h4 c hc
  obtain ⟨o, ls, u, e, hu⟩ := zV (c := c.toArray) (show DataW.trod enc Tryz.prog w base spare held n 25 (Value.agg c.toArray).cells.toList = some y by simpa [Value.cells] using hy)
  exact ⟨⟨((o, ls), u), hu⟩, by simpa using congrArg Array.toList e⟩
 refine ⟨l.map fun p => p.1.1, _, hs, by simp, ?_⟩
 intro i s hi
 rw [List.getElem?_map] at hi
 obtain ⟨p, hp, rfl⟩ := Option.map_eq_some_iff.1 hi
 exact ⟨p.1.2, by rw [List.getElem?_map, hp]; rfl, p.2⟩
theorem QJ {H : Type} {enc : TypeId × Value → H} {w : World} {base : Nat} {spare : Nat → Bool} {held : Bool} {fuel : Nat} {c : Array Value} {x : DataW H × List MemPlace} (h : DataW.trod enc Tryz.prog w base spare held fuel 28 (Value.agg c).cells.toList = some x) :
 ∃ (o : List UInt8) (v : Value) (l : List RSet) (room : Int) (lv : Value) (zs : List (List UInt8 × List RSet)) (s : Int), c = (LH o v room lv s).toArray ∧ SetsAt w v l ∧ ZonesAt w lv zs := by
 have e : (Value.agg c).cells.toList = c.toList := rfl
 rw [e] at h
 obtain ⟨xs, n', _, _, hl, hxl, hf⟩ := DataW.trod_struct Tryz.underlying28 h
 have c25 : Tryz.prog.cellsOf 25 = 2 := by kernel_rfl
 have c3 : Tryz.prog.cellsOf 3 = 1 := by kernel_rfl
 have c80 : Tryz.prog.cellsOf 26 = 1 := by kernel_rfl
 have c82 : Tryz.prog.cellsOf 28 = 5 := by kernel_rfl
 rw [c82] at hl
 obtain ⟨cl⟩ := c
 match cl, hl, xs, hxl with
 | [a, b, d, f, g], _, [y0, y1, y2, y3], _ =>
  have g0 := hf 0 _ rfl
  have g1 := hf 1 _ rfl
  have g2 := hf 2 _ rfl
  have g3 := hf 3 _ rfl
  simp [c25, c3, c80] at g0 g1 g2 g3
  obtain ⟨o, ls, u, e0, hu⟩ := zV (c := #[a, b]) g0
  obtain ⟨rfl, rfl⟩ : a = aH o ∧ b = u := by simpa using e0
  obtain ⟨n1, rfl, _⟩ := fA Tryz.underlying3 g1
  obtain ⟨zs, hz⟩ := FO g2
  obtain ⟨n3, rfl, _⟩ := fA Tryz.underlying3 g3
  exact ⟨o, b, ls, n1, f, zs, n3, rfl, hu, hz⟩
open Go.ChangeShapes Go.WideShapes Go.ChangeAt Go.RowKit
theorem own : ownKnob Tryz.prog.godebug = none := by kernel_rfl
theorem SC : laidOutB Tryz.prog = true := by kernel_rfl
theorem oG {H : Type} {enc : TypeId × Value → H} {w : World} {base : Nat} {spare : Nat → Bool} {held : Bool} {fuel : Nat} {v : Value} {x : DataW H × List MemPlace} (h : DataW.trod enc Tryz.prog w base spare held fuel 31 [v] = some x) : ∃ l : List Rec, Sl 4 w v (aC l) := by
 obtain ⟨es, hs, he⟩ := jR Tryz.underlying31 (show Tryz.prog.cellsOf 47 = 4 by kernel_rfl) (by omega) h
 obtain ⟨l, rfl⟩ : ∃ l : List Rec, es = l.map Rec.cells := by
  refine lU fun c hc => ?_
  obtain ⟨n, y, hy⟩ := he c hc
  obtain ⟨xs, n', _, _, hl, hxl, hf⟩ := DataW.trod_struct Tryz.underlying47 hy
  have c30 : Tryz.prog.cellsOf 22 = 1 := by kernel_rfl
  have c3 : Tryz.prog.cellsOf 3 = 1 := by kernel_rfl
  have c9 : Tryz.prog.cellsOf 9 = 1 := by kernel_rfl
  have c32 : Tryz.prog.cellsOf 47 = 4 := by kernel_rfl
  rw [c32] at hl
  match c, hl, xs, hxl with
  | [a, b, d, e], _, [y0, y1, y2, y3], _ =>
   have g0 := hf 0 _ rfl
   have g1 := hf 1 _ rfl
   have g2 := hf 2 _ rfl
   have g3 := hf 3 _ rfl
   simp [c30, c3, c9] at g0 g1 g2 g3
   obtain ⟨s0, rfl, _⟩ := lE Tryz.underlying22 g0
   obtain ⟨n1, rfl, _⟩ := fA Tryz.underlying3 g1
   obtain ⟨n2, rfl, _⟩ := fA Tryz.underlying3 g2
   obtain ⟨s3, rfl, _⟩ := lE Tryz.underlying9 g3
   exact ⟨⟨s0, n1, n2, s3⟩, rfl⟩
 exact ⟨l, hs⟩
abbrev xX := List UInt8 × Int
structure MsgR where
 id : Int
 resp : Bool
 op : Int
 auth : Bool
 trunc : Bool
 want : Bool
 avail : Bool
 rcode : Int
 qs : List xX
 an : List Rec
 au : List Rec
 ex : List Rec
 size : Int
 deriving DecidableEq, Inhabited
def bQ (l : List xX) : List (List Value) := l.map fun q => [aH q.1, .int .i64 q.2]
theorem bN (l : List xX) : (bQ l).length = l.length := by simp [bQ]
def cR (m : MsgR) (q a u e : Value) : List Value := [.int .i64 m.id, .bool m.resp, .int .i64 m.op, .bool m.auth, .bool m.trunc, .bool m.want, .bool m.avail, .int .i64 m.rcode, q, a, u, e, .int .i64 m.size]
structure MsgV (w : World) (m : MsgR) (q a u e : Value) : Prop where
 qs : Sl 2 w q (bQ m.qs)
 an : Sl 4 w a (aC m.an)
 au : Sl 4 w u (aC m.au)
 ex : Sl 4 w e (aC m.ex)
theorem MsgV.ext {w w' : World} {m : MsgR} {q a u e : Value} (h : MsgV w m q a u e) (hx : Ext w w') : MsgV w' m q a u e := ⟨h.qs.ext hx, h.an.ext hx, h.au.ext hx, h.ex.ext hx⟩
theorem MsgV.one {w : World} {m : MsgR} {q a u e : Value} (h : MsgV w m q a u e) : ∀ x ∈ cR m q a u e, x.oneCell' = true := by
 intro x hx
 simp only [cR, List.mem_cons, List.not_mem_nil, or_false] at hx
 rcases hx with rfl | rfl | rfl | rfl | rfl | rfl | rfl | rfl | rfl | rfl | rfl | rfl | rfl
 all_goals first | rfl | exact h.qs.one | exact h.an.one | exact h.au.one | exact h.ex.one
def RP : MsgR := ⟨0, false, 0, false, false, false, false, 0, [], [], [], [], 0⟩
theorem MsgV.zero (w : World) : MsgV w RP (.slice none 0 0) (.slice none 0 0) (.slice none 0 0) (.slice none 0 0) := ⟨Sl.nil _ _, Sl.nil _ _, Sl.nil _ _, Sl.nil _ _⟩
def BL (q : xX) : Bool := decide (eC q.1 = 0) && (decide (1 ≤ q.2) && decide (q.2 ≤ 65535)) && !decide (q.2 = 41)
def eD (l : List Rec) : Bool := decide (l.length ≤ 200) && !(l.any fun r => !decide (aV r = 0))
def eX (n least most : Int) : Bool := decide (least ≤ n) && decide (n ≤ most)
def dM (m : MsgR) : Int :=
 if eX m.id 0 65535 && eX m.op 0 15 && eX m.rcode 0 15 && (decide (m.size = 0) || eX m.size 512 65535) && (decide (m.qs.length ≤ 10) && m.qs.all BL) && (eD m.an && eD m.au && eD m.ex) then 0 else 1
theorem xY {α : Type} (l : List α) (i : Nat) (x : α) (h : i < l.length) : l.take i ++ [x] ++ l.drop (i + 1) = l.set i x := by
 rw [List.set_eq_take_append_cons_drop, if_pos h, List.append_assoc]
 rfl
section
variable {P : Program} {ops : Array Oper} {Q : Exit → Act → World → Prop} {w : World} {rest : List Oper} {ts : List Value} {df : List Deferred} {ty : TypeId} {ps : String} {af : Array Edge} {g : Option (Nat × Bool)}
theorem Own.slf {B k e : Nat} {w : World} {v : Value} {es : List (List Value)} (h : Own B k e w v es) : v = .slice none 0 0 ∧ es = [] ∨ ∃ g cap, v = .slice (some ⟨g, 0, none⟩) es.length cap := by
 rcases h.row.2 with ⟨h0, h1⟩ | ⟨g', cap', cur, fz, hv, _⟩
 ·exact .inl ⟨h0, List.eq_nil_of_length_eq_zero h1⟩
 ·exact .inr ⟨g', cap', hv⟩
theorem DS {B k e : Nat} {v : Value} {es : List (List Value)} {i : Nat} {c : Value} {f : List Value} {t : TypeId} (ho : Own B k e w v es) (hi : i < es.length) (hc : c.cells = f.toArray) (hf : f.length = k) (h1 : ∀ u ∈ f, u.oneCell' = true) (ht : aO P t k = true) :
 ∃ w' b, bU v (i * k) = .pointer (some ⟨b, i * k, none⟩) ∧ (storeVar t ⟨b, i * k, none⟩ c).run P w = .ok () w' ∧ Own B k e w' v (es.set i f) ∧ Mv v.ownBlock w w' := by
 rcases ho.slf with ⟨_, rfl⟩ | ⟨gb, cap, rfl⟩
 ·simp at hi
 ·obtain ⟨inf, hq, hsz⟩ := lR (fL ht)
  obtain ⟨cur, fz, hg, hfz, hnc, h3, h4, how, hmv⟩ := ho.over (i := i) (fs := [f]) (by simp; omega) (by intro x hx; rw [List.mem_singleton.1 hx]; exact hf)
  simp only [List.flatten_cons, List.flatten_nil, List.append_nil, List.length_cons, List.length_nil, Nat.zero_add] at h3 how hmv
  rw [xY _ _ _ hi] at how
  have hr := cS P gb (i * k) e fz f 0 cur w hg (by omega) (by omega) h1
  simp only [Nat.add_zero] at hr
  refine ⟨_, gb, by simp [bU, cJ], ?_, by simpa using how, hmv⟩
  simp [storeVar, sizeOf, typeInfo, hq, hsz, hc, hr, hf]
theorem eT {B k e : Nat} {v c : Value} {es : List (List Value)} {f : List Value} {t ty2 : TypeId} {x y : Operand} {i : Nat} (hw : Region.wanted (Oper.mk none (.store t x y) ty2 ps af g) (yielded ops ts.toArray) = true)
 (hx : (Act.mk ts.toArray df).eval x = bU v (i * k)) (hy : (Act.mk ts.toArray df).eval y = c) (ho : Own B k e w v es) (hi : i < es.length) (hc : c.cells = f.toArray) (hf : f.length = k) (h1 : ∀ u ∈ f, u.oneCell' = true) (ht : aO P t k = true)
 (h : ∀ w', Own B k e w' v (es.set i f) → Mv v.ownBlock w w' → wpList P ops Q rest (Act.mk ts.toArray df) w') : wpList P ops Q (Oper.mk none (.store t x y) ty2 ps af g :: rest) (Act.mk ts.toArray df) w := by
 obtain ⟨w', b, e1, hr, ho', hm⟩ := DS (P := P) ho hi hc hf h1 ht
 refine fM hw (w' := w') ?_ (h w' ho' hm)
 simp [execOp, hx, hy, e1, Instr.storeAt, Instr.sureAddr, hr]
end
set_option maxHeartbeats 8000000 in
theorem NK (o : List UInt8) (v : Value) (l : List RSet) {d : DeltaR} {r : Value} (w : World) (hv : SetsAt w v l) (hd : DelA d r w)
 (bl : ∀ s ∈ l, s.data.length ≤ 1000000) (dl : ∀ s ∈ l, ∀ d ∈ s.data, d.length ≤ 1000000) (h1 : (aL l).length ≤ 5000) (h2 : d.new.length ≤ 5000) (dn : ∀ q ∈ d.new, q.data.length ≤ 1000000) :
 Calls Tryz.prog 168 #[.agg #[aH o, v], r] w (jK w (AppU w.heap.size o l d)) := by
 obtain ⟨g, n, rfl, sg, sn⟩ := hd
 have lg := aG d.gone
 have ln := aG d.new
 have lgl := sg.le
 have lnl := sn.le
 go_enter Tryz.func168, Tryz.ntmps168
 refine_lift gT fun _ _ => ?_
 refine aT (vs := [aH o, v]) rfl rfl ?_
 intro p w1 x1 hp
 refine aA ?_
 refine aT (vs := [.int .i64 d.fr, .int .i64 d.to, g, n]) rfl rfl ?_
 intro q w2 x2 hq
 refine aA ?_
 refine aF (z := aZ) rfl (by decide +kernel) ?_
 intro w3 x3 s3 h3
 refine aA ?_
 have hx3 := (x1.trans x2).trans x3
 have zz := (x1.trans x2).size
 have hp3 := (hp.ext x2).ext x3
 have hq3 := hq.ext x3
 refine_lift bS fun _ _ => ?_
 refine aB (enters_of Tryz.func31 rfl rfl) rfl rfl (qV o v l _ (hv.ext hx3) bl (fun s hs d hd => by have := dl s hs d hd; omega)) ?_; intro w4 x4; refine aA ?_
 have hx4 := hx3.trans x4
 refine_lift aP ?_
 refine aF (z := aX) rfl (by decide +kernel) ?_
 intro w5 x5 s5 h5
 refine aA ?_
 refine aD (v := .agg (bD o l).cells.toArray) rfl rfl rfl h5 (show aO Tryz.prog 67 7 = true by decide +kernel) rfl (dS _) ?_
 intro w6 p6
 have x46 : Ext w4 w6 := x5.move p6.mv (by rintro k ⟨⟩; exact Nat.le_refl _)
 have b6 : w6.heap[w4.heap.size]? = some (.cells (bD o l).cells.toArray 67 (0, 0)) := p6.this
 have x36 := x4.trans x46
 have hx6 := hx3.trans x36
 clear p6 h5 x5
 have h6 := x36.at h3
 have hp6 := hp3.ext x36
 have hq6 := hq3.ext x36
 refine_lift SH (fun _ _ _ _ _ => ?_) (fun _ _ _ _ _ => ?_)
 ·have q0 : ¬ aQ o l = 0 := by simpa using (by assumption : (!decide (aQ o l = 0)) = true)
  refine aU (v := .agg aZ.toArray) rfl (Runs.build0 (by kernel_rfl)) ?_
  refine aA ?_
  refine_lift aP ?_
  refine aD (v := .agg aZ.toArray) rfl rfl rfl h6 (by decide +kernel) rfl (by decide +kernel) ?_
  intro wz pz
  have xz : Ext w wz := hx6.move pz.mv (by rintro k ⟨⟩; exact zz)
  refine_lift aP ?_
  refine bodyPost_ret (aJ (cs := aZ) rfl rfl pz.this (by decide +kernel)) rfl ⟨_, rfl, xz, ?_⟩
  exact AppU.bad (by rw [kE, if_neg q0]) q0
 ·have q0 : aQ o l = 0 := by simpa using (by assumption : (!decide (aQ o l = 0)) = false)
  have pb6 := aE b6
  have pb6' : Pts w6 (.pointer (some ⟨w4.heap.size, 0, none⟩)) [aH (bD o l).main, aH (bD o l).mail, .int .i64 (bD o l).serial, .int .i64 (bD o l).refresh, .int .i64 (bD o l).retry, .int .i64 (bD o l).expire, .int .i64 (bD o l).minimum] := pb6
  refine_lift CD (fun _ _ _ => ?_) (fun _ _ _ => ?_)
  ·have q1 : ¬ (bD o l).serial = d.fr := by simpa using (by assumption : (!decide ((bD o l).serial = d.fr)) = true)
   refine aU (v := .agg aZ.toArray) rfl (Runs.build0 (by kernel_rfl)) ?_
   refine aA ?_
   refine aD (v := .agg aZ.toArray) rfl rfl rfl h6 (by decide +kernel) rfl (by decide +kernel) ?_
   intro wz pz
   have xz : Ext w wz := hx6.move pz.mv (by rintro k ⟨⟩; exact zz)
   refine_lift aP ?_
   refine bodyPost_ret (aJ (cs := aZ) rfl rfl pz.this (by decide +kernel)) rfl ⟨_, rfl, xz, ?_⟩
   exact AppU.bad (by rw [kE, if_pos q0, if_neg q1]) (by decide)
  ·have q1 : (bD o l).serial = d.fr := by simpa using (by assumption : (!decide ((bD o l).serial = d.fr)) = false)
   refine aI (enters_of Tryz.func40 rfl rfl) rfl rfl (RC v l _ (hv.ext hx6) (by omega)) ?_
   intro r0 w7 x7 o7
   refine aA ?_
   have hq7 := hq6.ext x7
   have sg6 := sg.ext hx6
   have sn6 := sn.ext hx6
   have hrd := IG dl
   refine_lift bS fun _ _ => ?_
   go_loopw [8, 10, 11, 39] (fun o _ _ i wr => ∃ (k : Nat) (m : List Rec), k ≤ d.gone.length ∧ i = .int .i64 k ∧ Ext w6 wr ∧ Own w6.heap.size 4 47 wr o (aC m) ∧ gP (aL l) (d.gone.take k) = some m) (fun _ _ _ i _ => d.gone.length - (intOf i).toNat)
   case atStart => exact ⟨0, aL l, Nat.zero_le _, rfl, x7, o7, rfl⟩
   case round =>
    obtain ⟨k, m, hk, rfl, hx, ho, hg⟩ := hrel
    obtain ⟨gl, gm⟩ := DN hg
    have hml := aG m
    have hsg := sg6.ext hx
    have hqr := hq6.ext hx
    have hpr := hp6.ext hx
    by_cases hlt : k < d.gone.length
    ·have hpe := hsg.elem (dI hlt)
     refine_lift nX ?_; intro _ _ _ _ _ _
     refine aF (z := AZ) rfl (by decide +kernel) ?_
     intro w8 x8 s8 h8
     refine aA ?_
     refine aD (v := .agg #[aH d.gone[k].name, .int .i64 d.gone[k].kind, .int .i64 d.gone[k].ttl, aH d.gone[k].data]) rfl rfl rfl h8 (show aO Tryz.prog 47 4 = true by decide +kernel) rfl (fU rfl rfl rfl rfl) ?_
     intro w9 p9
     have x9 : Ext wr w9 := x8.move p9.mv (by rintro k ⟨⟩; exact Nat.le_refl _)
     have hp9 := aE (cs := [aH d.gone[k].name, .int .i64 d.gone[k].kind, .int .i64 d.gone[k].ttl, aH d.gone[k].data]) p9.this
     have hx9 := hx.trans x9
     have ho9 := ho.ext x9
     clear p9 h8 x8
     refine_lift bS fun _ _ => ?_
     refine aB (enters_of Tryz.func192 rfl rfl) rfl rfl (GK _ m d.gone[k] _ ho9.sl) ?_; intro w10 x10; refine aA ?_
     have hx10 := hx9.trans x10
     have ho10 := ho9.ext x10
     by_cases hm : d.gone[k] ∈ m
     ·obtain ⟨i, hi, ei, ee⟩ := NF hm
      rw [ei]
      have hst := IF hlt hg
      rw [if_pos hm] at hst
      refine_lift fG fun _ => ?_
      refine bB (enters_of Tryz.func198 rfl rfl) rfl rfl (KR ho10 hi (by omega)) ?_
      rintro _ w11 ⟨v11, rfl, o11, m11, k11⟩
      refine ⟨_, rfl, ?_⟩
      refine aA ?_
      rw [ee] at o11
      have hx11 : Ext w6 w11 := ho10.mvx m11 hx10 (Nat.le_refl _)
      refine_lift aP ?_
      exact ⟨⟨k + 1, _, by omega, by go_num, hx11, o11, hst⟩, by simp [intOf]; omega⟩
     ·rw [LK hm]
      have hb := FM (LJ hlt hg hm)
      refine_lift MG fun _ _ _ _ _ => ?_
      refine aU (v := .agg aZ.toArray) rfl (Runs.build0 (by kernel_rfl)) ?_
      refine aA ?_
      refine aD (v := .agg aZ.toArray) rfl rfl rfl (hx10.at h6) (by decide +kernel) rfl (by decide +kernel) ?_
      intro wz pz
      have xz : Ext w wz := (hx6.trans hx10).move pz.mv (by rintro k ⟨⟩; exact zz)
      refine_lift aP ?_
      refine bodyPost_ret (aJ (cs := aZ) rfl rfl pz.this (by decide +kernel)) rfl ⟨_, rfl, xz, ?_⟩
      exact AppU.bad (zU q0 q1 hb) (by decide)
    ·have : k = d.gone.length := by omega
     subst this
     rw [List.take_length] at hg
     have hed := NG hg
     refine_lift kT fun _ _ _ => ?_
     go_loopw [8, 13, 58] (fun o _ i wr => ∃ (k : Nat) (m' : List Rec), k ≤ d.new.length ∧ i = .int .i64 k ∧ Ext w6 wr ∧ Own w6.heap.size 4 47 wr o (aC m') ∧ mM m (d.new.take k) = some m') (fun _ _ i _ => d.new.length - (intOf i).toNat)
     case atStart => exact ⟨0, m, Nat.zero_le _, rfl, hx, ho, rfl⟩
     case round =>
      obtain ⟨k, m', hk, rfl, hx, ho, hn⟩ := hrel
      obtain ⟨nl, nm⟩ := GR hn
      have hml := aG m'
      have hsn := sn6.ext hx
      have hqr := hq6.ext hx
      have hpr := hp6.ext hx
      rw [List.length_take] at nl
      by_cases hlt : k < d.new.length
      ·have hpe := hsn.elem (dI hlt)
       have hst := LI hlt hn
       refine_lift nX ?_; intro _ _ _ _ _ _
       refine aF (z := AZ) rfl (by decide +kernel) ?_
       intro w8 x8 s8 h8
       refine aA ?_
       refine aD (v := .agg #[aH d.new[k].name, .int .i64 d.new[k].kind, .int .i64 d.new[k].ttl, aH d.new[k].data]) rfl rfl rfl h8 (show aO Tryz.prog 47 4 = true by decide +kernel) rfl (fU rfl rfl rfl rfl) ?_
       intro w9 p9
       have x9 : Ext wr w9 := x8.move p9.mv (by rintro k ⟨⟩; exact Nat.le_refl _)
       have hp9 := aE (cs := [aH d.new[k].name, .int .i64 d.new[k].kind, .int .i64 d.new[k].ttl, aH d.new[k].data]) p9.this
       have hx9 := hx.trans x9
       have ho9 := ho.ext x9
       clear p9 h8 x8
       refine_lift gO fun _ _ _ _ => ?_
       refine aB (enters_of Tryz.func153 rfl rfl) rfl rfl (vS _ m' d.new[k] _ ho9.sl) ?_; intro w10 x10; refine aA ?_
       have hx10 := hx9.trans x10
       have ho10 := ho9.ext x10
       have hp10 := hp9.ext x10
       by_cases hm : d.new[k] ∈ m'
       ·rw [decide_eq_true hm]
        have hb := NE hlt hn hm
        refine_lift bS fun _ _ => ?_
        refine aU (v := .agg aZ.toArray) rfl (Runs.build0 (by kernel_rfl)) ?_
        refine aA ?_
        refine aD (v := .agg aZ.toArray) rfl rfl rfl (hx10.at h6) (by decide +kernel) rfl (by decide +kernel) ?_
        intro wz pz
        have xz : Ext w wz := (hx6.trans hx10).move pz.mv (by rintro k ⟨⟩; exact zz)
        refine_lift aP ?_
        refine bodyPost_ret (aJ (cs := aZ) rfl rfl pz.this (by decide +kernel)) rfl ⟨_, rfl, xz, ?_⟩
        exact AppU.bad (zU q0 q1 (hed.trans hb)) (by decide)
       ·rw [decide_eq_false hm]
        rw [if_neg hm] at hst
        refine_lift aP ?_
        refine JE [aH d.new[k].name, .int .i64 d.new[k].kind, .int .i64 d.new[k].ttl, aH d.new[k].data] hx10 ho10 (by omega) ?_ (iV rfl)
        intro s5 v5 w11 w12 x11 m12 x12 o12
        refine aA ?_
        refine_lift aP ?_
        refine ⟨⟨k + 1, _, by omega, by go_num, x12, ?_, hst⟩, by simp [intOf]; omega⟩
        simpa [aC, Rec.cells] using o12
      ·have : k = d.new.length := by omega
       subst this
       rw [List.take_length] at hn
       rw [hn] at hed
       have hmd : ∀ q ∈ m', q.data.length ≤ 1000000 := by
        intro q hq
        rcases nm q hq with h | h
        ·exact hrd q (gm q h)
        ·exact dn q (List.mem_of_mem_take h)
       have hm5 : m'.length ≤ 10000 := by omega
       obtain ⟨lb1, lb2, lb3⟩ := BB (o := o) hmd
       have hend := IH q0 q1 hed
       refine_lift kT fun _ _ _ => ?_
       refine aI (enters_of Tryz.func36 rfl rfl) rfl rfl (FF o _ m' _ ho.sl hm5 (fun q hq => by have := hmd q hq; omega)) ?_
       rintro _ w20 x20 ⟨y, rfl, sy⟩
       refine aA ?_
       have hx20 := hx.trans x20
       obtain ⟨ya, yn, yc, hys⟩ : ∃ a n c, y = .slice a n c := by obtain ⟨css, h, _⟩ := sy.out; exact h.slf
       have hy1 : y.oneCell' = true := by rw [hys]; rfl
       refine_lift aP ?_
       refine aF (z := aZ) rfl (by decide +kernel) ?_
       intro w21 x21 s21 h21
       refine aA ?_
       refine aD (v := .agg #[aH (eA o m'), y]) rfl rfl rfl h21 (show aO Tryz.prog 25 2 = true by decide +kernel) rfl (cX hy1) ?_
       intro w22 p22
       have x2022 : Ext w20 w22 := x21.move p22.mv (by rintro k ⟨⟩; exact Nat.le_refl _)
       have z22 : w22.heap[w20.heap.size]? = some (.cells [aH (eA o m'), y].toArray 25 (0, 0)) := p22.this
       have hx22 := hx20.trans x2022
       have sy22 := sy.ext x2022
       have ho22 := ho.ext (x20.trans x2022)
       clear p22 h21 x21
       refine_lift tK (fun _ _ _ => ?_) (fun _ _ _ _ _ => ?_)
       ·have q2 : ¬ gC o m' = 0 := by simpa using (by assumption : (!decide (gC o m' = 0)) = true)
        refine aU (v := .agg aZ.toArray) rfl (Runs.build0 (by kernel_rfl)) ?_
        refine aA ?_
        refine_lift aP ?_
        refine aD (v := .agg aZ.toArray) rfl rfl rfl (hx22.at h6) (by decide +kernel) rfl (by decide +kernel) ?_
        intro wz pz
        have xz : Ext w wz := (hx6.trans hx22).move pz.mv (by rintro k ⟨⟩; exact zz)
        refine_lift aP ?_
        refine bodyPost_ret (aJ (cs := aZ) rfl rfl pz.this (by decide +kernel)) rfl ⟨_, rfl, xz, ?_⟩
        exact AppU.bad (by rw [hend, DG, if_neg q2]) q2
       ·have q2 : gC o m' = 0 := by simpa using (by assumption : (!decide (gC o m' = 0)) = false)
        have pz22 := aE z22
        refine_lift aP ?_
        refine aB (enters_of Tryz.func31 rfl rfl) rfl rfl (qV (eA o m') y (dF o m') _ sy22.sets (fun s hs => by have := lb1 s hs; omega) (fun s hs d hd => by have := lb2 s hs d hd; omega)) ?_; intro w23 x23; refine aA ?_
        have hx23 := hx22.trans x23
        have b23 := hx23.at b6
        refine_lift aP ?_
        refine aD (v := .agg (bD (eA o m') (dF o m')).cells.toArray) rfl rfl rfl b23 (show aO Tryz.prog 67 7 = true by decide +kernel) rfl (dS _) ?_
        intro w24 p24
        have e1 := x4.size
        have e2 := x46.size
        have e3 := hx.size
        have e4 := x20.size
        have e5 : w4.heap.size < w6.heap.size := (Array.getElem?_eq_some_iff.1 b6).1
        have x24 : Ext w3 w24 := (x36.trans hx23).move p24.mv (by rintro k ⟨⟩; exact e1)
        have hxw24 := hx3.trans x24
        have hq24 := hq3.ext x24
        have b24 : w24.heap[w4.heap.size]? = some (.cells [aH (bD (eA o m') (dF o m')).main, aH (bD (eA o m') (dF o m')).mail, .int .i64 (bD (eA o m') (dF o m')).serial, .int .i64 (bD (eA o m') (dF o m')).refresh, .int .i64 (bD (eA o m') (dF o m')).retry, .int .i64 (bD (eA o m') (dF o m')).expire, .int .i64 (bD (eA o m') (dF o m')).minimum].toArray 67 (0, 0)) := p24.this
        have h24 := p24.at (hx23.at h6) (by omega)
        have z24 := p24.at (x23.at z22) (by omega)
        have sy24 := (sy22.ext x23).put p24 (by omega)
        have ho24 := (ho22.ext x23).mv p24.mv (.inr ((ho22.ext x23).neBlock b23 (by decide)))
        have pz24 := aE z24
        clear p24 b23
        refine_lift bS fun _ _ => ?_
        refine aI (enters_of Tryz.func40 rfl rfl) rfl rfl (RC y (dF o m') _ sy24.sets (by omega)) ?_
        intro r5 w25 x25 o25
        refine aA ?_
        have hxw25 := hxw24.trans x25
        have h25 := x25.at h24
        have z25 := x25.at z24
        have pz25 := pz24.ext x25
        have pb25 := aE (x25.at b24)
        have hq25 := hq24.ext x25
        have sl25 := (ho24.ext x25).sl
        have sr25 := o25.sl
        have lr := aG (aL (dF o m'))
        refine_lift QT (fun _ _ hc hc _ _ => ?_) (fun _ _ hc _ _ => ?_) (fun _ _ _ _ hc hc => ?_)
        ·have q3 : (bD (eA o m') (dF o m')).serial = d.to := by simpa using (by assumption : (!decide ((bD (eA o m') (dF o m')).serial = d.to)) = false)
         have q4 : (aL (dF o m')).length = m'.length := by
          have : (↑(aC (aL (dF o m'))).length : Int) = ↑(aC m').length := by simpa using hc
          omega
         refine aI (enters_of Tryz.func97 rfl rfl) rfl rfl (FG _ r5 m' (aL (dF o m')) _ sl25 sr25 (by omega)) ?_
         intro r6 w26 x26 o26
         have sr26 := o26.sl
         have hxw26 := hxw25.trans x26
         have h26 := x26.at h25
         have z26 := x26.at z25
         have pz26 := pz25.ext x26
         have l6 := aG (eQ m' (aL (dF o m')))
         have sy26 := (sy24.ext x25).ext x26
         refine aA ?_
         refine_lift CD (fun _ _ _ => ?_) (fun _ _ _ => ?_)
         ·have q5 : ¬ eQ m' (aL (dF o m')) = [] := by
           intro e
           rw [e] at l6
           simp at l6
           have := (by assumption : (0 : Int) < ↑(aC (eQ m' (aL (dF o m')))).length)
           rw [e] at this
           simp [aC] at this
          refine aU (v := .agg aZ.toArray) rfl (Runs.build0 (by kernel_rfl)) ?_
          refine aA ?_
          refine aD (v := .agg aZ.toArray) rfl rfl rfl h26 (by decide +kernel) rfl (by decide +kernel) ?_
          intro wz pz
          have xz : Ext w wz := hxw26.move pz.mv (by rintro k ⟨⟩; exact zz)
          refine_lift aP ?_
          refine bodyPost_ret (aJ (cs := aZ) rfl rfl pz.this (by decide +kernel)) rfl ⟨_, rfl, xz, ?_⟩
          exact AppU.bad (by rw [hend, DG, if_pos q2, if_neg (fun h => q5 h.2.2)]) (by decide)
         ·have q5 : eQ m' (aL (dF o m')) = [] := List.eq_nil_of_length_eq_zero (by omega)
          have hE : kE o l d = 0 := by rw [hend, DG, if_pos q2, if_pos ⟨q3, q4, q5⟩]
          refine_lift aP ?_
          refine aD (v := .agg #[aH (eA o m'), y]) rfl rfl rfl h26 (show aO Tryz.prog 25 2 = true by decide +kernel) rfl (cX hy1) ?_
          intro wz pz
          have xz : Ext w wz := hxw26.move pz.mv (by rintro k ⟨⟩; exact zz)
          refine_lift aP ?_
          refine bodyPost_ret (aJ (cs := [aH (eA o m'), y]) rfl rfl pz.this (show cY Tryz.prog 25 2 = true by decide +kernel)) rfl ⟨_, rfl, xz, ?_⟩
          refine ⟨y, ?_, ?_⟩
          ·rw [xS, if_pos hE, hE, hed]; rfl
          ·rw [DH, if_pos hE, hed]
           exact (sy26.put pz (by omega)).weaken (hx6.trans hx).size
        ·have q4 : ¬ (aL (dF o m')).length = m'.length := by
          have : ¬ (↑(aC (aL (dF o m'))).length : Int) = ↑(aC m').length := by simpa using hc
          omega
         refine aU (v := .agg aZ.toArray) rfl (Runs.build0 (by kernel_rfl)) ?_
         refine aA ?_
         refine aD (v := .agg aZ.toArray) rfl rfl rfl h25 (by decide +kernel) rfl (by decide +kernel) ?_
         intro wz pz
         have xz : Ext w wz := hxw25.move pz.mv (by rintro k ⟨⟩; exact zz)
         refine_lift aP ?_
         refine bodyPost_ret (aJ (cs := aZ) rfl rfl pz.this (by decide +kernel)) rfl ⟨_, rfl, xz, ?_⟩
         exact AppU.bad (by rw [hend, DG, if_pos q2, if_neg (fun h => q4 h.2.1)]) (by decide)
        ·have q3 : ¬ (bD (eA o m') (dF o m')).serial = d.to := by simpa using hc
         refine aU (v := .agg aZ.toArray) rfl (Runs.build0 (by kernel_rfl)) ?_
         refine aA ?_
         refine aD (v := .agg aZ.toArray) rfl rfl rfl h25 (by decide +kernel) rfl (by decide +kernel) ?_
         intro wz pz
         have xz : Ext w wz := hxw25.move pz.mv (by rintro k ⟨⟩; exact zz)
         refine_lift aP ?_
         refine bodyPost_ret (aJ (cs := aZ) rfl rfl pz.this (by decide +kernel)) rfl ⟨_, rfl, xz, ?_⟩
         exact AppU.bad (by rw [hend, DG, if_pos q2, if_neg (fun h => q3 h.1)]) (by decide)
def OH (d : List UInt8) : Int := if (cB d).isSome then 0 else 2
theorem DT (d : List UInt8) (w : World) (hl : d.length ≤ 4611686018427387904) : Calls Tryz.prog 80 #[aH d] w (bC w (.tuple #[.agg (vV d).cells.toArray, .int .i64 (OH d)])) := by
 have h := SN d w hl
 unfold vV OH
 cases hp : cB d <;> (rw [hp] at h; exact h)
set_option maxHeartbeats 2000000 in
theorem qD (r : Rec) (w : World) (hl : r.data.length ≤ 4611686018427387904) : Calls Tryz.prog 64 #[.agg #[aH r.name, .int .i64 r.kind, .int .i64 r.ttl, aH r.data]] w (bC w (.int .i64 (kP r))) := by
 go_enter Tryz.func64, Tryz.ntmps64
 refine_lift gT fun _ _ => ?_
 refine aT (vs := [aH r.name, .int .i64 r.kind, .int .i64 r.ttl, aH r.data]) rfl rfl ?_
 intro p w1 x1 hp
 refine aA ?_
 refine_lift bS fun _ _ => ?_
 refine aB (enters_of Tryz.func80 rfl rfl) rfl rfl (DT r.data w1 hl) ?_; intro w2 x2; refine aA ?_
 refine_lift aP ?_
 refine aF (z := aX) rfl (by decide +kernel) ?_
 intro w3 x3 s3 h3
 refine aA ?_
 refine aD (v := .agg (vV r.data).cells.toArray) rfl rfl rfl h3 (show aO Tryz.prog 67 7 = true by decide +kernel) rfl (dS _) ?_
 intro w4 p4
 have x4 : Ext w2 w4 := x3.move p4.mv (by rintro k ⟨⟩; exact Nat.le_refl _)
 have hs4 := aE (cs := (vV r.data).cells) p4.this
 have hs42 : Pts w4 (bG (.pointer (some ⟨w2.heap.size, 0, none⟩)) 2) [.int .i64 (vV r.data).serial, .int .i64 (vV r.data).refresh, .int .i64 (vV r.data).retry, .int .i64 (vV r.data).expire, .int .i64 (vV r.data).minimum] := hs4.part 2
 refine_lift aP ?_
 go_ret
 exact ⟨rfl, (x1.trans x2).trans x4⟩
def eU {α : Type} (os : List α) (q : Nat) (x : α) : List α := os.take q ++ x :: os.drop q
section
variable {α : Type} {os : List α} {q : Nat} {x : α}
theorem jQ (h : q ≤ os.length) : (eU os q x).length = os.length + 1 := by
 simp [eU]; omega
theorem nR (h : q ≤ os.length) : (eU os q x)[q]? = some x := by
 unfold eU
 rw [List.getElem?_append_right (by simp; omega)]
 simp [Nat.min_eq_left h]
theorem eH {i : Nat} (hi : i < q) (h : q ≤ os.length) : (eU os q x)[i]? = os[i]? := by
 unfold eU
 rw [List.getElem?_append_left (by simp; omega), List.getElem?_take, if_pos hi]
theorem eI {i : Nat} (hi : q < i) (h : q ≤ os.length) : (eU os q x)[i]? = os[i - 1]? := by
 unfold eU
 rw [List.getElem?_append_right (by simp; omega)]
 have e : i - (os.take q).length = (i - 1 - q) + 1 := by simp; omega
 rw [e, List.getElem?_cons_succ, List.getElem?_drop]
 congr 1; omega
theorem wM (h : q < os.length) : ((eU os (q + 1) x).set (q + 1) os[q]).set q x = eU os q x := by
 apply List.ext_getElem?
 intro i
 by_cases h1 : i = q
 ·subst h1
  rw [List.getElem?_set_self (by rw [List.length_set, jQ (by omega)]; omega), nR (by omega)]
 ·rw [List.getElem?_set_ne (fun e => h1 e.symm)]
  by_cases h2 : i = q + 1
  ·subst h2
   rw [List.getElem?_set_self (by rw [jQ (by omega)]; omega), eI (by omega) (by omega)]
   simp [List.getElem?_eq_getElem h]
  ·rw [List.getElem?_set_ne (fun e => h2 e.symm)]
   by_cases h3 : i < q
   ·rw [eH (by omega) (by omega), eH h3 (by omega)]
   ·rw [eI (by omega) (by omega), eI (by omega) (by omega)]
theorem DU (h : q < os.length) : ((eU os (q + 1) x).set q x).set (q + 1) os[q] = eU os q x := by
 rw [List.set_comm _ _ (by omega)]
 exact wM h
end
def fJ (l : List Rec) : List Rec := l.filter aS ++ l.filter fun r => !aS r
theorem wN {l : List Rec} (h : ∀ r ∈ l, aS r = false) : fJ l = l := by
 unfold fJ
 rw [List.filter_eq_nil_iff.2 (by simpa using h), List.nil_append, List.filter_eq_self]
 simpa using h
theorem sF {os : List Rec} {q : Nat} {x : Rec} (h : ∀ r ∈ os, aS r = false) (hx : aS x = true) : fJ (eU os q x) = eU os 0 x := by
 have h1 : ∀ r ∈ os.take q, aS r = false := fun r hr => h r (List.mem_of_mem_take hr)
 have h2 : ∀ r ∈ os.drop q, aS r = false := fun r hr => h r (List.mem_of_mem_drop hr)
 have e1 : (os.take q).filter aS = [] := List.filter_eq_nil_iff.2 (by simpa using h1)
 have e2 : (os.drop q).filter aS = [] := List.filter_eq_nil_iff.2 (by simpa using h2)
 have e3 : (os.take q).filter (fun r => !aS r) = os.take q := List.filter_eq_self.2 (by simpa using h1)
 have e4 : (os.drop q).filter (fun r => !aS r) = os.drop q := List.filter_eq_self.2 (by simpa using h2)
 unfold fJ eU
 simp only [List.filter_append, List.filter_cons, hx, e1, e2, e3, e4, if_true, Bool.not_true, Bool.false_eq_true, if_false]
 simp
theorem tW : ∀ (l : List Rec), (l.filter aS).length ≤ 1 → (∀ r ∈ l, aS r = false) ∨ ∃ os q x, q ≤ os.length ∧ l = eU os q x ∧ aS x = true ∧ ∀ r ∈ os, aS r = false
 | [], _ => .inl (by simp)
 | r :: t, h => by
   by_cases hr : aS r = true
   ·refine .inr ⟨t, 0, r, Nat.zero_le _, by simp [eU], hr, fun s hs => ?_⟩
    rw [List.filter_cons, if_pos hr, List.length_cons] at h
    have h0 : t.filter aS = [] := List.eq_nil_of_length_eq_zero (by omega)
    have := List.filter_eq_nil_iff.1 h0 s hs
    simpa using this
   ·rw [List.filter_cons, if_neg hr] at h
    have hrf : aS r = false := by simpa using hr
    rcases tW t h with h1 | ⟨os, q, x, h1, h2, h3, h4⟩
    ·exact .inl (by simpa [hrf] using h1)
    ·refine .inr ⟨r :: os, q + 1, x, by simp; omega, by rw [h2]; simp [eU], h3, ?_⟩
     intro s hs
     rcases List.mem_cons.1 hs with rfl | hs
     ·exact hrf
     ·exact h4 s hs
def gL (o : List UInt8) (l : List RSet) : List Rec := if aQ o l = 0 then fJ (aL l) ++ [cC (fJ (aL l))] else []
def iN (x : Option Rec) (os : List Rec) (q : Nat) : List Rec := match x with | some r => eU os q r | none => os
def oT (x : Option Rec) (os : List Rec) : Nat := os.length + (match x with | some _ => 1 | none => 0)
structure Sx (x : Option Rec) (os : List Rec) (q : Nat) : Prop where
 non : ∀ r ∈ os, aS r = false
 is : ∀ r, x = some r → aS r = true ∧ q ≤ os.length
 no : x = none → os.length ≤ q
theorem oH {x : Option Rec} {os : List Rec} {q : Nat} (h : Sx x os q) : (iN x os q).length = oT x os := by
 unfold iN oT
 split
 ·rename_i r; exact jQ (h.is r rfl).2
 ·rfl
theorem GW {x : Option Rec} {os : List Rec} {q i : Nat} (h : Sx x os q) (hi : i < oT x os) : ∃ r, (iN x os q)[i]? = some r ∧ aS r = decide (i = q) := by
 cases x with
 | none =>
  have h1 : i < os.length := by simpa [oT] using hi
  have := h.no rfl
  refine ⟨os[i], by simp [iN, h1], ?_⟩
  rw [h.non _ (List.getElem_mem h1), decide_eq_false (by omega)]
 | some r =>
  obtain ⟨h1, h2⟩ := h.is r rfl
  have h3 : i < os.length + 1 := by simpa [oT] using hi
  by_cases e : i = q
  ·subst e
   exact ⟨r, nR h2, by rw [h1, decide_eq_true rfl]⟩
  ·rw [decide_eq_false e]
   by_cases e2 : i < q
   ·refine ⟨os[i], ?_, h.non _ (List.getElem_mem (by omega))⟩
    rw [iN, eH e2 h2, List.getElem?_eq_getElem (by omega)]
   ·refine ⟨os[i - 1], ?_, h.non _ (List.getElem_mem (by omega))⟩
    rw [iN, eI (by omega) h2, List.getElem?_eq_getElem (by omega)]
theorem Sx.to {x : Option Rec} {os : List Rec} {q q' : Nat} (h : Sx x os q) (hq : q < oT x os) (hq' : q' < oT x os) : Sx x os q' := by
 cases x with
 | none => have := h.no rfl; simp [oT] at hq; omega
 | some r => exact ⟨h.non, fun r' e => ⟨(h.is r' e).1, by simp [oT] at hq'; omega⟩, fun e => by cases e⟩
theorem LL {x : Option Rec} {os : List Rec} {q : Nat} (h : Sx x os (q + 1)) (hq : q + 1 < oT x os) : ∃ a b, (iN x os (q + 1))[q]? = some a ∧ (iN x os (q + 1))[q + 1]? = some b ∧ ((iN x os (q + 1)).set (q + 1) a).set q b = iN x os q ∧ ((iN x os (q + 1)).set q b).set (q + 1) a = iN x os q := by
 cases x with
 | none => have := h.no rfl; simp [oT] at hq; omega
 | some r =>
  have h2 := (h.is r rfl).2
  refine ⟨os[q], r, ?_, nR h2, wM (by omega), DU (by omega)⟩
  rw [iN, eH (by omega) h2, List.getElem?_eq_getElem (by omega)]
def tP (a b : Rec) : Int := if aS a = aS b then 0 else if aS a = true then -1 else 1
theorem NL (a b : Rec) : decide (tP a b < 0) = (aS a && !aS b) := by
 unfold tP
 cases aS a <;> cases aS b <;> rfl
def oU (D : List Rec) (a m : Nat) : Nat → List Rec
 | 0 => D
 | k + 1 => ((oU D a m k).set (a + k) ((oU D a m k).getD m bM)).set m ((oU D a m k).getD (a + k) bM)
theorem wO (D : List Rec) (a m : Nat) : ∀ k, (oU D a m k).length = D.length
 | 0 => rfl
 | k + 1 => by rw [oU, List.length_set, List.length_set, wO D a m k]
theorem GX {D : List Rec} {a m : Nat} (hm : m < D.length) : ∀ k, a + k ≤ m → ∀ i, (oU D a m k)[i]? = if k = 0 then D[i]? else if i < a ∨ m < i then D[i]? else if i = a then D[m]? else if i < a + k then D[i - 1]? else if i = m then D[a + k - 1]? else D[i]?
 | 0, _, i => by simp [oU]
 | k + 1, h, i => by
   have ih := GX (D := D) (a := a) hm k (by omega)
   have hl := wO D a m k
   have e1 : (oU D a m k)[m]? = if k = 0 then D[m]? else D[a + k - 1]? := by
    rw [ih m]
    by_cases hk : k = 0
    ·rw [if_pos hk, if_pos hk]
    ·rw [if_neg hk, if_neg hk, if_neg (by omega), if_neg (by omega), if_neg (by omega), if_pos rfl]
   have e2 : (oU D a m k)[a + k]? = D[a + k]? := by
    rw [ih (a + k)]
    by_cases hk : k = 0
    ·rw [if_pos hk]
    ·rw [if_neg hk, if_neg (by omega), if_neg (by omega), if_neg (by omega), if_neg (by omega)]
   rw [if_neg (by omega), oU]
   have g1 : (oU D a m k).getD m bM = (if k = 0 then D[m] else D[a + k - 1]) := by
    rw [List.getD_eq_getElem?_getD, e1]
    split <;> rw [List.getElem?_eq_getElem (by omega)] <;> rfl
   have g2 : (oU D a m k).getD (a + k) bM = D[a + k] := by
    rw [List.getD_eq_getElem?_getD, e2, List.getElem?_eq_getElem (by omega)]; rfl
   rw [g1, g2]
   by_cases im : i = m
   ·subst im
    rw [List.getElem?_set_self (by rw [List.length_set, hl]; exact hm), if_neg (by omega), if_neg (by omega), if_neg (by omega), if_pos rfl, show a + (k + 1) - 1 = a + k by omega, List.getElem?_eq_getElem (by omega)]
   ·rw [List.getElem?_set_ne (fun e => im e.symm)]
    by_cases ik : i = a + k
    ·subst ik
     rw [List.getElem?_set_self (by rw [hl]; omega)]
     by_cases hk : k = 0
     ·subst hk
      rw [if_pos rfl, if_neg (by omega), if_pos (by omega), List.getElem?_eq_getElem hm]
     ·rw [if_neg hk, if_neg (by omega), if_neg (by omega), if_pos (by omega), List.getElem?_eq_getElem (by omega)]
    ·rw [List.getElem?_set_ne (fun e => ik e.symm), ih i]
     by_cases hk : k = 0
     ·subst hk
      rw [if_pos rfl]
      by_cases c : i < a ∨ m < i
      ·rw [if_pos c]
      ·rw [if_neg c, if_neg (by omega), if_neg (by omega), if_neg im]
     ·rw [if_neg hk]
      by_cases c : i < a ∨ m < i
      ·rw [if_pos c, if_pos c]
      ·rw [if_neg c, if_neg c]
       by_cases c2 : i = a
       ·rw [if_pos c2, if_pos c2]
       ·rw [if_neg c2, if_neg c2]
        by_cases c3 : i < a + k
        ·rw [if_pos c3, if_pos (by omega)]
        ·rw [if_neg c3, if_neg im, if_neg (by omega), if_neg im]
theorem LM {x : Option Rec} {os : List Rec} {a m : Nat} (h : Sx x os m) (hm : m < oT x os) (ha : a < m) : oU (iN x os m) a m (m - a) = iN x os a := by
 cases x with
 | none => have := h.no rfl; simp [oT] at hm; omega
 | some r =>
  have h2 := (h.is r rfl).2
  have hl := oH h
  apply List.ext_getElem?
  intro i
  rw [GX (by omega) _ (by omega), if_neg (by omega)]
  simp only [iN]
  by_cases c : i < a ∨ m < i
  ·rw [if_pos c]
   rcases c with c | c
   ·rw [eH (by omega) h2, eH c (by omega)]
   ·rw [eI c h2, eI (by omega) (by omega)]
  ·rw [if_neg c]
   by_cases c2 : i = a
   ·subst c2
    rw [if_pos rfl, nR h2, nR (by omega)]
   ·rw [if_neg c2]
    by_cases c3 : i < a + (m - a)
    ·rw [if_pos c3, eH (by omega) h2, eI (by omega) (by omega)]
    ·rw [if_neg c3, if_pos (by omega), eH (by omega) h2, eI (by omega) (by omega)]
     congr 1; omega
end Go.Proofs.X
