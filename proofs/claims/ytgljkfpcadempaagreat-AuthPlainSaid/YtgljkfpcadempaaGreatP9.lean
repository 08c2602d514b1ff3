/- Laws and walks that the proof of the statement is made of (part 9). -/
import Derived.Test.YtgljkfpcadempaaGreatP8
set_option linter.unusedSimpArgs false
set_option linter.unusedVariables false
namespace Go.Proofs.X
open Go.RowKit
set_option maxRecDepth 100000
def eY (o : Option RSet) : List Rec := match o with | some s => dM s | none => []
theorem jO (s : RSet) : bD [s] = dM s := by simp [bD]
theorem jP (o : Option RSet) : eY o = bD [o.getD dU] := by cases o <;> simp [eY, jO, dM, dU]
def eS (o : List UInt8) (l : List RSet) : Rec := ⟨o, 6, min ((cB l o 6).getD dU).ttl (eF o l).minimum, mA o l⟩
def vM (l : List RSet) (n : List UInt8) : Bool := l.any fun s => bS s.name n
def jW (l : List RSet) : List (List UInt8) → List (List UInt8)
 | [] => []
 | x :: t => if vM l (enc (x :: t)) = true then x :: t else jW l t
def xF (l : List RSet) (n : List UInt8) : List UInt8 := (nM ([42] :: jW l ((aV n).getD []))).getD []
def dG (l : List RSet) (n : List UInt8) : List RSet := if vM l n = true then FJ l n n else FJ l (xF l n) n
def xG (l : List RSet) (n : List UInt8) : Bool := vM l n || decide (0 < (FJ l (xF l n) n).length)
def DO (k : Int) : Bool := decide (k = 2) || decide (k = 15) || decide (k = 33)
def iP (l : List RSet) (b : List (List UInt8) × List Rec) (r : Rec) : List (List UInt8) × List Rec :=
 if (bE r.kind r.data).2 ≠ 0 ∨ DO r.kind = false ∨ fold (bE r.kind r.data).1 ∈ b.1 then b
 else (b.1 ++ [fold (bE r.kind r.data).1], b.2 ++ eY (cB l (fold (bE r.kind r.data).1) 1) ++ eY (cB l (fold (bE r.kind r.data).1) 28))
def eL (l : List RSet) (rs : List Rec) : List (List UInt8) × List Rec := rs.foldl (iP l) ([], [])
def CM (l : List RSet) (rs : List Rec) : List Rec := (eL l rs).2
structure StepR where
 kind : Int
 ans : List Rec
 auth : List Rec
 next : List UInt8
 more : Bool
 deriving Inhabited
def eJ (s : RSet) : Bool := decide (s.kind = 5)
def cX (l : List RSet) (n : List UInt8) : RSet := ((dG l n).find? eJ).getD dU
def gO (k : Int) (s : RSet) : Bool := decide (k = 255) || decide (s.kind = k)
def cN (o : List UInt8) (l : List RSet) (n : List UInt8) (k c : Int) : StepR :=
 if bS n o = false then ⟨if c = 0 then 4 else 0, [], [], [], false⟩
 else if (fF o l n).2 = true then ⟨3, [], eY (cB l (fF o l n).1 2), [], false⟩
 else if xG l n = false then ⟨2, [], [eS o l], [], false⟩
 else if (dG l n).any eJ = true ∧ k ≠ 5 ∧ k ≠ 255 then
  if c = 8 then ⟨0, [], [], [], false⟩
  else ⟨0, dM (cX l n), [], fold (bE 5 ((cX l n).data.getD 0 [])).1, true⟩
 else if (dG l n).filter (gO k) = [] then ⟨1, [], [eS o l], [], false⟩
 else ⟨0, bD ((dG l n).filter (gO k)), [], [], false⟩
def fV (o : List UInt8) (l : List RSet) (k : Int) : Nat → Int → List UInt8 → StepR
 | 0, _, _ => ⟨0, [], [], [], false⟩
 | f + 1, c, n => if (cN o l n k c).more = true then
     ⟨(fV o l k f (c + 1) (cN o l n k c).next).kind, (cN o l n k c).ans ++ (fV o l k f (c + 1) (cN o l n k c).next).ans, (fV o l k f (c + 1) (cN o l n k c).next).auth, [], false⟩
   else cN o l n k c
structure AnsR where
 kind : Int
 ans : List Rec
 auth : List Rec
 extra : List Rec
 deriving DecidableEq, Inhabited
def HW : AnsR := ⟨0, [], [], []⟩
def uM (o : List UInt8) (l : List RSet) (q : List UInt8) : Int := if cH o l ≠ 0 then cH o l else eI q
def eZ (r : StepR) : List Rec := r.ans ++ if r.kind = 3 then r.auth else []
def yK (o : List UInt8) (l : List RSet) (q : List UInt8) (k : Int) : AnsR :=
 if uM o l q ≠ 0 then HW else
  ⟨(fV o l k 9 0 (fold q)).kind, (fV o l k 9 0 (fold q)).ans, (fV o l k 9 0 (fold q)).auth, CM l (eZ (fV o l k 9 0 (fold q)))⟩
theorem rV (n : List UInt8) : (aV (fold n)).isSome = (aV n).isSome := by
 cases h : aV n with
 | none =>
  have : fold n = n := by unfold fold; rw [h]
  rw [this, h]
 | some ls => rw [(oJ h).2.1]; rfl
theorem mT {s : RSet} (h : jU s = true) : 1 ≤ s.data.length ∧ s.data.length ≤ 20 := by
 simp only [jU, Bool.and_eq_true, decide_eq_true_eq] at h
 exact ⟨h.1.1.2, h.1.2⟩
def InZ (l : List RSet) (r : Rec) : Prop := (∃ s ∈ l, ∃ d ∈ s.data, r = pJ s d) ∨ vM l r.name = false
theorem InZ.opt {l : List RSet} {n : List UInt8} {k : Int} : ∀ r ∈ eY (cB l n k), InZ l r := by
 intro r hr
 cases hf : cB l n k with
 | none => rw [hf] at hr; cases hr
 | some s =>
  rw [hf] at hr
  obtain ⟨d, hd, rfl⟩ := List.mem_map.1 hr
  exact .inl ⟨s, (nF hf).1, d, hd, rfl⟩
theorem CN {l : List RSet} {m n : List UInt8} {s : RSet} (h : s ∈ FJ l m n) : ∃ t ∈ l, t.name = m ∧ s = ⟨n, t.kind, t.ttl, t.data⟩ := by
 unfold FJ at h
 obtain ⟨t, ht, rfl⟩ := List.mem_map.1 h
 obtain ⟨h1, h2⟩ := List.mem_filter.1 ht
 exact ⟨t, h1, by simpa using h2, rfl⟩
theorem InZ.at {l : List RSet} {n : List UInt8} {s : RSet} (h : s ∈ dG l n) : ∀ d ∈ s.data, InZ l (pJ s d) := by
 intro d hd
 unfold dG at h
 split at h
 ·obtain ⟨t, ht, h1, rfl⟩ := CN h
  exact .inl ⟨t, ht, d, hd, by simp [pJ, h1]⟩
 ·rename_i hn
  obtain ⟨t, ht, h1, rfl⟩ := CN h
  exact .inr (by simpa [pJ] using hn)
theorem qT {l : List RSet} {n : List UInt8} (h : (dG l n).any eJ = true) : cX l n ∈ dG l n ∧ (cX l n).kind = 5 ∧ (dG l n).find? eJ = some (cX l n) := by
 unfold cX
 cases hf : (dG l n).find? eJ with
 | none =>
  rw [List.find?_eq_none] at hf
  obtain ⟨s, hs, h1⟩ := List.any_eq_true.1 h
  exact absurd h1 (hf s hs)
 | some s =>
  have := List.find?_some hf
  exact ⟨List.mem_of_find?_eq_some hf, by simpa [eJ] using this, rfl⟩
theorem oN {l : List RSet} (h : dI l = 0) {n : List UInt8} {s : RSet} (hs : s ∈ dG l n) : ∃ t ∈ l, s.kind = t.kind ∧ s.ttl = t.ttl ∧ s.data = t.data ∧ s.name = n := by
 unfold dG at hs
 split at hs <;> (obtain ⟨t, ht, h1, rfl⟩ := CN hs; exact ⟨t, ht, rfl, rfl, rfl, rfl⟩)
theorem xH {l : List RSet} (h : dI l = 0) {s : RSet} (hs : s ∈ l) : jU s = true := by
 obtain ⟨i, hi, rfl⟩ := List.mem_iff_getElem.1 hs
 exact qS h hi
theorem mU {l : List RSet} (h : dI l = 0) {n : List UInt8} {s : RSet} (hs : s ∈ dG l n) : dM s ≠ [] ∧ s.data.length ≤ 20 ∧ 1 ≤ s.data.length := by
 obtain ⟨t, ht, _, _, h3, _⟩ := oN h hs
 have := mT (xH h ht)
 have h5 : s.data.length = t.data.length := by rw [h3]
 refine ⟨fun e => ?_, by omega, by omega⟩
 unfold dM at e
 rw [List.map_eq_nil_iff] at e
 rw [e] at h3
 have h4 := congrArg List.length h3
 simp at h4
 omega
def AppU (B : Nat) (o : List UInt8) (l : List RSet) (d : DeltaR) (q : Value) (w : World) : Prop := ∃ y, q = .tuple #[.agg #[aH (AT o l d), y], .int .i64 (oL o l d)] ∧ SetsO B w y (CL o l d)
theorem AppU.bad {B : Nat} {o : List UInt8} {l : List RSet} {d : DeltaR} {e : Int} {w : World} (h : oL o l d = e) (he : e ≠ 0) : AppU B o l d (.tuple #[.agg kR.toArray, .int .i64 e]) w := by
 refine ⟨.slice none 0 0, ?_, ?_⟩
 ·rw [AT, if_neg (by rw [h]; exact he), h]; rfl
 ·rw [CL, if_neg (by rw [h]; exact he)]; exact SetsO.nil _ _
def uN (r : Rec) : Bool := decide (r.kind = 6)
def fA (d : List UInt8) : SoaR := match cS d with | some s => s | none => zR
def HX (r : Rec) : Int := (fA r.data).serial
def sP : List Rec → Nat
 | [] => 0
 | r :: t => if uN r then 0 else sP t + 1
theorem uO : ∀ l : List Rec, sP l ≤ l.length
 | [] => Nat.le_refl _
 | r :: t => by
   rw [sP]
   split
   ·omega
   ·have := uO t
    rw [List.length_cons]; omega
def bN (l : List Rec) : Nat := 1 + sP (l.drop 1)
theorem kS {l : List Rec} (h : l ≠ []) : 1 ≤ bN l ∧ bN l ≤ l.length := by
 have := uO (l.drop 1)
 cases l with
 | nil => exact absurd rfl h
 | cons r t =>
  unfold bN
  simp only [List.drop_succ_cons, List.drop_zero, List.length_cons] at *
  omega
def yL : Rec := ⟨[], 0, 0, []⟩
def qU (l : List Rec) : Rec := l.headD yL
def jA (gone come : List Rec) : DeltaR := ⟨HX (qU gone), HX (qU come), gone, come⟩
structure ZE where
 e : Int
 o : List UInt8
 l : List RSet
def ZE.bad (e : Int) : ZE := ⟨e, [], []⟩
def KF : Nat → List UInt8 → List RSet → List Rec → ZE
 | 0, o, l, _ => ⟨0, o, l⟩
 | f + 1, o, l, rs =>
  if rs = [] then ⟨0, o, l⟩ else
  let gone := rs.take (bN rs)
  let rest := rs.drop (bN rs)
  if rest = [] then ZE.bad 2 else
  let come := rest.take (bN rest)
  if oL o l (jA gone come) = 0 then KF f (AT o l (jA gone come)) (CL o l (jA gone come)) (rest.drop (bN rest))
  else ZE.bad (if oL o l (jA gone come) = 5 then 2 else oL o l (jA gone come))
def vO (o : List UInt8) (l : List RSet) (rs : List Rec) : ZE := KF rs.length o l rs
theorem uP (f : Nat) (o : List UInt8) (l : List RSet) {rs : List Rec} (h : rs ≠ []) : KF (f + 1) o l rs =
 if rs.drop (bN rs) = [] then ZE.bad 2 else
 if oL o l (jA (rs.take (bN rs)) ((rs.drop (bN rs)).take (bN (rs.drop (bN rs))))) = 0 then
  KF f (AT o l (jA (rs.take (bN rs)) ((rs.drop (bN rs)).take (bN (rs.drop (bN rs)))))) (CL o l (jA (rs.take (bN rs)) ((rs.drop (bN rs)).take (bN (rs.drop (bN rs)))))) ((rs.drop (bN rs)).drop (bN (rs.drop (bN rs))))
 else ZE.bad (if oL o l (jA (rs.take (bN rs)) ((rs.drop (bN rs)).take (bN (rs.drop (bN rs))))) = 5 then 2 else oL o l (jA (rs.take (bN rs)) ((rs.drop (bN rs)).take (bN (rs.drop (bN rs)))))) := by
 rw [KF, if_neg h]
theorem DP : ∀ (f : Nat) (o : List UInt8) (l : List RSet), KF f o l [] = ⟨0, o, l⟩
 | 0, o, l => rfl
 | f + 1, o, l => by rw [KF, if_pos rfl]
theorem AU : ∀ (n f g : Nat) (o : List UInt8) (l : List RSet) (rs : List Rec), rs.length ≤ n → rs.length ≤ f → rs.length ≤ g → KF f o l rs = KF g o l rs
 | n, f, g, o, l, [], _, _, _ => by rw [DP, DP]
 | 0, f, g, o, l, r :: t, h, _, _ => by simp at h
 | n + 1, 0, g, o, l, r :: t, _, h, _ => by simp at h
 | n + 1, f + 1, 0, o, l, r :: t, _, _, h => by simp at h
 | n + 1, f + 1, g + 1, o, l, r :: t, hn, hf, hg => by
   have h1 := kS (l := r :: t) (by simp)
   rw [uP f o l (by simp), uP g o l (by simp)]
   by_cases hr : (r :: t).drop (bN (r :: t)) = []
   ·rw [if_pos hr, if_pos hr]
   ·rw [if_neg hr, if_neg hr]
    have h2 := kS hr
    have h3 : (((r :: t).drop (bN (r :: t))).drop (bN ((r :: t).drop (bN (r :: t))))).length ≤ t.length := by
     have e1 : ((r :: t).drop (bN (r :: t))).length = (r :: t).length - bN (r :: t) := List.length_drop ..
     rw [List.length_drop, e1]
     simp only [List.length_cons] at h1 ⊢
     omega
    simp only [List.length_cons] at hn hf hg
    rw [AU n f g _ _ _ (by omega) (by omega) (by omega)]
theorem HY (o : List UInt8) (l : List RSet) : vO o l [] = ⟨0, o, l⟩ := rfl
theorem FK (o : List UInt8) (l : List RSet) {rs : List Rec} (h : rs ≠ []) : vO o l rs =
 if rs.drop (bN rs) = [] then ZE.bad 2 else
 if oL o l (jA (rs.take (bN rs)) ((rs.drop (bN rs)).take (bN (rs.drop (bN rs))))) = 0 then
  vO (AT o l (jA (rs.take (bN rs)) ((rs.drop (bN rs)).take (bN (rs.drop (bN rs)))))) (CL o l (jA (rs.take (bN rs)) ((rs.drop (bN rs)).take (bN (rs.drop (bN rs)))))) ((rs.drop (bN rs)).drop (bN (rs.drop (bN rs))))
 else ZE.bad (if oL o l (jA (rs.take (bN rs)) ((rs.drop (bN rs)).take (bN (rs.drop (bN rs))))) = 5 then 2 else oL o l (jA (rs.take (bN rs)) ((rs.drop (bN rs)).take (bN (rs.drop (bN rs)))))) := by
 cases rs with
 | nil => exact absurd rfl h
 | cons r t =>
  have h1 := kS (l := r :: t) (by simp)
  conv => lhs; unfold vO
  rw [List.length_cons, uP _ _ _ h]
  by_cases hr : (r :: t).drop (bN (r :: t)) = []
  ·rw [if_pos hr, if_pos hr]
  ·rw [if_neg hr, if_neg hr]
   have h2 := kS hr
   have h3 : (((r :: t).drop (bN (r :: t))).drop (bN ((r :: t).drop (bN (r :: t))))).length ≤ t.length := by
    have e1 : ((r :: t).drop (bN (r :: t))).length = (r :: t).length - bN (r :: t) := List.length_drop ..
    rw [List.length_drop, e1]
    simp only [List.length_cons] at h1 ⊢
    omega
   unfold vO
   rw [AU _ _ _ _ _ _ (Nat.le_refl _) h3 (Nat.le_refl _)]
def rW (oo : List UInt8) (lo : List RSet) (og : List UInt8) (l : List Rec) : ZE :=
 if uN (l.getD 1 yL) = false then ⟨iF og l.dropLast, mR og l.dropLast, mS og l.dropLast⟩ else
 if lo = [] then ZE.bad 5 else vO oo lo (l.dropLast.drop 1)
def rX (oo : List UInt8) (lo : List RSet) (og : List UInt8) (l : List Rec) : ZE :=
 if eI og ≠ 0 ∨ l.any (fun r => !decide (bI r = 0)) = true then ZE.bad 1 else
 if l = [] then ZE.bad 2 else
 if uN (qU l) = false ∨ fold (qU l).name ≠ fold og then ZE.bad 2 else
 if l.length = 1 then ZE.bad 5 else
 if l.length = 2 ∨ l.getD (l.length - 1) yL ≠ qU l then ZE.bad 3 else
 let q := rW oo lo og l
 if q.e ≠ 0 then ZE.bad q.e else
 if (eF q.o q.l).serial ≠ HX (qU l) then ZE.bad 2 else
 if lo ≠ [] ∧ oM (eF q.o q.l).serial (eF oo lo).serial = false then ZE.bad 7 else q
theorem xI {o : List UInt8} {l : List Rec} (h : iF o l = 0) : ZoneOk (mR o l) (mS o l) := by
 have h0 := h
 unfold iF at h
 split at h
 ·rw [mR, if_pos h0, mS, if_pos h0]; exact jM h
 ·rename_i q; exact absurd h q
theorem uQ {o : List UInt8} {l : List Rec} (h : iF o l = 0) : mR o l = fold o := by rw [mR, if_pos h]
theorem HZ {o : List UInt8} {l : List RSet} {d : DeltaR} (h : oL o l d = 0) : ZoneOk (AT o l d) (CL o l d) ∧ AT o l d = o := by
 have h0 := h
 unfold oL at h
 split at h
 ·rename_i q0
  split at h
  ·cases hx : DN (bD l) d with
   | none => rw [hx] at h; cases h
   | some m =>
    rw [hx] at h
    simp only at h
    unfold OT at h
    split at h
    ·rename_i q1
     have hz := xI q1
     rw [AT, if_pos h0, CL, if_pos h0, hx]
     simp only [Option.getD_some]
     refine ⟨hz, ?_⟩
     rw [uQ q1]
     exact (jM q0).fold
    ·rename_i q1; exact absurd h q1
  ·cases h
 ·rename_i q; exact absurd h q
theorem AV : ∀ (n : Nat) (rs : List Rec), rs.length ≤ n → ∀ (o : List UInt8) (l : List RSet), (vO o l rs).e = 0 → rs ≠ [] → ZoneOk (vO o l rs).o (vO o l rs).l ∧ (vO o l rs).o = o
 | 0, rs, hn, o, l, h, hne => by
   have : rs = [] := List.eq_nil_of_length_eq_zero (by omega)
   exact absurd this hne
 | n + 1, rs, hn, o, l, h, hne => by
   have h1 := kS hne
   rw [FK o l hne] at h ⊢
   split at h
   ·cases h
   ·rename_i hr
    have h2 := kS hr
    rw [if_neg hr]
    split at h
    ·rename_i ha
     rw [if_pos ha]
     obtain ⟨z1, z2⟩ := HZ ha
     by_cases hq : (rs.drop (bN rs)).drop (bN (rs.drop (bN rs))) = []
     ·rw [hq, HY]
      exact ⟨z1, z2⟩
     ·obtain ⟨a, b⟩ := AV n _ (by simp only [List.length_drop] at *; omega) _ _ h hq
      exact ⟨a, b.trans z2⟩
    ·rename_i ha
     split at h
     ·cases h
     ·exact absurd h ha
theorem KG {oo : List UInt8} {lo : List RSet} {og : List UInt8} {l : List Rec} (h : (rX oo lo og l).e = 0) :
 ZoneOk (rX oo lo og l).o (rX oo lo og l).l ∧ ((lo = [] ∨ oo = fold og) → (rX oo lo og l).o = fold og) ∧ (lo ≠ [] → oM (eF (rX oo lo og l).o (rX oo lo og l).l).serial (eF oo lo).serial = true) := by
 unfold rX at h ⊢
 split at h
 ·cases h
 ·rename_i c1
  rw [if_neg c1]
  split at h
  ·cases h
  ·rename_i c2
   rw [if_neg c2]
   split at h
   ·cases h
   ·rename_i c3
    rw [if_neg c3]
    split at h
    ·cases h
    ·rename_i c4
     rw [if_neg c4]
     split at h
     ·cases h
     ·rename_i c5
      rw [if_neg c5]
      simp only at h ⊢
      split at h
      ·rename_i c6; exact absurd h c6
      ·rename_i c6
       rw [if_neg c6]
       split at h
       ·cases h
       ·rename_i c7
        rw [if_neg c7]
        split at h
        ·cases h
        ·rename_i c8
         rw [if_neg c8]
         have hz : ZoneOk (rW oo lo og l).o (rW oo lo og l).l ∧ ((lo = [] ∨ oo = fold og) → (rW oo lo og l).o = fold og) := by
          have h6 : (rW oo lo og l).e = 0 := by simpa using c6
          unfold rW at h6 ⊢
          split at h6
          ·rename_i d1
           rw [if_pos d1]
           exact ⟨xI h6, fun _ => uQ h6⟩
          ·rename_i d1
           rw [if_neg d1]
           split at h6
           ·cases h6
           ·rename_i d2
            rw [if_neg d2]
            have hl : 2 < l.length := by
             have n0 : l.length ≠ 0 := fun e => c2 (List.eq_nil_of_length_eq_zero e)
             have n2 : l.length ≠ 2 := fun e => c5 (.inl e)
             omega
            obtain ⟨a, b⟩ := AV _ _ (Nat.le_refl _) oo lo h6 (by
             intro e
             have := congrArg List.length e
             simp at this
             omega)
            exact ⟨a, fun hh => by rcases hh with hh | hh; exact absurd hh d2; exact b.trans hh⟩
         refine ⟨hz.1, hz.2, fun hne => ?_⟩
         cases hb : oM (eF (rW oo lo og l).o (rW oo lo og l).l).serial (eF oo lo).serial with
         | true => rfl
         | false => exact absurd ⟨hne, hb⟩ c8
structure SecR where
 og : List UInt8
 retry : Int
 z : Option (List UInt8 × List RSet)
 next : Int
 til : Int
 take : Bool
def SecR.soa (s : SecR) : SoaR := match s.z with | none => ⟨[], [], 0, s.retry, s.retry, 0, 0⟩ | some z => eF z.1 z.2
def SecR.o (s : SecR) : List UInt8 := match s.z with | none => [] | some z => z.1
def SecR.l (s : SecR) : List RSet := match s.z with | none => [] | some z => z.2
def CO (n : Int) : Bool := decide (0 ≤ n) && decide (n ≤ 1099511627776)
def SecR.news (s : SecR) (n : Int) : Bool := s.z.isNone || oM n s.soa.serial
def SecR.failed (s : SecR) (now : Int) : SecR := if CO now = true then { s with take := false, next := now + s.soa.retry } else s
def SecR.fresh (s : SecR) (now : Int) : SecR := { s with take := false, next := now + s.soa.refresh, til := now + s.soa.expire }
def SecR.inst (s : SecR) (l : List Rec) : ZE := rX s.o s.l s.og l
def SecR.withZ (s : SecR) (q : ZE) : SecR := { s with z := some (q.o, q.l) }
def SecR.got (s : SecR) (l : List Rec) (now : Int) : SecR :=
 if CO now = false then s else
 if (s.inst l).e = 5 ∧ s.z.isSome = true then s.fresh now else
 if (s.inst l).e ≠ 0 then s.failed now else (s.withZ (s.inst l)).fresh now
def SecR.up (s : SecR) (now : Int) : Bool := CO now && (s.z.isSome && decide (now < s.til))
def OW (og : List UInt8) (retry : Int) : Int := if eI og ≠ 0 ∨ retry < 1 ∨ 2147483647 < retry then 1 else 0
def CP (og : List UInt8) (retry : Int) : SecR := ⟨og, retry, none, 0, 0, false⟩
structure SecOk (s : SecR) : Prop where
 og : eI s.og = 0
 retry : 1 ≤ s.retry ∧ s.retry ≤ 2147483647
 zone : ∀ o l, s.z = some (o, l) → ZoneOk o l ∧ o = fold s.og
theorem KH {o : List UInt8} {l : List RSet} (h : ZoneOk o l) : (eF o l).ok = true := by
 obtain ⟨s, _, _, _, _, _, hp, _⟩ := h.soaSet
 rw [eF, if_pos (mO h)]
 exact HR hp
theorem FL {o : List UInt8} {l : List RSet} (h : ZoneOk o l) : 0 ≤ (eF o l).serial ∧ (eF o l).serial ≤ 4294967295 ∧ 0 ≤ (eF o l).refresh ∧ (eF o l).refresh ≤ 2147483647 ∧ 0 ≤ (eF o l).retry ∧ (eF o l).retry ≤ 2147483647 ∧ 0 ≤ (eF o l).expire ∧ (eF o l).expire ≤ 2147483647 := by
 have := KH h
 simp only [SoaR.ok, iD, Bool.and_eq_true, decide_eq_true_eq] at this
 omega
theorem ZoneOk.ne {o : List UInt8} {l : List RSet} (h : ZoneOk o l) : l ≠ [] := by
 rintro rfl
 have := h.soa
 simp [cB] at this
theorem SecOk.soa {s : SecR} (h : SecOk s) : 0 ≤ s.soa.refresh ∧ s.soa.refresh ≤ 2147483647 ∧ 0 ≤ s.soa.retry ∧ s.soa.retry ≤ 2147483647 ∧ 0 ≤ s.soa.expire ∧ s.soa.expire ≤ 2147483647 := by
 have hr := h.retry
 unfold SecR.soa
 split
 ·simp only; omega
 ·rename_i z hz
  have := FL (h.zone z.1 z.2 hz).1
  omega
theorem SecOk.old {s : SecR} (h : SecOk s) : (s.l = [] ↔ s.z = none) ∧ (s.l = [] ∨ s.o = fold s.og) := by
 unfold SecR.l SecR.o
 split
 ·rename_i hz; simp [hz]
 ·rename_i z hz
  have := h.zone z.1 z.2 hz
  refine ⟨⟨fun e => absurd e this.1.ne, fun e => by rw [hz] at e; cases e⟩, .inr this.2⟩
theorem SecOk.of {s t : SecR} (h : SecOk s) (h1 : t.og = s.og) (h2 : t.retry = s.retry) (h3 : t.z = s.z) : SecOk t := ⟨by rw [h1]; exact h.og, by rw [h2]; exact h.retry, by rw [h1, h3]; exact h.zone⟩
theorem SecOk.new {og : List UInt8} {retry : Int} (h : OW og retry = 0) : SecOk (CP og retry) := by
 unfold OW at h
 split at h
 ·cases h
 ·rename_i c
  refine ⟨?_, ?_, ?_⟩
  ·unfold CP; simp only
   exact Decidable.byContradiction fun e => c (.inl e)
  ·unfold CP; simp only
   omega
  ·intro o l e; cases e
theorem SecOk.failed {s : SecR} (h : SecOk s) (now : Int) : SecOk (s.failed now) := by
 unfold SecR.failed; split <;> first | exact h | exact h.of rfl rfl rfl
theorem SecOk.fresh {s : SecR} (h : SecOk s) (now : Int) : SecOk (s.fresh now) := h.of rfl rfl rfl
theorem SecOk.inst {s : SecR} (h : SecOk s) {l : List Rec} (he : (s.inst l).e = 0) : ZoneOk (s.inst l).o (s.inst l).l ∧ (s.inst l).o = fold s.og ∧ (∀ o l', s.z = some (o, l') → oM (eF (s.inst l).o (s.inst l).l).serial (eF o l').serial = true) := by
 obtain ⟨a, b, c⟩ := KG (oo := s.o) (lo := s.l) (og := s.og) he
 obtain ⟨h1, h2⟩ := h.old
 refine ⟨a, b h2, fun o l' hz => ?_⟩
 have := c (fun e => by rw [h1.1 e] at hz; cases hz)
 unfold SecR.o SecR.l at this
 rw [hz] at this
 unfold SecR.inst SecR.o SecR.l
 rw [hz]
 exact this
theorem SecOk.got {s : SecR} (h : SecOk s) (l : List Rec) (now : Int) : SecOk (s.got l now) := by
 unfold SecR.got
 split
 ·exact h
 ·split
  ·exact h.fresh now
  ·split
   ·exact h.failed now
   ·rename_i c
    obtain ⟨a, b, _⟩ := h.inst (l := l) (by simpa using c)
    refine SecOk.fresh (s := s.withZ (s.inst l)) ⟨h.og, h.retry, ?_⟩ now
    intro o l' e
    simp only [SecR.withZ, Option.some.injEq, Prod.mk.injEq] at e
    obtain ⟨rfl, rfl⟩ := e
    exact ⟨a, b⟩
section
variable {P : Program} {a : Act} {w : World} {d : Option Nat} {ty : TypeId} {ps : String} {af : Array Edge} {g : Option (Nat × Bool)}
theorem Runs.dropSU {t : TypeId} {x lo : Operand} {l : List UInt8} {m : Nat} (hx : a.eval x = aH l) (h1 : a.eval lo = .int .u8 (m : Nat)) (hm : m ≤ l.length) (ht : iB P t = true) :
 Runs P (Oper.mk d (.slice t x (some lo) none none) ty ps af g) a w (aH (l.drop m)) := by
 constructor
 simp [execOp, hx, h1, aH, Instr.sliceAt, Instr.slice, run_underlying (dW ht), Instr.sliceBounds, Instr.sliceBound, asIntOf, eE, -ByteArray.size_data, hm, lC]
end
theorem AW (nm : List UInt8) (w : World) : Calls Tryz.prog 63 #[aH nm] w (oT w fun v w' => Own w.heap.size 1 9 w' v (aS ((aV nm).getD []))) := by
 go_enter Tryz.func63, Tryz.ntmps63
 (repeat' first | ((with_reducible refine aJ ?_); go_step) | ((with_reducible refine aI ?_); first | refine bM ?_ | (refine aL ?_ ?_ <;> intro hc)) | fail)
 refine aR (enters_of Tryz.func69 rfl rfl) rfl rfl (PH nm _) ?_
 intro v w1 x1 hv
 cases hl : aV nm with
 | none =>
  rw [hl] at hv
  subst hv
  (repeat' first | ((with_reducible refine aJ ?_); go_step) | ((with_reducible refine aI ?_); first | refine bM ?_ | (refine aL ?_ ?_ <;> intro hc)) | fail)
  go_ret
  exact ⟨_, rfl, x1, by rw [hl]; exact Own.nil _ _ _ _⟩
 | some ls =>
  rw [hl] at hv
  obtain ⟨s, rfl, hs⟩ := hv
  (repeat' first | ((with_reducible refine aJ ?_); go_step) | ((with_reducible refine aI ?_); first | refine bM ?_ | (refine aL ?_ ?_ <;> intro hc)) | fail)
  go_ret
  exact ⟨_, rfl, x1, by rw [hl]; exact hs⟩
theorem IA {nm x : List UInt8} {t : List (List UInt8)} (w : World) (h : aV nm = some (x :: t)) : Calls Tryz.prog 175 #[aH nm] w (bO w (.tuple #[aH (enc t), .int .i64 0])) := by
 obtain ⟨h1, h2, h3⟩ := eA h
 have hx63 : x.length ≤ 63 := by simp [jF] at h1; omega
 have e : nm = UInt8.ofNat x.length :: (x ++ enc t) := by rw [← h2]; simp [enc]
 have hlen : 0 < nm.length := by rw [e]; simp
 have h0 : nm.getD 0 0 = UInt8.ofNat x.length := by rw [e]; rfl
 have hne : nm ≠ [] := by intro e0; rw [e0] at hlen; cases hlen
 have hn0 : (nm.getD 0 0).toNat = x.length := by rw [h0]; simp; omega
 have hdr : nm.drop (x.length + 1) = enc t := by rw [e]; simp
 have hl : x.length + 1 ≤ nm.length := by rw [e]; simp
 have hsome : (aV nm).isSome = true := by rw [h]; rfl
 go_enter Tryz.func175, Tryz.ntmps175
 (repeat' first | ((with_reducible refine aJ ?_); go_step) | ((with_reducible refine aI ?_); first | refine bM ?_ | (refine aL ?_ ?_ <;> intro hc)) | fail)
 refine aE (enters_of Tryz.func65 rfl rfl) rfl rfl (MH nm _) ?_; intro w1 x1; refine aA ?_
 rw [if_pos hsome]
 (repeat' first | ((with_reducible refine aJ ?_); go_step) | ((with_reducible refine aI ?_); first | refine bM ?_ | (refine aL ?_ ?_ <;> intro hc)) | fail)
 refine aN (Runs.dropSU (l := nm) (m := x.length + 1) rfl ?_ hl (by decide +kernel)) ?_
 ·show Value.int .u8 (IntKind.wrap .u8 (((nm.getD 0 0).toNat : Nat) + 1)) = _
  rw [hn0]
  congr 1
  simp only [IntKind.wrap, IntKind.bits, IntKind.signed]
  simp
  omega
 ·refine aA ?_
  rw [hdr]
  (repeat' first | ((with_reducible refine aJ ?_); go_step) | ((with_reducible refine aI ?_); first | refine bM ?_ | (refine aL ?_ ?_ <;> intro hc)) | fail)
  go_ret2
  exact ⟨rfl, x1⟩
def uR (r : Rec) : Value := .agg #[aH r.name, .int .i64 r.kind, .int .i64 r.ttl, aH r.data]
theorem qV {o : List UInt8} {l : List RSet} (h : ZoneOk o l) : ∀ s ∈ l, s.data.length ≤ 1000000 := fun s hs => by
 have := mT (h.may hs); omega
theorem lN {o : List UInt8} {l : List RSet} (h : ZoneOk o l) : ∀ s ∈ l, ∀ d ∈ s.data, d.length ≤ 4611686018427387904 := fun s hs d hd => by
 obtain ⟨i, hi, rfl⟩ := List.mem_iff_getElem.1 hd
 have := mP (CI (h.may hs) hi)
 simp only at this
 omega
theorem uS {o : List UInt8} {l : List RSet} (h : ZoneOk o l) : l.length ≤ 200 := by
 have := h.chk
 unfold dI at this
 split at this
 ·cases this
 ·omega
set_option maxHeartbeats 3000000 in
theorem IB (o : List UInt8) (v : Value) (l : List RSet) (w : World) (hv : SetsAt w v l) (hz : ZoneOk o l) : Calls Tryz.prog 176 #[.agg #[aH o, v]] w (bO w (.tuple #[uR (eS o l), .int .i64 0])) := by
 have hb := qV hz
 have hd := lN hz
 have hzr := mO hz
 obtain ⟨s, hf, hs, hn, hk, hdat, hpar, hlen⟩ := hz.soaSet
 have hden : eS o l = ⟨s.name, s.kind, min s.ttl (eF o l).minimum, mA o l⟩ := by rw [eS, hf, hn, hk]; rfl
 go_enter Tryz.func176, Tryz.ntmps176
 repeat' (first | ((with_reducible refine aJ ?_); go_step) | fail)
 refine bR (vs := [aH o, v]) rfl rfl ?_
 intro p w1 x1 hp
 refine aA ?_
 refine aP (z := KC) rfl (by decide +kernel) ?_
 intro w2 x2 s2 h2
 refine aA ?_
 have hx2 := x1.trans x2
 have hp2 := hp.ext x2
 have hv2 := hv.ext hx2
 (repeat' first | ((with_reducible refine aJ ?_); go_step) | ((with_reducible refine aI ?_); first | refine bM ?_ | (refine aL ?_ ?_ <;> intro hc)) | fail)
 refine aE (enters_of Tryz.func213 rfl rfl) rfl rfl (OL o v l _ hv2 hb hd) ?_; intro w3 x3; refine aA ?_
 have h3 := x3.at h2
 have hp3 := hp2.ext x3
 have hv3 := hv2.ext x3
 rw [hzr]
 (repeat' first | ((with_reducible refine aJ ?_); go_step) | ((with_reducible refine aI ?_); first | refine bM ?_ | (refine aL ?_ ?_ <;> intro hc)) | fail)
 refine aP (z := cK) rfl (by decide +kernel) ?_
 intro w4 x4 s4 h4
 refine aA ?_
 refine aG (v := .agg (eF o l).cells.toArray) rfl rfl rfl h4 (show aX Tryz.prog 160 7 = true by decide +kernel) rfl (uG _) ?_
 intro w5 p5
 have x5 : Ext w3 w5 := x4.move p5.mv (by rintro k ⟨⟩; exact Nat.le_refl _)
 have h5 := x5.at h3
 have hs5 := aD (cs := (eF o l).cells) p5.this
 have hp5 := hp3.ext x5
 have hv5 := hv3.ext x5
 have hx5 := hx2.trans (x3.trans x5)
 clear p5 h4 x4
 (repeat' first | ((with_reducible refine aJ ?_); go_step) | ((with_reducible refine aI ?_); first | refine bM ?_ | (refine aL ?_ ?_ <;> intro hc)) | fail)
 refine aR (enters_of Tryz.func112 rfl rfl) rfl rfl (NU v l o 6 _ hv5 (fun s hs => by have := hb s hs; omega)) ?_
 intro r6 w6 x6 hr6
 rw [hf] at hr6
 obtain ⟨y, rfl, oy⟩ := hr6
 have h6 := x6.at h5
 have hs6 := hs5.ext x6
 (repeat' first | ((with_reducible refine aJ ?_); go_step) | ((with_reducible refine aI ?_); first | refine bM ?_ | (refine aL ?_ ?_ <;> intro hc)) | fail)
 refine aP (z := mN) rfl (by decide +kernel) ?_
 intro w7 x7 s7 h7
 refine aA ?_
 refine aG (v := .agg #[aH s.name, .int .i64 s.kind, .int .i64 s.ttl, y]) rfl rfl rfl h7 (show aX Tryz.prog 131 4 = true by decide +kernel) rfl (iI rfl rfl rfl oy.one) ?_
 intro w8 p8
 have x8 : Ext w6 w8 := x7.move p8.mv (by rintro k ⟨⟩; exact Nat.le_refl _)
 have b8 : w8.heap[w6.heap.size]? = some (.cells [aH s.name, .int .i64 s.kind, .int .i64 s.ttl, y].toArray 131 (0, 0)) := p8.this
 have hp8 := aD b8
 have h8 := x8.at h6
 have hs8 := hs6.ext x8
 have hy8 := oy.sl.ext x8
 have hx8 := hx5.trans (x6.trans x8)
 clear p8 h7 x7
 (repeat' first | ((with_reducible refine aJ ?_); go_step) | ((with_reducible refine aI ?_); first | refine bM ?_ | (refine aL ?_ ?_ <;> intro hc)) | fail)
 refine aO (n := 2) b8 rfl rfl rfl (by simp) (by decide +kernel) rfl ?_
 intro w9 p9
 have b9 : w9.heap[w6.heap.size]? = some (.cells [aH s.name, .int .i64 s.kind, .int .i64 (min s.ttl (eF o l).minimum), y].toArray 131 (0, 0)) := p9.this
 have z6 : w.heap.size ≤ w6.heap.size := (hx5.trans x6).size
 have x9 : Ext w w9 := hx8.move p9.mv (by rintro k ⟨⟩; exact z6)
 have zlt : w1.heap.size < w6.heap.size := by
  have a1 := (Array.getElem?_eq_some_iff.1 h6).1
  exact a1
 have h9 : w9.heap[w1.heap.size]? = some (.cells KC.toArray 106 (0, 0)) := (p9.other _ (by omega)).trans h8
 have hy9 := ((oy.ext x8).mv p9.mv (.inr ((oy.ext x8).neBlock b8 (by decide)))).sl
 have hp9 := aD b9
 clear p9 b8 hp8 h8 hy8
 (repeat' first | ((with_reducible refine aJ ?_); go_step) | ((with_reducible refine aI ?_); first | refine bM ?_ | (refine aL ?_ ?_ <;> intro hc)) | fail)
 refine bK (e := 131) (k := 4) (bytes := 56) (xs := [.agg #[aH s.name, .int .i64 s.kind, .int .i64 (min s.ttl (eF o l).minimum), y]]) rfl rfl rfl (by simp [Value.cells]) (by decide +kernel) (by simp) ?_
 intro v10 w10 x10 _ sl10 _
 refine aA ?_
 have hs10 : SetsAt w10 v10 [⟨s.name, s.kind, min s.ttl (eF o l).minimum, s.data⟩] := (SetsC.one (s := ⟨s.name, s.kind, min s.ttl (eF o l).minimum, s.data⟩) (hy9.ext x10)).sets sl10
 (repeat' first | ((with_reducible refine aJ ?_); go_step) | ((with_reducible refine aI ?_); first | refine bM ?_ | (refine aL ?_ ?_ <;> intro hc)) | fail)
 have hrec : bD [⟨s.name, s.kind, min s.ttl (eF o l).minimum, s.data⟩] = [eS o l] := by rw [jO, hden, dM, hdat]; rfl
 refine aR (enters_of Tryz.func119 rfl rfl) rfl rfl (OI v10 _ _ hs10 (by rw [hrec]; simp)) ?_
 intro r11 w11 x11 o11
 rw [hrec] at o11
 refine aA ?_
 have sl11 := o11.sl
 have el11 := sl11.elem (i := 0) (e := [aH (eS o l).name, .int .i64 (eS o l).kind, .int .i64 (eS o l).ttl, aH (eS o l).data]) rfl
 have hl11 : (aT [eS o l]).length = 1 := rfl
 have h11 := (x10.trans x11).at h9
 have x911 := x9.trans (x10.trans x11)
 (repeat' first | ((with_reducible refine aJ ?_); go_step) | ((with_reducible refine aI ?_); first | refine bM ?_ | (refine aL ?_ ?_ <;> intro hc)) | fail)
 refine aG (v := uR (eS o l)) rfl rfl rfl h11 (show aX Tryz.prog 106 4 = true by decide +kernel) rfl (iI rfl rfl rfl rfl) ?_
 intro w12 p12
 have x12 : Ext w w12 := x911.move p12.mv (by rintro k ⟨⟩; exact x1.size)
 (repeat' first | ((with_reducible refine aJ ?_); go_step) | ((with_reducible refine aI ?_); first | refine bM ?_ | (refine aL ?_ ?_ <;> intro hc)) | fail)
 refine bodyPost_ret (bH (cs := [aH (eS o l).name, .int .i64 (eS o l).kind, .int .i64 (eS o l).ttl, aH (eS o l).data]) rfl rfl p12.this (show dS Tryz.prog 106 4 = true by decide +kernel)) rfl ⟨rfl, x12⟩
theorem IC (k : Int) (d : List UInt8) : (fold (bE k d).1).length ≤ 254 := by
 have h0 : (fold []).length ≤ 254 := pK [] rfl
 unfold bE
 split
 ·exact h0
 ·split
  ·exact h0
  ·split
   ·exact h0
   ·rename_i n hn
    unfold gX at hn
    split at hn
    ·rename_i hh
     cases hn
     exact pK _ hh.2
    ·cases hn
theorem uT {l : List RSet} {rs : List Rec} {k : Nat} (h : k < rs.length) : eL l (rs.take (k + 1)) = iP l (eL l (rs.take k)) rs[k] := by
 rw [List.take_succ_eq_append_getElem h, eL, List.foldl_append]; rfl
theorem gP {l : List RSet} (hb : ∀ s ∈ l, s.data.length ≤ 20) (n : List UInt8) (k : Int) : (eY (cB l n k)).length ≤ 20 := by
 cases hf : cB l n k with
 | none => simp [eY]
 | some s => simp only [eY, dM, List.length_map]; exact hb s (nF hf).1
theorem xJ {l : List RSet} (hb : ∀ s ∈ l, s.data.length ≤ 20) (rs : List Rec) : ∀ k, k ≤ rs.length → (eL l (rs.take k)).2.length ≤ 40 * k
 | 0, _ => by simp [eL]
 | k + 1, h => by
   rw [uT h]
   have ih := xJ hb rs k (by omega)
   unfold iP
   split
   ·omega
   ·have a1 := gP hb (fold (bE rs[k].kind rs[k].data).1) 1
    have a2 := gP hb (fold (bE rs[k].kind rs[k].data).1) 28
    simp only [List.length_append]
    omega
def rY (ns : List (List UInt8)) : List (Value × Value) := ns.map fun n => (aH n, .bool true)
theorem ID {ns : List (List UInt8)} {n : List UInt8} {i : Nat} {v : Value} (h : (rY ns)[i]? = some (aH n, v)) : n ∈ ns ∧ v = .bool true := by
 rw [rY, List.getElem?_map] at h
 cases hi : ns[i]? with
 | none => rw [hi] at h; cases h
 | some m =>
  rw [hi] at h
  simp only [Option.map_some, Option.some.injEq, Prod.mk.injEq, aH, Value.string.injEq, ByteArray.mk.injEq] at h
  have : m = n := by simpa using h.1
  exact ⟨this ▸ List.mem_of_getElem? hi, h.2.symm⟩
theorem KI {ns : List (List UInt8)} {n : List UInt8} (h : ∀ (i : Nat) (e : Value × Value), (rY ns)[i]? = some e → e.1 ≠ aH n) : n ∉ ns := by
 intro hm
 obtain ⟨i, hi, rfl⟩ := List.mem_iff_getElem.1 hm
 exact h i (aH ns[i], .bool true) (by simp [rY, hi]) rfl
theorem LQ : WideMaps.KeyLaw Tryz.prog 47 := WideMaps.string_law Tryz.underlying47
theorem KJ (n : List UInt8) (hn : n.length ≤ 1000000) : ∃ l, keyOf Tryz.prog 47 (aH n) = some l :=
 ⟨_, WideMaps.keyOf_string_mk Tryz.underlying47 (by rw [eE]; unfold maxLen; omega)⟩
def pZ (l : List RSet) (n : List UInt8) (j : Nat) : List Rec := ((([1, 28] : List Int).take j).map fun k => eY (cB l n k)).flatten
theorem IE (l : List RSet) (n : List UInt8) : pZ l n 2 = eY (cB l n 1) ++ eY (cB l n 28) := by simp [pZ]
set_option maxHeartbeats 8000000 in
theorem DQ (o : List UInt8) (v u : Value) (l : List RSet) (rs : List Rec) (w : World) (hv : SetsAt w v l) (hu : Sl 4 w u (aT rs)) (hz : ZoneOk o l) (hr : rs.length ≤ 10000) (hd : ∀ r ∈ rs, r.data.length ≤ 9223372036854775807) :
 Calls Tryz.prog 68 #[.agg #[aH o, v], u] w (oT w fun r w' => Own w.heap.size 4 106 w' r (aT (CM l rs))) := by
 have hb20 : ∀ s ∈ l, s.data.length ≤ 20 := fun s hs => (mT (hz.may hs)).2
 have hb := qV hz
 have hle := bA rs
 go_enter Tryz.func68, Tryz.ntmps68
 repeat' (first | ((with_reducible refine aJ ?_); go_step) | fail)
 refine bR (vs := [aH o, v]) rfl rfl ?_
 intro p w1 x1 hp
 refine aA ?_
 (repeat' first | ((with_reducible refine aJ ?_); go_step) | ((with_reducible refine aI ?_); first | refine bM ?_ | (refine aL ?_ ?_ <;> intro hc)) | fail)
 refine mG (kt := 47) rfl ?_
 intro w2 x2 s2 hm2
 refine aA ?_
 (repeat' first | ((with_reducible refine aJ ?_); go_step) | ((with_reducible refine aI ?_); first | refine bM ?_ | (refine aL ?_ ?_ <;> intro hc)) | fail)
 go_loopw [5, 8, 9, 10, 12, 13, 14, 18] (fun out _ _ _ _ _ _ i wr => ∃ k : Nat, k ≤ rs.length ∧ i = .int .i64 k ∧ Ext w1 wr ∧ MapAt Tryz.prog 47 wr w1.heap.size (rY (eL l (rs.take k)).1) ∧ Own w1.heap.size 4 106 wr out (aT (eL l (rs.take k)).2)) (fun _ _ _ _ _ _ _ i _ => rs.length - (intOf i).toNat)
 case atStart => exact ⟨0, Nat.zero_le _, rfl, x2, hm2, Own.nil _ _ _ _⟩
 case round =>
  obtain ⟨k, hk, rfl, hx, hm, ho⟩ := hrel
  have hur := (hu.ext x1).ext hx
  by_cases hlt : k < rs.length
  ·have h4 := hur.elem (gN hlt)
   (repeat' first | ((with_reducible refine aJ ?_); go_step) | ((with_reducible refine aI ?_); first | refine bM ?_ | (refine aL ?_ ?_ <;> intro hc)) | fail)
   refine aP (z := KC) rfl (by decide +kernel) ?_
   intro w3 x3 s3 h3
   refine aA ?_
   refine aG (v := .agg #[aH rs[k].name, .int .i64 rs[k].kind, .int .i64 rs[k].ttl, aH rs[k].data]) rfl rfl rfl h3 (show aX Tryz.prog 106 4 = true by decide +kernel) rfl (iI rfl rfl rfl rfl) ?_
   intro w4 p4
   have x4 : Ext wr w4 := x3.move p4.mv (by rintro k ⟨⟩; exact Nat.le_refl _)
   have h4' := aD (cs := [aH rs[k].name, .int .i64 rs[k].kind, .int .i64 rs[k].ttl, aH rs[k].data]) p4.this
   have hx4 := hx.trans x4
   have hm4 := hm.at (fun o ho => x4.at ho)
   have ho4 := ho.ext x4
   clear p4 h3 x3
   (repeat' first | ((with_reducible refine aJ ?_); go_step) | ((with_reducible refine aI ?_); first | refine bM ?_ | (refine aL ?_ ?_ <;> intro hc)) | fail)
   refine aE (enters_of Tryz.func105 rfl rfl) rfl rfl (PI rs[k].kind rs[k].data _ (hd _ (List.getElem_mem hlt))) ?_; intro w5 x5; refine aA ?_
   have h5 := h4'.ext x5
   (repeat' first | ((with_reducible refine aJ ?_); go_step) | ((with_reducible refine aI ?_); first | refine bM ?_ | (refine aL ?_ ?_ <;> intro hc)) | fail)
   refine aE (enters_of Tryz.func32 rfl rfl) rfl rfl (GP (bE rs[k].kind rs[k].data).1 _) ?_; intro w6 x6; refine aA ?_
   have h6 := h5.ext x6
   have x46 := x5.trans x6
   have hx6 := hx4.trans x46
   have hm6 := hm4.at (fun o ho => x46.at ho)
   have ho6 := ho4.ext x46
   have hst := uT (l := l) hlt
   have hlen := IC rs[k].kind rs[k].data
   have hol := xJ hb20 rs k hk
   generalize hnn : fold (bE rs[k].kind rs[k].data).1 = n at *
   by_cases hg : (bE rs[k].kind rs[k].data).2 = 0 ∧ DO rs[k].kind = true
   ·(repeat' first | ((with_reducible refine aJ ?_); go_step) | ((with_reducible refine aI ?_); first | refine bM ?_ | (refine aL ?_ ?_ <;> intro hc)) | fail)
    all_goals first
     | (exfalso; clear hx hm ho hur h4 h4' h5 h6 hx4 hm4 ho4 hx6 hm6 ho6 hv hu hp hm2 hb hb20 hd hz hst; simp_all [DO]; done)
     | skip
    all_goals
     obtain ⟨lx, hlx⟩ := KJ n (by omega)
     have hzv : ∀ w, (zeroValue 4).run Tryz.prog w = .ok (.bool false) w := fun w => by kernel_rfl
     obtain ⟨bv, bb, hrl, hcase⟩ := fW LQ (show mF Tryz.prog 182 47 4 = true by decide +kernel) hzv hm6 hlx false
     simp only [Bool.false_eq_true, if_false] at hrl
     refine cO rfl (Runs.lookup rfl rfl hrl) ?_
     refine aA ?_
     rcases hcase with ⟨i, hie, rfl⟩ | ⟨hno, rfl, rfl⟩
     ·obtain ⟨hin, rfl⟩ := ID hie
      have hst' : eL l (rs.take (k + 1)) = eL l (rs.take k) := by rw [hst, iP, hnn, if_pos (.inr (.inr hin))]
      (repeat' first | ((with_reducible refine aJ ?_); go_step) | ((with_reducible refine aI ?_); first | refine bM ?_ | (refine aL ?_ ?_ <;> intro hc)) | fail)
      exact ⟨⟨k + 1, by omega, by go_num, hx6, by rw [hst']; exact hm6, by rw [hst']; exact ho6⟩, by simp [intOf]; omega⟩
     ·have hni := KI hno
      have hst' : eL l (rs.take (k + 1)) = ((eL l (rs.take k)).1 ++ [n], (eL l (rs.take k)).2 ++ pZ l n 2) := by
       rw [hst, iP, hnn, if_neg (by rintro (h | h | h); exact h hg.1; rw [hg.2] at h; cases h; exact hni h), IE, List.append_assoc]
      (repeat' first | ((with_reducible refine aJ ?_); go_step) | ((with_reducible refine aI ?_); first | refine bM ?_ | (refine aL ?_ ?_ <;> intro hc)) | fail)
      obtain ⟨w7, o7, hr7, p7, hm7⟩ := iV LQ (show mF Tryz.prog 182 47 4 = true by decide +kernel) hm6 hlx (v := .bool true) hno
      refine jS rfl rfl rfl rfl hr7 ?_
      have hx7 : Ext w1 w7 := hx6.move p7.mv (by rintro k ⟨⟩; exact Nat.le_refl _)
      obtain ⟨es, ck, hme, _⟩ := hm6.out
      have ho7 := ho6.mv p7.mv (.inr (ho6.neMap hme))
      have hm7' : MapAt Tryz.prog 47 w7 w1.heap.size (rY ((eL l (rs.take k)).1 ++ [n])) := by simpa [rY] using hm7
      (repeat' first | ((with_reducible refine aJ ?_); go_step) | ((with_reducible refine aI ?_); first | refine bM ?_ | (refine aL ?_ ?_ <;> intro hc)) | fail)
      refine bK (e := 3) (k := 1) (bytes := 8) (xs := [.int .i64 1, .int .i64 28]) rfl rfl rfl (by simp [Value.cells]) (by decide +kernel) (by simp) ?_
      intro v8 w8 x8 _ sl8 o8
      refine aA ?_
      have o8' : Own w1.heap.size 1 3 w8 v8 [[.int .i64 1], [.int .i64 28]] := (show Own _ 1 3 w8 v8 [[.int .i64 1], [.int .i64 28]] from o8).weaken hx7.size
      have hx8 := hx7.trans x8
      have hm8 := hm7'.at (fun o ho => x8.at ho)
      have ho8 := ho7.ext x8
      have sl8' := o8'.sl
      (repeat' first | ((with_reducible refine aJ ?_); go_step) | ((with_reducible refine aI ?_); first | refine bM ?_ | (refine aL ?_ ?_ <;> intro hc)) | fail)
      clear sl8 sl8' hm7 hme o8 hm6 ho6 hx6 hm4 ho4 hm ho h4 h4' h5 h6 hrl hno
      go_loopw [5, 12, 13, 14, 58] (fun out _ _ _ i wr => ∃ j : Nat, j ≤ 2 ∧ i = .int .i64 j ∧ Ext w1 wr ∧ MapAt Tryz.prog 47 wr w1.heap.size (rY ((eL l (rs.take k)).1 ++ [n])) ∧ Own w1.heap.size 4 106 wr out (aT ((eL l (rs.take k)).2 ++ pZ l n j)) ∧ Own w1.heap.size 1 3 wr v8 [[.int .i64 1], [.int .i64 28]]) (fun _ _ _ _ i _ => 2 - (intOf i).toNat)
      case atStart => exact ⟨0, by omega, rfl, hx8, hm8, by simpa [pZ] using ho8, o8'⟩
      case round =>
       obtain ⟨j, hj, rfl, hxr, hmr, hor, h8r⟩ := hrel
       have s8r := h8r.sl
       by_cases hj2 : j < 2
       ·obtain ⟨K, hK, hfam⟩ : ∃ K : Int, ([[.int .i64 1], [.int .i64 28]] : List (List Value))[j]? = some [.int .i64 K] ∧ pZ l n (j + 1) = pZ l n j ++ eY (cB l n K) := by
         rcases (show j = 0 ∨ j = 1 by omega) with rfl | rfl
         ·exact ⟨1, rfl, by simp [pZ]⟩
         ·exact ⟨28, rfl, by simp [pZ]⟩
        have hel := s8r.elem hK
        have hpr := hp.ext hxr
        have hvr := (hv.ext x1).ext hxr
        have hfl := gP hb20 n 1
        have hfl2 : (pZ l n j).length ≤ 40 := by
         rcases (show j = 0 ∨ j = 1 by omega) with rfl | rfl
         ·simp [pZ]
         ·simp [pZ]; omega
        have hfl3 := gP hb20 n K
        (repeat' first | ((with_reducible refine aJ ?_); go_step) | ((with_reducible refine aI ?_); first | refine bM ?_ | (refine aL ?_ ?_ <;> intro hc)) | fail)
        rotate_left 1
        ·exfalso
         have hq : (([[.int .i64 1], [.int .i64 28]] : List (List Value)).length : Int) ≤ j := by assumption
         simp at hq
         omega
        refine aR (enters_of Tryz.func112 rfl rfl) rfl rfl (NU v l n K _ hvr (fun s hs => by have := hb s hs; omega)) ?_
        intro r9 w9 x9 hr9
        obtain ⟨y9, rfl, hy9⟩ := pQ hr9
        clear hr9
        (repeat' first | ((with_reducible refine aJ ?_); go_step) | ((with_reducible refine aI ?_); first | refine bM ?_ | (refine aL ?_ ?_ <;> intro hc)) | fail)
        refine aP (z := mN) rfl (by decide +kernel) ?_
        intro w10 x10 s10 h10
        refine aA ?_
        refine aG (v := .agg #[aH ((cB l n K).getD dU).name, .int .i64 ((cB l n K).getD dU).kind, .int .i64 ((cB l n K).getD dU).ttl, y9]) rfl rfl rfl h10 (show aX Tryz.prog 131 4 = true by decide +kernel) rfl (iI rfl rfl rfl hy9.one) ?_
        intro w11 p11
        have x11 : Ext w9 w11 := x10.move p11.mv (by rintro k ⟨⟩; exact Nat.le_refl _)
        have h11 := aD (cs := [aH ((cB l n K).getD dU).name, .int .i64 ((cB l n K).getD dU).kind, .int .i64 ((cB l n K).getD dU).ttl, y9]) p11.this
        have y11 := hy9.ext x11
        have xr11 := x9.trans x11
        have hx11 := hxr.trans xr11
        have hm11 := hmr.at (fun o ho => xr11.at ho)
        have ho11 := hor.ext xr11
        have h8_11 := h8r.ext xr11
        clear p11 h10 x10
        cases hfs : (cB l n K).isSome with
        | false =>
         have e0 : eY (cB l n K) = [] := by
          cases hff : cB l n K with
          | none => rfl
          | some s => rw [hff] at hfs; cases hfs
         (repeat' first | ((with_reducible refine aJ ?_); go_step) | ((with_reducible refine aI ?_); first | refine bM ?_ | (refine aL ?_ ?_ <;> intro hc)) | fail)
         exact ⟨⟨j + 1, by omega, by go_num, hx11, hm11, by rw [hfam, e0, List.append_nil]; exact ho11, h8_11⟩, by simp [intOf]; omega⟩
        | true =>
         (repeat' first | ((with_reducible refine aJ ?_); go_step) | ((with_reducible refine aI ?_); first | refine bM ?_ | (refine aL ?_ ?_ <;> intro hc)) | fail)
         refine bK (e := 131) (k := 4) (bytes := 56) (xs := [.agg #[aH ((cB l n K).getD dU).name, .int .i64 ((cB l n K).getD dU).kind, .int .i64 ((cB l n K).getD dU).ttl, y9]]) rfl rfl rfl (by simp [Value.cells]) (by decide +kernel) (by simp) ?_
         intro v12 w12 x12 _ sl12 _
         refine aA ?_
         have hs12 : SetsAt w12 v12 [(cB l n K).getD dU] := (SetsC.one (s := (cB l n K).getD dU) (y11.ext x12)).sets sl12
         (repeat' first | ((with_reducible refine aJ ?_); go_step) | ((with_reducible refine aI ?_); first | refine bM ?_ | (refine aL ?_ ?_ <;> intro hc)) | fail)
         refine aR (enters_of Tryz.func119 rfl rfl) rfl rfl (OI v12 _ _ hs12 (by rw [← jP]; omega)) ?_
         intro r13 w13 x13 o13
         rw [← jP] at o13
         refine aA ?_
         have x1113 := x12.trans x13
         have ho13 := ho11.ext x1113
         have hx13 := hx11.trans x1113
         refine dT (e := 106) (k := 4) rfl ho13 rfl o13.sl lM hx13.size (by rw [bA, bA, List.length_append]; omega) ?_
         intro v14 w14 o14 m14 _
         refine aA ?_
         have hx14 := ho13.mvx m14 hx13 (Nat.le_refl _)
         have hm13 := hm11.at (fun o ho => x1113.at ho)
         obtain ⟨es', ck', hme', _⟩ := hm13.out
         have hm14 := hm13.at (w' := w14) (fun o ho => m14.at ho (fun e => ho13.neMap hme' e.symm))
         have h8_13 := h8_11.ext x1113
         have h8_14 := h8_13.mv m14 (h8_13.ne ho13 (by decide))
         have hrc : aT ((eL l (rs.take k)).2 ++ pZ l n j) ++ aT (eY (cB l n K)) = aT ((eL l (rs.take k)).2 ++ pZ l n (j + 1)) := by
          rw [hfam]; simp [aT]
         rw [hrc] at o14
         (repeat' first | ((with_reducible refine aJ ?_); go_step) | ((with_reducible refine aI ?_); first | refine bM ?_ | (refine aL ?_ ?_ <;> intro hc)) | fail)
         exact ⟨⟨j + 1, by omega, by go_num, hx14, hm14, o14, h8_14⟩, by simp [intOf]; omega⟩
       ·have : j = 2 := by omega
        subst this
        (repeat' first | ((with_reducible refine aJ ?_); go_step) | ((with_reducible refine aI ?_); first | refine bM ?_ | (refine aL ?_ ?_ <;> intro hc)) | fail)
        exact ⟨⟨k + 1, by omega, by go_num, hxr, by rw [hst']; exact hmr, by rw [hst']; exact hor⟩, by simp [intOf]; omega⟩
   ·have hst' : eL l (rs.take (k + 1)) = eL l (rs.take k) := by
     rw [hst, iP]
     rw [if_pos]
     by_cases h0 : (bE rs[k].kind rs[k].data).2 = 0
     ·exact .inr (.inl (by simpa [h0] using hg))
     ·exact .inl h0
    (repeat' first | ((with_reducible refine aJ ?_); go_step) | ((with_reducible refine aI ?_); first | refine bM ?_ | (refine aL ?_ ?_ <;> intro hc)) | fail)
    all_goals first
     | (exfalso; clear hx hm ho hur h4 h4' h5 h6 hx4 hm4 ho4 hx6 hm6 ho6 hv hu hp hm2 hb hb20 hd hz hst hst'; simp_all [DO]; done)
     | exact ⟨⟨k + 1, by omega, by go_num, hx6, by rw [hst']; exact hm6, by rw [hst']; exact ho6⟩, by simp [intOf]; omega⟩
  ·have : k = rs.length := by omega
   subst this
   rw [List.take_length] at ho
   (repeat' first | ((with_reducible refine aJ ?_); go_step) | ((with_reducible refine aI ?_); first | refine bM ?_ | (refine aL ?_ ?_ <;> intro hc)) | fail)
   go_ret
   exact ⟨_, rfl, x1.trans hx, ho.weaken x1.size⟩
theorem KK (s : RSet) (u : Value) (w : World) : Calls Tryz.prog 123 #[.agg #[aH s.name, .int .i64 s.kind, .int .i64 s.ttl, u]] w (bO w (.bool (eJ s))) := by
 go_enter Tryz.func123, Tryz.ntmps123
 repeat' (first | ((with_reducible refine aJ ?_); go_step) | fail)
 refine bR (vs := [aH s.name, .int .i64 s.kind, .int .i64 s.ttl, u]) rfl rfl ?_
 intro ps w1 x1 hs
 refine aA ?_
 (repeat' first | ((with_reducible refine aJ ?_); go_step) | ((with_reducible refine aI ?_); first | refine bM ?_ | (refine aL ?_ ?_ <;> intro hc)) | fail)
 go_ret
 exact ⟨rfl, x1⟩
theorem KL (pk : Value) (k : Int) (s : RSet) (u : Value) (w : World) (hk : Pts w pk [.int .i64 k]) : Calls Tryz.prog 125 #[.agg #[aH s.name, .int .i64 s.kind, .int .i64 s.ttl, u], pk] w (bO w (.bool (!gO k s))) := by
 go_enter Tryz.func125, Tryz.ntmps125
 repeat' (first | ((with_reducible refine aJ ?_); go_step) | fail)
 refine bR (vs := [aH s.name, .int .i64 s.kind, .int .i64 s.ttl, u]) rfl rfl ?_
 intro ps w1 x1 hs
 refine aA ?_
 (repeat' first | ((with_reducible refine aJ ?_); go_step) | ((with_reducible refine aI ?_); first | refine bM ?_ | (refine aL ?_ ?_ <;> intro hc)) | fail)
 all_goals
  go_ret
  refine ⟨?_, x1⟩
  simp_all [gO]
theorem Pts.take {w : World} {p : Value} {vs : List Value} (h : Pts w p vs) (n : Nat) : Pts w p (vs.take n) := by
 obtain ⟨b, o, e, hc⟩ := h
 refine ⟨b, o, e, fun j x hx => hc j x ?_⟩
 rw [List.getElem?_take] at hx
 split at hx
 ·exact hx
 ·cases hx
def gH (o : List UInt8) (v : Value) (k : Int) (a u e : Value) : List Value := [aH o, v, .int .i64 k, a, u, e]
theorem iM {w : World} {b : Nat} {o : List UInt8} {v a u e : Value} {k : Int} (h : w.heap[b]? = some (.cells (gH o v k a u e).toArray 116 (0, 0))) :
 Pts w (.pointer (some ⟨b, 0, none⟩)) (gH o v k a u e) ∧ Pts w (dA (.pointer (some ⟨b, 0, none⟩)) 0) [aH o, v] ∧ Pts w (dA (.pointer (some ⟨b, 0, none⟩)) 2) [.int .i64 k, a, u, e] := by
 have hp := aD h
 exact ⟨hp, (hp.part 0).take 2, hp.part 2⟩
section
variable {P : Program} {w : World} {ts : List Value} {df : List Deferred} {d : Option Nat} {ty : TypeId} {ps : String} {af : Array Edge} {g : Option (Nat × Bool)}
theorem Runs.fieldA {s : TypeId} {m n off : Nat} {ad : Addr} (hx : ts.getD m undef = .pointer (some ad)) (hf : jG P s n off = true) :
 Runs P (Oper.mk d (.fieldAddr s (.tmp m) n) ty ps af g) (Act.mk ts.toArray df) w (dA (.pointer (some ad)) off) := by
 obtain ⟨fs, f, i, ht, hf, ho, hie, hz⟩ := iH hf
 have hx' : (Act.mk ts.toArray df).eval (.tmp m) = .pointer (some ad) := by rw [eN]; exact hx
 constructor
 simp [execOp, hx', Instr.fieldAt, Instr.sureAddr, run_underlying ht, hf, fieldPlace, sizeOf, typeInfo, hie, hz, dA, ho]
end
set_option maxHeartbeats 3000000 in
theorem AX (b : Nat) (o : List UInt8) (v : Value) (l : List RSet) (k0 kind : Int) (a : Value) (w0 w : World) (hx : Ext w0 w) (hv : SetsAt w0 v l) (hz : ZoneOk o l) (hbk : w0.heap.size ≤ b)
 (hb : w.heap[b]? = some (.cells (gH o v k0 a (.slice none 0 0) (.slice none 0 0)).toArray 116 (0, 0))) (ha : a.oneCell' = true) :
 Calls Tryz.prog 121 #[.pointer (some ⟨b, 0, none⟩), .int .i64 kind] w fun e w' => e = .returned (.tuple #[]) ∧ Ext w0 w' ∧ Mv (some b) w w' ∧ ∃ u, w'.heap[b]? = some (.cells (gH o v kind a u (.slice none 0 0)).toArray 116 (0, 0)) ∧ Own w.heap.size 4 106 w' u (aT [eS o l]) := by
 obtain ⟨hp, hp0, hp2⟩ := iM hb
 have hvw := hv.ext hx
 have hblt := (Array.getElem?_eq_some_iff.1 hb).1
 go_enter Tryz.func121, Tryz.ntmps121
 (repeat' first | ((with_reducible refine aJ ?_); go_step) | ((with_reducible refine aI ?_); first | refine bM ?_ | (refine aL ?_ ?_ <;> intro hc)) | fail)
 refine aE (enters_of Tryz.func176 rfl rfl) rfl rfl (IB o v l _ hvw hz) ?_; intro w1 x1; refine aA ?_
 (repeat' first | ((with_reducible refine aJ ?_); go_step) | ((with_reducible refine aI ?_); first | refine bM ?_ | (refine aL ?_ ?_ <;> intro hc)) | fail)
 refine aP (z := KC) rfl (by decide +kernel) ?_
 intro w2 x2 s2 h2
 refine aA ?_
 refine aG (v := uR (eS o l)) rfl rfl rfl h2 (show aX Tryz.prog 106 4 = true by decide +kernel) rfl (iI rfl rfl rfl rfl) ?_
 intro w3 p3
 have x3 : Ext w1 w3 := x2.move p3.mv (by rintro k ⟨⟩; exact Nat.le_refl _)
 have h3 := aD (cs := [aH (eS o l).name, .int .i64 (eS o l).kind, .int .i64 (eS o l).ttl, aH (eS o l).data]) p3.this
 have x13 := x1.trans x3
 have hb3 := x13.at hb
 have h3b : w3.heap[w1.heap.size]? = some (.cells [aH (eS o l).name, .int .i64 (eS o l).kind, .int .i64 (eS o l).ttl, aH (eS o l).data].toArray 106 (0, 0)) := p3.this
 clear p3 h2 x2
 have hzb : b ≠ w1.heap.size := by have := x1.size; omega
 (repeat' first | ((with_reducible refine aJ ?_); go_step) | ((with_reducible refine aI ?_); first | refine bM ?_ | (refine aL ?_ ?_ <;> intro hc)) | fail)
 refine cA 12 (fun w' => Pts w' (.pointer (some ⟨w1.heap.size, 0, none⟩)) [aH (eS o l).name, .int .i64 (eS o l).kind, .int .i64 (eS o l).ttl, aH (eS o l).data]) (by decide +kernel) ?_
 intro w4 x4 _
 refine ⟨h3.ext x4, ?_⟩
 refine BR 0 ?_; refine BR 1 ?_; refine BR 2 ?_
 refine aY (i := 3) (v := uR (eS o l)) rfl rfl (by decide +kernel) (by decide +kernel) (by decide +kernel) (by decide +kernel) (by decide +kernel) rfl (fun w' hF => by exact rn) (fun _ _ _ h => h) ?_
 refine aA ?_
 refine MB 5 ?_
 refine cQ (i := 6) rfl rfl rfl (by decide +kernel) (by decide +kernel) (by decide +kernel) rfl (fun _ => Runs.fieldA (off := 2) rfl (by decide +kernel)) (fun _ _ _ h => h) ?_
 refine aA ?_
 refine cQ (i := 7) rfl rfl rfl (by decide +kernel) (by decide +kernel) (by decide +kernel) rfl (fun _ => Runs.fieldA (off := 0) rfl (by decide +kernel)) (fun _ _ _ h => h) ?_
 refine aA ?_
 have h4 := x4.at h3b
 have hb4 := x4.at hb3
 have x04 := x13.trans x4
 refine JM (i := 4) (j := 8) (by decide +kernel) rfl rfl rfl ?_ ?_
 ·refine bK (e := 106) (k := 4) (bytes := 48) (xs := [uR (eS o l)]) rfl rfl rfl (by simp [Value.cells, uR]) (by decide +kernel) (by simp) ?_
  intro u5 w5 x5 _ sl5 o5
  refine aA ?_
  have h5 := x5.at h4
  have hb5 := x5.at hb4
  refine aK ⟨bW (aD h5), ?_⟩
  refine bG (i := 8) (by decide +kernel) rfl rfl ?_
  refine aO (n := 2) hb5 rfl rfl rfl (by simp [gH]) (by decide +kernel) rfl ?_
  intro w6 p6
  have h6 := p6.at h5 (fun e => hzb e.symm)
  have hb6 : w6.heap[b]? = some (.cells (gH o v kind a (.slice none 0 0) (.slice none 0 0)).toArray 116 (0, 0)) := p6.this
  have o6 := (show Own _ 4 106 w5 u5 (aT [eS o l]) from o5).mv p6.mv (.inr (o5.neBlock hb5 (by decide)))
  have m6 : Mv (some b) w w6 := ((x04.trans x5).mv _).trans p6.mv
  have zz := x04.size
  refine aK ⟨bW (aD h6), ?_⟩
  refine MB 9 ?_
  refine cQ (i := 10) rfl rfl rfl (by decide +kernel) (by decide +kernel) (by decide +kernel) rfl (fun _ => Runs.fieldA (off := 2) rfl (by decide +kernel)) (fun _ _ _ h => h) ?_
  refine aA ?_
  refine cQ (i := 11) rfl rfl rfl (by decide +kernel) (by decide +kernel) (by decide +kernel) rfl (fun _ => Runs.fieldA (off := 2) rfl (by decide +kernel)) (fun _ _ _ h => h) ?_
  refine aA ?_
  refine bG (i := 12) (by decide +kernel) rfl rfl ?_
  refine aO (n := 4) hb6 rfl rfl rfl (by simp [gH]) (by decide +kernel) o6.sl.one ?_
  intro w7 p7
  refine aK ⟨bX rfl, ?_⟩
  refine cR (by decide +kernel) ?_
  (repeat' first | ((with_reducible refine aJ ?_); go_step) | ((with_reducible refine aI ?_); first | refine bM ?_ | (refine aL ?_ ?_ <;> intro hc)) | fail)
  have m7 : Mv (some b) w w7 := m6.trans p7.mv
  refine bodyPost_end (results_none rfl _ _ _) rfl ?_
  exact ⟨rfl, hx.move m7 (by rintro k ⟨⟩; exact hbk), m7, _, p7.this, (o6.mv p7.mv (.inr (o6.neBlock hb6 (by decide)))).weaken zz⟩
 ·refine aO (n := 2) hb4 rfl rfl rfl (by simp [gH]) (by decide +kernel) rfl ?_
  intro w5 p5
  have h5 := p5.at h4 (fun e => hzb e.symm)
  have hb5 : w5.heap[b]? = some (.cells (gH o v kind a (.slice none 0 0) (.slice none 0 0)).toArray 116 (0, 0)) := p5.this
  refine aK ⟨bW (aD h5), ?_⟩
  refine bG (i := 4) (by decide +kernel) rfl rfl ?_
  refine bK (e := 106) (k := 4) (bytes := 48) (xs := [uR (eS o l)]) rfl rfl rfl (by simp [Value.cells, uR]) (by decide +kernel) (by simp) ?_
  intro u6 w6 x6 _ sl6 o6'
  refine aA ?_
  have h6 := x6.at h5
  have hb6 := x6.at hb5
  have o6 := (show Own _ 4 106 w6 u6 (aT [eS o l]) from o6')
  have m6 : Mv (some b) w w6 := ((x04.mv _).trans p5.mv).trans (x6.mv _)
  have zz : w.heap.size ≤ w5.heap.size := Nat.le_trans x04.size (Nat.le_of_eq p5.size.symm)
  refine aK ⟨bW (aD h6), ?_⟩
  refine MB 9 ?_
  refine cQ (i := 10) rfl rfl rfl (by decide +kernel) (by decide +kernel) (by decide +kernel) rfl (fun _ => Runs.fieldA (off := 2) rfl (by decide +kernel)) (fun _ _ _ h => h) ?_
  refine aA ?_
  refine cQ (i := 11) rfl rfl rfl (by decide +kernel) (by decide +kernel) (by decide +kernel) rfl (fun _ => Runs.fieldA (off := 2) rfl (by decide +kernel)) (fun _ _ _ h => h) ?_
  refine aA ?_
  refine bG (i := 12) (by decide +kernel) rfl rfl ?_
  refine aO (n := 4) hb6 rfl rfl rfl (by simp [gH]) (by decide +kernel) o6.sl.one ?_
  intro w7 p7
  refine aK ⟨bX rfl, ?_⟩
  refine cR (by decide +kernel) ?_
  (repeat' first | ((with_reducible refine aJ ?_); go_step) | ((with_reducible refine aI ?_); first | refine bM ?_ | (refine aL ?_ ?_ <;> intro hc)) | fail)
  have m7 : Mv (some b) w w7 := m6.trans p7.mv
  refine bodyPost_end (results_none rfl _ _ _) rfl ?_
  exact ⟨rfl, hx.move m7 (by rintro k ⟨⟩; exact hbk), m7, _, p7.this, (o6.mv p7.mv (.inr (o6.neBlock hb6 (by decide)))).weaken zz⟩
theorem FM {o : List UInt8} {l : List RSet} (h : ZoneOk o l) : vM l [] = true := by
 obtain ⟨s, hs, h1, _⟩ := h.soaSet
 have hm := h.small h1
 refine List.any_eq_true.2 ⟨s, h1, ?_⟩
 have ht := jL (n := s.name)
 rw [hm.2] at ht
 obtain ⟨a, ha⟩ := Option.isSome_iff_exists.1 ht
 have hr : dC [] = some [] := rfl
 rw [kQ ha hr]
 simp
theorem CQ {l : List RSet} {ls : List (List UInt8)} (h : vM l (enc ls) = true) : jW l ls = ls := by
 cases ls with
 | nil => rfl
 | cons x t => rw [jW, if_pos h]
theorem IF {l : List RSet} {x : List UInt8} {t : List (List UInt8)} (h : vM l (enc (x :: t)) = false) : jW l (x :: t) = jW l t := by
 rw [jW, if_neg (by simp [h])]
theorem AY {l : List (List UInt8)} : ∀ f ∈ aS l, ∀ u ∈ f, u.oneCell' = true := by
 intro f hf u hu
 obtain ⟨r, _, rfl⟩ := List.mem_map.1 hf
 simp only [List.mem_cons, List.not_mem_nil, or_false] at hu
 subst hu
 rfl
theorem IG (x : List UInt8) (t : List (List UInt8)) : (enc t).length < (enc (x :: t)).length := by simp [enc]; omega
set_option maxHeartbeats 4000000 in
theorem MS (o : List UInt8) (v : Value) (l : List RSet) (n : List UInt8) (w0 w : World) (hx0 : Ext w0 w) (hv0 : SetsAt w0 v l) (hz : ZoneOk o l) (hn : (aV n).isSome = true) :
 Calls Tryz.prog 120 #[.agg #[aH o, v], aH n] w (oT w fun r w' => ∃ u css, r = .tuple #[u, .bool (xG l n)] ∧ Own w.heap.size 4 131 w' u css ∧ SetsC w0 css (dG l n)) := by
 have hv := hv0.ext hx0
 have hl := uS hz
 have hex : ∀ (m : List UInt8) (w' : World), SetsAt w' v l → Calls Tryz.prog 173 #[.agg #[aH o, v], aH m] w' (bO w' (.bool (vM l m))) := fun m w' h => HU o v l m w' h
 obtain ⟨ls0, hls0⟩ := Option.isSome_iff_exists.1 hn
 obtain ⟨f1, f2, f3⟩ := eA hls0
 go_enter Tryz.func120, Tryz.ntmps120
 repeat' (first | ((with_reducible refine aJ ?_); go_step) | fail)
 refine bR (vs := [aH o, v]) rfl rfl ?_
 intro p w1 x1 hp
 refine aA ?_
 have hv1 := hv.ext x1
 (repeat' first | ((with_reducible refine aJ ?_); go_step) | ((with_reducible refine aI ?_); first | refine bM ?_ | (refine aL ?_ ?_ <;> intro hc)) | fail)
 refine aE (enters_of Tryz.func173 rfl rfl) rfl rfl (hex n _ hv1) ?_; intro w2 x2; refine aA ?_
 have hx2 := x1.trans x2
 have hp2 := hp.ext x2
 have hv2 := hv.ext hx2
 cases hi : vM l n with
 | true =>
  (repeat' first | ((with_reducible refine aJ ?_); go_step) | ((with_reducible refine aI ?_); first | refine bM ?_ | (refine aL ?_ ?_ <;> intro hc)) | fail)
  refine aR (enters_of Tryz.func174 rfl rfl) rfl rfl (OV o v l n n w0 _ (hx0.trans hx2) hv0 (by omega)) ?_
  intro u w3 x3 ho
  obtain ⟨css, ho, hc⟩ := ho
  (repeat' first | ((with_reducible refine aJ ?_); go_step) | ((with_reducible refine aI ?_); first | refine bM ?_ | (refine aL ?_ ?_ <;> intro hc)) | fail)
  go_ret2
  exact ⟨_, rfl, hx2.trans x3, u, css, by rw [xG, hi]; rfl, ho.weaken hx2.size, by rw [dG, if_pos hi]; exact hc⟩
 | false =>
  (repeat' first | ((with_reducible refine aJ ?_); go_step) | ((with_reducible refine aI ?_); first | refine bM ?_ | (refine aL ?_ ?_ <;> intro hc)) | fail)
  go_loopw [6] (fun a wr => ∃ ls : List (List UInt8), a = aH (enc ls) ∧ Ext w2 wr ∧ ls.all jF = true ∧ (enc ls).length ≤ 254 ∧ jW l ls = jW l ls0) (fun a _ => xS a)
  case atStart => exact ⟨ls0, by rw [f2], Ext.refl _, f1, by rw [f2]; exact f3, rfl⟩
  case round =>
   obtain ⟨ls, rfl, hx, g1, g2, g3⟩ := hrel
   have hvr := hv2.ext hx
   have hpr := hp2.ext hx
   (repeat' first | ((with_reducible refine aJ ?_); go_step) | ((with_reducible refine aI ?_); first | refine bM ?_ | (refine aL ?_ ?_ <;> intro hc)) | fail)
   refine aE (enters_of Tryz.func173 rfl rfl) rfl rfl (hex (enc ls) _ hvr) ?_; intro w4 x4; refine aA ?_
   have hx4 := hx.trans x4
   cases hi4 : vM l (enc ls) with
   | false =>
    cases ls with
    | nil => rw [show enc [] = [] from rfl, FM hz] at hi4; cases hi4
    | cons x t =>
     (repeat' first | ((with_reducible refine aJ ?_); go_step) | ((with_reducible refine aI ?_); first | refine bM ?_ | (refine aL ?_ ?_ <;> intro hc)) | fail)
     refine aE (enters_of Tryz.func175 rfl rfl) rfl rfl (IA _ (oI g1 g2)) ?_; intro w5 x5; refine aA ?_
     (repeat' first | ((with_reducible refine aJ ?_); go_step) | ((with_reducible refine aI ?_); first | refine bM ?_ | (refine aL ?_ ?_ <;> intro hc)) | fail)
     have ht := IG x t
     exact ⟨⟨t, rfl, hx4.trans x5, by simp at g1; simp; exact g1.2, by omega, by rw [← g3, IF hi4]⟩, by simp [sS]; omega⟩
   | true =>
    have hab : jW l ls = ls := CQ hi4
    rw [hab] at g3
    have hp4 := hpr.ext x4
    (repeat' first | ((with_reducible refine aJ ?_); go_step) | ((with_reducible refine aI ?_); first | refine bM ?_ | (refine aL ?_ ?_ <;> intro hc)) | fail)
    refine bK (e := 9) (k := 1) (bytes := 16) (xs := [aH [42]]) rfl rfl rfl (by simp [aH, Value.cells]) (by decide +kernel) (by simp) ?_
    intro v5 w5 x5 _ sl5 o5
    refine aA ?_
    (repeat' first | ((with_reducible refine aJ ?_); go_step) | ((with_reducible refine aI ?_); first | refine bM ?_ | (refine aL ?_ ?_ <;> intro hc)) | fail)
    refine aR (enters_of Tryz.func63 rfl rfl) rfl rfl (AW (enc ls) _) ?_
    intro v6 w6 x6 o6
    rw [oI g1 g2] at o6
    refine aA ?_
    have o5' := (show Own _ 1 9 w5 v5 (aS [[42]]) from o5).ext x6
    have hlen : ls.length ≤ 254 := by have := gL ls; omega
    refine dT (e := 9) (k := 1) rfl o5' rfl o6.sl AY (Nat.le_trans x5.size x6.size) (by simp [aS]; omega) ?_
    intro v7 w7 o7 m7 _
    refine aA ?_
    have x7 := o5'.mvx m7 (x5.trans x6) (Nat.le_refl _)
    have hst : xF l n = (nM ([42] :: ls)).getD [] := by rw [xF, hls0, Option.getD_some, ← g3]
    have hv7 := (hvr.ext x4).ext x7
    have hp7 := hp4.ext x7
    have hx7 := hx2.trans (hx4.trans x7)
    (repeat' first | ((with_reducible refine aJ ?_); go_step) | ((with_reducible refine aI ?_); first | refine bM ?_ | (refine aL ?_ ?_ <;> intro hc)) | fail)
    obtain ⟨e8, c8⟩ : ∃ e : Int, Calls Tryz.prog 71 #[v7] w7 (bO w7 (.tuple #[aH (xF l n), .int .i64 e])) := by
     have h := RK v7 ([42] :: ls) w7 o7.sl (by simp; omega)
     rw [hst]
     cases hj : nM ([42] :: ls) with
     | none => rw [hj] at h; exact ⟨1, h⟩
     | some m => rw [hj] at h; exact ⟨0, h⟩
    refine aE (enters_of Tryz.func71 rfl rfl) rfl rfl (c8) ?_; intro w8 x8; refine aA ?_
    have hv8 := hv7.ext x8
    have hp8 := hp7.ext x8
    have hx8 := hx7.trans x8
    (repeat' first | ((with_reducible refine aJ ?_); go_step) | ((with_reducible refine aI ?_); first | refine bM ?_ | (refine aL ?_ ?_ <;> intro hc)) | fail)
    refine aR (enters_of Tryz.func174 rfl rfl) rfl rfl (OV o v l (xF l n) n w0 _ (hx0.trans hx8) hv0 (by omega)) ?_
    intro u w9 x9 ho
    obtain ⟨css, ho, hc⟩ := ho
    have su := ho.sl
    have hcl := hc.len
    (repeat' first | ((with_reducible refine aJ ?_); go_step) | ((with_reducible refine aI ?_); first | refine bM ?_ | (refine aL ?_ ?_ <;> intro hc)) | fail)
    go_ret2
    refine ⟨_, rfl, hx8.trans x9, u, css, ?_, ho.weaken hx8.size, by rw [dG, if_neg (by simp [hi])]; exact hc⟩
    rw [xG, hi, Bool.false_or, ← hcl]
    congr 4
    simp
theorem FN {α : Type} (p : α → Bool) (l : List α) : (∃ (k : Nat) (hk : k < l.length), lZ p l = k ∧ p l[k] = true ∧ (l.take k).filter (fun s => !p s) = l.take k) ∨ (lZ p l = -1 ∧ l.filter (fun s => !p s) = l) := by
 unfold lZ
 cases h : l.findIdx? p with
 | none =>
  rw [List.findIdx?_eq_none_iff] at h
  refine .inr ⟨rfl, ?_⟩
  rw [List.filter_eq_self]
  intro a ha
  simp [h a ha]
 | some k =>
  rw [List.findIdx?_eq_some_iff_getElem] at h
  obtain ⟨hk, h1, h2⟩ := h
  refine .inl ⟨k, hk, rfl, h1, ?_⟩
  rw [List.filter_eq_self]
  intro a ha
  obtain ⟨j, hj, rfl⟩ := List.mem_iff_getElem.1 ha
  have hj' : j < k := by simp at hj; omega
  have := h2 j hj'
  simp only [List.getElem_take]
  simpa using this
theorem SetsC.row {w : World} {css : List (List Value)} {l : List RSet} (h : SetsC w css l) {i : Nat} (hi : i < l.length) : ∃ x, css[i]? = some [aH l[i].name, .int .i64 l[i].kind, .int .i64 l[i].ttl, x] ∧ Sl 1 w x (aS l[i].data) := h.at' i _ (List.getElem?_eq_getElem hi)
set_option maxHeartbeats 4000000 in
theorem yM {B : Nat} (v : Value) (l : List RSet) (css : List (List Value)) (f : FuncId) (caps : Array Value) (p : RSet → Bool) (w0 w : World) (hx0 : Ext w0 w) (hB : w0.heap.size ≤ B) (ho : Own B 4 131 w v css) (hc : SetsC w0 css l) (he : Enters Tryz.prog f) (hf : SetFn w0 f caps l p) :
 Calls Tryz.prog 124 #[v, .func (.func f) #[] caps] w fun e w' => ∃ v' css', e = .returned v' ∧ Own B 4 131 w' v' css' ∧ SetsC w0 css' (l.filter fun s => !p s) ∧ Ext w0 w' := by
 have hcl := hc.len
 have hsv : SetsAt w v l := (hc.ext hx0).sets ho.sl
 have hidx := jN v l f caps p w hsv he (hf.ext hx0)
 go_enter Tryz.func124, Tryz.ntmps124
 (repeat' first | ((with_reducible refine aJ ?_); go_step) | ((with_reducible refine aI ?_); first | refine bM ?_ | (refine aL ?_ ?_ <;> intro hc)) | fail)
 refine aE (enters_of Tryz.func122 rfl rfl) rfl rfl (hidx) ?_; intro w1 x1; refine aA ?_
 have ho1 := ho.ext x1
 have hx1 := hx0.trans x1
 rcases FN p l with ⟨k, hk, hi, hp, hfil⟩ | ⟨hi, hfil⟩
 ·rw [hi]
  rcases ho.form with ⟨rfl, hn⟩ | ⟨g, cap, rfl, hg, hb, hcap, hcm⟩
  ·rw [hn] at hcl; simp at hcl; omega
  ·(repeat' first | ((with_reducible refine aJ ?_); go_step) | ((with_reducible refine aI ?_); first | refine bM ?_ | (refine aL ?_ ?_ <;> intro hc)) | fail)
   go_loopw [5, 6, 7] (fun i j _ wr => ∃ (m n : Nat) (cs : List (List Value)), i = .int .i64 m ∧ j = .int .i64 n ∧ m < n ∧ n ≤ l.length ∧ cs.length = css.length ∧ Ext w0 wr ∧ Own B 4 131 wr (.slice (some ⟨g, 0, none⟩) css.length cap) cs ∧ SetsC w0 (cs.take m) ((l.take n).filter fun s => !p s) ∧ cs.drop n = css.drop n) (fun _ j _ _ => l.length - (intOf j).toNat)
   case atStart =>
    refine ⟨k, k + 1, css, rfl, by go_num, by omega, by omega, rfl, hx1, ho1, ?_, rfl⟩
    rw [List.take_succ_eq_append_getElem hk, List.filter_append, hfil]
    simp only [hp, Bool.not_true, List.filter_cons, Bool.false_eq_true, if_false, List.filter_nil, List.append_nil]
    exact hc.take k
   case round =>
    obtain ⟨m, n, cs, rfl, rfl, hmn, hnl, hlen, hx, hor, hkept, hrest⟩ := hrel
    have hsl := hor.sl
    by_cases hlt : n < l.length
    ·obtain ⟨x, hcx, hdx⟩ := hc.row hlt
     have hcs : cs[n]? = some [aH l[n].name, .int .i64 l[n].kind, .int .i64 l[n].ttl, x] := by
      have := congrArg (·[0]?) hrest
      simp only [List.getElem?_drop, Nat.add_zero] at this
      rw [this, hcx]
     have hel := hsl.elem hcs
     (repeat' first | ((with_reducible refine aJ ?_); go_step) | ((with_reducible refine aI ?_); first | refine bM ?_ | (refine aL ?_ ?_ <;> intro hc)) | fail)
     refine aP (z := mN) rfl (by decide +kernel) ?_
     intro w2 x2 s2 h2
     refine aA ?_
     refine aG (v := .agg #[aH l[n].name, .int .i64 l[n].kind, .int .i64 l[n].ttl, x]) rfl rfl rfl h2 (show aX Tryz.prog 131 4 = true by decide +kernel) rfl (iI rfl rfl rfl hdx.one) ?_
     intro w3 p3
     have x3 : Ext wr w3 := x2.move p3.mv (by rintro k ⟨⟩; exact Nat.le_refl _)
     have h3 := aD (cs := [aH l[n].name, .int .i64 l[n].kind, .int .i64 l[n].ttl, x]) p3.this
     have hx3 := hx.trans x3
     clear p3 h2 x2
     (repeat' first | ((with_reducible refine aJ ?_); go_step) | ((with_reducible refine aI ?_); first | refine bM ?_ | (refine aL ?_ ?_ <;> intro hc)) | fail)
     refine eK he rfl rfl rfl (hf _ (List.getElem_mem hlt) x _ hx3 (hdx.ext hx3)) ?_
     rintro e w4 ⟨rfl, x4⟩
     refine ⟨_, rfl, ?_⟩
     refine aA ?_
     have hx4 := hx3.trans x4
     have ho4 := hor.ext (x3.trans x4)
     have hs4 := ho4.sl
     have h4 := h3.ext x4
     have hst : (l.take (n + 1)).filter (fun s => !p s) = (l.take n).filter (fun s => !p s) ++ if p l[n] = true then [] else [l[n]] := by
      rw [List.take_succ_eq_append_getElem hlt, List.filter_append]
      cases hq : p l[n] <;> simp [hq]
     clear hel hsl h3
     cases hpn : p l[n] with
     | true =>
      rw [hpn, if_pos rfl, List.append_nil] at hst
      (repeat' first | ((with_reducible refine aJ ?_); go_step) | ((with_reducible refine aI ?_); first | refine bM ?_ | (refine aL ?_ ?_ <;> intro hc)) | fail)
      exact ⟨⟨m, n + 1, cs, rfl, by go_num, by omega, by omega, hlen, hx4, ho4, by rw [hst]; exact hkept, by rw [← List.drop_drop, hrest, List.drop_drop]⟩, by simp [intOf]; omega⟩
     | false =>
      rw [hpn, if_neg (by simp)] at hst
      (repeat' first | ((with_reducible refine aJ ?_); go_step) | ((with_reducible refine aI ?_); first | refine bM ?_ | (refine aL ?_ ?_ <;> intro hc)) | fail)
      refine sZ (i := m) (c := .agg #[aH l[n].name, .int .i64 l[n].kind, .int .i64 l[n].ttl, x]) rfl rfl rfl ho4 (by omega) (by simp [Value.cells]) (show aX Tryz.prog 131 4 = true by decide +kernel) (iI rfl rfl rfl hdx.one) ?_
      intro w5 o5 m5
      have x5 : Ext w0 w5 := ho4.mvx m5 hx4 hB
      (repeat' first | ((with_reducible refine aJ ?_); go_step) | ((with_reducible refine aI ?_); first | refine bM ?_ | (refine aL ?_ ?_ <;> intro hc)) | fail)
      refine ⟨⟨m + 1, n + 1, _, by go_num, by go_num, by omega, by omega, by rw [List.length_set]; exact hlen, x5, o5, ?_, ?_⟩, by simp [intOf]; omega⟩
      ·rw [hst]
       have e : (cs.set m [aH l[n].name, .int .i64 l[n].kind, .int .i64 l[n].ttl, x]).take (m + 1) = cs.take m ++ [[aH l[n].name, .int .i64 l[n].kind, .int .i64 l[n].ttl, x]] := by
        rw [List.take_succ_eq_append_getElem (by rw [List.length_set]; omega), List.take_set_of_le (Nat.le_refl _)]
        simp
       exact e ▸ hkept.append (SetsC.one hdx)
      ·rw [List.drop_set_of_lt (by omega), ← List.drop_drop, hrest, List.drop_drop]
    ·have : n = l.length := by omega
     subst this
     rw [List.take_length] at hkept
     rw [← hlen] at hor
     have hml : (cs.take m).length = m := by rw [List.length_take]; omega
     have hkl := hkept.len
     (repeat' first | ((with_reducible refine aJ ?_); go_step) | ((with_reducible refine aI ?_); first | refine bM ?_ | (refine aL ?_ ?_ <;> intro hc)) | fail)
     have e38 : dX (.slice (some ⟨g, 0, none⟩) css.length cap) 4 m cs.length = .slice (some ⟨g, m * 4, none⟩) (cs.length - m) (cap - m) := by
      unfold dX
      simp only [if_neg (show ¬ cap = m by omega)]
      simp [cY]
     refine BZ (m := m) (z := mN) hor e38 (by omega) ?_
     intro w9 o9 m9
     have x9 : Ext w0 w9 := hor.mvx m9 hx hB
     (repeat' first | ((with_reducible refine aJ ?_); go_step) | ((with_reducible refine aI ?_); first | refine bM ?_ | (refine aL ?_ ?_ <;> intro hc)) | fail)
     refine aN (Runs.takeC (k := 4) (n := m) (l := css.length) (c := cap) (ad := some ⟨g, 0, none⟩) rfl rfl (by omega) (by decide +kernel)) ?_
     refine aA ?_
     (repeat' first | ((with_reducible refine aJ ?_); go_step) | ((with_reducible refine aI ?_); first | refine bM ?_ | (refine aL ?_ ?_ <;> intro hc)) | fail)
     go_ret
     have e41 : Value.slice (if cap = 0 then some (⟨g, 0, none⟩ : Addr) else Option.map (fun x : Addr => x.add (0 * 4)) (some (⟨g, 0, none⟩ : Addr))) (m - 0) (cap - 0) = .slice (some ⟨g, 0, none⟩) m cap := by
      simp [cY]
     exact ⟨_, _, rfl, by rw [e41]; exact o9, hkept, x9⟩
 ·rw [hi]
  (repeat' first | ((with_reducible refine aJ ?_); go_step) | ((with_reducible refine aI ?_); first | refine bM ?_ | (refine aL ?_ ?_ <;> intro hc)) | fail)
  go_ret
  exact ⟨_, _, rfl, ho1, by rw [hfil]; exact hc, hx1⟩
end Go.Proofs.X
