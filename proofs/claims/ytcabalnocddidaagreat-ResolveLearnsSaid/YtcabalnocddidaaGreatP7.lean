/- Laws and walks that the proof of the statement is made of (part 7). -/
import Derived.Test.YtcabalnocddidaaGreatRows
import Derived.Test.YtcabalnocddidaaGreatP6
set_option linter.unusedSimpArgs false
set_option linter.unusedVariables false
namespace Go.Proofs.X
open Go.RowKit
set_option maxRecDepth 100000
structure OwnOff (B k : Nat) (e : TypeId) (w : World) (v : Value) (es : List (List Value)) : Prop where
 row : (v = .slice none 0 0 ∧ es = []) ∨ ∃ g o cap cur fz, v = .slice (some ⟨g, o * k, none⟩) es.length cap ∧ B ≤ g ∧ w.heap[g]? = some (.cells cur e fz) ∧ (fz.2 ≤ fz.1 ∨ cur.size ≤ fz.1) ∧ es.length ≤ cap ∧ cap ≤ maxLen ∧ (o + cap) * k ≤ cur.size ∧ (cur.toList.drop (o * k)).take (es.length * k) = es.flatten
 each : ∀ x ∈ es, x.length = k
theorem Own.off {B k e : Nat} {w : World} {v : Value} {es : List (List Value)} (h : Own B k e w v es) : OwnOff B k e w v es := by
 refine ⟨?_, h.each⟩
 rcases h.row.2 with ⟨rfl, h0⟩ | ⟨g, cap, cur, fz, rfl, hb, hg, hfz, hnc, hcm, hcs, htake⟩
 ·exact .inl ⟨rfl, List.eq_nil_of_length_eq_zero h0⟩
 ·exact .inr ⟨g, 0, cap, cur, fz, by simp, hb, hg, hfz, hnc, hcm, by rw [Nat.zero_add]; exact Nat.le_of_eq hcs.symm, by simpa using htake⟩
theorem OwnOff.nil (B k : Nat) (e : TypeId) (w : World) : OwnOff B k e w (.slice none 0 0) [] := (Own.nil B k e w).off
theorem OwnOff.type {B k e : Nat} {w : World} {v : Value} {es : List (List Value)} (h : OwnOff B k e w v es) {r : Nat} (hr : v.ownBlock = some r) : B ≤ r ∧ r < w.heap.size ∧ ∃ cur fz, w.heap[r]? = some (.cells cur e fz) := by
 rcases h.row with ⟨rfl, _⟩ | ⟨g, o, cap, cur, fz, rfl, hb, hg, _⟩
 ·simp [Value.ownBlock] at hr
 ·simp [Value.ownBlock] at hr; subst hr; exact ⟨hb, (Array.getElem?_eq_some_iff.1 hg).1, cur, fz, hg⟩
theorem OwnOff.neBlock {B k e t b : Nat} {w : World} {v : Value} {es : List (List Value)} {cs : Array Value} {fz : Nat × Nat} (h : OwnOff B k e w v es) (hb : w.heap[b]? = some (.cells cs t fz)) (ht : t ≠ e) : v.ownBlock ≠ some b := fun e' => by
 obtain ⟨_, _, cur, fz', h'⟩ := h.type e'
 rw [hb] at h'
 simp only [Option.some.injEq, Obj.cells.injEq] at h'
 exact ht h'.2.1
theorem OwnOff.neOwn {B k e B' k' e' : Nat} {w : World} {v v' : Value} {es es' : List (List Value)} (h : OwnOff B k e w v es) (h' : Own B' k' e' w v' es') (he : e ≠ e') : v'.ownBlock = none ∨ v'.ownBlock ≠ v.ownBlock := by
 cases hv : v'.ownBlock with
 | none => exact .inl rfl
 | some r =>
  obtain ⟨cur, fz, h1⟩ := h'.type hv
  exact .inr fun e2 => h.neBlock h1 (fun e3 => he e3.symm) e2.symm
theorem OwnOff.mv {B k e : Nat} {w w' : World} {v : Value} {es : List (List Value)} {row : Option Nat} (h : OwnOff B k e w v es) (hm : Mv row w w') (hne : v.ownBlock = none ∨ v.ownBlock ≠ row) : OwnOff B k e w' v es := by
 refine ⟨h.row.imp id ?_, h.each⟩
 rintro ⟨g, o, cap, cur, fz, rfl, hb, hg, r⟩
 refine ⟨g, o, cap, cur, fz, rfl, hb, hm.at hg ?_, r⟩
 rcases hne with hne | hne
 ·simp [Value.ownBlock] at hne
 ·simpa [Value.ownBlock] using hne
theorem OwnOff.ext {B k e : Nat} {w w' : World} {v : Value} {es : List (List Value)} (h : OwnOff B k e w v es) (hx : Ext w w') : OwnOff B k e w' v es := by
 refine ⟨h.row.imp id ?_, h.each⟩
 rintro ⟨g, o, cap, cur, fz, rfl, hb, hg, r⟩
 exact ⟨g, o, cap, cur, fz, rfl, hb, hx.at hg, r⟩
theorem OwnOff.weaken {B C k e : Nat} {w : World} {v : Value} {es : List (List Value)} (h : OwnOff B k e w v es) (hc : C ≤ B) : OwnOff C k e w v es :=
 ⟨h.row.imp id fun ⟨g, o, cap, cur, fz, a, b, r⟩ => ⟨g, o, cap, cur, fz, a, Nat.le_trans hc b, r⟩, h.each⟩
theorem OwnOff.sl {B k e : Nat} {w : World} {v : Value} {es : List (List Value)} (h : OwnOff B k e w v es) : Sl k w v es := by
 rcases h.row with ⟨rfl, rfl⟩ | ⟨g, o, cap, cur, fz, rfl, hb, hg, hfz, hnc, hcm, hcs, htake⟩
 ·exact Sl.nil _ _
 ·refine ⟨_, cap, rfl, hnc, by unfold maxLen at hcm; omega, h.each, (fun e => by cases e), fun _ => ⟨g, o * k, rfl, ?_⟩⟩
  intro i ce j x hi hj
  have hfl := dZ h.each hi hj
  rw [← htake, List.getElem?_take] at hfl
  split at hfl
  ·rw [List.getElem?_drop] at hfl
   have hlt : o * k + (i * k + j) < cur.size := by
    have := (List.getElem?_eq_some_iff.1 hfl).1
    simpa using this
   simp only [World.cell?, hg]
   rw [← Nat.add_assoc] at hfl
   simpa [Array.getElem?_toList] using hfl
  ·cases hfl
theorem OwnOff.drop {B k e : Nat} {w : World} {v : Value} {es : List (List Value)} (h : OwnOff B k e w v es) {m : Nat} (hm : m ≤ es.length) : OwnOff B k e w (cC v k m es.length) (es.drop m) := by
 refine ⟨?_, fun x hx => h.each x (List.mem_of_mem_drop hx)⟩
 rcases h.row with ⟨rfl, rfl⟩ | ⟨g, o, cap, cur, fz, rfl, hb, hg, hfz, hnc, hcm, hcs, htake⟩
 ·have : m = 0 := by simpa using hm
  subst this
  exact .inl ⟨by simp [cC], rfl⟩
 ·have hfl := aS h.each
  by_cases hc : cap = m
  ·have hlm : es.length = m := by omega
   refine .inr ⟨g, o, 0, cur, fz, ?_, hb, hg, hfz, ?_, by unfold maxLen; omega, ?_, ?_⟩
   ·simp [cC, hc, hlm]
   ·simp [hlm]
   ·have : (o + 0) * k ≤ (o + cap) * k := Nat.mul_le_mul_right k (by omega)
    omega
   ·have h0 : es.drop m = [] := by rw [← hlm, List.drop_length]
    rw [h0]
    simp
  ·refine .inr ⟨g, o + m, cap - m, cur, fz, ?_, hb, hg, hfz, ?_, by omega, ?_, ?_⟩
   ·simp [cC, hc, cB, Nat.add_mul]
   ·simp; omega
   ·rw [show o + m + (cap - m) = o + cap by omega]; exact hcs
   ·have hd := gM es m h.each
    rw [hd, ← htake, List.drop_take, List.drop_drop, List.length_drop, Nat.add_mul, ← Nat.sub_mul]
section
variable {P : Program} {ops : Array Oper} {Q : Exit → Act → World → Prop} {w : World} {rest : List Oper} {ts : List Value} {df : List Deferred} {ty : TypeId} {ps : String} {af : Array Edge}
end
theorem Pts.front {w : World} {p : Value} {vs : List Value} (h : Pts w p vs) (n : Nat) : Pts w p (vs.take n) := by
 obtain ⟨b, o, e, hc⟩ := h
 refine ⟨b, o, e, fun j x hx => hc j x ?_⟩
 rw [List.getElem?_take] at hx
 split at hx
 ·exact hx
 ·cases hx
section
variable {P : Program} {w : World} {ts : List Value} {df : List Deferred} {d : Option Nat} {ty : TypeId} {ps : String} {af : Array Edge} {g : Option (Nat × Bool)}
end
structure SetsN (B : Nat) (w : World) (css0 css : List (List Value)) (l : List RSet) (k : Nat) : Prop where
 len : css.length = l.length
 new : ∀ (i : Nat) (s : RSet), l[i]? = some s → i < k → ∃ x, css[i]? = some [aF s.name, .int .i64 s.kind, .int .i64 s.ttl, x] ∧ Own B 1 9 w x (aI s.data)
 old : ∀ i, k ≤ i → css[i]? = css0[i]?
theorem SetsN.ext {B : Nat} {w w' : World} {css0 css : List (List Value)} {l : List RSet} {k : Nat} (h : SetsN B w css0 css l k) (hx : Ext w w') : SetsN B w' css0 css l k :=
 ⟨h.len, fun i s hi hk => let ⟨x, a, b⟩ := h.new i s hi hk; ⟨x, a, b.ext hx⟩, h.old⟩
theorem SetsN.mv {B : Nat} {w w' : World} {css0 css : List (List Value)} {l : List RSet} {k : Nat} {row : Option Nat} (h : SetsN B w css0 css l k) (hm : Mv row w w') (hne : ∀ x es, Own B 1 9 w x es → x.ownBlock = none ∨ x.ownBlock ≠ row) : SetsN B w' css0 css l k :=
 ⟨h.len, fun i s hi hk => let ⟨x, a, b⟩ := h.new i s hi hk; ⟨x, a, b.mv hm (hne x _ b)⟩, h.old⟩
theorem SetsN.step {B : Nat} {w : World} {css0 css : List (List Value)} {l : List RSet} {k : Nat} (h : SetsN B w css0 css l k) (hk : k < l.length) {y : Value} (hy : Own B 1 9 w y (aI l[k].data)) :
 SetsN B w css0 (css.set k [aF l[k].name, .int .i64 l[k].kind, .int .i64 l[k].ttl, y]) l (k + 1) := by
 refine ⟨by rw [List.length_set, h.len], fun i s hi hik => ?_, fun i hi => ?_⟩
 ·by_cases e : k = i
  ·subst e
   rw [List.getElem?_eq_getElem hk] at hi
   cases hi
   exact ⟨y, List.getElem?_set_self (by rw [h.len]; exact hk), hy⟩
  ·obtain ⟨x, a, b⟩ := h.new i s hi (by omega)
   exact ⟨x, by rw [List.getElem?_set_ne e]; exact a, b⟩
 ·rw [List.getElem?_set_ne (by omega)]; exact h.old i (by omega)
theorem SetsN.done {B : Nat} {w : World} {css0 css : List (List Value)} {l : List RSet} (h : SetsN B w css0 css l l.length) : SetsW B w css l :=
 ⟨h.len, fun i s hi => h.new i s hi (List.getElem?_eq_some_iff.1 hi).1⟩
section
variable {P : Program} {a : Act} {w : World} {d : Option Nat} {ty : TypeId} {ps : String} {af : Array Edge} {g : Option (Nat × Bool)}
theorem Runs.isNil {t u : TypeId} {x y : Operand} {p : Option Addr} (hx : a.eval x = .pointer p) (hy : a.eval y = .pointer none) (ht : P.underlying t = some (.pointer (P.pointee t))) :
 Runs P (Oper.mk d (.binOp .eql t x y u) ty ps af g) a w (.bool p.isNone) := by
 constructor
 simp [execOp, hx, hy, eqGuard, run_eql_pointer_nil w t p ht]
end
theorem SetsV.sets {B : Nat} {w : World} {v : Value} {l : List RSet} (h : SetsV B w v l) : SetsAt w v l := by
 obtain ⟨css, h1, h2⟩ := h
 exact h2.sets.sets h1.sl
section
variable {P : Program} {a : Act} {w : World} {d : Option Nat} {ty : TypeId} {ps : String} {af : Array Edge} {g : Option (Nat × Bool)}
end
def AO (n : Int) : Bool := decide (0 ≤ n) && decide (n ≤ 4294967295)
def oK (a b : Int) : Bool := AO a && AO b && decide (2147483648 < (b - a) % 4294967296)
section
variable {P : Program} {ops : Array Oper} {Q : Exit → Act → World → Prop} {w : World} {rest : List Oper} {ts : List Value} {df : List Deferred} {d : Option Nat} {ty : TypeId} {ps : String} {af : Array Edge} {g : Option (Nat × Bool)}
end
end Go.Proofs.X
set_option linter.unusedSimpArgs false
set_option linter.unusedVariables false
namespace Go.Proofs.X
open Go.RowKit
end Go.Proofs.X
set_option linter.unusedSimpArgs false
set_option linter.unusedVariables false
namespace Go.Proofs.X
open Go.RowKit
set_option maxRecDepth 100000
section
variable {P : Program} {n : Nat} {r : Option Nat} {ops : Array Oper} {Q : Exit → Act → World → Prop} {md : Region.Mode}
end
section
variable {P : Program} {w w' : World} {ts : List Value} {df : List Deferred} {d : Option Nat} {ty : TypeId} {ps : String} {af : Array Edge} {g : Option (Nat × Bool)}
end
structure DelN (B : Nat) (w : World) (css0 css : List (List Value)) (ds : List DeltaR) (k : Nat) : Prop where
 len : css.length = ds.length
 new : ∀ (i : Nat) (d : DeltaR), ds[i]? = some d → i < k → ∃ g n, css[i]? = some [.int .i64 d.fr, .int .i64 d.to, g, n] ∧ Own B 4 64 w g (aE d.gone) ∧ Own B 4 64 w n (aE d.new)
 old : ∀ i, k ≤ i → css[i]? = css0[i]?
theorem DelN.ext {B : Nat} {w w' : World} {css0 css : List (List Value)} {ds : List DeltaR} {k : Nat} (h : DelN B w css0 css ds k) (hx : Ext w w') : DelN B w' css0 css ds k :=
 ⟨h.len, fun i s hi hk => let ⟨x, y, a, b, c⟩ := h.new i s hi hk; ⟨x, y, a, b.ext hx, c.ext hx⟩, h.old⟩
theorem DelN.mv {B : Nat} {w w' : World} {css0 css : List (List Value)} {ds : List DeltaR} {k : Nat} {row : Option Nat} (h : DelN B w css0 css ds k) (hm : Mv row w w') (hne : ∀ x es, Own B 4 64 w x es → x.ownBlock = none ∨ x.ownBlock ≠ row) : DelN B w' css0 css ds k :=
 ⟨h.len, fun i s hi hk => let ⟨x, y, a, b, c⟩ := h.new i s hi hk; ⟨x, y, a, b.mv hm (hne x _ b), c.mv hm (hne y _ c)⟩, h.old⟩
theorem DelN.step {B : Nat} {w : World} {css0 css : List (List Value)} {ds : List DeltaR} {k : Nat} (h : DelN B w css0 css ds k) (hk : k < ds.length) {x y : Value} (hx : Own B 4 64 w x (aE ds[k].gone)) (hy : Own B 4 64 w y (aE ds[k].new)) :
 DelN B w css0 (css.set k [.int .i64 ds[k].fr, .int .i64 ds[k].to, x, y]) ds (k + 1) := by
 refine ⟨by rw [List.length_set, h.len], fun i s hi hik => ?_, fun i hi => ?_⟩
 ·by_cases e : k = i
  ·subst e
   rw [List.getElem?_eq_getElem hk] at hi
   cases hi
   exact ⟨x, y, List.getElem?_set_self (by rw [h.len]; exact hk), hx, hy⟩
  ·obtain ⟨x, y, a, b⟩ := h.new i s hi (by omega)
   exact ⟨x, y, by rw [List.getElem?_set_ne e]; exact a, b⟩
 ·rw [List.getElem?_set_ne (by omega)]; exact h.old i (by omega)
def Keep (T : List TypeId) (w w' : World) : Prop := ∀ (c : Nat) (cs : Array Value) (t : TypeId) (fz : Nat × Nat), w.heap[c]? = some (.cells cs t fz) → t ∉ T → w'.heap[c]? = some (.cells cs t fz)
theorem Keep.trans {T : List TypeId} {a b c : World} (h : Keep T a b) (k : Keep T b c) : Keep T a c := fun i cs t fz hc ht => k i cs t fz (h i cs t fz hc ht) ht
end Go.Proofs.X
set_option linter.unusedSimpArgs false
set_option linter.unusedVariables false
namespace Go.Proofs.X
open Go.RowKit
end Go.Proofs.X
set_option linter.unusedSimpArgs false
set_option linter.unusedVariables false
namespace Go.Proofs.X
open Go.RowKit
set_option maxRecDepth 100000
def AppU (B : Nat) (o : List UInt8) (l : List RSet) (d : DeltaR) (q : Value) (w : World) : Prop := ∃ y, q = .tuple #[.agg #[aF (sH o l d), y], .int .i64 (jO o l d)] ∧ SetsO B w y (tO o l d)
theorem AppU.bad {B : Nat} {o : List UInt8} {l : List RSet} {d : DeltaR} {e : Int} {w : World} (h : jO o l d = e) (he : e ≠ 0) : AppU B o l d (.tuple #[.agg uM.toArray, .int .i64 e]) w := by
 refine ⟨.slice none 0 0, ?_, ?_⟩
 ·rw [sH, if_neg (by rw [h]; exact he), h]; rfl
 ·rw [tO, if_neg (by rw [h]; exact he)]; exact SetsO.nil _ _
def oL (r : Rec) : Bool := decide (r.kind = 6)
def EA (d : List UInt8) : SoaR := match bV d with | some s => s | none => zR
def xT (r : Rec) : Int := (EA r.data).serial
def mW : List Rec → Nat
 | [] => 0
 | r :: t => if oL r then 0 else mW t + 1
theorem oM : ∀ l : List Rec, mW l ≤ l.length
 | [] => Nat.le_refl _
 | r :: t => by
   rw [mW]
   split
   ·omega
   ·have := oM t
    rw [List.length_cons]; omega
def aX (l : List Rec) : Nat := 1 + mW (l.drop 1)
theorem gC {l : List Rec} (h : l ≠ []) : 1 ≤ aX l ∧ aX l ≤ l.length := by
 have := oM (l.drop 1)
 cases l with
 | nil => exact absurd rfl h
 | cons r t =>
  unfold aX
  simp only [List.drop_succ_cons, List.drop_zero, List.length_cons] at *
  omega
def qR : Rec := ⟨[], 0, 0, []⟩
def lF (l : List Rec) : Rec := l.headD qR
def fA (gone come : List Rec) : DeltaR := ⟨xT (lF gone), xT (lF come), gone, come⟩
structure ZE where
 e : Int
 o : List UInt8
 l : List RSet
def ZE.bad (e : Int) : ZE := ⟨e, [], []⟩
def zN : Nat → List UInt8 → List RSet → List Rec → ZE
 | 0, o, l, _ => ⟨0, o, l⟩
 | f + 1, o, l, rs =>
  if rs = [] then ⟨0, o, l⟩ else
  let gone := rs.take (aX rs)
  let rest := rs.drop (aX rs)
  if rest = [] then ZE.bad 2 else
  let come := rest.take (aX rest)
  if jO o l (fA gone come) = 0 then zN f (sH o l (fA gone come)) (tO o l (fA gone come)) (rest.drop (aX rest))
  else ZE.bad (if jO o l (fA gone come) = 5 then 2 else jO o l (fA gone come))
def oV (o : List UInt8) (l : List RSet) (rs : List Rec) : ZE := zN rs.length o l rs
theorem oN (f : Nat) (o : List UInt8) (l : List RSet) {rs : List Rec} (h : rs ≠ []) : zN (f + 1) o l rs =
 if rs.drop (aX rs) = [] then ZE.bad 2 else
 if jO o l (fA (rs.take (aX rs)) ((rs.drop (aX rs)).take (aX (rs.drop (aX rs))))) = 0 then
  zN f (sH o l (fA (rs.take (aX rs)) ((rs.drop (aX rs)).take (aX (rs.drop (aX rs)))))) (tO o l (fA (rs.take (aX rs)) ((rs.drop (aX rs)).take (aX (rs.drop (aX rs)))))) ((rs.drop (aX rs)).drop (aX (rs.drop (aX rs))))
 else ZE.bad (if jO o l (fA (rs.take (aX rs)) ((rs.drop (aX rs)).take (aX (rs.drop (aX rs))))) = 5 then 2 else jO o l (fA (rs.take (aX rs)) ((rs.drop (aX rs)).take (aX (rs.drop (aX rs)))))) := by
 rw [zN, if_neg h]
theorem uP : ∀ (f : Nat) (o : List UInt8) (l : List RSet), zN f o l [] = ⟨0, o, l⟩
 | 0, o, l => rfl
 | f + 1, o, l => by rw [zN, if_pos rfl]
theorem sJ : ∀ (n f g : Nat) (o : List UInt8) (l : List RSet) (rs : List Rec), rs.length ≤ n → rs.length ≤ f → rs.length ≤ g → zN f o l rs = zN g o l rs
 | n, f, g, o, l, [], _, _, _ => by rw [uP, uP]
 | 0, f, g, o, l, r :: t, h, _, _ => by simp at h
 | n + 1, 0, g, o, l, r :: t, _, h, _ => by simp at h
 | n + 1, f + 1, 0, o, l, r :: t, _, _, h => by simp at h
 | n + 1, f + 1, g + 1, o, l, r :: t, hn, hf, hg => by
   have h1 := gC (l := r :: t) (by simp)
   rw [oN f o l (by simp), oN g o l (by simp)]
   by_cases hr : (r :: t).drop (aX (r :: t)) = []
   ·rw [if_pos hr, if_pos hr]
   ·rw [if_neg hr, if_neg hr]
    have h2 := gC hr
    have h3 : (((r :: t).drop (aX (r :: t))).drop (aX ((r :: t).drop (aX (r :: t))))).length ≤ t.length := by
     have e1 : ((r :: t).drop (aX (r :: t))).length = (r :: t).length - aX (r :: t) := List.length_drop ..
     rw [List.length_drop, e1]
     simp only [List.length_cons] at h1 ⊢
     omega
    simp only [List.length_cons] at hn hf hg
    rw [sJ n f g _ _ _ (by omega) (by omega) (by omega)]
theorem xU (o : List UInt8) (l : List RSet) : oV o l [] = ⟨0, o, l⟩ := rfl
theorem vV (o : List UInt8) (l : List RSet) {rs : List Rec} (h : rs ≠ []) : oV o l rs =
 if rs.drop (aX rs) = [] then ZE.bad 2 else
 if jO o l (fA (rs.take (aX rs)) ((rs.drop (aX rs)).take (aX (rs.drop (aX rs))))) = 0 then
  oV (sH o l (fA (rs.take (aX rs)) ((rs.drop (aX rs)).take (aX (rs.drop (aX rs)))))) (tO o l (fA (rs.take (aX rs)) ((rs.drop (aX rs)).take (aX (rs.drop (aX rs)))))) ((rs.drop (aX rs)).drop (aX (rs.drop (aX rs))))
 else ZE.bad (if jO o l (fA (rs.take (aX rs)) ((rs.drop (aX rs)).take (aX (rs.drop (aX rs))))) = 5 then 2 else jO o l (fA (rs.take (aX rs)) ((rs.drop (aX rs)).take (aX (rs.drop (aX rs)))))) := by
 cases rs with
 | nil => exact absurd rfl h
 | cons r t =>
  have h1 := gC (l := r :: t) (by simp)
  conv => lhs; unfold oV
  rw [List.length_cons, oN _ _ _ h]
  by_cases hr : (r :: t).drop (aX (r :: t)) = []
  ·rw [if_pos hr, if_pos hr]
  ·rw [if_neg hr, if_neg hr]
   have h2 := gC hr
   have h3 : (((r :: t).drop (aX (r :: t))).drop (aX ((r :: t).drop (aX (r :: t))))).length ≤ t.length := by
    have e1 : ((r :: t).drop (aX (r :: t))).length = (r :: t).length - aX (r :: t) := List.length_drop ..
    rw [List.length_drop, e1]
    simp only [List.length_cons] at h1 ⊢
    omega
   unfold oV
   rw [sJ _ _ _ _ _ _ (Nat.le_refl _) h3 (Nat.le_refl _)]
def mE (oo : List UInt8) (lo : List RSet) (og : List UInt8) (l : List Rec) : ZE :=
 if oL (l.getD 1 qR) = false then ⟨iT og l.dropLast, kO og l.dropLast, kP og l.dropLast⟩ else
 if lo = [] then ZE.bad 5 else oV oo lo (l.dropLast.drop 1)
def mF (oo : List UInt8) (lo : List RSet) (og : List UInt8) (l : List Rec) : ZE :=
 if fO og ≠ 0 ∨ l.any (fun r => !decide (bF r = 0)) = true then ZE.bad 1 else
 if l = [] then ZE.bad 2 else
 if oL (lF l) = false ∨ fold (lF l).name ≠ fold og then ZE.bad 2 else
 if l.length = 1 then ZE.bad 5 else
 if l.length = 2 ∨ l.getD (l.length - 1) qR ≠ lF l then ZE.bad 3 else
 let q := mE oo lo og l
 if q.e ≠ 0 then ZE.bad q.e else
 if (eQ q.o q.l).serial ≠ xT (lF l) then ZE.bad 2 else
 if lo ≠ [] ∧ oK (eQ q.o q.l).serial (eQ oo lo).serial = false then ZE.bad 7 else q
theorem qB {o : List UInt8} {l : List Rec} (h : iT o l = 0) : ZoneOk (kO o l) (kP o l) := by
 have h0 := h
 unfold iT at h
 split at h
 ·rw [kO, if_pos h0, kP, if_pos h0]; exact uK h
 ·rename_i q; exact absurd h q
theorem oO {o : List UInt8} {l : List Rec} (h : iT o l = 0) : kO o l = fold o := by rw [kO, if_pos h]
theorem xV {o : List UInt8} {l : List RSet} {d : DeltaR} (h : jO o l d = 0) : ZoneOk (sH o l d) (tO o l d) ∧ sH o l d = o := by
 have h0 := h
 unfold jO at h
 split at h
 ·rename_i q0
  split at h
  ·cases hx : uO (fZ l) d with
   | none => rw [hx] at h; cases h
   | some m =>
    rw [hx] at h
    simp only at h
    unfold CW at h
    split at h
    ·rename_i q1
     have hz := qB q1
     rw [sH, if_pos h0, tO, if_pos h0, hx]
     simp only [Option.getD_some]
     refine ⟨hz, ?_⟩
     rw [oO q1]
     exact (uK q0).fold
    ·rename_i q1; exact absurd h q1
  ·cases h
 ·rename_i q; exact absurd h q
theorem sK : ∀ (n : Nat) (rs : List Rec), rs.length ≤ n → ∀ (o : List UInt8) (l : List RSet), (oV o l rs).e = 0 → rs ≠ [] → ZoneOk (oV o l rs).o (oV o l rs).l ∧ (oV o l rs).o = o
 | 0, rs, hn, o, l, h, hne => by
   have : rs = [] := List.eq_nil_of_length_eq_zero (by omega)
   exact absurd this hne
 | n + 1, rs, hn, o, l, h, hne => by
   have h1 := gC hne
   rw [vV o l hne] at h ⊢
   split at h
   ·cases h
   ·rename_i hr
    have h2 := gC hr
    rw [if_neg hr]
    split at h
    ·rename_i ha
     rw [if_pos ha]
     obtain ⟨z1, z2⟩ := xV ha
     by_cases hq : (rs.drop (aX rs)).drop (aX (rs.drop (aX rs))) = []
     ·rw [hq, xU]
      exact ⟨z1, z2⟩
     ·obtain ⟨a, b⟩ := sK n _ (by simp only [List.length_drop] at *; omega) _ _ h hq
      exact ⟨a, b.trans z2⟩
    ·rename_i ha
     split at h
     ·cases h
     ·exact absurd h ha
theorem zO {oo : List UInt8} {lo : List RSet} {og : List UInt8} {l : List Rec} (h : (mF oo lo og l).e = 0) :
 ZoneOk (mF oo lo og l).o (mF oo lo og l).l ∧ ((lo = [] ∨ oo = fold og) → (mF oo lo og l).o = fold og) ∧ (lo ≠ [] → oK (eQ (mF oo lo og l).o (mF oo lo og l).l).serial (eQ oo lo).serial = true) := by
 unfold mF at h ⊢
 split at h
 ·cases h
 ·rename_i c1
  rw [if_neg c1]
  split at h
  ·cases h
  ·rename_i c2
   rw [if_neg c2]
   split at h
   ·cases h
   ·rename_i c3
    rw [if_neg c3]
    split at h
    ·cases h
    ·rename_i c4
     rw [if_neg c4]
     split at h
     ·cases h
     ·rename_i c5
      rw [if_neg c5]
      simp only at h ⊢
      split at h
      ·rename_i c6; exact absurd h c6
      ·rename_i c6
       rw [if_neg c6]
       split at h
       ·cases h
       ·rename_i c7
        rw [if_neg c7]
        split at h
        ·cases h
        ·rename_i c8
         rw [if_neg c8]
         have hz : ZoneOk (mE oo lo og l).o (mE oo lo og l).l ∧ ((lo = [] ∨ oo = fold og) → (mE oo lo og l).o = fold og) := by
          have h6 : (mE oo lo og l).e = 0 := by simpa using c6
          unfold mE at h6 ⊢
          split at h6
          ·rename_i d1
           rw [if_pos d1]
           exact ⟨qB h6, fun _ => oO h6⟩
          ·rename_i d1
           rw [if_neg d1]
           split at h6
           ·cases h6
           ·rename_i d2
            rw [if_neg d2]
            have hl : 2 < l.length := by
             have n0 : l.length ≠ 0 := fun e => c2 (List.eq_nil_of_length_eq_zero e)
             have n2 : l.length ≠ 2 := fun e => c5 (.inl e)
             omega
            obtain ⟨a, b⟩ := sK _ _ (Nat.le_refl _) oo lo h6 (by
             intro e
             have := congrArg List.length e
             simp at this
             omega)
            exact ⟨a, fun hh => by rcases hh with hh | hh; exact absurd hh d2; exact b.trans hh⟩
         refine ⟨hz.1, hz.2, fun hne => ?_⟩
         cases hb : oK (eQ (mE oo lo og l).o (mE oo lo og l).l).serial (eQ oo lo).serial with
         | true => rfl
         | false => exact absurd ⟨hne, hb⟩ c8
structure SecR where
 og : List UInt8
 retry : Int
 z : Option (List UInt8 × List RSet)
 next : Int
 til : Int
 take : Bool
def SecR.soa (s : SecR) : SoaR := match s.z with | none => ⟨[], [], 0, s.retry, s.retry, 0, 0⟩ | some z => eQ z.1 z.2
def SecR.o (s : SecR) : List UInt8 := match s.z with | none => [] | some z => z.1
def SecR.l (s : SecR) : List RSet := match s.z with | none => [] | some z => z.2
def tP (n : Int) : Bool := decide (0 ≤ n) && decide (n ≤ 1099511627776)
def SecR.news (s : SecR) (n : Int) : Bool := s.z.isNone || oK n s.soa.serial
def SecR.failed (s : SecR) (now : Int) : SecR := if tP now = true then { s with take := false, next := now + s.soa.retry } else s
def SecR.fresh (s : SecR) (now : Int) : SecR := { s with take := false, next := now + s.soa.refresh, til := now + s.soa.expire }
def SecR.inst (s : SecR) (l : List Rec) : ZE := mF s.o s.l s.og l
def SecR.withZ (s : SecR) (q : ZE) : SecR := { s with z := some (q.o, q.l) }
def SecR.got (s : SecR) (l : List Rec) (now : Int) : SecR :=
 if tP now = false then s else
 if (s.inst l).e = 5 ∧ s.z.isSome = true then s.fresh now else
 if (s.inst l).e ≠ 0 then s.failed now else (s.withZ (s.inst l)).fresh now
def SecR.up (s : SecR) (now : Int) : Bool := tP now && (s.z.isSome && decide (now < s.til))
def CX (og : List UInt8) (retry : Int) : Int := if fO og ≠ 0 ∨ retry < 1 ∨ 2147483647 < retry then 1 else 0
def tQ (og : List UInt8) (retry : Int) : SecR := ⟨og, retry, none, 0, 0, false⟩
structure SecOk (s : SecR) : Prop where
 og : fO s.og = 0
 retry : 1 ≤ s.retry ∧ s.retry ≤ 2147483647
 zone : ∀ o l, s.z = some (o, l) → ZoneOk o l ∧ o = fold s.og
theorem zP {o : List UInt8} {l : List RSet} (h : ZoneOk o l) : (eQ o l).ok = true := by
 obtain ⟨s, _, _, _, _, _, hp, _⟩ := h.soaSet
 rw [eQ, if_pos (xN h)]
 exact xS hp
theorem vW {o : List UInt8} {l : List RSet} (h : ZoneOk o l) : 0 ≤ (eQ o l).serial ∧ (eQ o l).serial ≤ 4294967295 ∧ 0 ≤ (eQ o l).refresh ∧ (eQ o l).refresh ≤ 2147483647 ∧ 0 ≤ (eQ o l).retry ∧ (eQ o l).retry ≤ 2147483647 ∧ 0 ≤ (eQ o l).expire ∧ (eQ o l).expire ≤ 2147483647 := by
 have := zP h
 simp only [SoaR.ok, eI, Bool.and_eq_true, decide_eq_true_eq] at this
 omega
theorem ZoneOk.ne {o : List UInt8} {l : List RSet} (h : ZoneOk o l) : l ≠ [] := by
 rintro rfl
 have := h.soa
 simp [kH] at this
theorem SecOk.soa {s : SecR} (h : SecOk s) : 0 ≤ s.soa.refresh ∧ s.soa.refresh ≤ 2147483647 ∧ 0 ≤ s.soa.retry ∧ s.soa.retry ≤ 2147483647 ∧ 0 ≤ s.soa.expire ∧ s.soa.expire ≤ 2147483647 := by
 have hr := h.retry
 unfold SecR.soa
 split
 ·simp only; omega
 ·rename_i z hz
  have := vW (h.zone z.1 z.2 hz).1
  omega
theorem SecOk.old {s : SecR} (h : SecOk s) : (s.l = [] ↔ s.z = none) ∧ (s.l = [] ∨ s.o = fold s.og) := by
 unfold SecR.l SecR.o
 split
 ·rename_i hz; simp [hz]
 ·rename_i z hz
  have := h.zone z.1 z.2 hz
  refine ⟨⟨fun e => absurd e this.1.ne, fun e => by rw [hz] at e; cases e⟩, .inr this.2⟩
theorem SecOk.of {s t : SecR} (h : SecOk s) (h1 : t.og = s.og) (h2 : t.retry = s.retry) (h3 : t.z = s.z) : SecOk t := ⟨by rw [h1]; exact h.og, by rw [h2]; exact h.retry, by rw [h1, h3]; exact h.zone⟩
theorem SecOk.new {og : List UInt8} {retry : Int} (h : CX og retry = 0) : SecOk (tQ og retry) := by
 unfold CX at h
 split at h
 ·cases h
 ·rename_i c
  refine ⟨?_, ?_, ?_⟩
  ·unfold tQ; simp only
   exact Decidable.byContradiction fun e => c (.inl e)
  ·unfold tQ; simp only
   omega
  ·intro o l e; cases e
theorem SecOk.failed {s : SecR} (h : SecOk s) (now : Int) : SecOk (s.failed now) := by
 unfold SecR.failed; split <;> first | exact h | exact h.of rfl rfl rfl
theorem SecOk.fresh {s : SecR} (h : SecOk s) (now : Int) : SecOk (s.fresh now) := h.of rfl rfl rfl
theorem SecOk.inst {s : SecR} (h : SecOk s) {l : List Rec} (he : (s.inst l).e = 0) : ZoneOk (s.inst l).o (s.inst l).l ∧ (s.inst l).o = fold s.og ∧ (∀ o l', s.z = some (o, l') → oK (eQ (s.inst l).o (s.inst l).l).serial (eQ o l').serial = true) := by
 obtain ⟨a, b, c⟩ := zO (oo := s.o) (lo := s.l) (og := s.og) he
 obtain ⟨h1, h2⟩ := h.old
 refine ⟨a, b h2, fun o l' hz => ?_⟩
 have := c (fun e => by rw [h1.1 e] at hz; cases hz)
 unfold SecR.o SecR.l at this
 rw [hz] at this
 unfold SecR.inst SecR.o SecR.l
 rw [hz]
 exact this
theorem SecOk.got {s : SecR} (h : SecOk s) (l : List Rec) (now : Int) : SecOk (s.got l now) := by
 unfold SecR.got
 split
 ·exact h
 ·split
  ·exact h.fresh now
  ·split
   ·exact h.failed now
   ·rename_i c
    obtain ⟨a, b, _⟩ := h.inst (l := l) (by simpa using c)
    refine SecOk.fresh (s := s.withZ (s.inst l)) ⟨h.og, h.retry, ?_⟩ now
    intro o l' e
    simp only [SecR.withZ, Option.some.injEq, Prod.mk.injEq] at e
    obtain ⟨rfl, rfl⟩ := e
    exact ⟨a, b⟩
abbrev BZ := List UInt8 × Int
structure MsgR where
 id : Int
 resp : Bool
 op : Int
 auth : Bool
 trunc : Bool
 want : Bool
 avail : Bool
 rcode : Int
 qs : List BZ
 an : List Rec
 au : List Rec
 ex : List Rec
 size : Int
 deriving DecidableEq, Inhabited
def lG (l : List BZ) : List (List Value) := l.map fun q => [aF q.1, .int .i64 q.2]
theorem oW (l : List BZ) : (lG l).length = l.length := by simp [lG]
def cY (m : MsgR) (q a u e : Value) : List Value := [.int .i64 m.id, .bool m.resp, .int .i64 m.op, .bool m.auth, .bool m.trunc, .bool m.want, .bool m.avail, .int .i64 m.rcode, q, a, u, e, .int .i64 m.size]
structure MsgV (w : World) (m : MsgR) (q a u e : Value) : Prop where
 qs : Sl 2 w q (lG m.qs)
 an : Sl 4 w a (aE m.an)
 au : Sl 4 w u (aE m.au)
 ex : Sl 4 w e (aE m.ex)
theorem MsgV.ext {w w' : World} {m : MsgR} {q a u e : Value} (h : MsgV w m q a u e) (hx : Ext w w') : MsgV w' m q a u e := ⟨h.qs.ext hx, h.an.ext hx, h.au.ext hx, h.ex.ext hx⟩
theorem MsgV.one {w : World} {m : MsgR} {q a u e : Value} (h : MsgV w m q a u e) : ∀ x ∈ cY m q a u e, x.oneCell' = true := by
 intro x hx
 simp only [cY, List.mem_cons, List.not_mem_nil, or_false] at hx
 rcases hx with rfl | rfl | rfl | rfl | rfl | rfl | rfl | rfl | rfl | rfl | rfl | rfl | rfl
 all_goals first | rfl | exact h.qs.one | exact h.an.one | exact h.au.one | exact h.ex.one
def zeroM : MsgR := ⟨0, false, 0, false, false, false, false, 0, [], [], [], [], 0⟩
theorem MsgV.zero (w : World) : MsgV w zeroM (.slice none 0 0) (.slice none 0 0) (.slice none 0 0) (.slice none 0 0) := ⟨Sl.nil _ _, Sl.nil _ _, Sl.nil _ _, Sl.nil _ _⟩
open Go.ChangeShapes Go.WideShapes Go.ChangeAt Go.RowKit
theorem own : ownKnob Tryz.prog.godebug = none := by kernel_rfl
theorem zQ : laidOutB Tryz.prog = true := by kernel_rfl
theorem lH {H : Type} {enc : TypeId × Value → H} {w : World} {base : Nat} {spare : Nat → Bool} {held : Bool} {fuel : Nat} {v : Value} {x : DataW H × List MemPlace} (h : DataW.trod enc Tryz.prog w base spare held fuel 23 [v] = some x) : ∃ l : List Rec, Sl 4 w v (aE l) := by
 obtain ⟨es, hs, he⟩ := iH Tryz.underlying23 (show Tryz.prog.cellsOf 64 = 4 by kernel_rfl) (by omega) h
 obtain ⟨l, rfl⟩ : ∃ l : List Rec, es = l.map Rec.cells := by
  refine jZ fun c hc => ?_
  obtain ⟨n, y, hy⟩ := he c hc
  obtain ⟨xs, n', _, _, hl, hxl, hf⟩ := DataW.trod_struct Tryz.underlying64 hy
  have c30 : Tryz.prog.cellsOf 29 = 1 := by kernel_rfl
  have c3 : Tryz.prog.cellsOf 3 = 1 := by kernel_rfl
  have c9 : Tryz.prog.cellsOf 9 = 1 := by kernel_rfl
  have c32 : Tryz.prog.cellsOf 64 = 4 := by kernel_rfl
  rw [c32] at hl
  match c, hl, xs, hxl with
  | [a, b, d, e], _, [y0, y1, y2, y3], _ =>
   have g0 := hf 0 _ rfl
   have g1 := hf 1 _ rfl
   have g2 := hf 2 _ rfl
   have g3 := hf 3 _ rfl
   simp [c30, c3, c9] at g0 g1 g2 g3
   obtain ⟨s0, rfl, _⟩ := jY Tryz.underlying29 g0
   obtain ⟨n1, rfl, _⟩ := dF Tryz.underlying3 g1
   obtain ⟨n2, rfl, _⟩ := dF Tryz.underlying3 g2
   obtain ⟨s3, rfl, _⟩ := jY Tryz.underlying9 g3
   exact ⟨⟨s0, n1, n2, s3⟩, rfl⟩
 exact ⟨l, hs⟩
theorem fB {l : List Rec} : ∀ f ∈ aE l, ∀ u ∈ f, u.oneCell' = true := by
 intro f hf u hu
 obtain ⟨r, _, rfl⟩ := List.mem_map.1 hf
 simp only [Rec.cells, List.mem_cons, List.not_mem_nil, or_false] at hu
 rcases hu with rfl | rfl | rfl | rfl <;> rfl
theorem DelA.ext {d : DeltaR} {r : Value} {w w' : World} (h : DelA d r w) (hx : Ext w w') : DelA d r w' := by
 obtain ⟨g, n, e, a, b⟩ := h
 exact ⟨g, n, e, a.ext hx, b.ext hx⟩
end Go.Proofs.X
set_option linter.unusedSimpArgs false
set_option linter.unusedVariables false
namespace Go.Proofs.X
open Go.RowKit
end Go.Proofs.X
set_option linter.unusedSimpArgs false
set_option linter.unusedVariables false
namespace Go.Proofs.X
open Go.RowKit
set_option maxRecDepth 100000
def EU (w : World) (e : Ending) (w' : World) : Prop := e = .returned (.bool true) ∧ Ext w w'
section
variable {P : Program} {w : World} {ts : List Value} {df : List Deferred} {d : Option Nat} {ty : TypeId} {ps : String} {af : Array Edge} {g : Option (Nat × Bool)}
end
theorem SetsO.mvb {B b : Nat} {w w' : World} {v : Value} {l : List RSet} (h : SetsO B w v l) (hm : Mv (some b) w w') (hb : b < B) : SetsO B w' v l := by
 obtain ⟨css, h1, h2, h3, h4⟩ := h
 have hs : ∀ (k : Nat) (u : Value) (es : List (List Value)), Sl k w u es → From B u → Sl k w' u es := by
  intro k u es hsl hf
  obtain ⟨a, cap, k1, k2, k3, k4, k5, k6⟩ := hsl
  refine ⟨a, cap, k1, k2, k3, k4, k5, fun hn => ?_⟩
  obtain ⟨g, o, e, hc⟩ := k6 hn
  have hg : B ≤ g := hf g o none _ _ (by rw [k1, e])
  refine ⟨g, o, e, fun i e j x i1 i2 => ?_⟩
  have hcell := hc i e j x i1 i2
  have hlt := World.block_lt_of_cell? w _ hcell
  exact (World.cell?_of_block (hm.block g hlt (fun e => by have := Option.some.inj e; omega))).trans hcell
 refine ⟨css, hs _ _ _ h1 h2, h2, ⟨h3.len, fun i s hi => ?_⟩, h4⟩
 obtain ⟨x, e, hx⟩ := h3.at' i s hi
 exact ⟨x, e, hs _ _ _ hx (h4 _ (List.mem_of_getElem? e) x (by simp))⟩
section
variable {P : Program} {ops : Array Oper} {Q : Exit → Act → World → Prop} {w : World} {rest : List Oper} {ts : List Value} {df : List Deferred} {ty : TypeId} {ps : String} {af : Array Edge} {g : Option (Nat × Bool)}
theorem Own.slf {B k e : Nat} {w : World} {v : Value} {es : List (List Value)} (h : Own B k e w v es) : v = .slice none 0 0 ∧ es = [] ∨ ∃ g cap, v = .slice (some ⟨g, 0, none⟩) es.length cap := by
 rcases h.row.2 with ⟨h0, h1⟩ | ⟨g', cap', cur, fz, hv, _⟩
 ·exact .inl ⟨h0, List.eq_nil_of_length_eq_zero h1⟩
 ·exact .inr ⟨g', cap', hv⟩
end
end Go.Proofs.X
set_option linter.unusedSimpArgs false
set_option linter.unusedVariables false
namespace Go.Proofs.X
open Go.RowKit
end Go.Proofs.X
set_option linter.unusedSimpArgs false
set_option linter.unusedVariables false
namespace Go.Proofs.X
open Go.RowKit
set_option maxRecDepth 100000
section
variable {α : Type} {os : List α} {q : Nat} {x : α}
end
def DI (x : Option Rec) (os : List Rec) : Nat := os.length + (match x with | some _ => 1 | none => 0)
structure Sx (x : Option Rec) (os : List Rec) (q : Nat) : Prop where
 non : ∀ r ∈ os, oL r = false
 is : ∀ r, x = some r → oL r = true ∧ q ≤ os.length
 no : x = none → os.length ≤ q
theorem Sx.to {x : Option Rec} {os : List Rec} {q q' : Nat} (h : Sx x os q) (hq : q < DI x os) (hq' : q' < DI x os) : Sx x os q' := by
 cases x with
 | none => have := h.no rfl; simp [DI] at hq; omega
 | some r => exact ⟨h.non, fun r' e => ⟨(h.is r' e).1, by simp [DI] at hq'; omega⟩, fun e => by cases e⟩
end Go.Proofs.X
set_option linter.unusedSimpArgs false
set_option linter.unusedVariables false
namespace Go.Proofs.X
open Go.RowKit
section
variable {P : Program} {w w' : World} {d : Option Nat} {ty : TypeId} {ps : String} {af : Array Edge} {g : Option (Nat × Bool)}
end
section
variable {P : Program} {w w' : World} {d : Option Nat} {ty : TypeId} {ps : String} {af : Array Edge} {g : Option (Nat × Bool)}
end
section
variable {P : Program} {ops : Array Oper} {rest : List Oper} {ts : List Value} {df : List Deferred} {ty : TypeId} {ps : String} {af : Array Edge} {g : Option (Nat × Bool)} {tys : Array TypeId}
end
end Go.Proofs.X
set_option linter.unusedSimpArgs false
set_option linter.unusedVariables false
namespace Go.Proofs.X
open Go.RowKit
set_option maxRecDepth 100000
theorem parts {v : Value} {l : List Rec} {w : World} (hv : Sl 4 w v (aE l)) {n : Nat} (hn : n ≤ l.length) : Sl 4 w (cC v 4 0 n) (aE (l.take n)) ∧ Sl 4 w (cC v 4 n l.length) (aE (l.drop n)) := by
 have hlen := aM l
 have a := hv.cut (m := 0) (n := n) (by omega) (by omega)
 have b := hv.cut (m := n) (n := l.length) (by omega) (by omega)
 rw [← hlen, List.take_length, hlen] at b
 exact ⟨by simpa [aE, List.map_take] using a, by simpa [aE, List.map_drop] using b⟩
def ZEU (B : Nat) (q : ZE) (r : Value) (w' : World) : Prop := ∃ y, r = .tuple #[.agg #[aF q.o, y], .int .i64 q.e] ∧ SetsO B w' y q.l
theorem ZEU.bad {B : Nat} {e : Int} {w' : World} : ZEU B (ZE.bad e) (.tuple #[.agg uM.toArray, .int .i64 e]) w' := ⟨.slice none 0 0, rfl, SetsO.nil _ _⟩
section
variable {P : Program} {a : Act} {w : World} {Q : Exit → Act → World → Prop}
end
section
variable {P : Program} {w w' : World} {d : Option Nat} {ty : TypeId} {ps : String} {af : Array Edge} {g : Option (Nat × Bool)} {a : Act}
end
theorem ZEU.cell {B : Nat} {q : ZE} {r : Value} {w : World} (h : ZEU B q r w) : ∃ y, r = .tuple #[.agg #[aF q.o, y], .int .i64 q.e] ∧ SetsO B w y q.l ∧ y.oneCell' = true := by
 obtain ⟨y, rfl, hy⟩ := h
 obtain ⟨_, hq, _⟩ := hy.sets.sl
 exact ⟨y, rfl, hy, hq.one⟩
end Go.Proofs.X
set_option linter.unusedSimpArgs false
set_option linter.unusedVariables false
namespace Go.Proofs.X
open Go.RowKit
end Go.Proofs.X
set_option linter.unusedSimpArgs false
set_option linter.unusedVariables false
namespace Go.Proofs.X
open Go.RowKit
end Go.Proofs.X
set_option linter.unusedSimpArgs false
set_option linter.unusedVariables false
namespace Go.Proofs.X
open Go.RowKit
set_option maxRecDepth 100000
theorem SecOk.withZ {s : SecR} (h : SecOk s) {l : List Rec} (he : (s.inst l).e = 0) : SecOk (s.withZ (s.inst l)) := by
 obtain ⟨a, b, _⟩ := h.inst (l := l) he
 refine ⟨h.og, h.retry, ?_⟩
 intro o l' e
 simp only [SecR.withZ, Option.some.injEq, Prod.mk.injEq] at e
 obtain ⟨rfl, rfl⟩ := e
 exact ⟨a, b⟩
structure OpR where
 op : Int
 n : Int
 now : Int
 l : List Rec
end Go.Proofs.X
set_option linter.unusedSimpArgs false
set_option linter.unusedVariables false
namespace Go.Proofs.X
open Go.RowKit
end Go.Proofs.X
set_option linter.unusedSimpArgs false
set_option linter.unusedVariables false
namespace Go.Proofs.X
open Go.RowKit
set_option maxRecDepth 100000
end Go.Proofs.X
set_option linter.unusedSimpArgs false
set_option linter.unusedVariables false
namespace Go.Proofs.X
open Go.RowKit
section
variable {retry n now : Int} (h1 : 1 ≤ retry) (h2 : retry ≤ 100000) (h3 : 0 ≤ n) (h4 : n ≤ 4294967295) (h5 : 0 ≤ now) (h6 : now ≤ 1000000)
include h5 h6
end
end Go.Proofs.X
