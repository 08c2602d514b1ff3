/- A part of the proof of a statement on sets of records: what some functions of the program do, walked step by step. -/
import Derived.Test.YtmemlckaklckpaaProg
import Derived.Test.YtmemlckaklckpaaT29
import Derived.Test.YtmemlckaklckpaaXOpen
set_option linter.unusedSimpArgs false
set_option linter.unusedVariables false
namespace Go.Proofs.X
open Go.RowKit
set_option maxRecDepth 100000
/-! ### rrset.Group: what it builds -/
def match1 (s : RSet) (r : Rec) : Bool := decide (s.name = fold r.name) && decide (s.kind = r.kind)
def bump (s : RSet) (r : Rec) : RSet := ⟨s.name, s.kind, min s.ttl r.ttl, s.data ++ [r.data]⟩
def addTo : List RSet → Rec → List RSet
  | [], r => [⟨fold r.name, r.kind, r.ttl, [r.data]⟩]
  | s :: l, r => if match1 s r = true then bump s r :: l else s :: addTo l r
def Apart (gs : List RSet) : Prop := ∀ (i j : Nat) s t, gs[i]? = some s → gs[j]? = some t → i ≠ j → ¬ (s.name = t.name ∧ s.kind = t.kind)
theorem addTo_hit {r : Rec} : ∀ {gs : List RSet} {i : Nat} {s : RSet}, gs[i]? = some s → match1 s r = true → Apart gs → addTo gs r = gs.set i (bump s r)
  | [], i, s, h, _, _ => by simp at h
  | a :: l, 0, s, h, hm, _ => by
    cases h
    simp [addTo, hm]
  | a :: l, i + 1, s, h, hm, hd => by
    have ha : match1 a r = false := by
      cases hx : match1 a r with
      | false => rfl
      | true =>
        exfalso
        simp only [match1, Bool.and_eq_true, decide_eq_true_eq] at hm hx
        exact hd 0 (i + 1) a s rfl h (by omega) ⟨by rw [hx.1, hm.1], by rw [hx.2, hm.2]⟩
    have := addTo_hit (gs := l) (i := i) (by simpa using h) hm (fun p q s t hp hq hpq => hd (p + 1) (q + 1) s t (by simpa using hp) (by simpa using hq) (by omega))
    simp [addTo, ha, this]
theorem addTo_miss {r : Rec} : ∀ {gs : List RSet}, (∀ s ∈ gs, match1 s r = false) → addTo gs r = gs ++ [⟨fold r.name, r.kind, r.ttl, [r.data]⟩]
  | [], _ => rfl
  | a :: l, h => by
    have := addTo_miss (gs := l) (fun s hs => h s (by simp [hs]))
    simp [addTo, h a (by simp), this]
theorem addTo_keys {r : Rec} : ∀ {gs : List RSet} {s : RSet}, s ∈ addTo gs r → (∃ t ∈ gs, t.name = s.name ∧ t.kind = s.kind) ∨ (s.name = fold r.name ∧ s.kind = r.kind)
  | [], s, h => by
    simp only [addTo, List.mem_singleton] at h
    subst h; exact .inr ⟨rfl, rfl⟩
  | a :: l, s, h => by
    unfold addTo at h
    split at h
    · rename_i hm
      simp only [match1, Bool.and_eq_true, decide_eq_true_eq] at hm
      rcases List.mem_cons.1 h with rfl | h
      · exact .inr ⟨hm.1, hm.2⟩
      · exact .inl ⟨s, by simp [h], rfl, rfl⟩
    · rcases List.mem_cons.1 h with rfl | h
      · exact .inl ⟨s, by simp, rfl, rfl⟩
      · rcases addTo_keys h with ⟨t, ht, h2⟩ | h2
        · exact .inl ⟨t, by simp [ht], h2⟩
        · exact .inr h2
theorem apart_pw {gs : List RSet} : Apart gs ↔ gs.Pairwise fun s t => ¬ (s.name = t.name ∧ s.kind = t.kind) := by
  rw [List.pairwise_iff_getElem]
  constructor
  · intro h i j hi hj hij
    exact h i j _ _ (List.getElem?_eq_getElem hi) (List.getElem?_eq_getElem hj) (by omega)
  · intro h i j s t hs ht hij
    obtain ⟨hi, rfl⟩ := List.getElem?_eq_some_iff.1 hs
    obtain ⟨hj, rfl⟩ := List.getElem?_eq_some_iff.1 ht
    rcases Nat.lt_or_ge i j with h1 | h1
    · exact h i j hi hj h1
    · have := h j i hj hi (by omega)
      exact fun ⟨a, b⟩ => this ⟨a.symm, b.symm⟩
theorem addTo_apart {r : Rec} : ∀ {gs : List RSet}, Apart gs → Apart (addTo gs r)
  | [], _ => by rw [apart_pw]; simp [addTo]
  | a :: l, h => by
    rw [apart_pw] at h ⊢
    obtain ⟨h1, h2⟩ := List.pairwise_cons.1 h
    unfold addTo
    split
    · rename_i hm
      exact List.pairwise_cons.2 ⟨fun t ht => h1 t ht, h2⟩
    · rename_i hm
      refine List.pairwise_cons.2 ⟨fun t ht => ?_, apart_pw.1 (addTo_apart (apart_pw.2 h2))⟩
      rcases addTo_keys ht with ⟨u, hu, e1, e2⟩ | ⟨e1, e2⟩
      · have := h1 u hu
        rw [e1, e2] at this
        exact this
      · rintro ⟨f1, f2⟩
        exact hm (by simp [match1, f1, f2, e1, e2])
def gather (l : List Rec) : List RSet := l.foldl addTo []
theorem gather_apart (l : List Rec) : Apart (gather l) := by
  unfold gather
  suffices ∀ (l : List Rec) gs, Apart gs → Apart (l.foldl addTo gs) from this l [] (by intro i j s t h; simp at h)
  intro l
  induction l with
  | nil => exact fun _ h => h
  | cons r l ih => exact fun gs h => ih _ (addTo_apart h)
theorem gather_snoc {l : List Rec} {k : Nat} (h : k < l.length) : gather (l.take (k + 1)) = addTo (gather (l.take k)) l[k] := by
  unfold gather
  rw [List.take_add_one, List.getElem?_eq_getElem h, List.foldl_append]
  rfl
theorem addTo_len {r : Rec} : ∀ {gs : List RSet}, (addTo gs r).length ≤ gs.length + 1
  | [] => by simp [addTo]
  | a :: l => by
    have := addTo_len (r := r) (gs := l)
    unfold addTo
    split <;> simp <;> omega
def total (gs : List RSet) : Nat := (gs.map fun s => s.data.length).sum
theorem addTo_total {r : Rec} : ∀ {gs : List RSet}, total (addTo gs r) = total gs + 1
  | [] => by simp [addTo, total]
  | a :: l => by
    have := addTo_total (r := r) (gs := l)
    unfold total at this
    unfold addTo
    split
    · simp [total, bump]; omega
    · simp [total, this]; omega
theorem gather_total (l : List Rec) : total (gather l) = l.length := by
  unfold gather
  suffices ∀ (l : List Rec) gs, total (l.foldl addTo gs) = total gs + l.length from by simpa [total] using this l []
  intro l
  induction l with
  | nil => intro gs; simp
  | cons r l ih => intro gs; rw [List.foldl_cons, ih, addTo_total]; simp; omega
theorem gather_len (l : List Rec) : (gather l).length ≤ l.length := by
  unfold gather
  suffices ∀ (l : List Rec) gs, (l.foldl addTo gs).length ≤ gs.length + l.length from by simpa using this l []
  intro l
  induction l with
  | nil => intro gs; simp
  | cons r l ih => intro gs; rw [List.foldl_cons]; have := ih (addTo gs r); have := addTo_len (r := r) (gs := gs); simp; omega
theorem total_le {gs : List RSet} {s : RSet} (h : s ∈ gs) : s.data.length ≤ total gs := by
  induction gs with
  | nil => simp at h
  | cons a l ih =>
    unfold total at *
    rcases List.mem_cons.1 h with rfl | h
    · simp
    · have := ih h; simp; omega
/-! ### the sets as they lie while they grow -/
structure GC where
  b : Nat
  v : Value
  s : RSet
def GC.cells (c : GC) : List Value := [str c.s.name, .int .i64 c.s.kind, .int .i64 c.s.ttl, c.v]
def GC.key (c : GC) : Value × Value := (.agg #[str c.s.name, .int .i64 c.s.kind], .pointer (some ⟨c.b, 0, none⟩))
def GC.kcells (c : GC) : List Value := [str c.s.name, .int .i64 c.s.kind]
structure GOK (w : World) (B : Nat) (c : GC) : Prop where
  blk : w.heap[c.b]? = some (.cells c.cells.toArray 37 (0, 0))
  ge : B ≤ c.b
  own : Own B 1 9 w c.v (tcells c.s.data)
structure GS (w : World) (B : Nat) (gcs : List GC) : Prop where
  each : ∀ c ∈ gcs, GOK w B c
  apart : gcs.Pairwise fun c c' => c.b ≠ c'.b ∧ (c.v.ownBlock = none ∨ c'.v.ownBlock = none ∨ c.v.ownBlock ≠ c'.v.ownBlock)
theorem Own.type {B k e : Nat} {w : World} {v : Value} {es : List (List Value)} (h : Own B k e w v es) {r : Nat} (hr : v.ownBlock = some r) : ∃ cur fz, w.heap[r]? = some (.cells cur e fz) := by
  rcases h.row.2 with ⟨rfl, _⟩ | ⟨g, cap, cur, fz, rfl, hb, hg, _⟩
  · simp [Value.ownBlock] at hr
  · simp [Value.ownBlock] at hr; subst hr; exact ⟨cur, fz, hg⟩
theorem Own.neBlock {B k e t b : Nat} {w : World} {v : Value} {es : List (List Value)} {cs : Array Value} {fz : Nat × Nat} (h : Own B k e w v es) (hb : w.heap[b]? = some (.cells cs t fz)) (ht : t ≠ e) : v.ownBlock ≠ some b := fun e' => by
  obtain ⟨cur, fz', h'⟩ := h.type e'
  rw [hb] at h'
  simp only [Option.some.injEq, Obj.cells.injEq] at h'
  exact ht h'.2.1
theorem Own.neMap {B k e m c : Nat} {es' : Array MapEntry} {w : World} {v : Value} {es : List (List Value)} (h : Own B k e w v es) (hb : w.heap[m]? = some (.map es' c)) : v.ownBlock ≠ some m := fun e' => by
  obtain ⟨cur, fz', h'⟩ := h.type e'
  rw [hb] at h'
  cases h'
theorem Own.ne {B k e B' k' e' : Nat} {w : World} {v v' : Value} {es es' : List (List Value)} (h : Own B k e w v es) (h' : Own B' k' e' w v' es') (he : e ≠ e') : v.ownBlock = none ∨ v.ownBlock ≠ v'.ownBlock := by
  cases hv : v.ownBlock with
  | none => exact .inl rfl
  | some r =>
    refine .inr fun e2 => ?_
    obtain ⟨cur, fz, h1⟩ := h.type hv
    exact h'.neBlock h1 he e2.symm
/-- what leaves a set's block and its data's row alone leaves the set alone -/
theorem GOK.mv {w w' : World} {B : Nat} {c : GC} {row : Option Nat} (h : GOK w B c) (hm : Mv row w w') (h1 : some c.b ≠ row) (h2 : c.v.ownBlock = none ∨ c.v.ownBlock ≠ row) : GOK w' B c :=
  ⟨hm.at h.blk h1, h.ge, h.own.mv hm h2⟩
theorem GS.ext {w w' : World} {B : Nat} {gcs : List GC} (h : GS w B gcs) (hx : Ext w w') : GS w' B gcs :=
  ⟨fun c hc => (h.each c hc).mv (hx.mv none) (by simp) (by cases c.v.ownBlock <;> simp), h.apart⟩

end Go.Proofs.X
