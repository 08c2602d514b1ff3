/- Laws and walks that the proof of the statement is made of (part 4). -/
import Derived.Test.YtoajkilickakiaaGreatProg
import Derived.Lib.Hide
import Derived.Test.YtoajkilickakiaaGreatShelf
import Derived.OwnWalk
import Derived.Shelf.RegionOpenPlain
import Derived.Lib.Strings
import Derived.Lib.Slices
import Derived.Lib.Walk
import Derived.Lib.Builder
import Derived.Lib.AppendStr
import Derived.Lib.UnsafeStr
import Derived.Lib.MakeNoZero
import Derived.WalkKit
import Derived.Laws.Externs
import Derived.Laws.IdiomCopy
import Derived.Laws.BitsLemmas
import GoSem.Claims
import Derived.Shelf.SlSortCmp.NoneTotal
import Derived.Test.YtoajkilickakiaaGreatP1
import Derived.Test.YtoajkilickakiaaGreatP2
import Derived.Test.YtoajkilickakiaaGreatP3
set_option linter.unusedSimpArgs false
set_option linter.unusedVariables false
namespace Go.Proofs.X
open Go.RowKit
set_option maxRecDepth 100000
structure SetC where
  name : List UInt8
  kind : Int
  ttl : Int
  a : Option Addr
  n : Nat
  c : Nat
  d : List (List UInt8)
  deriving Inhabited
def SetC.v (s : SetC) : Value := .slice s.a s.n s.c
def SetC.cells (s : SetC) : List Value := [str s.name, .int .i64 s.kind, .int .i64 s.ttl, s.v]
def cmpC (x y : SetC) : Int := cmpSet x.name y.name x.kind y.kind
theorem tpo_cmpSet : TPO (fun x y : List UInt8 × Int => cmpSet x.1 y.1 x.2 y.2) :=
  (tpo_cmpN.comap Prod.fst).lex (tpo_int.comap Prod.snd)
theorem tpo_cmpC : TPO cmpC := tpo_cmpSet.comap fun s : SetC => (s.name, s.kind)
theorem t20 {B g cap : Nat} (l : List SetC) (w : World) (h : Own B 4 55 w (.slice (some ⟨g, 0, none⟩) l.length cap) (l.map SetC.cells)) (hl : l.length < 4611686018427387904) :
    Calls Tryz.prog 148 #[.slice (some ⟨g, 0, none⟩) l.length cap, .func (.func 118) #[] #[]] w fun e w' => e = .returned (.tuple #[]) ∧ ∃ l' : List SetC, l'.Perm l ∧ (∀ i j (hi : i < j) (hj : j < l'.length), 0 ≤ cmpC l'[j] l'[i]) ∧ Own B 4 55 w' (.slice (some ⟨g, 0, none⟩) l'.length cap) (l'.map SetC.cells) ∧ Mv (some g) w w' := by
  have hlen : (l.map SetC.cells).length = l.length := by simp
  have h0 := h
  rw [← hlen] at h0
  have eg : ∀ args w, (callFunc 118 args).run Tryz.prog w = .ok (.enter 118 args) w := enters_of Tryz.func118 (by kernel_rfl) rfl
  have hk : ∀ x, (SetC.cells x).length = 4 := fun _ => rfl
  have hfl := flatK_toList SetC.cells 4 hk l
  have hH : Sort.HoldsK SetC.cells 4 w g 0 l.toArray := by
    unfold Sort.HoldsK
    have := h.holdsF
    rw [← hfl] at this
    simpa using this
  have hcmp : Go.Proofs.CmpLays Tryz.prog 118 #[] SetC.cells 4 cmpC g 0 l.toArray.size w := by
    intro m os dk hdk x y
    refine (t21 x.name y.name x.kind y.kind x.ttl y.ttl x.v y.v _).mono ?_
    rintro e w' ⟨rfl, hx⟩
    exact ⟨rfl, hx.grown⟩
  have hc := Go.Proofs.AnyQ.slices_SortFunc Tryz.sortSet 4 (fun w => isAgg_yes (u := (Tryz.prog.underlying 55).getD (.struct #[])) (by rfl) (by rfl)) (fun w => by obtain ⟨i, hq, hz⟩ := info_of (sizeTy_spec (show sizeTy Tryz.prog 55 4 = true by decide +kernel)); exact (by simp [sizeOf, typeInfo, hq, hz] : (Go.sizeOf 55).run Tryz.prog w = .ok 4 w)) SetC.cells hk (fun x v hv => by
      simp only [SetC.cells, List.mem_cons, List.not_mem_nil, or_false] at hv
      rcases hv with rfl | rfl | rfl | rfl <;> rfl) cmpC tpo_cmpC.swo 118 #[] g 0 cap l.toArray w eg hcmp hH (h.block g rfl).2 (by simpa using hl)
  change Calls Tryz.prog 148 _ _ _ at hc
  refine hc.mono ?_
  rintro e w' ⟨rfl, d', n, os, hp, hs, rfl⟩
  obtain ⟨p1, p2, p3⟩ := hp
  have hd : d'.toList.length = l.length := by simpa using p1
  have hfl2 := flatK_toList SetC.cells 4 hk d'.toList
  have hperm : d'.toList.Perm l := by
    have e1 : d'.extract 0 l.toArray.size = d' := by rw [← p1]; simp
    have e2 : l.toArray.extract 0 l.toArray.size = l.toArray := by simp
    rw [e1, e2] at p3
    simpa using p3
  have hput := h0.putRowF (fs := d'.toList.map SetC.cells) (by simpa using hd) (by intro x hx; obtain ⟨y, _, rfl⟩ := List.mem_map.1 hx; rfl) n os
  have hrow : Go.Proofs.sortWorldK SetC.cells 4 w g 0 n d' os = Sort.grow (Sort.putRow id (Sort.ahead w n) g 0 (d'.toList.map SetC.cells).flatten.toArray) os := by
    unfold Go.Proofs.sortWorldK Sort.putRowK
    rw [← hfl2]
  rw [hrow]
  refine ⟨rfl, d'.toList, hperm, ?_, ?_, hput.2⟩
  · intro i j hi hj
    have hjs : j < d'.size := by simpa using hj
    have := hs i j (Nat.zero_le _) hi (by rw [← p1]; exact hjs)
    rw [getElem!_pos d' j hjs, getElem!_pos d' i (by omega)] at this
    simp only [Go.Proofs.ltOf, decide_eq_false_iff_not] at this
    simp only [Array.getElem_toList]
    omega
  · have := hput.1
    rw [hlen] at this
    rw [hd]
    exact this
theorem t20nil (v : Value) (w : World) : Calls Tryz.prog 148 #[.slice none 0 0, v] w fun e w' => e = .returned (.tuple #[]) ∧ w' = w := by
  have h := Go.Proofs.AnyF.slices_SortFunc_none Tryz.sortSet none 0 v w
  change Calls Tryz.prog 148 _ _ _ at h
  exact h
def match1 (s : RSet) (r : Rec) : Bool := decide (s.name = fold r.name) && decide (s.kind = r.kind)
def bump (s : RSet) (r : Rec) : RSet := ⟨s.name, s.kind, min s.ttl r.ttl, s.data ++ [r.data]⟩
def addTo : List RSet → Rec → List RSet
  | [], r => [⟨fold r.name, r.kind, r.ttl, [r.data]⟩]
  | s :: l, r => if match1 s r = true then bump s r :: l else s :: addTo l r
def Apart (gs : List RSet) : Prop := ∀ (i j : Nat) s t, gs[i]? = some s → gs[j]? = some t → i ≠ j → ¬ (s.name = t.name ∧ s.kind = t.kind)
theorem addTo_hit {r : Rec} : ∀ {gs : List RSet} {i : Nat} {s : RSet}, gs[i]? = some s → match1 s r = true → Apart gs → addTo gs r = gs.set i (bump s r)
  | [], i, s, h, _, _ => by simp at h
  | a :: l, 0, s, h, hm, _ => by
    cases h
    simp [addTo, hm]
  | a :: l, i + 1, s, h, hm, hd => by
    have ha : match1 a r = false := by
      cases hx : match1 a r with
      | false => rfl
      | true =>
        exfalso
        simp only [match1, Bool.and_eq_true, decide_eq_true_eq] at hm hx
        exact hd 0 (i + 1) a s rfl h (by omega) ⟨by rw [hx.1, hm.1], by rw [hx.2, hm.2]⟩
    have := addTo_hit (gs := l) (i := i) (by simpa using h) hm (fun p q s t hp hq hpq => hd (p + 1) (q + 1) s t (by simpa using hp) (by simpa using hq) (by omega))
    simp [addTo, ha, this]
theorem addTo_miss {r : Rec} : ∀ {gs : List RSet}, (∀ s ∈ gs, match1 s r = false) → addTo gs r = gs ++ [⟨fold r.name, r.kind, r.ttl, [r.data]⟩]
  | [], _ => rfl
  | a :: l, h => by
    have := addTo_miss (gs := l) (fun s hs => h s (by simp [hs]))
    simp [addTo, h a (by simp), this]
theorem addTo_keys {r : Rec} : ∀ {gs : List RSet} {s : RSet}, s ∈ addTo gs r → (∃ t ∈ gs, t.name = s.name ∧ t.kind = s.kind) ∨ (s.name = fold r.name ∧ s.kind = r.kind)
  | [], s, h => by
    simp only [addTo, List.mem_singleton] at h
    subst h; exact .inr ⟨rfl, rfl⟩
  | a :: l, s, h => by
    unfold addTo at h
    split at h
    · rename_i hm
      simp only [match1, Bool.and_eq_true, decide_eq_true_eq] at hm
      rcases List.mem_cons.1 h with rfl | h
      · exact .inr ⟨hm.1, hm.2⟩
      · exact .inl ⟨s, by simp [h], rfl, rfl⟩
    · rcases List.mem_cons.1 h with rfl | h
      · exact .inl ⟨s, by simp, rfl, rfl⟩
      · rcases addTo_keys h with ⟨t, ht, h2⟩ | h2
        · exact .inl ⟨t, by simp [ht], h2⟩
        · exact .inr h2
theorem apart_pw {gs : List RSet} : Apart gs ↔ gs.Pairwise fun s t => ¬ (s.name = t.name ∧ s.kind = t.kind) := by
  rw [List.pairwise_iff_getElem]
  constructor
  · intro h i j hi hj hij
    exact h i j _ _ (List.getElem?_eq_getElem hi) (List.getElem?_eq_getElem hj) (by omega)
  · intro h i j s t hs ht hij
    obtain ⟨hi, rfl⟩ := List.getElem?_eq_some_iff.1 hs
    obtain ⟨hj, rfl⟩ := List.getElem?_eq_some_iff.1 ht
    rcases Nat.lt_or_ge i j with h1 | h1
    · exact h i j hi hj h1
    · have := h j i hj hi (by omega)
      exact fun ⟨a, b⟩ => this ⟨a.symm, b.symm⟩
theorem addTo_apart {r : Rec} : ∀ {gs : List RSet}, Apart gs → Apart (addTo gs r)
  | [], _ => by rw [apart_pw]; simp [addTo]
  | a :: l, h => by
    rw [apart_pw] at h ⊢
    obtain ⟨h1, h2⟩ := List.pairwise_cons.1 h
    unfold addTo
    split
    · rename_i hm
      exact List.pairwise_cons.2 ⟨fun t ht => h1 t ht, h2⟩
    · rename_i hm
      refine List.pairwise_cons.2 ⟨fun t ht => ?_, apart_pw.1 (addTo_apart (apart_pw.2 h2))⟩
      rcases addTo_keys ht with ⟨u, hu, e1, e2⟩ | ⟨e1, e2⟩
      · have := h1 u hu
        rw [e1, e2] at this
        exact this
      · rintro ⟨f1, f2⟩
        exact hm (by simp [match1, f1, f2, e1, e2])
def gather (l : List Rec) : List RSet := l.foldl addTo []
theorem gather_apart (l : List Rec) : Apart (gather l) := by
  unfold gather
  suffices ∀ (l : List Rec) gs, Apart gs → Apart (l.foldl addTo gs) from this l [] (by intro i j s t h; simp at h)
  intro l
  induction l with
  | nil => exact fun _ h => h
  | cons r l ih => exact fun gs h => ih _ (addTo_apart h)
theorem gather_snoc {l : List Rec} {k : Nat} (h : k < l.length) : gather (l.take (k + 1)) = addTo (gather (l.take k)) l[k] := by
  unfold gather
  rw [List.take_add_one, List.getElem?_eq_getElem h, List.foldl_append]
  rfl
theorem addTo_len {r : Rec} : ∀ {gs : List RSet}, (addTo gs r).length ≤ gs.length + 1
  | [] => by simp [addTo]
  | a :: l => by
    have := addTo_len (r := r) (gs := l)
    unfold addTo
    split <;> simp <;> omega
def total (gs : List RSet) : Nat := (gs.map fun s => s.data.length).sum
theorem addTo_total {r : Rec} : ∀ {gs : List RSet}, total (addTo gs r) = total gs + 1
  | [] => by simp [addTo, total]
  | a :: l => by
    have := addTo_total (r := r) (gs := l)
    unfold total at this
    unfold addTo
    split
    · simp [total, bump]; omega
    · simp [total, this]; omega
theorem gather_total (l : List Rec) : total (gather l) = l.length := by
  unfold gather
  suffices ∀ (l : List Rec) gs, total (l.foldl addTo gs) = total gs + l.length from by simpa [total] using this l []
  intro l
  induction l with
  | nil => intro gs; simp
  | cons r l ih => intro gs; rw [List.foldl_cons, ih, addTo_total]; simp; omega
theorem gather_len (l : List Rec) : (gather l).length ≤ l.length := by
  unfold gather
  suffices ∀ (l : List Rec) gs, (l.foldl addTo gs).length ≤ gs.length + l.length from by simpa using this l []
  intro l
  induction l with
  | nil => intro gs; simp
  | cons r l ih => intro gs; rw [List.foldl_cons]; have := ih (addTo gs r); have := addTo_len (r := r) (gs := gs); simp; omega
theorem total_le {gs : List RSet} {s : RSet} (h : s ∈ gs) : s.data.length ≤ total gs := by
  induction gs with
  | nil => simp at h
  | cons a l ih =>
    unfold total at *
    rcases List.mem_cons.1 h with rfl | h
    · simp
    · have := ih h; simp; omega
structure GC where
  b : Nat
  v : Value
  s : RSet
def GC.cells (c : GC) : List Value := [str c.s.name, .int .i64 c.s.kind, .int .i64 c.s.ttl, c.v]
def GC.key (c : GC) : Value × Value := (.agg #[str c.s.name, .int .i64 c.s.kind], .pointer (some ⟨c.b, 0, none⟩))
def GC.kcells (c : GC) : List Value := [str c.s.name, .int .i64 c.s.kind]
structure GOK (w : World) (B : Nat) (c : GC) : Prop where
  blk : w.heap[c.b]? = some (.cells c.cells.toArray 55 (0, 0))
  ge : B ≤ c.b
  own : Own B 1 9 w c.v (tcells c.s.data)
structure GS (w : World) (B : Nat) (gcs : List GC) : Prop where
  each : ∀ c ∈ gcs, GOK w B c
  apart : gcs.Pairwise fun c c' => c.b ≠ c'.b ∧ (c.v.ownBlock = none ∨ c'.v.ownBlock = none ∨ c.v.ownBlock ≠ c'.v.ownBlock)
theorem Own.type {B k e : Nat} {w : World} {v : Value} {es : List (List Value)} (h : Own B k e w v es) {r : Nat} (hr : v.ownBlock = some r) : ∃ cur fz, w.heap[r]? = some (.cells cur e fz) := by
  rcases h.row.2 with ⟨rfl, _⟩ | ⟨g, cap, cur, fz, rfl, hb, hg, _⟩
  · simp [Value.ownBlock] at hr
  · simp [Value.ownBlock] at hr; subst hr; exact ⟨cur, fz, hg⟩
theorem Own.neBlock {B k e t b : Nat} {w : World} {v : Value} {es : List (List Value)} {cs : Array Value} {fz : Nat × Nat} (h : Own B k e w v es) (hb : w.heap[b]? = some (.cells cs t fz)) (ht : t ≠ e) : v.ownBlock ≠ some b := fun e' => by
  obtain ⟨cur, fz', h'⟩ := h.type e'
  rw [hb] at h'
  simp only [Option.some.injEq, Obj.cells.injEq] at h'
  exact ht h'.2.1
theorem Own.neMap {B k e m c : Nat} {es' : Array MapEntry} {w : World} {v : Value} {es : List (List Value)} (h : Own B k e w v es) (hb : w.heap[m]? = some (.map es' c)) : v.ownBlock ≠ some m := fun e' => by
  obtain ⟨cur, fz', h'⟩ := h.type e'
  rw [hb] at h'
  cases h'
theorem Own.ne {B k e B' k' e' : Nat} {w : World} {v v' : Value} {es es' : List (List Value)} (h : Own B k e w v es) (h' : Own B' k' e' w v' es') (he : e ≠ e') : v.ownBlock = none ∨ v.ownBlock ≠ v'.ownBlock := by
  cases hv : v.ownBlock with
  | none => exact .inl rfl
  | some r =>
    refine .inr fun e2 => ?_
    obtain ⟨cur, fz, h1⟩ := h.type hv
    exact h'.neBlock h1 he e2.symm
theorem GOK.mv {w w' : World} {B : Nat} {c : GC} {row : Option Nat} (h : GOK w B c) (hm : Mv row w w') (h1 : some c.b ≠ row) (h2 : c.v.ownBlock = none ∨ c.v.ownBlock ≠ row) : GOK w' B c :=
  ⟨hm.at h.blk h1, h.ge, h.own.mv hm h2⟩
theorem GS.ext {w w' : World} {B : Nat} {gcs : List GC} (h : GS w B gcs) (hx : Ext w w') : GS w' B gcs :=
  ⟨fun c hc => (h.each c hc).mv (hx.mv none) (by simp) (by cases c.v.ownBlock <;> simp), h.apart⟩
structure OwnOff (B k : Nat) (e : TypeId) (w : World) (v : Value) (es : List (List Value)) : Prop where
  row : (v = .slice none 0 0 ∧ es = []) ∨ ∃ g o cap cur fz, v = .slice (some ⟨g, o * k, none⟩) es.length cap ∧ B ≤ g ∧ w.heap[g]? = some (.cells cur e fz) ∧ (fz.2 ≤ fz.1 ∨ cur.size ≤ fz.1) ∧ es.length ≤ cap ∧ cap ≤ maxLen ∧ (o + cap) * k ≤ cur.size ∧ (cur.toList.drop (o * k)).take (es.length * k) = es.flatten
  each : ∀ x ∈ es, x.length = k
theorem Own.off {B k e : Nat} {w : World} {v : Value} {es : List (List Value)} (h : Own B k e w v es) : OwnOff B k e w v es := by
  refine ⟨?_, h.each⟩
  rcases h.row.2 with ⟨rfl, h0⟩ | ⟨g, cap, cur, fz, rfl, hb, hg, hfz, hnc, hcm, hcs, htake⟩
  · exact .inl ⟨rfl, List.eq_nil_of_length_eq_zero h0⟩
  · exact .inr ⟨g, 0, cap, cur, fz, by simp, hb, hg, hfz, hnc, hcm, by rw [Nat.zero_add]; exact Nat.le_of_eq hcs.symm, by simpa using htake⟩
theorem OwnOff.nil (B k : Nat) (e : TypeId) (w : World) : OwnOff B k e w (.slice none 0 0) [] := (Own.nil B k e w).off
theorem OwnOff.type {B k e : Nat} {w : World} {v : Value} {es : List (List Value)} (h : OwnOff B k e w v es) {r : Nat} (hr : v.ownBlock = some r) : B ≤ r ∧ r < w.heap.size ∧ ∃ cur fz, w.heap[r]? = some (.cells cur e fz) := by
  rcases h.row with ⟨rfl, _⟩ | ⟨g, o, cap, cur, fz, rfl, hb, hg, _⟩
  · simp [Value.ownBlock] at hr
  · simp [Value.ownBlock] at hr; subst hr; exact ⟨hb, (Array.getElem?_eq_some_iff.1 hg).1, cur, fz, hg⟩
theorem OwnOff.neBlock {B k e t b : Nat} {w : World} {v : Value} {es : List (List Value)} {cs : Array Value} {fz : Nat × Nat} (h : OwnOff B k e w v es) (hb : w.heap[b]? = some (.cells cs t fz)) (ht : t ≠ e) : v.ownBlock ≠ some b := fun e' => by
  obtain ⟨_, _, cur, fz', h'⟩ := h.type e'
  rw [hb] at h'
  simp only [Option.some.injEq, Obj.cells.injEq] at h'
  exact ht h'.2.1
theorem OwnOff.neOwn {B k e B' k' e' : Nat} {w : World} {v v' : Value} {es es' : List (List Value)} (h : OwnOff B k e w v es) (h' : Own B' k' e' w v' es') (he : e ≠ e') : v'.ownBlock = none ∨ v'.ownBlock ≠ v.ownBlock := by
  cases hv : v'.ownBlock with
  | none => exact .inl rfl
  | some r =>
    obtain ⟨cur, fz, h1⟩ := h'.type hv
    exact .inr fun e2 => h.neBlock h1 (fun e3 => he e3.symm) e2.symm
theorem OwnOff.mv {B k e : Nat} {w w' : World} {v : Value} {es : List (List Value)} {row : Option Nat} (h : OwnOff B k e w v es) (hm : Mv row w w') (hne : v.ownBlock = none ∨ v.ownBlock ≠ row) : OwnOff B k e w' v es := by
  refine ⟨h.row.imp id ?_, h.each⟩
  rintro ⟨g, o, cap, cur, fz, rfl, hb, hg, r⟩
  refine ⟨g, o, cap, cur, fz, rfl, hb, hm.at hg ?_, r⟩
  rcases hne with hne | hne
  · simp [Value.ownBlock] at hne
  · simpa [Value.ownBlock] using hne
theorem OwnOff.ext {B k e : Nat} {w w' : World} {v : Value} {es : List (List Value)} (h : OwnOff B k e w v es) (hx : Ext w w') : OwnOff B k e w' v es := by
  refine ⟨h.row.imp id ?_, h.each⟩
  rintro ⟨g, o, cap, cur, fz, rfl, hb, hg, r⟩
  exact ⟨g, o, cap, cur, fz, rfl, hb, hx.at hg, r⟩
theorem OwnOff.weaken {B C k e : Nat} {w : World} {v : Value} {es : List (List Value)} (h : OwnOff B k e w v es) (hc : C ≤ B) : OwnOff C k e w v es :=
  ⟨h.row.imp id fun ⟨g, o, cap, cur, fz, a, b, r⟩ => ⟨g, o, cap, cur, fz, a, Nat.le_trans hc b, r⟩, h.each⟩
theorem OwnOff.sl {B k e : Nat} {w : World} {v : Value} {es : List (List Value)} (h : OwnOff B k e w v es) : Sl k w v es := by
  rcases h.row with ⟨rfl, rfl⟩ | ⟨g, o, cap, cur, fz, rfl, hb, hg, hfz, hnc, hcm, hcs, htake⟩
  · exact Sl.nil _ _
  · refine ⟨_, cap, rfl, hnc, by unfold maxLen at hcm; omega, h.each, (fun e => by cases e), fun _ => ⟨g, o * k, rfl, ?_⟩⟩
    intro i ce j x hi hj
    have hfl := flatten_at h.each hi hj
    rw [← htake, List.getElem?_take] at hfl
    split at hfl
    · rw [List.getElem?_drop] at hfl
      have hlt : o * k + (i * k + j) < cur.size := by
        have := (List.getElem?_eq_some_iff.1 hfl).1
        simpa using this
      simp only [World.cell?, hg]
      rw [← Nat.add_assoc] at hfl
      simpa [Array.getElem?_toList] using hfl
    · cases hfl
theorem OwnOff.drop {B k e : Nat} {w : World} {v : Value} {es : List (List Value)} (h : OwnOff B k e w v es) {m : Nat} (hm : m ≤ es.length) : OwnOff B k e w (cutSl v k m es.length) (es.drop m) := by
  refine ⟨?_, fun x hx => h.each x (List.mem_of_mem_drop hx)⟩
  rcases h.row with ⟨rfl, rfl⟩ | ⟨g, o, cap, cur, fz, rfl, hb, hg, hfz, hnc, hcm, hcs, htake⟩
  · have : m = 0 := by simpa using hm
    subst this
    exact .inl ⟨by simp [cutSl], rfl⟩
  · have hfl := length_flatten_of h.each
    by_cases hc : cap = m
    · have hlm : es.length = m := by omega
      refine .inr ⟨g, o, 0, cur, fz, ?_, hb, hg, hfz, ?_, by unfold maxLen; omega, ?_, ?_⟩
      · simp [cutSl, hc, hlm]
      · simp [hlm]
      · have : (o + 0) * k ≤ (o + cap) * k := Nat.mul_le_mul_right k (by omega)
        omega
      · have h0 : es.drop m = [] := by rw [← hlm, List.drop_length]
        rw [h0]
        simp
    · refine .inr ⟨g, o + m, cap - m, cur, fz, ?_, hb, hg, hfz, ?_, by omega, ?_, ?_⟩
      · simp [cutSl, hc, add_none, Nat.add_mul]
      · simp; omega
      · rw [show o + m + (cap - m) = o + cap by omega]; exact hcs
      · have hd := flatten_drop es m h.each
        rw [hd, ← htake, List.drop_take, List.drop_drop, List.length_drop, Nat.add_mul, ← Nat.sub_mul]
theorem run_appendOff {P : Program} {w : World} {t e k bytes B : Nat} {ty : TypeId} {v x : Value} {es fs : List (List Value)} (ht : appTy P t e k bytes = true) (h : OwnOff B k e w v es) (hx : Sl k w x fs) (hne : fs ≠ []) (h1 : ∀ f ∈ fs, ∀ u ∈ f, u.oneCell' = true)
    (hB : B ≤ w.heap.size) (hb : (es.length + fs.length) * bytes ≤ 140737488355328) (hm : es.length + fs.length ≤ 140737488355328) :
    ∃ v' w', (Builtin.append_ #[t, t] ty #[v, x]).run P w = .ok v' w' ∧ OwnOff B k e w' v' (es ++ fs) ∧ Mv v.ownBlock w w' ∧ (v'.ownBlock = v.ownBlock ∨ v'.ownBlock = some w.heap.size) := by
  obtain ⟨hu, i, z, hi, hz, hzc, hs, hby, hk⟩ := appTy_spec ht
  rcases h.row with ⟨rfl, rfl⟩ | ⟨g, o, cap, cur, fz, rfl, hbg, hg, hfz, hnc, hcm, hcs, htake⟩
  · obtain ⟨v', w', hr, ho, hmv, hkin⟩ := run_appendK (ty := ty) ht (Own.nil B k e w) hx h1 hB hb hm
    exact ⟨v', w', hr, ho.off, hmv, hkin⟩
  · have hxs := hx
    obtain ⟨ad, xcap, rfl, h2, h3, h4, h5, h6⟩ := hx
    obtain ⟨b, bo, he, hc⟩ := h6 hne
    subst he
    have hnews := hxs.news hk
    have hlf := length_flatten_of h4
    have hle := length_flatten_of h.each
    have hall : ∀ y ∈ es ++ fs, y.length = k := fun y hy => by
      rcases List.mem_append.1 hy with hy | hy
      · exact h.each y hy
      · exact h4 y hy
    have hokc : (o + cap) * k = o * k + cap * k := Nat.add_mul _ _ _
    have hf1 : ∀ u ∈ fs.flatten, u.oneCell' = true := fun u hu' => by obtain ⟨f, hf, hfu⟩ := List.mem_flatten.1 hu'; exact h1 f hf u hfu
    by_cases hroom : es.length + fs.length ≤ cap
    · have hfit : o * k + es.length * k + fs.flatten.length ≤ cur.size := by
        have : (es.length + fs.length) * k ≤ cap * k := Nat.mul_le_mul_right k hroom
        rw [Nat.add_mul] at this
        omega
      have hf := run_firstCells_some (P := P) w i.size fs.length ⟨b, bo, none⟩ fs.length xcap fs.flatten (by rw [hlf, hs]) hnews
      have hst := run_storeCells_G P g (o * k + es.length * k) e fz fs.flatten 0 cur w hg hfz (by simpa using hfit) hf1
      simp only [Nat.add_zero] at hst
      have hr : (Builtin.append_ #[t, t] ty #[.slice (some ⟨g, o * k, none⟩) es.length cap, .slice (some ⟨b, bo, none⟩) fs.length xcap]).run P w =
          .ok (.slice (some ⟨g, o * k, none⟩) (es.length + fs.length) cap) (w.setRow g (cur.toList.take (o * k + es.length * k) ++ fs.flatten ++ cur.toList.drop (o * k + es.length * k + fs.flatten.length)).toArray) := by
        simp [Builtin.append_, run_underlying hu, sizeOf, typeInfo, hi, Builtin.lenOf, hroom, hf, add_none, hs]
        rw [hs] at hf
        simp [hf, hst]
      refine ⟨_, _, hr, ⟨.inr ⟨g, o, cap, _, fz, by rw [List.length_append], hbg, setRow_heap w g cur _ e _ hg, ?_, by rw [List.length_append]; exact hroom, hcm, ?_, ?_⟩, hall⟩, ⟨rfl, rfl, rfl, by simp, fun k _ hk => setRow_other w g k _ (fun e => hk (by simp [Value.ownBlock, e])), Nat.le_refl _⟩, .inl rfl⟩
      · simp only [List.size_toArray, List.length_append, List.length_take, List.length_drop, Array.length_toList]
        omega
      · simp only [List.size_toArray, List.length_append, List.length_take, List.length_drop, Array.length_toList]
        omega
      · have e1 : cur.toList.take (o * k + es.length * k) = cur.toList.take (o * k) ++ es.flatten := by
          rw [List.take_add, htake]
        have hok : (cur.toList.take (o * k)).length = o * k := by simp; omega
        rw [e1, List.toList_toArray, List.append_assoc, List.append_assoc, List.drop_append, hok, Nat.sub_self, List.drop_zero, List.drop_of_length_le (by omega), List.nil_append, List.flatten_append, ← List.append_assoc]
        have e2 : (es ++ fs).length * k = (es.flatten ++ fs.flatten).length := by rw [List.length_append, List.length_append, Nat.add_mul, hle, hlf]
        rw [e2]
        exact List.take_left
    · have holds : ∀ j u, es.flatten[j]? = some u → w.cell? ((⟨g, o * k, none⟩ : Addr).add j) = some u := by
        intro j u hj
        rw [← htake, List.getElem?_take] at hj
        split at hj
        · rw [List.getElem?_drop] at hj
          rw [add_none]
          simp only [World.cell?, hg]
          simpa [Array.getElem?_toList] using hj
        · cases hj
      have hr := run_append_grow (P := P) (ty := ty) w t e i z hu hi hz ⟨g, o * k, none⟩ es.length cap es.flatten (by rw [hle, hs]) holds ⟨b, bo, none⟩ fs.length xcap fs.flatten (by rw [hlf, hs]) hnews (by omega) (by omega) (growslice_fits (by omega) (by rw [hby]; exact hb))
      have hge := grownCap_ge w (es.length + fs.length) cap e
      have hcm' : grownCap w (es.length + fs.length) cap e ≤ maxLen := grownCap_le_maxLen w (es.length + fs.length) cap e (by unfold maxLen; omega)
      have hlen : (es ++ fs).flatten.length = (es ++ fs).length * k := length_flatten_of hall
      refine ⟨_, _, hr, (show Own B k e _ _ (es ++ fs) from ⟨⟨hlen, .inr ⟨w.heap.size, _, _, (0, 0), by rw [List.length_append], hB, heap_alloc_new w.drew _, .inl (Nat.le_refl _), by rw [List.length_append]; exact hge, hcm', ?_, ?_⟩⟩, hall⟩).off, ⟨rfl, rfl, rfl, by simp, fun k hk _ => (Ext.alloc w.drew _).block k hk, Nat.le_succ _⟩, .inr rfl⟩
      · simp only [Array.size_append, List.size_toArray, size_zeroCells, hzc, hle, hlf, ← Nat.add_mul]
        congr 1
        omega
      · simp only [Array.toList_append, List.append_assoc]
        rw [← List.append_assoc, ← List.flatten_append, ← hlen]
        exact List.take_left
section
variable {P : Program} {ops : Array Oper} {Q : Exit → Act → World → Prop} {w : World} {rest : List Oper} {ts : List Value} {df : List Deferred} {ty : TypeId} {ps : String} {af : Array Edge}
theorem wpl_appendOff {t e k B d : Nat} {x0 y : Operand} {v0 x : Value} {es fs : List (List Value)} (h0 : (Act.mk ts.toArray df).eval x0 = v0)
    (h : OwnOff B k e w v0 es) (hy : (Act.mk ts.toArray df).eval y = x) (hx : Sl k w x fs) (hne : fs ≠ []) (h1 : ∀ f ∈ fs, ∀ u ∈ f, u.oneCell' = true)
    (hB : B ≤ w.heap.size) (hm : es.length + fs.length ≤ 1000000)
    (hk : ∀ v' w', OwnOff B k e w' v' (es ++ fs) → Mv v0.ownBlock w w' → (v'.ownBlock = v0.ownBlock ∨ v'.ownBlock = some w.heap.size) → wpList P ops Q rest (Act.mk (ts.set d v').toArray df) w')
    (ht : appTy P t e k (bytesOf P e) = true := by decide +kernel) (hby : bytesOf P e ≤ 1000000 := by decide +kernel) :
    wpList P ops Q (Oper.mk (some d) (.call ⟨.builtin .append, #[x0, y], #[t, t]⟩) ty ps af none :: rest) (Act.mk ts.toArray df) w := by
  have hb : (es.length + fs.length) * bytesOf P e ≤ 140737488355328 :=
    calc (es.length + fs.length) * bytesOf P e ≤ 1000000 * 1000000 := Nat.mul_le_mul hm hby
      _ ≤ _ := by decide
  obtain ⟨v', w', hr, ho, hmv, hkin⟩ := run_appendOff (ty := ty) ht h hx hne h1 hB hb (by omega)
  refine wpl_val rfl ?_ (hk v' w' ho hmv hkin)
  simp [execOp, resolve, invoke, builtin, h0, hy, hr]
end
theorem Pts.front {w : World} {p : Value} {vs : List Value} (h : Pts w p vs) (n : Nat) : Pts w p (vs.take n) := by
  obtain ⟨b, o, e, hc⟩ := h
  refine ⟨b, o, e, fun j x hx => hc j x ?_⟩
  rw [List.getElem?_take] at hx
  split at hx
  · exact hx
  · cases hx
section
variable {P : Program} {w : World} {ts : List Value} {df : List Deferred} {d : Option Nat} {ty : TypeId} {ps : String} {af : Array Edge} {g : Option (Nat × Bool)}
theorem Runs.fieldJ {s : TypeId} {m n off : Nat} {ad : Addr} (hx : ts.getD m undef = .pointer (some ad)) (hf : fieldIs P s n off = true) :
    Runs P (Oper.mk d (.fieldAddr s (.tmp m) n) ty ps af g) (Act.mk ts.toArray df) w (partPtr (.pointer (some ad)) off) := by
  obtain ⟨fs, f, i, ht, hf, ho, hie, hz⟩ := fieldIs_spec hf
  have hx' : (Act.mk ts.toArray df).eval (.tmp m) = .pointer (some ad) := by rw [evalT]; exact hx
  constructor
  simp [execOp, hx', Instr.fieldAt, Instr.sureAddr, run_underlying ht, hf, fieldPlace, sizeOf, typeInfo, hie, hz, partPtr, ho]
end
set_option maxHeartbeats 1000000 in
theorem t15 (a b : RSet) (u v : Value) (w : World) (hu : Sl 1 w u (tcells a.data)) (hv : Sl 1 w v (tcells b.data)) : Calls Tryz.prog 112 #[.agg #[str a.name, .int .i64 a.kind, .int .i64 a.ttl, u], .agg #[str b.name, .int .i64 b.kind, .int .i64 b.ttl, v]] w (RetV w (.bool (decide (a = b)))) := by
  have hab : a = b ↔ a.name = b.name ∧ a.kind = b.kind ∧ a.ttl = b.ttl ∧ a.data = b.data := by
    cases a; cases b; simp
  go_enter Tryz.func112, Tryz.ntmps112
  repeat' ((fail_if_success (with_reducible refine o_s ?_)); go_step)
  refine wpl_box (vs := [str a.name, .int .i64 a.kind, .int .i64 a.ttl, u]) rfl rfl ?_
  intro p w1 x1 hp
  refine gset ?_
  refine wpl_box (vs := [str b.name, .int .i64 b.kind, .int .i64 b.ttl, v]) rfl rfl ?_
  intro q w2 x2 hq
  refine gset ?_
  have hu2 := hu.ext (x1.trans x2)
  have hv2 := hv.ext (x1.trans x2)
  repeat' (first | ((with_reducible refine o_s ?_); (first | (refine o_1 ?_; refine o_2 ?_) | (refine o_g ?_; first | refine o_u ?_ | refine o_k ?_ | refine o_n ?_ | refine o_v ?_ | ((first | refine o_G ?_ ?_ | refine o_N ?_ ?_) <;> intro hc)))) | ((fail_if_success (with_reducible refine o_s ?_)); go_step))
  · refine wpl_callV (enters_of Tryz.func156 rfl rfl) rfl rfl (t25 _ _ _ _ _ hu2 hv2) ?_; intro w3 x3; refine gset ?_
    repeat' (first | ((with_reducible refine o_s ?_); (first | (refine o_1 ?_; refine o_2 ?_) | (refine o_g ?_; first | refine o_u ?_ | refine o_k ?_ | refine o_n ?_ | refine o_v ?_ | ((first | refine o_G ?_ ?_ | refine o_N ?_ ?_) <;> intro hc)))) | ((fail_if_success (with_reducible refine o_s ?_)); go_step))
    go_ret
    refine ⟨?_, by exact extc⟩
    have : decide (a = b) = decide (a.data = b.data) := by
      apply decide_eq_decide.2
      rw [hab]
      simp only [‹a.name = b.name›, ‹a.kind = b.kind›, ‹a.ttl = b.ttl›, true_and]
    rw [this]
    rfl
  · go_ret
    refine ⟨?_, by exact extc⟩
    have : ¬ a = b := by rw [hab]; have := ‹¬a.ttl = b.ttl›; simp [this]
    simp [this]
  · go_ret
    refine ⟨?_, by exact extc⟩
    have : ¬ a = b := by rw [hab]; have := ‹¬a.kind = b.kind›; simp [this]
    simp [this]
  · go_ret
    refine ⟨?_, by exact extc⟩
    have : ¬ a = b := by rw [hab]; have := ‹¬a.name = b.name›; simp [this]
    simp [this]
set_option maxHeartbeats 1000000 in
theorem t11 (u v : Value) (a b : List RSet) (w : World) (hu : SetsAt w u a) (hv : SetsAt w v b) : Calls Tryz.prog 80 #[u, v] w (RetV w (.bool (decide (a = b)))) := by
  obtain ⟨cu, hu1, hul⟩ := hu.sl
  obtain ⟨cv, hv1, hvl⟩ := hv.sl
  have hal := hu1.le
  go_enter Tryz.func80, Tryz.ntmps80
  repeat' (first | ((with_reducible refine o_s ?_); (first | (refine o_1 ?_; refine o_2 ?_) | (refine o_g ?_; first | refine o_u ?_ | refine o_k ?_ | refine o_n ?_ | refine o_v ?_ | ((first | refine o_G ?_ ?_ | refine o_N ?_ ?_) <;> intro hc)))) | ((fail_if_success (with_reducible refine o_s ?_)); go_step))
  · have hne := ‹(!decide ((cu.length : Int) = (cv.length : Int))) = true›
    go_ret
    refine ⟨?_, Ext.refl _⟩
    have : a ≠ b := by rintro rfl; simp at hne; omega
    simp [this]
  · have hne := ‹(!decide ((cu.length : Int) = (cv.length : Int))) = false›
    have hlen : a.length = b.length := by simp at hne; omega
    go_loopw [5] (fun i wr => ∃ k : Nat, k ≤ a.length ∧ i = .int .i64 k ∧ Ext w wr ∧ a.take k = b.take k) (fun i _ => a.length - (intOf i).toNat)
    case atStart => exact ⟨0, Nat.zero_le _, rfl, Ext.refl _, rfl⟩
    case round =>
      obtain ⟨k, hk, rfl, hx, hall⟩ := hrel
      by_cases hlt : k < a.length
      · have hlt2 : k < b.length := by omega
        obtain ⟨x, h1, h1d⟩ := (hu.ext hx).elem (List.getElem?_eq_getElem hlt)
        obtain ⟨y, h2, h2d⟩ := (hv.ext hx).elem (List.getElem?_eq_getElem hlt2)
        have hu2 := hu1.ext hx
        have hv2 := hv1.ext hx
        repeat' (first | ((with_reducible refine o_s ?_); (first | (refine o_1 ?_; refine o_2 ?_) | (refine o_g ?_; first | refine o_u ?_ | refine o_k ?_ | refine o_n ?_ | refine o_v ?_ | ((first | refine o_G ?_ ?_ | refine o_N ?_ ?_) <;> intro hc)))) | ((fail_if_success (with_reducible refine o_s ?_)); go_step))
        refine wph_region (S := Ext wr) (by decide +kernel) ?_
        intro w2 x2 _
        refine tk 0 ?_; refine gset ?_; refine tk 1 ?_; refine gset ?_; refine tk 2 ?_; refine gset ?_; refine tk 3 ?_; refine gset ?_; refine tk 4 ?_; refine gset ?_; refine tk 5 ?_; refine gset ?_; refine tk 6 ?_; refine gset ?_; refine tk 7 ?_; refine gset ?_
        refine wph_one (i := 8) (by decide +kernel) rfl rfl ?_
        refine wpl_callV (enters_of Tryz.func112 rfl rfl) rfl rfl (t15 a[k] b[k] _ _ _ (h1d.ext x2) (h2d.ext x2)) ?_; intro w3 x3; refine gset ?_
        refine wph_nil ⟨by exact extc, ?_⟩
        refine tk 9 ?_; refine gset ?_
        refine wph_done (by decide +kernel) ?_
        by_cases he : a[k] = b[k]
        · have e1 : decide (a[k] = b[k]) = true := decide_eq_true he
          simp only [e1, Bool.not_true]
          repeat' (first | ((with_reducible refine o_s ?_); (first | (refine o_1 ?_; refine o_2 ?_) | (refine o_g ?_; first | refine o_u ?_ | refine o_k ?_ | refine o_n ?_ | refine o_v ?_ | ((first | refine o_G ?_ ?_ | refine o_N ?_ ?_) <;> intro hc)))) | ((fail_if_success (with_reducible refine o_s ?_)); go_step))
          exact ⟨⟨k + 1, by omega, rfl, by exact extc, take_succ_eq hall hlt hlt2 he⟩, by simp [intOf]; omega⟩
        · have e1 : decide (a[k] = b[k]) = false := decide_eq_false he
          simp only [e1, Bool.not_false]
          repeat' (first | ((with_reducible refine o_s ?_); (first | (refine o_1 ?_; refine o_2 ?_) | (refine o_g ?_; first | refine o_u ?_ | refine o_k ?_ | refine o_n ?_ | refine o_v ?_ | ((first | refine o_G ?_ ?_ | refine o_N ?_ ?_) <;> intro hc)))) | ((fail_if_success (with_reducible refine o_s ?_)); go_step))
          go_ret
          refine ⟨?_, by exact extc⟩
          simp [ne_of_at hlt hlt2 he]
      · have hk2 : k = a.length := by omega
        subst hk2
        repeat' (first | ((with_reducible refine o_s ?_); (first | (refine o_1 ?_; refine o_2 ?_) | (refine o_g ?_; first | refine o_u ?_ | refine o_k ?_ | refine o_n ?_ | refine o_v ?_ | ((first | refine o_G ?_ ?_ | refine o_N ?_ ?_) <;> intro hc)))) | ((fail_if_success (with_reducible refine o_s ?_)); go_step))
        go_ret
        refine ⟨?_, by exact extc⟩
        rw [List.take_length, hlen, List.take_length] at hall
        simp [hall]
theorem all_no {α : Type} {p : α → Bool} {l : List α} {k : Nat} (h : k < l.length) (hp : p l[k] = false) : l.all p = false := by
  rw [List.all_eq_false]
  exact ⟨l[k], List.getElem_mem h, by simp [hp]⟩
theorem all_take {α : Type} {p : α → Bool} {l : List α} {k : Nat} (h : k < l.length) (ha : (l.take k).all p = true) (hp : p l[k] = true) : (l.take (k + 1)).all p = true := by
  rw [List.take_add_one, List.getElem?_eq_getElem h, List.all_append, ha]
  simp [hp]
def fewAt (s : RSet) : Bool := decide (s.data.length ≤ 12) && decide (s.name.length ≤ 300) && s.data.all fun d => decide (d.length ≤ 300)
def fewS (l : List RSet) : Bool := decide (l.length ≤ 25) && l.all fewAt
set_option maxHeartbeats 2000000 in
theorem t14 (v : Value) (l : List RSet) (w : World) (hv : SetsAt w v l) : Calls Tryz.prog 71 #[v] w (RetV w (.bool (fewS l))) := by
  obtain ⟨cv, hv1, hvl⟩ := hv.sl
  have hle := hv1.le
  go_enter Tryz.func71, Tryz.ntmps71
  repeat' (first | ((with_reducible refine o_s ?_); (first | (refine o_1 ?_; refine o_2 ?_) | (refine o_g ?_; first | refine o_u ?_ | refine o_k ?_ | refine o_n ?_ | refine o_v ?_ | ((first | refine o_G ?_ ?_ | refine o_N ?_ ?_) <;> intro hc)))) | ((fail_if_success (with_reducible refine o_s ?_)); go_step))
  · go_ret
    refine ⟨?_, Ext.refl _⟩
    have : decide (l.length ≤ 25) = false := decide_eq_false (by omega)
    simp [fewS, this]
  · have h25 : decide (l.length ≤ 25) = true := decide_eq_true (by omega)
    go_loopw [3, 4] (fun i _ wr => ∃ k : Nat, k ≤ l.length ∧ i = .int .i64 k ∧ Ext w wr ∧ (l.take k).all fewAt = true) (fun i _ _ => l.length - (intOf i).toNat)
    case atStart => exact ⟨0, Nat.zero_le _, rfl, Ext.refl _, rfl⟩
    case round =>
      obtain ⟨k, hk, rfl, hx, hall⟩ := hrel
      have hv2 := hv1.ext hx
      by_cases hlt : k < l.length
      · obtain ⟨x, h1, h1d⟩ := (hv.ext hx).elem (List.getElem?_eq_getElem hlt)
        have hdl := tcells_length l[k].data
        have hdle := h1d.le
        repeat' (first | ((with_reducible refine o_s ?_); (first | (refine o_1 ?_; refine o_2 ?_) | (refine o_g ?_; first | refine o_u ?_ | refine o_k ?_ | refine o_n ?_ | refine o_v ?_ | ((first | refine o_G ?_ ?_ | refine o_N ?_ ?_) <;> intro hc)))) | ((fail_if_success (with_reducible refine o_s ?_)); go_step))
        · go_ret
          refine ⟨?_, by exact extc⟩
          have : fewAt l[k] = false := by
            have : decide (l[k].name.length ≤ 300) = false := decide_eq_false (by omega)
            simp [fewAt, this]
          simp [fewS, all_no hlt this]
        · have e1 : decide (l[k].data.length ≤ 12) = true := decide_eq_true (by omega)
          have e2 : decide (l[k].name.length ≤ 300) = true := decide_eq_true (by omega)
          go_loopw [4] (fun i wq => ∃ j : Nat, j ≤ l[k].data.length ∧ i = .int .i64 j ∧ Ext wr wq ∧ (l[k].data.take j).all (fun d => decide (d.length ≤ 300)) = true) (fun i _ => l[k].data.length - (intOf i).toNat)
          case atStart => exact ⟨0, Nat.zero_le _, rfl, Ext.refl _, rfl⟩
          case round =>
            obtain ⟨j, hj, rfl, hx2, hall2⟩ := hrel
            have hv3 := hv2.ext hx2
            have h1b := h1.ext hx2
            have h1c := h1d.ext hx2
            by_cases hlt2 : j < l[k].data.length
            · have h3 := h1c.elem (tcells_at hlt2)
              repeat' (first | ((with_reducible refine o_s ?_); (first | (refine o_1 ?_; refine o_2 ?_) | (refine o_g ?_; first | refine o_u ?_ | refine o_k ?_ | refine o_n ?_ | refine o_v ?_ | ((first | refine o_G ?_ ?_ | refine o_N ?_ ?_) <;> intro hc)))) | ((fail_if_success (with_reducible refine o_s ?_)); go_step))
              · go_ret
                refine ⟨?_, by exact extc⟩
                have : fewAt l[k] = false := by
                  have : l[k].data.all (fun d => decide (d.length ≤ 300)) = false := all_no hlt2 (decide_eq_false (by omega))
                  simp only [fewAt, this, Bool.and_false]
                simp [fewS, all_no hlt this]
              · exact ⟨⟨j + 1, by omega, rfl, by exact extc, all_take hlt2 hall2 (decide_eq_true (by omega))⟩, by simp [intOf]; omega⟩
            · have hj2 : j = l[k].data.length := by omega
              subst hj2
              repeat' (first | ((with_reducible refine o_s ?_); (first | (refine o_1 ?_; refine o_2 ?_) | (refine o_g ?_; first | refine o_u ?_ | refine o_k ?_ | refine o_n ?_ | refine o_v ?_ | ((first | refine o_G ?_ ?_ | refine o_N ?_ ?_) <;> intro hc)))) | ((fail_if_success (with_reducible refine o_s ?_)); go_step))
              rw [List.take_length] at hall2
              exact ⟨⟨k + 1, by omega, rfl, by exact extc, all_take hlt hall (by rw [fewAt, e1, e2, hall2]; rfl)⟩, by simp [intOf]; omega⟩
        · go_ret
          refine ⟨?_, by exact extc⟩
          have : fewAt l[k] = false := by
            have : decide (l[k].data.length ≤ 12) = false := decide_eq_false (by omega)
            simp [fewAt, this]
          simp [fewS, all_no hlt this]
      · have hk2 : k = l.length := by omega
        subst hk2
        repeat' (first | ((with_reducible refine o_s ?_); (first | (refine o_1 ?_; refine o_2 ?_) | (refine o_g ?_; first | refine o_u ?_ | refine o_k ?_ | refine o_n ?_ | refine o_v ?_ | ((first | refine o_G ?_ ?_ | refine o_N ?_ ?_) <;> intro hc)))) | ((fail_if_success (with_reducible refine o_s ?_)); go_step))
        go_ret
        refine ⟨?_, by exact extc⟩
        rw [List.take_length] at hall
        rw [fewS, h25, hall]
        rfl
theorem t27 (nm : List UInt8) (w : World) : Calls Tryz.prog 83 #[str nm] w (RetV w (.int .i64 (if (labels nm).isSome then 0 else 1))) := by
  go_enter Tryz.func83, Tryz.ntmps83
  repeat' (first | ((with_reducible refine o_s ?_); (first | (refine o_1 ?_; refine o_2 ?_) | (refine o_g ?_; first | refine o_u ?_ | refine o_k ?_ | refine o_n ?_ | refine o_v ?_ | ((first | refine o_G ?_ ?_ | refine o_N ?_ ?_) <;> intro hc)))) | ((fail_if_success (with_reducible refine o_s ?_)); go_step))
  refine wpl_callR (enters_of Tryz.func114 rfl rfl) rfl rfl (t28 nm _) ?_
  intro v w1 x1 hv
  cases hl : labels nm with
  | none =>
    rw [hl] at hv
    subst hv
    repeat' (first | ((with_reducible refine o_s ?_); (first | (refine o_1 ?_; refine o_2 ?_) | (refine o_g ?_; first | refine o_u ?_ | refine o_k ?_ | refine o_n ?_ | refine o_v ?_ | ((first | refine o_G ?_ ?_ | refine o_N ?_ ?_) <;> intro hc)))) | ((fail_if_success (with_reducible refine o_s ?_)); go_step))
    go_ret
    exact ⟨by simp [hl], x1⟩
  | some ls =>
    rw [hl] at hv
    obtain ⟨s, rfl, _⟩ := hv
    repeat' (first | ((with_reducible refine o_s ?_); (first | (refine o_1 ?_; refine o_2 ?_) | (refine o_g ?_; first | refine o_u ?_ | refine o_k ?_ | refine o_n ?_ | refine o_v ?_ | ((first | refine o_G ?_ ?_ | refine o_N ?_ ?_) <;> intro hc)))) | ((fail_if_success (with_reducible refine o_s ?_)); go_step))
    go_ret
    exact ⟨by simp [hl], x1⟩
theorem t87 (nm : List UInt8) (w : World) (hl : nm.length ≤ 9223372036854775806) : Calls Tryz.prog 149 #[str nm] w (RetV w (if (labels nm).isSome = true then .tuple #[str (nm ++ [0]), .int .i64 0] else .tuple #[str [], .int .i64 1])) := by
  have h27 := fun w => t27 nm w
  cases hls : labels nm with
  | none =>
    simp only [hls, Option.isSome_none, Bool.false_eq_true, if_false] at h27 ⊢
    go_enter Tryz.func149, Tryz.ntmps149
    repeat' (first | ((with_reducible refine o_s ?_); (first | (refine o_1 ?_; refine o_2 ?_) | (refine o_g ?_; first | refine o_u ?_ | refine o_k ?_ | refine o_n ?_ | refine o_v ?_ | ((first | refine o_G ?_ ?_ | refine o_N ?_ ?_) <;> intro hc)))) | ((fail_if_success (with_reducible refine o_s ?_)); go_step))
    refine wpl_callV (enters_of Tryz.func83 rfl rfl) rfl rfl (h27 _) ?_
    intro w1 x1
    repeat' (first | ((with_reducible refine o_s ?_); (first | (refine o_1 ?_; refine o_2 ?_) | (refine o_g ?_; first | refine o_u ?_ | refine o_k ?_ | refine o_n ?_ | refine o_v ?_ | ((first | refine o_G ?_ ?_ | refine o_N ?_ ?_) <;> intro hc)))) | ((fail_if_success (with_reducible refine o_s ?_)); go_step))
    go_ret2
    exact ⟨rfl, x1⟩
  | some ls =>
    simp only [hls, Option.isSome_some, if_true] at h27 ⊢
    go_enter Tryz.func149, Tryz.ntmps149
    repeat' (first | ((with_reducible refine o_s ?_); (first | (refine o_1 ?_; refine o_2 ?_) | (refine o_g ?_; first | refine o_u ?_ | refine o_k ?_ | refine o_n ?_ | refine o_v ?_ | ((first | refine o_G ?_ ?_ | refine o_N ?_ ?_) <;> intro hc)))) | ((fail_if_success (with_reducible refine o_s ?_)); go_step))
    refine wpl_callV (enters_of Tryz.func83 rfl rfl) rfl rfl (h27 _) ?_
    intro w1 x1
    repeat' (first | ((with_reducible refine o_s ?_); (first | (refine o_1 ?_; refine o_2 ?_) | (refine o_g ?_; first | refine o_u ?_ | refine o_k ?_ | refine o_n ?_ | refine o_v ?_ | ((first | refine o_G ?_ ?_ | refine o_N ?_ ?_) <;> intro hc)))) | ((fail_if_success (with_reducible refine o_s ?_)); go_step))
    go_ret2
    exact ⟨rfl, x1⟩
theorem t72 (s : List UInt8) (w : World) (hl : s.length ≤ 9223372036854775807) : Calls Tryz.prog 171 #[str s] w (RetV w (.tuple #[str ((hostN s).getD []), .bool (hostN s).isSome])) := by
  have h27 := fun w => t27 (Lib.trimSuffix s [0]) w
  go_enter Tryz.func171, Tryz.ntmps171
  repeat' (first | ((with_reducible refine o_s ?_); (first | (refine o_1 ?_; refine o_2 ?_) | (refine o_g ?_; first | refine o_u ?_ | refine o_k ?_ | refine o_n ?_ | refine o_v ?_ | ((first | refine o_G ?_ ?_ | refine o_N ?_ ?_) <;> intro hc)))) | ((fail_if_success (with_reducible refine o_s ?_)); go_step))
  refine wpl_callG (vs := [str s, str [0]]) (enters_of Tryz.func193 rfl rfl) rfl rfl (Tryz.strings_CutSuffix ⟨s.toArray⟩ ⟨[0].toArray⟩ _ (by rw [size_mk]; exact hl)) ?_
  rintro e w1 ⟨rfl, rfl⟩
  refine ⟨_, rfl, ?_⟩
  refine gset ?_
  cases hh : Lib.hasSuffix s [0] with
  | false =>
    repeat' (first | ((with_reducible refine o_s ?_); (first | (refine o_1 ?_; refine o_2 ?_) | (refine o_g ?_; first | refine o_u ?_ | refine o_k ?_ | refine o_n ?_ | refine o_v ?_ | ((first | refine o_G ?_ ?_ | refine o_N ?_ ?_) <;> intro hc)))) | ((fail_if_success (with_reducible refine o_s ?_)); go_step))
    go_ret2
    refine ⟨?_, Ext.refl _⟩
    simp only [hostN, hh, Bool.false_eq_true, false_and, if_false]
    rfl
  | true =>
    cases hls : labels (Lib.trimSuffix s [0]) with
    | none =>
      simp only [hls, Option.isSome_none, Bool.false_eq_true, if_false] at h27
      repeat' (first | ((with_reducible refine o_s ?_); (first | (refine o_1 ?_; refine o_2 ?_) | (refine o_g ?_; first | refine o_u ?_ | refine o_k ?_ | refine o_n ?_ | refine o_v ?_ | ((first | refine o_G ?_ ?_ | refine o_N ?_ ?_) <;> intro hc)))) | ((fail_if_success (with_reducible refine o_s ?_)); go_step))
      all_goals try (exact absurd ‹false = true› Bool.false_ne_true)
      refine wpl_callV (enters_of Tryz.func83 rfl rfl) rfl rfl (h27 _) ?_
      intro w2 x2
      repeat' (first | ((with_reducible refine o_s ?_); (first | (refine o_1 ?_; refine o_2 ?_) | (refine o_g ?_; first | refine o_u ?_ | refine o_k ?_ | refine o_n ?_ | refine o_v ?_ | ((first | refine o_G ?_ ?_ | refine o_N ?_ ?_) <;> intro hc)))) | ((fail_if_success (with_reducible refine o_s ?_)); go_step))
      go_ret2
      refine ⟨?_, x2⟩
      simp only [hostN, hh, hls, Option.isSome_none, Bool.false_eq_true, and_false, if_false]
      rfl
    | some ls =>
      simp only [hls, Option.isSome_some, if_true] at h27
      repeat' (first | ((with_reducible refine o_s ?_); (first | (refine o_1 ?_; refine o_2 ?_) | (refine o_g ?_; first | refine o_u ?_ | refine o_k ?_ | refine o_n ?_ | refine o_v ?_ | ((first | refine o_G ?_ ?_ | refine o_N ?_ ?_) <;> intro hc)))) | ((fail_if_success (with_reducible refine o_s ?_)); go_step))
      all_goals try (exact absurd ‹false = true› Bool.false_ne_true)
      refine wpl_callV (enters_of Tryz.func83 rfl rfl) rfl rfl (h27 _) ?_
      intro w2 x2
      repeat' (first | ((with_reducible refine o_s ?_); (first | (refine o_1 ?_; refine o_2 ?_) | (refine o_g ?_; first | refine o_u ?_ | refine o_k ?_ | refine o_n ?_ | refine o_v ?_ | ((first | refine o_G ?_ ?_ | refine o_N ?_ ?_) <;> intro hc)))) | ((fail_if_success (with_reducible refine o_s ?_)); go_step))
      go_ret2
      refine ⟨?_, x2⟩
      simp only [hostN, hh, hls, Option.isSome_some, and_self, if_true]
      rfl
theorem t71 (k : Int) (w : World) : Calls Tryz.prog 170 #[.int .i64 k] w (RetV w (.int .i64 (ahead k))) := by
  go_enter Tryz.func170, Tryz.ntmps170
  repeat' (first | ((with_reducible refine o_s ?_); (first | (refine o_1 ?_; refine o_2 ?_) | (refine o_g ?_; first | refine o_u ?_ | refine o_k ?_ | refine o_n ?_ | refine o_v ?_ | ((first | refine o_G ?_ ?_ | refine o_N ?_ ?_) <;> intro hc)))) | ((fail_if_success (with_reducible refine o_s ?_)); go_step))
  all_goals
    go_ret
    refine ⟨?_, Ext.refl _⟩
    simp [ahead, *]
theorem t37 (s : List UInt8) (w : World) (hl : s.length ≤ 4611686018427387904) : Calls Tryz.prog 196 #[str s] w (RetV w (.bool (textsB s))) := by
  go_enter Tryz.func196, Tryz.ntmps196
  repeat' (first | ((with_reducible refine o_s ?_); (first | (refine o_1 ?_; refine o_2 ?_) | (refine o_g ?_; first | refine o_u ?_ | refine o_k ?_ | refine o_n ?_ | refine o_v ?_ | ((first | refine o_G ?_ ?_ | refine o_N ?_ ?_) <;> intro hc)))) | ((fail_if_success (with_reducible refine o_s ?_)); go_step))
  go_loopw [0] (fun s2 wr => wr = w ∧ ∃ r : List UInt8, s2 = str r ∧ r.length ≤ s.length ∧ textsN s = textsN r) (fun s2 _ => strLen s2)
  case atStart => exact ⟨rfl, s, rfl, Nat.le_refl _, rfl⟩
  case round =>
    obtain ⟨rfl, r, rfl, hr, hrec⟩ := hrel
    cases r with
    | nil =>
      repeat' (first | ((with_reducible refine o_s ?_); (first | (refine o_1 ?_; refine o_2 ?_) | (refine o_g ?_; first | refine o_u ?_ | refine o_k ?_ | refine o_n ?_ | refine o_v ?_ | ((first | refine o_G ?_ ?_ | refine o_N ?_ ?_) <;> intro hc)))) | ((fail_if_success (with_reducible refine o_s ?_)); go_step))
      go_ret
      refine ⟨?_, Ext.refl _⟩
      rw [textsB, hrec]
      simp [textsN, textsF]
    | cons k t =>
      have hk : k.toNat < 256 := k.toNat_lt
      have hne : s ≠ [] := by intro e; subst e; simp at hr
      repeat' (first | ((with_reducible refine o_s ?_); (first | (refine o_1 ?_; refine o_2 ?_) | (refine o_g ?_; first | refine o_u ?_ | refine o_k ?_ | refine o_n ?_ | refine o_v ?_ | ((first | refine o_G ?_ ?_ | refine o_N ?_ ?_) <;> intro hc)))) | ((fail_if_success (with_reducible refine o_s ?_)); go_step))
      · have hc := ‹((k :: t).length : Int) < 1 + (k.toNat : Int)›
        go_ret
        refine ⟨?_, Ext.refl _⟩
        rw [textsB, hrec, textsN_cons, if_pos (by simp at hc; omega)]
        simp
      · have hc := ‹1 + (k.toNat : Int) ≤ ((k :: t).length : Int)›
        have e : (1 + (k.toNat : Int)).toNat = k.toNat + 1 := by omega
        rw [e, List.drop_succ_cons]
        refine ⟨⟨trivial, _, rfl, by simp at hr ⊢; omega, ?_⟩, by simp [strLen_str]; omega⟩
        rw [hrec, textsN_cons, if_neg (by simp at hc; omega)]
theorem t39 (k : Int) (d : List UInt8) (w : World) (hl : d.length ≤ 9223372036854775807) : Calls Tryz.prog 131 #[.int .i64 k, str d] w (RetV w (.tuple #[str (parseHost k d).1, .int .i64 (parseHost k d).2])) := by
  go_enter Tryz.func131, Tryz.ntmps131
  repeat' (first | ((with_reducible refine o_s ?_); (first | (refine o_1 ?_; refine o_2 ?_) | (refine o_g ?_; first | refine o_u ?_ | refine o_k ?_ | refine o_n ?_ | refine o_v ?_ | ((first | refine o_G ?_ ?_ | refine o_N ?_ ?_) <;> intro hc)))) | ((fail_if_success (with_reducible refine o_s ?_)); go_step))
  refine wpl_callV (enters_of Tryz.func170 rfl rfl) rfl rfl (t71 _ _) ?_
  intro w1 x1
  repeat' (first | ((with_reducible refine o_s ?_); (first | (refine o_1 ?_; refine o_2 ?_) | (refine o_g ?_; first | refine o_u ?_ | refine o_k ?_ | refine o_n ?_ | refine o_v ?_ | ((first | refine o_G ?_ ?_ | refine o_N ?_ ?_) <;> intro hc)))) | ((fail_if_success (with_reducible refine o_s ?_)); go_step))
  · have hc := ‹ahead k < 0›
    go_ret2
    refine ⟨?_, x1⟩
    rw [parseHost, if_pos hc]
    rfl
  · have hc : ¬ ahead k < 0 := by have := ‹0 ≤ ahead k›; omega
    have hc2 := ‹(d.length : Int) < ahead k›
    go_ret2
    refine ⟨?_, x1⟩
    rw [parseHost, if_neg hc, if_pos hc2]
    rfl
  · have hc : ¬ ahead k < 0 := by have := ‹0 ≤ ahead k›; omega
    have hc2 : ¬ (d.length : Int) < ahead k := by have := ‹ahead k ≤ (d.length : Int)›; omega
    refine wpl_callV (enters_of Tryz.func171 rfl rfl) rfl rfl (t72 (d.drop (ahead k).toNat) _ (by simp; omega)) ?_
    intro w2 x2
    cases hh : hostN (d.drop (ahead k).toNat) with
    | none =>
      simp only [hh, Option.isSome_none, Option.getD_none]
      repeat' (first | ((with_reducible refine o_s ?_); (first | (refine o_1 ?_; refine o_2 ?_) | (refine o_g ?_; first | refine o_u ?_ | refine o_k ?_ | refine o_n ?_ | refine o_v ?_ | ((first | refine o_G ?_ ?_ | refine o_N ?_ ?_) <;> intro hc)))) | ((fail_if_success (with_reducible refine o_s ?_)); go_step))
      go_ret2
      refine ⟨?_, x1.trans x2⟩
      rw [parseHost, if_neg hc, if_neg hc2, hh]
      rfl
    | some n =>
      simp only [hh, Option.isSome_some, Option.getD_some]
      repeat' (first | ((with_reducible refine o_s ?_); (first | (refine o_1 ?_; refine o_2 ?_) | (refine o_g ?_; first | refine o_u ?_ | refine o_k ?_ | refine o_n ?_ | refine o_v ?_ | ((first | refine o_G ?_ ?_ | refine o_N ?_ ?_) <;> intro hc)))) | ((fail_if_success (with_reducible refine o_s ?_)); go_step))
      go_ret2
      refine ⟨?_, x1.trans x2⟩
      rw [parseHost, if_neg hc, if_neg hc2, hh]
      rfl
theorem getD_eq {s : List UInt8} {k : Nat} (h : k < s.length) : s.getD k 0 = s[k] := by simp [h]
theorem t68 (s : List UInt8) (w : World) (hl : s.length ≤ 4611686018427387904) : Calls Tryz.prog 143 #[str s] w (RetV w (.tuple #[str (firstN s).1, str (firstN s).2.1, .bool (firstN s).2.2])) := by
  go_enter Tryz.func143, Tryz.ntmps143
  repeat' (first | ((with_reducible refine o_s ?_); (first | (refine o_1 ?_; refine o_2 ?_) | (refine o_g ?_; first | refine o_u ?_ | refine o_k ?_ | refine o_n ?_ | refine o_v ?_ | ((first | refine o_G ?_ ?_ | refine o_N ?_ ?_) <;> intro hc)))) | ((fail_if_success (with_reducible refine o_s ?_)); go_step))
  go_loopw [5] (fun i wr => wr = w ∧ ∃ k : Nat, i = .int .i64 k ∧ k ≤ s.length + 256 ∧ walkN s = k + walkN (s.drop k)) (fun i _ => s.length + 256 - (intOf i).toNat)
  case atStart => exact ⟨rfl, 0, rfl, by omega, by simp⟩
  case round =>
    obtain ⟨rfl, k, rfl, hk, hrec⟩ := hrel
    by_cases hlt : k < s.length
    · have hd := List.drop_eq_getElem_cons hlt
      have hb : (s.getD k 0).toNat < 256 := UInt8.toNat_lt _
      have hg := getD_eq hlt
      repeat' (first | ((with_reducible refine o_s ?_); (first | (refine o_1 ?_; refine o_2 ?_) | (refine o_g ?_; first | refine o_u ?_ | refine o_k ?_ | refine o_n ?_ | refine o_v ?_ | ((first | refine o_G ?_ ?_ | refine o_N ?_ ?_) <;> intro hc)))) | ((fail_if_success (with_reducible refine o_s ?_)); go_step))
      · have hc := ‹(!decide (((s.getD k 0).toNat : Int) = 0)) = true›
        have hne : (s.getD k 0).toNat ≠ 0 := by simpa using hc
        go_roundw
        case rel =>
          refine ⟨trivial, k + (1 + (s.getD k 0).toNat), by congr 1, by omega, ?_⟩
          rw [hrec, hd, walkN_cons, ← hg, if_neg hne, List.drop_drop]
          rw [show k + 1 + (s.getD k 0).toNat = k + (1 + (s.getD k 0).toNat) by omega]
          omega
        case measure => simp only [intOf]; omega
      · have hc := ‹(!decide (((s.getD k 0).toNat : Int) = 0)) = false›
        have hz : (s.getD k 0).toNat = 0 := by simpa using hc
        have hw : walkN s = k := by rw [hrec, hd, walkN_cons, ← hg, if_pos hz]; rfl
        have hf : firstN s = ((hostN (s.take (k + 1))).getD [], s.drop (k + 1), (hostN (s.take (k + 1))).isSome) := by
          rw [firstN, hw, if_neg (by omega)]
        refine wpl_callV (enters_of Tryz.func171 rfl rfl) rfl rfl (t72 _ _ (by simp; omega)) ?_
        intro w2 x2
        refine gset ?_
        repeat' (first | ((with_reducible refine o_s ?_); (first | (refine o_1 ?_; refine o_2 ?_) | (refine o_g ?_; first | refine o_u ?_ | refine o_k ?_ | refine o_n ?_ | refine o_v ?_ | ((first | refine o_G ?_ ?_ | refine o_N ?_ ?_) <;> intro hc)))) | ((fail_if_success (with_reducible refine o_s ?_)); go_step))
        refine wpq_region (by decide +kernel) (by decide +kernel) ?_
        repeat' (first | ((first | (with_reducible apply wpq_run0) | ((with_reducible apply wpq_runG); (rfl); (rfl); (with_reducible rfl))); (intro _ _; exact rn); (refine gset ?_)) | ((with_reducible apply wpq_skipG); (rfl); (rfl); (first | (with_reducible exact (rfl : true = !false)) | (with_reducible exact (rfl : false = !true)) | (exact Bool.not_false.symm) | (exact Bool.not_true.symm)); (refine gset ?_)) | (with_reducible (apply wpq_nil)))
        intro w3 x3
        repeat' (first | ((with_reducible refine o_s ?_); (first | (refine o_1 ?_; refine o_2 ?_) | (refine o_g ?_; first | refine o_u ?_ | refine o_k ?_ | refine o_n ?_ | refine o_v ?_ | ((first | refine o_G ?_ ?_ | refine o_N ?_ ?_) <;> intro hc)))) | ((fail_if_success (with_reducible refine o_s ?_)); go_step))
        refine bodyPost_ret (results_tmp3 rfl _ _ _) rfl ⟨?_, x2.trans x3⟩
        rw [hf]
        rfl
    · repeat' (first | ((with_reducible refine o_s ?_); (first | (refine o_1 ?_; refine o_2 ?_) | (refine o_g ?_; first | refine o_u ?_ | refine o_k ?_ | refine o_n ?_ | refine o_v ?_ | ((first | refine o_G ?_ ?_ | refine o_N ?_ ?_) <;> intro hc)))) | ((fail_if_success (with_reducible refine o_s ?_)); go_step))
      refine bodyPost_ret (results_tmp3 rfl _ _ _) rfl ⟨?_, Ext.refl _⟩
      have hw : s.length ≤ walkN s := by omega
      rw [firstN, if_pos hw]
      rfl
theorem t69 (r : List UInt8) (i : Nat) (p : Value) (w : World) (hp : Pts w p [str r]) (hr : r.length = 20) (hi : i < 5) : Calls Tryz.prog 144 #[.int .i64 i, p] w (RetV w (.int .i64 (numP r i 4 : Nat))) := by
  go_enter Tryz.func144, Tryz.ntmps144
  repeat' (first | ((with_reducible refine o_s ?_); (first | (refine o_1 ?_; refine o_2 ?_) | (refine o_g ?_; first | refine o_u ?_ | refine o_k ?_ | refine o_n ?_ | refine o_v ?_ | ((first | refine o_G ?_ ?_ | refine o_N ?_ ?_) <;> intro hc)))) | ((fail_if_success (with_reducible refine o_s ?_)); go_step))
  go_loopw [4, 6] (fun n j wr => wr = w ∧ ∃ k : Nat, k ≤ 4 ∧ j = .int .i64 k ∧ n = .int .i64 (numP r i k : Nat)) (fun _ j _ => 4 - (intOf j).toNat)
  case atStart => exact ⟨rfl, 0, by omega, rfl, rfl⟩
  case round =>
    obtain ⟨rfl, k, hk, rfl, rfl⟩ := hrel
    by_cases hlt : k < 4
    · have hn := numP_lt r i k
      have hn2 : numP r i k * 256 < 4294967296 := by
        have : 256 ^ k ≤ 256 ^ 3 := Nat.pow_le_pow_right (by omega) (by omega)
        omega
      have hb : (r.getD (4 * i + k) 0).toNat < 256 := UInt8.toNat_lt _
      have hb2 : (r.getD (4 * (i : Int) + (k : Int)).toNat 0).toNat < 256 := UInt8.toNat_lt _
      have e3 : (4 * (i : Int) + (k : Int)).toNat = 4 * i + k := by omega
      repeat' (first | ((with_reducible refine o_s ?_); (first | (refine o_1 ?_; refine o_2 ?_) | (refine o_g ?_; first | refine o_u ?_ | refine o_k ?_ | refine o_n ?_ | refine o_v ?_ | ((first | refine o_G ?_ ?_ | refine o_N ?_ ?_) <;> intro hc)))) | ((fail_if_success (with_reducible refine o_s ?_)); go_step))
      refine ⟨⟨trivial, k + 1, by omega, rfl, ?_⟩, by simp [intOf]; omega⟩
      rw [numP]
    · have : k = 4 := by omega
      subst this
      repeat' (first | ((with_reducible refine o_s ?_); (first | (refine o_1 ?_; refine o_2 ?_) | (refine o_g ?_; first | refine o_u ?_ | refine o_k ?_ | refine o_n ?_ | refine o_v ?_ | ((first | refine o_G ?_ ?_ | refine o_N ?_ ?_) <;> intro hc)))) | ((fail_if_success (with_reducible refine o_s ?_)); go_step))
      go_ret
      exact ⟨rfl, Ext.refl _⟩
theorem wrapU (n : Nat) : IntKind.wrap .u8 (n : Int) = ((UInt8.ofNat n).toNat : Nat) := by
  simp only [IntKind.wrap, IntKind.bits, IntKind.signed, UInt8.toNat_ofNat']
  simp
theorem t88 {B : Nat} {v : Value} {l : List UInt8} {w : World} (n : Nat) (h : Own B 1 5 w v (bcells l)) (hB : B ≤ w.heap.size) (hn : n < 4294967296) (hl : l.length ≤ 1000000) : Calls Tryz.prog 150 #[v, .int .i64 n] w fun e w' => ∃ v', e = .returned v' ∧ Own B 1 5 w' v' (bcells (l ++ be4 n)) ∧ Mv v.ownBlock w w' := by
  go_enter Tryz.func150, Tryz.ntmps150
  repeat' (first | ((with_reducible refine o_s ?_); (first | (refine o_1 ?_; refine o_2 ?_) | (refine o_g ?_; first | refine o_u ?_ | refine o_k ?_ | refine o_n ?_ | refine o_v ?_ | ((first | refine o_G ?_ ?_ | refine o_N ?_ ?_) <;> intro hc)))) | ((fail_if_success (with_reducible refine o_s ?_)); go_step))
  have e1 : IntKind.wrap .u8 ((n : Int) / 2 ^ Int.toNat 24) = ((UInt8.ofNat (n / 16777216)).toNat : Nat) := by
    rw [← wrapU]; congr 1
  have e2 : IntKind.wrap .u8 ((n : Int) / 2 ^ Int.toNat 16) = ((UInt8.ofNat (n / 65536)).toNat : Nat) := by
    rw [← wrapU]; congr 1
  have e3 : IntKind.wrap .u8 ((n : Int) / 2 ^ Int.toNat 8) = ((UInt8.ofNat (n / 256)).toNat : Nat) := by
    rw [← wrapU]; congr 1
  have e4 : IntKind.wrap .u8 (n : Int) = ((UInt8.ofNat n).toNat : Nat) := wrapU n
  rw [e1, e2, e3, e4]
  refine wpl_slice (xs := [.int .u8 ((UInt8.ofNat (n / 16777216)).toNat : Nat), .int .u8 ((UInt8.ofNat (n / 65536)).toNat : Nat), .int .u8 ((UInt8.ofNat (n / 256)).toNat : Nat), .int .u8 ((UInt8.ofNat n).toNat : Nat)]) (k := 1) (e := 5) (bytes := 1) rfl rfl rfl (by intro y hy; simp at hy; rcases hy with rfl | rfl | rfl | rfl <;> rfl) (by decide +kernel) (by simp) ?_
  intro v1 w1 x1 s1 sl1 _
  refine gset ?_
  have hll : (bcells l).length = l.length := by simp [bcells]
  refine wpl_append (B := B) (k := 1) (e := 5) (bytes := 1) (x := v1) rfl (h.ext x1) rfl sl1 (by decide +kernel) (by simp [Value.cells, Value.oneCell']) (Nat.le_trans hB x1.size) (by rw [hll]; simp; omega) (by rw [hll]; simp; omega) ?_
  intro v2 w2 o2 m2
  refine gset ?_
  repeat' (first | ((with_reducible refine o_s ?_); (first | (refine o_1 ?_; refine o_2 ?_) | (refine o_g ?_; first | refine o_u ?_ | refine o_k ?_ | refine o_n ?_ | refine o_v ?_ | ((first | refine o_G ?_ ?_ | refine o_N ?_ ?_) <;> intro hc)))) | ((fail_if_success (with_reducible refine o_s ?_)); go_step))
  go_ret
  refine ⟨v2, rfl, ?_, (x1.mv _).trans m2⟩
  have : bcells (l ++ be4 n) = bcells l ++ bcells (be4 n) := by simp [bcells]
  rw [this]
  exact o2
def soaNums (s : SoaR) : List Int := [s.refresh, s.retry, s.expire, s.minimum]
def soaBase (s : SoaR) : List UInt8 := s.main ++ [0] ++ (s.mail ++ [0]) ++ be4 s.serial.toNat
def be4s (l : List Int) : List UInt8 := (l.map fun n => be4 n.toNat).flatten
theorem soa_data (s : SoaR) : s.data = soaBase s ++ be4s (soaNums s) := by simp [SoaR.data, soaBase, be4s, soaNums]
theorem be4s_succ (l : List Int) (k : Nat) (h : k < l.length) : be4s (l.take (k + 1)) = be4s (l.take k) ++ be4 l[k].toNat := by
  unfold be4s
  rw [List.take_add_one, List.getElem?_eq_getElem h, Option.toList_some, List.map_append, List.flatten_append]
  simp
theorem be4s_len (l : List Int) : (be4s l).length = 4 * l.length := by
  induction l with
  | nil => rfl
  | cons x l ih =>
    have : be4s (x :: l) = be4 x.toNat ++ be4s l := by simp [be4s]
    rw [this, List.length_append, ih, List.length_cons]
    simp [be4]; omega
theorem soa_ok (s : SoaR) : s.ok = ((labels s.main).isSome && (labels s.mail).isSome && decide (0 ≤ s.serial) && decide (s.serial ≤ 4294967295) && (soaNums s).all ttlOk) := by
  simp [SoaR.ok, soaNums, Bool.and_assoc]
set_option maxHeartbeats 1000000 in
theorem t70 (s : SoaR) (w : World) (h1 : s.main.length ≤ 4611686018427387904) (h2 : s.mail.length ≤ 4611686018427387904) : Calls Tryz.prog 108 #[.agg s.cells.toArray] w (RetV w (if s.ok = true then .tuple #[str s.data, .int .i64 0] else .tuple #[str [], .int .i64 1])) := by
  have hA := fun w => t87 s.main w (by omega)
  have hB := fun w => t87 s.mail w (by omega)
  cases hm : labels s.main with
  | none =>
    simp only [hm, Option.isSome_none, Bool.false_eq_true, if_false] at hA
    have hno : s.ok = false := by simp [SoaR.ok, hm]
    rw [hno]
    go_enter Tryz.func108, Tryz.ntmps108
    repeat' ((fail_if_success (with_reducible refine o_s ?_)); go_step)
    refine wpl_box (vs := s.cells) rfl rfl ?_
    intro p w1 x1 hp
    refine gset ?_
    have hp' : Pts w1 p [str s.main, str s.mail, .int .i64 s.serial, .int .i64 s.refresh, .int .i64 s.retry, .int .i64 s.expire, .int .i64 s.minimum] := hp
    repeat' (first | ((with_reducible refine o_s ?_); (first | (refine o_1 ?_; refine o_2 ?_) | (refine o_g ?_; first | refine o_u ?_ | refine o_k ?_ | refine o_n ?_ | refine o_v ?_ | ((first | refine o_G ?_ ?_ | refine o_N ?_ ?_) <;> intro hc)))) | ((fail_if_success (with_reducible refine o_s ?_)); go_step))
    refine wpl_callV (enters_of Tryz.func149 rfl rfl) rfl rfl (hA _) ?_
    intro w2 x2
    have hp' := hp'.ext x2
    repeat' (first | ((with_reducible refine o_s ?_); (first | (refine o_1 ?_; refine o_2 ?_) | (refine o_g ?_; first | refine o_u ?_ | refine o_k ?_ | refine o_n ?_ | refine o_v ?_ | ((first | refine o_G ?_ ?_ | refine o_N ?_ ?_) <;> intro hc)))) | ((fail_if_success (with_reducible refine o_s ?_)); go_step))
    refine wpl_callV (enters_of Tryz.func149 rfl rfl) rfl rfl (hB _) ?_
    intro w3 x3
    cases hl : (labels s.mail).isSome with
    | true =>
      simp only [hl, if_true]
      have hp' := hp'.ext x3
      repeat' (first | ((with_reducible refine o_s ?_); (first | (refine o_1 ?_; refine o_2 ?_) | (refine o_g ?_; first | refine o_u ?_ | refine o_k ?_ | refine o_n ?_ | refine o_v ?_ | ((first | refine o_G ?_ ?_ | refine o_N ?_ ?_) <;> intro hc)))) | ((fail_if_success (with_reducible refine o_s ?_)); go_step))
      go_ret2
      exact ⟨rfl, (x1.trans x2).trans x3⟩
    | false =>
      simp only [hl, Bool.false_eq_true, if_false]
      have hp' := hp'.ext x3
      repeat' (first | ((with_reducible refine o_s ?_); (first | (refine o_1 ?_; refine o_2 ?_) | (refine o_g ?_; first | refine o_u ?_ | refine o_k ?_ | refine o_n ?_ | refine o_v ?_ | ((first | refine o_G ?_ ?_ | refine o_N ?_ ?_) <;> intro hc)))) | ((fail_if_success (with_reducible refine o_s ?_)); go_step))
      go_ret2
      exact ⟨rfl, (x1.trans x2).trans x3⟩
  | some ls =>
    simp only [hm, Option.isSome_some, if_true] at hA
    cases hm2 : labels s.mail with
    | none =>
      simp only [hm2, Option.isSome_none, Bool.false_eq_true, if_false] at hB
      have hno : s.ok = false := by simp [SoaR.ok, hm2]
      rw [hno]
      go_enter Tryz.func108, Tryz.ntmps108
      repeat' ((fail_if_success (with_reducible refine o_s ?_)); go_step)
      refine wpl_box (vs := s.cells) rfl rfl ?_
      intro p w1 x1 hp
      refine gset ?_
      have hp' : Pts w1 p [str s.main, str s.mail, .int .i64 s.serial, .int .i64 s.refresh, .int .i64 s.retry, .int .i64 s.expire, .int .i64 s.minimum] := hp
      repeat' (first | ((with_reducible refine o_s ?_); (first | (refine o_1 ?_; refine o_2 ?_) | (refine o_g ?_; first | refine o_u ?_ | refine o_k ?_ | refine o_n ?_ | refine o_v ?_ | ((first | refine o_G ?_ ?_ | refine o_N ?_ ?_) <;> intro hc)))) | ((fail_if_success (with_reducible refine o_s ?_)); go_step))
      refine wpl_callV (enters_of Tryz.func149 rfl rfl) rfl rfl (hA _) ?_
      intro w2 x2
      have hp' := hp'.ext x2
      repeat' (first | ((with_reducible refine o_s ?_); (first | (refine o_1 ?_; refine o_2 ?_) | (refine o_g ?_; first | refine o_u ?_ | refine o_k ?_ | refine o_n ?_ | refine o_v ?_ | ((first | refine o_G ?_ ?_ | refine o_N ?_ ?_) <;> intro hc)))) | ((fail_if_success (with_reducible refine o_s ?_)); go_step))
      refine wpl_callV (enters_of Tryz.func149 rfl rfl) rfl rfl (hB _) ?_
      intro w3 x3
      have hp' := hp'.ext x3
      repeat' (first | ((with_reducible refine o_s ?_); (first | (refine o_1 ?_; refine o_2 ?_) | (refine o_g ?_; first | refine o_u ?_ | refine o_k ?_ | refine o_n ?_ | refine o_v ?_ | ((first | refine o_G ?_ ?_ | refine o_N ?_ ?_) <;> intro hc)))) | ((fail_if_success (with_reducible refine o_s ?_)); go_step))
      go_ret2
      exact ⟨rfl, (x1.trans x2).trans x3⟩
    | some ms =>
      simp only [hm2, Option.isSome_some, if_true] at hB
      have hfm := labels_fit hm
      have hfm2 := labels_fit hm2
      rw [soa_ok, hm, hm2]
      simp only [Option.isSome_some, Bool.true_and]
      go_enter Tryz.func108, Tryz.ntmps108
      repeat' ((fail_if_success (with_reducible refine o_s ?_)); go_step)
      refine wpl_box (vs := s.cells) rfl rfl ?_
      intro p w1 x1 hp
      refine gset ?_
      have hp' : Pts w1 p [str s.main, str s.mail, .int .i64 s.serial, .int .i64 s.refresh, .int .i64 s.retry, .int .i64 s.expire, .int .i64 s.minimum] := hp
      repeat' (first | ((with_reducible refine o_s ?_); (first | (refine o_1 ?_; refine o_2 ?_) | (refine o_g ?_; first | refine o_u ?_ | refine o_k ?_ | refine o_n ?_ | refine o_v ?_ | ((first | refine o_G ?_ ?_ | refine o_N ?_ ?_) <;> intro hc)))) | ((fail_if_success (with_reducible refine o_s ?_)); go_step))
      refine wpl_callV (enters_of Tryz.func149 rfl rfl) rfl rfl (hA _) ?_
      intro w2 x2
      have hp' := hp'.ext x2
      repeat' (first | ((with_reducible refine o_s ?_); (first | (refine o_1 ?_; refine o_2 ?_) | (refine o_g ?_; first | refine o_u ?_ | refine o_k ?_ | refine o_n ?_ | refine o_v ?_ | ((first | refine o_G ?_ ?_ | refine o_N ?_ ?_) <;> intro hc)))) | ((fail_if_success (with_reducible refine o_s ?_)); go_step))
      refine wpl_callV (enters_of Tryz.func149 rfl rfl) rfl rfl (hB _) ?_
      intro w3 x3
      have hp' := hp'.ext x3
      have x13 := (x1.trans x2).trans x3
      clear x1 x2 x3 hp hA hB
      repeat' (first | ((with_reducible refine o_s ?_); (first | (refine o_1 ?_; refine o_2 ?_) | (refine o_g ?_; first | refine o_u ?_ | refine o_k ?_ | refine o_n ?_ | refine o_v ?_ | ((first | refine o_G ?_ ?_ | refine o_N ?_ ?_) <;> intro hc)))) | ((fail_if_success (with_reducible refine o_s ?_)); go_step))
      · have hc := ‹4294967295 < s.serial›
        go_ret2
        refine ⟨?_, x13⟩
        have hno : (decide (0 ≤ s.serial) && decide (s.serial ≤ 4294967295)) = false := by simp only [Bool.and_eq_false_iff, decide_eq_false_iff_not]; omega
        simp only [hno, Bool.false_and, Bool.false_eq_true, if_false]
        rfl
      · have hc := ‹s.serial ≤ 4294967295›
        have hc0 := ‹¬s.serial < 0›
        have hser : (decide (0 ≤ s.serial) && decide (s.serial ≤ 4294967295)) = true := by simp; omega
        refine wpl_bytes (e := 5) (l := s.main ++ [0] ++ (s.mail ++ [0])) rfl rfl (by decide +kernel) (by decide +kernel) (by simp; omega) ?_
        intro v w4 x4 o4
        refine gset ?_
        have hp' := hp'.ext x4
        have hsn : s.serial = ((s.serial.toNat : Nat) : Int) := by omega
        repeat' (first | ((with_reducible refine o_s ?_); (first | (refine o_1 ?_; refine o_2 ?_) | (refine o_g ?_; first | refine o_u ?_ | refine o_k ?_ | refine o_n ?_ | refine o_v ?_ | ((first | refine o_G ?_ ?_ | refine o_N ?_ ?_) <;> intro hc)))) | ((fail_if_success (with_reducible refine o_s ?_)); go_step))
        rw [hsn]
        refine wpl_callG (enters_of Tryz.func150 rfl rfl) rfl rfl (t88 (B := w3.heap.size) s.serial.toNat o4 x4.size (by omega) (by simp; omega)) ?_
        rintro e w5 ⟨v5, rfl, o5, m5⟩
        refine ⟨_, rfl, ?_⟩
        refine gset ?_
        have x35 := o4.mvx m5 x4 (Nat.le_refl _)
        have hp' := ‹Pts w3 p _›.ext x35
        have x15 := x13.trans x35
        rw [← hsn]
        repeat' (first | ((with_reducible refine o_s ?_); (first | (refine o_1 ?_; refine o_2 ?_) | (refine o_g ?_; first | refine o_u ?_ | refine o_k ?_ | refine o_n ?_ | refine o_v ?_ | ((first | refine o_G ?_ ?_ | refine o_N ?_ ?_) <;> intro hc)))) | ((fail_if_success (with_reducible refine o_s ?_)); go_step))
        refine wpl_run (v := .agg ((soaNums s).map (Value.int .i64)).toArray) rfl (Runs.build rfl (by kernel_rfl)) ?_
        refine gset ?_
        repeat' (first | ((with_reducible refine o_s ?_); (first | (refine o_1 ?_; refine o_2 ?_) | (refine o_g ?_; first | refine o_u ?_ | refine o_k ?_ | refine o_n ?_ | refine o_v ?_ | ((first | refine o_G ?_ ?_ | refine o_N ?_ ?_) <;> intro hc)))) | ((fail_if_success (with_reducible refine o_s ?_)); go_step))
        clear hp' m5
        have hbase : s.main ++ [0] ++ (s.mail ++ [0]) ++ be4 s.serial.toNat = soaBase s := rfl
        rw [hbase] at o5
        have hbl : (soaBase s).length ≤ 600 := by simp [soaBase, be4]; omega
        go_loopw [8, 55] (fun v6 i wr => ∃ k : Nat, k ≤ 4 ∧ i = .int .i64 k ∧ Ext w wr ∧ w3.heap.size ≤ wr.heap.size ∧ Own w3.heap.size 1 5 wr v6 (bcells (soaBase s ++ be4s ((soaNums s).take k))) ∧ ((soaNums s).take k).all ttlOk = true) (fun _ i _ => 4 - (intOf i).toNat)
        case atStart => exact ⟨0, by omega, rfl, x15, x35.size, by simpa [be4s] using o5, rfl⟩
        case round =>
          obtain ⟨k, hk, rfl, hx, hsz, ho, hall⟩ := hrel
          have hlen : (soaNums s).length = 4 := rfl
          by_cases hlt : k < 4
          · have hlt2 : k < (soaNums s).length := hlt
            have hdata : s.data = soaBase s ++ be4s (soaNums s) := soa_data s
            have hsplit : (soaNums s).all ttlOk = true → ttlOk (soaNums s)[k] = true := fun h => List.all_eq_true.1 h _ (List.getElem_mem hlt2)
            repeat' (first | ((with_reducible refine o_s ?_); (first | (refine o_1 ?_; refine o_2 ?_) | (refine o_g ?_; first | refine o_u ?_ | refine o_k ?_ | refine o_n ?_ | refine o_v ?_ | ((first | refine o_G ?_ ?_ | refine o_N ?_ ?_) <;> intro hc)))) | ((fail_if_success (with_reducible refine o_s ?_)); go_step))
            refine wpl_run (v := .int .i64 (soaNums s)[k]) rfl (Runs.idxA (n := 4) (i := k) rfl rfl (by simp [hlt2]) hlt (by decide +kernel)) ?_
            refine gset ?_
            repeat' (first | ((with_reducible refine o_s ?_); (first | (refine o_1 ?_; refine o_2 ?_) | (refine o_g ?_; first | refine o_u ?_ | refine o_k ?_ | refine o_n ?_ | refine o_v ?_ | ((first | refine o_G ?_ ?_ | refine o_N ?_ ?_) <;> intro hc)))) | ((fail_if_success (with_reducible refine o_s ?_)); go_step))
            · have hc2 := ‹2147483647 < (soaNums s)[k]›
              go_ret2
              refine ⟨?_, hx⟩
              have hno : (soaNums s).all ttlOk = false := by
                cases h : (soaNums s).all ttlOk with
                | false => rfl
                | true => have := hsplit h; simp [ttlOk] at this; omega
              simp only [hser, hno, Bool.and_false, Bool.false_eq_true, if_false]
              rfl
            · have hc2 := ‹(soaNums s)[k] ≤ 2147483647›
              have hc1 := ‹¬(soaNums s)[k] < 0›
              have hnn : (soaNums s)[k] = (((soaNums s)[k].toNat : Nat) : Int) := by omega
              have hbs : (be4s ((soaNums s).take k)).length ≤ 16 := by rw [be4s_len]; simp; omega
              rw [hnn]
              refine wpl_callG (enters_of Tryz.func150 rfl rfl) rfl rfl (t88 (B := w3.heap.size) (soaNums s)[k].toNat ho hsz (by omega) (by rw [List.length_append]; omega)) ?_
              rintro e w6 ⟨v6, rfl, o6, m6⟩
              refine ⟨_, rfl, ?_⟩
              refine gset ?_
              have hx6 := ho.mvx m6 hx x13.size
              have hs6 : w3.heap.size ≤ w6.heap.size := Nat.le_trans hsz m6.size
              rw [List.append_assoc, ← be4s_succ _ _ hlt2] at o6
              repeat' (first | ((with_reducible refine o_s ?_); (first | (refine o_1 ?_; refine o_2 ?_) | (refine o_g ?_; first | refine o_u ?_ | refine o_k ?_ | refine o_n ?_ | refine o_v ?_ | ((first | refine o_G ?_ ?_ | refine o_N ?_ ?_) <;> intro hc)))) | ((fail_if_success (with_reducible refine o_s ?_)); go_step))
              refine ⟨⟨k + 1, by omega, rfl, hx6, hs6, o6, ?_⟩, by simp [intOf]; omega⟩
              rw [List.take_add_one, List.getElem?_eq_getElem hlt2, Option.toList_some, List.all_append, hall]
              simp only [List.all_cons, List.all_nil, ttlOk, Bool.true_and, Bool.and_true, Bool.and_eq_true, decide_eq_true_eq]
              omega
            · have hc2 := ‹(soaNums s)[k] < 0›
              go_ret2
              refine ⟨?_, hx⟩
              have hno : (soaNums s).all ttlOk = false := by
                cases h : (soaNums s).all ttlOk with
                | false => rfl
                | true => have := hsplit h; simp [ttlOk] at this; omega
              simp only [hser, hno, Bool.and_false, Bool.false_eq_true, if_false]
              rfl
          · have : k = 4 := by omega
            subst this
            have hsl := ho.sl
            rw [show (soaNums s).take 4 = soaNums s from rfl] at hsl hall
            repeat' (first | ((with_reducible refine o_s ?_); (first | (refine o_1 ?_; refine o_2 ?_) | (refine o_g ?_; first | refine o_u ?_ | refine o_k ?_ | refine o_n ?_ | refine o_v ?_ | ((first | refine o_G ?_ ?_ | refine o_N ?_ ?_) <;> intro hc)))) | ((fail_if_success (with_reducible refine o_s ?_)); go_step))
            go_ret2
            refine ⟨?_, hx⟩
            simp only [hser, hall, Bool.and_self, if_true]
            rw [soa_data]
            rfl
      · have hc := ‹s.serial < 0›
        go_ret2
        refine ⟨?_, x13⟩
        have hno : (decide (0 ≤ s.serial) && decide (s.serial ≤ 4294967295)) = false := by simp only [Bool.and_eq_false_iff, decide_eq_false_iff_not]; omega
        simp only [hno, Bool.false_and, Bool.false_eq_true, if_false]
        rfl
end Go.Proofs.X
