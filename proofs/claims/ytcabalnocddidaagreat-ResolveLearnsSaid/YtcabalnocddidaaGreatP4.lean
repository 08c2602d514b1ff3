/- Laws and walks that the proof of the statement is made of (part 4). -/
import Derived.Test.YtcabalnocddidaaGreatP3
set_option linter.unusedSimpArgs false
set_option linter.unusedVariables false
namespace Go.Proofs.X
open Go.RowKit
set_option maxRecDepth 100000
def vH (a b : Int) : Int := if a < b then -1 else if b < a then 1 else 0
def cJ (na nb : List UInt8) (ka kb : Int) : Int := if gL na nb ≠ 0 then gL na nb else vH ka kb
theorem FU (a b : Int) (w : World) : Calls Tryz.prog 206 #[.int .i64 a, .int .i64 b] w (bS w (.int .i64 (vH a b))) := by
 refine (Tryz.cmp_Compare_int a b w).mono ?_
 rintro e w' ⟨rfl, rfl⟩
 refine ⟨?_, Ext.refl _⟩
 unfold vH Lib.compareInt
 rfl
set_option maxHeartbeats 1000000 in
theorem FV (na nb : List UInt8) (ka kb ta tb : Int) (va vb : Value) (w : World) : Calls Tryz.prog 155 #[.agg #[aF na, .int .i64 ka, .int .i64 ta, va], .agg #[aF nb, .int .i64 kb, .int .i64 tb, vb]] w (bS w (.int .i64 (cJ na nb ka kb))) := by
 go_enter Tryz.func155, Tryz.ntmps155
 refine_lift AY fun _ _ => ?_
 refine dB (vs := [aF na, .int .i64 ka, .int .i64 ta, va]) rfl rfl ?_
 intro p w1 x1 hp
 refine aA ?_
 refine dB (vs := [aF nb, .int .i64 kb, .int .i64 tb, vb]) rfl rfl ?_
 intro q w2 x2 hq
 refine aA ?_
 refine_lift eJ fun _ _ => ?_
 refine cN (S := Ext w2) (by decide +kernel) ?_
 intro w3 x3 _
 refine tk 0 ?_; refine aA ?_; refine tk 1 ?_; refine aA ?_; refine tk 2 ?_; refine aA ?_; refine tk 3 ?_; refine aA ?_; refine tk 5 ?_; refine aA ?_; refine tk 6 ?_; refine aA ?_; refine tk 7 ?_; refine aA ?_; refine tk 8 ?_; refine aA ?_
 refine bR (i := 4) (by decide +kernel) rfl rfl ?_
 refine aB (enters_of Tryz.func205 rfl rfl) rfl rfl (FP _ _ _) ?_; intro w4 x4; refine aA ?_
 refine aQ ⟨by exact eN, ?_⟩
 refine bR (i := 9) (by decide +kernel) rfl rfl ?_
 refine aB (enters_of Tryz.func206 rfl rfl) rfl rfl (FU _ _ _) ?_; intro w5 x5; refine aA ?_
 refine aQ ⟨by exact eN, ?_⟩
 refine bR (i := 10) (by decide +kernel) rfl rfl ?_
 refine bY (e := 3) (k := 1) (bytes := 8) (xs := [.int .i64 (gL na nb), .int .i64 (vH ka kb)]) rfl rfl rfl (by simp [Value.cells]) (by decide +kernel) (by simp) ?_
 intro v w6 x6 _ h6 _
 refine aA ?_
 refine aQ ⟨by exact eN, ?_⟩
 refine bR (i := 11) (by decide +kernel) rfl rfl ?_
 refine aB (enters_of Tryz.func204 rfl rfl) rfl rfl (FT _ _ _ _ h6) ?_; intro w7 x7; refine aA ?_
 refine aQ ⟨by exact eN, ?_⟩
 refine tk 12 ?_; refine aA ?_
 refine cK (by decide +kernel) ?_
 refine_lift cI ?_
 go_ret
 exact ⟨rfl, by exact eN⟩
structure SetC where
 name : List UInt8
 kind : Int
 ttl : Int
 a : Option Addr
 n : Nat
 c : Nat
 d : List (List UInt8)
 deriving Inhabited
def SetC.v (s : SetC) : Value := .slice s.a s.n s.c
def SetC.cells (s : SetC) : List Value := [aF s.name, .int .i64 s.kind, .int .i64 s.ttl, s.v]
def zD (x y : SetC) : Int := cJ x.name y.name x.kind y.kind
theorem eX : TPO (fun x y : List UInt8 × Int => cJ x.1 y.1 x.2 y.2) :=
 (wW.comap Prod.fst).lex (zA.comap Prod.snd)
theorem xD : TPO zD := eX.comap fun s : SetC => (s.name, s.kind)
theorem FW {B g cap : Nat} (l : List SetC) (w : World) (h : Own B 4 59 w (.slice (some ⟨g, 0, none⟩) l.length cap) (l.map SetC.cells)) (hl : l.length < 4611686018427387904) :
 Calls Tryz.prog 154 #[.slice (some ⟨g, 0, none⟩) l.length cap, .func (.func 155) #[] #[]] w fun e w' => e = .returned (.tuple #[]) ∧ ∃ l' : List SetC, l'.Perm l ∧ (∀ i j (hi : i < j) (hj : j < l'.length), 0 ≤ zD l'[j] l'[i]) ∧ Own B 4 59 w' (.slice (some ⟨g, 0, none⟩) l'.length cap) (l'.map SetC.cells) ∧ Mv (some g) w w' := by
 have hlen : (l.map SetC.cells).length = l.length := by simp
 have h0 := h
 rw [← hlen] at h0
 have eg : ∀ args w, (callFunc 155 args).run Tryz.prog w = .ok (.enter 155 args) w := enters_of Tryz.func155 (by kernel_rfl) rfl
 have hk : ∀ x, (SetC.cells x).length = 4 := fun _ => rfl
 have hfl := kE SetC.cells 4 hk l
 have hH : Sort.HoldsK SetC.cells 4 w g 0 l.toArray := by
  unfold Sort.HoldsK
  have := h.holdsF
  rw [← hfl] at this
  simpa using this
 have hcmp : Go.Proofs.CmpLays Tryz.prog 155 #[] SetC.cells 4 zD g 0 l.toArray.size w := by
  intro m os dk hdk x y
  refine (FV x.name y.name x.kind y.kind x.ttl y.ttl x.v y.v _).mono ?_
  rintro e w' ⟨rfl, hx⟩
  exact ⟨rfl, hx.grown⟩
 have hc := Go.Proofs.AnyQ.slices_SortFunc Tryz.sortSet 4 (fun w => fS (u := (Tryz.prog.underlying 59).getD (.struct #[])) (by rfl) (by rfl)) (fun w => by obtain ⟨i, hq, hz⟩ := mS (fD (show aP Tryz.prog 59 4 = true by decide +kernel)); exact (by simp [sizeOf, typeInfo, hq, hz] : (Go.sizeOf 59).run Tryz.prog w = .ok 4 w)) SetC.cells hk (fun x v hv => by
  simp only [SetC.cells, List.mem_cons, List.not_mem_nil, or_false] at hv
  rcases hv with rfl | rfl | rfl | rfl <;> rfl) zD xD.swo 155 #[] g 0 cap l.toArray w eg hcmp hH (h.block g rfl).2 (by simpa using hl)
 change Calls Tryz.prog 154 _ _ _ at hc
 refine hc.mono ?_
 rintro e w' ⟨rfl, d', n, os, hp, hs, rfl⟩
 obtain ⟨p1, p2, p3⟩ := hp
 have hd : d'.toList.length = l.length := by simpa using p1
 have hfl2 := kE SetC.cells 4 hk d'.toList
 have hperm : d'.toList.Perm l := by
  have e1 : d'.extract 0 l.toArray.size = d' := by rw [← p1]; simp
  have e2 : l.toArray.extract 0 l.toArray.size = l.toArray := by simp
  rw [e1, e2] at p3
  simpa using p3
 have hput := h0.putRowF (fs := d'.toList.map SetC.cells) (by simpa using hd) (by intro x hx; obtain ⟨y, _, rfl⟩ := List.mem_map.1 hx; rfl) n os
 have hrow : Go.Proofs.sortWorldK SetC.cells 4 w g 0 n d' os = Sort.grow (Sort.putRow id (Sort.ahead w n) g 0 (d'.toList.map SetC.cells).flatten.toArray) os := by
  unfold Go.Proofs.sortWorldK Sort.putRowK
  rw [← hfl2]
 rw [hrow]
 refine ⟨rfl, d'.toList, hperm, ?_, ?_, hput.2⟩
 ·intro i j hi hj
  have hjs : j < d'.size := by simpa using hj
  have := hs i j (Nat.zero_le _) hi (by rw [← p1]; exact hjs)
  rw [getElem!_pos d' j hjs, getElem!_pos d' i (by omega)] at this
  simp only [Go.Proofs.ltOf, decide_eq_false_iff_not] at this
  simp only [Array.getElem_toList]
  omega
 ·have := hput.1
  rw [hlen] at this
  rw [hd]
  exact this
theorem BC (v : Value) (w : World) : Calls Tryz.prog 154 #[.slice none 0 0, v] w fun e w' => e = .returned (.tuple #[]) ∧ w' = w := by
 have h := Go.Proofs.AnyF.slices_SortFunc_none Tryz.sortSet none 0 v w
 change Calls Tryz.prog 154 _ _ _ at h
 exact h
def aR (s : RSet) (r : Rec) : Bool := decide (s.name = fold r.name) && decide (s.kind = r.kind)
def eG (s : RSet) (r : Rec) : RSet := ⟨s.name, s.kind, min s.ttl r.ttl, s.data ++ [r.data]⟩
def bQ : List RSet → Rec → List RSet
 | [], r => [⟨fold r.name, r.kind, r.ttl, [r.data]⟩]
 | s :: l, r => if aR s r = true then eG s r :: l else s :: bQ l r
def lU (gs : List RSet) : Prop := ∀ (i j : Nat) s t, gs[i]? = some s → gs[j]? = some t → i ≠ j → ¬ (s.name = t.name ∧ s.kind = t.kind)
theorem pI {r : Rec} : ∀ {gs : List RSet} {i : Nat} {s : RSet}, gs[i]? = some s → aR s r = true → lU gs → bQ gs r = gs.set i (eG s r)
 | [], i, s, h, _, _ => by simp at h
 | a :: l, 0, s, h, hm, _ => by
   cases h
   simp [bQ, hm]
 | a :: l, i + 1, s, h, hm, hd => by
   have ha : aR a r = false := by
    cases hx : aR a r with
    | false => rfl
    | true =>
     exfalso
     simp only [aR, Bool.and_eq_true, decide_eq_true_eq] at hm hx
     exact hd 0 (i + 1) a s rfl h (by omega) ⟨by rw [hx.1, hm.1], by rw [hx.2, hm.2]⟩
   have := pI (gs := l) (i := i) (by simpa using h) hm (fun p q s t hp hq hpq => hd (p + 1) (q + 1) s t (by simpa using hp) (by simpa using hq) (by omega))
   simp [bQ, ha, this]
theorem nU {r : Rec} : ∀ {gs : List RSet}, (∀ s ∈ gs, aR s r = false) → bQ gs r = gs ++ [⟨fold r.name, r.kind, r.ttl, [r.data]⟩]
 | [], _ => rfl
 | a :: l, h => by
   have := nU (gs := l) (fun s hs => h s (by simp [hs]))
   simp [bQ, h a (by simp), this]
theorem jK {r : Rec} : ∀ {gs : List RSet} {s : RSet}, s ∈ bQ gs r → (∃ t ∈ gs, t.name = s.name ∧ t.kind = s.kind) ∨ (s.name = fold r.name ∧ s.kind = r.kind)
 | [], s, h => by
   simp only [bQ, List.mem_singleton] at h
   subst h; exact .inr ⟨rfl, rfl⟩
 | a :: l, s, h => by
   unfold bQ at h
   split at h
   ·rename_i hm
    simp only [aR, Bool.and_eq_true, decide_eq_true_eq] at hm
    rcases List.mem_cons.1 h with rfl | h
    ·exact .inr ⟨hm.1, hm.2⟩
    ·exact .inl ⟨s, by simp [h], rfl, rfl⟩
   ·rcases List.mem_cons.1 h with rfl | h
    ·exact .inl ⟨s, by simp, rfl, rfl⟩
    ·rcases jK h with ⟨t, ht, h2⟩ | h2
     ·exact .inl ⟨t, by simp [ht], h2⟩
     ·exact .inr h2
theorem dI {gs : List RSet} : lU gs ↔ gs.Pairwise fun s t => ¬ (s.name = t.name ∧ s.kind = t.kind) := by
 rw [List.pairwise_iff_getElem]
 constructor
 ·intro h i j hi hj hij
  exact h i j _ _ (List.getElem?_eq_getElem hi) (List.getElem?_eq_getElem hj) (by omega)
 ·intro h i j s t hs ht hij
  obtain ⟨hi, rfl⟩ := List.getElem?_eq_some_iff.1 hs
  obtain ⟨hj, rfl⟩ := List.getElem?_eq_some_iff.1 ht
  rcases Nat.lt_or_ge i j with h1 | h1
  ·exact h i j hi hj h1
  ·have := h j i hj hi (by omega)
   exact fun ⟨a, b⟩ => this ⟨a.symm, b.symm⟩
theorem lV {r : Rec} : ∀ {gs : List RSet}, lU gs → lU (bQ gs r)
 | [], _ => by rw [dI]; simp [bQ]
 | a :: l, h => by
   rw [dI] at h ⊢
   obtain ⟨h1, h2⟩ := List.pairwise_cons.1 h
   unfold bQ
   split
   ·rename_i hm
    exact List.pairwise_cons.2 ⟨fun t ht => h1 t ht, h2⟩
   ·rename_i hm
    refine List.pairwise_cons.2 ⟨fun t ht => ?_, dI.1 (lV (dI.2 h2))⟩
    rcases jK ht with ⟨u, hu, e1, e2⟩ | ⟨e1, e2⟩
    ·have := h1 u hu
     rw [e1, e2] at this
     exact this
    ·rintro ⟨f1, f2⟩
     exact hm (by simp [aR, f1, f2, e1, e2])
def bG (l : List Rec) : List RSet := l.foldl bQ []
theorem eO (l : List Rec) : lU (bG l) := by
 unfold bG
 suffices ∀ (l : List Rec) gs, lU gs → lU (l.foldl bQ gs) from this l [] (by intro i j s t h; simp at h)
 intro l
 induction l with
 | nil => exact fun _ h => h
 | cons r l ih => exact fun gs h => ih _ (lV h)
theorem iA {l : List Rec} {k : Nat} (h : k < l.length) : bG (l.take (k + 1)) = bQ (bG (l.take k)) l[k] := by
 unfold bG
 rw [List.take_add_one, List.getElem?_eq_getElem h, List.foldl_append]
 rfl
theorem pJ {r : Rec} : ∀ {gs : List RSet}, (bQ gs r).length ≤ gs.length + 1
 | [] => by simp [bQ]
 | a :: l => by
   have := pJ (r := r) (gs := l)
   unfold bQ
   split <;> simp <;> omega
def gV (gs : List RSet) : Nat := (gs.map fun s => s.data.length).sum
theorem lW {r : Rec} : ∀ {gs : List RSet}, gV (bQ gs r) = gV gs + 1
 | [] => by simp [bQ, gV]
 | a :: l => by
   have := lW (r := r) (gs := l)
   unfold gV at this
   unfold bQ
   split
   ·simp [gV, eG]; omega
   ·simp [gV, this]; omega
theorem kG (l : List Rec) : gV (bG l) = l.length := by
 unfold bG
 suffices ∀ (l : List Rec) gs, gV (l.foldl bQ gs) = gV gs + l.length from by simpa [gV] using this l []
 intro l
 induction l with
 | nil => intro gs; simp
 | cons r l ih => intro gs; rw [List.foldl_cons, ih, lW]; simp; omega
theorem nV (l : List Rec) : (bG l).length ≤ l.length := by
 unfold bG
 suffices ∀ (l : List Rec) gs, (l.foldl bQ gs).length ≤ gs.length + l.length from by simpa using this l []
 intro l
 induction l with
 | nil => intro gs; simp
 | cons r l ih => intro gs; rw [List.foldl_cons]; have := ih (bQ gs r); have := pJ (r := r) (gs := gs); simp; omega
theorem rR {gs : List RSet} {s : RSet} (h : s ∈ gs) : s.data.length ≤ gV gs := by
 induction gs with
 | nil => simp at h
 | cons a l ih =>
  unfold gV at *
  rcases List.mem_cons.1 h with rfl | h
  ·simp
  ·have := ih h; simp; omega
structure GC where
 b : Nat
 v : Value
 s : RSet
def GC.cells (c : GC) : List Value := [aF c.s.name, .int .i64 c.s.kind, .int .i64 c.s.ttl, c.v]
def GC.key (c : GC) : Value × Value := (.agg #[aF c.s.name, .int .i64 c.s.kind], .pointer (some ⟨c.b, 0, none⟩))
def GC.kcells (c : GC) : List Value := [aF c.s.name, .int .i64 c.s.kind]
structure GOK (w : World) (B : Nat) (c : GC) : Prop where
 blk : w.heap[c.b]? = some (.cells c.cells.toArray 59 (0, 0))
 ge : B ≤ c.b
 own : Own B 1 9 w c.v (aI c.s.data)
structure GS (w : World) (B : Nat) (gcs : List GC) : Prop where
 each : ∀ c ∈ gcs, GOK w B c
 apart : gcs.Pairwise fun c c' => c.b ≠ c'.b ∧ (c.v.ownBlock = none ∨ c'.v.ownBlock = none ∨ c.v.ownBlock ≠ c'.v.ownBlock)
theorem Own.type {B k e : Nat} {w : World} {v : Value} {es : List (List Value)} (h : Own B k e w v es) {r : Nat} (hr : v.ownBlock = some r) : ∃ cur fz, w.heap[r]? = some (.cells cur e fz) := by
 rcases h.row.2 with ⟨rfl, _⟩ | ⟨g, cap, cur, fz, rfl, hb, hg, _⟩
 ·simp [Value.ownBlock] at hr
 ·simp [Value.ownBlock] at hr; subst hr; exact ⟨cur, fz, hg⟩
theorem Own.neBlock {B k e t b : Nat} {w : World} {v : Value} {es : List (List Value)} {cs : Array Value} {fz : Nat × Nat} (h : Own B k e w v es) (hb : w.heap[b]? = some (.cells cs t fz)) (ht : t ≠ e) : v.ownBlock ≠ some b := fun e' => by
 obtain ⟨cur, fz', h'⟩ := h.type e'
 rw [hb] at h'
 simp only [Option.some.injEq, Obj.cells.injEq] at h'
 exact ht h'.2.1
theorem Own.neMap {B k e m c : Nat} {es' : Array MapEntry} {w : World} {v : Value} {es : List (List Value)} (h : Own B k e w v es) (hb : w.heap[m]? = some (.map es' c)) : v.ownBlock ≠ some m := fun e' => by
 obtain ⟨cur, fz', h'⟩ := h.type e'
 rw [hb] at h'
 cases h'
theorem Own.ne {B k e B' k' e' : Nat} {w : World} {v v' : Value} {es es' : List (List Value)} (h : Own B k e w v es) (h' : Own B' k' e' w v' es') (he : e ≠ e') : v.ownBlock = none ∨ v.ownBlock ≠ v'.ownBlock := by
 cases hv : v.ownBlock with
 | none => exact .inl rfl
 | some r =>
  refine .inr fun e2 => ?_
  obtain ⟨cur, fz, h1⟩ := h.type hv
  exact h'.neBlock h1 he e2.symm
theorem GOK.mv {w w' : World} {B : Nat} {c : GC} {row : Option Nat} (h : GOK w B c) (hm : Mv row w w') (h1 : some c.b ≠ row) (h2 : c.v.ownBlock = none ∨ c.v.ownBlock ≠ row) : GOK w' B c :=
 ⟨hm.at h.blk h1, h.ge, h.own.mv hm h2⟩
theorem GS.ext {w w' : World} {B : Nat} {gcs : List GC} (h : GS w B gcs) (hx : Ext w w') : GS w' B gcs :=
 ⟨fun c hc => (h.each c hc).mv (hx.mv none) (by simp) (by cases c.v.ownBlock <;> simp), h.apart⟩
theorem Sl.slf {k : Nat} {w : World} {v : Value} {es : List (List Value)} (h : Sl k w v es) : ∃ a n c, v = .slice a n c := by
 obtain ⟨a, c, h1, _⟩ := h
 exact ⟨a, _, c, h1⟩
structure SetsC (w : World) (css : List (List Value)) (l : List RSet) : Prop where
 len : css.length = l.length
 at' : ∀ (i : Nat) (s : RSet), l[i]? = some s → ∃ x, css[i]? = some [aF s.name, .int .i64 s.kind, .int .i64 s.ttl, x] ∧ Sl 1 w x (aI s.data)
theorem SetsC.sets {w : World} {v : Value} {l : List RSet} {css : List (List Value)} (h : SetsC w css l) (hv : Sl 4 w v css) : SetsAt w v l := ⟨css, hv, h.len, h.at'⟩
theorem SetsC.ext {w w' : World} {l : List RSet} {css : List (List Value)} (h : SetsC w css l) (hx : Ext w w') : SetsC w' css l :=
 ⟨h.len, fun i s hi => let ⟨x, a, b⟩ := h.at' i s hi; ⟨x, a, b.ext hx⟩⟩
theorem SetsC.append {w : World} {l m : List RSet} {c d : List (List Value)} (h : SetsC w c l) (k : SetsC w d m) : SetsC w (c ++ d) (l ++ m) := by
 refine ⟨by rw [List.length_append, List.length_append, h.len, k.len], fun i s hi => ?_⟩
 rw [List.getElem?_append] at hi ⊢
 rw [h.len]
 split at hi
 ·rw [if_pos ‹_›]; exact h.at' i s hi
 ·rw [if_neg ‹_›]; exact k.at' _ s hi
theorem SetsC.take {w : World} {l : List RSet} {c : List (List Value)} (h : SetsC w c l) (n : Nat) : SetsC w (c.take n) (l.take n) := by
 refine ⟨by simp [h.len], fun i s hi => ?_⟩
 rw [List.getElem?_take] at hi ⊢
 split at hi
 ·rw [if_pos ‹_›]; exact h.at' i s hi
 ·cases hi
theorem SetsC.drop {w : World} {l : List RSet} {c : List (List Value)} (h : SetsC w c l) (n : Nat) : SetsC w (c.drop n) (l.drop n) := by
 refine ⟨by simp [h.len], fun i s hi => ?_⟩
 rw [List.getElem?_drop] at hi ⊢
 exact h.at' _ s hi
theorem SetsC.one {w : World} {s : RSet} {x : Value} (h : Sl 1 w x (aI s.data)) : SetsC w [[aF s.name, .int .i64 s.kind, .int .i64 s.ttl, x]] [s] :=
 ⟨rfl, fun i t hi => by
  match i, hi with
  | 0, hi => cases hi; exact ⟨x, rfl, h⟩⟩
theorem SetsC.cell {w : World} {l : List RSet} {c : List (List Value)} (h : SetsC w c l) : ∀ f ∈ c, ∀ u ∈ f, u.oneCell' = true := by
 intro f hf u hu
 obtain ⟨i, hi, rfl⟩ := List.mem_iff_getElem.1 hf
 obtain ⟨x, h1, h2⟩ := h.at' i _ (List.getElem?_eq_getElem (by rw [← h.len]; exact hi))
 rw [List.getElem?_eq_getElem hi] at h1
 rw [Option.some.inj h1] at hu
 simp only [List.mem_cons, List.not_mem_nil, or_false] at hu
 rcases hu with rfl | rfl | rfl | rfl
 ·rfl
 ·rfl
 ·rfl
 ·exact h2.one
def From (B : Nat) (v : Value) : Prop := ∀ b o s n c, v = .slice (some ⟨b, o, s⟩) n c → B ≤ b
theorem From.weaken {B C : Nat} {v : Value} (h : From B v) (hc : C ≤ B) : From C v := fun b o s n c e => Nat.le_trans hc (h b o s n c e)
theorem Own.from' {B C k e : Nat} {w : World} {v : Value} {es : List (List Value)} (h : Own B k e w v es) (hc : C ≤ B) : From C v := by
 intro b o s n c hv
 rcases h.form with ⟨rfl, _⟩ | ⟨g, cap, rfl, _, hg, _⟩
 ·cases hv
 ·simp only [Value.slice.injEq, Option.some.injEq, Addr.mk.injEq] at hv
  obtain ⟨⟨rfl, _⟩, _⟩ := hv
  exact Nat.le_trans hc hg
def FromC (B : Nat) (css : List (List Value)) : Prop := ∀ f ∈ css, ∀ u ∈ f, From B u
theorem FromC.append {B : Nat} {c d : List (List Value)} (h : FromC B c) (k : FromC B d) : FromC B (c ++ d) := fun f hf => by
 rcases List.mem_append.1 hf with hf | hf
 ·exact h f hf
 ·exact k f hf
theorem FromC.take {B : Nat} {c : List (List Value)} (h : FromC B c) (n : Nat) : FromC B (c.take n) := fun f hf => h f (List.mem_of_mem_take hf)
theorem FromC.drop {B : Nat} {c : List (List Value)} (h : FromC B c) (n : Nat) : FromC B (c.drop n) := fun f hf => h f (List.mem_of_mem_drop hf)
theorem FromC.one {B : Nat} {n : List UInt8} {k t : Int} {x : Value} (h : From B x) : FromC B [[aF n, .int .i64 k, .int .i64 t, x]] := by
 intro f hf u hu
 simp only [List.mem_cons, List.not_mem_nil, or_false] at hf
 subst hf
 simp only [List.mem_cons, List.not_mem_nil, or_false] at hu
 rcases hu with rfl | rfl | rfl | rfl
 ·intro b o s n c e; cases e
 ·intro b o s n c e; cases e
 ·intro b o s n c e; cases e
 ·exact h
structure SetsO (B : Nat) (w : World) (v : Value) (l : List RSet) : Prop where
 out : ∃ css, Sl 4 w v css ∧ From B v ∧ SetsC w css l ∧ FromC B css
theorem SetsO.sets {B : Nat} {w : World} {v : Value} {l : List RSet} (h : SetsO B w v l) : SetsAt w v l := by
 obtain ⟨css, h1, _, h2, _⟩ := h
 exact h2.sets h1
theorem SetsO.ext {B : Nat} {w w' : World} {v : Value} {l : List RSet} (h : SetsO B w v l) (hx : Ext w w') : SetsO B w' v l := by
 obtain ⟨css, h1, h2, h3, h4⟩ := h
 exact ⟨css, h1.ext hx, h2, h3.ext hx, h4⟩
theorem SetsO.weaken {B C : Nat} {w : World} {v : Value} {l : List RSet} (h : SetsO B w v l) (hc : C ≤ B) : SetsO C w v l := by
 obtain ⟨css, h1, h2, h3, h4⟩ := h
 exact ⟨css, h1, h2.weaken hc, h3, fun f hf u hu => (h4 f hf u hu).weaken hc⟩
theorem Sl.put {B k b : Nat} {w w' : World} {v : Value} {es : List (List Value)} {o : Obj} (h : Sl k w v es) (hf : From B v) (hp : Put w w' b o) (hb : b < B) : Sl k w' v es := by
 obtain ⟨a, cap, h1, h2, h3, h4, h5, h6⟩ := h
 refine ⟨a, cap, h1, h2, h3, h4, h5, fun hn => ?_⟩
 obtain ⟨g, o, e, hc⟩ := h6 hn
 have hg : B ≤ g := hf g o none _ _ (by rw [h1, e])
 exact ⟨g, o, e, fun i e j x h1 h2 => (World.cell?_of_block (hp.other g (by omega))).trans (hc i e j x h1 h2)⟩
theorem SetsO.put {B b : Nat} {w w' : World} {v : Value} {l : List RSet} {o : Obj} (h : SetsO B w v l) (hp : Put w w' b o) (hb : b < B) : SetsO B w' v l := by
 obtain ⟨css, h1, h2, h3, h4⟩ := h
 refine ⟨css, h1.put h2 hp hb, h2, ⟨h3.len, fun i s hi => ?_⟩, h4⟩
 obtain ⟨x, e, hx⟩ := h3.at' i s hi
 exact ⟨x, e, hx.put (h4 _ (List.mem_of_getElem? e) x (by simp)) hp hb⟩
theorem SetsO.nil (B : Nat) (w : World) : SetsO B w (.slice none 0 0) [] := ⟨[], Sl.nil _ _, (by intro b o s n c e; cases e), ⟨rfl, by simp⟩, by intro f hf; cases hf⟩
theorem BD {ls : List (List UInt8)} (h : ls.all fL = true) : 2 * ls.length ≤ (enc ls).length := by
 induction ls with
 | nil => simp [enc]
 | cons x ls ih =>
  simp only [List.all_cons, Bool.and_eq_true] at h
  have := ih h.2
  have e : enc (x :: ls) = UInt8.ofNat x.length :: x ++ enc ls := by simp [enc]
  have hx : 1 ≤ x.length := by have := h.1; simp [fL] at this; omega
  rw [e]; simp; omega
theorem vI {ls : List (List UInt8)} (h : 127 < ls.length) : gJ ls = none := by
 rw [gJ, if_neg]
 rintro ⟨h1, h2⟩
 have := BD h1
 omega
set_option maxHeartbeats 1000000 in
theorem zE (v : Value) (ls : List (List UInt8)) (w : World) (h : Sl 1 w v (aI ls)) : Calls Tryz.prog 63 #[v] w (bS w (match gJ ls with | some n => .tuple #[aF n, .int .i64 0] | none => .tuple #[aF [], .int .i64 1])) := by
 have hlt0 : (aI ls).length = ls.length := bA ls
 by_cases h127 : 127 < ls.length
 ·go_enter Tryz.func63, Tryz.ntmps63
  refine_lift wN fun _ => ?_
  go_ret2
  exact ⟨by rw [vI h127]; rfl, Ext.refl _⟩
 ·go_enter Tryz.func63, Tryz.ntmps63
  refine_lift sT ?_; intro _ _ _ _
  go_loopw [4, 5] (fun s i wr => ∃ k : Nat, k ≤ ls.length ∧ i = .int .i64 k ∧ s = aF (enc (ls.take k)) ∧ Ext w wr ∧ (ls.take k).all fL = true ∧ (enc (ls.take k)).length ≤ 64 * k) (fun _ i _ => ls.length - (intOf i).toNat)
  case atStart => exact ⟨0, Nat.zero_le _, rfl, rfl, Ext.refl _, rfl, by simp [enc]⟩
  case round =>
   obtain ⟨k, hk, rfl, rfl, hx, hall, hlen⟩ := hrel
   have hsl := h.ext hx
   by_cases hlt : k < ls.length
   ·have hp := hsl.elem (fY hlt)
    (repeat' first | ((with_reducible refine aJ ?_); go_step) | ((with_reducible refine aG ?_); first | refine gE ?_ | (refine aK ?_ ?_ <;> intro hc)) | fail)
    rotate_left
    ·have h63 : ls[k].length ≤ 63 := by omega
     have h1 : 1 ≤ ls[k].length := by omega
     refine cN (S := fun w' => Ext wr w') (by decide +kernel) ?_
     intro w1 x1 hh1
     refine tk 0 ?_; refine aA ?_; refine tk 1 ?_; refine aA ?_; refine tk 2 ?_; refine aA ?_; refine tk 3 ?_; refine aA ?_; refine tk 4 ?_; refine aA ?_; refine tk 5 ?_; refine aA ?_; refine tk 6 ?_; refine aA ?_; refine tk 10 ?_; refine aA ?_; refine tk 11 ?_; refine aA ?_; refine tk 12 ?_; refine aA ?_; refine tk 13 ?_; refine aA ?_
     refine bR (i := 7) (by decide +kernel) rfl rfl ?_
     refine bY (e := 5) (k := 1) (bytes := 1) (xs := [.int .u8 (IntKind.wrap .u8 (ls[k].length : Nat))]) rfl rfl rfl (by simp [Value.cells]) (by decide +kernel) (by simp) ?_
     intro v2 w2 x2 _ s2 _
     have s2 : Sl 1 w2 v2 (aZ [UInt8.ofNat ls[k].length]) := by simpa [aZ, Value.cells, rQ] using s2
     refine aA ?_
     refine aQ ⟨by exact eN, ?_⟩
     refine bR (i := 8) (by decide +kernel) rfl rfl ?_
     refine_lift cI ?_
     refine ⟨by exact eN, ?_⟩
     refine bR (i := 9) (by decide +kernel) rfl rfl ?_
     refine_lift cI ?_
     refine ⟨by exact eN, ?_⟩
     refine bR (i := 14) (by decide +kernel) rfl rfl ?_
     refine_lift cI ?_
     refine ⟨by exact eN, ?_⟩
     refine bR (i := 15) (by decide +kernel) rfl rfl ?_
     refine_lift cI ?_
     refine ⟨by exact eN, ?_⟩
     refine cK (by decide +kernel) ?_
     have e : enc (ls.take k) ++ [UInt8.ofNat ls[k].length] ++ ls[k] = enc (ls.take (k + 1)) := by
      rw [List.take_add_one, List.getElem?_eq_getElem hlt, Option.toList_some, gN, qN]; simp
     rw [e]
     refine_lift cI ?_
     refine ⟨⟨k + 1, by omega, by go_num, rfl, by exact eN, ?_, ?_⟩, by simp [intOf]; omega⟩
     ·rw [List.take_add_one, List.getElem?_eq_getElem hlt, Option.toList_some, List.all_append, hall]
      simp [fL]; omega
     ·rw [← e]; simp; omega
    all_goals
     go_ret2
     refine ⟨?_, hx⟩
     rw [nS (List.getElem_mem hlt) (by simp [fL]; omega)]
     rfl
   ·have : k = ls.length := by omega
    subst this
    rw [List.take_length] at hall hlen ⊢
    refine_lift wX (fun _ _ => ?_) (fun _ _ _ _ => ?_)
    ·go_ret2
     refine ⟨?_, hx⟩
     rw [gJ, if_neg (by omega)]
     rfl
    ·go_ret2
     refine ⟨?_, hx⟩
     rw [gJ, if_pos ⟨hall, by omega⟩]
     rfl
theorem BE {α : Type} {R : α → α → Prop} {l : List α} {i : Nat} {c : α} (h : l.Pairwise R) (hi : i < l.length) (h1 : ∀ j (hj : j < i), R l[j] c) (h2 : ∀ j (hj : i < j) (hl : j < l.length), R c l[j]) : (l.set i c).Pairwise R := by
 rw [List.pairwise_iff_getElem] at *
 intro p q hp hq hpq
 simp only [List.length_set] at hp hq
 simp only [List.getElem_set]
 by_cases e1 : i = p
 ·subst e1
  rw [if_pos rfl, if_neg (by omega)]
  exact h2 q hpq hq
 ·by_cases e2 : i = q
  ·subst e2
   rw [if_neg e1, if_pos rfl]
   exact h1 p hpq
  ·rw [if_neg e1, if_neg e2]
   exact h p q hp hq hpq
theorem GS.split {w : World} {B : Nat} {gcs : List GC} (h : GS w B gcs) {i j : Nat} {c c' : GC} (hi : gcs[i]? = some c) (hj : gcs[j]? = some c') (hij : i ≠ j) : c.b ≠ c'.b ∧ (c.v.ownBlock = none ∨ c'.v.ownBlock = none ∨ c.v.ownBlock ≠ c'.v.ownBlock) := by
 have := List.pairwise_iff_getElem.1 h.apart
 obtain ⟨hi2, e1⟩ := List.getElem?_eq_some_iff.1 hi
 obtain ⟨hj2, e2⟩ := List.getElem?_eq_some_iff.1 hj
 subst e1 e2
 rcases Nat.lt_or_ge i j with h1 | h1
 ·exact this i j hi2 hj2 h1
 ·obtain ⟨a, b⟩ := this j i hj2 hi2 (by omega)
  exact ⟨fun e => a e.symm, by rcases b with b | b | b; exact .inr (.inl b); exact .inl b; exact .inr (.inr fun e => b e.symm)⟩
theorem nW {α : Type} {l : List α} {i : Nat} {c x : α} (h : x ∈ l.set i c) : x = c ∨ ∃ j, j ≠ i ∧ l[j]? = some x := by
 obtain ⟨j, hj⟩ := List.mem_iff_getElem?.1 h
 by_cases e : j = i
 ·subst e
  have hl : j < l.length := by simpa using (List.getElem?_eq_some_iff.1 hj).1
  rw [List.getElem?_set_self hl] at hj
  exact .inl (Option.some.inj hj).symm
 ·rw [List.getElem?_set_ne (Ne.symm e)] at hj
  exact .inr ⟨j, e, hj⟩
theorem GS.turn {w w1 w2 : World} {B : Nat} {gcs : List GC} {i : Nat} {c c' : GC} (h : GS w B gcs) (hi : gcs[i]? = some c) (hb : c'.b = c.b) (m : Mv c.v.ownBlock w w1) (o : Own B 1 9 w1 c'.v (aI c'.s.data))
 (kin : c'.v.ownBlock = c.v.ownBlock ∨ c'.v.ownBlock = some w.heap.size) (hp : Put w1 w2 c.b (.cells c'.cells.toArray 59 (0, 0))) : GS w2 B (gcs.set i c') := by
 have hc := h.each c (List.mem_of_getElem? hi)
 have hil := (List.getElem?_eq_some_iff.1 hi).1
 have hcb : c.v.ownBlock ≠ some c.b := hc.own.neBlock hc.blk (by omega)
 have ho : Own B 1 9 w2 c'.v (aI c'.s.data) := o.mv hp.mv (.inr (o.neBlock (cs := c.cells.toArray) (fz := (0, 0)) (m.at hc.blk (fun e => hcb e.symm)) (by omega)))
 have hother : ∀ j x, j ≠ i → gcs[j]? = some x → GOK w2 B x ∧ x.b ≠ c.b ∧ (x.v.ownBlock = none ∨ x.v.ownBlock ≠ c'.v.ownBlock) := by
  intro j x hj hx
  have hxo := h.each x (List.mem_of_getElem? hx)
  obtain ⟨s1, s2⟩ := h.split hx hi hj
  have n1 : some x.b ≠ c.v.ownBlock := fun e => (hc.own.neBlock hxo.blk (by omega)) e.symm
  have n2 : x.v.ownBlock = none ∨ x.v.ownBlock ≠ c.v.ownBlock := by
   rcases s2 with s2 | s2 | s2
   ·exact .inl s2
   ·cases hv : x.v.ownBlock with
    | none => exact .inl rfl
    | some r => rw [s2]; exact .inr (by simp)
   ·exact .inr s2
  have g1 := hxo.mv m n1 n2
  refine ⟨g1.mv hp.mv (fun e => s1 (Option.some.inj e)) (.inr (hxo.own.neBlock hc.blk (by omega))), s1, ?_⟩
  rcases kin with k | k
  ·rw [k]; exact n2
  ·rw [k]
   cases hv : x.v.ownBlock with
   | none => exact .inl rfl
   | some r => exact .inr fun e => by have := (hxo.own.block r hv).2; have := Option.some.inj e; omega
 refine ⟨fun x hx => ?_, BE h.apart hil (fun j hj => ?_) (fun j hj hl => ?_)⟩
 ·rcases nW hx with rfl | ⟨j, hj, hx⟩
  ·exact ⟨by rw [hb]; exact hp.this, by rw [hb]; exact hc.ge, ho⟩
  ·exact (hother j x hj hx).1
 ·obtain ⟨_, a, b⟩ := hother j gcs[j] (by omega) (List.getElem?_eq_getElem (by omega))
  exact ⟨by rw [hb]; exact a, by rcases b with b | b; exact .inl b; exact .inr (.inr b)⟩
 ·obtain ⟨_, a, b⟩ := hother j gcs[j] (by omega) (List.getElem?_eq_getElem hl)
  exact ⟨by rw [hb]; exact fun e => a e.symm, by rcases b with b | b; exact .inr (.inl b); exact .inr (.inr fun e => b e.symm)⟩
theorem GS.push {w : World} {B : Nat} {gcs : List GC} {c : GC} (h : GS w B gcs) (hc : GOK w B c) (hn : ∀ x ∈ gcs, x.b ≠ c.b) (hv : c.v.ownBlock = none) : GS w B (gcs ++ [c]) := by
 refine ⟨fun x hx => ?_, ?_⟩
 ·rcases List.mem_append.1 hx with hx | hx
  ·exact h.each x hx
  ·rw [List.mem_singleton.1 hx]; exact hc
 ·rw [List.pairwise_append]
  refine ⟨h.apart, by simp, fun x hx y hy => ?_⟩
  rw [List.mem_singleton.1 hy]
  exact ⟨hn x hx, .inr (.inl hv)⟩
theorem GS.mv {w w' : World} {B : Nat} {gcs : List GC} {row : Option Nat} (h : GS w B gcs) (hm : Mv row w w') (h1 : ∀ c ∈ gcs, some c.b ≠ row ∧ (c.v.ownBlock = none ∨ c.v.ownBlock ≠ row)) : GS w' B gcs :=
 ⟨fun c hc => (h.each c hc).mv hm (h1 c hc).1 (h1 c hc).2, h.apart⟩
theorem DV : Tryz.prog.keyTypeAt 2 216 = true := by kernel_rfl
theorem xE : Tryz.prog.tiled 2 216 = true := by kernel_rfl
theorem xF : WideMaps.KeyLaw Tryz.prog 216 := deep_law (m := 2) (by omega) DV xE (by kernel_rfl)
theorem uJ (n : List UInt8) (k : Int) (hn : n.length ≤ 1000000) (hk : 0 ≤ k ∧ k ≤ 65535) : ∃ l, keyOf Tryz.prog 216 (.agg #[aF n, .int .i64 k]) = some l := by
 unfold keyOf
 rw [Tryz.underlying216]
 have kt2 : Tryz.prog.keyType 216 = true := by kernel_rfl
 simp only [kt2]
 rw [show Tryz.prog.types.size = 321 from by kernel_rfl]
 have c48 : Tryz.prog.cellsOf 216 = 2 := by kernel_rfl
 have c30 : Tryz.prog.cellsOf 29 = 1 := by kernel_rfl
 have c3 : Tryz.prog.cellsOf 3 = 1 := by kernel_rfl
 have f : Value.formed Tryz.prog 216 (Value.agg #[aF n, Value.int IntKind.i64 k]) = true := by simp [Value.formed, Tryz.underlying216, c48]
 have hs : (ByteArray.mk n.toArray).size ≤ maxLen := by rw [cQ]; unfold maxLen; omega
 have hw : (Lit.int .i64 k).wf = true := by simp [Lit.wf, IntKind.min, IntKind.max, IntKind.bits, IntKind.signed]; omega
 have l30 : Tryz.prog.keyLits 321 29 [aF n] = some [.string n] := by simp [Program.keyLits, Tryz.underlying29, aF, -ByteArray.size_data, hs]
 have l3 : Tryz.prog.keyLits 321 3 [Value.int .i64 k] = some [.int .i64 k] := by simp [Program.keyLits, Tryz.underlying3, hw]
 rw [f]
 simp only [Bool.and_self, if_true]
 unfold Program.keyLits
 simp [Tryz.underlying216, c48, c30, c3, Value.cells, l30, l3]
structure L1 (w0 w : World) (kv : Value) (gcs : List GC) : Prop where
 ext : Ext w0 w
 map : MapAt Tryz.prog 216 w w0.heap.size (gcs.map GC.key)
 keys : Own (w0.heap.size + 1) 2 216 w kv (gcs.map GC.kcells)
 sets : GS w (w0.heap.size + 1) gcs
theorem L1.grow {w0 w w' : World} {kv : Value} {gcs : List GC} (h : L1 w0 w kv gcs) (hx : Ext w w') : L1 w0 w' kv gcs :=
 ⟨h.ext.trans hx, h.map.at (fun o ho => hx.at ho), h.keys.ext hx, h.sets.ext hx⟩
def bK (s : SoaR) : List Int := [s.refresh, s.retry, s.expire, s.minimum]
def gO (s : SoaR) : List UInt8 := s.main ++ [0] ++ (s.mail ++ [0]) ++ tE s.serial.toNat
def lD (l : List Int) : List UInt8 := (l.map fun n => tE n.toNat).flatten
theorem rS (s : SoaR) : s.data = gO s ++ lD (bK s) := by simp [SoaR.data, gO, lD, bK]
theorem vJ (l : List Int) (k : Nat) (h : k < l.length) : lD (l.take (k + 1)) = lD (l.take k) ++ tE l[k].toNat := by
 unfold lD
 rw [List.take_add_one, List.getElem?_eq_getElem h, Option.toList_some, List.map_append, List.flatten_append]
 simp
theorem xG (l : List Int) : (lD l).length = 4 * l.length := by
 induction l with
 | nil => rfl
 | cons x l ih =>
  have : lD (x :: l) = tE x.toNat ++ lD l := by simp [lD]
  rw [this, List.length_append, ih, List.length_cons]
  simp [tE]; omega
theorem BF (s : SoaR) : s.ok = ((aU s.main).isSome && (aU s.mail).isSome && decide (0 ≤ s.serial) && decide (s.serial ≤ 4294967295) && (bK s).all eI) := by
 simp [SoaR.ok, bK, Bool.and_assoc]
set_option maxHeartbeats 1000000 in
theorem FX (s : SoaR) (w : World) (h1 : s.main.length ≤ 4611686018427387904) (h2 : s.mail.length ≤ 4611686018427387904) : Calls Tryz.prog 200 #[.agg s.cells.toArray] w (bS w (if s.ok = true then .tuple #[aF s.data, .int .i64 0] else .tuple #[aF [], .int .i64 1])) := by
 have hA := fun w => EP s.main w (by omega)
 have hB := fun w => EP s.mail w (by omega)
 cases hm : aU s.main with
 | none =>
  simp only [hm, Option.isSome_none, Bool.false_eq_true, if_false] at hA
  have hno : s.ok = false := by simp [SoaR.ok, hm]
  rw [hno]
  go_enter Tryz.func200, Tryz.ntmps200
  refine_lift AY fun _ _ => ?_
  refine dB (vs := s.cells) rfl rfl ?_
  intro p w1 x1 hp
  refine aA ?_
  have hp' : Pts w1 p [aF s.main, aF s.mail, .int .i64 s.serial, .int .i64 s.refresh, .int .i64 s.retry, .int .i64 s.expire, .int .i64 s.minimum] := hp
  refine_lift eJ fun _ _ => ?_
  refine aB (enters_of Tryz.func230 rfl rfl) rfl rfl (hA _) ?_
  intro w2 x2
  have hp' := hp'.ext x2
  refine_lift eJ fun _ _ => ?_
  refine aB (enters_of Tryz.func230 rfl rfl) rfl rfl (hB _) ?_
  intro w3 x3
  cases hl : (aU s.mail).isSome with
  | true =>
   simp only [hl, if_true]
   have hp' := hp'.ext x3
   refine_lift cI ?_
   go_ret2
   exact ⟨rfl, (x1.trans x2).trans x3⟩
  | false =>
   simp only [hl, Bool.false_eq_true, if_false]
   have hp' := hp'.ext x3
   refine_lift cI ?_
   go_ret2
   exact ⟨rfl, (x1.trans x2).trans x3⟩
 | some ls =>
  simp only [hm, Option.isSome_some, if_true] at hA
  cases hm2 : aU s.mail with
  | none =>
   simp only [hm2, Option.isSome_none, Bool.false_eq_true, if_false] at hB
   have hno : s.ok = false := by simp [SoaR.ok, hm2]
   rw [hno]
   go_enter Tryz.func200, Tryz.ntmps200
   refine_lift AY fun _ _ => ?_
   refine dB (vs := s.cells) rfl rfl ?_
   intro p w1 x1 hp
   refine aA ?_
   have hp' : Pts w1 p [aF s.main, aF s.mail, .int .i64 s.serial, .int .i64 s.refresh, .int .i64 s.retry, .int .i64 s.expire, .int .i64 s.minimum] := hp
   refine_lift eJ fun _ _ => ?_
   refine aB (enters_of Tryz.func230 rfl rfl) rfl rfl (hA _) ?_
   intro w2 x2
   have hp' := hp'.ext x2
   refine_lift eJ fun _ _ => ?_
   refine aB (enters_of Tryz.func230 rfl rfl) rfl rfl (hB _) ?_
   intro w3 x3
   have hp' := hp'.ext x3
   refine_lift cI ?_
   go_ret2
   exact ⟨rfl, (x1.trans x2).trans x3⟩
  | some ms =>
   simp only [hm2, Option.isSome_some, if_true] at hB
   have hfm := eB hm
   have hfm2 := eB hm2
   rw [BF, hm, hm2]
   simp only [Option.isSome_some, Bool.true_and]
   go_enter Tryz.func200, Tryz.ntmps200
   refine_lift AY fun _ _ => ?_
   refine dB (vs := s.cells) rfl rfl ?_
   intro p w1 x1 hp
   refine aA ?_
   have hp' : Pts w1 p [aF s.main, aF s.mail, .int .i64 s.serial, .int .i64 s.refresh, .int .i64 s.retry, .int .i64 s.expire, .int .i64 s.minimum] := hp
   refine_lift eJ fun _ _ => ?_
   refine aB (enters_of Tryz.func230 rfl rfl) rfl rfl (hA _) ?_
   intro w2 x2
   have hp' := hp'.ext x2
   refine_lift eJ fun _ _ => ?_
   refine aB (enters_of Tryz.func230 rfl rfl) rfl rfl (hB _) ?_
   intro w3 x3
   have hp' := hp'.ext x3
   have x13 := (x1.trans x2).trans x3
   clear x1 x2 x3 hp hA hB
   refine_lift CG (fun hc _ _ _ => ?_) (fun hc => ?_) (fun hc _ => ?_)
   ·have hc := ‹4294967295 < s.serial›
    go_ret2
    refine ⟨?_, x13⟩
    have hno : (decide (0 ≤ s.serial) && decide (s.serial ≤ 4294967295)) = false := by simp only [Bool.and_eq_false_iff, decide_eq_false_iff_not]; omega
    simp only [hno, Bool.false_and, Bool.false_eq_true, if_false]
    rfl
   ·have hc := ‹s.serial ≤ 4294967295›
    have hc0 := ‹¬s.serial < 0›
    have hser : (decide (0 ≤ s.serial) && decide (s.serial ≤ 4294967295)) = true := by simp; omega
    refine kV (e := 5) (l := s.main ++ [0] ++ (s.mail ++ [0])) rfl rfl (by decide +kernel) (by decide +kernel) (by simp; omega) ?_
    intro v w4 x4 o4
    refine aA ?_
    have hp' := hp'.ext x4
    have hsn : s.serial = ((s.serial.toNat : Nat) : Int) := by omega
    refine_lift cI ?_
    rw [hsn]
    refine aT (enters_of Tryz.func231 rfl rfl) rfl rfl (ES (B := w3.heap.size) s.serial.toNat o4 x4.size (by omega) (by simp; omega)) ?_
    rintro e w5 ⟨v5, rfl, o5, m5⟩
    refine ⟨_, rfl, ?_⟩
    refine aA ?_
    have x35 := o4.mvx m5 x4 (Nat.le_refl _)
    have hp' := ‹Pts w3 p _›.ext x35
    have x15 := x13.trans x35
    rw [← hsn]
    refine_lift sT fun _ _ _ _ => ?_
    refine bW (v := .agg ((bK s).map (Value.int .i64)).toArray) rfl (Runs.build rfl (by kernel_rfl)) ?_
    refine aA ?_
    refine_lift cI ?_
    clear hp' m5
    have hbase : s.main ++ [0] ++ (s.mail ++ [0]) ++ tE s.serial.toNat = gO s := rfl
    rw [hbase] at o5
    have hbl : (gO s).length ≤ 600 := by simp [gO, tE]; omega
    go_loopw [8, 55] (fun v6 i wr => ∃ k : Nat, k ≤ 4 ∧ i = .int .i64 k ∧ Ext w wr ∧ w3.heap.size ≤ wr.heap.size ∧ Own w3.heap.size 1 5 wr v6 (aZ (gO s ++ lD ((bK s).take k))) ∧ ((bK s).take k).all eI = true) (fun _ i _ => 4 - (intOf i).toNat)
    case atStart => exact ⟨0, by omega, rfl, x15, x35.size, by simpa [lD] using o5, rfl⟩
    case round =>
     obtain ⟨k, hk, rfl, hx, hsz, ho, hall⟩ := hrel
     have hlen : (bK s).length = 4 := rfl
     by_cases hlt : k < 4
     ·have hlt2 : k < (bK s).length := hlt
      have hdata : s.data = gO s ++ lD (bK s) := rS s
      have hsplit : (bK s).all eI = true → eI (bK s)[k] = true := fun h => List.all_eq_true.1 h _ (List.getElem_mem hlt2)
      refine_lift CH ?_; intro _ _ _ _ _ _
      refine bW (v := .int .i64 (bK s)[k]) rfl (Runs.idxA (n := 4) (i := k) rfl rfl (by simp [hlt2]) hlt (by decide +kernel)) ?_
      refine aA ?_
      refine_lift CF (fun hc _ => ?_) (fun hc => ?_) (fun hc _ => ?_)
      ·have hc2 := ‹2147483647 < (bK s)[k]›
       go_ret2
       refine ⟨?_, hx⟩
       have hno : (bK s).all eI = false := by
        cases h : (bK s).all eI with
        | false => rfl
        | true => have := hsplit h; simp [eI] at this; omega
       simp only [hser, hno, Bool.and_false, Bool.false_eq_true, if_false]
       rfl
      ·have hc2 := ‹(bK s)[k] ≤ 2147483647›
       have hc1 := ‹¬(bK s)[k] < 0›
       have hnn : (bK s)[k] = (((bK s)[k].toNat : Nat) : Int) := by omega
       have hbs : (lD ((bK s).take k)).length ≤ 16 := by rw [xG]; simp; omega
       rw [hnn]
       refine aT (enters_of Tryz.func231 rfl rfl) rfl rfl (ES (B := w3.heap.size) (bK s)[k].toNat ho hsz (by omega) (by rw [List.length_append]; omega)) ?_
       rintro e w6 ⟨v6, rfl, o6, m6⟩
       refine ⟨_, rfl, ?_⟩
       refine aA ?_
       have hx6 := ho.mvx m6 hx x13.size
       have hs6 : w3.heap.size ≤ w6.heap.size := Nat.le_trans hsz m6.size
       rw [List.append_assoc, ← vJ _ _ hlt2] at o6
       refine_lift cI ?_
       refine ⟨⟨k + 1, by omega, rfl, hx6, hs6, o6, ?_⟩, by simp [intOf]; omega⟩
       rw [List.take_add_one, List.getElem?_eq_getElem hlt2, Option.toList_some, List.all_append, hall]
       simp only [List.all_cons, List.all_nil, eI, Bool.true_and, Bool.and_true, Bool.and_eq_true, decide_eq_true_eq]
       omega
      ·have hc2 := ‹(bK s)[k] < 0›
       go_ret2
       refine ⟨?_, hx⟩
       have hno : (bK s).all eI = false := by
        cases h : (bK s).all eI with
        | false => rfl
        | true => have := hsplit h; simp [eI] at this; omega
       simp only [hser, hno, Bool.and_false, Bool.false_eq_true, if_false]
       rfl
     ·have : k = 4 := by omega
      subst this
      have hsl := ho.sl
      rw [show (bK s).take 4 = bK s from rfl] at hsl hall
      refine_lift wN fun _ => ?_
      go_ret2
      refine ⟨?_, hx⟩
      simp only [hser, hall, Bool.and_self, if_true]
      rw [rS]
      rfl
   ·have hc := ‹s.serial < 0›
    go_ret2
    refine ⟨?_, x13⟩
    have hno : (decide (0 ≤ s.serial) && decide (s.serial ≤ 4294967295)) = false := by simp only [Bool.and_eq_false_iff, decide_eq_false_iff_not]; omega
    simp only [hno, Bool.false_and, Bool.false_eq_true, if_false]
    rfl
def bX : List Value := [aF [], aF [], .int .i64 0, .int .i64 0, .int .i64 0, .int .i64 0, .int .i64 0]
theorem nX (s : List UInt8) : (bE s).1.length ≤ s.length ∧ (bE s).2.1.length ≤ s.length := by
 unfold bE
 split
 ·simp
 ·refine ⟨?_, by simp⟩
  unfold fV
  split
  ·simp only [Option.getD_some]
   have : (Lib.trimSuffix (s.take (fW s + 1)) [0]).length ≤ (s.take (fW s + 1)).length := Lib.trimSuffix_le _ _
   simp at this ⊢
   omega
  ·simp
set_option maxHeartbeats 1000000 in
theorem FY (d : List UInt8) (w : World) (hl : d.length ≤ 4611686018427387904) : Calls Tryz.prog 146 #[aF d] w (bS w (match bV d with | some s => .tuple #[.agg s.cells.toArray, .int .i64 0] | none => .tuple #[.agg bX.toArray, .int .i64 2])) := by
 have hl1 := nX d
 have hl2 := nX (bE d).2.1
 go_enter Tryz.func146, Tryz.ntmps146
 refine_lift DE ?_; intro _ _ _
 refine aH (z := bX) rfl (by decide +kernel) ?_
 intro w1 x1 s1 h1
 refine aA ?_
 refine_lift eJ fun _ _ => ?_
 refine aB (enters_of Tryz.func198 rfl rfl) rfl rfl (ER d _ hl) ?_
 intro w2 x2
 refine aA ?_
 have h12 := x2.at h1
 refine_lift cI ?_
 refine aH (z := [aF []]) rfl (by decide +kernel) ?_
 intro w3 x3 s3 h3
 refine aA ?_
 have h13 := x3.at h12
 refine_lift cI ?_
 refine cM (v := aF (bE d).2.1) rfl rfl rfl h3 (by decide +kernel) rfl ?_
 intro w4 p4
 have s2 : w.heap.size < w2.heap.size := by have := x2.size; omega
 have h14 := p4.at h13 (by omega)
 have h54 := p4.this
 have x4 : Ext w w4 := ((x1.trans x2).trans x3).move p4.mv (by rintro k ⟨⟩; omega)
 have hp5 := aC (cs := [aF (bE d).2.1]) h54
 generalize hb5 : w2.heap.size = b5 at *
 clear h1 h12 h13 h3 p4 x1 x2 x3 s3
 refine_lift eJ fun _ _ => ?_
 refine aB (enters_of Tryz.func198 rfl rfl) rfl rfl (ER _ _ (by omega)) ?_
 intro w5 x5
 refine aA ?_
 have h15 := x5.at h14
 have h55 := x5.at h54
 have hp5 := hp5.ext x5
 have x5 := x4.trans x5
 refine_lift cI ?_
 refine cM (v := aF (bE (bE d).2.1).2.1) rfl rfl rfl h55 (by decide +kernel) rfl ?_
 intro w6 p6
 have h16 := p6.at h15 (by omega)
 have h56 := p6.this
 have x6 : Ext w w6 := x5.move p6.mv (by rintro k ⟨⟩; omega)
 clear hp5 h54 h14 h15 h55 p6 x4 x5
 have hp5 := aC (cs := [aF (bE (bE d).2.1).2.1]) h56
 refine_lift BA (fun hc hc _ _ _ => ?_) (fun _ _ hc hc _ _ => ?_) (fun _ _ hc _ _ => ?_) (fun _ _ hc hc _ _ _ => ?_)
 ·refine bW (v := .agg bX.toArray) rfl (Runs.build (parts := []) (vals := []) rfl (by kernel_rfl)) ?_
  refine aA ?_
  refine aD (v := .agg bX.toArray) rfl rfl rfl h16 (by decide +kernel) rfl (by decide +kernel) ?_
  intro w7 p7
  have x7 : Ext w w7 := x6.move p7.mv (by rintro k ⟨⟩; omega)
  have h17 : w7.heap[w.heap.size]? = some (.cells bX.toArray 208 (0, 0)) := p7.this
  refine_lift cI ?_
  refine bodyPost_ret (bD (cs := bX) rfl rfl h17 (by decide +kernel)) rfl ⟨?_, x7⟩
  have hno : bV d = none := by
   unfold bV
   rw [if_neg]
   rintro ⟨q1, q2, q3, q4⟩
   have := ‹(!decide (((bE (bE d).2.1).2.1.length : Int) = 20)) = true›
   simp [q3] at this
  rw [hno]
  rfl
 ·have hc1 := ‹(!(bE d).2.2) = false›
  have hc2 := ‹(!(bE (bE d).2.1).2.2) = false›
  have hc3 := ‹(!decide (((bE (bE d).2.1).2.1.length : Int) = 20)) = false›
  have hr : (bE (bE d).2.1).2.1.length = 20 := by simp at hc3; omega
  have q1 : (bE d).2.2 = true := by simpa using hc1
  have q2 : (bE (bE d).2.1).2.2 = true := by simpa using hc2
  have hps : bV d = if (dA d).ok = true then some (dA d) else none := by
   unfold bV
   simp only [q1, q2, hr, true_and]
  generalize hrr : (bE (bE d).2.1).2.1 = r at *
  refine cS (f := 199) (caps := #[.pointer (some ⟨b5, 0, none⟩)]) (enters_of Tryz.func199 rfl rfl) rfl rfl rfl (CK r 0 _ _ hp5 hr (by omega)) ?_
  rintro e w10 ⟨rfl, y⟩
  refine ⟨_, rfl, ?_⟩
  refine aA ?_
  have hp5 := hp5.ext y
  have h16 := y.at h16
  have x6 := x6.trans y
  clear y
  refine_lift cI ?_
  refine cS (f := 199) (caps := #[.pointer (some ⟨b5, 0, none⟩)]) (enters_of Tryz.func199 rfl rfl) rfl rfl rfl (CK r 1 _ _ hp5 hr (by omega)) ?_
  rintro e w11 ⟨rfl, y⟩
  refine ⟨_, rfl, ?_⟩
  refine aA ?_
  have hp5 := hp5.ext y
  have h16 := y.at h16
  have x6 := x6.trans y
  clear y
  refine_lift cI ?_
  refine cS (f := 199) (caps := #[.pointer (some ⟨b5, 0, none⟩)]) (enters_of Tryz.func199 rfl rfl) rfl rfl rfl (CK r 2 _ _ hp5 hr (by omega)) ?_
  rintro e w12 ⟨rfl, y⟩
  refine ⟨_, rfl, ?_⟩
  refine aA ?_
  have hp5 := hp5.ext y
  have h16 := y.at h16
  have x6 := x6.trans y
  clear y
  refine_lift cI ?_
  refine cS (f := 199) (caps := #[.pointer (some ⟨b5, 0, none⟩)]) (enters_of Tryz.func199 rfl rfl) rfl rfl rfl (CK r 3 _ _ hp5 hr (by omega)) ?_
  rintro e w13 ⟨rfl, y⟩
  refine ⟨_, rfl, ?_⟩
  refine aA ?_
  have hp5 := hp5.ext y
  have h16 := y.at h16
  have x6 := x6.trans y
  clear y
  refine_lift cI ?_
  refine cS (f := 199) (caps := #[.pointer (some ⟨b5, 0, none⟩)]) (enters_of Tryz.func199 rfl rfl) rfl rfl rfl (CK r 4 _ _ hp5 hr (by omega)) ?_
  rintro e w14 ⟨rfl, y⟩
  refine ⟨_, rfl, ?_⟩
  refine aA ?_
  have hp5 := hp5.ext y
  have h16 := y.at h16
  have x6 := x6.trans y
  clear y
  refine_lift cI ?_
  have hsc : (dA d).cells = [aF (bE d).1, aF (bE (bE d).2.1).1, .int .i64 (numP r 0 4 : Nat), .int .i64 (numP r 1 4 : Nat), .int .i64 (numP r 2 4 : Nat), .int .i64 (numP r 3 4 : Nat), .int .i64 (numP r 4 4 : Nat)] := by
   simp only [SoaR.cells, dA, hrr]
  refine bW (v := .agg (dA d).cells.toArray) rfl (by rw [hsc]; exact Runs.build rfl (by kernel_rfl)) ?_
  refine aA ?_
  refine aH (z := bX) rfl (by decide +kernel) ?_
  intro w15 x15 s15 h15
  refine aA ?_
  have h16 := x15.at h16
  have x6 := x6.trans x15
  have hlt16 : w.heap.size < w14.heap.size := (Array.getElem?_eq_some_iff.1 ‹w14.heap[w.heap.size]? = _›).1
  refine aD (v := .agg (dA d).cells.toArray) rfl rfl rfl h15 (show aP Tryz.prog 208 7 = true by decide +kernel) rfl (by rw [hsc]; simp [Value.cells, Value.oneCell', aF]) ?_
  intro w16 p16
  have h16 := p16.at h16 (by omega)
  have x6 := x6.move p16.mv (by rintro k ⟨⟩; omega)
  have hb10 : w16.heap[w14.heap.size]? = some (.cells (dA d).cells.toArray 208 (0, 0)) := p16.this
  have hp10 := aC hb10
  refine_lift sT fun _ _ _ _ => ?_
  refine bW (v := .agg (dA d).cells.toArray) rfl (Runs.loadN (n := 7) hp10 rfl (by decide +kernel)) ?_
  refine aA ?_
  have hm1 : (dA d).main.length ≤ 4611686018427387904 := by simp only [dA]; omega
  have hm2 : (dA d).mail.length ≤ 4611686018427387904 := by simp only [dA]; omega
  refine aB (enters_of Tryz.func200 rfl rfl) rfl rfl (FX (dA d) _ hm1 hm2) ?_
  intro w17 x17
  refine aA ?_
  have h16 := x17.at h16
  have hb10 := x17.at hb10
  have x6 := x6.trans x17
  have hp10 := hp10.ext x17
  cases hok : (dA d).ok with
  | false =>
   simp only [hok, Bool.false_eq_true, if_false] at hps ⊢
   refine_lift BX fun _ _ _ => ?_
   refine bW (v := .agg bX.toArray) rfl (Runs.build (parts := []) (vals := []) rfl (by kernel_rfl)) ?_
   refine aA ?_
   refine aD (v := .agg bX.toArray) rfl rfl rfl h16 (by decide +kernel) rfl (by decide +kernel) ?_
   intro w7 p7
   have x7 : Ext w w7 := x6.move p7.mv (by rintro k ⟨⟩; omega)
   have h17 : w7.heap[w.heap.size]? = some (.cells bX.toArray 208 (0, 0)) := p7.this
   refine_lift cI ?_
   refine bodyPost_ret (bD (cs := bX) rfl rfl h17 (by decide +kernel)) rfl ⟨?_, x7⟩
   rw [hps]
   rfl
  | true =>
   simp only [hok, if_true] at hps ⊢
   refine_lift eJ fun _ _ => ?_
   refine bW (v := .agg (dA d).cells.toArray) rfl (Runs.loadN (n := 7) hp10 rfl (by decide +kernel)) ?_
   refine aA ?_
   refine aD (v := .agg (dA d).cells.toArray) rfl rfl rfl h16 (show aP Tryz.prog 208 7 = true by decide +kernel) rfl (by rw [hsc]; simp [Value.cells, Value.oneCell', aF]) ?_
   intro w7 p7
   have x7 : Ext w w7 := x6.move p7.mv (by rintro k ⟨⟩; omega)
   have h17 : w7.heap[w.heap.size]? = some (.cells (dA d).cells.toArray 208 (0, 0)) := p7.this
   refine_lift cI ?_
   refine bodyPost_ret (bD (cs := (dA d).cells) rfl rfl h17 (show bH Tryz.prog 208 7 = true by decide +kernel)) rfl ⟨?_, x7⟩
   rw [hps]
   rfl
 ·refine bW (v := .agg bX.toArray) rfl (Runs.build (parts := []) (vals := []) rfl (by kernel_rfl)) ?_
  refine aA ?_
  refine aD (v := .agg bX.toArray) rfl rfl rfl h16 (by decide +kernel) rfl (by decide +kernel) ?_
  intro w7 p7
  have x7 : Ext w w7 := x6.move p7.mv (by rintro k ⟨⟩; omega)
  have h17 : w7.heap[w.heap.size]? = some (.cells bX.toArray 208 (0, 0)) := p7.this
  refine_lift cI ?_
  refine bodyPost_ret (bD (cs := bX) rfl rfl h17 (by decide +kernel)) rfl ⟨?_, x7⟩
  have hno : bV d = none := by
   unfold bV
   rw [if_neg]
   rintro ⟨q1, q2, q3, q4⟩
   have := ‹(!(bE (bE d).2.1).2.2) = true›
   simp [q2] at this
  rw [hno]
  rfl
 ·refine bW (v := .agg bX.toArray) rfl (Runs.build (parts := []) (vals := []) rfl (by kernel_rfl)) ?_
  refine aA ?_
  refine aD (v := .agg bX.toArray) rfl rfl rfl h16 (by decide +kernel) rfl (by decide +kernel) ?_
  intro w7 p7
  have x7 : Ext w w7 := x6.move p7.mv (by rintro k ⟨⟩; omega)
  have h17 : w7.heap[w.heap.size]? = some (.cells bX.toArray 208 (0, 0)) := p7.this
  refine_lift cI ?_
  refine bodyPost_ret (bD (cs := bX) rfl rfl h17 (by decide +kernel)) rfl ⟨?_, x7⟩
  have hno : bV d = none := by
   unfold bV
   rw [if_neg]
   rintro ⟨q1, q2, q3, q4⟩
   have := ‹(!(bE d).2.2) = true›
   simp [q1] at this
  rw [hno]
  rfl
set_option maxHeartbeats 1000000 in
theorem FZ (k : Int) (d : List UInt8) (w : World) (hl : d.length ≤ 4000) : Calls Tryz.prog 108 #[.int .i64 k, aF d] w (bS w (.bool (mM k d))) := by
 have h38 := fun w => FY d w (by omega)
 go_enter Tryz.func108, Tryz.ntmps108
 (repeat' first | ((with_reducible refine aJ ?_); go_step) | ((with_reducible refine aG ?_); first | refine gE ?_ | (refine aK ?_ ?_ <;> intro hc)) | fail)
 ·have h1 := ‹k = 1›
  go_ret
  refine ⟨?_, Ext.refl _⟩
  rw [mM, if_pos h1]
  have e : decide ((d.length : Int) = 4) = decide (d.length = 4) := by apply decide_eq_decide.2; omega
  exact congrArg (fun b => Ending.returned (Value.bool b)) e
 ·have h1 := ‹¬k = 1›
  have h2 := ‹k = 28›
  go_ret
  refine ⟨?_, Ext.refl _⟩
  rw [mM, if_neg h1, if_pos h2]
  have e : decide ((d.length : Int) = 16) = decide (d.length = 16) := by apply decide_eq_decide.2; omega
  exact congrArg (fun b => Ending.returned (Value.bool b)) e
 ·have h1 := ‹¬k = 1›
  have h2 := ‹¬k = 28›
  have h3 := ‹k = 16›
  refine aB (enters_of Tryz.func165 rfl rfl) rfl rfl (FS _ _ (by omega)) ?_
  intro w2 x2
  refine aA ?_
  refine_lift cI ?_
  go_ret
  refine ⟨?_, x2⟩
  rw [mM, if_neg h1, if_neg h2, if_pos h3]
  rfl
 ·have h1 := ‹¬k = 1›
  have h2 := ‹¬k = 28›
  have h3 := ‹¬k = 16›
  have h4 := ‹k = 6›
  have hF : mM k d = (bV d).isSome := by rw [mM, if_neg h1, if_neg h2, if_neg h3, if_pos h4]
  refine aB (enters_of Tryz.func146 rfl rfl) rfl rfl (h38 _) ?_
  intro w2 x2
  refine aA ?_
  cases hp : bV d with
  | none =>
   simp only [hp] at hF
   refine_lift cI ?_
   refine aH (z := bX) rfl (by decide +kernel) ?_
   intro w3 x3 s3 h3b
   refine aA ?_
   refine aD (v := .agg bX.toArray) rfl rfl rfl h3b (by decide +kernel) rfl (by decide +kernel) ?_
   intro w4 p4
   refine_lift cI ?_
   go_ret
   refine ⟨?_, (x2.trans x3).move p4.mv (by rintro k ⟨⟩; exact x2.size)⟩
   rw [hF]
   rfl
  | some s =>
   simp only [hp] at hF
   have hsc : ∀ s : SoaR, s.cells = [aF s.main, aF s.mail, .int .i64 s.serial, .int .i64 s.refresh, .int .i64 s.retry, .int .i64 s.expire, .int .i64 s.minimum] := fun _ => rfl
   refine_lift cI ?_
   refine aH (z := bX) rfl (by decide +kernel) ?_
   intro w3 x3 s3 h3b
   refine aA ?_
   refine aD (v := .agg s.cells.toArray) rfl rfl rfl h3b (show aP Tryz.prog 208 7 = true by decide +kernel) rfl (by rw [hsc]; simp [Value.cells, Value.oneCell', aF]) ?_
   intro w4 p4
   refine_lift cI ?_
   go_ret
   refine ⟨?_, (x2.trans x3).move p4.mv (by rintro k ⟨⟩; exact x2.size)⟩
   rw [hF]
   rfl
 ·have h1 := ‹¬k = 1›
  have h2 := ‹¬k = 28›
  have h3 := ‹¬k = 16›
  have h4 := ‹¬k = 6›
  refine aB (enters_of Tryz.func101 rfl rfl) rfl rfl (DU k d _ (by omega)) ?_
  intro w2 x2
  refine aA ?_
  refine_lift cI ?_
  go_ret
  refine ⟨?_, x2⟩
  rw [mM, if_neg h1, if_neg h2, if_neg h3, if_neg h4]
  simp
set_option maxHeartbeats 20000000 in
theorem ET (r : Rec) (w : World) : Calls Tryz.prog 61 #[.agg #[aF r.name, .int .i64 r.kind, .int .i64 r.ttl, aF r.data]] w (bS w (.int .i64 (bF r))) := by
 have hf : r.data.length ≤ 4000 → ∀ w, Calls Tryz.prog 108 #[.int .i64 r.kind, aF r.data] w (bS w (.bool (mM r.kind r.data))) := fun h w => FZ _ _ w h
 go_enter Tryz.func61, Tryz.ntmps61
 refine_lift AY fun _ _ => ?_
 refine dB (vs := [aF r.name, .int .i64 r.kind, .int .i64 r.ttl, aF r.data]) rfl rfl ?_
 intro p w1 x1 hp
 refine aA ?_
 (repeat' first | ((with_reducible refine aJ ?_); go_step) | ((with_reducible refine aG ?_); refine gE ?_) | fail)
 all_goals try (go_ret; refine ⟨?_, x1⟩; first | (rw [bF, if_pos (by omega)]; rfl) | (rw [bF, if_neg (by omega), if_pos (by omega)]; rfl))
 ((with_reducible refine aG ?_); refine mL ?_; ((first | refine uD ?_ ?_ | refine uE ?_ ?_) <;> intro hc))
 all_goals refine_lift AG ?_
 all_goals try (go_ret; refine ⟨?_, x1⟩; first | (rw [bF, if_pos (by omega)]; rfl) | (rw [bF, if_neg (by omega), if_pos (by omega)]; rfl))
 ((with_reducible refine aG ?_); refine mL ?_; ((first | refine uD ?_ ?_ | refine uE ?_ ?_) <;> intro hc))
 all_goals refine_lift AG ?_
 all_goals try (go_ret; refine ⟨?_, x1⟩; first | (rw [bF, if_pos (by omega)]; rfl) | (rw [bF, if_neg (by omega), if_pos (by omega)]; rfl))
 ((with_reducible refine aG ?_); refine mL ?_; ((first | refine uD ?_ ?_ | refine uE ?_ ?_) <;> intro hc))
 all_goals refine_lift AG ?_
 all_goals try (go_ret; refine ⟨?_, x1⟩; first | (rw [bF, if_pos (by omega)]; rfl) | (rw [bF, if_neg (by omega), if_pos (by omega)]; rfl))
 ((with_reducible refine aG ?_); refine mL ?_; ((first | refine uD ?_ ?_ | refine uE ?_ ?_) <;> intro hc))
 all_goals refine_lift AG ?_
 all_goals try (go_ret; refine ⟨?_, x1⟩; first | (rw [bF, if_pos (by omega)]; rfl) | (rw [bF, if_neg (by omega), if_pos (by omega)]; rfl))
 (apply oX; (rfl)) <;> intro hc
 ·have hlen : r.data.length ≤ 4000 := by simp at hc; omega
  rw [hc]
  refine_lift AG ?_
  refine aB (enters_of Tryz.func108 rfl rfl) rfl rfl (hf hlen _) ?_
  intro w2 x2
  refine aA ?_
  have hp := hp.ext x2
  cases hfit : mM r.kind r.data with
  | true =>
   refine_lift FD fun _ _ => ?_
   refine aB (enters_of Tryz.func53 rfl rfl) rfl rfl (DG _ _) ?_
   intro w3 x3
   refine aA ?_
   refine_lift AG ?_
   go_ret
   refine ⟨?_, (x1.trans x2).trans x3⟩
   have e : bF r = if (aU r.name).isSome = true then 0 else 1 := by
    rw [bF, if_neg (by omega), if_neg (by rw [hfit]; simp; omega)]
   rw [e]
   rfl
  | false =>
   refine_lift AG ?_
   go_ret
   refine ⟨?_, x1.trans x2⟩
   rw [bF, if_neg (by omega), if_pos (by rw [hfit]; simp)]
   rfl
 ·have hc4 : 4000 < r.data.length := by simp at hc; omega
  rw [hc]
  simp only [Act.put, List.setIfInBounds_toArray, List.set_cons_succ, List.set_cons_zero, Bool.not_true, Bool.not_false]
  refine_lift AG ?_
  go_ret
  refine ⟨?_, x1⟩
  rw [bF, if_neg (by omega), if_pos (by omega)]
  rfl
end Go.Proofs.X
set_option linter.unusedSimpArgs false
set_option linter.unusedVariables false
namespace Go.Proofs.X
open Go.RowKit
def eE (r : Rec) : Bool := decide (r.name.length ≤ 300) && decide (r.data.length ≤ 300)
def dM (l : List Rec) : Bool := decide (l.length ≤ 25) && l.all eE
theorem nY {α : Type} {p : α → Bool} {l : List α} {k : Nat} (h : k < l.length) (hp : p l[k] = false) : l.all p = false := by
 rw [List.all_eq_false]
 exact ⟨l[k], List.getElem_mem h, by simp [hp]⟩
theorem iB {α : Type} {p : α → Bool} {l : List α} {k : Nat} (h : k < l.length) (ha : (l.take k).all p = true) (hp : p l[k] = true) : (l.take (k + 1)).all p = true := by
 rw [List.take_add_one, List.getElem?_eq_getElem h, List.all_append, ha]
 simp [hp]
set_option maxHeartbeats 1000000 in
theorem t7 (v : Value) (l : List Rec) (w : World) (hv : Sl 4 w v (aE l)) : Calls Tryz.prog 42 #[v] w (bS w (.bool (dM l))) := by
 have hl := aM l
 have hle := hv.le
 go_enter Tryz.func42, Tryz.ntmps42
 (repeat' first | ((with_reducible refine aJ ?_); go_step) | ((with_reducible refine aG ?_); first | refine gE ?_ | (refine aK ?_ ?_ <;> intro hc)) | fail)
 ·have hne := ‹25 < ((aE l).length : Int)›
  go_ret
  refine ⟨?_, Ext.refl _⟩
  have : decide (l.length ≤ 25) = false := decide_eq_false (by omega)
  simp [dM, this]
 ·have h25 : decide (l.length ≤ 25) = true := decide_eq_true (by omega)
  go_loopw [3] (fun i wr => ∃ k : Nat, k ≤ l.length ∧ i = .int .i64 k ∧ Ext w wr ∧ (l.take k).all eE = true) (fun i _ => l.length - (intOf i).toNat)
  case atStart => exact ⟨0, Nat.zero_le _, rfl, Ext.refl _, rfl⟩
  case round =>
   obtain ⟨k, hk, rfl, hx, hall⟩ := hrel
   have hv2 := hv.ext hx
   by_cases hlt : k < l.length
   ·have h1 := hv2.elem (cX hlt)
    (repeat' first | ((with_reducible refine aJ ?_); go_step) | ((with_reducible refine aG ?_); first | refine gE ?_ | (refine aK ?_ ?_ <;> intro hc)) | fail)
    ·go_ret
     refine ⟨?_, by exact eN⟩
     have : eE l[k] = false := by have : decide (l[k].data.length ≤ 300) = false := decide_eq_false (by omega)
                                  simp [eE, this]
     simp [dM, nY hlt this]
    ·have ha : eE l[k] = true := by
      have e1 : decide (l[k].data.length ≤ 300) = true := decide_eq_true (by omega)
      have e2 : decide (l[k].name.length ≤ 300) = true := decide_eq_true (by omega)
      rw [eE, e1, e2]; rfl
     exact ⟨⟨k + 1, by omega, rfl, by exact eN, iB hlt hall ha⟩, by simp [intOf]; omega⟩
    ·go_ret
     refine ⟨?_, by exact eN⟩
     have : eE l[k] = false := by have : decide (l[k].name.length ≤ 300) = false := decide_eq_false (by omega)
                                  simp [eE, this]
     simp [dM, nY hlt this]
   ·have hk2 : k = l.length := by omega
    subst hk2
    (repeat' first | ((with_reducible refine aJ ?_); go_step) | ((with_reducible refine aG ?_); first | refine gE ?_ | (refine aK ?_ ?_ <;> intro hc)) | fail)
    go_ret
    refine ⟨?_, by exact eN⟩
    rw [List.take_length] at hall
    rw [dM, h25, hall]
    rfl
end Go.Proofs.X
set_option linter.unusedSimpArgs false
set_option linter.unusedVariables false
namespace Go.Proofs.X
open Go.RowKit
set_option maxRecDepth 100000
def AK (s : RSet) (i : Nat) : Bool := decide (bF ⟨s.name, s.kind, s.ttl, s.data.getD i []⟩ ≠ 0) || (decide (0 < i) && !Op.bytesLess (s.data.getD (i - 1) []) (s.data.getD i []))
def tH (s : RSet) : Bool := decide (fold s.name = s.name) && decide (1 ≤ s.data.length) && decide (s.data.length ≤ 20) && (List.range s.data.length).all fun i => !AK s i
def qP (l : List RSet) (i : Nat) : Bool := match l[i]? with
 | none => false
 | some s => !tH s || (decide (0 < i) && decide (0 ≤ cJ (l.getD (i - 1) default).name s.name (l.getD (i - 1) default).kind s.kind))
def gP (l : List RSet) : Int := if 200 < l.length then 1 else if (List.range l.length).all (fun i => !qP l i) = true then 0 else 1
def DH (n : List UInt8) (k : Int) (s : RSet) : Bool := decide (s.name = n) && decide (s.kind = k)
def kH (l : List RSet) (n : List UInt8) (k : Int) : Option RSet := l.find? (DH (fold n) k)
def DW : List Value := [aF [], .int .i64 0, .int .i64 0, .slice none 0 0]
theorem zF {α : Type} {p : α → Bool} {l : List α} {k : Nat} (h : k < l.length) (ha : (l.take k).find? p = none) (hp : p l[k] = true) : l.find? p = some l[k] := by
 have e : l = l.take k ++ (l[k] :: l.drop (k + 1)) := by rw [← List.drop_eq_getElem_cons h, List.take_append_drop]
 have : l.find? p = (l.take k ++ (l[k] :: l.drop (k + 1))).find? p := congrArg _ e
 rw [this, List.find?_append, ha, List.find?_cons, hp]
 rfl
def CL (s : RSet) (d : List UInt8) : Rec := ⟨s.name, s.kind, s.ttl, d⟩
def BG (s : RSet) : List Rec := s.data.map (CL s)
def fZ (l : List RSet) : List Rec := (l.map BG).flatten
theorem fN {α β : Type} {f : α → β} {l : List α} {k : Nat} (h : k < l.length) : (l.take (k + 1)).map f = (l.take k).map f ++ [f l[k]] := by
 rw [List.take_add_one, List.getElem?_eq_getElem h, List.map_append]
 simp
end Go.Proofs.X
