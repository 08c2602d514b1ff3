/- Laws and walks that the proof of the statement is made of (part 8). -/
import Derived.Test.YtgljkfpcadempaaGreatP7
set_option linter.unusedSimpArgs false
set_option linter.unusedVariables false
namespace Go.Proofs.X
open Go.RowKit
set_option maxRecDepth 100000
def lS (s t : RSet) : Int := dS s.name t.name s.kind t.kind
theorem vE : TPO lS := jH.comap fun s : RSet => (s.name, s.kind)
def SO (gs : List RSet) : Prop := gs.Pairwise fun s t => lS s t < 0
def PT (r : Rec) (t : RSet) : RSet := ⟨fold r.name, r.kind, min r.ttl t.ttl, iR r.data t.data⟩
theorem nI (a b : RSet) : uU a b = decide (lS a b < 0) := GI a b
theorem eE {s : RSet} {r : Rec} : bH s r = true ↔ s.name = fold r.name ∧ s.kind = r.kind := by simp [bH]
theorem qF {s t u : RSet} (hn : s.name = t.name) (hk : s.kind = t.kind) : lS u s = lS u t ∧ lS s u = lS t u := by
 unfold lS; rw [hn, hk]; exact ⟨rfl, rfl⟩
theorem qG {s : RSet} {r : Rec} (h : lS s (cY r) ≠ 0) : bH s r = false := by
 cases hm : bH s r with
 | false => rfl
 | true =>
  obtain ⟨h1, h2⟩ := eE.1 hm
  exact absurd (by rw [(qF (t := cY r) h1 h2).2]; exact vE.refl _) h
theorem BF {r : Rec} (hr : Small (fold r.name)) : ∀ {gs : List RSet} {s : RSet}, SO gs → (∀ g ∈ gs, Small g.name) → s ∈ iH r gs →
 (s ∈ gs ∧ bH s r = false) ∨ (∃ t ∈ gs, bH t r = true ∧ s = PT r t) ∨ ((∀ t ∈ gs, bH t r = false) ∧ s = cY r)
 | [], s, _, _, h => by
   right; right
   exact ⟨by simp, by simpa [iH] using h⟩
 | g :: gs, s, hso, hsm, h => by
   obtain ⟨p1, p2⟩ := List.pairwise_cons.1 hso
   have hg := hsm g (by simp)
   rw [iH, nI, nI] at h
   by_cases h1 : lS g (cY r) < 0
   ·rw [if_pos (decide_eq_true h1)] at h
    have m1 : bH g r = false := qG (by omega)
    rcases List.mem_cons.1 h with rfl | h
    ·exact .inl ⟨by simp, m1⟩
    ·rcases BF hr p2 (fun x hx => hsm x (by simp [hx])) h with ⟨a, b⟩ | ⟨t, a, b, c⟩ | ⟨a, b⟩
     ·exact .inl ⟨by simp [a], b⟩
     ·exact .inr (.inl ⟨t, by simp [a], b, c⟩)
     ·refine .inr (.inr ⟨fun t ht => ?_, b⟩)
      rcases List.mem_cons.1 ht with rfl | ht
      ·exact m1
      ·exact a t ht
   ·rw [if_neg (by simpa using h1)] at h
    by_cases h2 : lS (cY r) g < 0
    ·rw [if_pos (decide_eq_true h2)] at h
     have m1 : bH g r = false := qG (by have := vE.anti g (cY r); omega)
     have m2 : ∀ t ∈ gs, bH t r = false := fun t ht => qG (by
      have := vE.ltt h2 (p1 t ht)
      have := vE.anti t (cY r); omega)
     rcases List.mem_cons.1 h with rfl | h
     ·refine .inr (.inr ⟨fun t ht => ?_, rfl⟩)
      rcases List.mem_cons.1 ht with rfl | ht
      ·exact m1
      ·exact m2 t ht
     ·rcases List.mem_cons.1 h with rfl | h
      ·exact .inl ⟨by simp, m1⟩
      ·exact .inl ⟨by simp [h], m2 s h⟩
    ·rw [if_neg (by simpa using h2)] at h
     have h0 : lS g (cY r) = 0 := by have := vE.anti g (cY r); omega
     obtain ⟨e1, e2⟩ := jT hg hr h0
     have mg : bH g r = true := eE.2 ⟨e1, e2⟩
     rcases List.mem_cons.1 h with rfl | h
     ·exact .inr (.inl ⟨g, by simp, mg, rfl⟩)
     ·refine .inl ⟨by simp [h], qG ?_⟩
      have := p1 s h
      rw [(qF (t := cY r) e1 e2).2] at this
      have := vE.anti s (cY r); omega
theorem BG {r : Rec} : ∀ {gs : List RSet} {s : RSet}, s ∈ iH r gs → s ∈ gs ∨ (s.name = fold r.name ∧ s.kind = r.kind)
 | [], s, h => by
   right
   have : s = cY r := by simpa [iH] using h
   subst this; exact ⟨rfl, rfl⟩
 | g :: gs, s, h => by
   rw [iH] at h
   split at h
   ·rcases List.mem_cons.1 h with rfl | h
    ·exact .inl (by simp)
    ·rcases BG h with h | h
     ·exact .inl (by simp [h])
     ·exact .inr h
   ·split at h
    ·rcases List.mem_cons.1 h with rfl | h
     ·exact .inr ⟨rfl, rfl⟩
     ·exact .inl h
    ·rcases List.mem_cons.1 h with rfl | h
     ·exact .inr ⟨rfl, rfl⟩
     ·exact .inl (by simp [h])
theorem EN {r : Rec} (hr : Small (fold r.name)) : ∀ {gs : List RSet}, SO gs → (∀ g ∈ gs, Small g.name) → SO (iH r gs)
 | [], _, _ => by simp [iH, SO]
 | g :: gs, hso, hsm => by
   obtain ⟨p1, p2⟩ := List.pairwise_cons.1 hso
   have hg := hsm g (by simp)
   rw [iH, nI, nI]
   by_cases h1 : lS g (cY r) < 0
   ·rw [if_pos (decide_eq_true h1)]
    refine List.pairwise_cons.2 ⟨fun s hs => ?_, EN hr p2 fun x hx => hsm x (by simp [hx])⟩
    rcases BG hs with h | ⟨a, b⟩
    ·exact p1 s h
    ·rw [(qF (t := cY r) a b).1]; exact h1
   ·rw [if_neg (by simpa using h1)]
    by_cases h2 : lS (cY r) g < 0
    ·rw [if_pos (decide_eq_true h2)]
     refine List.pairwise_cons.2 ⟨fun s hs => ?_, hso⟩
     rcases List.mem_cons.1 hs with rfl | hs
     ·exact h2
     ·exact vE.ltt h2 (p1 s hs)
    ·rw [if_neg (by simpa using h2)]
     have h0 : lS g (cY r) = 0 := by have := vE.anti g (cY r); omega
     obtain ⟨e1, e2⟩ := jT hg hr h0
     refine List.pairwise_cons.2 ⟨fun s hs => ?_, p2⟩
     have := p1 s hs
     rw [(qF (s := g) (t := ⟨fold r.name, r.kind, min r.ttl g.ttl, iR r.data g.data⟩) e1 e2).2] at this
     exact this
theorem lT {s : List UInt8} : ∀ {l : List (List UInt8)}, l.Pairwise (· < ·) → (iR s l).Pairwise (· < ·) ∧ ∀ x, x ∈ iR s l ↔ x = s ∨ x ∈ l
 | [], _ => by simp [iR]
 | y :: l, h => by
   obtain ⟨p1, p2⟩ := List.pairwise_cons.1 h
   obtain ⟨i1, i2⟩ := lT (s := s) p2
   rw [iR]
   by_cases h1 : y < s
   ·rw [if_pos (EH.2 h1)]
    refine ⟨List.pairwise_cons.2 ⟨fun x hx => ?_, i1⟩, fun x => ?_⟩
    ·rcases (i2 x).1 hx with rfl | hx
     ·exact h1
     ·exact p1 x hx
    ·simp only [List.mem_cons, i2]; exact or_left_comm
   ·rw [if_neg (fun hb => h1 (EH.1 hb))]
    by_cases h2 : y = s
    ·rw [if_pos h2]
     subst h2
     exact ⟨h, fun x => by simp⟩
    ·rw [if_neg h2]
     have h3 : s < y := sG (List.not_lt.1 h1) (fun e => h2 e.symm)
     refine ⟨List.pairwise_cons.2 ⟨fun x hx => ?_, h⟩, fun x => by simp⟩
     rcases List.mem_cons.1 hx with rfl | hx
     ·exact h3
     ·exact List.lt_trans h3 (p1 x hx)
theorem xY {r : Rec} (hr : Small (fold r.name)) : ∀ {gs : List RSet}, (∀ g ∈ gs, Small g.name) → ∀ t ∈ gs, ∃ s ∈ iH r gs, s.name = t.name ∧ s.kind = t.kind
 | [], _, t, h => by simp at h
 | g :: gs, hsm, t, h => by
   have hg := hsm g (by simp)
   rw [iH, nI, nI]
   by_cases h1 : lS g (cY r) < 0
   ·rw [if_pos (decide_eq_true h1)]
    rcases List.mem_cons.1 h with rfl | h
    ·exact ⟨t, by simp, rfl, rfl⟩
    ·obtain ⟨s, a, b⟩ := xY hr (fun x hx => hsm x (by simp [hx])) t h
     exact ⟨s, by simp [a], b⟩
   ·rw [if_neg (by simpa using h1)]
    by_cases h2 : lS (cY r) g < 0
    ·rw [if_pos (decide_eq_true h2)]
     exact ⟨t, List.mem_cons_of_mem _ h, rfl, rfl⟩
    ·rw [if_neg (by simpa using h2)]
     have h0 : lS g (cY r) = 0 := by have := vE.anti g (cY r); omega
     obtain ⟨e1, e2⟩ := jT hg hr h0
     rcases List.mem_cons.1 h with rfl | h
     ·exact ⟨_, List.mem_cons_self, e1.symm, e2.symm⟩
     ·exact ⟨t, by simp [h], rfl, rfl⟩
theorem BH (r : Rec) : ∀ gs : List RSet, ∃ s ∈ iH r gs, s.name = fold r.name ∧ s.kind = r.kind
 | [] => ⟨cY r, by simp [iH], rfl, rfl⟩
 | g :: gs => by
   obtain ⟨s, a, b⟩ := BH r gs
   rw [iH]
   split
   ·exact ⟨s, by simp [a], b⟩
   ·split
    ·exact ⟨cY r, by simp, rfl, rfl⟩
    ·exact ⟨_, List.mem_cons_self, rfl, rfl⟩
theorem Ch.newS {L : List Rec} {t : RSet} {r : Rec} (h : Ch L t) (hm : bH t r = true) (ht : t.data.Pairwise (· < ·)) : Ch (L ++ [r]) (X.PT r t) := by
 have hb := h.bump hm
 obtain ⟨e1, e2⟩ := eE.1 hm
 have hk : ∀ q, bH (X.PT r t) q = bH (X.iM t r) q := fun q => by simp only [bH, X.PT, X.iM, e1, e2]; rfl
 refine ⟨fun d => ?_, ?_, fun q hq hmq => ?_⟩
 ·show d ∈ iR r.data t.data ↔ _
  rw [(lT ht).2]
  have := hb.dat d
  simp only [hk]
  rw [← this]
  show _ ↔ d ∈ t.data ++ [r.data]
  simp [or_comm]
 ·obtain ⟨q, a, b, c⟩ := hb.ttl
  exact ⟨q, a, by rw [hk]; exact b, by rw [c]; show min t.ttl r.ttl = min r.ttl t.ttl; omega⟩
 ·have := hb.low q hq (by rw [← hk]; exact hmq)
  show min r.ttl t.ttl ≤ q.ttl
  have h2 : min t.ttl r.ttl ≤ q.ttl := this
  omega
theorem JD {r : Rec} (h : xJ r = true) : Small (fold r.name) := by
 obtain ⟨ls, hl⟩ := Option.isSome_iff_exists.1 (iX (r := r) (n := []) (by simpa [xJ] using h)).1
 exact ⟨r.name, ls, hl, rfl⟩
theorem vF {l : List Rec} (hok : l.all xJ = true) : ∀ k, k ≤ l.length → SO (bW (l.take k)) ∧ (∀ s ∈ bW (l.take k), Ch (l.take k) s ∧ s.data.Pairwise (· < ·) ∧ Small s.name) ∧ ∀ q ∈ l.take k, ∃ s ∈ bW (l.take k), bH s q = true
 | 0, _ => by simp [bW, SO]
 | k + 1, h => by
   have hlt : k < l.length := by omega
   obtain ⟨i1, i2, i3⟩ := vF hok k (by omega)
   have hr := JD (List.all_eq_true.1 hok _ (List.getElem_mem hlt))
   have hsm : ∀ g ∈ bW (l.take k), Small g.name := fun g hg => (i2 g hg).2.2
   have e : l.take (k + 1) = l.take k ++ [l[k]] := by simp
   rw [mW hlt, e]
   refine ⟨EN hr i1 hsm, fun s hs => ?_, fun q hq => ?_⟩
   ·rcases BF hr i1 hsm hs with ⟨a, b⟩ | ⟨t, a, b, rfl⟩ | ⟨a, rfl⟩
    ·exact ⟨(i2 s a).1.miss b, (i2 s a).2⟩
    ·exact ⟨(i2 t a).1.newS b (i2 t a).2.1, (lT (i2 t a).2.1).1, hr⟩
    ·refine ⟨Ch.new fun q hq => ?_, by simp [cY], hr⟩
     obtain ⟨t, ht, hm⟩ := i3 q hq
     cases hx : bH ⟨fold l[k].name, l[k].kind, l[k].ttl, [l[k].data]⟩ q with
     | false => rfl
     | true =>
      exfalso
      obtain ⟨x1, x2⟩ := eE.1 hx
      obtain ⟨y1, y2⟩ := eE.1 hm
      have h5 : bH t l[k] = true := eE.2 ⟨y1.trans x1.symm, y2.trans x2.symm⟩
      rw [a t ht] at h5; cases h5
   ·rcases List.mem_append.1 hq with hq | hq
    ·obtain ⟨t, ht, hm⟩ := i3 q hq
     obtain ⟨s, a, b, c⟩ := xY hr hsm t ht
     obtain ⟨y1, y2⟩ := eE.1 hm
     exact ⟨s, a, eE.2 ⟨b.trans y1, c.trans y2⟩⟩
    ·obtain rfl := List.mem_singleton.1 hq
     obtain ⟨s, a, b, c⟩ := BH l[k] (bW (l.take k))
     exact ⟨s, a, eE.2 ⟨b, c⟩⟩
theorem vG {l : List Rec} (hok : l.all xJ = true) : SO (bW l) ∧ (∀ s ∈ bW l, Ch l s ∧ s.data.Pairwise (· < ·) ∧ Small s.name) ∧ ∀ q ∈ l, ∃ s ∈ bW l, bH s q = true := by
 have := vF hok l.length (Nat.le_refl _)
 rwa [List.take_length] at this
theorem sM {l : List Rec} (hok : l.all xJ = true) : (bW l).Perm (dW l) := by
 obtain ⟨i1, i2, i3⟩ := vG hok
 have n1 : (dW l).Nodup := (pY _).imp fun h e => by subst e; exact h ⟨rfl, rfl⟩
 have n0 : (bW l).Nodup := i1.imp fun h e => by subst e; have := vE.refl ‹RSet›; omega
 refine (List.perm_ext_iff_of_nodup n0 n1).2 fun s => ⟨fun hs => ?_, fun hs => ?_⟩
 ·obtain ⟨hc, hst, _⟩ := i2 s hs
  obtain ⟨q, h1, h2, _⟩ := hc.ttl
  obtain ⟨t, ht, hm, _⟩ := uS h1
  have hg : kV t ∈ dW l := List.mem_map_of_mem ht
  obtain ⟨hc', hst'⟩ := xX hg
  obtain ⟨x1, x2⟩ := eE.1 h2
  obtain ⟨y1, y2⟩ := eE.1 hm
  have e := hc.uniq hc' hst hst' (x1.trans y1.symm) (x2.trans y2.symm)
  rw [e]; exact hg
 ·obtain ⟨hc, hst⟩ := xX hs
  obtain ⟨q, h1, h2, _⟩ := hc.ttl
  obtain ⟨t, ht, hm⟩ := i3 q h1
  obtain ⟨hc', hst', _⟩ := i2 t ht
  obtain ⟨x1, x2⟩ := eE.1 h2
  obtain ⟨y1, y2⟩ := eE.1 hm
  have e := hc.uniq hc' hst hst' (x1.trans y1.symm) (x2.trans y2.symm)
  rw [e]; exact ht
theorem wH {l : List Rec} (hok : l.all xJ = true) : oI (bW l) := by
 obtain ⟨i1, _, _⟩ := vG hok
 intro i j s t hij hi hj
 obtain ⟨a, rfl⟩ := List.getElem?_eq_some_iff.1 hi
 obtain ⟨b, rfl⟩ := List.getElem?_eq_some_iff.1 hj
 have h := List.pairwise_iff_getElem.1 i1 i j a b hij
 have := vE.anti (bW l)[j] (bW l)[i]
 show 0 ≤ lS (bW l)[j] (bW l)[i]
 omega
theorem LK {l : List Rec} (hok : l.all xJ = true) {out : List RSet} (hp : out.Perm (dW l)) (hs : oI out) : out = bW l :=
 CZ hok hp (sM hok) hs (wH hok)
theorem PU (l : List Rec) : tA l = gL l := by
 unfold tA gL
 cases hok : l.all xJ with
 | false => simp
 | true =>
  have hp := sM hok
  have hl := hp.length_eq
  have ha : (bW l).any IR = (dW l).any IR := by
   cases h : (dW l).any IR with
   | true =>
    obtain ⟨s, h1, h2⟩ := List.any_eq_true.1 h
    exact List.any_eq_true.2 ⟨s, hp.mem_iff.2 h1, h2⟩
   | false =>
    cases h' : (bW l).any IR with
    | false => rfl
    | true =>
     obtain ⟨s, h1, h2⟩ := List.any_eq_true.1 h'
     rw [List.any_eq_true.2 ⟨s, hp.mem_iff.1 h1, h2⟩] at h; cases h
  rw [ha, hl]
  simp only [Bool.true_eq_false, if_false]
  split <;> split <;> rfl
def kX : List Value := [aI [], .slice none 0 0]
theorem xZ {s x : List UInt8} : ∀ {l : List (List UInt8)}, x ∈ iR s l → x = s ∨ x ∈ l
 | [], h => by simp [iR] at h; exact .inl h
 | y :: l, h => by
   unfold iR at h
   split at h
   ·rcases List.mem_cons.1 h with rfl | h
    ·exact .inr (by simp)
    ·rcases xZ h with h | h
     ·exact .inl h
     ·exact .inr (by simp [h])
   ·split at h
    ·exact .inr h
    ·rcases List.mem_cons.1 h with rfl | h
     ·exact .inl rfl
     ·exact .inr h
theorem BI {r : Rec} : ∀ {gs : List RSet} {s : RSet} {d : List UInt8}, s ∈ iH r gs → d ∈ s.data → d = r.data ∨ ∃ t ∈ gs, d ∈ t.data
 | [], s, d, h, hd => by
   have : s = cY r := by simpa [iH] using h
   subst this
   exact .inl (by simpa [cY] using hd)
 | g :: gs, s, d, h, hd => by
   rw [iH] at h
   split at h
   ·rcases List.mem_cons.1 h with rfl | h
    ·exact .inr ⟨s, by simp, hd⟩
    ·rcases BI h hd with h | ⟨t, ht, h⟩
     ·exact .inl h
     ·exact .inr ⟨t, by simp [ht], h⟩
   ·split at h
    ·rcases List.mem_cons.1 h with rfl | h
     ·exact .inl (by simpa [cY] using hd)
     ·exact .inr ⟨s, h, hd⟩
    ·rcases List.mem_cons.1 h with rfl | h
     ·rcases xZ hd with h | h
      ·exact .inl h
      ·exact .inr ⟨g, by simp, h⟩
     ·exact .inr ⟨s, by simp [h], hd⟩
theorem vH {l : List Rec} : ∀ k, k ≤ l.length → ∀ s ∈ bW (l.take k), ∀ d ∈ s.data, ∃ r ∈ l, d = r.data
 | 0, _, s, hs, _, _ => by simp [bW] at hs
 | k + 1, h, s, hs, d, hd => by
   rw [mW (show k < l.length by omega)] at hs
   rcases BI hs hd with h1 | ⟨t, ht, h1⟩
   ·exact ⟨_, List.getElem_mem _, h1⟩
   ·exact vH k (by omega) t ht d h1
theorem BJ {l : List Rec} {s : RSet} (hs : s ∈ bW l) {d : List UInt8} (hd : d ∈ s.data) : ∃ r ∈ l, d = r.data :=
 vH l.length (Nat.le_refl _) s (by rw [List.take_length]; exact hs) d hd
theorem DE (l : List Rec) : ∀ s ∈ bW l, s.data.length ≤ l.length := by
 have := (nU l l.length (Nat.le_refl _)).2
 rwa [List.take_length] at this
def iS (o : List UInt8) (l : List Rec) : Int := if tA l = 0 then cJ (fold o) (bW l) else tA l
def mX (o : List UInt8) (l : List Rec) : List UInt8 := if iS o l = 0 then fold o else []
def mY (o : List UInt8) (l : List Rec) : List RSet := if iS o l = 0 then bW l else []
def LoadU (B : Nat) (o : List UInt8) (l : List Rec) (r : Value) (w' : World) : Prop :=
 ∃ v, r = .tuple #[.agg #[aI (mX o l), v], .int .i64 (iS o l)] ∧ SetsO B w' v (mY o l)
theorem LoadU.bad {B : Nat} {o : List UInt8} {l : List Rec} {e : Int} {w' : World} (h : iS o l = e) (he : e ≠ 0) : LoadU B o l (.tuple #[.agg kX.toArray, .int .i64 e]) w' := by
 refine ⟨.slice none 0 0, ?_, ?_⟩
 ·rw [h, mX, if_neg (by rw [h]; exact he)]; rfl
 ·rw [mY, if_neg (by rw [h]; exact he)]; exact SetsO.nil _ _
theorem LoadU.good {B : Nat} {o : List UInt8} {l : List Rec} {v : Value} {w' : World} (h : iS o l = 0) (hv : SetsO B w' v (bW l)) : LoadU B o l (.tuple #[.agg #[aI (fold o), v], .int .i64 0]) w' := by
 refine ⟨v, ?_, ?_⟩
 ·rw [mX, if_pos h, h]
 ·rw [mY, if_pos h]; exact hv
def JE (B : Nat) (l : List Rec) (r : Value) (w' : World) : Prop := ∃ v, r = .tuple #[v, .int .i64 (tA l)] ∧ (tA l = 0 → SetsO B w' v (bW l))
theorem RefR.uni {B : Nat} {l : List Rec} {r : Value} {w' : World} (h : RefR B l r w') : JE B l r w' := by
 unfold RefR at h
 split at h
 ·rename_i h0
  obtain ⟨v, rfl, hv⟩ := h
  exact ⟨v, by rw [h0], fun _ => hv⟩
 ·rename_i h0
  exact ⟨_, h, fun h1 => absurd h1 h0⟩
theorem GroupO.uni {B : Nat} {l : List Rec} {r : Value} {w' : World} (h : GroupO B l r w') : JE B l r w' := by
 unfold GroupO at h
 rw [← PU] at h
 split at h
 ·rename_i h0
  obtain ⟨out, v, rfl, hp, hs, hv⟩ := h
  have hok : l.all xJ = true := by
   cases hok : l.all xJ with
   | true => rfl
   | false => rw [tA, if_pos hok] at h0; cases h0
  have e := LK hok hp hs
  exact ⟨v, by rw [h0], fun _ => by rw [← e]; exact hv⟩
 ·rename_i h0
  exact ⟨_, h, fun h1 => absurd h1 h0⟩
theorem vI {o : List UInt8} {v : Value} (h : v.oneCell' = true) : (Value.agg #[aI o, v]).cells.all (·.oneCell') = true := by
 simp [Value.cells, h, show (aI o).oneCell' = true from rfl]
set_option maxHeartbeats 3000000 in
theorem OC (o : List UInt8) (v : Value) (l : List Rec) (w : World) (hv : Sl 4 w v (aR l)) (hl : l.length ≤ 10000) (hd : ∀ r ∈ l, r.data.length ≤ 4611686018427387904) : Calls Tryz.prog 26 #[aI o, v] w (sX w (LoadU w.heap.size o l)) := by
 have hb : ∀ s ∈ bW l, s.data.length ≤ 1000000 := fun s hs => by have := DE l s hs; omega
 have hd2 : ∀ s ∈ bW l, ∀ d ∈ s.data, d.length ≤ 4611686018427387904 := fun s hs d hd3 => by
  obtain ⟨r, hr, rfl⟩ := BJ hs hd3
  exact hd r hr
 go_enter Tryz.func26, Tryz.ntmps26
 repeat' (first | ((with_reducible refine aJ ?_); go_step) | fail)
 refine aN (z := kX) rfl (by decide +kernel) ?_
 intro w1 x1 s1 h1
 refine aA ?_
 have hv1 := hv.ext x1
 (repeat' first | ((with_reducible refine aJ ?_); go_step) | ((with_reducible refine aH ?_); first | refine bQ ?_ | (refine aK ?_ ?_ <;> intro hc)) | fail)
 refine aT (enters_of Tryz.func60 rfl rfl) rfl rfl (SZ v l _ hv1 hl) ?_
 intro r w2 x2 hr
 obtain ⟨y, rfl, hy⟩ := hr.uni
 clear hr
 have h2 := x2.at h1
 have hx2 := x1.trans x2
 by_cases hE : tA l = 0
 ·have hy := hy hE
  have hLE : iS o l = cJ (fold o) (bW l) := by rw [iS, if_pos hE]
  rw [hE]
  obtain ⟨ya, yn, yc, hys⟩ : ∃ a n c, y = .slice a n c := by obtain ⟨css, h, _⟩ := hy; exact h.slf
  (repeat' first | ((with_reducible refine aJ ?_); go_step) | ((with_reducible refine aH ?_); first | refine bQ ?_ | (refine aK ?_ ?_ <;> intro hc)) | fail)
  refine aE (enters_of Tryz.func32 rfl rfl) rfl rfl (IK o _) ?_; intro w3 x3; refine aA ?_
  have h3 := x3.at h2
  have hx3 := hx2.trans x3
  have hy3 := hy.ext x3
  (repeat' first | ((with_reducible refine aJ ?_); go_step) | ((with_reducible refine aH ?_); first | refine bQ ?_ | (refine aK ?_ ?_ <;> intro hc)) | fail)
  refine cT (v := .agg #[aI (fold o), y]) rfl (Runs.build (vals := [(0, aI (fold o)), (1, y)]) rfl (by rw [hys]; kernel_rfl)) ?_
  refine aA ?_
  refine aN (z := kX) rfl (by decide +kernel) ?_
  intro w4 x4 s4 h4
  refine aA ?_
  have hy1 : y.oneCell' = true := by rw [hys]; rfl
  refine aG (v := .agg #[aI (fold o), y]) rfl rfl rfl h4 (show aZ Tryz.prog 50 2 = true by decide +kernel) rfl (vI hy1) ?_
  intro w5 p5
  have x5 : Ext w3 w5 := x4.move p5.mv (by rintro k ⟨⟩; exact Nat.le_refl _)
  have h5 := aD (cs := [aI (fold o), y]) p5.this
  have hx5 := hx3.trans x5
  have hy5 := hy3.ext x5
  have hz5 := x5.at h3
  clear p5 h4 x4
  (repeat' first | ((with_reducible refine aJ ?_); go_step) | ((with_reducible refine aH ?_); first | refine bQ ?_ | (refine aK ?_ ?_ <;> intro hc)) | fail)
  refine aE (enters_of Tryz.func61 rfl rfl) rfl rfl (tI (fold o) y (bW l) _ hy5.sets hb) ?_; intro w6 x6; refine aA ?_
  have h6 := h5.ext x6
  have hx6 := hx5.trans x6
  have hy6 := hy5.ext x6
  have hz6 := x6.at hz5
  (repeat' first | ((with_reducible refine aJ ?_); go_step) | ((with_reducible refine aH ?_); first | refine bQ ?_ | (refine aK ?_ ?_ <;> intro hc)) | fail)
  ·have q : ¬ cJ (fold o) (bW l) = 0 := by simpa using (by assumption : (!decide (cJ (fold o) (bW l) = 0)) = true)
   refine cT (v := .agg kX.toArray) rfl (Runs.build0 (by kernel_rfl)) ?_
   refine aA ?_
   (repeat' first | ((with_reducible refine aJ ?_); go_step) | ((with_reducible refine aH ?_); first | refine bQ ?_ | (refine aK ?_ ?_ <;> intro hc)) | fail)
   refine aG (v := .agg kX.toArray) rfl rfl rfl hz6 (by decide +kernel) rfl (by decide +kernel) ?_
   intro w7 p7
   have x7 : Ext w w7 := hx6.move p7.mv (by rintro k ⟨⟩; exact Nat.le_refl _)
   (repeat' first | ((with_reducible refine aJ ?_); go_step) | ((with_reducible refine aH ?_); first | refine bQ ?_ | (refine aK ?_ ?_ <;> intro hc)) | fail)
   refine bodyPost_ret (bK (cs := kX) rfl rfl p7.this (by decide +kernel)) rfl ⟨_, rfl, x7, ?_⟩
   exact LoadU.bad hLE q
  ·have q : cJ (fold o) (bW l) = 0 := by simpa using (by assumption : (!decide (cJ (fold o) (bW l) = 0)) = false)
   refine aG (v := .agg #[aI (fold o), y]) rfl rfl rfl hz6 (show aZ Tryz.prog 50 2 = true by decide +kernel) rfl (vI hy1) ?_
   intro w7 p7
   have x7 : Ext w w7 := hx6.move p7.mv (by rintro k ⟨⟩; exact Nat.le_refl _)
   have hy7 := hy6.put p7 (by have := s1; omega)
   (repeat' first | ((with_reducible refine aJ ?_); go_step) | ((with_reducible refine aH ?_); first | refine bQ ?_ | (refine aK ?_ ?_ <;> intro hc)) | fail)
   refine bodyPost_ret (bK (cs := [aI (fold o), y]) rfl rfl p7.this (show dY Tryz.prog 50 2 = true by decide +kernel)) rfl ⟨_, rfl, x7, ?_⟩
   exact LoadU.good (by rw [hLE, q]) (hy7.weaken x1.size)
 ·have hLE : iS o l = tA l := by rw [iS, if_neg hE]
  (repeat' first | ((with_reducible refine aJ ?_); go_step) | ((with_reducible refine aH ?_); first | refine bQ ?_ | (refine aK ?_ ?_ <;> intro hc)) | fail)
  ·refine cT (v := .agg kX.toArray) rfl (Runs.build0 (by kernel_rfl)) ?_
   refine aA ?_
   (repeat' first | ((with_reducible refine aJ ?_); go_step) | ((with_reducible refine aH ?_); first | refine bQ ?_ | (refine aK ?_ ?_ <;> intro hc)) | fail)
   refine aG (v := .agg kX.toArray) rfl rfl rfl h2 (by decide +kernel) rfl (by decide +kernel) ?_
   intro w3 p3
   have x3 : Ext w w3 := hx2.move p3.mv (by rintro k ⟨⟩; exact Nat.le_refl _)
   (repeat' first | ((with_reducible refine aJ ?_); go_step) | ((with_reducible refine aH ?_); first | refine bQ ?_ | (refine aK ?_ ?_ <;> intro hc)) | fail)
   refine bodyPost_ret (bK (cs := kX) rfl rfl p3.this (by decide +kernel)) rfl ⟨_, rfl, x3, ?_⟩
   exact LoadU.bad hLE hE
  ·exact absurd (by assumption : (!decide (tA l = 0)) = false) (by simp [hE])
theorem qH {k : Nat} {c : Value} : ∀ (es : List (List Value)) (i j : Nat) (e : List Value), (∀ x ∈ es, x.length = k) → es[i]? = some e → j < k → (es.set i (e.set j c)).flatten = es.flatten.set (i * k + j) c
 | [], i, _, _, _, hi, _ => by simp at hi
 | x :: es, 0, j, e, hall, hi, hj => by
   have hx := hall x (by simp)
   cases hi
   simp only [List.set_cons_zero, List.flatten_cons, Nat.zero_mul, Nat.zero_add]
   rw [List.set_append_left _ _ (by omega)]
 | x :: es, i + 1, j, e, hall, hi, hj => by
   have hx := hall x (by simp)
   simp only [List.set_cons_succ, List.flatten_cons]
   rw [qH es i j e (fun y hy => hall y (by simp [hy])) (by simpa using hi) hj]
   rw [List.set_append_right _ _ (by rw [Nat.add_mul]; omega), show (i + 1) * k + j - x.length = i * k + j by rw [hx, Nat.add_mul]; omega]
theorem Own.storeF {P : Program} {B k e : Nat} {w : World} {v : Value} {es : List (List Value)} {t : TypeId} {i j : Nat} {ce : List Value} {c : Value} (h : Own B k e w v es) (hi : es[i]? = some ce) (hj : j < k) (hs : aZ P t 1 = true) (h1 : c.oneCell' = true) :
 ∃ w' b o, dC (dI v (i * k)) j = .pointer (some ⟨b, o, none⟩) ∧ (storeVar t ⟨b, o, none⟩ c).run P w = .ok () w' ∧ Own B k e w' v (es.set i (ce.set j c)) ∧ Mv v.ownBlock w w' := by
 have hil := (List.getElem?_eq_some_iff.1 hi).1
 have hce : ce.length = k := h.each ce (List.mem_of_getElem? hi)
 have hcc : c.cells = #[c] := by cases c <;> first | rfl | cases h1
 rcases h.row.2 with ⟨rfl, h0⟩ | ⟨g, cap, cur, fz, rfl, hb, hg, hfz, hnc, hcm, hcs, htake⟩
 ·omega
 ·have hl := bE h.each
  have hik : i * k + k ≤ es.length * k := by
   have : (i + 1) * k ≤ es.length * k := Nat.mul_le_mul_right k hil
   rwa [Nat.add_mul, Nat.one_mul] at this
  have hck : es.length * k ≤ cap * k := Nat.mul_le_mul_right k hnc
  have hst := dP P g (i * k + j) e fz [c] 0 cur w hg hfz (by simp; omega) (by simpa using h1)
  simp only [Nat.add_zero, List.length_cons, List.length_nil, Nat.zero_add] at hst
  have hset : cur.toList.take (i * k + j) ++ [c] ++ cur.toList.drop (i * k + j + 1) = cur.toList.set (i * k + j) c := by
   rw [List.set_eq_take_append_cons_drop, if_pos (by simp; omega)]; simp
  rw [hset] at hst
  obtain ⟨ti, hq, hsz⟩ := oX (iF hs)
  have hall : ∀ x ∈ es.set i (ce.set j c), x.length = k := by
   intro x hx
   rcases List.mem_or_eq_of_mem_set hx with hx | rfl
   ·exact h.each x hx
   ·simpa using hce
  refine ⟨w.setRow g (cur.toList.set (i * k + j) c).toArray, g, i * k + j, by simp [dI, dC, dB], ?_, ⟨⟨?_, .inr ⟨g, cap, (cur.toList.set (i * k + j) c).toArray, fz, ?_, hb, setRow_heap w g cur _ e _ hg, ?_, ?_, hcm, ?_, ?_⟩⟩, hall⟩, ⟨rfl, rfl, rfl, by simp, fun k _ hk => setRow_other w g k _ (fun e => hk (by simp [Value.ownBlock, e])), Nat.le_refl _⟩⟩
  ·simpa [storeVar, sizeOf, typeInfo, hq, hsz, hcc] using hst
  ·rw [bE hall]
  ·simp
  ·simpa using hfz
  ·simpa using hnc
  ·simpa using hcs
  ·rw [qH es i j ce h.each hi hj, ← htake]
   simp only [List.length_set, List.take_set]
section
variable {P : Program} {ops : Array Oper} {Q : Exit → Act → World → Prop} {w : World} {rest : List Oper} {ts : List Value} {df : List Deferred} {ty : TypeId} {ps : String} {af : Array Edge} {g : Option (Nat × Bool)}
theorem BK {B k e : Nat} {v c : Value} {es : List (List Value)} {ce : List Value} {t ty2 : TypeId} {x y : Operand} {i j : Nat} (hw : Region.wanted (Oper.mk none (.store t x y) ty2 ps af g) (yielded ops ts.toArray) = true)
 (hx : (Act.mk ts.toArray df).eval x = dC (dI v (i * k)) j) (hy : (Act.mk ts.toArray df).eval y = c) (h : Own B k e w v es) (hi : es[i]? = some ce) (hj : j < k) (hs : aZ P t 1 = true) (h1 : c.oneCell' = true)
 (hk : ∀ w', Own B k e w' v (es.set i (ce.set j c)) → Mv v.ownBlock w w' → wpList P ops Q rest (Act.mk ts.toArray df) w') : wpList P ops Q (Oper.mk none (.store t x y) ty2 ps af g :: rest) (Act.mk ts.toArray df) w := by
 obtain ⟨w', b, o, he, hr, ho, hm⟩ := h.storeF (P := P) hi hj hs h1
 refine iG hw (w' := w') ?_ (hk w' ho hm)
 simp [execOp, hx, hy, he, Instr.storeAt, Instr.sureAddr, hr]
end
structure SetsW (B : Nat) (w : World) (css : List (List Value)) (l : List RSet) : Prop where
 len : css.length = l.length
 at' : ∀ (i : Nat) (s : RSet), l[i]? = some s → ∃ x, css[i]? = some [aI s.name, .int .i64 s.kind, .int .i64 s.ttl, x] ∧ Own B 1 9 w x (aS s.data)
theorem SetsW.sets {B : Nat} {w : World} {css : List (List Value)} {l : List RSet} (h : SetsW B w css l) : SetsC w css l :=
 ⟨h.len, fun i s hi => let ⟨x, a, b⟩ := h.at' i s hi; ⟨x, a, b.sl⟩⟩
theorem SetsW.ext {B : Nat} {w w' : World} {css : List (List Value)} {l : List RSet} (h : SetsW B w css l) (hx : Ext w w') : SetsW B w' css l :=
 ⟨h.len, fun i s hi => let ⟨x, a, b⟩ := h.at' i s hi; ⟨x, a, b.ext hx⟩⟩
theorem SetsW.mv {B B' k' e' : Nat} {w w' : World} {css : List (List Value)} {l : List RSet} {v : Value} {es : List (List Value)} (h : SetsW B w css l) (ho : Own B' k' e' w v es) (he : 9 ≠ e') (hm : Mv v.ownBlock w w') : SetsW B w' css l :=
 ⟨h.len, fun i s hi => let ⟨x, a, b⟩ := h.at' i s hi; ⟨x, a, b.mv hm (b.ne ho he)⟩⟩
theorem SetsW.put {B b t : Nat} {w w' : World} {css : List (List Value)} {l : List RSet} {cs : Array Value} {fz : Nat × Nat} {o : Obj} (h : SetsW B w css l) (hb : w.heap[b]? = some (.cells cs t fz)) (ht : t ≠ 9) (hp : Put w w' b o) : SetsW B w' css l :=
 ⟨h.len, fun i s hi => let ⟨x, a, c⟩ := h.at' i s hi; ⟨x, a, c.mv hp.mv (.inr (c.neBlock hb ht))⟩⟩
theorem SetsW.weaken {B C : Nat} {w : World} {css : List (List Value)} {l : List RSet} (h : SetsW B w css l) (hc : C ≤ B) : SetsW C w css l :=
 ⟨h.len, fun i s hi => let ⟨x, a, b⟩ := h.at' i s hi; ⟨x, a, b.weaken hc⟩⟩
theorem SetsW.append {B : Nat} {w : World} {l m : List RSet} {c d : List (List Value)} (h : SetsW B w c l) (k : SetsW B w d m) : SetsW B w (c ++ d) (l ++ m) := by
 refine ⟨by rw [List.length_append, List.length_append, h.len, k.len], fun i s hi => ?_⟩
 rw [List.getElem?_append] at hi ⊢
 rw [h.len]
 split at hi
 ·rw [if_pos ‹_›]; exact h.at' i s hi
 ·rw [if_neg ‹_›]; exact k.at' _ s hi
theorem SetsW.one {B : Nat} {w : World} {s : RSet} {x : Value} (h : Own B 1 9 w x (aS s.data)) : SetsW B w [[aI s.name, .int .i64 s.kind, .int .i64 s.ttl, x]] [s] :=
 ⟨rfl, fun i t hi => by
  match i, hi with
  | 0, hi => cases hi; exact ⟨x, rfl, h⟩⟩
theorem SetsW.nil (B : Nat) (w : World) : SetsW B w [] [] := ⟨rfl, by simp⟩
theorem SetsW.from' {B C : Nat} {w : World} {css : List (List Value)} {l : List RSet} (h : SetsW B w css l) (hc : C ≤ B) : FromC C css := by
 intro f hf u hu
 obtain ⟨i, hi, rfl⟩ := List.mem_iff_getElem.1 hf
 obtain ⟨x, h1, h2⟩ := h.at' i _ (List.getElem?_eq_getElem (by rw [← h.len]; exact hi))
 rw [List.getElem?_eq_getElem hi] at h1
 rw [Option.some.inj h1] at hu
 exact (FromC.one (h2.from' hc)) _ (List.mem_singleton.2 rfl) u hu
structure SetsV (B : Nat) (w : World) (v : Value) (l : List RSet) : Prop where
 out : ∃ css, Own B 4 131 w v css ∧ SetsW B w css l
theorem SetsV.ext {B : Nat} {w w' : World} {v : Value} {l : List RSet} (h : SetsV B w v l) (hx : Ext w w') : SetsV B w' v l := by
 obtain ⟨css, h1, h2⟩ := h
 exact ⟨css, h1.ext hx, h2.ext hx⟩
theorem SetsV.weaken {B C : Nat} {w : World} {v : Value} {l : List RSet} (h : SetsV B w v l) (hc : C ≤ B) : SetsV C w v l := by
 obtain ⟨css, h1, h2⟩ := h
 exact ⟨css, h1.weaken hc, h2.weaken hc⟩
theorem SetsV.put {B b t : Nat} {w w' : World} {v : Value} {l : List RSet} {cs : Array Value} {fz : Nat × Nat} {o : Obj} (h : SetsV B w v l) (hb : w.heap[b]? = some (.cells cs t fz)) (ht : t ≠ 9) (ht2 : t ≠ 131) (hp : Put w w' b o) : SetsV B w' v l := by
 obtain ⟨css, h1, h2⟩ := h
 exact ⟨css, h1.mv hp.mv (.inr (h1.neBlock hb ht2)), h2.put hb ht hp⟩
theorem SetsV.slf {B : Nat} {w : World} {v : Value} {l : List RSet} (h : SetsV B w v l) : ∃ a n c, v = .slice a n c := by
 obtain ⟨css, h1, h2⟩ := h
 exact h1.sl.slf
def NB (s : SoaR) (n : Int) : SoaR := { s with serial := n }
def JF (o : List UInt8) (l : List RSet) (n : Int) : Int := if cJ o l = 0 then (if (NB (eK o l) n).ok = true then 0 else 1) else cJ o l
def PV (o : List UInt8) (l : List RSet) (n : Int) : List UInt8 := (NB (eK o l) n).data
def oM (d : List UInt8) (s : RSet) : RSet := if s.kind = 6 then ⟨s.name, s.kind, s.ttl, [d]⟩ else s
def OD (o : List UInt8) (l : List RSet) (n : Int) : List RSet := if JF o l n = 0 then l.map (oM (PV o l n)) else []
def OE (o : List UInt8) (l : List RSet) (n : Int) : List UInt8 := if JF o l n = 0 then o else []
def RenU (B : Nat) (o : List UInt8) (l : List RSet) (n : Int) (r : Value) (w' : World) : Prop :=
 ∃ v, r = .tuple #[.agg #[aI (OE o l n), v], .int .i64 (JF o l n)] ∧ SetsO B w' v (OD o l n)
theorem RenU.bad {B : Nat} {o : List UInt8} {l : List RSet} {n e : Int} {w' : World} (h : JF o l n = e) (he : e ≠ 0) : RenU B o l n (.tuple #[.agg kX.toArray, .int .i64 e]) w' := by
 refine ⟨.slice none 0 0, ?_, ?_⟩
 ·rw [h, OE, if_neg (by rw [h]; exact he)]; rfl
 ·rw [OD, if_neg (by rw [h]; exact he)]; exact SetsO.nil _ _
theorem RenU.good {B : Nat} {o : List UInt8} {l : List RSet} {n : Int} {v : Value} {w' : World} (h : JF o l n = 0) (hv : SetsO B w' v (l.map (oM (PV o l n)))) : RenU B o l n (.tuple #[.agg #[aI o, v], .int .i64 0]) w' := by
 refine ⟨v, ?_, ?_⟩
 ·rw [OE, if_pos h, h]
 ·rw [OD, if_pos h]; exact hv
theorem ZoneOk.one6 {o : List UInt8} {l : List RSet} (h : ZoneOk o l) {s : RSet} (hs : s ∈ l) (h6 : s.kind = 6) : s.name = o ∧ s.data.length = 1 := by
 have hr := h.right s hs
 simp only [gM, Bool.and_eq_true, Bool.not_eq_true', h6] at hr
 have := hr.1.1.2
 simp only [decide_true, Bool.true_and, Bool.or_eq_false_iff, decide_eq_false_iff_not, ne_eq, Decidable.not_not] at this
 exact this
theorem EO {d : List UInt8} {s : RSet} (h : ¬ s.kind = 6) : oM d s = s := by rw [oM, if_neg h]
theorem BL {d : List UInt8} {s : RSet} (h : s.kind = 6) : oM d s = ⟨s.name, s.kind, s.ttl, [d]⟩ := by rw [oM, if_pos h]
theorem SetsW.set {B : Nat} {w : World} {css : List (List Value)} {l : List RSet} (h : SetsW B w css l) {i : Nat} {s : RSet} {x : Value} (hx : Own B 1 9 w x (aS s.data)) : SetsW B w (css.set i [aI s.name, .int .i64 s.kind, .int .i64 s.ttl, x]) (l.set i s) := by
 refine ⟨by rw [List.length_set, List.length_set, h.len], fun j t hj => ?_⟩
 by_cases e : i = j
 ·subst e
  have hlt : i < l.length := by have := (List.getElem?_eq_some_iff.1 hj).1; simpa using this
  rw [List.getElem?_set_self hlt] at hj
  cases hj
  exact ⟨x, List.getElem?_set_self (by rw [h.len]; exact hlt), hx⟩
 ·rw [List.getElem?_set_ne e] at hj
  rw [List.getElem?_set_ne e]
  exact h.at' j t hj
structure SetsM (B : Nat) (w0 w : World) (css0 css : List (List Value)) (l : List RSet) (d : List UInt8) (k : Nat) : Prop where
 len : css.length = l.length
 new : ∀ (i : Nat) (s : RSet), l[i]? = some s → i < k → ∃ x, css[i]? = some [aI s.name, .int .i64 s.kind, .int .i64 s.ttl, x] ∧ Own B 1 9 w x (aS (oM d s).data)
 old : ∀ i, k ≤ i → css[i]? = css0[i]?
theorem SetsM.ext {B : Nat} {w0 w w' : World} {css0 css : List (List Value)} {l : List RSet} {d : List UInt8} {k : Nat} (h : SetsM B w0 w css0 css l d k) (hx : Ext w w') : SetsM B w0 w' css0 css l d k :=
 ⟨h.len, fun i s hi hk => let ⟨x, a, b⟩ := h.new i s hi hk; ⟨x, a, b.ext hx⟩, h.old⟩
theorem SetsM.mv {B : Nat} {w0 w w' : World} {css0 css : List (List Value)} {l : List RSet} {d : List UInt8} {k : Nat} {row : Option Nat} (h : SetsM B w0 w css0 css l d k) (hm : Mv row w w') (hne : ∀ x es, Own B 1 9 w x es → x.ownBlock = none ∨ x.ownBlock ≠ row) : SetsM B w0 w' css0 css l d k :=
 ⟨h.len, fun i s hi hk => let ⟨x, a, b⟩ := h.new i s hi hk; ⟨x, a, b.mv hm (hne x _ b)⟩, h.old⟩
theorem SetsM.step {B : Nat} {w0 w : World} {css0 css : List (List Value)} {l : List RSet} {d : List UInt8} {k : Nat} (h : SetsM B w0 w css0 css l d k) (hk : k < l.length) {y : Value} (hy : Own B 1 9 w y (aS (oM d l[k]).data)) :
 SetsM B w0 w css0 (css.set k [aI l[k].name, .int .i64 l[k].kind, .int .i64 l[k].ttl, y]) l d (k + 1) := by
 refine ⟨by rw [List.length_set, h.len], fun i s hi hik => ?_, fun i hi => ?_⟩
 ·by_cases e : k = i
  ·subst e
   rw [List.getElem?_eq_getElem hk] at hi
   cases hi
   exact ⟨y, List.getElem?_set_self (by rw [h.len]; exact hk), hy⟩
  ·obtain ⟨x, a, b⟩ := h.new i s hi (by omega)
   exact ⟨x, by rw [List.getElem?_set_ne e]; exact a, b⟩
 ·rw [List.getElem?_set_ne (by omega)]; exact h.old i (by omega)
theorem GN {d : List UInt8} {s : RSet} : (oM d s).name = s.name ∧ (oM d s).kind = s.kind ∧ (oM d s).ttl = s.ttl := by
 unfold oM; split <;> exact ⟨rfl, rfl, rfl⟩
theorem SetsM.done {B : Nat} {w0 w : World} {css0 css : List (List Value)} {l : List RSet} {d : List UInt8} (h : SetsM B w0 w css0 css l d l.length) : SetsW B w css (l.map (oM d)) := by
 refine ⟨by rw [List.length_map, h.len], fun i s hi => ?_⟩
 rw [List.getElem?_map] at hi
 cases hq : l[i]? with
 | none => rw [hq] at hi; cases hi
 | some t =>
  rw [hq] at hi
  cases hi
  obtain ⟨x, a, b⟩ := h.new i t hq (List.getElem?_eq_some_iff.1 hq).1
  obtain ⟨e1, e2, e3⟩ := GN (d := d) (s := t)
  exact ⟨x, by rw [e1, e2, e3]; exact a, b⟩
theorem JG {d : List UInt8} {s : SoaR} (h : cI d = some s) : s.ok = true := by
 unfold cI at h
 simp only at h
 split at h
 ·rename_i hh; cases h; exact hh.2.2.2
 ·cases h
theorem ZoneOk.only {o : List UInt8} {l : List RSet} (h : ZoneOk o l) {s : RSet} (hs : s ∈ l) (h6 : s.kind = 6) : s.data = [mI o l] := by
 obtain ⟨t, ht, _, _, _, hd, _⟩ := h.soaSet
 obtain ⟨i, hi, rfl⟩ := List.mem_iff_getElem.1 hs
 have hf := GJ h.chk hi
 rw [h6, (h.one6 hs h6).1, ht] at hf
 rw [← Option.some.inj hf]
 exact hd
theorem ZoneOk.back {o d : List UInt8} {l : List RSet} (h : ZoneOk o l) : (l.map (oM d)).map (oM (mI o l)) = l := by
 rw [List.map_map]
 conv => rhs; rw [← List.map_id l]
 apply List.map_congr_left
 intro s hs
 simp only [Function.comp, id]
 by_cases h6 : s.kind = 6
 ·rw [BL (d := d) h6, BL (by exact h6)]
  have := h.only hs h6
  cases s
  simp only at this
  rw [this]
 ·rw [EO (d := d) h6, EO h6]
theorem BM {l : List RSet} {r : Rec} (h : r ∈ bG l) : ∃ s ∈ l, ∃ d ∈ s.data, r = pV s d := by
 simp only [bG, List.mem_flatten, List.mem_map] at h
 obtain ⟨rs, ⟨s, hs, rfl⟩, hr⟩ := h
 simp only [dT, List.mem_map] at hr
 obtain ⟨d, hd, rfl⟩ := hr
 exact ⟨s, hs, d, hd, rfl⟩
def yA (a b : List Rec) : List Rec := a.filter fun r => !decide (r ∈ b)
structure DeltaR where
 fr : Int
 to : Int
 gone : List Rec
 new : List Rec
 deriving DecidableEq, Inhabited
def NC : DeltaR := ⟨0, 0, [], []⟩
def PW (oa : List UInt8) (la : List RSet) (ob : List UInt8) (lb : List RSet) : Int :=
 if cJ oa la = 0 then (if cJ ob lb = 0 then (if oa = ob then 0 else 1) else cJ ob lb) else cJ oa la
def PX (oa : List UInt8) (la : List RSet) (ob : List UInt8) (lb : List RSet) : DeltaR :=
 if PW oa la ob lb = 0 then ⟨(eK oa la).serial, (eK ob lb).serial, yA (bG la) (bG lb), yA (bG lb) (bG la)⟩ else NC
def ND : List Rec → List Rec → Option (List Rec)
 | l, [] => some l
 | l, r :: g => if r ∈ l then ND (l.erase r) g else none
def PY : List Rec → List Rec → Option (List Rec)
 | l, [] => some l
 | l, r :: g => if r ∈ l then none else PY (l ++ [r]) g
def EP (l : List Rec) (d : DeltaR) : Option (List Rec) := (ND l d.gone).bind fun m => PY m d.new
def PZ (o : List UInt8) (m : List Rec) (to : Int) : Int :=
 if iS o m = 0 then (if (eK (mX o m) (mY o m)).serial = to ∧ (bG (mY o m)).length = m.length ∧ yA m (bG (mY o m)) = [] then 0 else 2) else iS o m
def oN (o : List UInt8) (l : List RSet) (d : DeltaR) : Int :=
 if cJ o l = 0 then (if (eK o l).serial = d.fr then (match EP (bG l) d with
  | none => 5
  | some m => PZ o m d.to) else 7) else cJ o l
def DF (o : List UInt8) (l : List RSet) (d : DeltaR) : List RSet := if oN o l d = 0 then mY o ((EP (bG l) d).getD []) else []
def BN (o : List UInt8) (l : List RSet) (d : DeltaR) : List UInt8 := if oN o l d = 0 then mX o ((EP (bG l) d).getD []) else []
theorem Ch.same {L M : List Rec} {s : RSet} (h : Ch L s) (hm : ∀ r, r ∈ L ↔ r ∈ M) : Ch M s where
 dat d := by
  rw [h.dat]
  constructor
  ·rintro ⟨r, h1, h2⟩; exact ⟨r, (hm r).1 h1, h2⟩
  ·rintro ⟨r, h1, h2⟩; exact ⟨r, (hm r).2 h1, h2⟩
 ttl := let ⟨r, h1, h2⟩ := h.ttl; ⟨r, (hm r).1 h1, h2⟩
 low r h1 h2 := h.low r ((hm r).2 h1) h2
theorem QA {oa ob : List UInt8} {la lb : List RSet} (h : PW oa la ob lb = 0) : ZoneOk oa la ∧ ZoneOk oa lb ∧ oa = ob ∧ PX oa la ob lb = ⟨(eK oa la).serial, (eK oa lb).serial, yA (bG la) (bG lb), yA (bG lb) (bG la)⟩ := by
 have h0 := h
 unfold PW at h
 split at h
 ·rename_i q1
  split at h
  ·rename_i q2
   split at h
   ·rename_i q3
    subst q3
    exact ⟨jW q1, jW q2, rfl, by rw [PX, if_pos h0]⟩
   ·cases h
  ·rename_i q2; exact absurd h q2
 ·rename_i q1; exact absurd h q1
def LM : List Value := [aI [], .int .i64 0, .int .i64 0, aI []]
set_option maxHeartbeats 3000000 in
theorem qI (v : Value) (l : List Rec) (w : World) (hv : Sl 4 w v (aR l)) (hl : l.length ≤ 1000000) : Calls Tryz.prog 67 #[v] w (sX w fun v' w' => Own w.heap.size 4 106 w' v' (aR l)) := by
 have hlen := bD l
 go_enter Tryz.func67, Tryz.ntmps67
 (repeat' first | ((with_reducible refine aJ ?_); go_step) | ((with_reducible refine aH ?_); first | refine bQ ?_ | (refine aK ?_ ?_ <;> intro hc)) | fail)
 ·have hn := ‹AF v = true›
  go_ret
  have : aR l = [] := hv.isNil hn
  refine ⟨_, rfl, Ext.refl _, ?_⟩
  rw [this]
  exact Own.nil _ _ _ _
 ·refine nZ (t := 24) (e := 106) (k := 4) (bytes := 48) (by decide +kernel) rfl ?_
  intro v2 w2 x2 s2 o2
  refine aA ?_
  (repeat' first | ((with_reducible refine aJ ?_); go_step) | ((with_reducible refine aH ?_); first | refine bQ ?_ | (refine aK ?_ ?_ <;> intro hc)) | fail)
  refine dZ (B := w.heap.size) (e := 106) rfl o2 rfl (hv.ext x2) (by intro f hf u hu; obtain ⟨r, _, rfl⟩ := List.mem_map.1 hf; simp only [Rec.cells, List.mem_cons, List.not_mem_nil, or_false] at hu; rcases hu with rfl | rfl | rfl | rfl <;> rfl) x2.size (by simp; omega) ?_
  intro v3 w3 o3 m3 _
  have x3 := o2.mvx m3 x2 (Nat.le_refl _)
  refine aA ?_
  (repeat' first | ((with_reducible refine aJ ?_); go_step) | ((with_reducible refine aH ?_); first | refine bQ ?_ | (refine aK ?_ ?_ <;> intro hc)) | fail)
  go_ret
  exact ⟨_, rfl, x3, by simpa using o3⟩
def RJ : List Value := [.int .i64 0, .int .i64 0, .slice none 0 0, .slice none 0 0]
def DelA (d : DeltaR) (r : Value) (w : World) : Prop := ∃ g n, r = .agg #[.int .i64 d.fr, .int .i64 d.to, g, n] ∧ Sl 4 w g (aR d.gone) ∧ Sl 4 w n (aR d.new)
def DelO (B : Nat) (d : DeltaR) (r : Value) (w : World) : Prop := ∃ g n, r = .agg #[.int .i64 d.fr, .int .i64 d.to, g, n] ∧ Own B 4 106 w g (aR d.gone) ∧ Own B 4 106 w n (aR d.new)
theorem DelO.a {B : Nat} {d : DeltaR} {r : Value} {w : World} (h : DelO B d r w) : DelA d r w := let ⟨g, n, e, a, b⟩ := h; ⟨g, n, e, a.sl, b.sl⟩
def DelU (B : Nat) (d : DeltaR) (e : Int) (r : Value) (w : World) : Prop := ∃ y, r = .tuple #[y, .int .i64 e] ∧ DelO B d y w
theorem DelU.bad {B : Nat} {d : DeltaR} {e : Int} {w : World} (h : d = NC) : DelU B d e (.tuple #[.agg RJ.toArray, .int .i64 e]) w := by
 subst h
 exact ⟨_, rfl, _, _, rfl, Own.nil _ _ _ _, Own.nil _ _ _ _⟩
structure OwnOff (B k : Nat) (e : TypeId) (w : World) (v : Value) (es : List (List Value)) : Prop where
 row : (v = .slice none 0 0 ∧ es = []) ∨ ∃ g o cap cur fz, v = .slice (some ⟨g, o * k, none⟩) es.length cap ∧ B ≤ g ∧ w.heap[g]? = some (.cells cur e fz) ∧ (fz.2 ≤ fz.1 ∨ cur.size ≤ fz.1) ∧ es.length ≤ cap ∧ cap ≤ maxLen ∧ (o + cap) * k ≤ cur.size ∧ (cur.toList.drop (o * k)).take (es.length * k) = es.flatten
 each : ∀ x ∈ es, x.length = k
theorem Own.off {B k e : Nat} {w : World} {v : Value} {es : List (List Value)} (h : Own B k e w v es) : OwnOff B k e w v es := by
 refine ⟨?_, h.each⟩
 rcases h.row.2 with ⟨rfl, h0⟩ | ⟨g, cap, cur, fz, rfl, hb, hg, hfz, hnc, hcm, hcs, htake⟩
 ·exact .inl ⟨rfl, List.eq_nil_of_length_eq_zero h0⟩
 ·exact .inr ⟨g, 0, cap, cur, fz, by simp, hb, hg, hfz, hnc, hcm, by rw [Nat.zero_add]; exact Nat.le_of_eq hcs.symm, by simpa using htake⟩
theorem OwnOff.nil (B k : Nat) (e : TypeId) (w : World) : OwnOff B k e w (.slice none 0 0) [] := (Own.nil B k e w).off
theorem OwnOff.type {B k e : Nat} {w : World} {v : Value} {es : List (List Value)} (h : OwnOff B k e w v es) {r : Nat} (hr : v.ownBlock = some r) : B ≤ r ∧ r < w.heap.size ∧ ∃ cur fz, w.heap[r]? = some (.cells cur e fz) := by
 rcases h.row with ⟨rfl, _⟩ | ⟨g, o, cap, cur, fz, rfl, hb, hg, _⟩
 ·simp [Value.ownBlock] at hr
 ·simp [Value.ownBlock] at hr; subst hr; exact ⟨hb, (Array.getElem?_eq_some_iff.1 hg).1, cur, fz, hg⟩
theorem OwnOff.neBlock {B k e t b : Nat} {w : World} {v : Value} {es : List (List Value)} {cs : Array Value} {fz : Nat × Nat} (h : OwnOff B k e w v es) (hb : w.heap[b]? = some (.cells cs t fz)) (ht : t ≠ e) : v.ownBlock ≠ some b := fun e' => by
 obtain ⟨_, _, cur, fz', h'⟩ := h.type e'
 rw [hb] at h'
 simp only [Option.some.injEq, Obj.cells.injEq] at h'
 exact ht h'.2.1
theorem OwnOff.mv {B k e : Nat} {w w' : World} {v : Value} {es : List (List Value)} {row : Option Nat} (h : OwnOff B k e w v es) (hm : Mv row w w') (hne : v.ownBlock = none ∨ v.ownBlock ≠ row) : OwnOff B k e w' v es := by
 refine ⟨h.row.imp id ?_, h.each⟩
 rintro ⟨g, o, cap, cur, fz, rfl, hb, hg, r⟩
 refine ⟨g, o, cap, cur, fz, rfl, hb, hm.at hg ?_, r⟩
 rcases hne with hne | hne
 ·simp [Value.ownBlock] at hne
 ·simpa [Value.ownBlock] using hne
theorem OwnOff.ext {B k e : Nat} {w w' : World} {v : Value} {es : List (List Value)} (h : OwnOff B k e w v es) (hx : Ext w w') : OwnOff B k e w' v es := by
 refine ⟨h.row.imp id ?_, h.each⟩
 rintro ⟨g, o, cap, cur, fz, rfl, hb, hg, r⟩
 exact ⟨g, o, cap, cur, fz, rfl, hb, hx.at hg, r⟩
theorem OwnOff.weaken {B C k e : Nat} {w : World} {v : Value} {es : List (List Value)} (h : OwnOff B k e w v es) (hc : C ≤ B) : OwnOff C k e w v es :=
 ⟨h.row.imp id fun ⟨g, o, cap, cur, fz, a, b, r⟩ => ⟨g, o, cap, cur, fz, a, Nat.le_trans hc b, r⟩, h.each⟩
theorem OwnOff.sl {B k e : Nat} {w : World} {v : Value} {es : List (List Value)} (h : OwnOff B k e w v es) : Sl k w v es := by
 rcases h.row with ⟨rfl, rfl⟩ | ⟨g, o, cap, cur, fz, rfl, hb, hg, hfz, hnc, hcm, hcs, htake⟩
 ·exact Sl.nil _ _
 ·refine ⟨_, cap, rfl, hnc, by unfold maxLen at hcm; omega, h.each, (fun e => by cases e), fun _ => ⟨g, o * k, rfl, ?_⟩⟩
  intro i ce j x hi hj
  have hfl := gX h.each hi hj
  rw [← htake, List.getElem?_take] at hfl
  split at hfl
  ·rw [List.getElem?_drop] at hfl
   have hlt : o * k + (i * k + j) < cur.size := by
    have := (List.getElem?_eq_some_iff.1 hfl).1
    simpa using this
   simp only [World.cell?, hg]
   rw [← Nat.add_assoc] at hfl
   simpa [Array.getElem?_toList] using hfl
  ·cases hfl
theorem OwnOff.drop {B k e : Nat} {w : World} {v : Value} {es : List (List Value)} (h : OwnOff B k e w v es) {m : Nat} (hm : m ≤ es.length) : OwnOff B k e w (eG v k m es.length) (es.drop m) := by
 refine ⟨?_, fun x hx => h.each x (List.mem_of_mem_drop hx)⟩
 rcases h.row with ⟨rfl, rfl⟩ | ⟨g, o, cap, cur, fz, rfl, hb, hg, hfz, hnc, hcm, hcs, htake⟩
 ·have : m = 0 := by simpa using hm
  subst this
  exact .inl ⟨by simp [eG], rfl⟩
 ·have hfl := bE h.each
  by_cases hc : cap = m
  ·have hlm : es.length = m := by omega
   refine .inr ⟨g, o, 0, cur, fz, ?_, hb, hg, hfz, ?_, by unfold maxLen; omega, ?_, ?_⟩
   ·simp [eG, hc, hlm]
   ·simp [hlm]
   ·have : (o + 0) * k ≤ (o + cap) * k := Nat.mul_le_mul_right k (by omega)
    omega
   ·have h0 : es.drop m = [] := by rw [← hlm, List.drop_length]
    rw [h0]
    simp
  ·refine .inr ⟨g, o + m, cap - m, cur, fz, ?_, hb, hg, hfz, ?_, by omega, ?_, ?_⟩
   ·simp [eG, hc, dB, Nat.add_mul]
   ·simp; omega
   ·rw [show o + m + (cap - m) = o + cap by omega]; exact hcs
   ·have hd := lM es m h.each
    rw [hd, ← htake, List.drop_take, List.drop_drop, List.length_drop, Nat.add_mul, ← Nat.sub_mul]
section
variable {P : Program} {ops : Array Oper} {Q : Exit → Act → World → Prop} {w : World} {rest : List Oper} {ts : List Value} {df : List Deferred} {ty : TypeId} {ps : String} {af : Array Edge}
end
theorem Pts.front {w : World} {p : Value} {vs : List Value} (h : Pts w p vs) (n : Nat) : Pts w p (vs.take n) := by
 obtain ⟨b, o, e, hc⟩ := h
 refine ⟨b, o, e, fun j x hx => hc j x ?_⟩
 rw [List.getElem?_take] at hx
 split at hx
 ·exact hx
 ·cases hx
section
variable {P : Program} {w : World} {ts : List Value} {df : List Deferred} {d : Option Nat} {ty : TypeId} {ps : String} {af : Array Edge} {g : Option (Nat × Bool)}
end
structure SetsN (B : Nat) (w : World) (css0 css : List (List Value)) (l : List RSet) (k : Nat) : Prop where
 len : css.length = l.length
 new : ∀ (i : Nat) (s : RSet), l[i]? = some s → i < k → ∃ x, css[i]? = some [aI s.name, .int .i64 s.kind, .int .i64 s.ttl, x] ∧ Own B 1 9 w x (aS s.data)
 old : ∀ i, k ≤ i → css[i]? = css0[i]?
theorem SetsN.ext {B : Nat} {w w' : World} {css0 css : List (List Value)} {l : List RSet} {k : Nat} (h : SetsN B w css0 css l k) (hx : Ext w w') : SetsN B w' css0 css l k :=
 ⟨h.len, fun i s hi hk => let ⟨x, a, b⟩ := h.new i s hi hk; ⟨x, a, b.ext hx⟩, h.old⟩
theorem SetsN.mv {B : Nat} {w w' : World} {css0 css : List (List Value)} {l : List RSet} {k : Nat} {row : Option Nat} (h : SetsN B w css0 css l k) (hm : Mv row w w') (hne : ∀ x es, Own B 1 9 w x es → x.ownBlock = none ∨ x.ownBlock ≠ row) : SetsN B w' css0 css l k :=
 ⟨h.len, fun i s hi hk => let ⟨x, a, b⟩ := h.new i s hi hk; ⟨x, a, b.mv hm (hne x _ b)⟩, h.old⟩
theorem SetsN.step {B : Nat} {w : World} {css0 css : List (List Value)} {l : List RSet} {k : Nat} (h : SetsN B w css0 css l k) (hk : k < l.length) {y : Value} (hy : Own B 1 9 w y (aS l[k].data)) :
 SetsN B w css0 (css.set k [aI l[k].name, .int .i64 l[k].kind, .int .i64 l[k].ttl, y]) l (k + 1) := by
 refine ⟨by rw [List.length_set, h.len], fun i s hi hik => ?_, fun i hi => ?_⟩
 ·by_cases e : k = i
  ·subst e
   rw [List.getElem?_eq_getElem hk] at hi
   cases hi
   exact ⟨y, List.getElem?_set_self (by rw [h.len]; exact hk), hy⟩
  ·obtain ⟨x, a, b⟩ := h.new i s hi (by omega)
   exact ⟨x, by rw [List.getElem?_set_ne e]; exact a, b⟩
 ·rw [List.getElem?_set_ne (by omega)]; exact h.old i (by omega)
theorem SetsN.done {B : Nat} {w : World} {css0 css : List (List Value)} {l : List RSet} (h : SetsN B w css0 css l l.length) : SetsW B w css l :=
 ⟨h.len, fun i s hi => h.new i s hi (List.getElem?_eq_some_iff.1 hi).1⟩
section
variable {P : Program} {a : Act} {w : World} {d : Option Nat} {ty : TypeId} {ps : String} {af : Array Edge} {g : Option (Nat × Bool)}
theorem Runs.isNil {t u : TypeId} {x y : Operand} {p : Option Addr} (hx : a.eval x = .pointer p) (hy : a.eval y = .pointer none) (ht : P.underlying t = some (.pointer (P.pointee t))) :
 Runs P (Oper.mk d (.binOp .eql t x y u) ty ps af g) a w (.bool p.isNone) := by
 constructor
 simp [execOp, hx, hy, eqGuard, run_eql_pointer_nil w t p ht]
end
theorem SetsV.sets {B : Nat} {w : World} {v : Value} {l : List RSet} (h : SetsV B w v l) : SetsAt w v l := by
 obtain ⟨css, h1, h2⟩ := h
 exact h2.sets.sets h1.sl
section
variable {P : Program} {a : Act} {w : World} {d : Option Nat} {ty : TypeId} {ps : String} {af : Array Edge} {g : Option (Nat × Bool)}
end
def NE (n : Int) : Bool := decide (0 ≤ n) && decide (n ≤ 4294967295)
def oO (a b : Int) : Bool := NE a && NE b && decide (2147483648 < (b - a) % 4294967296)
section
variable {P : Program} {ops : Array Oper} {Q : Exit → Act → World → Prop} {w : World} {rest : List Oper} {ts : List Value} {df : List Deferred} {d : Option Nat} {ty : TypeId} {ps : String} {af : Array Edge} {g : Option (Nat × Bool)}
end
theorem JH {o : List UInt8} {l : List RSet} (h : ZoneOk o l) : l.length ≤ 200 ∧ (∀ s ∈ l, s.data.length ≤ 20) ∧ (∀ s ∈ l, ∀ d ∈ s.data, d.length ≤ 4000) ∧ (bG l).length ≤ 4000 := by
 have h1 : l.length ≤ 200 := by
  have := h.chk
  unfold dM at this
  split at this
  ·cases this
  ·omega
 have h2 : ∀ s ∈ l, s.data.length ≤ 20 := fun s hs => by
  have hm := h.may hs
  simp only [kI, Bool.and_eq_true, decide_eq_true_eq] at hm
  exact hm.1.2
 refine ⟨h1, h2, fun s hs d hd => ?_, ?_⟩
 ·obtain ⟨i, hi, rfl⟩ := List.mem_iff_getElem.1 hd
  exact (mV (DB (h.may hs) hi)).1
 ·have : ∀ {L : List RSet}, (∀ s ∈ L, s.data.length ≤ 20) → (bG L).length ≤ 20 * L.length := by
   intro L
   induction L with
   | nil => intro _; simp [bG]
   | cons s L ih =>
    intro hL
    have e : bG (s :: L) = dT s ++ bG L := by simp [bG]
    have i1 := ih fun t ht => hL t (by simp [ht])
    have i2 := hL s (by simp)
    rw [e, List.length_append, dT, List.length_map, List.length_cons]
    omega
  have := this h2
  omega
def LN (o : List UInt8) (l : List RSet) (o' : List UInt8) (l' : List RSet) : Int :=
 if cJ o' l' ≠ 0 then cJ o' l' else if o' ≠ o then 1 else if oO (eK o' l').serial (eK o l).serial = false then 7 else 0
def JI (room : Int) (ds : List DeltaR) : List DeltaR := ds.drop (ds.length - room.toNat)
end Go.Proofs.X
set_option linter.unusedSimpArgs false
set_option linter.unusedVariables false
namespace Go.Proofs.X
open Go.RowKit
end Go.Proofs.X
set_option linter.unusedSimpArgs false
set_option linter.unusedVariables false
namespace Go.Proofs.X
open Go.RowKit
set_option maxRecDepth 100000
section
variable {P : Program} {n : Nat} {r : Option Nat} {ops : Array Oper} {Q : Exit → Act → World → Prop} {md : Region.Mode}
end
section
variable {P : Program} {w w' : World} {ts : List Value} {df : List Deferred} {d : Option Nat} {ty : TypeId} {ps : String} {af : Array Edge} {g : Option (Nat × Bool)}
end
structure DelN (B : Nat) (w : World) (css0 css : List (List Value)) (ds : List DeltaR) (k : Nat) : Prop where
 len : css.length = ds.length
 new : ∀ (i : Nat) (d : DeltaR), ds[i]? = some d → i < k → ∃ g n, css[i]? = some [.int .i64 d.fr, .int .i64 d.to, g, n] ∧ Own B 4 106 w g (aR d.gone) ∧ Own B 4 106 w n (aR d.new)
 old : ∀ i, k ≤ i → css[i]? = css0[i]?
theorem DelN.ext {B : Nat} {w w' : World} {css0 css : List (List Value)} {ds : List DeltaR} {k : Nat} (h : DelN B w css0 css ds k) (hx : Ext w w') : DelN B w' css0 css ds k :=
 ⟨h.len, fun i s hi hk => let ⟨x, y, a, b, c⟩ := h.new i s hi hk; ⟨x, y, a, b.ext hx, c.ext hx⟩, h.old⟩
theorem DelN.mv {B : Nat} {w w' : World} {css0 css : List (List Value)} {ds : List DeltaR} {k : Nat} {row : Option Nat} (h : DelN B w css0 css ds k) (hm : Mv row w w') (hne : ∀ x es, Own B 4 106 w x es → x.ownBlock = none ∨ x.ownBlock ≠ row) : DelN B w' css0 css ds k :=
 ⟨h.len, fun i s hi hk => let ⟨x, y, a, b, c⟩ := h.new i s hi hk; ⟨x, y, a, b.mv hm (hne x _ b), c.mv hm (hne y _ c)⟩, h.old⟩
theorem DelN.step {B : Nat} {w : World} {css0 css : List (List Value)} {ds : List DeltaR} {k : Nat} (h : DelN B w css0 css ds k) (hk : k < ds.length) {x y : Value} (hx : Own B 4 106 w x (aR ds[k].gone)) (hy : Own B 4 106 w y (aR ds[k].new)) :
 DelN B w css0 (css.set k [.int .i64 ds[k].fr, .int .i64 ds[k].to, x, y]) ds (k + 1) := by
 refine ⟨by rw [List.length_set, h.len], fun i s hi hik => ?_, fun i hi => ?_⟩
 ·by_cases e : k = i
  ·subst e
   rw [List.getElem?_eq_getElem hk] at hi
   cases hi
   exact ⟨x, y, List.getElem?_set_self (by rw [h.len]; exact hk), hx, hy⟩
  ·obtain ⟨x, y, a, b⟩ := h.new i s hi (by omega)
   exact ⟨x, y, by rw [List.getElem?_set_ne e]; exact a, b⟩
 ·rw [List.getElem?_set_ne (by omega)]; exact h.old i (by omega)
def Keep (T : List TypeId) (w w' : World) : Prop := ∀ (c : Nat) (cs : Array Value) (t : TypeId) (fz : Nat × Nat), w.heap[c]? = some (.cells cs t fz) → t ∉ T → w'.heap[c]? = some (.cells cs t fz)
theorem Keep.trans {T : List TypeId} {a b c : World} (h : Keep T a b) (k : Keep T b c) : Keep T a c := fun i cs t fz hc ht => k i cs t fz (h i cs t fz hc ht) ht
end Go.Proofs.X
set_option linter.unusedSimpArgs false
set_option linter.unusedVariables false
namespace Go.Proofs.X
open Go.RowKit
end Go.Proofs.X
set_option linter.unusedSimpArgs false
set_option linter.unusedVariables false
namespace Go.Proofs.X
open Go.RowKit
set_option maxRecDepth 100000
theorem lU {l : List Rec} : ∀ f ∈ aR l, ∀ u ∈ f, u.oneCell' = true := by
 intro f hf u hu
 obtain ⟨r, _, rfl⟩ := List.mem_map.1 hf
 simp only [Rec.cells, List.mem_cons, List.not_mem_nil, or_false] at hu
 rcases hu with rfl | rfl | rfl | rfl <;> rfl
set_option maxHeartbeats 500000 in
theorem OF (o : List UInt8) (v : Value) (l : List RSet) (w : World) (hv : SetsAt w v l) : Calls Tryz.prog 24 #[.agg #[aI o, v]] w (bS w (.bool (decide ((o.length : Int) ≤ 300) && pS l))) := by
 go_enter Tryz.func24, Tryz.ntmps24
 repeat' (first | ((with_reducible refine aJ ?_); go_step) | fail)
 refine bU (vs := [aI o, v]) rfl rfl ?_
 intro p w1 x1 hp
 refine aA ?_
 have hv1 := hv.ext x1
 (repeat' first | ((with_reducible refine aJ ?_); go_step) | ((with_reducible refine aH ?_); first | refine bQ ?_ | (refine aK ?_ ?_ <;> intro hc)) | fail)
 ·refine aE (enters_of Tryz.func59 rfl rfl) rfl rfl (TW v l _ hv1) ?_; intro w2 x2; refine aA ?_
  (repeat' first | ((with_reducible refine aJ ?_); go_step) | ((with_reducible refine aH ?_); first | refine bQ ?_ | (refine aK ?_ ?_ <;> intro hc)) | fail)
  go_ret
  exact ⟨by rw [decide_eq_true hc]; rfl, x1.trans x2⟩
 ·go_ret
  exact ⟨by rw [decide_eq_false hc]; rfl, x1⟩
theorem DelA.ext {d : DeltaR} {r : Value} {w w' : World} (h : DelA d r w) (hx : Ext w w') : DelA d r w' := by
 obtain ⟨g, n, e, a, b⟩ := h
 exact ⟨g, n, e, a.ext hx, b.ext hx⟩
end Go.Proofs.X
