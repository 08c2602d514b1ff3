/- Laws and walks that the proof of the statement is made of (part 16). -/
import Derived.Test.YtgljkfpcadempaaGreatP15
set_option linter.unusedSimpArgs false
set_option linter.unusedVariables false
namespace Go.Proofs.X
open Go.RowKit
set_option maxRecDepth 100000
def Stands (s : List UInt8) (p : Nat) (y : List UInt8) : Prop := ∃ a b, s = a ++ y ++ b ∧ a.length = p
theorem Stands.mono {s t : List UInt8} {p : Nat} {y : List UInt8} (h : Stands s p y) (hp : s <+: t) : Stands t p y := by
 obtain ⟨a, b, rfl, ha⟩ := h
 obtain ⟨u, rfl⟩ := hp
 exact ⟨a, b ++ u, by simp, ha⟩
theorem Stands.left {s : List UInt8} {p : Nat} {y z : List UInt8} (h : Stands s p (y ++ z)) : Stands s p y := by
 obtain ⟨a, b, rfl, ha⟩ := h
 exact ⟨a, z ++ b, by simp, ha⟩
theorem Stands.right {s : List UInt8} {p : Nat} {y z : List UInt8} (h : Stands s p (y ++ z)) : Stands s (p + y.length) z := by
 obtain ⟨a, b, rfl, ha⟩ := h
 exact ⟨a ++ y, b, by simp, by simp [ha]⟩
theorem Stands.le {s : List UInt8} {p : Nat} {y : List UInt8} (h : Stands s p y) : p + y.length ≤ s.length := by
 obtain ⟨a, b, rfl, ha⟩ := h
 simp [ha]
theorem Stands.end_ {l y t : List UInt8} (h : l ++ y <+: t) : Stands t l.length y := Stands.mono ⟨l, [], by simp, rfl⟩ h
theorem Stands.get {s : List UInt8} {p : Nat} {y : List UInt8} (h : Stands s p y) : (s.drop p).take y.length = y := by
 obtain ⟨a, b, rfl, rfl⟩ := h
 rw [List.append_assoc, List.drop_left, List.take_left]
theorem Stands.take {s : List UInt8} {p : Nat} {y : List UInt8} (h : Stands s p y) (k : Nat) (hk : y.length = k) : RdS.take s ⟨(p : Nat), 0⟩ (k : Nat) = (y, ⟨((p + k : Nat) : Int), 0⟩) := by
 have h1 := h.le
 subst hk
 unfold RdS.take
 rw [if_neg (by simp), if_neg (by dsimp only; omega)]
 dsimp only
 rw [Int.toNat_natCast, Int.toNat_natCast, h.get, Int.natCast_add]
theorem Stands.number {s : List UInt8} {p : Nat} {y : List UInt8} (h : Stands s p y) (k : Nat) (hk : y.length = k) : RdS.number s ⟨(p : Nat), 0⟩ (k : Nat) = (qK y, ⟨((p + k : Nat) : Int), 0⟩) := by
 unfold RdS.number
 rw [h.take k hk]
theorem HH {n : Nat} (h : n < 65536) : qK (aU n) = n := by
 simp [qK, aU]
 omega
theorem HI {n : Nat} (h : n < 4294967296) : qK (eX n) = n := by
 simp [qK, eX, aU]
 omega
theorem gQ (n : Nat) : (aU n).length = 2 := rfl
theorem iZ (n : Nat) : (eX n).length = 4 := rfl
theorem Stands.word {s : List UInt8} {p n : Nat} (h : Stands s p (aU n)) (hn : n < 65536) : RdS.number s ⟨(p : Nat), 0⟩ 2 = (n, ⟨((p + 2 : Nat) : Int), 0⟩) := by
 have := h.number 2 rfl
 rwa [HH hn] at this
theorem Stands.long {s : List UInt8} {p n : Nat} (h : Stands s p (eX n)) (hn : n < 4294967296) : RdS.number s ⟨(p : Nat), 0⟩ 4 = (n, ⟨((p + 4 : Nat) : Int), 0⟩) := by
 have := h.number 4 rfl
 rwa [HI hn] at this
theorem Stands.byte {s : List UInt8} {p : Nat} {a : UInt8} (h : Stands s p [a]) : RdS.number s ⟨(p : Nat), 0⟩ 1 = (a.toNat, ⟨((p + 1 : Nat) : Int), 0⟩) := by
 have := h.number 1 rfl
 simpa [qK] using this
inductive NameAt (s : List UInt8) : Nat → Nat → List (List UInt8) → Nat → Prop
 | nil {p B : Nat} : Stands s p [0] → NameAt s p B [] (p + 1)
 | lab {p B e : Nat} {x : List UInt8} {ls : List (List UInt8)} : gK x = true → Stands s p (eM x) → NameAt s (p + 1 + x.length) B ls e → NameAt s p B (x :: ls) e
 | ptr {p B to e : Nat} {ls : List (List UInt8)} : Stands s p (aU (49152 ||| to)) → to < 16384 → to < B → NameAt s to to ls e → NameAt s p B ls (p + 2)
theorem NameAt.mono {s t : List UInt8} (hp : s <+: t) {p B e : Nat} {ls : List (List UInt8)} (h : NameAt s p B ls e) : NameAt t p B ls e := by
 induction h with
 | nil h => exact .nil (h.mono hp)
 | lab hx h _ ih => exact .lab hx (h.mono hp) ih
 | ptr h h1 h2 _ ih => exact .ptr (h.mono hp) h1 h2 ih
theorem NameAt.bound {s : List UInt8} {p B e : Nat} {ls : List (List UInt8)} (h : NameAt s p B ls e) : ∀ C, B ≤ C → NameAt s p C ls e := by
 induction h with
 | nil h => exact fun C _ => .nil h
 | lab hx h _ ih => exact fun C hC => .lab hx h (ih C hC)
 | ptr h h1 h2 h3 _ => exact fun C hC => .ptr h h1 (by omega) h3
theorem NameAt.lt {s : List UInt8} {p B e : Nat} {ls : List (List UInt8)} (h : NameAt s p B ls e) : p < s.length := by
 cases h with
 | nil h => have := h.le; simp at this; omega
 | lab _ h _ => have := h.le; simp [eM] at this; omega
 | ptr h => have := h.le; simp [aU] at this; omega
theorem qR (x : List UInt8) (ls : List (List UInt8)) : enc (x :: ls) = eM x ++ enc ls := by simp [enc, eM]
theorem kG (x : List UInt8) : (eM x).length = x.length + 1 := by simp [eM]
theorem MK {n : Nat} (h : n < 16384) : 49152 ||| n = 49152 + n := by
 have h1 : (3 : Nat) <<< 14 = 49152 := rfl
 rw [← h1, ← Nat.shiftLeft_add_eq_or_of_lt (show n < 2 ^ 14 from h)]
theorem DU {s : List UInt8} (hs : s.length ≤ 100000000) {p B e : Nat} {ls : List (List UInt8)} (h : NameAt s p B ls e) :
 ∀ (f : Nat) (n : List UInt8) (back : Int), NmOk s ⟨n, (B : Nat), back, ⟨(p : Nat), 0⟩⟩ → DO s ⟨n, (B : Nat), back, ⟨(p : Nat), 0⟩⟩ < f → n.length + (enc ls).length ≤ 254 →
   vW s f ⟨n, (B : Nat), back, ⟨(p : Nat), 0⟩⟩ = (n ++ enc ls, ⟨if back < 0 then ((e : Nat) : Int) else back, 0⟩) := by
 induction h with
 | nil h =>
  intro f n back hok hf hl
  obtain ⟨f, rfl⟩ : ∃ g, f = g + 1 := ⟨f - 1, by omega⟩
  have hb := h.byte
  unfold vW
  simp only [hb]
  rw [if_pos (.inr (by rfl))]
  unfold yK
  simp only [ne_eq, not_true, if_false, enc, List.map_nil, List.flatten_nil, List.append_nil]
  by_cases hk : back < 0
  ·rw [if_pos hk, if_neg (by omega)]
  ·rw [if_neg hk, if_pos (by omega)]
 | @lab p B e x ls hx h _ ih =>
  intro f n back hok hf hl
  obtain ⟨f, rfl⟩ : ∃ g, f = g + 1 := ⟨f - 1, by omega⟩
  simp only [gK, Bool.and_eq_true, decide_eq_true_eq] at hx
  have h1 : Stands s p [UInt8.ofNat x.length] := Stands.left (z := x) (by simpa [eM] using h)
  have h2 : Stands s (p + 1) x := Stands.right (y := [UInt8.ofNat x.length]) (by simpa [eM] using h)
  have hb := h1.byte
  have hk : (UInt8.ofNat x.length).toNat = x.length := by simp; omega
  rw [hk] at hb
  have ht := h2.take x.length rfl
  rw [qR, List.length_append, kG] at hl
  obtain ⟨hok2, hm2⟩ := hok.next hs (by simp only [hb])
  unfold vW
  simp only [hb] at hok2 hm2 ⊢
  rw [if_neg (fun h9 => h9.elim (fun h => h rfl) (fun h => by omega))]
  have hn : fE s ⟨n, (B : Nat), back, ⟨(p : Nat), 0⟩⟩ x.length ⟨((p + 1 : Nat) : Int), 0⟩ = ⟨n ++ eM x, (B : Nat), back, ⟨((p + 1 + x.length : Nat) : Int), 0⟩⟩ := by
   unfold fE
   rw [if_pos (by omega)]
   simp only [ht]
   unfold RdS.want
   rw [if_neg (by simp; omega)]
   rfl
  rw [hn] at hok2 hm2 ⊢
  rw [ih f _ back hok2 (by omega) (by rw [List.length_append, kG]; omega), qR, List.append_assoc]
 | @ptr p B to e ls h h1 h2 _ ih =>
  intro f n back hok hf hl
  obtain ⟨f, rfl⟩ : ∃ g, f = g + 1 := ⟨f - 1, by omega⟩
  rw [MK h1] at h
  have g1 : Stands s p [UInt8.ofNat ((49152 + to) / 256)] := Stands.left (z := [UInt8.ofNat (49152 + to)]) (by simpa [aU] using h)
  have g2 : Stands s (p + 1) [UInt8.ofNat (49152 + to)] := Stands.right (y := [UInt8.ofNat ((49152 + to) / 256)]) (by simpa [aU] using h)
  have hb := g1.byte
  have hb2 := g2.byte
  have hk : (UInt8.ofNat ((49152 + to) / 256)).toNat = 192 + to / 256 := by simp; omega
  have hk2 : (UInt8.ofNat (49152 + to)).toNat = to % 256 := by rw [UInt8.toNat_ofNat']; omega
  rw [hk] at hb
  rw [hk2] at hb2
  obtain ⟨hok2, hm2⟩ := hok.next hs (by simp only [hb])
  unfold vW
  simp only [hb] at hok2 hm2 ⊢
  rw [if_neg (fun h9 => h9.elim (fun h => h rfl) (fun h => by omega))]
  have hw : RdS.want ⟨((p + 1 : Nat) : Int), 0⟩ (decide (192 ≤ 192 + to / 256)) 2 = ⟨((p + 1 : Nat) : Int), 0⟩ := by
   unfold RdS.want
   rw [if_neg (by simp)]
  have hto : nmTo s ⟨((p + 1 : Nat) : Int), 0⟩ (192 + to / 256) = to := by
   unfold nmTo
   rw [hw, hb2]
   dsimp only
   omega
  have hr4 : rI s ⟨((p + 1 : Nat) : Int), 0⟩ (192 + to / 256) (B : Nat) = ⟨((p + 1 + 1 : Nat) : Int), 0⟩ := by
   unfold rI
   rw [hto, hw, hb2]
   unfold RdS.want
   rw [if_neg (by simp; omega)]
  have hn : fE s ⟨n, (B : Nat), back, ⟨(p : Nat), 0⟩⟩ (192 + to / 256) ⟨((p + 1 : Nat) : Int), 0⟩ = ⟨n, (to : Nat), if back < 0 then ((p + 1 + 1 : Nat) : Int) else back, ⟨(to : Nat), 0⟩⟩ := by
   unfold fE
   rw [if_neg (by omega)]
   dsimp only
   rw [hto, hr4]
  rw [hn] at hok2 hm2 ⊢
  rw [ih f _ _ hok2 (by omega) hl]
  by_cases hb : back < 0
  ·simp only [if_pos hb]
   rw [if_neg (by omega)]
  ·simp only [if_neg hb]
theorem CA {s : List UInt8} (hs : s.length ≤ 100000000) {p e : Nat} {ls : List (List UInt8)} (h : NameAt s p p ls e) (hl : (enc ls).length ≤ 254) : eS s ⟨(p : Nat), 0⟩ = (enc ls, ⟨(e : Nat), 0⟩) := by
 have hp := h.lt
 have hr : RdS.Ok s ⟨(p : Nat), 0⟩ := ⟨by dsimp only; omega, fun _ => by dsimp only; omega, by dsimp only; omega⟩
 obtain ⟨h1, h2⟩ := oQ hr
 unfold eS
 rw [DU hs h _ [] (-1) h1 h2 (by simpa using hl)]
 rfl
def PlOk (s : List UInt8) (p : List UInt8 × Nat) : Prop := ∃ ls e, p.1 = enc ls ∧ ls.all gK = true ∧ NameAt s p.2 p.2 ls e
theorem PlOk.mono {s t : List UInt8} (hp : s <+: t) {p : List UInt8 × Nat} (h : PlOk s p) : PlOk t p := by
 obtain ⟨ls, e, h1, h2, h3⟩ := h
 exact ⟨ls, e, h1, h2, h3.mono hp⟩
theorem ML {a b : List (List UInt8)} (ha : a.all gK = true) (hb : b.all gK = true) (h : enc a = enc b) : a = b := by
 have := nF ha
 rw [h, nF hb] at this
 exact (Option.some.inj this).symm
theorem fV (ls : List (List UInt8)) (l : List UInt8) (ps : List (List UInt8 × Nat)) : l <+: (bC ls l ps).1 := by
 obtain ⟨t, h, _⟩ := hV ls l ps
 exact ⟨t, h.symm⟩
theorem sU : ∀ (ls : List (List UInt8)) (l : List UInt8) (ps : List (List UInt8 × Nat)) (B : Nat), (∀ p ∈ ps, p.1.length ≤ (enc ls).length → p.2 < B ∧ PlOk l p) → B ≤ l.length → ls.all gK = true →
 NameAt (bC ls l ps).1 l.length B ls (bC ls l ps).1.length ∧ ∀ p ∈ (bC ls l ps).2, p ∈ ps ∨ PlOk (bC ls l ps).1 p
 | [], l, ps, B, _, _, _ => by
   refine ⟨?_, fun p h => .inl h⟩
   have h : NameAt (l ++ [0]) l.length B [] (l.length + 1) := .nil (Stands.end_ (List.prefix_refl _))
   simpa [bC] using h
 | x :: ls, l, ps, B, hps, hB, hf => by
   simp only [List.all_cons, Bool.and_eq_true] at hf
   obtain ⟨hx, hl⟩ := hf
   have step : ∀ ps', (∀ p ∈ ps', p ∈ ps ∨ p = (enc (x :: ls), l.length)) →
    NameAt (bC ls (l ++ eM x) ps').1 l.length B (x :: ls) (bC ls (l ++ eM x) ps').1.length ∧ ∀ p ∈ (bC ls (l ++ eM x) ps').2, p ∈ ps ∨ PlOk (bC ls (l ++ eM x) ps').1 p := by
    intro ps' hp'
    have hpre : l ++ eM x <+: (bC ls (l ++ eM x) ps').1 := fV _ _ _
    obtain ⟨g1, g2⟩ := sU ls (l ++ eM x) ps' B (by
     intro p hp hle
     rcases hp' p hp with h | h
     ·obtain ⟨a1, a2⟩ := hps p h (by rw [qR, List.length_append]; omega)
      exact ⟨a1, a2.mono (List.prefix_append _ _)⟩
     ·subst h
      dsimp only at hle
      rw [qR, List.length_append, kG] at hle
      omega) (by rw [List.length_append]; omega) hl
    rw [List.length_append, kG, show l.length + (x.length + 1) = l.length + 1 + x.length by omega] at g1
    have g3 : NameAt (bC ls (l ++ eM x) ps').1 l.length B (x :: ls) (bC ls (l ++ eM x) ps').1.length := .lab hx (Stands.end_ hpre) g1
    refine ⟨g3, fun p hp => ?_⟩
    rcases g2 p hp with h | h
    ·rcases hp' p h with h | h
     ·exact .inl h
     ·subst h
      exact .inr ⟨x :: ls, _, rfl, by simp [hx, hl], g3.bound _ hB⟩
    ·exact .inr h
   unfold bC
   split
   ·rename_i p hfind
    obtain ⟨hm, he⟩ := List.find?_eq_some_iff_append.1 hfind |>.imp_left (fun h => h) |> fun h => (⟨List.mem_of_find?_eq_some hfind, h.1⟩ : p ∈ ps ∧ _)
    simp only [decide_eq_true_eq] at he
    split
    ·rename_i hlt
     obtain ⟨a1, a2⟩ := hps p hm (by rw [he]; exact Nat.le_refl _)
     obtain ⟨ls', e, b1, b2, b3⟩ := a2
     have hle : ls' = x :: ls := ML b2 (by simp [hx, hl]) (b1.symm.trans he)
     subst hle
     refine ⟨?_, fun p h => .inl h⟩
     have := NameAt.ptr (Stands.end_ (List.prefix_refl (l ++ aU (49152 ||| p.2)))) hlt a1 (b3.mono (List.prefix_append l _))
     simpa [aU] using this
    ·exact step ps fun p h => .inl h
   ·refine step _ fun p h => ?_
    rw [List.mem_append, List.mem_singleton] at h
    exact h
def Good (x : wP) : Prop := ∀ p ∈ x.2, PlOk x.1 p
theorem Good.mono {l l' : List UInt8} {ps : List (List UInt8 × Nat)} (h : Good (l, ps)) (hp : l <+: l') : Good (l', ps) := fun p hm => (h p hm).mono hp
theorem HJ {l : List UInt8} {ps : List (List UInt8 × Nat)} {ls : List (List UInt8)} (h : Good (l, ps)) (hf : ls.all gK = true) : NameAt (bC ls l ps).1 l.length l.length ls (bC ls l ps).1.length ∧ Good (bC ls l ps) := by
 obtain ⟨h1, h2⟩ := sU ls l ps l.length (fun p hp _ => by
  have := h p hp
  obtain ⟨_, _, _, _, h3⟩ := this
  exact ⟨h3.lt, h p hp⟩) (Nat.le_refl _) hf
 refine ⟨h1, fun p hp => ?_⟩
 rcases h2 p hp with g | g
 ·exact (h p g).mono (fV _ _ _)
 ·exact g
theorem lB {l : List UInt8} {ps : List (List UInt8 × Nat)} {n : List UInt8} (h : Good (l, ps)) (hn : (aX n).isSome = true) {s : List UInt8} (hs : s.length ≤ 100000000) (hp : (bC (cZ n) l ps).1 <+: s) :
 eS s ⟨(l.length : Nat), 0⟩ = (n, ⟨((bC (cZ n) l ps).1.length : Nat), 0⟩) ∧ Good (bC (cZ n) l ps) := by
 obtain ⟨f1, f2, f3⟩ := fG hn
 obtain ⟨h1, h2⟩ := HJ h f1
 rw [CA hs (h1.mono hp) (by rw [f2]; exact f3), f2]
 exact ⟨rfl, h2⟩
theorem rP {l : List UInt8} {ps : List (List UInt8 × Nat)} {n : List UInt8} (h : Good (l, ps)) (hn : (aX n).isSome = true) {s : List UInt8} (hs : s.length ≤ 100000000) (hp : (bC (cZ n) l ps).1 <+: s) :
 RdS.host s ⟨(l.length : Nat), 0⟩ = (n ++ [0], ⟨((bC (cZ n) l ps).1.length : Nat), 0⟩) := by
 unfold RdS.host
 rw [(lB h hn hs hp).1]
 unfold EX
 rw [if_pos hn]
theorem nL : ∀ (ls : List (List UInt8)) (l l' : List UInt8) (ps : List (List UInt8 × Nat)), l.length = l'.length → ∃ t, (bC ls l ps).1 = l ++ t ∧ (bC ls l' ps).1 = l' ++ t ∧ (bC ls l ps).2 = (bC ls l' ps).2
 | [], l, l', ps, _ => ⟨[0], rfl, rfl, rfl⟩
 | x :: ls, l, l', ps, h => by
   have step : ∀ ps', ∃ t, (bC ls (l ++ eM x) ps').1 = l ++ t ∧ (bC ls (l' ++ eM x) ps').1 = l' ++ t ∧ (bC ls (l ++ eM x) ps').2 = (bC ls (l' ++ eM x) ps').2 := by
    intro ps'
    obtain ⟨t, h1, h2, h3⟩ := nL ls (l ++ eM x) (l' ++ eM x) ps' (by simp [h])
    exact ⟨eM x ++ t, by rw [h1, List.append_assoc], by rw [h2, List.append_assoc], h3⟩
   unfold bC
   rw [← h]
   split
   ·split
    ·exact ⟨_, rfl, rfl, rfl⟩
    ·exact step _
   ·exact step _
theorem zQ (r : Rec) (l l' : List UInt8) (ps : List (List UInt8 × Nat)) (h : l.length = l'.length) : ∃ t, (bR r l ps).1 = l ++ t ∧ (bR r l' ps).1 = l' ++ t ∧ (bR r l ps).2 = (bR r l' ps).2 := by
 unfold bR
 split
 ·obtain ⟨t, h1, h2, h3⟩ := nL (cZ (dQ r.data).main) l l' ps h
  rw [h1, h2, h3]
  obtain ⟨u, k1, k2, k3⟩ := nL (cZ (dQ r.data).mail) (l ++ t) (l' ++ t) (bC (cZ (dQ r.data).main) l' ps).2 (by simp [h])
  rw [k1, k2, k3]
  exact ⟨t ++ u ++ r.data.drop (r.data.length - 20), by simp, by simp, rfl⟩
 ·split
  ·obtain ⟨t, h1, h2, h3⟩ := nL (cZ (bA r.kind r.data).1) (l ++ r.data.take (r.data.length - (bA r.kind r.data).1.length - 1)) (l' ++ r.data.take (r.data.length - (bA r.kind r.data).1.length - 1)) ps (by simp [h])
   rw [h1, h2, h3]
   exact ⟨r.data.take (r.data.length - (bA r.kind r.data).1.length - 1) ++ t, by simp, by simp, rfl⟩
  ·exact ⟨r.data, rfl, rfl, rfl⟩
theorem HK (r : Rec) (l : List UInt8) (ps : List (List UInt8 × Nat)) : ∃ t, (bR r (l ++ aU t.length) ps).1 = l ++ aU t.length ++ t ∧ (bR r (l ++ aU 0) ps).1 = l ++ aU 0 ++ t ∧ hY r l ps = bR r (l ++ aU t.length) ps := by
 obtain ⟨t, h1, h2, h3⟩ := zQ r (l ++ aU 0) (l ++ aU ((bR r (l ++ aU 0) ps).1.length - l.length - 2)) ps (by simp [aU])
 have ht : (bR r (l ++ aU 0) ps).1.length - l.length - 2 = t.length := by
  rw [h1]
  simp [aU]
 rw [ht] at h2 h3
 refine ⟨t, h2, h1, ?_⟩
 unfold hY
 rw [ht, h1, show (l ++ aU 0 ++ t).drop (l.length + 2) = t by rw [show l.length + 2 = (l ++ aU 0).length by simp [aU], List.drop_left], ← h2, h3]
theorem fS {r : RdS} {is : Bool} {e : Int} (h : is = true) : r.want is e = r := by
 unfold RdS.want
 rw [if_neg (by simp [h])]
theorem HL {d : List UInt8} (h : (cI d).isSome = true) : ∃ rest, d = (dQ d).main ++ [0] ++ ((dQ d).mail ++ [0] ++ rest) ∧ rest.length = 20 := by
 unfold dQ
 unfold cI at h ⊢
 dsimp only at h ⊢
 split at h
 ·rename_i c
  rw [if_pos c]
  obtain ⟨c1, c2, c3, c4⟩ := c
  have a := uY c1
  have b := uY c2
  refine ⟨(bM (bM d).2.1).2.1, ?_, c3⟩
  show d = (bM d).1 ++ [0] ++ ((bM (bM d).2.1).1 ++ [0] ++ (bM (bM d).2.1).2.1)
  rw [← b.1, ← a.1]
 ·cases h
theorem DV {k : Int} {d : List UInt8} (h : (bA k d).2 = 0) : ∃ a, d = a ++ (bA k d).1 ++ [0] ∧ (a.length : Int) = fJ k ∧ (k = 2 ∨ k = 5 ∨ k = 12 ∨ k = 15 ∨ k = 33) := by
 unfold bA at h ⊢
 split at h
 ·cases h
 ·rename_i c1
  rw [if_neg c1]
  split at h
  ·cases h
  ·rename_i c2
   rw [if_neg c2]
   cases hh : gU (d.drop (fJ k).toNat) with
   | none => rw [hh] at h; cases h
   | some n =>
    obtain ⟨g1, _⟩ := lR hh
    refine ⟨d.take (fJ k).toNat, ?_, ?_, ?_⟩
    ·dsimp only
     rw [List.append_assoc, ← g1, List.take_append_drop]
    ·rw [List.length_take]
     omega
    ·unfold fJ at c1
     split at c1
     ·omega
     ·split at c1
      ·omega
      ·split at c1
       ·omega
       ·omega
theorem DW {r : Rec} (hr : bF r = 0) {l t : List UInt8} {ps : List (List UInt8 × Nat)} (h : Good (l, ps)) (ht : (bR r l ps).1 = l ++ t) {s : List UInt8} (hs : s.length ≤ 100000000) (hp : l ++ t <+: s) :
 RdS.data s ⟨(l.length : Nat), 0⟩ r.kind (t.length : Nat) = (r.data, ⟨((l ++ t).length : Nat), 0⟩) ∧ Good (bR r l ps) := by
 have hle := hp.length_le
 have hok := rL hr
 have hfit : fits r.kind r.data = true := by
  unfold bF at hr
  split at hr
  ·cases hr
  ·split at hr
   ·cases hr
   ·rename_i c
    cases hf : fits r.kind r.data with
    | true => rfl
    | false => exact absurd (by simp [hf]) c
 have w1 : RdS.want ⟨(l.length : Nat), 0⟩ (decide (((l.length : Nat) : Int) + ((t.length : Nat) : Int) ≤ (s.length : Int))) 3 = ⟨(l.length : Nat), 0⟩ := fS (by simp at hle ⊢; omega)
 have w2 : RdS.want ⟨((l ++ t).length : Nat), 0⟩ (decide ((((l ++ t).length : Nat) : Int) = ((l.length : Nat) : Int) + ((t.length : Nat) : Int))) 2 = ⟨((l ++ t).length : Nat), 0⟩ := fS (by simp)
 unfold RdS.data
 dsimp only
 rw [w1]
 simp only [ne_eq, not_true, if_false]
 by_cases k6 : r.kind = 6
 ·have hS : (cI r.data).isSome = true := by
   rw [k6] at hfit
   simpa [fits] using hfit
  obtain ⟨s1, s2, _⟩ := hok.soa k6
  obtain ⟨rest, hd, hrl⟩ := HL hS
  have hdrop : r.data.drop (r.data.length - 20) = rest := by
   have e : r.data.length - 20 = ((dQ r.data).main ++ [0] ++ ((dQ r.data).mail ++ [0])).length := by
    have := congrArg List.length hd
    simp at this ⊢
    omega
   have hd2 : r.data = ((dQ r.data).main ++ [0] ++ ((dQ r.data).mail ++ [0])) ++ rest := hd.trans (by simp)
   rw [e]
   exact (congrArg (List.drop _) hd2).trans List.drop_left
  unfold bR at ht ⊢
  rw [if_pos k6] at ht ⊢
  dsimp only at ht ⊢
  rw [hdrop] at ht ⊢
  have p2 : (bC (cZ (dQ r.data).mail) (bC (cZ (dQ r.data).main) l ps).1 (bC (cZ (dQ r.data).main) l ps).2).1 <+: l ++ t := ⟨rest, ht⟩
  have p1 := (fV (cZ (dQ r.data).mail) (bC (cZ (dQ r.data).main) l ps).1 (bC (cZ (dQ r.data).main) l ps).2).trans p2
  have g1 := lB h s1 hs (p1.trans hp)
  have g1' := rP h s1 hs (p1.trans hp)
  have g2 := lB g1.2 s2 hs (p2.trans hp)
  have g2' := rP g1.2 s2 hs (p2.trans hp)
  have g3 : Stands s (bC (cZ (dQ r.data).mail) (bC (cZ (dQ r.data).main) l ps).1 (bC (cZ (dQ r.data).main) l ps).2).1.length rest := Stands.end_ (by rw [ht]; exact hp)
  have g3' := g3.take 20 hrl
  rw [if_neg (by omega), if_neg (by omega), if_pos k6]
  simp only [g1', g2']
  have hlen := congrArg List.length ht
  rw [List.length_append, hrl] at hlen
  rw [hlen] at g3'
  rw [show ((20 : Int)) = ((20 : Nat) : Int) from rfl, g3']
  dsimp only
  rw [w2]
  refine ⟨?_, fun p hp' => (g2.2 p hp').mono (List.prefix_append _ _)⟩
  rw [Prod.mk.injEq]
  refine ⟨?_, rfl⟩
  rw [List.append_assoc]
  exact hd.symm
 ·by_cases hh : (bA r.kind r.data).2 = 0 ∧ r.kind ≠ 33
  ·obtain ⟨hn, hnl⟩ := rK hh.1
   obtain ⟨a, hd, hal, hk⟩ := DV hh.1
   have hb : bR r l ps = bC (cZ (bA r.kind r.data).1) (l ++ r.data.take (r.data.length - (bA r.kind r.data).1.length - 1)) ps := by
    unfold bR
    rw [if_neg k6, if_pos hh]
   have ht' := ht
   rw [hb] at ht' ⊢
   generalize (bA r.kind r.data).1 = n at *
   have htake : r.data.take (r.data.length - n.length - 1) = a := by
    have e : r.data.length - n.length - 1 = a.length := by
     have := congrArg List.length hd
     simp at this
     omega
    rw [e, hd, List.append_assoc, List.take_left]
   rw [htake] at ht' ⊢
   have g := lB (h.mono (List.prefix_append l a)) hn hs (by rw [ht']; exact hp)
   have g' := rP (h.mono (List.prefix_append l a)) hn hs (by rw [ht']; exact hp)
   rw [ht'] at g'
   refine ⟨?_, g.2⟩
   by_cases k15 : r.kind = 15
   ·have hal2 : a.length = 2 := by
     rw [k15] at hal
     have : fJ 15 = 2 := rfl
     omega
    have g3 : Stands s l.length a := Stands.end_ ((fV (cZ n) (l ++ a) ps).trans (by rw [ht']; exact hp))
    have g3' : RdS.take s ⟨(l.length : Nat), 0⟩ 2 = _ := g3.take 2 hal2
    rw [if_neg (by omega), if_pos k15, g3']
    dsimp only
    rw [List.length_append, hal2] at g'
    rw [g']
    dsimp only
    rw [show (l ++ t).length = l.length + t.length from List.length_append] at w2
    rw [List.length_append, w2, hd, List.append_assoc]
   ·have hal0 : a = [] := by
     have : fJ r.kind = 0 := by
      unfold fJ
      rw [if_neg hh.2, if_neg k15, if_pos (by omega)]
     exact List.eq_nil_of_length_eq_zero (by omega)
    subst hal0
    rw [if_pos (by omega)]
    rw [List.append_nil] at g'
    rw [g']
    dsimp only
    rw [w2, hd]
    rfl
  ·unfold bR at ht ⊢
   rw [if_neg k6, if_neg hh] at ht ⊢
   have htd : t = r.data := (List.append_cancel_left ht).symm
   subst htd
   have hk : ¬ (r.kind = 2 ∨ r.kind = 5 ∨ r.kind = 12) ∧ r.kind ≠ 15 := by
    have hx : ∀ k : Int, (k = 2 ∨ k = 5 ∨ k = 12 ∨ k = 15) → r.kind = k → False := by
     intro k hk e
     apply hh
     refine ⟨?_, by omega⟩
     have hne : (bA r.kind r.data).2 ≠ 2 := by
      rw [e] at hfit ⊢
      unfold fits at hfit
      rw [if_neg (by omega), if_neg (by omega), if_neg (by omega), if_neg (by omega)] at hfit
      simpa using hfit
     have hah : ¬ fJ r.kind < 0 := by
      rw [e]
      rcases hk with rfl | rfl | rfl | rfl <;> decide
     unfold bA at hne ⊢
     rw [if_neg hah] at hne ⊢
     split
     ·rename_i c
      rw [if_pos c] at hne
      exact absurd rfl hne
     ·rename_i c
      rw [if_neg c] at hne
      split
      ·rename_i c2
       rw [c2] at hne
       exact absurd rfl hne
      ·rfl
    refine ⟨fun c => ?_, fun c => hx 15 (by omega) c⟩
    rcases c with c | c | c
    ·exact hx 2 (by omega) c
    ·exact hx 5 (by omega) c
    ·exact hx 12 (by omega) c
   have g3 : Stands s l.length r.data := Stands.end_ hp
   have g3' := g3.take r.data.length rfl
   rw [if_neg hk.1, if_neg hk.2, if_neg k6, g3']
   dsimp only
   rw [show (l ++ r.data).length = l.length + r.data.length from List.length_append] at w2 ⊢
   rw [w2]
   exact ⟨rfl, h.mono (List.prefix_append _ _)⟩
theorem oT {l : List UInt8} {ps : List (List UInt8 × Nat)} {n : List UInt8} {k c : Nat} (h : Good (l, ps)) (hn : (aX n).isSome = true) (hk : k < 65536) (hc : c < 65536) {s : List UInt8} (hs : s.length ≤ 100000000)
 (hp : (bC (cZ n) l ps).1 ++ aU k ++ aU c <+: s) : dX s ⟨(l.length : Nat), 0⟩ = ⟨n, k, c, ⟨(((bC (cZ n) l ps).1 ++ aU k ++ aU c).length : Nat), 0⟩⟩ ∧ Good ((bC (cZ n) l ps).1 ++ aU k ++ aU c, (bC (cZ n) l ps).2) := by
 have p1 : (bC (cZ n) l ps).1 ++ aU k <+: s := (List.prefix_append _ _).trans hp
 have g := lB h hn hs ((List.prefix_append _ _).trans p1)
 have g1 := (Stands.end_ p1).word hk
 have g2 := (Stands.end_ hp).word hc
 rw [List.length_append, gQ] at g2
 refine ⟨?_, g.2.mono ((List.prefix_append _ _).trans (List.prefix_append _ _))⟩
 unfold dX
 rw [g.1]
 dsimp only
 rw [g1]
 dsimp only
 rw [g2, List.length_append, List.length_append, gQ, gQ]
theorem MM {x : wP} (h : Good x) {q : mJ} (hq : qU q = true) {s : List UInt8} (hs : s.length ≤ 100000000) (hp : (qW x q).1 <+: s) :
 dX s ⟨(x.1.length : Nat), 0⟩ = ⟨q.1, q.2.toNat, 1, ⟨((qW x q).1.length : Nat), 0⟩⟩ ∧ Good (qW x q) := by
 obtain ⟨h1, h2, h3⟩ := DR hq
 obtain ⟨l, ps⟩ := x
 exact oT (k := q.2.toNat) (c := 1) h h1 (by omega) (by omega) hs hp
theorem HM (x : wP) (q : mJ) : x.1 <+: (qW x q).1 := by
 unfold qW
 rw [List.append_assoc]
 exact (fV _ _ _).trans (List.prefix_append _ _)
theorem rQ : ∀ (qs : List mJ) (x : wP), x.1 <+: (qs.foldl qW x).1
 | [], _ => List.prefix_refl _
 | q :: qs, x => (HM x q).trans (rQ qs _)
theorem FD {s : List UInt8} (hs : s.length ≤ 100000000) : ∀ (qs : List mJ) (x : wP) (acc : List mJ), Good x → (∀ q ∈ qs, qU q = true) → (qs.foldl qW x).1 <+: s →
 zP s qs.length acc ⟨(x.1.length : Nat), 0⟩ = (acc ++ qs, ⟨((qs.foldl qW x).1.length : Nat), 0⟩) ∧ Good (qs.foldl qW x)
 | [], x, acc, h, _, _ => by simpa [zP] using h
 | q :: qs, x, acc, h, hq, hp => by
   have hq0 := hq q (by simp)
   obtain ⟨h1, h2⟩ := MM h hq0 hs ((rQ qs (qW x q)).trans hp)
   obtain ⟨k1, k2, k3⟩ := DR hq0
   have hk : ((q.2.toNat : Nat) : Int) = q.2 := by omega
   obtain ⟨h3, h4⟩ := FD hs qs (qW x q) (acc ++ [q]) h2 (fun y hy => hq y (by simp [hy])) hp
   refine ⟨?_, h4⟩
   rw [List.length_cons, zP, if_neg (by simp), h1]
   unfold FC
   dsimp only
   rw [fS (by rw [hk]; simpa using hq0), hk]
   rw [h3, List.append_assoc]
   rfl
theorem wQ (r : Rec) (l : List UInt8) (ps : List (List UInt8 × Nat)) : l <+: (hY r l ps).1 := by
 unfold hY
 rw [List.append_assoc]
 exact List.prefix_append _ _
theorem CB (x : wP) (r : Rec) : x.1 <+: (eQ x r).1 := by
 refine List.IsPrefix.trans ?_ (wQ _ _ _)
 rw [List.append_assoc, List.append_assoc]
 exact (fV _ _ _).trans (List.prefix_append _ _)
theorem iK : ∀ (l : List Rec) (x : wP), x.1 <+: (l.foldl eQ x).1
 | [], _ => List.prefix_refl _
 | r :: l, x => (CB x r).trans (iK l _)
theorem HN {x : wP} (h : Good x) {r : Rec} (hr : bF r = 0) {s : List UInt8} (hs : s.length ≤ 100000000) (hp : (eQ x r).1 <+: s) :
 Good (eQ x r) ∧ ((dX s ⟨(x.1.length : Nat), 0⟩).kind : Int) = r.kind ∧ rM s (dX s ⟨(x.1.length : Nat), 0⟩) = r ∧ (lW s (dX s ⟨(x.1.length : Nat), 0⟩)).2 = ⟨((eQ x r).1.length : Nat), 0⟩ := by
 have ok := rL hr
 have b1 := ok.k0
 have b2 := ok.k1
 have b3 := ok.t0
 have b4 := ok.t1
 obtain ⟨l, ps⟩ := x
 have e0 : eQ (l, ps) r = hY r ((bC (cZ r.name) l ps).1 ++ aU r.kind.toNat ++ aU 1 ++ eX r.ttl.toNat) (bC (cZ r.name) l ps).2 := rfl
 obtain ⟨y, hyl, hyn⟩ := vY ok ((bC (cZ r.name) l ps).1 ++ aU r.kind.toNat ++ aU 1 ++ eX r.ttl.toNat) (bC (cZ r.name) l ps).2
 obtain ⟨t, e1, _, e2⟩ := HK r ((bC (cZ r.name) l ps).1 ++ aU r.kind.toNat ++ aU 1 ++ eX r.ttl.toNat) (bC (cZ r.name) l ps).2
 have htl : t.length < 65536 := by
  have := congrArg List.length (hyl.symm.trans ((congrArg Prod.fst e2).trans e1))
  simp [aU] at this
  omega
 rw [e0, e2] at hp ⊢
 rw [e1] at hp ⊢
 have p1 : (bC (cZ r.name) l ps).1 ++ aU r.kind.toNat ++ aU 1 ++ eX r.ttl.toNat ++ aU t.length <+: s := (List.prefix_append _ _).trans hp
 have p2 : (bC (cZ r.name) l ps).1 ++ aU r.kind.toNat ++ aU 1 ++ eX r.ttl.toNat <+: s := (List.prefix_append _ _).trans p1
 have p3 : (bC (cZ r.name) l ps).1 ++ aU r.kind.toNat ++ aU 1 <+: s := (List.prefix_append _ _).trans p2
 obtain ⟨h1, h2⟩ := oT h ok.nm (show r.kind.toNat < 65536 by omega) (show 1 < 65536 by omega) hs p3
 generalize (bC (cZ r.name) l ps).1 ++ aU r.kind.toNat ++ aU 1 = L at *
 have g1 := (Stands.end_ p2).long (show r.ttl.toNat < 4294967296 by omega)
 have g2 := (Stands.end_ p1).word htl
 rw [List.length_append, iZ] at g2
 obtain ⟨d1, d2⟩ := DW hr (h2.mono (show L <+: L ++ eX r.ttl.toNat ++ aU t.length by rw [List.append_assoc]; exact List.prefix_append _ _)) e1 hs hp
 have eL : (L ++ eX r.ttl.toNat ++ aU t.length).length = L.length + 4 + 2 := by rw [List.length_append, List.length_append, iZ, gQ]
 rw [eL] at d1
 have eT : kM s ⟨r.name, r.kind.toNat, 1, ⟨(L.length : Nat), 0⟩⟩ = (r.ttl.toNat, ⟨((L.length + 4 : Nat) : Int), 0⟩) := by
  unfold kM
  dsimp only
  rw [fS (by simp), g1]
 have hk : ((r.kind.toNat : Nat) : Int) = r.kind := by omega
 have ht : ((r.ttl.toNat : Nat) : Int) = r.ttl := by omega
 have eD : lW s ⟨r.name, r.kind.toNat, 1, ⟨(L.length : Nat), 0⟩⟩ = (r.data, ⟨((L ++ eX r.ttl.toNat ++ aU t.length ++ t).length : Nat), 0⟩) := by
  unfold lW
  rw [eT]
  dsimp only
  rw [g2]
  dsimp only
  rw [hk, d1]
 refine ⟨d2, ?_, ?_, ?_⟩
 ·rw [h1]
  exact hk
 ·rw [h1]
  unfold rM
  rw [eT, eD]
  dsimp only
  rw [hk, ht]
 ·rw [h1, eD]
theorem rR {s : List UInt8} (hs : s.length ≤ 100000000) (last : Bool) (n f : Nat) : ∀ (l : List Rec) (x : wP) (acc : List Rec) (i : Nat), Good x → (∀ r ∈ l, bF r = 0) → (l.foldl eQ x).1 <+: s → i + l.length ≤ 200 →
 fK s last n (l.length + f) i acc ⟨(x.1.length : Nat), 0⟩ = fK s last n f (i + l.length) (acc ++ l) ⟨((l.foldl eQ x).1.length : Nat), 0⟩ ∧ Good (l.foldl eQ x)
 | [], x, acc, i, h, _, _, _ => by simpa using h
 | r :: l, x, acc, i, h, hr, hp, hi => by
   rw [List.length_cons] at hi
   have hr0 := hr r (by simp)
   obtain ⟨h1, h2, h3, h4⟩ := HN h hr0 hs ((iK l (eQ x r)).trans hp)
   obtain ⟨h5, h6⟩ := rR hs last n f l (eQ x r) (acc ++ [r]) (i + 1) h1 (fun y hy => hr y (by simp [hy])) hp (by omega)
   have hk41 : r.kind ≠ 41 := by
    intro e
    unfold bF at hr0
    rw [if_pos (.inl e)] at hr0
    cases hr0
   refine ⟨?_, h6⟩
   rw [List.length_cons, show l.length + 1 + f = (l.length + f) + 1 by omega, fK, if_neg (by simp), if_neg (by rintro ⟨c, _⟩; rw [c] at h2; exact hk41 h2.symm), h3]
   unfold qP
   rw [h4, h3, fS (by simp [hr0]; omega), h5, List.append_assoc]
   rw [show i + 1 + l.length = i + (l.length + 1) by omega]
   rfl
def FE (a b : Nat) (r u t w v : Bool) : Bool :=
 let f := (((((flagN r 32768 ||| a * 2048) ||| flagN u 1024) ||| flagN t 512) ||| flagN w 256) ||| flagN v 128) ||| b
 decide (f < 65536) && decide (f &&& 112 = 0) && decide (f / 2048 &&& 15 = a) && decide (f &&& 15 = b) && (aY f 32768 == r) && (aY f 1024 == u) && (aY f 512 == t) && (aY f 256 == w) && (aY f 128 == v)
theorem HO : ∀ (a b : Fin 16) (r u t w v : Bool), FE a.1 b.1 r u t w v = true := by decide +kernel
theorem DX {m : MsgR} (h : MsgOk m) : flagsW m < 65536 ∧ flagsW m &&& 112 = 0 ∧ ((flagsW m / 2048 &&& 15 : Nat) : Int) = m.op ∧ ((flagsW m &&& 15 : Nat) : Int) = m.rcode ∧ aY (flagsW m) 32768 = m.resp ∧ aY (flagsW m) 1024 = m.auth ∧ aY (flagsW m) 512 = m.trunc ∧ aY (flagsW m) 256 = m.want ∧ aY (flagsW m) 128 = m.avail := by
 have h1 := h.op
 have h2 := h.rc
 have := HO ⟨m.op.toNat, by omega⟩ ⟨m.rcode.toNat, by omega⟩ m.resp m.auth m.trunc m.want m.avail
 simp only [FE, Bool.and_eq_true, decide_eq_true_eq, beq_iff_eq] at this
 obtain ⟨⟨⟨⟨⟨⟨⟨⟨a1, a2⟩, a3⟩, a4⟩, a5⟩, a6⟩, a7⟩, a8⟩, a9⟩ := this
 refine ⟨a1, a2, ?_, ?_, a5, a6, a7, a8, a9⟩
 ·refine (congrArg (fun n : Nat => (n : Int)) a3).trans ?_
  omega
 ·refine (congrArg (fun n : Nat => (n : Int)) a4).trans ?_
  omega
theorem zS (m : MsgR) : (eY m).length = 12 := rfl
theorem CC {s : List UInt8} {a b c d e f : List UInt8} (h : a ++ b ++ c ++ d ++ e ++ f <+: s) : Stands s 0 a ∧ Stands s a.length b ∧ Stands s (a ++ b).length c ∧ Stands s (a ++ b ++ c).length d ∧ Stands s (a ++ b ++ c ++ d).length e ∧ Stands s (a ++ b ++ c ++ d ++ e).length f := by
 have h5 := (List.prefix_append (a ++ b ++ c ++ d ++ e) f).trans h
 have h4 := (List.prefix_append (a ++ b ++ c ++ d) e).trans h5
 have h3 := (List.prefix_append (a ++ b ++ c) d).trans h4
 have h2 := (List.prefix_append (a ++ b) c).trans h3
 have h1 := (List.prefix_append a b).trans h2
 exact ⟨Stands.end_ (l := []) h1, .end_ h2, .end_ h3, .end_ h4, .end_ h5, .end_ h⟩
theorem wR {m : MsgR} (h : cL m = 0) (hl : (gP m).length ≤ 65535) : bO (gP m) = (m, 0) := by
 have ok := nK h
 have hs : (gP m).length ≤ 100000000 := by omega
 have i1 := ok.id
 have iz := ok.sz
 have iq := ok.ql
 have ia := ok.nl
 have iu := ok.ul
 have ix := ok.el
 have e0 : gP m = (gG m).1 ++ qN m := rfl
 have pB : (gG m).1 <+: gP m := ⟨_, rfl⟩
 have eb : gG m = m.ex.foldl eQ (m.au.foldl eQ (m.an.foldl eQ (m.qs.foldl qW (eY m, [])))) := rfl
 generalize gP m = s at *
 rw [eb] at pB
 have pU := (iK m.ex _).trans pB
 have pA := (iK m.au _).trans pU
 have pQ := (iK m.an _).trans pA
 have pH := (rQ m.qs (eY m, [])).trans pQ
 obtain ⟨f1, f2, f3, f4, f5, f6, f7, f8, f9⟩ := DX ok
 have hcx : m.ex.length + flagN (!decide (m.size = 0)) 1 ≤ 201 := by
  have := jN (!decide (m.size = 0)) 1
  omega
 obtain ⟨s1, s2, s3, s4, s5, s6⟩ := CC pH
 have n1 := s1.word (by omega)
 have n2 := s2.word f1
 have n3 := s3.word (by omega)
 have n4 := s4.word (by omega)
 have n5 := s5.word (by omega)
 have n6 := s6.word (by omega)
 have d1 : gT s = (m.id.toNat, ⟨((2 : Nat) : Int), 0⟩) := n1
 have d2 : eR s = (flagsW m, ⟨((4 : Nat) : Int), 0⟩) := by unfold eR; rw [d1]; exact n2
 have d3 : HF s = ⟨((4 : Nat) : Int), 0⟩ := by unfold HF; rw [d2]; exact fS (by dsimp only; rw [f2]; rfl)
 have d4 : jO s = (m.qs.length, ⟨((6 : Nat) : Int), 0⟩) := by unfold jO; rw [d3]; exact n3
 have d5 : nD s = (m.an.length, ⟨((8 : Nat) : Int), 0⟩) := by unfold nD; rw [d4]; exact n4
 have d6 : oS s = (m.au.length, ⟨((10 : Nat) : Int), 0⟩) := by unfold oS; rw [d5]; exact n5
 have d7 : rO s = (m.ex.length + flagN (!decide (m.size = 0)) 1, ⟨(((eY m).length : Nat) : Int), 0⟩) := by unfold rO; rw [d6]; exact n6
 have d8 : KU s = ⟨(((eY m).length : Nat) : Int), 0⟩ := by unfold KU; rw [d7, d4]; exact fS (by simp; omega)
 obtain ⟨q1, q2⟩ := FD hs m.qs (eY m, []) [] (fun p hp => by cases hp) ok.qs pQ
 have d9 : HG s = (m.qs, ⟨((m.qs.foldl qW (eY m, [])).1.length : Nat), 0⟩) := by unfold HG; rw [d8, d4]; exact q1
 have plain : ∀ (l : List Rec) (x : wP), Good x → l.length ≤ 200 → (∀ r ∈ l, bF r = 0) → (l.foldl eQ x).1 <+: s → dO s ⟨(x.1.length : Nat), 0⟩ l.length false = (l, 0, ⟨((l.foldl eQ x).1.length : Nat), 0⟩) ∧ Good (l.foldl eQ x) := by
  intro l x hx hl hr hp
  obtain ⟨r1, r2⟩ := rR hs false l.length 0 l x [] 0 hx hr hp (by omega)
  refine ⟨?_, r2⟩
  unfold dO
  rw [fS (by simp; omega)]
  exact r1
 obtain ⟨a1, a2⟩ := plain m.an _ q2 ia ok.an pA
 have d10 : MH s = (m.an, 0, ⟨((m.an.foldl eQ (m.qs.foldl qW (eY m, []))).1.length : Nat), 0⟩) := by unfold MH; rw [d9, d5]; exact a1
 obtain ⟨u1, u2⟩ := plain m.au _ a2 iu ok.au pU
 have d11 : MI s = (m.au, 0, ⟨((m.au.foldl eQ (m.an.foldl eQ (m.qs.foldl qW (eY m, [])))).1.length : Nat), 0⟩) := by unfold MI; rw [d10, d6]; exact u1
 have d12 : BZ s = (m.ex, m.size.toNat, ⟨((s.length : Nat) : Int), 0⟩) := by
  unfold BZ
  rw [d11, d7]
  dsimp only
  obtain ⟨x1, x2⟩ := rR hs true (m.ex.length + flagN (!decide (m.size = 0)) 1) (flagN (!decide (m.size = 0)) 1) m.ex _ [] 0 u2 ok.ex pB (by omega)
  unfold dO
  rw [fS (by simp; omega), x1]
  rw [← eb] at x2 ⊢
  by_cases hz : m.size = 0
  ·have : flagN (!decide (m.size = 0)) 1 = 0 := by rw [hz]; rfl
   rw [this, fK, List.nil_append, hz, e0]
   unfold qN
   rw [if_pos hz, List.append_nil]
   rfl
  ·have hf : flagN (!decide (m.size = 0)) 1 = 1 := by
    rw [decide_eq_false hz]
    rfl
   have eo : qN m = [0] ++ aU 41 ++ aU m.size.toNat ++ eX 0 ++ aU 0 := by unfold qN; rw [if_neg hz]
   rw [hf, List.nil_append, Nat.zero_add]
   have p1 : (gG m).1 ++ ([0] ++ aU 41 ++ aU m.size.toNat ++ eX 0 ++ aU 0) <+: s := by rw [e0, eo]; exact List.prefix_refl _
   simp only [← List.append_assoc] at p1
   have p2 := (List.prefix_append _ (aU 0)).trans p1
   have p3 := (List.prefix_append _ (eX 0)).trans p2
   have hb : (gG m).1 ++ [0] = (bC (cZ []) (gG m).1 (gG m).2).1 := rfl
   rw [hb] at p1 p2 p3
   obtain ⟨o1, _⟩ := oT (l := (gG m).1) (ps := (gG m).2) x2 (show (aX []).isSome = true by decide) (show 41 < 65536 by omega) (show m.size.toNat < 65536 by omega) hs p3
   have es := congrArg List.length e0
   rw [eo] at es
   simp only [← List.append_assoc] at es
   rw [hb] at es
   generalize (bC (cZ []) (gG m).1 (gG m).2).1 ++ aU 41 ++ aU m.size.toNat = L at *
   have o2 := (Stands.end_ p2).long (show 0 < 4294967296 by omega)
   have o3 := (Stands.end_ p1).word (show 0 < 65536 by omega)
   rw [List.length_append, iZ] at o3
   rw [List.length_append, List.length_append, iZ, gQ] at es
   rw [fK, if_neg (by simp), o1, if_pos ⟨rfl, rfl⟩]
   unfold zN
   dsimp only
   rw [o2]
   dsimp only
   rw [o3]
   dsimp only
   rw [fS (by simp; omega), es]
 have d13 : MJ s = ⟨((s.length : Nat) : Int), 0⟩ := by unfold MJ; rw [d12]; exact fS (by simp)
 unfold bO
 rw [d13, d12, d11, d10, d9, d2, d1]
 rw [if_pos rfl]
 dsimp only
 rw [f3, f4, f5, f6, f7, f8, f9, show ((m.id.toNat : Nat) : Int) = m.id by omega, show ((m.size.toNat : Nat) : Int) = m.size by omega]
end Go.Proofs.X
set_option linter.unusedSimpArgs false
set_option linter.unusedVariables false
namespace Go.Proofs.X
open Go.RowKit
end Go.Proofs.X
set_option linter.unusedSimpArgs false
set_option linter.unusedVariables false
namespace Go.Proofs.X
open Go.RowKit
end Go.Proofs.X
set_option linter.unusedSimpArgs false
set_option linter.unusedVariables false
namespace Go.Proofs.X
open Go.RowKit
end Go.Proofs.X
set_option linter.unusedSimpArgs false
set_option linter.unusedVariables false
namespace Go.Proofs.X
open Go.RowKit
set_option maxRecDepth 100000
structure ZonesAt (w : World) (v : Value) (zs : List (List UInt8 × List RSet)) : Prop where
 out : ∃ css, Sl 2 w v css ∧ css.length = zs.length ∧ ∀ (i : Nat) (z : List UInt8 × List RSet), zs[i]? = some z → ∃ u, css[i]? = some [aI z.1, u] ∧ SetsAt w u z.2
theorem ZonesAt.ext {w w' : World} {v : Value} {zs : List (List UInt8 × List RSet)} (h : ZonesAt w v zs) (hx : Ext w w') : ZonesAt w' v zs := by
 obtain ⟨css, h1, h2, h3⟩ := h
 exact ⟨css, h1.ext hx, h2, fun i z hi => let ⟨u, a, b⟩ := h3 i z hi; ⟨u, a, b.ext hx⟩⟩
def NK (o : List UInt8) (l : List RSet) (o' : List UInt8) (l' : List RSet) : List RSet := if LN o l o' l' = 0 then l' else l
def NL (room : Int) (o : List UInt8) (l : List RSet) (ds : List DeltaR) (o' : List UInt8) (l' : List RSet) : List DeltaR := if LN o l o' l' = 0 then JI room (ds ++ [PX o l o l']) else ds
structure JOk (o : List UInt8) (l : List RSet) (room : Int) (ds : List DeltaR) : Prop where
 zone : ZoneOk o l
 fits : 0 ≤ room ∧ room ≤ 20
 len : (ds.length : Int) ≤ room
 each : ∀ d ∈ ds, d.gone.length ≤ 4000 ∧ d.new.length ≤ 4000
theorem MN {o o' : List UInt8} {l l' : List RSet} (h : LN o l o' l' = 0) : o' = o ∧ ZoneOk o l' ∧ oO (eK o l').serial (eK o l).serial = true := by
 unfold LN at h
 split at h
 ·rename_i q; exact absurd h q
 ·rename_i q
  split at h
  ·cases h
  ·rename_i q2
   have e : o' = o := by simpa using q2
   subst e
   split at h
   ·cases h
   ·rename_i q3
    exact ⟨rfl, jW (by simpa using q), by simpa using q3⟩
theorem MO {o : List UInt8} {l l' : List RSet} (h : ZoneOk o l) (h' : ZoneOk o l') : (PX o l o l').gone.length ≤ 4000 ∧ (PX o l o l').new.length ≤ 4000 := by
 rw [(QA (OJ h h')).2.2.2]
 have a := (JH h).2.2.2
 have b := (JH h').2.2.2
 unfold yA
 exact ⟨Nat.le_trans (List.length_filter_le _ _) a, Nat.le_trans (List.length_filter_le _ _) b⟩
theorem JOk.next {o : List UInt8} {l : List RSet} {room : Int} {ds : List DeltaR} (h : JOk o l room ds) (o' : List UInt8) (l' : List RSet) : JOk o (NK o l o' l') room (NL room o l ds o' l') := by
 unfold NK NL
 split
 ·rename_i q
  obtain ⟨rfl, hz, _⟩ := MN q
  refine ⟨hz, h.fits, ?_, ?_⟩
  ·rw [JY _ _ h.fits.1]
   exact Int.min_le_right _ _
  ·intro d hd
   rcases List.mem_append.1 (List.mem_of_mem_drop hd) with hd | hd
   ·exact h.each d hd
   ·rw [List.mem_singleton.1 hd]
    exact MO h.zone hz
 ·exact h
theorem JOk.small {o : List UInt8} {l : List RSet} {room : Int} {ds : List DeltaR} (h : JOk o l room ds) : l.length ≤ 100000 ∧ (∀ s ∈ l, s.data.length ≤ 1000000) ∧ (∀ s ∈ l, ∀ d ∈ s.data, d.length ≤ 4611686018427387904) ∧ ds.length ≤ 1000 ∧ (∀ d ∈ ds, d.gone.length ≤ 100000 ∧ d.new.length ≤ 100000) := by
 obtain ⟨a, b, c, _⟩ := JH h.zone
 have hl := h.len
 have hr := h.fits
 refine ⟨by omega, fun s hs => by have := b s hs; omega, fun s hs d hd => by have := c s hs d hd; omega, by omega, fun d hd => by have := h.each d hd; omega⟩
end Go.Proofs.X
set_option linter.unusedSimpArgs false
set_option linter.unusedVariables false
namespace Go.Proofs.X
open Go.RowKit
set_option maxHeartbeats 3000000 in
theorem CD (v : Value) (l : List mJ) (w : World) (hv : Sl 2 w v (cH l)) (hl : l.length ≤ 1000000) : Calls Tryz.prog 62 #[v] w (sX w fun v' w' => Own w.heap.size 2 54 w' v' (cH l)) := by
 have hlen := cB l
 go_enter Tryz.func62, Tryz.ntmps62
 (repeat' first | ((with_reducible refine aJ ?_); go_step) | ((with_reducible refine aH ?_); first | refine aW ?_ | (refine aK ?_ ?_ <;> intro hc)) | fail)
 ·have hn := ‹AF v = true›
  go_ret
  have : cH l = [] := hv.isNil hn
  refine ⟨_, rfl, Ext.refl _, ?_⟩
  rw [this]
  exact Own.nil _ _ _ _
 ·refine nZ (t := 23) (e := 54) (k := 2) (bytes := 24) (by decide +kernel) rfl ?_
  intro v2 w2 x2 s2 o2
  refine aA ?_
  (repeat' first | ((with_reducible refine aJ ?_); go_step) | ((with_reducible refine aH ?_); first | refine aW ?_ | (refine aK ?_ ?_ <;> intro hc)) | fail)
  refine dZ (B := w.heap.size) (e := 54) rfl o2 rfl (hv.ext x2) DN x2.size (by simp; omega) ?_
  intro v3 w3 o3 m3 _
  have x3 := o2.mvx m3 x2 (Nat.le_refl _)
  refine aA ?_
  (repeat' first | ((with_reducible refine aJ ?_); go_step) | ((with_reducible refine aH ?_); first | refine aW ?_ | (refine aK ?_ ?_ <;> intro hc)) | fail)
  go_ret
  exact ⟨_, rfl, x3, by simpa using o3⟩
end Go.Proofs.X
set_option linter.unusedSimpArgs false
set_option linter.unusedVariables false
namespace Go.Proofs.X
open Go.RowKit
set_option maxRecDepth 100000
def gR (size : Int) (stream : Bool) : Int := if stream = true then 65535 else if size < 512 then 512 else min size 1232
theorem FG (m : MsgR) (q a u e : Value) (stream : Bool) (w : World) (hm : MsgV w m q a u e) : Calls Tryz.prog 20 #[.agg (aV m q a u e).toArray, .bool stream] w (bS w (.int .i64 (gR m.size stream))) := by
 unfold gR
 go_enter Tryz.func20, Tryz.ntmps20
 repeat' (first | ((with_reducible refine aJ ?_); go_step) | fail)
 refine fF (vs := aV m q a u e) rfl rfl ?_
 intro w1 x1 s1 hb1
 refine aA ?_
 have hpM := aD (cs := aV m q a u e) hb1
 unfold aV at hpM
 cases stream with
 | true =>
  (repeat' first | ((with_reducible refine aJ ?_); go_step) | ((with_reducible refine aH ?_); first | refine aW ?_ | (refine aK ?_ ?_ <;> intro hc)) | fail)
  go_ret
  exact ⟨rfl, x1⟩
 | false =>
  by_cases c : m.size < 512
  ·(repeat' first | ((with_reducible refine aJ ?_); go_step) | ((with_reducible refine aH ?_); first | refine aW ?_ | (refine aK ?_ ?_ <;> intro hc)) | fail)
   all_goals first
    | (exfalso; omega)
    | skip
   go_ret
   rw [if_neg (by decide), if_pos c]
   exact ⟨rfl, x1⟩
  ·(repeat' first | ((with_reducible refine aJ ?_); go_step) | ((with_reducible refine aH ?_); first | refine aW ?_ | (refine aK ?_ ?_ <;> intro hc)) | fail)
   all_goals first
    | (exfalso; omega)
    | skip
   go_ret
   rw [if_neg (by decide), if_neg c]
   exact ⟨rfl, x1⟩
def bareR (m : MsgR) (code : Int) : MsgR := ⟨m.id, true, m.op, false, false, m.want, false, code, m.qs, [], [], [], if m.size = 0 then 0 else 1232⟩
def bareN (m : MsgR) (code : Int) : MsgR := ⟨m.id, true, m.op, false, false, m.want, false, code, m.qs, [], [], [], 0⟩
def aP : Value := .slice none 0 0
theorem kN (m : MsgR) (q a u e : Value) (code : Int) (w : World) (hm : MsgV w m q a u e) (hl : m.qs.length ≤ 1000) : Calls Tryz.prog 29 #[.agg (aV m q a u e).toArray, .int .i64 code] w (sX w fun r w' => ∃ q', r = .agg (aV (bareR m code) q' aP aP aP).toArray ∧ Own w.heap.size 2 54 w' q' (cH m.qs)) := by
 go_enter Tryz.func29, Tryz.ntmps29
 repeat' (first | ((with_reducible refine aJ ?_); go_step) | fail)
 refine fF (vs := aV m q a u e) rfl rfl ?_
 intro w1 x1 s1 hb1
 refine aA ?_
 refine aN (z := fM) rfl (by decide +kernel) ?_
 intro w2 x2 s2 h2
 refine aA ?_
 have x02 := x1.trans x2
 have hpM := aD (cs := aV m q a u e) (x2.at hb1)
 unfold aV at hpM
 have hq2 := hm.qs.ext x02
 (repeat' first | ((with_reducible refine aJ ?_); go_step) | ((with_reducible refine aH ?_); first | refine aW ?_ | (refine aK ?_ ?_ <;> intro hc)) | fail)
 refine dU (S := fun w' => Ext w2 w') (by decide +kernel) ?_
 intro w3 x3 _
 refine pN 0 ?_; refine aA ?_; refine pN 1 ?_; refine aA ?_; refine pN 2 ?_; refine aA ?_; refine pN 3 ?_; refine aA ?_; refine pN 4 ?_; refine aA ?_; refine pN 5 ?_; refine aA ?_; refine pN 6 ?_; refine aA ?_; refine pN 7 ?_; refine aA ?_; refine pN 8 ?_; refine aA ?_
 refine EI 9 10 11 12 15 16 5 (fun b1 b2 b3 b4 => (!b2 || b1) && (!b4 || b2) && (!b4 || b3)) (fun b1 b2 b3 b4 => !b2) (fun b1 b2 b3 b4 => b1 && !b4) (fun b1 b2 b3 b4 => !b4) (fun b1 b2 b3 b4 => b2 && b3) (fun b1 b2 b3 b4 v1 v2 v3 w' => ∃ zk, Ext w2 w' ∧ (b1 = true → Own w2.heap.size 2 54 w' v1 (cH m.qs)) ∧ (b2 = true → v2 = .agg (aV (bareN m code) v1 aP aP aP).toArray) ∧ (b3 = true → v3 = .pointer (some ⟨zk, 0, none⟩) ∧ w2.heap.size ≤ zk ∧ w'.heap[zk]? = some (.cells (bif b4 then aV (bareN m code) v1 aP aP aP else fM).toArray 26 (0, 0)))) ?_ ?_ ?_ ?_ ?_ ?_
 ·exact ⟨0, x3, by simp, by simp, by simp⟩
 ·rintro b1 b2 b3 b4 v1 v2 v3 w4 hq ⟨zk, x4, f1, f2, f3⟩
  have hb2 : b2 = false := by revert hq; cases b2 <;> simp
  have hb4 : b4 = false := by revert hq; subst hb2; cases b4 <;> simp
  subst hb2 hb4
  refine aA ?_
  refine aT (enters_of Tryz.func62 rfl rfl) rfl rfl (CD q m.qs _ (hq2.ext x4) (by omega)) ?_
  intro v5 w5 x5 o5
  refine aA ?_
  refine aL ⟨x4.trans x5, _, rfl, zk, x4.trans x5, fun _ => o5.weaken x4.size, by simp, fun e => ?_⟩
  obtain ⟨g1, g2, g3⟩ := f3 e
  exact ⟨g1, g2, x5.at g3⟩
 ·rintro b1 b2 b3 b4 v1 v2 v3 w4 hq ⟨zk, x4, f1, f2, f3⟩
  have hb1 : b1 = true := by revert hq; cases b1 <;> simp
  have hb4 : b4 = false := by revert hq; cases b4 <;> simp
  subst hb1 hb4
  refine aA ?_
  have q1 := (f1 rfl).sl.slf
  refine cT (v := .agg (aV (bareN m code) v1 aP aP aP).toArray) rfl (Runs.build (vals := [(0, .int .i64 m.id), (2, .int .i64 m.op), (5, .bool m.want), (1, .bool true), (7, .int .i64 code), (8, v1)]) rfl (by obtain ⟨_, _, _, rfl⟩ := q1; kernel_rfl)) ?_
  refine aA ?_
  refine aL ⟨x4, _, rfl, zk, x4, fun _ => f1 rfl, fun _ => rfl, f3⟩
 ·rintro b1 b2 b3 b4 v1 v2 v3 w4 hq ⟨zk, x4, f1, f2, f3⟩
  have hb4 : b4 = false := by revert hq; cases b4 <;> simp
  subst hb4
  refine aA ?_
  refine aN (z := fM) rfl (by decide +kernel) ?_
  intro w5 x5 s5 h5
  refine aA ?_
  refine aL ⟨x4.trans x5, _, rfl, _, x4.trans x5, fun e => (f1 e).ext x5, f2, fun _ => ⟨rfl, x4.size, h5⟩⟩
 ·rintro b1 b2 b3 b4 v1 v2 v3 w4 hq ⟨zk, x4, f1, f2, f3⟩
  have hb2 : b2 = true := by revert hq; cases b2 <;> simp
  have hb3 : b3 = true := by revert hq; cases b3 <;> simp
  have hb1 : b1 = true := by revert hq; subst hb2; cases b1 <;> simp
  subst hb1 hb2 hb3
  have g2 := f2 rfl
  subst g2
  obtain ⟨rfl, g5, g6⟩ := f3 rfl
  have q1 := (f1 rfl).sl.one
  have n1 := (f1 rfl).neBlock g6 (by decide)
  refine aA ?_
  have hmb : MsgV w4 (bareN m code) v1 aP aP aP := ⟨(f1 rfl).sl, Sl.nil _ _, Sl.nil _ _, Sl.nil _ _⟩
  refine aG (v := .agg (aV (bareN m code) v1 aP aP aP).toArray) rfl rfl rfl g6 (show aZ Tryz.prog 26 13 = true by decide +kernel) rfl (cM hmb) ?_
  intro w5 p5
  have x5 : Ext w2 w5 := x4.move p5.mv (by rintro k ⟨⟩; exact g5)
  refine aL ⟨x5, rfl, zk, x5, fun _ => (f1 rfl).mv p5.mv (.inr n1), by simp, fun _ => ⟨rfl, g5, p5.this⟩⟩
 ·rintro v1 v2 v3 w9 ⟨zk, x9, f1, f2, f3⟩
  have o1 := f1 rfl
  have k2 := f2 rfl
  obtain ⟨k3, k4, k5⟩ := f3 rfl
  clear f1 f2 f3
  subst k2 k3
  refine aA ?_
  refine dR (by decide +kernel) ?_
  have k5' : w9.heap[zk]? = some (.cells (aV (bareN m code) v1 aP aP aP).toArray 26 (0, 0)) := k5
  have hpz := aD (cs := aV (bareN m code) v1 aP aP aP) k5'
  have hpM9 := hpM.ext x9
  unfold aV bareN at hpz
  have h9 := x9.at h2
  clear hpM
  have x09 := x02.trans x9
  have hmb : MsgV w9 (bareR m code) v1 aP aP aP := ⟨o1.sl, Sl.nil _ _, Sl.nil _ _, Sl.nil _ _⟩
  have hlt1 : w1.heap.size < w2.heap.size := by omega
  by_cases cz : m.size = 0
  ·have hbr : bareR m code = bareN m code := by unfold bareR bareN; rw [if_pos cz]
   (repeat' first | ((with_reducible refine aJ ?_); go_step) | ((with_reducible refine aH ?_); first | refine aW ?_ | (refine aK ?_ ?_ <;> intro hc)) | fail)
   all_goals first
    | (exfalso; simp_all; done)
    | skip
   refine aG (v := .agg (aV (bareR m code) v1 aP aP aP).toArray) rfl rfl (by rw [hbr]; rfl) h9 (show aZ Tryz.prog 26 13 = true by decide +kernel) rfl (cM hmb) ?_
   intro w10 p10
   have x10 : Ext w w10 := x09.move p10.mv (by rintro k ⟨⟩; exact x1.size)
   (repeat' first | ((with_reducible refine aJ ?_); go_step) | ((with_reducible refine aH ?_); first | refine aW ?_ | (refine aK ?_ ?_ <;> intro hc)) | fail)
   refine bodyPost_ret (cG (cs := aV (bareR m code) v1 aP aP aP) rfl rfl p10.this (show dY Tryz.prog 26 13 = true by decide +kernel)) rfl ⟨_, rfl, x10, v1, rfl, ?_⟩
   exact (o1.mv p10.mv (.inr (o1.neBlock h9 (by decide)))).weaken x02.size
  ·have hbr : bareR m code = { bareN m code with size := 1232 } := by unfold bareR bareN; rw [if_neg cz]
   (repeat' first | ((with_reducible refine aJ ?_); go_step) | ((with_reducible refine aH ?_); first | refine aW ?_ | (refine aK ?_ ?_ <;> intro hc)) | fail)
   all_goals first
    | (exfalso; simp_all; done)
    | skip
   refine aO (n := 12) (v := .int .i64 1232) k5' rfl rfl rfl (by simp [aV]) (by decide +kernel) rfl ?_
   intro w10 p10
   have hz10 : w10.heap[zk]? = some (.cells (aV (bareR m code) v1 aP aP aP).toArray 26 (0, 0)) := by rw [hbr]; exact p10.this
   have x10 : Ext w2 w10 := x9.move p10.mv (by rintro k ⟨⟩; exact k4)
   have h10 := x10.at h2
   have o10 := o1.mv p10.mv (.inr (o1.neBlock k5' (by decide)))
   have hmb : MsgV w10 (bareR m code) v1 aP aP aP := ⟨o10.sl, Sl.nil _ _, Sl.nil _ _, Sl.nil _ _⟩
   have hpz := aD (cs := aV (bareR m code) v1 aP aP aP) hz10
   rw [hbr] at hpz
   unfold aV bareN at hpz
   (repeat' first | ((with_reducible refine aJ ?_); go_step) | ((with_reducible refine aH ?_); first | refine aW ?_ | (refine aK ?_ ?_ <;> intro hc)) | fail)
   refine aG (v := .agg (aV (bareR m code) v1 aP aP aP).toArray) rfl rfl (by rw [hbr]; rfl) h10 (show aZ Tryz.prog 26 13 = true by decide +kernel) rfl (cM hmb) ?_
   intro w11 p11
   have x11 : Ext w w11 := (x02.trans x10).move p11.mv (by rintro k ⟨⟩; exact x1.size)
   (repeat' first | ((with_reducible refine aJ ?_); go_step) | ((with_reducible refine aH ?_); first | refine aW ?_ | (refine aK ?_ ?_ <;> intro hc)) | fail)
   refine bodyPost_ret (cG (cs := aV (bareR m code) v1 aP aP aP) rfl rfl p11.this (show dY Tryz.prog 26 13 = true by decide +kernel)) rfl ⟨_, rfl, x11, v1, rfl, ?_⟩
   exact (o10.mv p11.mv (.inr (o10.neBlock h10 (by decide)))).weaken x02.size
end Go.Proofs.X
