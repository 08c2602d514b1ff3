/- Laws and walks that the proof of the statement is made of (part 20). -/
import Derived.Test.YtgljkfpcadempaaGreatP19
set_option linter.unusedSimpArgs false
set_option linter.unusedVariables false
namespace Go.Proofs.X
open Go.RowKit
set_option maxRecDepth 100000
theorem MQ {s : List UInt8} {last : Bool} {n f i : Nat} {l : List Rec} {r : RdS} (h : (fK s last n f i l r).2.2.e = 0) : r.e = 0 := by
 cases f with
 | zero => exact h
 | succ f =>
  unfold fK at h
  split at h
  ·exact h
  ·rename_i c
   simpa using c
theorem yM {s : List UInt8} {last : Bool} {n : Nat} : ∀ (f i : Nat) (l : List Rec) (r : RdS), (fK s last n f i l r).2.2.e = 0 → l.length = i → i ≤ 200 → (∀ x ∈ l, bF x = 0) →
 (fK s last n f i l r).1.length ≤ 200 ∧ (∀ x ∈ (fK s last n f i l r).1, bF x = 0) ∧ ((fK s last n f i l r).2.1 = 0 ∨ (512 ≤ (fK s last n f i l r).2.1 ∧ (fK s last n f i l r).2.1 ≤ 65535))
 | 0, i, l, r, _, hl, hi, hx => ⟨by show l.length ≤ 200; omega, hx, .inl rfl⟩
 | f + 1, i, l, r, h, hl, hi, hx => by
   unfold fK at h ⊢
   split
   ·exact ⟨by dsimp only; omega, hx, .inl rfl⟩
   ·rename_i c
    rw [if_neg c] at h
    split
    ·rename_i c2
     rw [if_pos c2] at h
     refine ⟨by dsimp only; omega, hx, .inr ?_⟩
     have h2 := (gO (by decide) h).2
     simp only [Bool.and_eq_true, decide_eq_true_eq] at h2
     have h3 := cN s (((eS s r).2.number s 2).2) 2 (by omega)
     have h4 : (dX s r).cls < 65536 := h3
     dsimp only
     omega
    ·rename_i c2
     rw [if_neg c2] at h
     have h2 := (gO (by decide) (MQ h)).2
     simp only [Bool.and_eq_true, decide_eq_true_eq] at h2
     exact yM f (i + 1) _ _ h (by simp [hl]) (by omega) (fun x hm => by
      rw [List.mem_append, List.mem_singleton] at hm
      rcases hm with hm | rfl
      ·exact hx x hm
      ·exact h2.2)
theorem lY {s : List UInt8} {r : RdS} {n : Nat} {last : Bool} (h : (dO s r n last).2.2.e = 0) :
 (dO s r n last).1.length ≤ 200 ∧ (∀ x ∈ (dO s r n last).1, bF x = 0) ∧ ((dO s r n last).2.1 = 0 ∨ (512 ≤ (dO s r n last).2.1 ∧ (dO s r n last).2.1 ≤ 65535)) :=
 yM _ _ _ _ h rfl (by omega) (fun _ hx => by cases hx)
theorem FJ {s : List UInt8} : ∀ (f : Nat) (l : List mJ) (r : RdS), (zP s f l r).2.e = 0 → (∀ q ∈ l, qU q = true) → ∀ q ∈ (zP s f l r).1, qU q = true
 | 0, _, _, _, hl => hl
 | f + 1, l, r, h, hl => by
   unfold zP at h ⊢
   split
   ·exact hl
   ·rename_i c
    rw [if_neg c] at h
    have h2 := (gO (by decide) (KP _ _ _ h)).2
    simp only [Bool.and_eq_true] at h2
    exact FJ f _ _ h (fun q hq => by
     rw [List.mem_append, List.mem_singleton] at hq
     rcases hq with hq | rfl
     ·exact hl q hq
     ·exact h2.2)
theorem wE (s : List UInt8) (r : RdS) : (r.number s 2).1 < 65536 := cN s r 2 (by omega)
theorem rS {l : List Rec} (h1 : l.length ≤ 200) (h2 : ∀ r ∈ l, bF r = 0) : fX l = true := by
 simp only [fX, Bool.and_eq_true, decide_eq_true_eq, Bool.not_eq_true', List.any_eq_false]
 exact ⟨h1, fun r hr => by simp [h2 r hr]⟩
theorem yN {m : MsgR} (h : MsgOk m) : cL m = 0 := by
 unfold cL
 rw [if_pos]
 simp only [Bool.and_eq_true, fY, decide_eq_true_eq, Bool.or_eq_true, List.all_eq_true]
 exact ⟨⟨⟨⟨⟨h.id, h.op⟩, h.rc⟩, h.sz⟩, h.ql, h.qs⟩, ⟨rS h.nl h.an, rS h.ul h.au⟩, rS h.el h.ex⟩
theorem rT {s : List UInt8} (h : (bO s).2 = 0) : MsgOk (bO s).1 ∧ (bO s).1.id = ((gT s).1 : Nat) ∧ (bO s).1.resp = aY (eR s).1 32768 ∧ 12 ≤ s.length := by
 have he : (MJ s).e = 0 := by
  unfold bO at h
  split at h
  ·assumption
  ·exact h
 unfold bO
 rw [if_pos he]
 have h1 := (gO (by decide) he).1
 have h2 := iA h1
 have h3 := iA h2
 have h4 := iA h3
 have h5 := KP _ _ _ h4
 have h6 := (gO (by decide) h5).1
 have hq := FJ _ _ _ h4 (fun _ hx => by cases hx)
 have hq10 := CG he
 have hqm := CF (s := s) (jO s).1 [] (KU s)
 rw [List.length_nil, Nat.zero_add] at hqm
 obtain ⟨x1, x2, x3⟩ := lY h1
 obtain ⟨u1, u2, _⟩ := lY h2
 obtain ⟨a1, a2, _⟩ := lY h3
 have hid := wE s FB
 have e4 := iJ h6
 have e3 := iJ e4.1
 have e2 := iJ e3.1
 have e1 := iJ e2.1
 have ew := gO (by decide) e1.1
 have ef := iJ ew.1
 have ei := iJ ef.1
 have w1 : (HF s).at_ = 4 := by
  show ((eR s).2.want _ 2).at_ = 4
  rw [EU]
  show ((gT s).2.number s 2).2.at_ = 4
  rw [ef.2.2]
  show ((FB.number s 2).2.at_ + 2 : Int) = 4
  rw [ei.2.2]
  rfl
 have w2 : (jO s).2.at_ = 6 := by
  show ((HF s).number s 2).2.at_ = 6
  rw [e1.2.2]
  show ((HF s).at_ + 2 : Int) = 6
  omega
 have w3 : (nD s).2.at_ = 8 := by
  show ((jO s).2.number s 2).2.at_ = 8
  rw [e2.2.2]
  show ((jO s).2.at_ + 2 : Int) = 8
  omega
 have w4 : (oS s).2.at_ = 10 := by
  show ((nD s).2.number s 2).2.at_ = 10
  rw [e3.2.2]
  show ((nD s).2.at_ + 2 : Int) = 10
  omega
 refine ⟨⟨⟨?_, ?_⟩, ⟨?_, ?_⟩, ⟨?_, ?_⟩, ?_, ?_, hq, a1, a2, u1, u2, x1, x2⟩, rfl, rfl, ?_⟩
 ·exact Int.natCast_nonneg _
 ·have : (gT s).1 < 65536 := hid
  show (((gT s).1 : Nat) : Int) ≤ 65535
  omega
 ·exact Int.natCast_nonneg _
 ·have := Nat.and_le_right (n := (eR s).1 / 2048) (m := 15)
  show (((eR s).1 / 2048 &&& 15 : Nat) : Int) ≤ 15
  omega
 ·exact Int.natCast_nonneg _
 ·have := Nat.and_le_right (n := (eR s).1) (m := 15)
  show (((eR s).1 &&& 15 : Nat) : Int) ≤ 15
  omega
 ·show (((BZ s).2.1 : Nat) : Int) = 0 ∨ (512 ≤ (((BZ s).2.1 : Nat) : Int) ∧ (((BZ s).2.1 : Nat) : Int) ≤ 65535)
  have x3' : (BZ s).2.1 = 0 ∨ (512 ≤ (BZ s).2.1 ∧ (BZ s).2.1 ≤ 65535) := x3
  omega
 ·show (HG s).1.length ≤ 10
  have : (HG s).1.length ≤ (jO s).1 := hqm
  omega
 ·have := e4.2.1
  rw [w4] at this
  omega
theorem lC {m : MsgR} (h : (bI m).2 = 0) : cL m = 0 ∧ bI m = (gP m, 0) ∧ (gP m).length ≤ 65535 ∧ bO (bI m).1 = (m, 0) := by
 unfold bI at h ⊢
 split at h
 ·rename_i c
  exact absurd h c
 ·rename_i c
  rw [if_neg c]
  split at h
  ·cases h
  ·rename_i c2
   rw [if_neg c2]
   have c3 : cL m = 0 := Decidable.not_not.1 c
   exact ⟨c3, rfl, by omega, wR c3 (by omega)⟩
theorem KR : ∀ (qs : List mJ) (x : wP), (∀ q ∈ qs, qU q = true) → (qs.foldl qW x).1.length ≤ x.1.length + 260 * qs.length
 | [], x, _ => Nat.le_refl _
 | q :: qs, x, h => by
   have h1 := KR qs (qW x q) (fun y hy => h y (by simp [hy]))
   have h2 := KD (h q (by simp)) x
   simp only [List.foldl_cons, List.length_cons]
   omega
theorem qT {m : MsgR} (h : MsgOk m) (h1 : m.an = []) (h2 : m.au = []) (h3 : m.ex = []) : (bI m).2 = 0 := by
 have hc := yN h
 have hl : (gP m).length ≤ 65535 := by
  unfold gP gG
  rw [h1, h2, h3]
  simp only [List.foldl_nil, List.length_append]
  have := KR m.qs (eY m, []) h.qs
  rw [zS] at this
  have h4 := h.ql
  have h5 : (qN m).length ≤ 11 := by
   unfold qN
   split
   ·exact Nat.zero_le _
   ·simp [aU, eX]
  omega
 unfold bI
 rw [if_neg (by simpa using hc), if_neg (by omega)]
theorem MR {m : MsgR} (h : MsgOk m) {c : Int} (h0 : 0 ≤ c) (h1 : c ≤ 15) : MsgOk (bareR m c) :=
 ⟨h.id, h.op, ⟨h0, h1⟩, by show (if m.size = 0 then (0 : Int) else 1232) = 0 ∨ _; split; exact .inl rfl; rename_i c; refine .inr ?_; show 512 ≤ (if m.size = 0 then (0 : Int) else 1232) ∧ (if m.size = 0 then (0 : Int) else 1232) ≤ 65535; rw [if_neg c]; omega, h.ql, h.qs, by show 0 ≤ 200; omega, (fun _ hx => by cases hx), by show 0 ≤ 200; omega, (fun _ hx => by cases hx), by show 0 ≤ 200; omega, (fun _ hx => by cases hx)⟩
theorem DY {m : MsgR} {limit : Int} : ∀ n, (jP m limit n).2.2 = 0 → ∃ x, jP m limit n = (x, (bI x).1, 0) ∧ gV limit x = true ∧ x.id = m.id ∧ x.resp = m.resp ∧ x.rcode = m.rcode := by
 have hend : (kO m limit).2.2 = 0 → ∃ x, kO m limit = (x, (bI x).1, 0) ∧ gV limit x = true ∧ x.id = m.id ∧ x.resp = m.resp ∧ x.rcode = m.rcode := by
  intro h
  unfold kO at h ⊢
  split at h
  ·rename_i c
   rw [if_pos c]
   exact ⟨_, rfl, c, rfl, rfl, rfl⟩
  ·cases h
 intro n
 induction n with
 | zero =>
  intro h
  unfold jP at h ⊢
  split at h
  ·rename_i c
   rw [if_pos c]
   exact ⟨_, rfl, c, rfl, rfl, rfl⟩
  ·rename_i c
   rw [if_neg c]
   exact hend h
 | succ n ih =>
  intro h
  unfold jP at h ⊢
  split at h
  ·rename_i c
   rw [if_pos c]
   exact ⟨_, rfl, c, rfl, rfl, rfl⟩
  ·rename_i c
   rw [if_neg c]
   exact ih h
theorem HU {m : MsgR} {limit : Int} (h : (oU m limit).2.2 = 0) : ∃ x, oU m limit = (x, (bI x).1, 0) ∧ gV limit x = true ∧ x.id = m.id ∧ x.resp = m.resp ∧ x.rcode = m.rcode := by
 unfold oU at h ⊢
 split at h
 ·cases h
 ·rename_i c
  rw [if_neg c]
  exact DY _ h
theorem DZ {m : MsgR} (h : (bI m).2 = 0) : oU m 65535 = (m, (bI m).1, 0) := by
 obtain ⟨h1, h2, h3, _⟩ := lC h
 have hw : eN m m.ex.length = m := by unfold eN; rw [List.take_length]
 have hf : gV 65535 m = true := by
  unfold gV
  rw [h2]
  simp
  omega
 unfold oU
 rw [if_neg (by rw [h1]; omega)]
 cases hn : m.ex.length with
 | zero =>
  rw [hn] at hw
  unfold jP
  rw [hw, if_pos hf]
 | succ n =>
  rw [hn] at hw
  unfold jP
  rw [hw, if_pos hf]
theorem sV (hs : List HldR) (s : List UInt8) (stream : Bool) (h : (dE hs s stream).2 = true) :
 12 ≤ s.length ∧ aY (eR s).1 32768 = false ∧ (dE hs s stream).1.length ≤ 65535 ∧
 ∃ m : MsgR, bO (dE hs s stream).1 = (m, 0) ∧ m.id = ((gT s).1 : Nat) ∧ m.resp = true ∧ (if (bO s).2 ≠ 0 then m.rcode = 1 else ((dE hs s stream).1.length : Int) ≤ gR (bO s).1.size stream ∨ m.rcode = 2) := by
 unfold dE at h
 split at h
 ·cases h
 ·rename_i c1
  have c1a : 12 ≤ s.length := Nat.le_of_not_lt fun h => c1 (.inl h)
  have c1b : aY (eR s).1 32768 = false := by
   cases hb : aY (eR s).1 32768 with
   | false => rfl
   | true => exact absurd (.inr hb) c1
  refine ⟨c1a, c1b, ?_⟩
  unfold dE
  rw [if_neg c1]
  have hid := wE s FB
  by_cases c2 : (bO s).2 ≠ 0
  ·rw [if_pos c2]
   have hok : MsgOk (KO ((gT s).1 : Nat) (((eR s).1 / 2048 &&& 15 : Nat) : Int)) := by
    have hop := Nat.and_le_right (n := (eR s).1 / 2048) (m := 15)
    have hi : (gT s).1 < 65536 := hid
    refine ⟨?_, ?_, ⟨by show (0 : Int) ≤ 1; omega, by show (1 : Int) ≤ 15; omega⟩, .inl rfl, by show 0 ≤ 10; omega, (fun _ hx => by cases hx), by show 0 ≤ 200; omega, (fun _ hx => by cases hx), by show 0 ≤ 200; omega, (fun _ hx => by cases hx), by show 0 ≤ 200; omega, (fun _ hx => by cases hx)⟩
    ·show 0 ≤ (((gT s).1 : Nat) : Int) ∧ (((gT s).1 : Nat) : Int) ≤ 65535
     omega
    ·show 0 ≤ (((eR s).1 / 2048 &&& 15 : Nat) : Int) ∧ (((eR s).1 / 2048 &&& 15 : Nat) : Int) ≤ 15
     omega
   obtain ⟨h1, h2, h3, h4⟩ := lC (qT hok rfl rfl rfl)
   refine ⟨?_, _, h4, rfl, rfl, by rw [if_pos c2]; rfl⟩
   show (bI (KO ((gT s).1 : Nat) (((eR s).1 / 2048 &&& 15 : Nat) : Int))).1.length ≤ 65535
   rw [h2]
   exact h3
  ·rw [if_neg c2]
   obtain ⟨d1, d2, d3, _⟩ := rT (Decidable.not_not.1 c2)
   obtain ⟨r1, r2, r3, r4, r5, r6, r7, r8⟩ := HT hs _ (yN d1)
   split
   ·obtain ⟨h1, h2, h3, h4⟩ := lC (qT (MR d1 (show (0 : Int) ≤ 2 by omega) (show (2 : Int) ≤ 15 by omega)) rfl rfl rfl)
    refine ⟨?_, _, h4, d2, rfl, .inr rfl⟩
    show (bI (bareR (bO s).1 2)).1.length ≤ 65535
    rw [h2]
    exact h3
   ·rename_i c3
    obtain ⟨x, x1, x2, x3, x4, _⟩ := HU (Decidable.not_not.1 c3)
    rw [x1]
    simp only [gV, Bool.and_eq_true, decide_eq_true_eq] at x2
    obtain ⟨h1, h2, h3, h4⟩ := lC x2.1
    refine ⟨?_, x, h4, x3.trans (r2.trans d2), x4.trans r5, .inl x2.2⟩
    show (bI x).1.length ≤ 65535
    rw [h2]
    exact h3
theorem KS (hs : List HldR) (s : List UInt8) (stream : Bool) (h : (dE hs s stream).2 = false) : (s.length < 12 ∨ aY (eR s).1 32768 = true) ∧ (dE hs s stream).1 = [] := by
 unfold dE at h ⊢
 split at h
 ·rename_i c
  rw [if_pos c]
  exact ⟨c, rfl⟩
 ·split at h
  ·cases h
  ·split at h <;> cases h
theorem zV (hs : List HldR) (s : List UInt8) (h : (bO s).2 = 0) (hq : (bO s).1.resp = false) :
 (dE hs s true).2 = true ∧ ((bI (bV hs (bO s).1)).2 = 0 → (dE hs s true).1 = (bI (bV hs (bO s).1)).1 ∧ bO (dE hs s true).1 = (bV hs (bO s).1, 0)) := by
 obtain ⟨d1, d2, d3, d4⟩ := rT h
 rw [hq] at d3
 have c1 : ¬ (s.length < 12 ∨ aY (eR s).1 32768 = true) := by
  rw [← d3]
  rintro (c | c)
  ·omega
  ·cases c
 unfold dE
 rw [if_neg c1, if_neg (by simpa using h)]
 have hl : gR (bO s).1.size true = 65535 := rfl
 rw [hl]
 refine ⟨by split <;> rfl, fun he => ?_⟩
 obtain ⟨h1, h2, h3, h4⟩ := lC he
 rw [DZ he, if_neg (by simp)]
 exact ⟨rfl, h4⟩
set_option maxHeartbeats 4000000 in
theorem PE (v : Value) (hs : List HldR) (s : List UInt8) (w : World) (hv : HldsAt w v hs) (_ : s.length ≤ 9223372036854775807) : Calls Tryz.prog 5 #[v, aI s] w (bS w (.bool true)) := by
 go_enter Tryz.func5, Tryz.ntmps5
 (repeat' first | ((with_reducible refine aJ ?_); go_step) | ((with_reducible refine aH ?_); first | refine aW ?_ | (refine aK ?_ ?_ <;> intro hc)) | fail)
 refine aE (enters_of Tryz.func9 rfl rfl) rfl rfl (FI v hs _ hv) ?_; intro w2 x2; refine aA ?_
 cases hF : wS hs with
 | false =>
  (repeat' first | ((with_reducible refine aJ ?_); go_step) | ((with_reducible refine aH ?_); first | refine aW ?_ | (refine aK ?_ ?_ <;> intro hc)) | fail)
  refine aE (enters_of Tryz.func11 rfl rfl) rfl rfl (fW _) ?_; intro w3 x3; refine aA ?_
  (repeat' first | ((with_reducible refine aJ ?_); go_step) | ((with_reducible refine aH ?_); first | refine aW ?_ | (refine aK ?_ ?_ <;> intro hc)) | fail)
  go_ret
  exact ⟨rfl, x2.trans x3⟩
 | true =>
  obtain ⟨hl4, hbH⟩ := KQ hF
  by_cases hsl : 2000 < s.length
  ·(repeat' first | ((with_reducible refine aJ ?_); go_step) | ((with_reducible refine aH ?_); first | refine aW ?_ | (refine aK ?_ ?_ <;> intro hc)) | fail)
   all_goals first
    | (have hh : False := by have h9 := ‹¬ (2000 : Int) < (s.length : Int)›; omega
       exact hh.elim)
    | skip
   refine aE (enters_of Tryz.func11 rfl rfl) rfl rfl (fW _) ?_; intro w3 x3; refine aA ?_
   (repeat' first | ((with_reducible refine aJ ?_); go_step) | ((with_reducible refine aH ?_); first | refine aW ?_ | (refine aK ?_ ?_ <;> intro hc)) | fail)
   go_ret
   exact ⟨rfl, x2.trans x3⟩
  ·have hsl : s.length ≤ 2000 := by omega
   (repeat' first | ((with_reducible refine aJ ?_); go_step) | ((with_reducible refine aH ?_); first | refine aW ?_ | (refine aK ?_ ?_ <;> intro hc)) | fail)
   all_goals first
    | (have hh : False := by have h9 := ‹(2000 : Int) < (s.length : Int)›; omega
       exact hh.elim)
    | skip
   refine aT (enters_of Tryz.func14 rfl rfl) rfl rfl (wD v hs _ (hv.ext x2) (by omega)) ?_
   intro v3 w3 x3 h3
   refine aA ?_
   (repeat' first | ((with_reducible refine aJ ?_); go_step) | ((with_reducible refine aH ?_); first | refine aW ?_ | (refine aK ?_ ?_ <;> intro hc)) | fail)
   refine aE (enters_of Tryz.func16 rfl rfl) rfl rfl (tL v3 hs s false _ h3 (by omega) hbH (by omega)) ?_; intro w4 x4; refine aA ?_
   have x04 := x2.trans (x3.trans x4)
   have hR := sV hs s false
   have hN := KS hs s false
   have hch := fun w' => KH (w := w') s (by omega)
   unfold tK at hch
   generalize dE hs s false = T at *
   obtain ⟨t, is⟩ := T
   dsimp only at hR hN
   cases is with
   | false =>
    obtain ⟨n1, rfl⟩ := hN rfl
    clear hR hN
    have hE : ∃ i op b e, (e = 0 → b = true) ∧ ∀ w', Calls Tryz.prog 18 #[aI s] w' (bS w' (.tuple #[.int .i64 i, .int .i64 op, .bool b, .int .i64 e])) := by
     by_cases cl : s.length < 12
     ·simp only [if_pos cl] at hch
      exact ⟨0, 0, false, 3, (by simp), hch⟩
     ·simp only [if_neg cl] at hch
      exact ⟨_, _, _, _, fun _ => n1.resolve_left cl, hch⟩
    obtain ⟨i, op, b, e, he, hc5⟩ := hE
    clear hch
    (repeat' first | ((with_reducible refine aJ ?_); go_step) | ((with_reducible refine aH ?_); first | refine aW ?_ | (refine aK ?_ ?_ <;> intro hc)) | fail)
    refine aE (enters_of Tryz.func18 rfl rfl) rfl rfl (hc5 _) ?_; intro w5 x5; refine aA ?_
    have x05 := x04.trans x5
    by_cases ce : e = 0
    ·obtain rfl := he ce
     subst ce
     (repeat' first | ((with_reducible refine aJ ?_); go_step) | ((with_reducible refine aH ?_); first | refine aW ?_ | (refine aK ?_ ?_ <;> intro hc)) | fail)
     refine aM (Runs.neqB2 (a := false) (b := false) rfl rfl (by decide +kernel)) ?_
     refine aA ?_
     (repeat' first | ((with_reducible refine aJ ?_); go_step) | ((with_reducible refine aH ?_); first | refine aW ?_ | (refine aK ?_ ?_ <;> intro hc)) | fail)
     refine aE (enters_of Tryz.func11 rfl rfl) rfl rfl (fW _) ?_; intro w6 x6; refine aA ?_
     (repeat' first | ((with_reducible refine aJ ?_); go_step) | ((with_reducible refine aH ?_); first | refine aW ?_ | (refine aK ?_ ?_ <;> intro hc)) | fail)
     go_ret
     exact ⟨rfl, x05.trans x6⟩
    ·(repeat' first | ((with_reducible refine aJ ?_); go_step) | ((with_reducible refine aH ?_); first | refine aW ?_ | (refine aK ?_ ?_ <;> intro hc)) | fail)
     all_goals first
      | (exact absurd (by assumption) ce)
      | skip
     refine aM (Runs.neqB2 (a := false) (b := false) rfl rfl (by decide +kernel)) ?_
     refine aA ?_
     (repeat' first | ((with_reducible refine aJ ?_); go_step) | ((with_reducible refine aH ?_); first | refine aW ?_ | (refine aK ?_ ?_ <;> intro hc)) | fail)
     refine aE (enters_of Tryz.func11 rfl rfl) rfl rfl (fW _) ?_; intro w6 x6; refine aA ?_
     (repeat' first | ((with_reducible refine aJ ?_); go_step) | ((with_reducible refine aH ?_); first | refine aW ?_ | (refine aK ?_ ?_ <;> intro hc)) | fail)
     go_ret
     exact ⟨rfl, x05.trans x6⟩
   | true =>
    obtain ⟨n1, n2, n3, m, m1, m2, m3, m4⟩ := hR rfl
    clear hR hN
    simp only [if_neg (show ¬ s.length < 12 by omega)] at hch
    rw [n2] at hch
    have hc5 : ∀ w', Calls Tryz.prog 18 #[aI s] w' (bS w' (.tuple #[.int .i64 ((gT s).1 : Nat), .int .i64 (((eR s).1 / 2048 &&& 15 : Nat) : Int), .bool false, .int .i64 0])) := hch
    clear hch
    (repeat' first | ((with_reducible refine aJ ?_); go_step) | ((with_reducible refine aH ?_); first | refine aW ?_ | (refine aK ?_ ?_ <;> intro hc)) | fail)
    refine aE (enters_of Tryz.func18 rfl rfl) rfl rfl (hc5 _) ?_; intro w5 x5; refine aA ?_
    (repeat' first | ((with_reducible refine aJ ?_); go_step) | ((with_reducible refine aH ?_); first | refine aW ?_ | (refine aK ?_ ?_ <;> intro hc)) | fail)
    refine aM (Runs.neqB2 (a := true) (b := true) rfl rfl (by decide +kernel)) ?_
    refine aA ?_
    (repeat' first | ((with_reducible refine aJ ?_); go_step) | ((with_reducible refine aH ?_); first | refine aW ?_ | (refine aK ?_ ?_ <;> intro hc)) | fail)
    refine aF (vs := [aI t]) (enters_of Tryz.func19 rfl rfl) rfl rfl (lA t (by omega)) ?_
    rintro _ w6 ⟨a1, a2, a3, a4, rfl, hmd6, x6⟩
    refine ⟨_, rfl, ?_⟩
    rw [m1] at hmd6 ⊢
    dsimp only at hmd6 ⊢
    refine aA ?_
    (repeat' first | ((with_reducible refine aJ ?_); go_step) | ((with_reducible refine aH ?_); first | refine aW ?_ | (refine aK ?_ ?_ <;> intro hc)) | fail)
    refine aN (z := fM) rfl (by decide +kernel) ?_
    intro w7 x7 s7 h7
    refine aA ?_
    have hmd7 := hmd6.ext x7
    refine aG (v := .agg (aV m a1 a2 a3 a4).toArray) rfl rfl rfl h7 (show aZ Tryz.prog 26 13 = true by decide +kernel) rfl (cM hmd7) ?_
    intro w8 p8
    have y8 : Ext w6 w8 := x7.move p8.mv (by rintro k ⟨⟩; exact Nat.le_refl _)
    have hB6 : w8.heap[w6.heap.size]? = some (.cells (aV m a1 a2 a3 a4).toArray 26 (0, 0)) := p8.this
    have hM6 := hmd6.ext y8
    have z6 := x6.trans y8
    clear p8 h7 x7 hmd7
    generalize w6.heap.size = B6 at *
    (repeat' first | ((with_reducible refine aJ ?_); go_step) | ((with_reducible refine aH ?_); first | refine aW ?_ | (refine aK ?_ ?_ <;> intro hc)) | fail)
    refine aF (vs := [aI s]) (enters_of Tryz.func19 rfl rfl) rfl rfl (lA s (by omega)) ?_
    rintro _ w9 ⟨b1, b2, b3, b4, rfl, hmd9, x9⟩
    refine ⟨_, rfl, ?_⟩
    have hDl : gR (bO s).1.size false = gR (bO s).1.size false := rfl
    generalize bO s = D at *
    refine aA ?_
    (repeat' first | ((with_reducible refine aJ ?_); go_step) | ((with_reducible refine aH ?_); first | refine aW ?_ | (refine aK ?_ ?_ <;> intro hc)) | fail)
    refine aN (z := fM) rfl (by decide +kernel) ?_
    intro w10 x10 s10 h10
    refine aA ?_
    have hmd10 := hmd9.ext x10
    refine aG (v := .agg (aV D.1 b1 b2 b3 b4).toArray) rfl rfl rfl h10 (show aZ Tryz.prog 26 13 = true by decide +kernel) rfl (cM hmd10) ?_
    intro w11 p11
    have y11 : Ext w9 w11 := x10.move p11.mv (by rintro k ⟨⟩; exact Nat.le_refl _)
    have hB9 : w11.heap[w9.heap.size]? = some (.cells (aV D.1 b1 b2 b3 b4).toArray 26 (0, 0)) := p11.this
    have hM9 := hmd9.ext y11
    have z9 := x9.trans y11
    clear p11 h10 x10 hmd10
    generalize w9.heap.size = B9 at *
    have hB69 := z9.at hB6
    have p6 := aD (cs := aV m a1 a2 a3 a4) hB69
    have p9 := aD (cs := aV D.1 b1 b2 b3 b4) hB9
    have x11 := x04.trans (x5.trans (z6.trans z9))
    unfold aV at p6 p9
    rw [m2, m3] at p6
    by_cases cD : D.2 = 0
    ·rw [if_neg (by simpa using cD)] at m4
     (repeat' first | ((with_reducible refine aJ ?_); go_step) | ((with_reducible refine aH ?_); first | refine aW ?_ | (refine aK ?_ ?_ <;> intro hc)) | fail)
     all_goals first
      | (have hh : False := by have h9 := ‹(!decide (D.2 = 0)) = true›; rw [decide_eq_true cD] at h9; cases h9
         exact hh.elim)
      | skip
     refine aE (enters_of Tryz.func20 rfl rfl) rfl rfl (FG D.1 b1 b2 b3 b4 false _ hM9) ?_; intro w12 x12; refine aA ?_
     have x012 := x11.trans x12
     have p6b := p6.ext x12
     (repeat' first | ((with_reducible refine aJ ?_); go_step) | ((with_reducible refine aH ?_); first | refine aW ?_ | (refine aK ?_ ?_ <;> intro hc)) | fail)
     all_goals first
      | (have hh : False := m4.elim (fun h => absurd h (by assumption)) (fun h => absurd h (by assumption))
         exact hh.elim)
      | skip
     ·refine aE (enters_of Tryz.func11 rfl rfl) rfl rfl (fW _) ?_; intro w13 x13; refine aA ?_
      (repeat' first | ((with_reducible refine aJ ?_); go_step) | ((with_reducible refine aH ?_); first | refine aW ?_ | (refine aK ?_ ?_ <;> intro hc)) | fail)
      go_ret
      exact ⟨rfl, x012.trans x13⟩
     ·refine aE (enters_of Tryz.func11 rfl rfl) rfl rfl (fW _) ?_; intro w13 x13; refine aA ?_
      (repeat' first | ((with_reducible refine aJ ?_); go_step) | ((with_reducible refine aH ?_); first | refine aW ?_ | (refine aK ?_ ?_ <;> intro hc)) | fail)
      go_ret
      exact ⟨rfl, x012.trans x13⟩
    ·rw [if_pos cD] at m4
     (repeat' first | ((with_reducible refine aJ ?_); go_step) | ((with_reducible refine aH ?_); first | refine aW ?_ | (refine aK ?_ ?_ <;> intro hc)) | fail)
     all_goals first
      | (have hh : False := by have h9 := ‹(!decide (D.2 = 0)) = false›; rw [decide_eq_false cD] at h9; cases h9
         exact hh.elim)
      | (exact absurd m4 (by assumption))
      | skip
     refine aE (enters_of Tryz.func11 rfl rfl) rfl rfl (fW _) ?_; intro w12 x12; refine aA ?_
     (repeat' first | ((with_reducible refine aJ ?_); go_step) | ((with_reducible refine aH ?_); first | refine aW ?_ | (refine aK ?_ ?_ <;> intro hc)) | fail)
     go_ret
     exact ⟨rfl, x11.trans x12⟩
set_option maxHeartbeats 4000000 in
theorem OY (v : Value) (hs : List HldR) (s : List UInt8) (w : World) (hv : HldsAt w v hs) (_ : s.length ≤ 9223372036854775807) : Calls Tryz.prog 8 #[v, aI s] w (bS w (.bool true)) := by
 go_enter Tryz.func8, Tryz.ntmps8
 (repeat' first | ((with_reducible refine aJ ?_); go_step) | ((with_reducible refine aH ?_); first | refine aW ?_ | (refine aK ?_ ?_ <;> intro hc)) | fail)
 refine aE (enters_of Tryz.func9 rfl rfl) rfl rfl (FI v hs _ hv) ?_; intro w2 x2; refine aA ?_
 cases hF : wS hs with
 | false =>
  (repeat' first | ((with_reducible refine aJ ?_); go_step) | ((with_reducible refine aH ?_); first | refine aW ?_ | (refine aK ?_ ?_ <;> intro hc)) | fail)
  refine aE (enters_of Tryz.func11 rfl rfl) rfl rfl (fW _) ?_; intro w3 x3; refine aA ?_
  (repeat' first | ((with_reducible refine aJ ?_); go_step) | ((with_reducible refine aH ?_); first | refine aW ?_ | (refine aK ?_ ?_ <;> intro hc)) | fail)
  go_ret
  exact ⟨rfl, x2.trans x3⟩
 | true =>
  obtain ⟨hl4, hbH⟩ := KQ hF
  by_cases hsl : 2000 < s.length
  ·(repeat' first | ((with_reducible refine aJ ?_); go_step) | ((with_reducible refine aH ?_); first | refine aW ?_ | (refine aK ?_ ?_ <;> intro hc)) | fail)
   all_goals first
    | (have hh : False := by have h9 := ‹¬ (2000 : Int) < (s.length : Int)›; omega
       exact hh.elim)
    | skip
   refine aE (enters_of Tryz.func11 rfl rfl) rfl rfl (fW _) ?_; intro w3 x3; refine aA ?_
   (repeat' first | ((with_reducible refine aJ ?_); go_step) | ((with_reducible refine aH ?_); first | refine aW ?_ | (refine aK ?_ ?_ <;> intro hc)) | fail)
   go_ret
   exact ⟨rfl, x2.trans x3⟩
  ·have hsl : s.length ≤ 2000 := by omega
   (repeat' first | ((with_reducible refine aJ ?_); go_step) | ((with_reducible refine aH ?_); first | refine aW ?_ | (refine aK ?_ ?_ <;> intro hc)) | fail)
   all_goals first
    | (have hh : False := by have h9 := ‹(2000 : Int) < (s.length : Int)›; omega
       exact hh.elim)
    | skip
   refine aF (vs := [aI s]) (enters_of Tryz.func19 rfl rfl) rfl rfl (lA s (by omega)) ?_
   rintro _ w3 ⟨b1, b2, b3, b4, rfl, hmd3, x3⟩
   refine ⟨_, rfl, ?_⟩
   have hS := zV hs s
   have hR := sV hs s true
   have hok := @rT s
   have hcS : ∀ w' v', HldsAt w' v' hs → Calls Tryz.prog 16 #[v', aI s, .bool true] w' (bS w' (.tuple #[aI (dE hs s true).1, .bool (dE hs s true).2])) := fun w' v' h' => tL v' hs s true w' h' (by omega) hbH (by omega)
   generalize bO s = D at *
   generalize dE hs s true = T at *
   refine aA ?_
   (repeat' first | ((with_reducible refine aJ ?_); go_step) | ((with_reducible refine aH ?_); first | refine aW ?_ | (refine aK ?_ ?_ <;> intro hc)) | fail)
   refine aN (z := fM) rfl (by decide +kernel) ?_
   intro w4 x4 s4 h4
   refine aA ?_
   have hmd4 := hmd3.ext x4
   refine aG (v := .agg (aV D.1 b1 b2 b3 b4).toArray) rfl rfl rfl h4 (show aZ Tryz.prog 26 13 = true by decide +kernel) rfl (cM hmd4) ?_
   intro w5 p5
   have y5 : Ext w3 w5 := x4.move p5.mv (by rintro k ⟨⟩; exact Nat.le_refl _)
   have hB3 : w5.heap[w3.heap.size]? = some (.cells (aV D.1 b1 b2 b3 b4).toArray 26 (0, 0)) := p5.this
   have hM3 := hmd3.ext y5
   have z3 := x3.trans y5
   clear p5 h4 x4 hmd4
   generalize w3.heap.size = B3 at *
   have x25 := x2.trans z3
   (repeat' first | ((with_reducible refine aJ ?_); go_step) | ((with_reducible refine aH ?_); first | refine aW ?_ | (refine aK ?_ ?_ <;> intro hc)) | fail)
   refine aT (enters_of Tryz.func14 rfl rfl) rfl rfl (wD v hs _ (hv.ext x25) (by omega)) ?_
   intro v6 w6 x6 h6
   refine aA ?_
   (repeat' first | ((with_reducible refine aJ ?_); go_step) | ((with_reducible refine aH ?_); first | refine aW ?_ | (refine aK ?_ ?_ <;> intro hc)) | fail)
   refine aE (enters_of Tryz.func16 rfl rfl) rfl rfl (hcS _ _ h6) ?_; intro w7 x7; refine aA ?_
   have x57 := x6.trans x7
   have x07 := x25.trans x57
   have hB7 := x57.at hB3
   have hM7 := hM3.ext x57
   have p7 := aD (cs := aV D.1 b1 b2 b3 b4) hB7
   unfold aV at p7
   by_cases cD : D.2 = 0
   ·cases cQ : D.1.resp with
    | true =>
     rw [cQ] at p7
     (repeat' first | ((with_reducible refine aJ ?_); go_step) | ((with_reducible refine aH ?_); first | refine aW ?_ | (refine aK ?_ ?_ <;> intro hc)) | fail)
     all_goals first
      | (have hh : False := by have h9 := ‹(!decide (D.2 = 0)) = true›; rw [decide_eq_true cD] at h9; cases h9
         exact hh.elim)
      | skip
     refine aE (enters_of Tryz.func11 rfl rfl) rfl rfl (fW _) ?_; intro w8 x8; refine aA ?_
     (repeat' first | ((with_reducible refine aJ ?_); go_step) | ((with_reducible refine aH ?_); first | refine aW ?_ | (refine aK ?_ ?_ <;> intro hc)) | fail)
     go_ret
     exact ⟨rfl, x07.trans x8⟩
    | false =>
     obtain ⟨t1, t2⟩ := hS cD cQ
     obtain ⟨_, _, t3, m, m1, _⟩ := hR t1
     obtain ⟨dok, _⟩ := hok cD
     clear hS hR hok hcS
     rw [cQ] at p7
     obtain ⟨t, is⟩ := T
     obtain rfl : is = true := t1
     dsimp only at t2 t3 m1
     rw [m1] at t2
     (repeat' first | ((with_reducible refine aJ ?_); go_step) | ((with_reducible refine aH ?_); first | refine aW ?_ | (refine aK ?_ ?_ <;> intro hc)) | fail)
     all_goals first
      | (have hh : False := by have h9 := ‹(!decide (D.2 = 0)) = true›; rw [decide_eq_true cD] at h9; cases h9
         exact hh.elim)
      | skip
     refine aF (vs := [aI t]) (enters_of Tryz.func19 rfl rfl) rfl rfl (lA t (by omega)) ?_
     rintro _ w8 ⟨c1, c2, c3, c4, rfl, hmd8, x8⟩
     refine ⟨_, rfl, ?_⟩
     rw [m1] at hmd8 ⊢
     dsimp only at hmd8 ⊢
     refine aA ?_
     (repeat' first | ((with_reducible refine aJ ?_); go_step) | ((with_reducible refine aH ?_); first | refine aW ?_ | (refine aK ?_ ?_ <;> intro hc)) | fail)
     refine aN (z := fM) rfl (by decide +kernel) ?_
     intro w9 x9 s9 h9
     refine aA ?_
     have hmd9 := hmd8.ext x9
     refine aG (v := .agg (aV m c1 c2 c3 c4).toArray) rfl rfl rfl h9 (show aZ Tryz.prog 26 13 = true by decide +kernel) rfl (cM hmd9) ?_
     intro w10 p10
     have y10 : Ext w8 w10 := x9.move p10.mv (by rintro k ⟨⟩; exact Nat.le_refl _)
     have hB8 : w10.heap[w8.heap.size]? = some (.cells (aV m c1 c2 c3 c4).toArray 26 (0, 0)) := p10.this
     have hM8 := hmd8.ext y10
     have z8 := x8.trans y10
     clear p10 h9 x9 hmd9
     generalize w8.heap.size = B8 at *
     have hB10 := z8.at hB7
     have hM10 := hM7.ext z8
     have p10 := aD (cs := aV D.1 b1 b2 b3 b4) hB10
     unfold aV at p10
     have x010 := x07.trans z8
     have hcR : ∀ w' v', Ext w10 w' → HldsAt w' v' hs → Calls Tryz.prog 13 #[v', .agg (aV D.1 b1 b2 b3 b4).toArray] w' (sX w' (OV w' (bV hs D.1))) := fun w' v' x' h' => qS v' hs D.1 b1 b2 b3 b4 w' h' (hM10.ext x') (by omega) hbH
     have hcE : ∀ w' {q1 a1 u1 e1 : Value}, MsgV w' (bV hs D.1) q1 a1 u1 e1 → Calls Tryz.prog 23 #[.agg (aV (bV hs D.1) q1 a1 u1 e1).toArray] w' (bS w' (.tuple #[aI (bI (bV hs D.1)).1, .int .i64 (bI (bV hs D.1)).2])) := fun w' _ _ _ _ h' => nE h'
     generalize bI (bV hs D.1) = E at *
     generalize bV hs D.1 = RR at *
     (repeat' first | ((with_reducible refine aJ ?_); go_step) | ((with_reducible refine aH ?_); first | refine aW ?_ | (refine aK ?_ ?_ <;> intro hc)) | fail)
     refine dU (S := fun w' => Ext w10 w') (by decide +kernel) ?_
     intro w21 x21 _
     refine pN 0 ?_; refine aA ?_; refine pN 2 ?_; refine aA ?_
     refine EI 1 3 4 5 48 50 11 (fun b1 b2 b3 b4 => (!b2 || b1) && (!b4 || b2) && (!b4 || b3)) (fun b1 b2 b3 b4 => !b2) (fun b1 b2 b3 b4 => b1 && !b4) (fun b1 b2 b3 b4 => !b4) (fun b1 b2 b3 b4 => b2 && b3) (fun b1 b2 b3 b4 v1 v2 v3 w' => ∃ q1 a1 u1 e1 zk, Ext w10 w' ∧ (b1 = true → b4 = false → HldsAt w' v1 hs) ∧ (b2 = true → v2 = .agg (aV RR q1 a1 u1 e1).toArray ∧ MsgW w10.heap.size w' RR q1 a1 u1 e1) ∧ (b3 = true → v3 = .pointer (some ⟨zk, 0, none⟩) ∧ w10.heap.size ≤ zk ∧ w'.heap[zk]? = some (.cells (bif b4 then aV RR q1 a1 u1 e1 else fM).toArray 26 (0, 0)))) ?_ ?_ ?_ ?_ ?_ ?_
     ·exact ⟨undef, undef, undef, undef, 0, x21, by simp, by simp, by simp⟩
     ·rintro b1 b2 b3 b4 v1 v2 v3 w5 hq ⟨q1, a1, u1, e1, zk, x5, f1, f2, f3⟩
      have hb2 : b2 = false := by revert hq; cases b2 <;> simp
      have hb4 : b4 = false := by revert hq; subst hb2; cases b4 <;> simp
      subst hb2 hb4
      refine aA ?_
      refine aT (enters_of Tryz.func14 rfl rfl) rfl rfl (wD v hs _ ((hv.ext x010).ext x5) (by omega)) ?_
      intro v6 w6 x6 h6
      refine aA ?_
      refine aL ⟨x5.trans x6, _, rfl, q1, a1, u1, e1, zk, x5.trans x6, fun _ _ => h6, by simp, fun e => ⟨(f3 e).1, (f3 e).2.1, x6.at (f3 e).2.2⟩⟩
     ·rintro b1 b2 b3 b4 v1 v2 v3 w5 hq ⟨q1, a1, u1, e1, zk, x5, f1, f2, f3⟩
      have hb1 : b1 = true := by revert hq; cases b1 <;> simp
      have hb4 : b4 = false := by revert hq; cases b4 <;> simp
      subst hb1 hb4
      refine aA ?_
      refine aT (enters_of Tryz.func13 rfl rfl) rfl rfl (hcR _ _ x5 (f1 rfl rfl)) ?_
      rintro _ w6 x6 ⟨q1', a1', u1', e1', rfl, hm6⟩
      refine aA ?_
      refine aL ⟨x5.trans x6, _, rfl, q1', a1', u1', e1', zk, x5.trans x6, fun _ _ => (f1 rfl rfl).ext x6, fun _ => ⟨rfl, hm6.weaken x5.size⟩, fun e => ⟨(f3 e).1, (f3 e).2.1, x6.at (f3 e).2.2⟩⟩
     ·rintro b1 b2 b3 b4 v1 v2 v3 w5 hq ⟨q1, a1, u1, e1, zk, x5, f1, f2, f3⟩
      have hb4 : b4 = false := by revert hq; cases b4 <;> simp
      subst hb4
      refine aA ?_
      refine aN (z := fM) rfl (by decide +kernel) ?_
      intro w6 x6 s6 h6
      refine aA ?_
      refine aL ⟨x5.trans x6, _, rfl, q1, a1, u1, e1, _, x5.trans x6, fun e _ => (f1 e rfl).ext x6, fun e => ⟨(f2 e).1, (f2 e).2.ext x6⟩, fun _ => ⟨rfl, x5.size, h6⟩⟩
     ·rintro b1 b2 b3 b4 v1 v2 v3 w5 hq ⟨q1, a1, u1, e1, zk, x5, f1, f2, f3⟩
      have hb2 : b2 = true := by revert hq; cases b2 <;> simp
      have hb3 : b3 = true := by revert hq; cases b3 <;> simp
      have hb1 : b1 = true := by revert hq; subst hb2; cases b1 <;> simp
      subst hb1 hb2 hb3
      obtain ⟨rfl, g2⟩ := f2 rfl
      obtain ⟨rfl, g5, g6⟩ := f3 rfl
      refine aA ?_
      refine aG (v := .agg (aV RR q1 a1 u1 e1).toArray) rfl rfl rfl g6 (show aZ Tryz.prog 26 13 = true by decide +kernel) rfl (cM g2.msg) ?_
      intro w6 p6
      have x6 : Ext w10 w6 := x5.move p6.mv (by rintro k ⟨⟩; exact g5)
      refine aL ⟨x6, rfl, q1, a1, u1, e1, zk, x6, by simp, fun _ => ⟨rfl, g2.box g6 p6.mv⟩, fun _ => ⟨rfl, g5, p6.this⟩⟩
     ·rintro v1 v2 v3 w9 ⟨q1, a1, u1, e1, zk, x9, f1, f2, f3⟩
      obtain ⟨k2, hm9⟩ := f2 rfl
      obtain ⟨k3, k4, k5⟩ := f3 rfl
      clear f1 f2 f3
      subst k2 k3
      refine aA ?_
      refine dR (by decide +kernel) ?_
      have k5 : w9.heap[zk]? = some (.cells (aV RR q1 a1 u1 e1).toArray 26 (0, 0)) := k5
      clear hcR
      have pR := aD (cs := aV RR q1 a1 u1 e1) k5
      unfold aV at pR
      (repeat' first | ((with_reducible refine aJ ?_); go_step) | ((with_reducible refine aH ?_); first | refine aW ?_ | (refine aK ?_ ?_ <;> intro hc)) | fail)
      refine aE (enters_of Tryz.func23 rfl rfl) rfl rfl (hcE _ hm9.msg) ?_; intro w11 x11; refine aA ?_
      have x911 := x9.trans x11
      have hB11 := (x9.trans x11).at hB8
      have k11 := x11.at k5
      have hm11 := hm9.msg.ext x11
      have hM11 := hM8.ext (x9.trans x11)
      have x011 := x010.trans x911
      have pR := pR.ext x11
      clear hcE
      by_cases cE : E.2 = 0
      ·obtain ⟨e1', e2'⟩ := t2 cE
       rw [Prod.mk.injEq] at e2'
       obtain ⟨rfl, _⟩ := e2'
       subst e1'
       have pT := aD (cs := aV m c1 c2 c3 c4) hB11
       unfold aV at pT
       (repeat' first | ((with_reducible refine aJ ?_); go_step) | ((with_reducible refine aH ?_); first | refine aW ?_ | (refine aK ?_ ?_ <;> intro hc)) | fail)
       all_goals first
        | (have hh : False := by have h9 := ‹(!decide (E.2 = 0)) = true›; rw [decide_eq_true cE] at h9; cases h9
           exact hh.elim)
        | skip
       have hcS := MB m m c1 c2 c3 c4 q1 a1 u1 e1 _ hM11 hm11
       rw [decide_eq_true rfl] at hcS
       refine aE (enters_of Tryz.func12 rfl rfl) rfl rfl (hcS) ?_; intro w12 x12; refine aA ?_
       (repeat' first | ((with_reducible refine aJ ?_); go_step) | ((with_reducible refine aH ?_); first | refine aW ?_ | (refine aK ?_ ?_ <;> intro hc)) | fail)
       refine aE (enters_of Tryz.func11 rfl rfl) rfl rfl (fW _) ?_; intro w13 x13; refine aA ?_
       (repeat' first | ((with_reducible refine aJ ?_); go_step) | ((with_reducible refine aH ?_); first | refine aW ?_ | (refine aK ?_ ?_ <;> intro hc)) | fail)
       go_ret
       exact ⟨rfl, x011.trans (x12.trans x13)⟩
      ·(repeat' first | ((with_reducible refine aJ ?_); go_step) | ((with_reducible refine aH ?_); first | refine aW ?_ | (refine aK ?_ ?_ <;> intro hc)) | fail)
       all_goals first
        | (have hh : False := by have h9 := ‹(!decide (E.2 = 0)) = false›; rw [decide_eq_false cE] at h9; cases h9
           exact hh.elim)
        | skip
       refine aE (enters_of Tryz.func11 rfl rfl) rfl rfl (fW _) ?_; intro w12 x12; refine aA ?_
       (repeat' first | ((with_reducible refine aJ ?_); go_step) | ((with_reducible refine aH ?_); first | refine aW ?_ | (refine aK ?_ ?_ <;> intro hc)) | fail)
       go_ret
       exact ⟨rfl, x011.trans x12⟩
   ·(repeat' first | ((with_reducible refine aJ ?_); go_step) | ((with_reducible refine aH ?_); first | refine aW ?_ | (refine aK ?_ ?_ <;> intro hc)) | fail)
    all_goals first
     | (have hh : False := by have h9 := ‹(!decide (D.2 = 0)) = false›; rw [decide_eq_false cD] at h9; cases h9
        exact hh.elim)
     | skip
    refine aE (enters_of Tryz.func11 rfl rfl) rfl rfl (fW _) ?_; intro w8 x8; refine aA ?_
    (repeat' first | ((with_reducible refine aJ ?_); go_step) | ((with_reducible refine aH ?_); first | refine aW ?_ | (refine aK ?_ ?_ <;> intro hc)) | fail)
    go_ret
    exact ⟨rfl, x07.trans x8⟩
end Go.Proofs.X
