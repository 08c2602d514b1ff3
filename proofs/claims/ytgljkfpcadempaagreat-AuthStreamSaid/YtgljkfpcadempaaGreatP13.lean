/- Laws and walks that the proof of the statement is made of (part 13). -/
import Derived.Test.YtgljkfpcadempaaGreatRows
import Derived.Test.YtgljkfpcadempaaGreatP12
set_option linter.unusedSimpArgs false
set_option linter.unusedVariables false
namespace Go.Proofs.X
open Go.RowKit
set_option maxRecDepth 100000
structure NmS where
 n : List UInt8
 begin_ : Int
 back : Int
 r : RdS
def nmTo (s : List UInt8) (r1 : RdS) (k : Nat) : Nat := k * 256 % 16384 + ((r1.want (decide (192 ≤ k)) 2).number s 1).1
def rI (s : List UInt8) (r1 : RdS) (k : Nat) (begin_ : Int) : RdS := ((r1.want (decide (192 ≤ k)) 2).number s 1).2.want (decide ((nmTo s r1 k : Int) < begin_)) 2
def fE (s : List UInt8) (x : NmS) (k : Nat) (r1 : RdS) : NmS :=
 if k ≤ 63 then ⟨x.n ++ (UInt8.ofNat k :: (r1.take s k).1), x.begin_, x.back, (r1.take s k).2.want (decide ((x.n ++ (UInt8.ofNat k :: (r1.take s k).1)).length < 255)) 2⟩
 else ⟨x.n, nmTo s r1 k, if x.back < 0 then (rI s r1 k x.begin_).at_ else x.back, ⟨nmTo s r1 k, (rI s r1 k x.begin_).e⟩⟩
def yK (x : NmS) (r1 : RdS) : List UInt8 × RdS := (if r1.e ≠ 0 then [] else x.n, if 0 ≤ x.back then ⟨x.back, r1.e⟩ else r1)
def vW (s : List UInt8) : Nat → NmS → List UInt8 × RdS
 | 0, x => ([], x.r)
 | f + 1, x => if (x.r.number s 1).2.e ≠ 0 ∨ (x.r.number s 1).1 = 0 then yK x (x.r.number s 1).2 else vW s f (fE s x (x.r.number s 1).1 (x.r.number s 1).2)
def DO (s : List UInt8) (x : NmS) : Nat := if x.r.e ≠ 0 then 0 else x.begin_.toNat * (s.length + 2) + (s.length + 2 - x.r.at_.toNat)
def eS (s : List UInt8) (r : RdS) : List UInt8 × RdS := vW s (r.at_.toNat * (s.length + 2) + s.length + 3) ⟨[], r.at_, -1, r⟩
structure NmOk (s : List UInt8) (x : NmS) : Prop where
 r : x.r.Ok s
 b0 : 0 ≤ x.begin_
 b1 : x.begin_ ≤ 100000000
 k0 : -1 ≤ x.back
 k1 : x.back ≤ 100000000
 n0 : x.r.e = 0 → x.n.length ≤ 254
 n1 : x.n.length ≤ 400
 bL : x.r.e = 0 → x.begin_ ≤ s.length
 kL : x.r.e = 0 → x.back ≤ s.length
theorem iJ {s : List UInt8} {r : RdS} {n : Int} (h : (r.number s n).2.e = 0) : r.e = 0 ∧ n ≤ (s.length : Int) - r.at_ ∧ (r.number s n).2 = ⟨r.at_ + n, 0⟩ := by
 unfold RdS.number RdS.take at *
 dsimp only at *
 split at h
 ·rename_i c; exact absurd h c
 ·rename_i c
  split at h
  ·cases h
  ·rename_i c2
   rw [if_neg c, if_neg c2]
   exact ⟨by simpa using c, by omega, rfl⟩
theorem bX {s : List UInt8} {r : RdS} (h : r.Ok s) (hs : s.length ≤ 100000000) {n : Int} (hn : 0 ≤ n) : (r.number s n).2.Ok s := h.take hs hn
theorem EU {r : RdS} {is : Bool} {er : Int} : (r.want is er).at_ = r.at_ := by unfold RdS.want; split <;> rfl
theorem gO {r : RdS} {is : Bool} {er : Int} (he : er ≠ 0) (h : (r.want is er).e = 0) : r.e = 0 ∧ is = true := by
 unfold RdS.want at h
 split at h
 ·exact absurd h he
 ·rename_i c
  refine ⟨h, ?_⟩
  cases is with
  | true => rfl
  | false => exact absurd ⟨h, rfl⟩ c
theorem EV {s : List UInt8} {r1 : RdS} {k : Nat} : nmTo s r1 k < 16640 := by
 unfold nmTo
 have := cN s (r1.want (decide (192 ≤ k)) 2) 1 (by omega)
 have h2 : k * 256 % 16384 < 16384 := Nat.mod_lt _ (by omega)
 simp at this
 omega
theorem NmOk.next {s : List UInt8} {x : NmS} (h : NmOk s x) (hs : s.length ≤ 100000000) (he : (x.r.number s 1).2.e = 0) : NmOk s (fE s x (x.r.number s 1).1 (x.r.number s 1).2) ∧ DO s (fE s x (x.r.number s 1).1 (x.r.number s 1).2) < DO s x := by
 obtain ⟨e0, e1, e2⟩ := iJ he
 have hr1 := bX (n := 1) h.r hs (by omega)
 have hM : DO s x = x.begin_.toNat * (s.length + 2) + (s.length + 2 - x.r.at_.toNat) := by unfold DO; rw [if_neg (by omega)]
 have hlo := h.r.lo
 have hb0 := h.b0
 generalize (x.r.number s 1).1 = k at *
 have hat : (x.r.number s 1).2.at_ = x.r.at_ + 1 := by rw [e2]
 generalize (x.r.number s 1).2 = r1 at *
 unfold fE
 have htl := kZ s r1 k
 split
 ·rename_i hk
  have hn' : (x.n ++ (UInt8.ofNat k :: (r1.take s k).1)).length ≤ 254 + 64 := by
   rw [List.length_append, List.length_cons]
   have := h.n0 e0
   simp at htl
   omega
  have hw := (hr1.take hs (n := (k : Int)) (by omega)).want (decide ((x.n ++ (UInt8.ofNat k :: (r1.take s k).1)).length < 255)) (er := 2) (by decide)
  refine ⟨⟨hw, h.b0, h.b1, h.k0, h.k1, fun e => ?_, by dsimp only; omega, fun _ => h.bL e0, fun _ => h.kL e0⟩, ?_⟩
  ·obtain ⟨_, q⟩ := gO (by decide) e
   have := of_decide_eq_true q
   dsimp only
   omega
  ·rw [hM]
   unfold DO
   dsimp only
   split
   ·omega
   ·rename_i c
    have c' : ((r1.take s k).2.want (decide ((x.n ++ (UInt8.ofNat k :: (r1.take s k).1)).length < 255)) 2).e = 0 := by simpa using c
    obtain ⟨q, _⟩ := gO (by decide) c'
    rw [EU]
    have hta : (r1.take s k).2.at_ = r1.at_ + k := by
     unfold RdS.take at q ⊢
     split at q
     ·rename_i c9; exact absurd q c9
     ·split at q
      ·cases q
      ·rename_i c8 c9; rw [if_neg c8, if_neg c9]
    rw [hta, hat]
    omega
 ·have hto := EV (s := s) (r1 := r1) (k := k)
  have hw := ((bX (n := 1) (hr1.want (decide (192 ≤ k)) (er := 2) (by decide)) hs (by omega))).want (decide ((nmTo s r1 k : Int) < x.begin_)) (er := 2) (by decide)
  refine ⟨⟨⟨by dsimp only; omega, fun e => ?_, by dsimp only; omega⟩, by dsimp only; omega, by dsimp only; omega, ?_, ?_, fun _ => h.n0 e0, h.n1, fun e => ?_, fun e => ?_⟩, ?_⟩
  ·obtain ⟨_, q⟩ := gO (r := ((r1.want (decide (192 ≤ k)) 2).number s 1).2) (by decide) e
   have := of_decide_eq_true q
   have := h.bL e0
   dsimp only
   omega
  ·dsimp only
   split
   ·have := hw.lo; show -1 ≤ (rI s r1 k x.begin_).at_; unfold rI; omega
   ·exact h.k0
  ·dsimp only
   split
   ·have := hw.far; show (rI s r1 k x.begin_).at_ ≤ _; unfold rI; omega
   ·exact h.k1
  ·obtain ⟨_, q⟩ := gO (r := ((r1.want (decide (192 ≤ k)) 2).number s 1).2) (by decide) e
   have := of_decide_eq_true q
   have := h.bL e0
   dsimp only
   omega
  ·dsimp only
   split
   ·exact hw.hi e
   ·exact h.kL e0
  ·rw [hM]
   unfold DO
   dsimp only
   split
   ·omega
   ·rename_i c
    have c' : (rI s r1 k x.begin_).e = 0 := by simpa using c
    obtain ⟨_, q⟩ := gO (r := ((r1.want (decide (192 ≤ k)) 2).number s 1).2) (by decide) c'
    have hlt := of_decide_eq_true q
    simp only [Int.toNat_natCast]
    have h5 : nmTo s r1 k + 1 ≤ x.begin_.toNat := by omega
    have h6 : (nmTo s r1 k + 1) * (s.length + 2) ≤ x.begin_.toNat * (s.length + 2) := Nat.mul_le_mul_right _ h5
    rw [Nat.succ_mul] at h6
    omega
theorem EW {s : List UInt8} (hs : s.length ≤ 100000000) : ∀ (f : Nat) (x : NmS), NmOk s x → DO s x < f → (vW s f x).1.length ≤ 254 ∧ (vW s f x).2.Ok s
 | 0, x, _, h => absurd h (Nat.not_lt_zero _)
 | f + 1, x, h, hf => by
   have hr1 := bX (n := 1) h.r hs (by omega)
   unfold vW
   split
   ·unfold yK
    dsimp only
    by_cases he : (x.r.number s 1).2.e = 0
    ·rw [if_neg (by simpa using he)]
     obtain ⟨e0, _⟩ := iJ he
     refine ⟨h.n0 e0, ?_⟩
     split
     ·rename_i hb
      exact ⟨hb, fun _ => h.kL e0, h.k1⟩
     ·exact hr1
    ·rw [if_pos he]
     refine ⟨Nat.zero_le _, ?_⟩
     split
     ·rename_i hb
      exact ⟨hb, fun e => absurd e he, h.k1⟩
     ·exact hr1
   ·rename_i c
    have he : (x.r.number s 1).2.e = 0 := by
     by_cases h : (x.r.number s 1).2.e = 0
     ·exact h
     ·exact absurd (.inl h) c
    obtain ⟨h1, h2⟩ := h.next hs he
    exact EW hs f _ h1 (by omega)
theorem oQ {s : List UInt8} {r : RdS} (hr : r.Ok s) : NmOk s ⟨[], r.at_, -1, r⟩ ∧ DO s ⟨[], r.at_, -1, r⟩ < r.at_.toNat * (s.length + 2) + s.length + 3 := by
 refine ⟨⟨hr, hr.lo, hr.far, (by show (-1 : Int) ≤ -1; omega), (by show (-1 : Int) ≤ 100000000; omega), fun _ => Nat.zero_le _, Nat.zero_le _, hr.hi, fun _ => (by show (-1 : Int) ≤ _; omega)⟩, ?_⟩
 unfold DO
 dsimp only
 split <;> omega
theorem nC {s : List UInt8} {r : RdS} (hr : r.Ok s) (hs : s.length ≤ 100000000) : (eS s r).1.length ≤ 254 ∧ (eS s r).2.Ok s :=
 EW hs _ _ (oQ hr).1 (oQ hr).2
def RL (s : List UInt8) (b : Nat) (bg : Value) (w : World) : Nat := match w.heap[b]? with
 | some (.cells cs _ _) => DO s ⟨[], intOf bg, 0, ⟨intOf (cs[1]?.getD undef), intOf (cs[2]?.getD undef)⟩⟩
 | _ => 0
theorem rJ {s : List UInt8} {b : Nat} {x : NmS} {w : World} (h : cR w b s x.r) : RL s b (.int .i64 x.begin_) w = DO s x := by
 unfold cR at h
 unfold RL
 rw [h]
 simp [oV, intOf, DO]
def QK (s : List UInt8) (r : RdS) (b : Nat) (w : World) (x : NmS) (wr : World) : Prop := NmOk s x ∧ cR wr b s x.r ∧ Mv (some b) w wr ∧ ∃ f, DO s x < f ∧ vW s f x = eS s r
theorem MD (k k2 : Nat) (h : k2 < 256) : (k * 256 &&& 16383) ||| k2 = k * 256 % 16384 + k2 := by
 have e1 : k * 256 &&& 16383 = k * 256 % 16384 := Nat.and_two_pow_sub_one_eq_mod (k * 256) 14
 have e2 : k * 256 % 16384 = (k % 64) * 256 := by omega
 rw [e1, e2, wU _ _ h]
set_option maxHeartbeats 2000000 in
theorem DP {w : World} {b : Nat} {s : List UInt8} {r : RdS} (h : cR w b s r) (hr : r.Ok s) (hs : s.length ≤ 100000000) : Calls Tryz.prog 45 #[.pointer (some ⟨b, 0, none⟩)] w (jM w b s (aI (eS s r).1) (eS s r).2) := by
 have hp := aD (cs := oV s r) h
 have h0 : QK s r b w ⟨[], r.at_, -1, r⟩ w := by
  refine ⟨⟨hr, hr.lo, hr.far, (by show (-1 : Int) ≤ -1; omega), (by show (-1 : Int) ≤ 100000000; omega), fun _ => Nat.zero_le _, Nat.zero_le _, hr.hi, fun _ => (by show (-1 : Int) ≤ _; omega)⟩, h, Mv.refl _ _, _, ?_, rfl⟩
  unfold DO
  dsimp only
  split <;> omega
 go_enter Tryz.func45, Tryz.ntmps45
 (repeat' first | ((with_reducible refine aJ ?_); go_step) | ((with_reducible refine aH ?_); first | refine aW ?_ | (refine aK ?_ ?_ <;> intro hc)) | fail)
 go_loopw [2, 3, 4, 5, 6] (fun n bg bk _ _ wr => ∃ x : NmS, n = aI x.n ∧ bg = .int .i64 x.begin_ ∧ bk = .int .i64 x.back ∧ QK s r b w x wr) (fun _ bg _ _ _ wr => RL s b bg wr)
 case atStart => exact ⟨_, rfl, rfl, rfl, h0⟩
 case round =>
  obtain ⟨x, rfl, rfl, rfl, hok, hx, hm, f, hf, hgo⟩ := hrel
  have hcn := dN hx hok.r hs 1 (by omega) (by omega)
  have hk4 := cN s x.r 1 (by omega)
  have hstep : ∀ f', f = f' + 1 → (if (x.r.number s 1).2.e ≠ 0 ∨ (x.r.number s 1).1 = 0 then yK x (x.r.number s 1).2 else vW s f' (fE s x (x.r.number s 1).1 (x.r.number s 1).2)) = eS s r := by
   rintro f' rfl
   exact hgo
  have hnx := fun he => hok.next hs he
  have hr1 := bX (n := 1) hok.r hs (by omega)
  generalize hT : x.r.number s 1 = T at *
  obtain ⟨k, r1⟩ := T
  dsimp only at *
  (repeat' first | ((with_reducible refine aJ ?_); go_step) | ((with_reducible refine aH ?_); first | refine aW ?_ | (refine aK ?_ ?_ <;> intro hc)) | fail)
  refine aF (vs := [.pointer (some ⟨b, 0, none⟩), .int .i64 1]) (enters_of Tryz.func43 rfl rfl) rfl rfl hcn ?_
  rintro _ w1 ⟨rfl, h1, m1⟩
  refine ⟨_, rfl, ?_⟩
  refine aA ?_
  have hp1 := aD (cs := oV s r1) h1
  have hm1 := hm.trans m1
  obtain ⟨f', rfl⟩ : ∃ f', f = f' + 1 := ⟨f - 1, by omega⟩
  have hst := hstep f' rfl
  clear hstep hgo hp hcn
  obtain ⟨at1, e1⟩ := r1
  dsimp only at *
  by_cases ce : e1 = 0
  ·subst ce
   by_cases ck : k = 0
   ·subst ck
    rw [if_pos (.inr rfl)] at hst
    unfold yK at hst
    dsimp only at hst
    rw [if_neg (by decide)] at hst
    by_cases cb : 0 ≤ x.back
    ·rw [if_pos cb] at hst
     (repeat' first | ((with_reducible refine aJ ?_); go_step) | ((with_reducible refine aH ?_); first | refine aW ?_ | (refine aK ?_ ?_ <;> intro hc)) | fail)
     all_goals first
      | (exfalso; omega)
      | skip
     refine aO (n := 1) (v := .int .i64 x.back) h1 rfl rfl rfl (by simp [oV]) (by decide +kernel) rfl ?_
     intro w2 p2
     have h2 : cR w2 b s ⟨x.back, 0⟩ := p2.this
     have hp2 := aD (cs := oV s ⟨x.back, 0⟩) h2
     clear hp1
     (repeat' first | ((with_reducible refine aJ ?_); go_step) | ((with_reducible refine aH ?_); first | refine aW ?_ | (refine aK ?_ ?_ <;> intro hc)) | fail)
     all_goals first
      | (exfalso; omega)
      | skip
     go_ret
     rw [← hst]
     exact ⟨rfl, h2, hm1.trans p2.mv⟩
    ·rw [if_neg cb] at hst
     (repeat' first | ((with_reducible refine aJ ?_); go_step) | ((with_reducible refine aH ?_); first | refine aW ?_ | (refine aK ?_ ?_ <;> intro hc)) | fail)
     all_goals first
      | (exfalso; omega)
      | skip
     go_ret
     rw [← hst]
     exact ⟨rfl, h1, hm1⟩
   ·rw [if_neg (by rintro (h | h); exact h rfl; exact ck h)] at hst
    obtain ⟨hok2, hlt2⟩ := hnx rfl
    by_cases c63 : k ≤ 63
    ·(repeat' first | ((with_reducible refine aJ ?_); go_step) | ((with_reducible refine aH ?_); first | refine aW ?_ | (refine aK ?_ ?_ <;> intro hc)) | fail)
     all_goals first
      | (exfalso; omega)
      | skip
     have hk256 : k < 256 := by omega
     have hn1 := hok.n1
     have htl := kZ s ⟨at1, 0⟩ k
     have hr2 := hr1.take hs (n := (k : Int)) (by omega)
     have hNx : fE s x k ⟨at1, 0⟩ = ⟨x.n ++ (UInt8.ofNat k :: (RdS.take s ⟨at1, 0⟩ k).1), x.begin_, x.back, (RdS.take s ⟨at1, 0⟩ k).2.want (decide ((x.n ++ (UInt8.ofNat k :: (RdS.take s ⟨at1, 0⟩ k).1)).length < 255)) 2⟩ := by unfold fE; rw [if_pos c63]
     have hcT := fun w' (h' : cR w' b s ⟨at1, 0⟩) => vV h' hr1 hs (k : Int) (by omega) (by omega)
     generalize RdS.take s ⟨at1, 0⟩ k = T at *
     obtain ⟨t, r2⟩ := T
     dsimp only at *
     refine dU (S := fun w' => Mv (some b) w1 w') (by decide +kernel) ?_
     intro w2 x2 _
     have hS2 : Mv (some b) w1 w2 := x2.mv _
     refine pN 0 ?_; refine aA ?_; refine pN 1 ?_; refine aA ?_; refine pN 2 ?_; refine aA ?_; refine pN 5 ?_; refine aA ?_; refine pN 6 ?_; refine aA ?_
     rw [AP k]
     refine PG 3 4 7 41 42 45 (fun b1 b2 b3 => (!b2 || b1)) (fun b1 b2 b3 => !b2) (fun b1 b2 b3 => b1) (fun b1 b2 b3 => true) (fun b1 b2 b3 v1 v2 v3 w' => Mv (some b) w1 w' ∧ (b1 = true → Own w1.heap.size 1 5 w' v1 (aQ [UInt8.ofNat k])) ∧ (b2 = true → v2 = aI [UInt8.ofNat k]) ∧ cR w' b s (bif b3 then r2 else ⟨at1, 0⟩) ∧ (b3 = true → v3 = aI t)) ?_ ?_ ?_ ?_ ?_
     ·exact ⟨hS2, by simp, by simp, x2.at h1, by simp⟩
     ·rintro b1 b2 b3 v1 v2 v3 w3 hq ⟨m3, f1, f2, f3, f4⟩
      have hb2 : b2 = false := by revert hq; cases b2 <;> simp
      subst hb2
      refine aA ?_
      refine bT (k := 1) (e := 5) (bytes := 1) (xs := [.int .u8 ((UInt8.ofNat k).toNat : Nat)]) rfl rfl rfl (by simp [Value.cells]) (by decide +kernel) (by simp) ?_
      intro v4 w4 x4 _ _ o4
      refine aA ?_
      have o4' : Own w1.heap.size 1 5 w4 v4 (aQ [UInt8.ofNat k]) := (show Own w3.heap.size 1 5 w4 v4 (aQ [UInt8.ofNat k]) from o4).weaken m3.size
      refine aL ⟨m3.trans (x4.mv _), _, rfl, m3.trans (x4.mv _), fun _ => o4', by simp, x4.at f3, f4⟩
     ·rintro b1 b2 b3 v1 v2 v3 w3 hq ⟨m3, f1, f2, f3, f4⟩
      have hb1 : b1 = true := by revert hq; cases b1 <;> simp
      subst hb1
      refine aA ?_
      have s1 := (f1 rfl).sl
      ((with_reducible refine aH ?_); (first | (refine iL ?_; refine fL ?_) | (refine mG ?_; refine nQ ?_; (with_reducible refine aH ?_); refine iL ?_; refine fL ?_)))
      refine aL ⟨m3, _, rfl, m3, fun _ => f1 rfl, fun _ => rfl, f3, f4⟩
     ·rintro b1 b2 b3 v1 v2 v3 w3 hq ⟨m3, f1, f2, f3, f4⟩
      refine aA ?_
      refine aF (vs := [.pointer (some ⟨b, 0, none⟩), .int .i64 (k : Nat)]) (enters_of Tryz.func98 rfl rfl) rfl rfl (hcT _ f3) ?_
      rintro _ w4 ⟨rfl, h4, m4⟩
      refine ⟨_, rfl, ?_⟩
      refine aA ?_
      refine aL ⟨m3.trans m4, _, rfl, m3.trans m4, fun e => (f1 e).mv m4 (.inr ((f1 e).neBlock f3 (by decide))), f2, h4, fun _ => rfl⟩
     ·rintro v1 v2 v3 w3 ⟨m3, f1, f2, f3, f4⟩
      obtain rfl := f2 rfl
      obtain rfl := f4 rfl
      refine pN 8 ?_; refine aA ?_; refine pN 9 ?_; refine aA ?_; refine pN 10 ?_; refine aA ?_
      refine dR (by decide +kernel) ?_
      rw [show x.n ++ ([UInt8.ofNat k] ++ t) = x.n ++ (UInt8.ofNat k :: t) from rfl]
      have h3 : cR w3 b s r2 := f3
      have hlen2 : (x.n ++ (UInt8.ofNat k :: t)).length ≤ 1000 := by rw [List.length_append, List.length_cons]; simp at htl; omega
      have hcw := fR h3 (decide ((x.n ++ (UInt8.ofNat k :: t)).length < 255)) 2
      have hd5 : decide (((x.n ++ (UInt8.ofNat k :: t)).length : Int) < 255) = decide ((x.n ++ (UInt8.ofNat k :: t)).length < 255) := by by_cases h : (x.n ++ (UInt8.ofNat k :: t)).length < 255 <;> simp only [h, decide_true, decide_false, decide_eq_true_eq, decide_eq_false_iff_not] <;> omega
      generalize hN : x.n ++ (UInt8.ofNat k :: t) = N at *
      generalize hR5 : r2.want (decide (N.length < 255)) 2 = r5 at *
      (repeat' first | ((with_reducible refine aJ ?_); go_step) | ((with_reducible refine aH ?_); first | refine aW ?_ | (refine aK ?_ ?_ <;> intro hc)) | fail)
      rw [hd5]
      refine aF (vs := [.pointer (some ⟨b, 0, none⟩), .bool (decide (N.length < 255)), .int .i64 2]) (enters_of Tryz.func44 rfl rfl) rfl rfl hcw ?_
      rintro _ w5 ⟨rfl, h5, m5⟩
      refine ⟨_, rfl, ?_⟩
      refine aA ?_
      (repeat' first | ((with_reducible refine aJ ?_); go_step) | ((with_reducible refine aH ?_); first | refine aW ?_ | (refine aK ?_ ?_ <;> intro hc)) | fail)
      refine ⟨⟨fE s x k ⟨at1, 0⟩, ?_, ?_, ?_, hok2, ?_, hm1.trans (m3.trans m5), f', by omega, hst⟩, ?_⟩
      ·rw [hNx]
      ·rw [hNx]
      ·rw [hNx]
      ·rw [hNx]; exact h5
      ·rw [rJ hx, show Value.int .i64 x.begin_ = .int .i64 (fE s x k ⟨at1, 0⟩).begin_ by rw [hNx], rJ (by rw [hNx]; exact h5)]; exact hlt2
    ·(repeat' first | ((with_reducible refine aJ ?_); go_step) | ((with_reducible refine aH ?_); first | refine aW ?_ | (refine aK ?_ ?_ <;> intro hc)) | fail)
     all_goals first
      | (exfalso; omega)
      | skip
     have hk256 : k < 256 := by simpa using hk4
     have hcw := fR h1 (decide (192 ≤ k)) 2
     have hdk : decide ((192 : Int) ≤ (k : Nat)) = decide (192 ≤ k) := by by_cases h : 192 ≤ k <;> simp [h] <;> omega
     have hw2 := hr1.want (decide (192 ≤ k)) (er := 2) (by decide)
     rw [hdk]
     refine aF (vs := [.pointer (some ⟨b, 0, none⟩), .bool (decide (192 ≤ k)), .int .i64 2]) (enters_of Tryz.func44 rfl rfl) rfl rfl hcw ?_
     rintro _ w2 ⟨rfl, h2, m2⟩
     refine ⟨_, rfl, ?_⟩
     refine aA ?_
     have hcn := dN h2 hw2 hs 1 (by omega) (by omega)
     have hk2 := cN s ((⟨at1, 0⟩ : RdS).want (decide (192 ≤ k)) 2) 1 (by omega)
     have hr3 := bX (n := 1) hw2 hs (by omega)
     have hnT : nmTo s ⟨at1, 0⟩ k = k * 256 % 16384 + (((⟨at1, 0⟩ : RdS).want (decide (192 ≤ k)) 2).number s 1).1 := rfl
     have hn4 : ∀ bg, rI s ⟨at1, 0⟩ k bg = (((⟨at1, 0⟩ : RdS).want (decide (192 ≤ k)) 2).number s 1).2.want (decide ((nmTo s ⟨at1, 0⟩ k : Int) < bg)) 2 := fun _ => rfl
     have hto := EV (s := s) (r1 := ⟨at1, 0⟩) (k := k)
     generalize ((⟨at1, 0⟩ : RdS).want (decide (192 ≤ k)) 2).number s 1 = T at *
     obtain ⟨k2, r3⟩ := T
     dsimp only at *
     have hk2' : k2 < 256 := by simpa using hk2
     (repeat' first | ((with_reducible refine aJ ?_); go_step) | ((with_reducible refine aH ?_); first | refine aW ?_ | (refine aK ?_ ?_ <;> intro hc)) | fail)
     refine aM (Runs.andN (m := k * 256) (n := 16383) rfl rfl (by omega) (by decide)) ?_
     refine aA ?_
     (repeat' first | ((with_reducible refine aJ ?_); go_step) | ((with_reducible refine aH ?_); first | refine aW ?_ | (refine aK ?_ ?_ <;> intro hc)) | fail)
     refine aF (vs := [.pointer (some ⟨b, 0, none⟩), .int .i64 1]) (enters_of Tryz.func43 rfl rfl) rfl rfl hcn ?_
     rintro _ w3 ⟨rfl, h3, m3⟩
     refine ⟨_, rfl, ?_⟩
     refine aA ?_
     have hle : k * 256 &&& 16383 ≤ k * 256 := Nat.and_le_left
     refine aM (Runs.orN (m := k * 256 &&& 16383) (n := k2) rfl rfl (by omega) (by omega)) ?_
     rw [MD k k2 hk2', ← hnT]
     refine aA ?_
     have hcw4 := fR h3 (decide ((nmTo s ⟨at1, 0⟩ k : Int) < x.begin_)) 2
     rw [← hn4] at hcw4
     have hw4 := hr3.want (decide ((nmTo s ⟨at1, 0⟩ k : Int) < x.begin_)) (er := 2) (by decide)
     rw [← hn4] at hw4
     have hNx : fE s x k ⟨at1, 0⟩ = ⟨x.n, nmTo s ⟨at1, 0⟩ k, if x.back < 0 then (rI s ⟨at1, 0⟩ k x.begin_).at_ else x.back, ⟨nmTo s ⟨at1, 0⟩ k, (rI s ⟨at1, 0⟩ k x.begin_).e⟩⟩ := by unfold fE; rw [if_neg c63]
     generalize rI s ⟨at1, 0⟩ k x.begin_ = r4 at *
     generalize nmTo s ⟨at1, 0⟩ k = to at *
     (repeat' first | ((with_reducible refine aJ ?_); go_step) | ((with_reducible refine aH ?_); first | refine aW ?_ | (refine aK ?_ ?_ <;> intro hc)) | fail)
     refine aF (vs := [.pointer (some ⟨b, 0, none⟩), .bool (decide ((to : Int) < x.begin_)), .int .i64 2]) (enters_of Tryz.func44 rfl rfl) rfl rfl hcw4 ?_
     rintro _ w4 ⟨rfl, h4, m4⟩
     refine ⟨_, rfl, ?_⟩
     refine aA ?_
     have hp4 := aD (cs := oV s r4) h4
     have hm4 := hm1.trans (m2.trans (m3.trans m4))
     clear hp1
     by_cases cb : x.back < 0
     ·rw [if_pos cb] at hNx
      (repeat' first | ((with_reducible refine aJ ?_); go_step) | ((with_reducible refine aH ?_); first | refine aW ?_ | (refine aK ?_ ?_ <;> intro hc)) | fail)
      all_goals first
       | (exfalso; omega)
       | skip
      refine aO (n := 1) (v := .int .i64 (to : Nat)) h4 rfl rfl rfl (by simp [oV]) (by decide +kernel) rfl ?_
      intro w5 p5
      have h5 : cR w5 b s ⟨to, r4.e⟩ := p5.this
      (repeat' first | ((with_reducible refine aJ ?_); go_step) | ((with_reducible refine aH ?_); first | refine aW ?_ | (refine aK ?_ ?_ <;> intro hc)) | fail)
      refine ⟨⟨fE s x k ⟨at1, 0⟩, ?_, ?_, ?_, hok2, ?_, hm4.trans p5.mv, f', by omega, hst⟩, ?_⟩
      ·rw [hNx]
      ·rw [hNx]
      ·rw [hNx]
      ·rw [hNx]; exact h5
      ·rw [rJ hx, show Value.int .i64 ((to : Nat) : Int) = .int .i64 (fE s x k ⟨at1, 0⟩).begin_ by rw [hNx], rJ (by rw [hNx]; exact h5)]; exact hlt2
     ·rw [if_neg cb] at hNx
      (repeat' first | ((with_reducible refine aJ ?_); go_step) | ((with_reducible refine aH ?_); first | refine aW ?_ | (refine aK ?_ ?_ <;> intro hc)) | fail)
      all_goals first
       | (exfalso; omega)
       | skip
      refine aO (n := 1) (v := .int .i64 (to : Nat)) h4 rfl rfl rfl (by simp [oV]) (by decide +kernel) rfl ?_
      intro w5 p5
      have h5 : cR w5 b s ⟨to, r4.e⟩ := p5.this
      (repeat' first | ((with_reducible refine aJ ?_); go_step) | ((with_reducible refine aH ?_); first | refine aW ?_ | (refine aK ?_ ?_ <;> intro hc)) | fail)
      refine ⟨⟨fE s x k ⟨at1, 0⟩, ?_, ?_, ?_, hok2, ?_, hm4.trans p5.mv, f', by omega, hst⟩, ?_⟩
      ·rw [hNx]
      ·rw [hNx]
      ·rw [hNx]
      ·rw [hNx]; exact h5
      ·rw [rJ hx, show Value.int .i64 ((to : Nat) : Int) = .int .i64 (fE s x k ⟨at1, 0⟩).begin_ by rw [hNx], rJ (by rw [hNx]; exact h5)]; exact hlt2
  ·rw [if_pos (.inl ce)] at hst
   unfold yK at hst
   dsimp only at hst
   rw [if_pos ce] at hst
   by_cases cb : 0 ≤ x.back
   ·rw [if_pos cb] at hst
    (repeat' first | ((with_reducible refine aJ ?_); go_step) | ((with_reducible refine aH ?_); first | refine aW ?_ | (refine aK ?_ ?_ <;> intro hc)) | fail)
    all_goals first
     | (exfalso; omega)
     | (exfalso; have hh := ‹(!decide (e1 = 0)) = false›; simp [ce] at hh; done)
     | skip
    refine aO (n := 1) (v := .int .i64 x.back) h1 rfl rfl rfl (by simp [oV]) (by decide +kernel) rfl ?_
    intro w2 p2
    have h2 : cR w2 b s ⟨x.back, e1⟩ := p2.this
    have hp2 := aD (cs := oV s ⟨x.back, e1⟩) h2
    clear hp1
    (repeat' first | ((with_reducible refine aJ ?_); go_step) | ((with_reducible refine aH ?_); first | refine aW ?_ | (refine aK ?_ ?_ <;> intro hc)) | fail)
    all_goals first
     | (exfalso; omega)
     | (exfalso; have hh := ‹(!decide (e1 = 0)) = false›; simp [ce] at hh; done)
     | skip
    go_ret
    rw [← hst]
    exact ⟨rfl, h2, hm1.trans p2.mv⟩
   ·rw [if_neg cb] at hst
    (repeat' first | ((with_reducible refine aJ ?_); go_step) | ((with_reducible refine aH ?_); first | refine aW ?_ | (refine aK ?_ ?_ <;> intro hc)) | fail)
    all_goals first
     | (exfalso; omega)
     | (exfalso; have hh := ‹(!decide (e1 = 0)) = false›; simp [ce] at hh; done)
     | skip
    go_ret
    rw [← hst]
    exact ⟨rfl, h1, hm1⟩
def EX (n : List UInt8) : List UInt8 := if (aX n).isSome = true then n ++ [0] else []
def RdS.host (s : List UInt8) (r : RdS) : List UInt8 × RdS := (EX (eS s r).1, (eS s r).2)
theorem zK {w : World} {b : Nat} {s : List UInt8} {r : RdS} (h : cR w b s r) (hr : r.Ok s) (hs : s.length ≤ 100000000) : Calls Tryz.prog 147 #[.pointer (some ⟨b, 0, none⟩)] w (jM w b s (aI (r.host s).1) (r.host s).2) := by
 obtain ⟨n1, n2⟩ := nC hr hs
 have hH := fun w => RF (eS s r).1 w (by omega)
 have hcn := DP h hr hs
 unfold RdS.host EX
 generalize eS s r = N at *
 go_enter Tryz.func147, Tryz.ntmps147
 (repeat' first | ((with_reducible refine aJ ?_); go_step) | ((with_reducible refine aH ?_); first | refine aW ?_ | (refine aK ?_ ?_ <;> intro hc)) | fail)
 refine aF (vs := [.pointer (some ⟨b, 0, none⟩)]) (enters_of Tryz.func45 rfl rfl) rfl rfl hcn ?_
 rintro _ w1 ⟨rfl, h1, m1⟩
 refine ⟨_, rfl, ?_⟩
 refine aA ?_
 by_cases hl : (aX N.1).isSome = true
 ·rw [if_pos hl] at hH
  (repeat' first | ((with_reducible refine aJ ?_); go_step) | ((with_reducible refine aH ?_); first | refine aW ?_ | (refine aK ?_ ?_ <;> intro hc)) | fail)
  refine aE (enters_of Tryz.func184 rfl rfl) rfl rfl (hH _) ?_; intro w2 x2; refine aA ?_
  (repeat' first | ((with_reducible refine aJ ?_); go_step) | ((with_reducible refine aH ?_); first | refine aW ?_ | (refine aK ?_ ?_ <;> intro hc)) | fail)
  go_ret
  rw [if_pos hl]
  exact ⟨rfl, x2.at h1, m1.trans (x2.mv _)⟩
 ·rw [if_neg hl] at hH
  (repeat' first | ((with_reducible refine aJ ?_); go_step) | ((with_reducible refine aH ?_); first | refine aW ?_ | (refine aK ?_ ?_ <;> intro hc)) | fail)
  refine aE (enters_of Tryz.func184 rfl rfl) rfl rfl (hH _) ?_; intro w2 x2; refine aA ?_
  (repeat' first | ((with_reducible refine aJ ?_); go_step) | ((with_reducible refine aH ?_); first | refine aW ?_ | (refine aK ?_ ?_ <;> intro hc)) | fail)
  go_ret
  rw [if_neg hl]
  exact ⟨rfl, x2.at h1, m1.trans (x2.mv _)⟩
theorem kE {s : List UInt8} {r : RdS} (hr : r.Ok s) (hs : s.length ≤ 100000000) : (r.host s).1.length ≤ 255 ∧ (r.host s).2.Ok s := by
 obtain ⟨n1, n2⟩ := nC hr hs
 unfold RdS.host EX
 refine ⟨?_, n2⟩
 dsimp only
 split
 ·rw [List.length_append]; simp; omega
 ·exact Nat.zero_le _
def RdS.data (s : List UInt8) (r : RdS) (kind n : Int) : List UInt8 × RdS :=
 let r0 := r.want (decide (r.at_ + n ≤ (s.length : Int))) 3
 if r0.e ≠ 0 then ([], r0) else
 let o : List UInt8 × RdS := if kind = 2 ∨ kind = 5 ∨ kind = 12 then r0.host s
  else if kind = 15 then ((r0.take s 2).1 ++ ((r0.take s 2).2.host s).1, ((r0.take s 2).2.host s).2)
  else if kind = 6 then ((r0.host s).1 ++ ((r0.host s).2.host s).1 ++ (((r0.host s).2.host s).2.take s 20).1, (((r0.host s).2.host s).2.take s 20).2)
  else r0.take s n
 (o.1, o.2.want (decide (o.2.at_ = r.at_ + n)) 2)
set_option maxHeartbeats 2000000 in
theorem ON {w : World} {b : Nat} {s : List UInt8} {r : RdS} (h : cR w b s r) (hr : r.Ok s) (hs : s.length ≤ 1000000) (kind n : Int) (hn0 : 0 ≤ n) (hn1 : n ≤ 65535) : Calls Tryz.prog 99 #[.pointer (some ⟨b, 0, none⟩), .int .i64 kind, .int .i64 n] w (jM w b s (aI (r.data s kind n).1) (r.data s kind n).2) := by
 have hp := aD (cs := oV s r) h
 have a0 := hr.lo
 have a2 := hr.far
 have hs8 : s.length ≤ 100000000 := by omega
 have hcw := fR h (decide (r.at_ + n ≤ (s.length : Int))) 3
 have hw := hr.want (decide (r.at_ + n ≤ (s.length : Int))) (er := 3) (by decide)
 unfold RdS.data
 generalize r.want (decide (r.at_ + n ≤ (s.length : Int))) 3 = r0 at *
 dsimp only
 generalize hend : r.at_ + n = en at *
 have hen : en ≤ 200000000 := by omega
 go_enter Tryz.func99, Tryz.ntmps99
 (repeat' first | ((with_reducible refine aJ ?_); go_step) | ((with_reducible refine aH ?_); first | refine aW ?_ | (refine aK ?_ ?_ <;> intro hc)) | fail)
 rw [hend]
 refine aF (vs := [.pointer (some ⟨b, 0, none⟩), .bool (decide (en ≤ (s.length : Int))), .int .i64 3]) (enters_of Tryz.func44 rfl rfl) rfl rfl hcw ?_
 rintro _ w1 ⟨rfl, h1, m1⟩
 refine ⟨_, rfl, ?_⟩
 refine aA ?_
 by_cases c0 : r0.e = 0
 ·rw [decide_eq_true c0]
  by_cases c1 : kind = 2 ∨ kind = 5 ∨ kind = 12
  ·have hb2 := kE hw hs8
   (repeat' first | ((with_reducible refine aJ ?_); go_step) | ((with_reducible refine aH ?_); first | refine aW ?_ | (refine aK ?_ ?_ <;> intro hc)) | fail)
   all_goals first
    | (exfalso; omega)
    | skip
   all_goals (
    refine aF (vs := [.pointer (some ⟨b, 0, none⟩)]) (enters_of Tryz.func147 rfl rfl) rfl rfl (zK h1 hw hs8) ?_
    rintro _ w2 ⟨rfl, h2, m2⟩
    refine ⟨_, rfl, ?_⟩
    refine aA ?_
    have hK := h2
    have mK := m1.trans m2
    have hpK := aD (cs := oV s (r0.host s).2) hK
    have hwK := fR hK (decide (((r0.host s).2).at_ = en)) 2
    (repeat' first | ((with_reducible refine aJ ?_); go_step) | ((with_reducible refine aH ?_); first | refine aW ?_ | (refine aK ?_ ?_ <;> intro hc)) | fail)
    refine aF (vs := [.pointer (some ⟨b, 0, none⟩), .bool (decide (((r0.host s).2).at_ = en)), .int .i64 2]) (enters_of Tryz.func44 rfl rfl) rfl rfl hwK ?_
    rintro _ w9 ⟨rfl, h9, m9⟩
    refine ⟨_, rfl, ?_⟩
    refine aA ?_
    (repeat' first | ((with_reducible refine aJ ?_); go_step) | ((with_reducible refine aH ?_); first | refine aW ?_ | (refine aK ?_ ?_ <;> intro hc)) | fail)
    go_ret
    rw [if_neg (by simpa using c0), if_pos c1]
    exact ⟨rfl, h9, mK.trans m9⟩
   )
  ·by_cases c2 : kind = 15
   ·have ht2 := kZ s r0 2
    have hb2 := hw.take hs8 (n := 2) (by omega)
    have hb3 := kE hb2 hs8
    (repeat' first | ((with_reducible refine aJ ?_); go_step) | ((with_reducible refine aH ?_); first | refine aW ?_ | (refine aK ?_ ?_ <;> intro hc)) | fail)
    all_goals first
     | (exfalso; omega)
     | skip
    refine aF (vs := [.pointer (some ⟨b, 0, none⟩), .int .i64 2]) (enters_of Tryz.func98 rfl rfl) rfl rfl (vV h1 hw hs8 2 (by omega) (by omega)) ?_
    rintro _ w2 ⟨rfl, h2, m2⟩
    refine ⟨_, rfl, ?_⟩
    refine aA ?_
    (repeat' first | ((with_reducible refine aJ ?_); go_step) | ((with_reducible refine aH ?_); first | refine aW ?_ | (refine aK ?_ ?_ <;> intro hc)) | fail)
    refine aF (vs := [.pointer (some ⟨b, 0, none⟩)]) (enters_of Tryz.func147 rfl rfl) rfl rfl (zK h2 hb2 hs8) ?_
    rintro _ w3 ⟨rfl, h3, m3⟩
    refine ⟨_, rfl, ?_⟩
    refine aA ?_
    have hK := h3
    have mK := m1.trans (m2.trans m3)
    have hpK := aD (cs := oV s ((r0.take s 2).2.host s).2) hK
    have hwK := fR hK (decide ((((r0.take s 2).2.host s).2).at_ = en)) 2
    (repeat' first | ((with_reducible refine aJ ?_); go_step) | ((with_reducible refine aH ?_); first | refine aW ?_ | (refine aK ?_ ?_ <;> intro hc)) | fail)
    refine aF (vs := [.pointer (some ⟨b, 0, none⟩), .bool (decide ((((r0.take s 2).2.host s).2).at_ = en)), .int .i64 2]) (enters_of Tryz.func44 rfl rfl) rfl rfl hwK ?_
    rintro _ w9 ⟨rfl, h9, m9⟩
    refine ⟨_, rfl, ?_⟩
    refine aA ?_
    (repeat' first | ((with_reducible refine aJ ?_); go_step) | ((with_reducible refine aH ?_); first | refine aW ?_ | (refine aK ?_ ?_ <;> intro hc)) | fail)
    go_ret
    rw [if_neg (by simpa using c0), if_neg c1, if_pos c2]
    exact ⟨rfl, h9, mK.trans m9⟩
   ·by_cases c3 : kind = 6
    ·have hb2 := kE hw hs8
     have hb3 := kE hb2.2 hs8
     have ht4 := kZ s ((r0.host s).2.host s).2 20
     (repeat' first | ((with_reducible refine aJ ?_); go_step) | ((with_reducible refine aH ?_); first | refine aW ?_ | (refine aK ?_ ?_ <;> intro hc)) | fail)
     all_goals first
      | (exfalso; omega)
      | skip
     refine aF (vs := [.pointer (some ⟨b, 0, none⟩)]) (enters_of Tryz.func147 rfl rfl) rfl rfl (zK h1 hw hs8) ?_
     rintro _ w2 ⟨rfl, h2, m2⟩
     refine ⟨_, rfl, ?_⟩
     refine aA ?_
     (repeat' first | ((with_reducible refine aJ ?_); go_step) | ((with_reducible refine aH ?_); first | refine aW ?_ | (refine aK ?_ ?_ <;> intro hc)) | fail)
     refine aF (vs := [.pointer (some ⟨b, 0, none⟩)]) (enters_of Tryz.func147 rfl rfl) rfl rfl (zK h2 hb2.2 hs8) ?_
     rintro _ w3 ⟨rfl, h3, m3⟩
     refine ⟨_, rfl, ?_⟩
     refine aA ?_
     (repeat' first | ((with_reducible refine aJ ?_); go_step) | ((with_reducible refine aH ?_); first | refine aW ?_ | (refine aK ?_ ?_ <;> intro hc)) | fail)
     refine aF (vs := [.pointer (some ⟨b, 0, none⟩), .int .i64 20]) (enters_of Tryz.func98 rfl rfl) rfl rfl (vV h3 hb3.2 hs8 20 (by omega) (by omega)) ?_
     rintro _ w4 ⟨rfl, h4, m4⟩
     refine ⟨_, rfl, ?_⟩
     refine aA ?_
     have hK := h4
     have mK := m1.trans (m2.trans (m3.trans m4))
     have hpK := aD (cs := oV s (((r0.host s).2.host s).2.take s 20).2) hK
     have hwK := fR hK (decide (((((r0.host s).2.host s).2.take s 20).2).at_ = en)) 2
     (repeat' first | ((with_reducible refine aJ ?_); go_step) | ((with_reducible refine aH ?_); first | refine aW ?_ | (refine aK ?_ ?_ <;> intro hc)) | fail)
     refine aF (vs := [.pointer (some ⟨b, 0, none⟩), .bool (decide (((((r0.host s).2.host s).2.take s 20).2).at_ = en)), .int .i64 2]) (enters_of Tryz.func44 rfl rfl) rfl rfl hwK ?_
     rintro _ w9 ⟨rfl, h9, m9⟩
     refine ⟨_, rfl, ?_⟩
     refine aA ?_
     (repeat' first | ((with_reducible refine aJ ?_); go_step) | ((with_reducible refine aH ?_); first | refine aW ?_ | (refine aK ?_ ?_ <;> intro hc)) | fail)
     go_ret
     rw [if_neg (by simpa using c0), if_neg c1, if_neg c2, if_pos c3]
     exact ⟨rfl, h9, mK.trans m9⟩
    ·(repeat' first | ((with_reducible refine aJ ?_); go_step) | ((with_reducible refine aH ?_); first | refine aW ?_ | (refine aK ?_ ?_ <;> intro hc)) | fail)
     all_goals first
      | (exfalso; omega)
      | skip
     refine aF (vs := [.pointer (some ⟨b, 0, none⟩), .int .i64 n]) (enters_of Tryz.func98 rfl rfl) rfl rfl (vV h1 hw hs8 n (by omega) (by omega)) ?_
     rintro _ w2 ⟨rfl, h2, m2⟩
     refine ⟨_, rfl, ?_⟩
     refine aA ?_
     have hK := h2
     have mK := m1.trans m2
     have hpK := aD (cs := oV s (r0.take s n).2) hK
     have hwK := fR hK (decide (((r0.take s n).2).at_ = en)) 2
     (repeat' first | ((with_reducible refine aJ ?_); go_step) | ((with_reducible refine aH ?_); first | refine aW ?_ | (refine aK ?_ ?_ <;> intro hc)) | fail)
     refine aF (vs := [.pointer (some ⟨b, 0, none⟩), .bool (decide (((r0.take s n).2).at_ = en)), .int .i64 2]) (enters_of Tryz.func44 rfl rfl) rfl rfl hwK ?_
     rintro _ w9 ⟨rfl, h9, m9⟩
     refine ⟨_, rfl, ?_⟩
     refine aA ?_
     (repeat' first | ((with_reducible refine aJ ?_); go_step) | ((with_reducible refine aH ?_); first | refine aW ?_ | (refine aK ?_ ?_ <;> intro hc)) | fail)
     go_ret
     rw [if_neg (by simpa using c0), if_neg c1, if_neg c2, if_neg c3]
     exact ⟨rfl, h9, mK.trans m9⟩
 ·rw [decide_eq_false c0]
  (repeat' first | ((with_reducible refine aJ ?_); go_step) | ((with_reducible refine aH ?_); first | refine aW ?_ | (refine aK ?_ ?_ <;> intro hc)) | fail)
  go_ret
  rw [if_pos (by simpa using c0)]
  exact ⟨rfl, h1, m1⟩
section
variable {P : Program} {ops : Array Oper} {Q : Exit → Act → World → Prop} {w : World} {rest : List Oper} {ts : List Value} {df : List Deferred} {ty : TypeId} {ps : String} {af : Array Edge} {g : Option (Nat × Bool)}
theorem gD (s : List UInt8) : Lib.strCells ⟨s.toArray⟩ = (aQ s).flatten := by
 induction s with
 | nil => rfl
 | cons x s ih =>
  simp only [Lib.strCells, aQ, List.map_cons, List.flatten_cons] at ih ⊢
  rw [ih]
  rfl
theorem zL (t u ty e : TypeId) (i : TypeInfo) (ht : P.underlying t = some (.slice e)) (hu : P.underlying u = some .string) (hi : P.info? e = some i) (hs1 : i.size = 1)
 (g sLen sCap : Nat) (cur : Array Value) (fz : Nat × Nat) (hg : w.heap[g]? = some (.cells cur e fz)) (hfz : fz.2 ≤ fz.1 ∨ cur.size ≤ fz.1) (s : ByteArray)
 (hroom : sLen + s.size ≤ sCap) (hfit : sLen + s.size ≤ cur.size) :
 (Builtin.append_ #[t, u] ty #[.slice (some ⟨g, 0, none⟩) sLen sCap, .string s]).run P w =
   .ok (.slice (some ⟨g, 0, none⟩) (sLen + s.size) sCap) (w.setRow g (cur.toList.take sLen ++ Lib.strCells s ++ cur.toList.drop (sLen + s.size)).toArray) := by
 have hf := Lib.run_firstCells_string (P := P) w 1 s
 have hst := dP P g sLen e fz (Lib.strCells s) 0 cur w hg hfz (by simpa [Lib.strCells_length] using hfit) (Lib.strCells_oneCell s)
 simp only [Nat.add_zero, Lib.strCells_length] at hst
 simp [Builtin.append_, run_underlying ht, run_underlying hu, sizeOf, typeInfo, hi, hs1, Builtin.lenOf, hroom, hf, Addr.add_lit, hst]
theorem wL {t u e B : Nat} {ty : TypeId} {v : Value} {l s : List UInt8} (ht : kS P t e 1 1 = true) (hu : P.underlying u = some .string) (h : Own B 1 e w v (aQ l))
 (hB : B ≤ w.heap.size) (hm : l.length + s.length ≤ 140737488355328) :
 ∃ v' w', (Builtin.append_ #[t, u] ty #[v, aI s]).run P w = .ok v' w' ∧ Own B 1 e w' v' (aQ (l ++ s)) ∧ Mv v.ownBlock w w' := by
 obtain ⟨hut, i, z, hi, hz, hzc, hs, hby, _⟩ := jD ht
 obtain ⟨⟨hx1, hrow⟩, heach⟩ := h
 have hbl : ∀ l : List UInt8, (aQ l).length = l.length := fun l => by simp [aQ]
 have hbf : ∀ l : List UInt8, (aQ l).flatten.length = l.length := fun l => by rw [← gD, Lib.strCells_length]; rfl
 have happ : (aQ (l ++ s)).flatten = (aQ l).flatten ++ (aQ s).flatten := by simp [aQ]
 have hone : ∀ x ∈ aQ (l ++ s), x.length = 1 := by intro x hx; simp only [aQ, List.mem_map] at hx; obtain ⟨_, _, rfl⟩ := hx; rfl
 have hss : (⟨s.toArray⟩ : ByteArray).size = s.length := rfl
 have hsmall : l.length + s.length ≤ 9223372036854775807 := by omega
 have hmax : l.length + s.length ≤ maxLen := by unfold maxLen; omega
 rw [hbl] at hrow
 rcases hrow with ⟨rfl, hn0⟩ | ⟨g, cap, cur, fz, rfl, hbg, hg, hfz, hnc, hcm, hcs, htake⟩
 ·have hl0 : l = [] := List.eq_nil_of_length_eq_zero hn0
  subst hl0
  by_cases hm0 : s.length = 0
  ·refine ⟨.slice none 0 0, w, ?_, by rw [List.eq_nil_of_length_eq_zero hm0]; exact Own.nil _ _ _ _, Mv.refl _ _⟩
   have hf := Lib.run_firstCells_string (P := P) w 1 ⟨s.toArray⟩
   have hn : Lib.strCells ⟨s.toArray⟩ = [] := by rw [gD, List.eq_nil_of_length_eq_zero hm0]; rfl
   rw [hn] at hf
   have hz0 : (⟨s.toArray⟩ : ByteArray).size = 0 := hm0
   unfold aI
   generalize (⟨s.toArray⟩ : ByteArray) = sb at *
   rw [hz0] at hf
   simp [Builtin.append_, run_underlying hut, run_underlying hu, sizeOf, typeInfo, hi, hs, Builtin.lenOf, hz0, hf]
  ·have hr := run_append_nil_string (P := P) w t u ty e i z hut hu hi hz ⟨s.toArray⟩ (by rw [hss]; omega) (by rw [hss]; simp at hm; omega) (by rw [hby, hss]; simp at hm; omega)
   have hge := grownCap_ge w s.length 0 e
   have hcm' : grownCap w s.length 0 e ≤ maxLen := grownCap_le_maxLen w s.length 0 e (by simpa using hmax)
   have e1 : ((⟨s.toArray⟩ : ByteArray).data.map fun b => Value.int .u8 b.toNat) = (aQ s).flatten.toArray := by
    rw [← gD]
    apply Array.ext'
    simp [Lib.strCells]
   rw [e1, hss] at hr
   refine ⟨_, _, hr, ⟨⟨?_, .inr ⟨w.heap.size, grownCap w s.length 0 e, _, (0, 0), ?_, hB, heap_alloc_new w.drew _, .inl (Nat.le_refl _), ?_, hcm', ?_, ?_⟩⟩, hone⟩, ⟨rfl, rfl, rfl, by simp, fun k hk _ => (Ext.alloc w.drew _).block k hk, Nat.le_succ _⟩⟩
   ·rw [hbf, hbl]; simp
   ·rw [hbl]; simp
   ·rw [hbl]; simpa using hge
   ·simp only [Array.size_append, List.size_toArray, size_zeroCells, hzc, hbf]
    omega
   ·rw [hbl]
    simp only [Array.toList_append, List.nil_append]
    have : s.length * 1 = (aQ s).flatten.length := by rw [hbf]; omega
    rw [this]
    exact List.take_left
 ·have hcz : cur.size = cap := by simpa using hcs
  have htk : cur.toList.take l.length = (aQ l).flatten := by simpa using htake
  by_cases hroom : l.length + s.length ≤ cap
  ·have hr := zL (P := P) (w := w) t u ty e i hut hu hi hs g l.length cap cur fz hg hfz ⟨s.toArray⟩ hroom (by rw [hss]; omega)
   refine ⟨_, _, hr, ⟨⟨?_, .inr ⟨g, cap, _, fz, ?_, hbg, setRow_heap w g cur _ e _ hg, ?_, ?_, hcm, ?_, ?_⟩⟩, hone⟩, ⟨rfl, rfl, rfl, by simp, fun k _ hk => setRow_other w g k _ (fun e => hk (by simp [Value.ownBlock, e])), Nat.le_refl _⟩⟩
   ·rw [hbf, hbl]; simp
   ·rw [hbl, hss]; simp
   ·simp only [List.size_toArray, List.length_append, List.length_take, List.length_drop, Array.length_toList, Lib.strCells_length, hss]
    omega
   ·rw [hbl]; simpa using hroom
   ·simp only [List.size_toArray, List.length_append, List.length_take, List.length_drop, Array.length_toList, Lib.strCells_length, hss]
    omega
   ·rw [htk, gD, ← happ, hbl]
    have : (l ++ s).length * 1 = (aQ (l ++ s)).flatten.length := by rw [hbf]; omega
    rw [this]
    simp only [List.append_assoc]
    exact List.take_left
  ·have holds : ∀ j u, (aQ l).flatten[j]? = some u → w.cell? ((⟨g, 0, none⟩ : Addr).add j) = some u := by
    intro j u hj
    rw [dB, cell_of_row w g _ cur _ fz hg]
    rw [← htk, List.getElem?_take] at hj
    split at hj
    ·rw [Nat.zero_add]; simpa using hj
    ·cases hj
   have hr := Lib.run_append_grow_string (P := P) w t u ty e i z hut hu hi hz ⟨g, 0, none⟩ l.length cap (aQ l).flatten (by rw [hs, hbf]; omega) holds ⟨s.toArray⟩ (by rw [hss]; omega) (by rw [hss]; omega) (by rw [hby, hss]; exact growslice_fits (by omega) (by omega))
   rw [hss] at hr
   have hge := grownCap_ge w (l.length + s.length) cap e
   have hcm' : grownCap w (l.length + s.length) cap e ≤ maxLen := grownCap_le_maxLen w (l.length + s.length) cap e hmax
   refine ⟨_, _, hr, ⟨⟨?_, .inr ⟨w.heap.size, grownCap w (l.length + s.length) cap e, _, (0, 0), ?_, hB, heap_alloc_new w.drew _, .inl (Nat.le_refl _), ?_, hcm', ?_, ?_⟩⟩, hone⟩, ⟨rfl, rfl, rfl, by simp, fun k hk _ => (Ext.alloc w.drew _).block k hk, Nat.le_succ _⟩⟩
   ·rw [hbf, hbl]; simp
   ·rw [hbl]; simp
   ·rw [hbl]; simpa using hge
   ·simp only [Array.size_append, List.size_toArray, size_zeroCells, hzc, hbf, Lib.strCells_length, hss]
    omega
   ·rw [hbl]
    simp only [Array.toList_append, List.append_assoc, gD]
    have : (l ++ s).length * 1 = ((aQ l).flatten ++ (aQ s).flatten).length := by rw [← happ, hbf]; omega
    rw [this, ← List.append_assoc, happ]
    exact List.take_left
theorem wM {t u e B d : Nat} {x0 y : Operand} {v0 : Value} {l s : List UInt8} (h0 : (Act.mk ts.toArray df).eval x0 = v0)
 (h : Own B 1 e w v0 (aQ l)) (hy : (Act.mk ts.toArray df).eval y = aI s) (hB : B ≤ w.heap.size) (hm : l.length + s.length ≤ 140737488355328)
 (hk : ∀ v' w', Own B 1 e w' v' (aQ (l ++ s)) → Mv v0.ownBlock w w' → wpList P ops Q rest (Act.mk (ts.set d v').toArray df) w')
 (ht : kS P t e 1 1 = true := by decide +kernel) (hu : P.underlying u = some .string := by decide +kernel) :
 wpList P ops Q (Oper.mk (some d) (.call ⟨.builtin .append, #[x0, y], #[t, u]⟩) ty ps af none :: rest) (Act.mk ts.toArray df) w := by
 obtain ⟨v', w', hr, ho, hmv⟩ := wL (P := P) (ty := ty) ht hu h hB hm
 refine wpList_plain rfl fun K hK => ?_
 unfold Oper.wp execOp
 simp only [resolve, invoke, builtin, Sem.run_bind, Sem.run_pure, Result.andThen_ok, List.map_toArray, List.map_cons, List.map_nil, h0, hy, hr]
 refine hK _ _ ?_
 have := hk v' w' ho hmv
 simpa [Act.put] using this
end
def OO (ps : List (List UInt8 × Nat)) : List (Value × Value) := ps.map fun p => (aI p.1, .int .i64 (p.2 : Nat))
def wN (v : Value) (m : Nat) : List Value := [v, .map (some m)]
structure WrAt (w0 w : World) (b m : Nat) (l : List UInt8) (ps : List (List UInt8 × Nat)) : Prop where
 hb : w0.heap.size ≤ b
 hm : w0.heap.size ≤ m
 ne : b ≠ m
 ext : Ext w0 w
 blk : ∃ v, w.heap[b]? = some (.cells (wN v m).toArray 99 (0, 0)) ∧ Own w0.heap.size 1 5 w v (aQ l)
 map : MapAt Tryz.prog 47 w m (OO ps)
def Kp (w w' : World) : Prop := ∀ (k : Nat) (cs : Array Value) (t : TypeId) (fz : Nat × Nat), t ≠ 99 → t ≠ 5 → w.heap[k]? = some (.cells cs t fz) → w'.heap[k]? = some (.cells cs t fz)
theorem Kp.refl (w : World) : Kp w w := fun _ _ _ _ _ _ h => h
theorem Kp.trans {w w1 w2 : World} (h : Kp w w1) (k : Kp w1 w2) : Kp w w2 := fun n cs t fz a c x => k n cs t fz a c (h n cs t fz a c x)
theorem Ext.kp {w w' : World} (h : Ext w w') : Kp w w' := fun _ _ _ _ _ _ x => h.at x
theorem Mv.kpRow {B k : Nat} {w w' : World} {v : Value} {es : List (List Value)} (ho : Own B k 5 w v es) (h : Mv v.ownBlock w w') : Kp w w' :=
 fun _ _ _ _ _ hu x => h.at x (fun e => ho.neBlock x hu e.symm)
theorem Mv.kpBox {w w' : World} {b : Nat} {cs : Array Value} {fz : Nat × Nat} (hB : w.heap[b]? = some (.cells cs 99 fz)) (h : Mv (some b) w w') : Kp w w' :=
 fun _ _ _ _ hw _ x => h.at x (by intro e; cases e; rw [hB] at x; simp only [Option.some.injEq, Obj.cells.injEq] at x; exact hw x.2.1.symm)
theorem Mv.kpMap {w w' : World} {m : Nat} {ents : List (Value × Value)} {kt : TypeId} (hM : MapAt Tryz.prog kt w m ents) (h : Mv (some m) w w') : Kp w w' :=
 fun _ _ _ _ _ _ x => h.at x (by intro e; cases e; obtain ⟨es, ck, hme, _⟩ := hM.out; rw [hme] at x; cases x)
def sR (w0 w : World) (b m : Nat) (l : List UInt8) (ps : List (List UInt8 × Nat)) (e : Ending) (w' : World) : Prop := e = .returned (.tuple #[]) ∧ WrAt w0 w' b m l ps ∧ Kp w w'
def aU (n : Nat) : List UInt8 := [UInt8.ofNat (n / 256), UInt8.ofNat n]
theorem vX {w0 w : World} {b m : Nat} {l : List UInt8} {ps : List (List UInt8 × Nat)} (h : WrAt w0 w b m l ps) (s : List UInt8) (hl : l.length + s.length ≤ 100000000000000) : Calls Tryz.prog 104 #[.pointer (some ⟨b, 0, none⟩), aI s] w (sR w0 w b m (l ++ s) ps) := by
 obtain ⟨hb, hm, hbm, hx, ⟨v, hB, ho⟩, hM⟩ := h
 have hp := aD (cs := wN v m) hB
 go_enter Tryz.func104, Tryz.ntmps104
 (repeat' first | ((with_reducible refine aJ ?_); go_step) | ((with_reducible refine aH ?_); first | refine aW ?_ | (refine aK ?_ ?_ <;> intro hc)) | fail)
 refine wM (e := 5) (v0 := v) rfl ho rfl hx.size (by omega) ?_ (by decide +kernel) (by kernel_rfl)
 intro v1 w1 o1 m1
 refine aA ?_
 have hB1 := m1.at hB (fun e => (ho.neBlock hB (by decide)) e.symm)
 have hM1 := hM.mvr m1 ho rfl
 have x1 : Ext w0 w1 := hx.move m1 (fun k e => (ho.block k e).1)
 clear hp
 (repeat' first | ((with_reducible refine aJ ?_); go_step) | ((with_reducible refine aH ?_); first | refine aW ?_ | (refine aK ?_ ?_ <;> intro hc)) | fail)
 refine aO (n := 0) (v := v1) hB1 rfl rfl rfl (by simp [wN]) (by decide +kernel) o1.one ?_
 intro w2 p2
 have x2 : Ext w0 w2 := x1.move p2.mv (by rintro k ⟨⟩; exact hb)
 have hB2 : w2.heap[b]? = some (.cells (wN v1 m).toArray 99 (0, 0)) := p2.this
 have o2 := o1.mv p2.mv (.inr (o1.neBlock hB1 (by decide)))
 have hM2 := hM1.at (fun o h => p2.mv.at h (by intro e; exact hbm (Option.some.inj e).symm))
 (repeat' first | ((with_reducible refine aJ ?_); go_step) | ((with_reducible refine aH ?_); first | refine aW ?_ | (refine aK ?_ ?_ <;> intro hc)) | fail)
 go_end0
 exact ⟨rfl, ⟨hb, hm, hbm, x2, ⟨v1, hB2, o2⟩, hM2⟩, (Mv.kpRow ho m1).trans (Mv.kpBox hB1 p2.mv)⟩
theorem kF (n : Nat) : IntKind.u8.wrap ((n : Nat) : Int) = (((UInt8.ofNat n).toNat : Nat) : Int) := by
 simp [IntKind.wrap, IntKind.signed, IntKind.bits]
theorem iN {w0 w : World} {b m : Nat} {l : List UInt8} {ps : List (List UInt8 × Nat)} (h : WrAt w0 w b m l ps) (n : Nat) (hn : n ≤ 100000000000000) (hl : l.length + 2 ≤ 100000000000000) : Calls Tryz.prog 54 #[.pointer (some ⟨b, 0, none⟩), .int .i64 n] w (sR w0 w b m (l ++ aU n) ps) := by
 obtain ⟨hb, hm, hbm, hx, ⟨v, hB, ho⟩, hM⟩ := h
 have hp := aD (cs := wN v m) hB
 go_enter Tryz.func54, Tryz.ntmps54
 (repeat' first | ((with_reducible refine aJ ?_); go_step) | ((with_reducible refine aH ?_); first | refine aW ?_ | (refine aK ?_ ?_ <;> intro hc)) | fail)
 rw [show (↑n / 2 ^ Int.toNat 8 : Int) = ((n / 256 : Nat) : Int) by simp, kF, kF]
 refine bT (e := 5) (k := 1) (bytes := 1) (xs := [.int .u8 ((UInt8.ofNat (n / 256)).toNat : Nat), .int .u8 ((UInt8.ofNat n).toNat : Nat)]) rfl rfl rfl (by simp [Value.cells]) (by decide +kernel) (by simp) ?_
 intro u1 w1 y1 _ sl1 _
 refine aA ?_
 have ho1 := ho.ext y1
 have x1' := hx.trans y1
 have hB1' := y1.at hB
 have hM1' := hM.at (fun o h => y1.at h)
 refine jE (B := w0.heap.size) (k := 1) (e := 5) (bytes := 1) (x := u1) (es := aQ l) (fs := aQ (aU n)) rfl ho1 rfl sl1 (by decide +kernel) (by simp [aQ, aU, Value.oneCell']) x1'.size (by simp [aQ, aU]; omega) (by simp [aQ, aU]; omega) ?_
 intro v1 w1 o1 m1
 have m1 : Mv v.ownBlock _ w1 := m1
 refine aA ?_
 have hB1 := m1.at hB1' (fun e => (ho1.neBlock hB1' (by decide)) e.symm)
 have hM1 := hM1'.mvr m1 ho1 rfl
 have x1 : Ext w0 w1 := x1'.move m1 (fun k e => (ho1.block k e).1)
 clear hp
 (repeat' first | ((with_reducible refine aJ ?_); go_step) | ((with_reducible refine aH ?_); first | refine aW ?_ | (refine aK ?_ ?_ <;> intro hc)) | fail)
 refine aO (n := 0) (v := v1) hB1 rfl rfl rfl (by simp [wN]) (by decide +kernel) o1.one ?_
 intro w2 p2
 have x2 : Ext w0 w2 := x1.move p2.mv (by rintro k ⟨⟩; exact hb)
 have hB2 : w2.heap[b]? = some (.cells (wN v1 m).toArray 99 (0, 0)) := p2.this
 have o2 := o1.mv p2.mv (.inr (o1.neBlock hB1 (by decide)))
 have hM2 := hM1.at (fun o h => p2.mv.at h (by intro e; exact hbm (Option.some.inj e).symm))
 (repeat' first | ((with_reducible refine aJ ?_); go_step) | ((with_reducible refine aH ?_); first | refine aW ?_ | (refine aK ?_ ?_ <;> intro hc)) | fail)
 go_end0
 exact ⟨rfl, ⟨hb, hm, hbm, x2, ⟨v1, hB2, by simpa [aQ] using o2⟩, hM2⟩, (y1.kp.trans (Mv.kpRow ho1 m1)).trans (Mv.kpBox hB1 p2.mv)⟩
structure HldR where
 o : List UInt8
 l : List RSet
 org : List UInt8
 up : Bool
 deriving Inhabited
structure HldsAt (w : World) (v : Value) (hs : List HldR) : Prop where
 out : ∃ css, Sl 4 w v css ∧ css.length = hs.length ∧ ∀ (i : Nat) (h : HldR), hs[i]? = some h → ∃ x, css[i]? = some [aI h.o, x, aI h.org, .bool h.up] ∧ SetsAt w x h.l
theorem HldsAt.ext {w w' : World} {v : Value} {hs : List HldR} (h : HldsAt w v hs) (hx : Ext w w') : HldsAt w' v hs := by
 obtain ⟨css, h1, h2, h3⟩ := h
 exact ⟨css, h1.ext hx, h2, fun i s hi => let ⟨x, a, b⟩ := h3 i s hi; ⟨x, a, b.ext hx⟩⟩
theorem HldsAt.elem {w : World} {v : Value} {hs : List HldR} (h : HldsAt w v hs) {i : Nat} {x : HldR} (hi : hs[i]? = some x) : ∃ y, Pts w (dI v (i * 4)) [aI x.o, y, aI x.org, .bool x.up] ∧ SetsAt w y x.l := by
 obtain ⟨css, h1, h2, h3⟩ := h
 obtain ⟨y, h4, h5⟩ := h3 i x hi
 exact ⟨y, h1.elem h4, h5⟩
theorem HldsAt.sl {w : World} {v : Value} {hs : List HldR} (h : HldsAt w v hs) : ∃ css : List (List Value), Sl 4 w v css ∧ css.length = hs.length := by
 obtain ⟨css, h1, h2, _⟩ := h
 exact ⟨css, h1, h2⟩
def zM (n : List UInt8) : List HldR → Nat → Option Nat → Int → Option Nat
 | [], _, b, _ => b
 | h :: t, i, b, most => if cW n h.org = true ∧ most < ((mT h.org : Nat) : Int) then zM n t (i + 1) (some i) ((mT h.org : Nat) : Int) else zM n t (i + 1) b most
def PD (hs : List HldR) (n : List UInt8) : Option Nat := zM n hs 0 none (-1)
def RM (v : Value) : Option Nat → Value
 | none => .pointer none
 | some i => dI v (i * 4)
theorem ME (n : List UInt8) : mT n ≤ 1000 := by
 unfold mT
 cases h : aX n with
 | none => simp
 | some ls =>
  have h1 := fD h
  have h2 := lK ls
  rw [h1.2.1] at h2
  simp
  omega
def RN : List Value := [aI [], .slice none 0 0, aI [], .bool false]
set_option maxHeartbeats 2000000 in
theorem RO (v : Value) (hs : List HldR) (n : List UInt8) (w : World) (hv : HldsAt w v hs) (hl : hs.length ≤ 1000) : Calls Tryz.prog 30 #[v, aI n] w (bS w (RM v (PD hs n))) := by
 obtain ⟨css, hsl, hcl⟩ := hv.sl
 have hgo : zM n (hs.drop 0) 0 none (-1) = PD hs n := rfl
 generalize PD hs n = RES at *
 go_enter Tryz.func30, Tryz.ntmps30
 (repeat' first | ((with_reducible refine aJ ?_); go_step) | ((with_reducible refine aH ?_); first | refine aW ?_ | (refine aK ?_ ?_ <;> intro hc)) | fail)
 go_loopw [5, 6, 7, 8, 9, 12] (fun bv mv _ _ _ iv wr => ∃ (k : Nat) (b : Option Nat) (most : Int), k ≤ hs.length ∧ iv = .int .i64 k ∧ bv = RM v b ∧ mv = .int .i64 most ∧ -1 ≤ most ∧ most ≤ 1000 ∧ Ext w wr ∧ zM n (hs.drop k) k b most = RES) (fun _ _ _ _ _ iv _ => hs.length - (intOf iv).toNat)
 case atStart => exact ⟨0, none, -1, Nat.zero_le _, rfl, rfl, rfl, by omega, by omega, Ext.refl _, hgo⟩
 case round =>
  obtain ⟨k, b, most, hk, rfl, rfl, rfl, hm0, hm1, hx, hg⟩ := hrel
  have hsr := hsl.ext hx
  by_cases hlt : k < hs.length
  ·obtain ⟨y, h4, hy⟩ := (hv.ext hx).elem (List.getElem?_eq_getElem hlt)
   rw [List.drop_eq_getElem_cons hlt] at hg
   unfold zM at hg
   (repeat' first | ((with_reducible refine aJ ?_); go_step) | ((with_reducible refine aH ?_); first | refine aW ?_ | (refine aK ?_ ?_ <;> intro hc)) | fail)
   refine aN (z := RN) rfl (by decide +kernel) ?_
   intro w3 x3 s3 h3
   refine aA ?_
   (repeat' first | ((with_reducible refine aJ ?_); go_step) | ((with_reducible refine aH ?_); first | refine aW ?_ | (refine aK ?_ ?_ <;> intro hc)) | fail)
   refine aG (v := .agg #[aI hs[k].o, y, aI hs[k].org, .bool hs[k].up]) rfl rfl rfl h3 (show aZ Tryz.prog 65 4 = true by decide +kernel) rfl (iV rfl (by obtain ⟨_, hq, _⟩ := hy.sl; exact hq.one) rfl rfl) ?_
   intro w4 p4
   have x4 : Ext wr w4 := x3.move p4.mv (by rintro k ⟨⟩; exact Nat.le_refl _)
   have h4' := aD (cs := [aI hs[k].o, y, aI hs[k].org, .bool hs[k].up]) p4.this
   clear p4 h3 x3 h4
   have hsr4 := hsr.ext x4
   clear hsr
   (repeat' first | ((with_reducible refine aJ ?_); go_step) | ((with_reducible refine aH ?_); first | refine aW ?_ | (refine aK ?_ ?_ <;> intro hc)) | fail)
   refine aT (enters_of Tryz.func63 rfl rfl) rfl rfl (BO hs[k].org _) ?_
   intro v5 w5 x5 o5
   refine aA ?_
   have hs5 := o5.sl
   have hl5 : (aS ((aX hs[k].org).getD [])).length = mT hs[k].org := by simp [aS, mT]
   have hln := ME hs[k].org
   have hp5 := h4'.ext x5
   clear h4'
   (repeat' first | ((with_reducible refine aJ ?_); go_step) | ((with_reducible refine aH ?_); first | refine aW ?_ | (refine aK ?_ ?_ <;> intro hc)) | fail)
   rw [hl5]
   refine aE (enters_of Tryz.func64 rfl rfl) rfl rfl (qD n hs[k].org _) ?_; intro w6 x6; refine aA ?_
   have hsr6 := hsr4.ext (x5.trans x6)
   have hx6 := hx.trans (x4.trans (x5.trans x6))
   clear hsr4
   cases hu : cW n hs[k].org with
   | false =>
    rw [if_neg (by rintro ⟨h, _⟩; rw [hu] at h; cases h)] at hg
    (repeat' first | ((with_reducible refine aJ ?_); go_step) | ((with_reducible refine aH ?_); first | refine aW ?_ | (refine aK ?_ ?_ <;> intro hc)) | fail)
    exact ⟨⟨k + 1, b, most, by omega, by go_num, rfl, rfl, hm0, hm1, hx6, hg⟩, by simp [intOf]; omega⟩
   | true =>
    by_cases hc : most < ((mT hs[k].org : Nat) : Int)
    ·rw [if_pos ⟨hu, hc⟩] at hg
     (repeat' first | ((with_reducible refine aJ ?_); go_step) | ((with_reducible refine aH ?_); first | refine aW ?_ | (refine aK ?_ ?_ <;> intro hc)) | fail)
     all_goals first
      | (exfalso; omega)
      | skip
     exact ⟨⟨k + 1, some k, _, by omega, by go_num, rfl, rfl, by omega, by omega, hx6, hg⟩, by simp [intOf]; omega⟩
    ·rw [if_neg (fun h => hc h.2)] at hg
     (repeat' first | ((with_reducible refine aJ ?_); go_step) | ((with_reducible refine aH ?_); first | refine aW ?_ | (refine aK ?_ ?_ <;> intro hc)) | fail)
     all_goals first
      | (exfalso; omega)
      | skip
     exact ⟨⟨k + 1, b, most, by omega, by go_num, rfl, rfl, hm0, hm1, hx6, hg⟩, by simp [intOf]; omega⟩
  ·have hk2 : k = hs.length := by omega
   subst hk2
   rw [List.drop_length] at hg
   unfold zM at hg
   (repeat' first | ((with_reducible refine aJ ?_); go_step) | ((with_reducible refine aH ?_); first | refine aW ?_ | (refine aK ?_ ?_ <;> intro hc)) | fail)
   go_ret
   rw [← hg]
   exact ⟨rfl, hx⟩
open Go.ChangeShapes Go.WideShapes Go.ChangeAt Go.RowKit
theorem DQ {H : Type} {enc : TypeId × Value → H} {w : World} {base : Nat} {spare : Nat → Bool} {held : Bool} {fuel : Nat} {cl : List Value} {x : DataW H × List MemPlace} (h : DataW.trod enc Tryz.prog w base spare held fuel 52 cl = some x) : ∃ (p : HldR) (u : Value), cl = [aI p.o, u, aI p.org, .bool p.up] ∧ SetsAt w u p.l := by
 obtain ⟨xs, n', _, _, hl, hxl, hf⟩ := DataW.trod_struct Tryz.underlying52 h
 have c2 : Tryz.prog.cellsOf 47 = 1 := by kernel_rfl
 have c4 : Tryz.prog.cellsOf 4 = 1 := by kernel_rfl
 have c25 : Tryz.prog.cellsOf 50 = 2 := by kernel_rfl
 have c8 : Tryz.prog.cellsOf 52 = 4 := by kernel_rfl
 rw [c8] at hl
 match cl, hl, xs, hxl with
 | [a, b, d, f], _, [y0, y1, y2], _ =>
  have g0 := hf 0 _ rfl
  have g1 := hf 1 _ rfl
  have g2 := hf 2 _ rfl
  simp [c2, c4, c25] at g0 g1 g2
  obtain ⟨o, ls, u, e0, hu⟩ := GZ (c := #[a, b]) g0
  obtain ⟨rfl, rfl⟩ : a = aI o ∧ b = u := by simpa using e0
  obtain ⟨s1, rfl, _⟩ := pK Tryz.underlying47 g1
  obtain ⟨n2, rfl⟩ := HA Tryz.underlying4 g2
  exact ⟨⟨o, ls, s1, n2⟩, b, rfl, hu⟩
theorem OP {H : Type} {enc : TypeId × Value → H} {w : World} {base : Nat} {spare : Nat → Bool} {held : Bool} {fuel : Nat} {v : Value} {x : DataW H × List MemPlace} (h : DataW.trod enc Tryz.prog w base spare held fuel 22 [v] = some x) : ∃ hs : List HldR, HldsAt w v hs := by
 obtain ⟨es, hs, he⟩ := qY Tryz.underlying22 (show Tryz.prog.cellsOf 52 = 4 by kernel_rfl) (by omega) h
 obtain ⟨l, rfl⟩ : ∃ l : List {p : HldR × Value // SetsAt w p.2 p.1.l}, es = l.map fun p => [aI p.1.1.o, p.1.2, aI p.1.1.org, .bool p.1.1.up] := by
  refine tF fun c hc => ?_
  obtain ⟨n, y, hy⟩ := he c hc
  obtain ⟨p, u, rfl, hu⟩ := DQ hy
  exact ⟨⟨(p, u), hu⟩, rfl⟩
 refine ⟨l.map fun p => p.1.1, _, hs, by simp, ?_⟩
 intro i s hi
 rw [List.getElem?_map] at hi
 obtain ⟨p, hp, rfl⟩ := Option.map_eq_some_iff.1 hi
 exact ⟨p.1.2, by rw [List.getElem?_map, hp]; rfl, p.2⟩
open Go.ChangeShapes Go.WideShapes Go.ChangeAt Go.RowKit
theorem KT {P : Program} {w : World} {r : Reach} {base : Nat} {t : TypeId} {v : Value} (ht : P.underlying t = some .string) (h : Value.okWide P w r base t v) : ∃ s, v = .string s ∧ s.size ≤ 9223372036854775807 := by
 simp only [Value.okWide, ht, Cell.okWide] at h
 cases v <;> simp_all [Cell.ok]
 all_goals omega
end Go.Proofs.X
set_option linter.unusedSimpArgs false
set_option linter.unusedVariables false
namespace Go.Proofs.X
open Go.RowKit
end Go.Proofs.X
set_option linter.unusedSimpArgs false
set_option linter.unusedVariables false
namespace Go.Proofs.X
open Go.RowKit
set_option maxRecDepth 100000
def eX (n : Nat) : List UInt8 := aU (n / 65536) ++ aU n
theorem KA {w0 w : World} {b m : Nat} {l : List UInt8} {ps : List (List UInt8 × Nat)} (h : WrAt w0 w b m l ps) (n : Nat) (hn : n ≤ 100000000000000) (hl : l.length + 4 ≤ 100000000000000) : Calls Tryz.prog 57 #[.pointer (some ⟨b, 0, none⟩), .int .i64 n] w (sR w0 w b m (l ++ eX n) ps) := by
 go_enter Tryz.func57, Tryz.ntmps57
 (repeat' first | ((with_reducible refine aJ ?_); go_step) | ((with_reducible refine aH ?_); first | refine aW ?_ | (refine aK ?_ ?_ <;> intro hc)) | fail)
 have c1 := iN h (n / 65536) (by omega) (by omega)
 refine aF (vs := [.pointer (some ⟨b, 0, none⟩), .int .i64 ((n / 65536 : Nat) : Int)]) (enters_of Tryz.func54 rfl rfl) rfl (congrArg (fun z => [Value.pointer (some ⟨b, 0, none⟩), Value.int .i64 z]) (show ((n : Int) / 2 ^ Int.toNat 16) = ((n / 65536 : Nat) : Int) by simp)) c1 ?_
 rintro _ w1 ⟨rfl, h1, g1⟩
 refine ⟨_, rfl, ?_⟩
 refine aA ?_
 have c2 := iN h1 n hn (by simp [aU]; omega)
 (repeat' first | ((with_reducible refine aJ ?_); go_step) | ((with_reducible refine aH ?_); first | refine aW ?_ | (refine aK ?_ ?_ <;> intro hc)) | fail)
 refine aF (vs := [.pointer (some ⟨b, 0, none⟩), .int .i64 ((n : Nat) : Int)]) (enters_of Tryz.func54 rfl rfl) rfl rfl c2 ?_
 rintro _ w2 ⟨rfl, h2, g2⟩
 refine ⟨_, rfl, ?_⟩
 refine aA ?_
 (repeat' first | ((with_reducible refine aJ ?_); go_step) | ((with_reducible refine aH ?_); first | refine aW ?_ | (refine aK ?_ ?_ <;> intro hc)) | fail)
 go_end0
 exact ⟨rfl, by simpa [eX] using h2, g1.trans g2⟩
def eM (x : List UInt8) : List UInt8 := UInt8.ofNat x.length :: x
def bC : List (List UInt8) → List UInt8 → List (List UInt8 × Nat) → List UInt8 × List (List UInt8 × Nat)
 | [], l, ps => (l ++ [0], ps)
 | x :: ls, l, ps => match ps.find? (fun p => decide (p.1 = enc (x :: ls))) with
   | some p => if p.2 < 16384 then (l ++ aU (49152 ||| p.2), ps) else bC ls (l ++ eM x) ps
   | none => bC ls (l ++ eM x) (ps ++ [(enc (x :: ls), l.length)])
def Keys (ps : List (List UInt8 × Nat)) : Prop := ps.Pairwise fun a b => a.1 ≠ b.1
theorem KB {ps : List (List UInt8 × Nat)} (hk : Keys ps) {i : Nat} {p : List UInt8 × Nat} (h : ps[i]? = some p) : ps.find? (fun q => decide (q.1 = p.1)) = some p := by
 induction ps generalizing i with
 | nil => simp at h
 | cons q ps ih =>
  obtain ⟨h1, h2⟩ := List.pairwise_cons.1 hk
  cases i with
  | zero =>
   simp at h
   subst h
   simp
  | succ i =>
   simp at h
   rw [List.find?_cons_of_neg (by simpa using h1 p (List.mem_of_getElem? h))]
   exact ih h2 h
theorem OQ {ps : List (List UInt8 × Nat)} {i : Nat} {n : List UInt8} {v : Value} (h : (OO ps)[i]? = some (aI n, v)) : ∃ k, ps[i]? = some (n, k) ∧ v = .int .i64 (k : Nat) := by
 simp only [OO, List.getElem?_map] at h
 cases hp : ps[i]? with
 | none => rw [hp] at h; cases h
 | some p =>
  rw [hp] at h
  simp only [Option.map_some, Option.some.injEq, Prod.mk.injEq] at h
  obtain ⟨h1, h2⟩ := h
  exact ⟨p.2, by rw [← (show p.1 = n by simpa [aI] using h1)], h2.symm⟩
theorem EY {ps : List (List UInt8 × Nat)} {n : List UInt8} (h : ∀ (i : Nat) (e : Value × Value), (OO ps)[i]? = some e → e.1 ≠ aI n) : ps.find? (fun q => decide (q.1 = n)) = none := by
 rw [List.find?_eq_none]
 intro q hq e
 obtain ⟨i, hi⟩ := List.getElem?_of_mem hq
 have e : q.1 = n := by simpa using e
 exact h i (aI q.1, .int .i64 (q.2 : Nat)) (by simp [OO, hi]) (by rw [e])
theorem Keys.add {ps : List (List UInt8 × Nat)} {n : List UInt8} {k : Nat} (hk : Keys ps) (h : ps.find? (fun q => decide (q.1 = n)) = none) : Keys (ps ++ [(n, k)]) := by
 unfold Keys
 rw [List.pairwise_append]
 refine ⟨hk, List.pairwise_singleton _ _, ?_⟩
 intro a ha b hb
 simp at hb
 subst hb
 rw [List.find?_eq_none] at h
 simpa using h a ha
def sLen : Value → Nat
 | .string s => s.size
 | _ => 0
set_option maxHeartbeats 2000000 in
theorem EZ {w0 w : World} {b m : Nat} {l : List UInt8} {ps : List (List UInt8 × Nat)} (h : WrAt w0 w b m l ps) (hk : Keys ps) (ls : List (List UInt8)) (hf : ls.all gK = true) (hn : (enc ls).length ≤ 1000) (hl : l.length + 2000 ≤ 100000000000000) : Calls Tryz.prog 56 #[.pointer (some ⟨b, 0, none⟩), aI (enc ls)] w (sR w0 w b m (bC ls l ps).1 (bC ls l ps).2) := by
 have hgo : bC (ls.drop 0) l ps = bC ls l ps := by rw [List.drop_zero]
 generalize bC ls l ps = RES at *
 go_enter Tryz.func56, Tryz.ntmps56
 (repeat' first | ((with_reducible refine aJ ?_); go_step) | ((with_reducible refine aH ?_); first | refine aW ?_ | (refine aK ?_ ?_ <;> intro hc)) | fail)
 go_loopw [1, 4, 5, 6] (fun nv _ _ _ wr => ∃ (k : Nat) (l' : List UInt8) (ps' : List (List UInt8 × Nat)), k ≤ ls.length ∧ nv = aI (enc (ls.drop k)) ∧ WrAt w0 wr b m l' ps' ∧ Keys ps' ∧ l'.length + (enc (ls.drop k)).length ≤ l.length + 1000 ∧ (enc (ls.drop k)).length ≤ 1000 ∧ Kp w wr ∧ bC (ls.drop k) l' ps' = RES) (fun nv _ _ _ _ => sLen nv)
 case atStart => exact ⟨0, l, ps, Nat.zero_le _, by rw [List.drop_zero], h, hk, by rw [List.drop_zero]; omega, by rw [List.drop_zero]; exact hn, Kp.refl _, hgo⟩
 case round =>
  obtain ⟨k, l', ps', hkl, rfl, hW, hK, hle, hle2, hKp, hg⟩ := hrel
  have hfd : (ls.drop k).all gK = true := by
   rw [List.all_eq_true] at hf ⊢
   exact fun x hx => hf x (List.mem_of_mem_drop hx)
  have hdl : (ls.drop k).length = ls.length - k := List.length_drop
  obtain ⟨hb, hm, hbm, hx, ⟨v, hB, ho⟩, hM⟩ := hW
  have hp := aD (cs := wN v m) hB
  have hsl := ho.sl
  cases hd : ls.drop k with
  | nil =>
   rw [hd] at hg hle hle2
   unfold bC at hg
   (repeat' first | ((with_reducible refine aJ ?_); go_step) | ((with_reducible refine aH ?_); first | refine aW ?_ | (refine aK ?_ ?_ <;> intro hc)) | fail)
   all_goals first
    | (exfalso; simp_all [enc]; done)
    | skip
   refine bT (e := 5) (k := 1) (bytes := 1) (xs := [.int .u8 0]) rfl rfl rfl (by simp [Value.cells]) (by decide +kernel) (by simp) ?_
   intro u1 w1 y1 _ sl1 _
   refine aA ?_
   have ho1 := ho.ext y1
   have x1' := hx.trans y1
   have hB1' := y1.at hB
   have hM1' := hM.at (fun o h => y1.at h)
   refine jE (B := w0.heap.size) (k := 1) (e := 5) (bytes := 1) (x := u1) (es := aQ l') (fs := aQ [0]) rfl ho1 rfl sl1 (by decide +kernel) (by simp [aQ, Value.oneCell']) x1'.size (by simp [aQ]; omega) (by simp [aQ]; omega) ?_
   intro v1 w1 o1 m1
   have m1 : Mv v.ownBlock _ w1 := m1
   refine aA ?_
   have hB1 := m1.at hB1' (fun e => (ho1.neBlock hB1' (by decide)) e.symm)
   have hM1 := hM1'.mvr m1 ho1 rfl
   have x1 : Ext w0 w1 := x1'.move m1 (fun k e => (ho1.block k e).1)
   clear hp
   (repeat' first | ((with_reducible refine aJ ?_); go_step) | ((with_reducible refine aH ?_); first | refine aW ?_ | (refine aK ?_ ?_ <;> intro hc)) | fail)
   refine aO (n := 0) (v := v1) hB1 rfl rfl rfl (by simp [wN]) (by decide +kernel) o1.one ?_
   intro w2 p2
   have x2 : Ext w0 w2 := x1.move p2.mv (by rintro k ⟨⟩; exact hb)
   have hB2 : w2.heap[b]? = some (.cells (wN v1 m).toArray 99 (0, 0)) := p2.this
   have o2 := o1.mv p2.mv (.inr (o1.neBlock hB1 (by decide)))
   have hM2 := hM1.at (fun o h => p2.mv.at h (by intro e; exact hbm (Option.some.inj e).symm))
   (repeat' first | ((with_reducible refine aJ ?_); go_step) | ((with_reducible refine aH ?_); first | refine aW ?_ | (refine aK ?_ ?_ <;> intro hc)) | fail)
   go_end0
   rw [← hg]
   exact ⟨rfl, ⟨hb, hm, hbm, x2, ⟨v1, hB2, by simpa [aQ] using o2⟩, hM2⟩, hKp.trans ((y1.kp.trans (Mv.kpRow ho1 m1)).trans (Mv.kpBox hB1 p2.mv))⟩
  | cons x xs =>
   rw [hd] at hg hle hle2 hfd
   have hx1 : 1 ≤ x.length ∧ x.length ≤ 63 := by
    have := (List.all_eq_true.1 hfd) x (by simp)
    simpa [gK] using this
   have hxs : ls.drop (k + 1) = xs := by rw [← List.drop_drop, hd]; rfl
   have hen : enc (x :: xs) = UInt8.ofNat x.length :: (x ++ enc xs) := by simp [enc]
   have hlen : (UInt8.ofNat x.length :: (x ++ enc xs)).length = x.length + (enc xs).length + 1 := by simp
   have hlen2 : (enc (x :: xs)).length = x.length + (enc xs).length + 1 := by rw [hen, hlen]
   have hb0 : (UInt8.ofNat x.length).toNat = x.length := by simp; omega
   have htk : List.take ((UInt8.ofNat x.length).toNat + 1) (UInt8.ofNat x.length :: (x ++ enc xs)) = eM x := by rw [hb0]; simp [eM]
   have hdp : List.drop ((UInt8.ofNat x.length).toNat + 1) (UInt8.ofNat x.length :: (x ++ enc xs)) = enc xs := by rw [hb0]; simp
   obtain ⟨lx, hlx⟩ := MA (enc (x :: xs)) (by omega)
   have hzv : ∀ w, (zeroValue 3).run Tryz.prog w = .ok (.int .i64 0) w := fun w => by kernel_rfl
   obtain ⟨bv, bb, hrl, hcase⟩ := gJ ET (show mM Tryz.prog 96 47 3 = true by decide +kernel) hzv hM hlx true
   simp only [if_true] at hrl
   have hne0 : enc (x :: xs) ≠ [] := by rw [hen]; simp
   (repeat' first | ((with_reducible refine aJ ?_); go_step) | ((with_reducible refine aH ?_); first | refine aW ?_ | (refine aK ?_ ?_ <;> intro hc)) | fail)
   all_goals first
    | (exfalso; exact hne0 (by simpa using ‹_›))
    | skip
   refine cT rfl (Runs.lookup rfl rfl hrl) ?_
   refine aA ?_
   rcases hcase with ⟨i, hie, rfl⟩ | ⟨hno, rfl, rfl⟩
   ·obtain ⟨at_, hat, rfl⟩ := OQ hie
    have hfind := KB hK hat
    unfold bC at hg
    dsimp only at hfind
    rw [hfind] at hg
    dsimp only at hg
    by_cases c1 : at_ < 16384
    ·rw [if_pos c1] at hg
     (repeat' first | ((with_reducible refine aJ ?_); go_step) | ((with_reducible refine aH ?_); first | refine aW ?_ | (refine aK ?_ ?_ <;> intro hc)) | fail)
     all_goals first
      | (exfalso; omega)
      | skip
     refine aM (Runs.orN (m := 49152) (n := at_) rfl rfl (by omega) (by omega)) ?_
     refine aA ?_
     have cw := iN (⟨hb, hm, hbm, hx, ⟨v, hB, ho⟩, hM⟩ : WrAt w0 wr b m l' ps') (49152 ||| at_) (by have := Nat.or_lt_two_pow (x := 49152) (y := at_) (n := 16) (by decide) (by omega); omega) (by omega)
     refine aF (vs := [.pointer (some ⟨b, 0, none⟩), .int .i64 ((49152 ||| at_ : Nat) : Int)]) (enters_of Tryz.func54 rfl rfl) rfl rfl cw ?_
     rintro _ w1 ⟨rfl, h1, g1⟩
     refine ⟨_, rfl, ?_⟩
     refine aA ?_
     (repeat' first | ((with_reducible refine aJ ?_); go_step) | ((with_reducible refine aH ?_); first | refine aW ?_ | (refine aK ?_ ?_ <;> intro hc)) | fail)
     refine bodyPost_ret (results_none rfl _ _ _) rfl ?_
     rw [← hg]
     exact ⟨rfl, h1, hKp.trans g1⟩
    ·rw [if_neg c1] at hg
     rw [hen]
     (repeat' first | ((with_reducible refine aJ ?_); go_step) | ((with_reducible refine aH ?_); first | refine aW ?_ | (refine aK ?_ ?_ <;> intro hc)) | fail)
     all_goals first
      | (exfalso; omega)
      | skip
     have hW9 : WrAt w0 _ b m l' ps' := ⟨hb, hm, hbm, hx, ⟨v, hB, ho⟩, hM⟩
     have ct := vX hW9 (eM x) (by simp [eM]; omega)
     refine aF (vs := [.pointer (some ⟨b, 0, none⟩), aI (eM x)]) (enters_of Tryz.func104 rfl rfl) rfl (congrArg (fun z => [Value.pointer (some ⟨b, 0, none⟩), aI z]) htk) ct ?_
     rintro _ w5 ⟨rfl, h5, g5⟩
     refine ⟨_, rfl, ?_⟩
     refine aA ?_
     clear hp hsl
     (repeat' first | ((with_reducible refine aJ ?_); go_step) | ((with_reducible refine aH ?_); first | refine aW ?_ | (refine aK ?_ ?_ <;> intro hc)) | fail)
     refine ⟨⟨k + 1, l' ++ eM x, ps', by have := congrArg List.length hd; simp at this; omega, by rw [hxs]; exact congrArg aI hdp, h5, hK, by rw [hxs]; simp [eM]; omega, by rw [hxs]; omega, hKp.trans g5, by rw [hxs]; exact hg⟩, ?_⟩
     show (List.drop ((UInt8.ofNat x.length).toNat + 1) (UInt8.ofNat x.length :: (x ++ enc xs))).length < (enc (x :: xs)).length
     rw [hdp, hlen2]
     omega
   ·unfold bC at hg
    rw [EY hno] at hg
    dsimp only at hg
    (repeat' first | ((with_reducible refine aJ ?_); go_step) | ((with_reducible refine aH ?_); first | refine aW ?_ | (refine aK ?_ ?_ <;> intro hc)) | fail)
    all_goals first
     | (exfalso; simp_all; done)
     | skip
    refine cA 10 (Ext wr) (by decide +kernel) ?_
    intro w1 x1 _
    refine ⟨x1, ?_⟩
    refine dF 0 ?_; refine dF 1 ?_; refine dF 2 ?_; refine dF 3 ?_; refine dF 4 ?_; refine dF 5 ?_; refine dF 6 ?_; refine dF 7 ?_; refine dF 8 ?_; refine dF 9 ?_
    refine bJ (i := 10) (by decide +kernel) rfl rfl ?_
    have hM1 := hM.at (fun o h => x1.at h)
    obtain ⟨w7, o7, hr7, p7, hm7⟩ := jG ET (show mM Tryz.prog 96 47 3 = true by decide +kernel) hM1 hlx (v := .int .i64 ((aQ l').length : Nat)) hno
    refine kH rfl rfl rfl rfl hr7 ?_
    have x7 : Ext w0 w7 := (hx.trans x1).move p7.mv (by rintro k ⟨⟩; exact hm)
    have hB7 := p7.mv.at (x1.at hB) (by intro e; exact hbm (Option.some.inj e))
    obtain ⟨es, ck, hme, _⟩ := hM1.out
    have ho7 := (ho.ext x1).mv p7.mv (.inr ((ho.ext x1).neMap hme))
    have hm8 : MapAt Tryz.prog 47 w7 m (OO (ps' ++ [(enc (x :: xs), l'.length)])) := by simpa [OO, aQ] using hm7
    refine aL ⟨bZ rfl, ?_⟩
    refine cV (by decide +kernel) ?_
    rw [hen]
    (repeat' first | ((with_reducible refine aJ ?_); go_step) | ((with_reducible refine aH ?_); first | refine aW ?_ | (refine aK ?_ ?_ <;> intro hc)) | fail)
    have hW9 : WrAt w0 _ b m l' (ps' ++ [(enc (x :: xs), l'.length)]) := ⟨hb, hm, hbm, x7, ⟨v, hB7, ho7⟩, hm8⟩
    have ct := vX hW9 (eM x) (by simp [eM]; omega)
    refine aF (vs := [.pointer (some ⟨b, 0, none⟩), aI (eM x)]) (enters_of Tryz.func104 rfl rfl) rfl (congrArg (fun z => [Value.pointer (some ⟨b, 0, none⟩), aI z]) htk) ct ?_
    rintro _ w5 ⟨rfl, h5, g5⟩
    refine ⟨_, rfl, ?_⟩
    refine aA ?_
    clear hp hsl
    (repeat' first | ((with_reducible refine aJ ?_); go_step) | ((with_reducible refine aH ?_); first | refine aW ?_ | (refine aK ?_ ?_ <;> intro hc)) | fail)
    refine ⟨⟨k + 1, l' ++ eM x, (ps' ++ [(enc (x :: xs), l'.length)]), by have := congrArg List.length hd; simp at this; omega, by rw [hxs]; exact congrArg aI hdp, h5, hK.add (EY hno), by rw [hxs]; simp [eM]; omega, by rw [hxs]; omega, hKp.trans ((x1.kp.trans (Mv.kpMap hM1 p7.mv)).trans g5), by rw [hxs]; exact hg⟩, ?_⟩
    show (List.drop ((UInt8.ofNat x.length).toNat + 1) (UInt8.ofNat x.length :: (x ++ enc xs))).length < (enc (x :: xs)).length
    rw [hdp, hlen2]
    omega
end Go.Proofs.X
