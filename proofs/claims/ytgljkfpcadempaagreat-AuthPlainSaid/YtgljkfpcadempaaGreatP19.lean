/- Laws and walks that the proof of the statement is made of (part 19). -/
import Derived.Test.YtgljkfpcadempaaGreatP18
set_option linter.unusedSimpArgs false
set_option linter.unusedVariables false
namespace Go.Proofs.X
open Go.RowKit
set_option maxRecDepth 100000
def JJ : Option Nat → Int
 | none => -1
 | some i => (i : Nat)
def QT (hs : List HldR) (b : Option Nat) (most : Int) : Prop := (b = none ∧ most = -1) ∨ ∃ j, b = some j ∧ ∃ h : j < hs.length, most = ((fZ hs[j].org : Nat) : Int)
set_option maxHeartbeats 4000000 in
theorem NQ (v : Value) (hs : List HldR) (n : List UInt8) (w : World) (hv : HldsAt w v hs) (hl : hs.length ≤ 1000) : Calls Tryz.prog 22 #[v, aH n] w (bO w (.int .i64 (JJ (yZ hs n)))) := by
 obtain ⟨css, hsl, hcl, hrow⟩ := hv
 have hgo : mZ n (hs.drop 0) 0 none (-1) = yZ hs n := rfl
 generalize yZ hs n = RES at *
 go_enter Tryz.func22, Tryz.ntmps22
 (repeat' first | ((with_reducible refine aJ ?_); go_step) | ((with_reducible refine aI ?_); first | refine aW ?_ | (refine aL ?_ ?_ <;> intro hc)) | fail)
 go_loopw [5, 6] (fun bv iv wr => ∃ (k : Nat) (b : Option Nat) (most : Int), k ≤ hs.length ∧ iv = .int .i64 k ∧ bv = .int .i64 (JJ b) ∧ QT hs b most ∧ Ext w wr ∧ mZ n (hs.drop k) k b most = RES) (fun _ iv _ => hs.length - (intOf iv).toNat)
 case atStart => exact ⟨0, none, -1, Nat.zero_le _, rfl, rfl, .inl ⟨rfl, rfl⟩, Ext.refl _, hgo⟩
 case round =>
  obtain ⟨k, b, most, hk, rfl, rfl, hM, hx, hg⟩ := hrel
  have hsr := hsl.ext hx
  by_cases hlt : k < hs.length
  ·obtain ⟨x, hck, hsx⟩ := hrow k _ (List.getElem?_eq_getElem hlt)
   rw [List.drop_eq_getElem_cons hlt] at hg
   unfold mZ at hg
   have hel := hsr.elem hck
   obtain ⟨bb, oo, hep, -⟩ := hel.out
   rw [hep] at hel
   have hkl : k < css.length := by omega
   have hlk := yT hs[k].org
   have hMk : QT hs (some k) ((fZ hs[k].org : Nat) : Int) := .inr ⟨k, rfl, hlt, rfl⟩
   have hlb : (aS ((aV hs[k].org).getD [])).length = fZ hs[k].org := by simp [aS, fZ]
   generalize hHk : hs[k] = H at *
   (repeat' first | ((with_reducible refine aJ ?_); go_step) | ((with_reducible refine aI ?_); first | refine aW ?_ | (refine aL ?_ ?_ <;> intro hc)) | fail)
   refine dB (S := fun w' => Ext wr w') (by decide +kernel) ?_
   intro w1 x1 _
   refine fT 0 ?_; refine aA ?_; refine fT 1 ?_; refine aA ?_; refine fT 2 ?_; refine aA ?_
   refine cJ (i := 3) (v := .pointer (some ⟨bb, oo, none⟩)) rfl rfl (by decide +kernel) (by decide +kernel) (by decide +kernel) rfl x1 (fun w' hF => by rw [← hep]; exact Runs.idxT rfl (hsr.ext hF) hkl (by decide +kernel)) (fun _ _ _ h => h) ?_
   refine aA ?_
   refine fT 4 ?_; refine aA ?_; refine fT 5 ?_; refine aA ?_
   refine dO (i := 6) (by decide +kernel) rfl rfl ?_
   refine aE (enters_of Tryz.func52 rfl rfl) rfl rfl (HD n H.org _) ?_; intro w2 x2; refine aA ?_
   have x02 : Ext wr w2 := x1.trans x2
   refine aK ⟨x02, ?_⟩
   cases hu : bS n H.org with
   | false =>
    rw [if_neg (by rintro ⟨h, _⟩; rw [hu] at h; cases h)] at hg
    refine fT 7 ?_; refine aA ?_
    refine fG 8 ?_; refine aA ?_; refine fG 9 ?_; refine aA ?_; refine fG 10 ?_; refine aA ?_; refine fG 11 ?_; refine aA ?_; refine fG 12 ?_; refine aA ?_; refine fG 13 ?_; refine aA ?_; refine fG 14 ?_; refine aA ?_; refine fG 15 ?_; refine aA ?_; refine fG 16 ?_; refine aA ?_; refine fG 17 ?_; refine aA ?_; refine fG 18 ?_; refine aA ?_; refine fG 19 ?_; refine aA ?_; refine fG 20 ?_; refine aA ?_; refine fG 21 ?_; refine aA ?_; refine fG 22 ?_; refine aA ?_; refine fG 23 ?_; refine aA ?_; refine fG 24 ?_; refine aA ?_; refine fG 25 ?_; refine aA ?_; refine fG 26 ?_; refine aA ?_
    refine fT 27 ?_; refine aA ?_
    refine cW (by decide +kernel) ?_
    have hx2 := hx.trans x02
    (repeat' first | ((with_reducible refine aJ ?_); go_step) | ((with_reducible refine aI ?_); first | refine aW ?_ | (refine aL ?_ ?_ <;> intro hc)) | fail)
    exact ⟨⟨k + 1, b, most, by omega, by go_num, rfl, hM, hx2, hg⟩, by simp [intOf]; omega⟩
   | true =>
    rcases hM with ⟨rfl, rfl⟩ | ⟨j, rfl, hj, rfl⟩
    ·rw [if_pos ⟨hu, by omega⟩] at hg
     refine fT 7 ?_; refine aA ?_; refine fT 8 ?_; refine aA ?_; refine fT 9 ?_; refine aA ?_
     rw [show decide (JJ none < 0) = true from rfl]
     refine fT 10 ?_; refine aA ?_
     refine fG 11 ?_; refine aA ?_; refine fG 12 ?_; refine aA ?_; refine fG 13 ?_; refine aA ?_; refine fG 14 ?_; refine aA ?_; refine fG 15 ?_; refine aA ?_; refine fG 16 ?_; refine aA ?_; refine fG 17 ?_; refine aA ?_; refine fG 18 ?_; refine aA ?_; refine fG 19 ?_; refine aA ?_; refine fG 20 ?_; refine aA ?_; refine fG 21 ?_; refine aA ?_; refine fG 22 ?_; refine aA ?_; refine fG 23 ?_; refine aA ?_; refine fG 24 ?_; refine aA ?_; refine fG 25 ?_; refine aA ?_
     refine fT 26 ?_; refine aA ?_; refine fT 27 ?_; refine aA ?_
     refine cW (by decide +kernel) ?_
     have hx2 := hx.trans x02
     (repeat' first | ((with_reducible refine aJ ?_); go_step) | ((with_reducible refine aI ?_); first | refine aW ?_ | (refine aL ?_ ?_ <;> intro hc)) | fail)
     exact ⟨⟨k + 1, some k, _, by omega, by go_num, rfl, hMk, hx2, hg⟩, by simp [intOf]; omega⟩
    ·obtain ⟨y, hcj, hsy⟩ := hrow j _ (List.getElem?_eq_getElem hj)
     have hej := hsr.elem hcj
     obtain ⟨cb, co, hep2, -⟩ := hej.out
     rw [hep2] at hej
     have hjl : j < css.length := by omega
     have hlj := yT hs[j].org
     have hlb2 : (aS ((aV hs[j].org).getD [])).length = fZ hs[j].org := by simp [aS, fZ]
     have hMj : QT hs (some j) ((fZ hs[j].org : Nat) : Int) := .inr ⟨j, rfl, hj, rfl⟩
     generalize hHj : hs[j] = G at *
     refine fT 7 ?_; refine aA ?_; refine fT 8 ?_; refine aA ?_; refine fT 9 ?_; refine aA ?_
     rw [show decide (JJ (some j) < 0) = false by rw [decide_eq_false]; show ¬ ((j : Nat) : Int) < 0; omega]
     refine fT 10 ?_; refine aA ?_; refine fT 11 ?_; refine aA ?_; refine fT 12 ?_; refine aA ?_
     refine cJ (i := 13) (v := .pointer (some ⟨bb, oo, none⟩)) rfl rfl (by decide +kernel) (by decide +kernel) (by decide +kernel) rfl x02 (fun w' hF => by rw [← hep]; exact Runs.idxT rfl (hsr.ext hF) hkl (by decide +kernel)) (fun _ _ _ h => h) ?_
     refine aA ?_
     refine fT 14 ?_; refine aA ?_; refine fT 15 ?_; refine aA ?_; refine fT 18 ?_; refine aA ?_; refine fT 19 ?_; refine aA ?_
     refine cJ (i := 20) (v := .pointer (some ⟨cb, co, none⟩)) rfl rfl (by decide +kernel) (by decide +kernel) (by decide +kernel) rfl x02 (fun w' hF => by rw [← hep2]; exact Runs.idxT rfl (hsr.ext hF) hjl (by decide +kernel)) (fun _ _ _ h => h) ?_
     refine aA ?_
     refine fT 21 ?_; refine aA ?_; refine fT 22 ?_; refine aA ?_
     refine dO (i := 16) (by decide +kernel) rfl rfl ?_
     refine aR (enters_of Tryz.func53 rfl rfl) rfl rfl (wK H.org _) ?_
     intro v3 w3 x3 o3
     refine aA ?_
     have x03 : Ext wr w3 := x02.trans x3
     have hs3 := o3.sl
     refine aK ⟨x03, ?_⟩
     refine cJ (i := 17) (v := .int .i64 ((fZ H.org : Nat) : Int)) rfl rfl (by decide +kernel) (by decide +kernel) (by decide +kernel) rfl x03 (fun w' hF => by rw [← hlb]; exact Runs.lenW hs3 (by decide +kernel)) (fun _ _ _ h => h) ?_
     refine aA ?_
     refine dO (i := 23) (by decide +kernel) rfl rfl ?_
     refine aR (enters_of Tryz.func53 rfl rfl) rfl rfl (wK G.org _) ?_
     intro v4 w4 x4 o4
     refine aA ?_
     have x04 : Ext wr w4 := x03.trans x4
     have hs4 := o4.sl
     refine aK ⟨x04, ?_⟩
     refine cJ (i := 24) (v := .int .i64 ((fZ G.org : Nat) : Int)) rfl rfl (by decide +kernel) (by decide +kernel) (by decide +kernel) rfl x04 (fun w' hF => by rw [← hlb2]; exact Runs.lenW hs4 (by decide +kernel)) (fun _ _ _ h => h) ?_
     refine aA ?_
     refine fT 25 ?_; refine aA ?_; refine fT 26 ?_; refine aA ?_; refine fT 27 ?_; refine aA ?_
     refine cW (by decide +kernel) ?_
     have hx4 := hx.trans x04
     by_cases hc : ((fZ G.org : Nat) : Int) < ((fZ H.org : Nat) : Int)
     ·rw [if_pos ⟨hu, hc⟩] at hg
      (repeat' first | ((with_reducible refine aJ ?_); go_step) | ((with_reducible refine aI ?_); first | refine aW ?_ | (refine aL ?_ ?_ <;> intro hc)) | fail)
      all_goals first
       | (have hh : False := by omega
          exact hh.elim)
       | skip
      exact ⟨⟨k + 1, some k, _, by omega, by go_num, rfl, hMk, hx4, hg⟩, by simp [intOf]; omega⟩
     ·rw [if_neg (fun h => hc h.2)] at hg
      (repeat' first | ((with_reducible refine aJ ?_); go_step) | ((with_reducible refine aI ?_); first | refine aW ?_ | (refine aL ?_ ?_ <;> intro hc)) | fail)
      all_goals first
       | (have hh : False := by omega
          exact hh.elim)
       | skip
      exact ⟨⟨k + 1, some j, _, by omega, by go_num, rfl, hMj, hx4, hg⟩, by simp [intOf]; omega⟩
  ·have hk2 : k = hs.length := by omega
   subst hk2
   rw [List.drop_length] at hg
   unfold mZ at hg
   (repeat' first | ((with_reducible refine aJ ?_); go_step) | ((with_reducible refine aI ?_); first | refine aW ?_ | (refine aL ?_ ?_ <;> intro hc)) | fail)
   go_ret
   rw [← hg]
   exact ⟨rfl, hx⟩
def nK (x : mD) : MsgR := ⟨3, false, 0, false, false, false, false, 0, [x], [], [], [], 0⟩
theorem JF {b : Option Nat} : JJ b = 0 ↔ b = some 0 := by
 cases b with
 | none => simp [JJ]
 | some j => simp [JJ]
theorem JG {p p2 : HldR} {n : List UInt8} (h : yZ [p, p2] n = some 0) : yZ [p] n = some 0 := by
 unfold yZ at h ⊢
 unfold mZ at h ⊢
 by_cases c : bS n p.org = true ∧ (-1 : Int) < ((fZ p.org : Nat) : Int)
 ·rw [if_pos c]
  rfl
 ·rw [if_neg c] at h
  unfold mZ at h
  split at h
  ·simp [mZ] at h
  ·simp [mZ] at h
theorem BQ {p p2 : HldR} {x : mD} (h : yZ [p, p2] x.1 = some 0) : bU [p, p2] (nK x) = bU [p] (nK x) := by
 have h1 := JG h
 unfold bU
 show (if cC (nK x) ≠ 0 then BN else if false = true then bareR (nK x) 1 else if (0 : Int) ≠ 0 then bareR (nK x) 4 else if ([x] : List mD).length ≠ 1 then bareR (nK x) 1 else if x.2 = 252 ∨ x.2 = 251 then bareR (nK x) 4 else match yZ [p, p2] x.1 with | none => bareR (nK x) 5 | some i => BO (nK x) [p, p2][i]! x) = (if cC (nK x) ≠ 0 then BN else if false = true then bareR (nK x) 1 else if (0 : Int) ≠ 0 then bareR (nK x) 4 else if ([x] : List mD).length ≠ 1 then bareR (nK x) 1 else if x.2 = 252 ∨ x.2 = 251 then bareR (nK x) 4 else match yZ [p] x.1 with | none => bareR (nK x) 5 | some i => BO (nK x) [p][i]! x)
 rw [h, h1]
 rfl
def JH (p : HldR) (u : Value) : List Value := [aH p.o, u, aH p.org, .bool p.up]
theorem HldsAt.two {w : World} {v u u2 : Value} {p p2 : HldR} (h : Sl 4 w v [JH p u, JH p2 u2]) (h1 : SetsAt w u p.l) (h2 : SetsAt w u2 p2.l) : HldsAt w v [p, p2] := by
 refine ⟨_, h, rfl, fun i x e => ?_⟩
 match i with
 | 0 =>
  simp only [List.getElem?_cons_zero, Option.some.injEq] at e
  subst e
  exact ⟨u, rfl, h1⟩
 | 1 =>
  simp only [List.getElem?_cons_succ, List.getElem?_cons_zero, Option.some.injEq] at e
  subst e
  exact ⟨u2, rfl, h2⟩
 | i + 2 => simp at e
theorem HldsAt.single {w : World} {v u : Value} {p : HldR} (h : Sl 4 w v [JH p u]) (h1 : SetsAt w u p.l) : HldsAt w v [p] := by
 refine ⟨_, h, rfl, fun i x e => ?_⟩
 match i with
 | 0 =>
  simp only [List.getElem?_cons_zero, Option.some.injEq] at e
  subst e
  exact ⟨u, rfl, h1⟩
 | i + 1 => simp at e
set_option maxHeartbeats 4000000 in
theorem NX (p : HldR) (u : Value) (p2 : HldR) (u2 : Value) (xn : List UInt8) (xk : Int) (w : World) (hu : SetsAt w u p.l) (hu2 : SetsAt w u2 p2.l) : Calls Tryz.prog 6 #[.agg #[aH p.o, u, aH p.org, .bool p.up], .agg #[aH p2.o, u2, aH p2.org, .bool p2.up], .agg #[aH xn, .int .i64 xk]] w (bO w (.bool true)) := by
 have hu1 : u.oneCell' = true := by obtain ⟨_, hq, _⟩ := hu.sl; exact hq.one
 have hu21 : u2.oneCell' = true := by obtain ⟨_, hq, _⟩ := hu2.sl; exact hq.one
 go_enter Tryz.func6, Tryz.ntmps6
 repeat' (first | ((with_reducible refine aJ ?_); go_step) | fail)
 refine dP (vs := [aH p.o, u, aH p.org, .bool p.up]) rfl rfl ?_
 intro w1 x1 s1 hb1
 refine aA ?_
 refine dP (vs := [aH p2.o, u2, aH p2.org, .bool p2.up]) rfl rfl ?_
 intro w2 x2 s2 hb2
 refine aA ?_
 refine dP (vs := [aH xn, .int .i64 xk]) rfl rfl ?_
 intro w3 x3 s3 hb3
 refine aA ?_
 have pA := aD (cs := [aH p.o, u, aH p.org, .bool p.up]) (x3.at (x2.at hb1))
 have pB := aD (cs := [aH p2.o, u2, aH p2.org, .bool p2.up]) (x3.at hb2)
 have pX := aD (cs := [aH xn, .int .i64 xk]) hb3
 have x03 := x1.trans (x2.trans x3)
 (repeat' first | ((with_reducible refine aJ ?_); go_step) | ((with_reducible refine aI ?_); first | refine aW ?_ | (refine aL ?_ ?_ <;> intro hc)) | fail)
 refine bK (e := 52) (k := 4) (bytes := 64) (xs := [.agg #[aH p.o, u, aH p.org, .bool p.up], .agg #[aH p2.o, u2, aH p2.org, .bool p2.up]]) rfl rfl rfl (by intro y hy; simp at hy; rcases hy with rfl | rfl <;> simp [Value.cells]) (by decide +kernel) (by simp) ?_
 intro v4 w4 x4 _ sl4 _
 refine aA ?_
 have x04 := x03.trans x4
 have hT4 : HldsAt w4 v4 [p, p2] := HldsAt.two sl4 (hu.ext x04) (hu2.ext x04)
 have pA := pA.ext x4
 have pB := pB.ext x4
 have pX := pX.ext x4
 (repeat' first | ((with_reducible refine aJ ?_); go_step) | ((with_reducible refine aI ?_); first | refine aW ?_ | (refine aL ?_ ?_ <;> intro hc)) | fail)
 refine aE (enters_of Tryz.func9 rfl rfl) rfl rfl (EB v4 [p, p2] _ hT4) ?_; intro w5 x5; refine aA ?_
 have x05 := x04.trans x5
 have hT5 := hT4.ext x5
 have pA := pA.ext x5
 have pX := pX.ext x5
 clear pB
 cases hF : vV [p, p2] with
 | false =>
  (repeat' first | ((with_reducible refine aJ ?_); go_step) | ((with_reducible refine aI ?_); first | refine aW ?_ | (refine aL ?_ ?_ <;> intro hc)) | fail)
  refine aE (enters_of Tryz.func11 rfl rfl) rfl rfl (iO _) ?_; intro w6 x6; refine aA ?_
  (repeat' first | ((with_reducible refine aJ ?_); go_step) | ((with_reducible refine aI ?_); first | refine aW ?_ | (refine aL ?_ ?_ <;> intro hc)) | fail)
  go_ret
  exact ⟨rfl, x05.trans x6⟩
 | true =>
  obtain ⟨-, hbH⟩ := JE hF
  by_cases cn : (xn.length : Int) ≤ 300
  ·(repeat' first | ((with_reducible refine aJ ?_); go_step) | ((with_reducible refine aI ?_); first | refine aW ?_ | (refine aL ?_ ?_ <;> intro hc)) | fail)
   all_goals first
    | (have hh : False := by omega
       exact hh.elim)
    | skip
   refine bK (e := 54) (k := 2) (bytes := 24) (xs := [.agg #[aH xn, .int .i64 xk]]) rfl rfl rfl (by intro y hy; simp at hy; subst hy; simp [Value.cells]) (by decide +kernel) (by simp) ?_
   intro qv w6 x6 _ sl6 _
   refine aA ?_
   have sl6 : Sl 2 w6 qv (bQ (nK (xn, xk)).qs) := sl6
   have hqf := sl6.slf
   refine aN (v := .agg (aU (nK (xn, xk)) qv aM aM aM).toArray) (Runs.build (vals := [(0, .int .i64 3), (8, qv)]) rfl (by obtain ⟨_, _, _, rfl⟩ := hqf; kernel_rfl)) ?_
   refine aA ?_
   refine aP (z := eT) rfl (by decide +kernel) ?_
   intro w7 x7 s7 h7
   refine aA ?_
   have hm7 : MsgV w7 (nK (xn, xk)) qv aM aM aM := ⟨sl6.ext x7, Sl.nil _ _, Sl.nil _ _, Sl.nil _ _⟩
   refine aG (v := .agg (aU (nK (xn, xk)) qv aM aM aM).toArray) rfl rfl rfl h7 (show aX Tryz.prog 26 13 = true by decide +kernel) rfl (cL hm7) ?_
   intro w8 p8
   have x68 : Ext w6 w8 := x7.move p8.mv (by rintro k ⟨⟩; exact Nat.le_refl _)
   have hB8 : w8.heap[w6.heap.size]? = some (.cells (aU (nK (xn, xk)) qv aM aM aM).toArray 26 (0, 0)) := p8.this
   have hm8 : MsgV w8 (nK (xn, xk)) qv aM aM aM := ⟨sl6.ext x68, Sl.nil _ _, Sl.nil _ _, Sl.nil _ _⟩
   have x58 := x6.trans x68
   have x08 := x05.trans x58
   have hT8 := hT5.ext x58
   have pA := pA.ext x58
   have pX := pX.ext x58
   have pM := aD (cs := aU (nK (xn, xk)) qv aM aM aM) hB8
   unfold aU at pM
   clear p8 h7 x7 hm7 sl6
   generalize w6.heap.size = mb at *
   (repeat' first | ((with_reducible refine aJ ?_); go_step) | ((with_reducible refine aI ?_); first | refine aW ?_ | (refine aL ?_ ?_ <;> intro hc)) | fail)
   refine aE (enters_of Tryz.func21 rfl rfl) rfl rfl (mW (nK (xn, xk)) qv aM aM aM _ hm8) ?_; intro w9 x9; refine aA ?_
   have x09 := x08.trans x9
   have hT9 := hT8.ext x9
   have pA := pA.ext x9
   have pX := pX.ext x9
   have pM := pM.ext x9
   have hm9 := hm8.ext x9
   by_cases cc : cC (nK (xn, xk)) = 0
   ·obtain ⟨i1, i2, i3, i4, i5, i6, i7, i8⟩ := xQ [p, p2] (nK (xn, xk)) cc
    have hR1 := fun h => BQ (p := p) (p2 := p2) (x := (xn, xk)) h
    have hcR : ∀ w' v', Ext w9 w' → HldsAt w' v' [p, p2] → Calls Tryz.prog 13 #[v', .agg (aU (nK (xn, xk)) qv aM aM aM).toArray] w' (oT w' (IY w' (bU [p, p2] (nK (xn, xk))))) := fun w' v' x' h' => lQ v' [p, p2] _ _ _ _ _ w' h' (hm9.ext x') (by simp) hbH
    have hcR1 : ∀ w0' w' v', Ext w9 w0' → Ext w0' w' → HldsAt w' v' [p] → Calls Tryz.prog 13 #[v', .agg (aU (nK (xn, xk)) qv aM aM aM).toArray] w' (oT w' (IY w' (bU [p] (nK (xn, xk))))) := fun w0' w' v' y' x' h' => lQ v' [p] _ _ _ _ _ w' h' ((hm9.ext y').ext x') (by simp) (fun h hh => hbH h (by simp only [List.mem_singleton] at hh; subst hh; simp))
    generalize bU [p] (nK (xn, xk)) = R1 at *
    generalize hRR : bU [p, p2] (nK (xn, xk)) = RR at *
    (repeat' first | ((with_reducible refine aJ ?_); go_step) | ((with_reducible refine aI ?_); first | refine aW ?_ | (refine aL ?_ ?_ <;> intro hc)) | fail)
    all_goals first
     | (have hh : False := by have h9 := ‹(!decide (cC (nK (xn, xk)) = 0)) = true›; rw [decide_eq_true cc] at h9; cases h9
        exact hh.elim)
     | skip
    refine dB (S := fun w' => Ext w9 w') (by decide +kernel) ?_
    intro w21 x21 _
    refine fT 0 ?_; refine aA ?_; refine fT 2 ?_; refine aA ?_
    refine xX 1 3 4 5 32 34 9 (fun b1 b2 b3 b4 => (!b2 || b1) && (!b4 || b2) && (!b4 || b3)) (fun b1 b2 b3 b4 => !b2) (fun b1 b2 b3 b4 => b1 && !b4) (fun b1 b2 b3 b4 => !b4) (fun b1 b2 b3 b4 => b2 && b3) (fun b1 b2 b3 b4 v1 v2 v3 w' => ∃ q1 a1 u1 e1 zk, Ext w9 w' ∧ (b1 = true → b4 = false → HldsAt w' v1 [p, p2]) ∧ (b2 = true → v2 = .agg (aU RR q1 a1 u1 e1).toArray ∧ MsgW w9.heap.size w' RR q1 a1 u1 e1) ∧ (b3 = true → v3 = .pointer (some ⟨zk, 0, none⟩) ∧ w9.heap.size ≤ zk ∧ w'.heap[zk]? = some (.cells (bif b4 then aU RR q1 a1 u1 e1 else eT).toArray 26 (0, 0)))) ?_ ?_ ?_ ?_ ?_ ?_
    ·exact ⟨undef, undef, undef, undef, 0, x21, by simp, by simp, by simp⟩
    ·rintro b1 b2 b3 b4 v1 v2 v3 w5 hq ⟨q1, a1, u1, e1, zk, x5, f1, f2, f3⟩
     have hb2 : b2 = false := by revert hq; cases b2 <;> simp
     have hb4 : b4 = false := by revert hq; subst hb2; cases b4 <;> simp
     subst hb2 hb4
     refine aA ?_
     refine aR (enters_of Tryz.func14 rfl rfl) rfl rfl (vG v4 [p, p2] _ (hT9.ext x5) (by simp)) ?_
     intro v6 w6 x6 h6
     refine aA ?_
     refine aK ⟨x5.trans x6, _, rfl, q1, a1, u1, e1, zk, x5.trans x6, fun _ _ => h6, by simp, fun e => ⟨(f3 e).1, (f3 e).2.1, x6.at (f3 e).2.2⟩⟩
    ·rintro b1 b2 b3 b4 v1 v2 v3 w5 hq ⟨q1, a1, u1, e1, zk, x5, f1, f2, f3⟩
     have hb1 : b1 = true := by revert hq; cases b1 <;> simp
     have hb4 : b4 = false := by revert hq; cases b4 <;> simp
     subst hb1 hb4
     refine aA ?_
     refine aR (enters_of Tryz.func13 rfl rfl) rfl rfl (hcR _ _ x5 (f1 rfl rfl)) ?_
     rintro _ w6 x6 ⟨q1', a1', u1', e1', rfl, hm6⟩
     refine aA ?_
     refine aK ⟨x5.trans x6, _, rfl, q1', a1', u1', e1', zk, x5.trans x6, fun _ _ => (f1 rfl rfl).ext x6, fun _ => ⟨rfl, hm6.weaken x5.size⟩, fun e => ⟨(f3 e).1, (f3 e).2.1, x6.at (f3 e).2.2⟩⟩
    ·rintro b1 b2 b3 b4 v1 v2 v3 w5 hq ⟨q1, a1, u1, e1, zk, x5, f1, f2, f3⟩
     have hb4 : b4 = false := by revert hq; cases b4 <;> simp
     subst hb4
     refine aA ?_
     refine aP (z := eT) rfl (by decide +kernel) ?_
     intro w6 x6 s6 h6
     refine aA ?_
     refine aK ⟨x5.trans x6, _, rfl, q1, a1, u1, e1, _, x5.trans x6, fun e _ => (f1 e rfl).ext x6, fun e => ⟨(f2 e).1, (f2 e).2.ext x6⟩, fun _ => ⟨rfl, x5.size, h6⟩⟩
    ·rintro b1 b2 b3 b4 v1 v2 v3 w5 hq ⟨q1, a1, u1, e1, zk, x5, f1, f2, f3⟩
     have hb2 : b2 = true := by revert hq; cases b2 <;> simp
     have hb3 : b3 = true := by revert hq; cases b3 <;> simp
     have hb1 : b1 = true := by revert hq; subst hb2; cases b1 <;> simp
     subst hb1 hb2 hb3
     obtain ⟨rfl, g2⟩ := f2 rfl
     obtain ⟨rfl, g5, g6⟩ := f3 rfl
     refine aA ?_
     refine aG (v := .agg (aU RR q1 a1 u1 e1).toArray) rfl rfl rfl g6 (show aX Tryz.prog 26 13 = true by decide +kernel) rfl (cL g2.msg) ?_
     intro w6 p6
     have x6 : Ext w9 w6 := x5.move p6.mv (by rintro k ⟨⟩; exact g5)
     refine aK ⟨x6, rfl, q1, a1, u1, e1, zk, x6, by simp, fun _ => ⟨rfl, g2.box g6 p6.mv⟩, fun _ => ⟨rfl, g5, p6.this⟩⟩
    ·rintro v1 v2 v3 w22 ⟨q1, a1, u1, e1, zk, x22, f1, f2, f3⟩
     obtain ⟨k2, hm22⟩ := f2 rfl
     obtain ⟨k3, k4, k5⟩ := f3 rfl
     clear f1 f2 f3
     subst k2 k3
     refine aA ?_
     refine cW (by decide +kernel) ?_
     have k5 : w22.heap[zk]? = some (.cells (aU RR q1 a1 u1 e1).toArray 26 (0, 0)) := k5
     have i1 : RR.qs = [(xn, xk)] := i1
     have i2 : RR.id = 3 := i2
     have pR := aD (cs := aU RR q1 a1 u1 e1) k5
     have hq1 : Sl 2 w22 q1 (bQ [(xn, xk)]) := by rw [← i1]; exact hm22.oq.sl
     have hq1l : (bQ [(xn, xk)]).length = 1 := rfl
     have heq := hq1.elem (i := 0) (e := [aH xn, .int .i64 xk]) rfl
     have pR' := pR
     unfold aU at pR'
     rw [i2, i5] at pR'
     have x022 := x09.trans x22
     have pX := pX.ext x22
     have pA := pA.ext x22
     have pM := pM.ext x22
     have hT22 := hT9.ext x22
     have x922 := x22
     clear hcR x22 k4 pR
     (repeat' first | ((with_reducible refine aJ ?_); go_step) | ((with_reducible refine aI ?_); first | refine aW ?_ | (refine aL ?_ ?_ <;> intro hc)) | fail)
     refine dY (by decide +kernel) (by decide +kernel) ?_
     (try ((with_reducible refine vH ?_); refine EK ?_))
     rw [show (!decide (((bQ [(xn, xk)]).length : Int) = 1)) = false from rfl]
     (try ((with_reducible refine vH ?_); refine EK ?_))
     refine kI (fun w' _ => Runs.neqQst (r := (xn, xk)) (q := (xn, xk)) rfl rfl) ?_
     rw [show (!decide ((xn, xk) = (xn, xk))) = false by rw [decide_eq_true rfl]; rfl]
     refine aA ?_
     (try ((with_reducible refine vH ?_); refine EK ?_))
     intro w23 x23
     have x023 := x022.trans x23
     have x923 := x922.trans x23
     have pX := pX.ext x23
     have pA := pA.ext x23
     have pM := pM.ext x23
     have hT23 := hT22.ext x23
     have hm23 := hm22.ext x23
     have hk23 := x23.at k5
     (repeat' first | ((with_reducible refine aJ ?_); go_step) | ((with_reducible refine aI ?_); first | refine aW ?_ | (refine aL ?_ ?_ <;> intro hc)) | fail)
     refine aE (enters_of Tryz.func22 rfl rfl) rfl rfl (NQ v4 [p, p2] xn _ hT23 (by simp)) ?_; intro w24 x24; refine aA ?_
     have x024 := x023.trans x24
     have x924 := x923.trans x24
     have pX := pX.ext x24
     have pA := pA.ext x24
     have pM := pM.ext x24
     have hT24 := hT23.ext x24
     have hm24 := hm23.ext x24
     have hk24 := x24.at hk23
     by_cases cz : JJ (yZ [p, p2] xn) = 0
     ·(repeat' first | ((with_reducible refine aJ ?_); go_step) | ((with_reducible refine aI ?_); first | refine aW ?_ | (refine aL ?_ ?_ <;> intro hc)) | fail)
      all_goals first
       | (have hh : False := by have h9 := ‹(!decide (JJ (yZ [p, p2] xn) = 0)) = true›; rw [decide_eq_true cz] at h9; cases h9
          exact hh.elim)
       | skip
      refine dB (S := fun w' => Ext w24 w') (by decide +kernel) ?_
      intro w31 x31 _
      refine fT 0 ?_; refine aA ?_; refine fT 3 ?_; refine aA ?_
      refine JP 1 2 4 5 6 64 65 67 10 (fun b1 b2 b3 b4 b5 => (!b2 || b1) && (!b3 || b2) && (!b5 || b3) && (!b5 || b4)) (fun b1 b2 b3 b4 b5 => !b2) (fun b1 b2 b3 b4 b5 => b1 && !b3) (fun b1 b2 b3 b4 b5 => b2 && !b5) (fun b1 b2 b3 b4 b5 => !b5) (fun b1 b2 b3 b4 b5 => b3 && b4) (fun b1 b2 b3 b4 b5 v1 v2 v3 v4 w' => ∃ q2 a2 u2 e2 zk2, Ext w24 w' ∧ (b1 = true → b5 = false → Sl 4 w' v1 [JH p u]) ∧ (b2 = true → b5 = false → HldsAt w' v2 [p]) ∧ (b3 = true → v3 = .agg (aU R1 q2 a2 u2 e2).toArray ∧ MsgW w24.heap.size w' R1 q2 a2 u2 e2) ∧ (b4 = true → v4 = .pointer (some ⟨zk2, 0, none⟩) ∧ w24.heap.size ≤ zk2 ∧ w'.heap[zk2]? = some (.cells (bif b5 then aU R1 q2 a2 u2 e2 else eT).toArray 26 (0, 0)))) ?_ ?_ ?_ ?_ ?_ ?_ ?_
      ·exact ⟨undef, undef, undef, undef, 0, x31, by simp, by simp, by simp, by simp⟩
      ·rintro b1 b2 b3 b4 b5 v1 v2 v3 v4 w5 hq ⟨q2, a2, u2, e2, zk2, x5, f1, f2, f3, f4⟩
       have hb2 : b2 = false := by revert hq; cases b2 <;> simp
       have hb3 : b3 = false := by revert hq; subst hb2; cases b3 <;> simp
       have hb5 : b5 = false := by revert hq; subst hb3; cases b5 <;> simp
       subst hb2 hb3 hb5
       refine aA ?_
       refine bK (e := 52) (k := 4) (bytes := 64) (xs := [.agg #[aH p.o, u, aH p.org, .bool p.up]]) rfl rfl rfl (by intro y hy; simp at hy; subst hy; simp [Value.cells]) (by decide +kernel) (by simp) ?_
       intro v6 w6 x6 _ sl6 _
       refine aA ?_
       have sl6 : Sl 4 w6 v6 [JH p u] := sl6
       refine aK ⟨x5.trans x6, _, rfl, q2, a2, u2, e2, zk2, x5.trans x6, fun _ _ => sl6, by simp, by simp, fun e => ⟨(f4 e).1, (f4 e).2.1, x6.at (f4 e).2.2⟩⟩
      ·rintro b1 b2 b3 b4 b5 v1 v2 v3 v4 w5 hq ⟨q2, a2, u2, e2, zk2, x5, f1, f2, f3, f4⟩
       have hb1 : b1 = true := by revert hq; cases b1 <;> simp
       have hb3 : b3 = false := by revert hq; cases b3 <;> simp
       have hb5 : b5 = false := by revert hq; subst hb3; cases b5 <;> simp
       subst hb1 hb3 hb5
       refine aA ?_
       refine aR (enters_of Tryz.func14 rfl rfl) rfl rfl (vG v1 [p] _ (HldsAt.single (f1 rfl rfl) (hu.ext (x024.trans x5))) (by simp)) ?_
       intro v6 w6 x6 h6
       refine aA ?_
       refine aK ⟨x5.trans x6, _, rfl, q2, a2, u2, e2, zk2, x5.trans x6, fun _ _ => (f1 rfl rfl).ext x6, fun _ _ => h6, by simp, fun e => ⟨(f4 e).1, (f4 e).2.1, x6.at (f4 e).2.2⟩⟩
      ·rintro b1 b2 b3 b4 b5 v1 v2 v3 v4 w5 hq ⟨q2, a2, u2, e2, zk2, x5, f1, f2, f3, f4⟩
       have hb2 : b2 = true := by revert hq; cases b2 <;> simp
       have hb5 : b5 = false := by revert hq; cases b5 <;> simp
       subst hb2 hb5
       refine aA ?_
       refine aR (enters_of Tryz.func13 rfl rfl) rfl rfl (hcR1 w24 _ _ x924 x5 (f2 rfl rfl)) ?_
       rintro _ w6 x6 ⟨q1', a1', u1', e1', rfl, hm6⟩
       refine aA ?_
       refine aK ⟨x5.trans x6, _, rfl, q1', a1', u1', e1', zk2, x5.trans x6, fun e _ => (f1 e rfl).ext x6, fun _ _ => (f2 rfl rfl).ext x6, fun _ => ⟨rfl, hm6.weaken x5.size⟩, fun e => ⟨(f4 e).1, (f4 e).2.1, x6.at (f4 e).2.2⟩⟩
      ·rintro b1 b2 b3 b4 b5 v1 v2 v3 v4 w5 hq ⟨q2, a2, u2, e2, zk2, x5, f1, f2, f3, f4⟩
       have hb5 : b5 = false := by revert hq; cases b5 <;> simp
       subst hb5
       refine aA ?_
       refine aP (z := eT) rfl (by decide +kernel) ?_
       intro w6 x6 s6 h6
       refine aA ?_
       refine aK ⟨x5.trans x6, _, rfl, q2, a2, u2, e2, _, x5.trans x6, fun e _ => (f1 e rfl).ext x6, fun e _ => (f2 e rfl).ext x6, fun e => ⟨(f3 e).1, (f3 e).2.ext x6⟩, fun _ => ⟨rfl, x5.size, h6⟩⟩
      ·rintro b1 b2 b3 b4 b5 v1 v2 v3 v4 w5 hq ⟨q2, a2, u2, e2, zk2, x5, f1, f2, f3, f4⟩
       have hb3 : b3 = true := by revert hq; cases b3 <;> simp
       have hb4 : b4 = true := by revert hq; cases b4 <;> simp
       subst hb3 hb4
       obtain ⟨rfl, g2⟩ := f3 rfl
       obtain ⟨rfl, g5, g6⟩ := f4 rfl
       refine aA ?_
       refine aG (v := .agg (aU R1 q2 a2 u2 e2).toArray) rfl rfl rfl g6 (show aX Tryz.prog 26 13 = true by decide +kernel) rfl (cL g2.msg) ?_
       intro w6 p6
       have x6 : Ext w24 w6 := x5.move p6.mv (by rintro k ⟨⟩; exact g5)
       refine aK ⟨x6, rfl, q2, a2, u2, e2, zk2, x6, by simp, by simp, fun _ => ⟨rfl, g2.box g6 p6.mv⟩, fun _ => ⟨rfl, g5, p6.this⟩⟩
      ·rintro v1 v2 v3 v4 w32 ⟨q2, a2, u2, e2, zk2, x32, f1, f2, f3, f4⟩
       obtain ⟨k2, hm32⟩ := f3 rfl
       obtain ⟨k3, k4, k6⟩ := f4 rfl
       clear f1 f2 f3 f4
       subst k2 k3
       refine aA ?_
       refine cW (by decide +kernel) ?_
       have k6 : w32.heap[zk2]? = some (.cells (aU R1 q2 a2 u2 e2).toArray 26 (0, 0)) := k6
       have pR := aD (cs := aU RR q1 a1 u1 e1) (x32.at hk24)
       have pS := aD (cs := aU R1 q2 a2 u2 e2) k6
       unfold aU at pR pS
       have hm2432 := hm24.msg.ext x32
       have x032 := x024.trans x32
       have hms := hm32.msg
       clear pX pA pM hcR1 hT24 x32 k4
       (repeat' first | ((with_reducible refine aJ ?_); go_step) | ((with_reducible refine aI ?_); first | refine aW ?_ | (refine aL ?_ ?_ <;> intro hc)) | fail)
       refine aE (enters_of Tryz.func12 rfl rfl) rfl rfl (KR RR R1 q1 a1 u1 e1 q2 a2 u2 e2 _ hm2432 hms) ?_; intro w33 x33; refine aA ?_
       rw [show decide (RR = R1) = true by rw [decide_eq_true_eq]; exact hR1 (JF.1 cz)]
       (repeat' first | ((with_reducible refine aJ ?_); go_step) | ((with_reducible refine aI ?_); first | refine aW ?_ | (refine aL ?_ ?_ <;> intro hc)) | fail)
       refine aE (enters_of Tryz.func11 rfl rfl) rfl rfl (iO _) ?_; intro w34 x34; refine aA ?_
       (repeat' first | ((with_reducible refine aJ ?_); go_step) | ((with_reducible refine aI ?_); first | refine aW ?_ | (refine aL ?_ ?_ <;> intro hc)) | fail)
       go_ret
       exact ⟨rfl, x032.trans (x33.trans x34)⟩
     ·(repeat' first | ((with_reducible refine aJ ?_); go_step) | ((with_reducible refine aI ?_); first | refine aW ?_ | (refine aL ?_ ?_ <;> intro hc)) | fail)
      all_goals first
       | (have hh : False := by have h9 := ‹(!decide (JJ (yZ [p, p2] xn) = 0)) = false›; rw [decide_eq_false cz] at h9; cases h9
          exact hh.elim)
       | skip
      refine aE (enters_of Tryz.func11 rfl rfl) rfl rfl (iO _) ?_; intro w25 x25; refine aA ?_
      (repeat' first | ((with_reducible refine aJ ?_); go_step) | ((with_reducible refine aI ?_); first | refine aW ?_ | (refine aL ?_ ?_ <;> intro hc)) | fail)
      go_ret
      exact ⟨rfl, x024.trans x25⟩
   ·(repeat' first | ((with_reducible refine aJ ?_); go_step) | ((with_reducible refine aI ?_); first | refine aW ?_ | (refine aL ?_ ?_ <;> intro hc)) | fail)
    all_goals first
     | (have hh : False := by have h9 := ‹(!decide (cC (nK (xn, xk)) = 0)) = false›; rw [decide_eq_false cc] at h9; cases h9
        exact hh.elim)
     | skip
    refine aE (enters_of Tryz.func11 rfl rfl) rfl rfl (iO _) ?_; intro w10 x10; refine aA ?_
    (repeat' first | ((with_reducible refine aJ ?_); go_step) | ((with_reducible refine aI ?_); first | refine aW ?_ | (refine aL ?_ ?_ <;> intro hc)) | fail)
    go_ret
    exact ⟨rfl, x09.trans x10⟩
  ·(repeat' first | ((with_reducible refine aJ ?_); go_step) | ((with_reducible refine aI ?_); first | refine aW ?_ | (refine aL ?_ ?_ <;> intro hc)) | fail)
   all_goals first
    | (have hh : False := by omega
       exact hh.elim)
    | skip
   refine aE (enters_of Tryz.func11 rfl rfl) rfl rfl (iO _) ?_; intro w6 x6; refine aA ?_
   (repeat' first | ((with_reducible refine aJ ?_); go_step) | ((with_reducible refine aI ?_); first | refine aW ?_ | (refine aL ?_ ?_ <;> intro hc)) | fail)
   go_ret
   exact ⟨rfl, x05.trans x6⟩
end Go.Proofs.X
