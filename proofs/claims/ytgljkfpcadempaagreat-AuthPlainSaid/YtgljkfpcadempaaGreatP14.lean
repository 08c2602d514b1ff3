/- Laws and walks that the proof of the statement is made of (part 14). -/
import Derived.Test.YtgljkfpcadempaaGreatP13
set_option linter.unusedSimpArgs false
set_option linter.unusedVariables false
namespace Go.Proofs.X
open Go.RowKit
set_option maxRecDepth 100000
def jX (size : Int) (stream : Bool) : Int := if stream = true then 65535 else if size < 512 then 512 else min size 1232
theorem KX (m : MsgR) (q a u e : Value) (stream : Bool) (w : World) (hm : MsgV w m q a u e) : Calls Tryz.prog 20 #[.agg (aU m q a u e).toArray, .bool stream] w (bO w (.int .i64 (jX m.size stream))) := by
 unfold jX
 go_enter Tryz.func20, Tryz.ntmps20
 repeat' (first | ((with_reducible refine aJ ?_); go_step) | fail)
 refine dP (vs := aU m q a u e) rfl rfl ?_
 intro w1 x1 s1 hb1
 refine aA ?_
 have hpM := aD (cs := aU m q a u e) hb1
 unfold aU at hpM
 cases stream with
 | true =>
  (repeat' first | ((with_reducible refine aJ ?_); go_step) | ((with_reducible refine aI ?_); first | refine aW ?_ | (refine aL ?_ ?_ <;> intro hc)) | fail)
  go_ret
  exact ⟨rfl, x1⟩
 | false =>
  by_cases c : m.size < 512
  ·(repeat' first | ((with_reducible refine aJ ?_); go_step) | ((with_reducible refine aI ?_); first | refine aW ?_ | (refine aL ?_ ?_ <;> intro hc)) | fail)
   all_goals first
    | (exfalso; omega)
    | skip
   go_ret
   rw [if_neg (by decide), if_pos c]
   exact ⟨rfl, x1⟩
  ·(repeat' first | ((with_reducible refine aJ ?_); go_step) | ((with_reducible refine aI ?_); first | refine aW ?_ | (refine aL ?_ ?_ <;> intro hc)) | fail)
   all_goals first
    | (exfalso; omega)
    | skip
   go_ret
   rw [if_neg (by decide), if_neg c]
   exact ⟨rfl, x1⟩
def bareR (m : MsgR) (code : Int) : MsgR := ⟨m.id, true, m.op, false, false, m.want, false, code, m.qs, [], [], [], if m.size = 0 then 0 else 1232⟩
def bareN (m : MsgR) (code : Int) : MsgR := ⟨m.id, true, m.op, false, false, m.want, false, code, m.qs, [], [], [], 0⟩
def aM : Value := .slice none 0 0
theorem jY (m : MsgR) (q a u e : Value) (code : Int) (w : World) (hm : MsgV w m q a u e) (hl : m.qs.length ≤ 1000) : Calls Tryz.prog 29 #[.agg (aU m q a u e).toArray, .int .i64 code] w (oT w fun r w' => ∃ q', r = .agg (aU (bareR m code) q' aM aM aM).toArray ∧ Own w.heap.size 2 54 w' q' (bQ m.qs)) := by
 go_enter Tryz.func29, Tryz.ntmps29
 repeat' (first | ((with_reducible refine aJ ?_); go_step) | fail)
 refine dP (vs := aU m q a u e) rfl rfl ?_
 intro w1 x1 s1 hb1
 refine aA ?_
 refine aP (z := eT) rfl (by decide +kernel) ?_
 intro w2 x2 s2 h2
 refine aA ?_
 have x02 := x1.trans x2
 have hpM := aD (cs := aU m q a u e) (x2.at hb1)
 unfold aU at hpM
 have hq2 := hm.qs.ext x02
 (repeat' first | ((with_reducible refine aJ ?_); go_step) | ((with_reducible refine aI ?_); first | refine aW ?_ | (refine aL ?_ ?_ <;> intro hc)) | fail)
 refine dB (S := fun w' => Ext w2 w') (by decide +kernel) ?_
 intro w3 x3 _
 refine fT 0 ?_; refine aA ?_; refine fT 1 ?_; refine aA ?_; refine fT 2 ?_; refine aA ?_; refine fT 3 ?_; refine aA ?_; refine fT 4 ?_; refine aA ?_; refine fT 5 ?_; refine aA ?_; refine fT 6 ?_; refine aA ?_; refine fT 7 ?_; refine aA ?_; refine fT 8 ?_; refine aA ?_
 refine xX 9 10 11 12 15 16 5 (fun b1 b2 b3 b4 => (!b2 || b1) && (!b4 || b2) && (!b4 || b3)) (fun b1 b2 b3 b4 => !b2) (fun b1 b2 b3 b4 => b1 && !b4) (fun b1 b2 b3 b4 => !b4) (fun b1 b2 b3 b4 => b2 && b3) (fun b1 b2 b3 b4 v1 v2 v3 w' => ∃ zk, Ext w2 w' ∧ (b1 = true → Own w2.heap.size 2 54 w' v1 (bQ m.qs)) ∧ (b2 = true → v2 = .agg (aU (bareN m code) v1 aM aM aM).toArray) ∧ (b3 = true → v3 = .pointer (some ⟨zk, 0, none⟩) ∧ w2.heap.size ≤ zk ∧ w'.heap[zk]? = some (.cells (bif b4 then aU (bareN m code) v1 aM aM aM else eT).toArray 26 (0, 0)))) ?_ ?_ ?_ ?_ ?_ ?_
 ·exact ⟨0, x3, by simp, by simp, by simp⟩
 ·rintro b1 b2 b3 b4 v1 v2 v3 w4 hq ⟨zk, x4, f1, f2, f3⟩
  have hb2 : b2 = false := by revert hq; cases b2 <;> simp
  have hb4 : b4 = false := by revert hq; subst hb2; cases b4 <;> simp
  subst hb2 hb4
  refine aA ?_
  refine aR (enters_of Tryz.func62 rfl rfl) rfl rfl (BJ q m.qs _ (hq2.ext x4) (by omega)) ?_
  intro v5 w5 x5 o5
  refine aA ?_
  refine aK ⟨x4.trans x5, _, rfl, zk, x4.trans x5, fun _ => o5.weaken x4.size, by simp, fun e => ?_⟩
  obtain ⟨g1, g2, g3⟩ := f3 e
  exact ⟨g1, g2, x5.at g3⟩
 ·rintro b1 b2 b3 b4 v1 v2 v3 w4 hq ⟨zk, x4, f1, f2, f3⟩
  have hb1 : b1 = true := by revert hq; cases b1 <;> simp
  have hb4 : b4 = false := by revert hq; cases b4 <;> simp
  subst hb1 hb4
  refine aA ?_
  have q1 := (f1 rfl).sl.slf
  refine cO (v := .agg (aU (bareN m code) v1 aM aM aM).toArray) rfl (Runs.build (vals := [(0, .int .i64 m.id), (2, .int .i64 m.op), (5, .bool m.want), (1, .bool true), (7, .int .i64 code), (8, v1)]) rfl (by obtain ⟨_, _, _, rfl⟩ := q1; kernel_rfl)) ?_
  refine aA ?_
  refine aK ⟨x4, _, rfl, zk, x4, fun _ => f1 rfl, fun _ => rfl, f3⟩
 ·rintro b1 b2 b3 b4 v1 v2 v3 w4 hq ⟨zk, x4, f1, f2, f3⟩
  have hb4 : b4 = false := by revert hq; cases b4 <;> simp
  subst hb4
  refine aA ?_
  refine aP (z := eT) rfl (by decide +kernel) ?_
  intro w5 x5 s5 h5
  refine aA ?_
  refine aK ⟨x4.trans x5, _, rfl, _, x4.trans x5, fun e => (f1 e).ext x5, f2, fun _ => ⟨rfl, x4.size, h5⟩⟩
 ·rintro b1 b2 b3 b4 v1 v2 v3 w4 hq ⟨zk, x4, f1, f2, f3⟩
  have hb2 : b2 = true := by revert hq; cases b2 <;> simp
  have hb3 : b3 = true := by revert hq; cases b3 <;> simp
  have hb1 : b1 = true := by revert hq; subst hb2; cases b1 <;> simp
  subst hb1 hb2 hb3
  have g2 := f2 rfl
  subst g2
  obtain ⟨rfl, g5, g6⟩ := f3 rfl
  have q1 := (f1 rfl).sl.one
  have n1 := (f1 rfl).neBlock g6 (by decide)
  refine aA ?_
  have hmb : MsgV w4 (bareN m code) v1 aM aM aM := ⟨(f1 rfl).sl, Sl.nil _ _, Sl.nil _ _, Sl.nil _ _⟩
  refine aG (v := .agg (aU (bareN m code) v1 aM aM aM).toArray) rfl rfl rfl g6 (show aX Tryz.prog 26 13 = true by decide +kernel) rfl (cL hmb) ?_
  intro w5 p5
  have x5 : Ext w2 w5 := x4.move p5.mv (by rintro k ⟨⟩; exact g5)
  refine aK ⟨x5, rfl, zk, x5, fun _ => (f1 rfl).mv p5.mv (.inr n1), by simp, fun _ => ⟨rfl, g5, p5.this⟩⟩
 ·rintro v1 v2 v3 w9 ⟨zk, x9, f1, f2, f3⟩
  have o1 := f1 rfl
  have k2 := f2 rfl
  obtain ⟨k3, k4, k5⟩ := f3 rfl
  clear f1 f2 f3
  subst k2 k3
  refine aA ?_
  refine cW (by decide +kernel) ?_
  have k5' : w9.heap[zk]? = some (.cells (aU (bareN m code) v1 aM aM aM).toArray 26 (0, 0)) := k5
  have hpz := aD (cs := aU (bareN m code) v1 aM aM aM) k5'
  have hpM9 := hpM.ext x9
  unfold aU bareN at hpz
  have h9 := x9.at h2
  clear hpM
  have x09 := x02.trans x9
  have hmb : MsgV w9 (bareR m code) v1 aM aM aM := ⟨o1.sl, Sl.nil _ _, Sl.nil _ _, Sl.nil _ _⟩
  have hlt1 : w1.heap.size < w2.heap.size := by omega
  by_cases cz : m.size = 0
  ·have hbr : bareR m code = bareN m code := by unfold bareR bareN; rw [if_pos cz]
   (repeat' first | ((with_reducible refine aJ ?_); go_step) | ((with_reducible refine aI ?_); first | refine aW ?_ | (refine aL ?_ ?_ <;> intro hc)) | fail)
   all_goals first
    | (exfalso; simp_all; done)
    | skip
   refine aG (v := .agg (aU (bareR m code) v1 aM aM aM).toArray) rfl rfl (by rw [hbr]; rfl) h9 (show aX Tryz.prog 26 13 = true by decide +kernel) rfl (cL hmb) ?_
   intro w10 p10
   have x10 : Ext w w10 := x09.move p10.mv (by rintro k ⟨⟩; exact x1.size)
   (repeat' first | ((with_reducible refine aJ ?_); go_step) | ((with_reducible refine aI ?_); first | refine aW ?_ | (refine aL ?_ ?_ <;> intro hc)) | fail)
   refine bodyPost_ret (cE (cs := aU (bareR m code) v1 aM aM aM) rfl rfl p10.this (show dS Tryz.prog 26 13 = true by decide +kernel)) rfl ⟨_, rfl, x10, v1, rfl, ?_⟩
   exact (o1.mv p10.mv (.inr (o1.neBlock h9 (by decide)))).weaken x02.size
  ·have hbr : bareR m code = { bareN m code with size := 1232 } := by unfold bareR bareN; rw [if_neg cz]
   (repeat' first | ((with_reducible refine aJ ?_); go_step) | ((with_reducible refine aI ?_); first | refine aW ?_ | (refine aL ?_ ?_ <;> intro hc)) | fail)
   all_goals first
    | (exfalso; simp_all; done)
    | skip
   refine aO (n := 12) (v := .int .i64 1232) k5' rfl rfl rfl (by simp [aU]) (by decide +kernel) rfl ?_
   intro w10 p10
   have hz10 : w10.heap[zk]? = some (.cells (aU (bareR m code) v1 aM aM aM).toArray 26 (0, 0)) := by rw [hbr]; exact p10.this
   have x10 : Ext w2 w10 := x9.move p10.mv (by rintro k ⟨⟩; exact k4)
   have h10 := x10.at h2
   have o10 := o1.mv p10.mv (.inr (o1.neBlock k5' (by decide)))
   have hmb : MsgV w10 (bareR m code) v1 aM aM aM := ⟨o10.sl, Sl.nil _ _, Sl.nil _ _, Sl.nil _ _⟩
   have hpz := aD (cs := aU (bareR m code) v1 aM aM aM) hz10
   rw [hbr] at hpz
   unfold aU bareN at hpz
   (repeat' first | ((with_reducible refine aJ ?_); go_step) | ((with_reducible refine aI ?_); first | refine aW ?_ | (refine aL ?_ ?_ <;> intro hc)) | fail)
   refine aG (v := .agg (aU (bareR m code) v1 aM aM aM).toArray) rfl rfl (by rw [hbr]; rfl) h10 (show aX Tryz.prog 26 13 = true by decide +kernel) rfl (cL hmb) ?_
   intro w11 p11
   have x11 : Ext w w11 := (x02.trans x10).move p11.mv (by rintro k ⟨⟩; exact x1.size)
   (repeat' first | ((with_reducible refine aJ ?_); go_step) | ((with_reducible refine aI ?_); first | refine aW ?_ | (refine aL ?_ ?_ <;> intro hc)) | fail)
   refine bodyPost_ret (cE (cs := aU (bareR m code) v1 aM aM aM) rfl rfl p11.this (show dS Tryz.prog 26 13 = true by decide +kernel)) rfl ⟨_, rfl, x11, v1, rfl, ?_⟩
   exact (o10.mv p11.mv (.inr (o10.neBlock h10 (by decide)))).weaken x02.size
def nA (n : Nat) : List UInt8 := bJ (n / 65536) ++ bJ n
theorem IN {w0 w : World} {b m : Nat} {l : List UInt8} {ps : List (List UInt8 × Nat)} (h : WrAt w0 w b m l ps) (n : Nat) (hn : n ≤ 100000000000000) (hl : l.length + 4 ≤ 100000000000000) : Calls Tryz.prog 57 #[.pointer (some ⟨b, 0, none⟩), .int .i64 n] w (rZ w0 w b m (l ++ nA n) ps) := by
 go_enter Tryz.func57, Tryz.ntmps57
 (repeat' first | ((with_reducible refine aJ ?_); go_step) | ((with_reducible refine aI ?_); first | refine aW ?_ | (refine aL ?_ ?_ <;> intro hc)) | fail)
 have c1 := iA h (n / 65536) (by omega) (by omega)
 refine aF (vs := [.pointer (some ⟨b, 0, none⟩), .int .i64 ((n / 65536 : Nat) : Int)]) (enters_of Tryz.func54 rfl rfl) rfl (congrArg (fun z => [Value.pointer (some ⟨b, 0, none⟩), Value.int .i64 z]) (show ((n : Int) / 2 ^ Int.toNat 16) = ((n / 65536 : Nat) : Int) by simp)) c1 ?_
 rintro _ w1 ⟨rfl, h1, g1⟩
 refine ⟨_, rfl, ?_⟩
 refine aA ?_
 have c2 := iA h1 n hn (by simp [bJ]; omega)
 (repeat' first | ((with_reducible refine aJ ?_); go_step) | ((with_reducible refine aI ?_); first | refine aW ?_ | (refine aL ?_ ?_ <;> intro hc)) | fail)
 refine aF (vs := [.pointer (some ⟨b, 0, none⟩), .int .i64 ((n : Nat) : Int)]) (enters_of Tryz.func54 rfl rfl) rfl rfl c2 ?_
 rintro _ w2 ⟨rfl, h2, g2⟩
 refine ⟨_, rfl, ?_⟩
 refine aA ?_
 (repeat' first | ((with_reducible refine aJ ?_); go_step) | ((with_reducible refine aI ?_); first | refine aW ?_ | (refine aL ?_ ?_ <;> intro hc)) | fail)
 go_end0
 exact ⟨rfl, by simpa [nA] using h2, g1.trans g2⟩
def kU (x : List UInt8) : List UInt8 := UInt8.ofNat x.length :: x
def dH : List (List UInt8) → List UInt8 → List (List UInt8 × Nat) → List UInt8 × List (List UInt8 × Nat)
 | [], l, ps => (l ++ [0], ps)
 | x :: ls, l, ps => match ps.find? (fun p => decide (p.1 = enc (x :: ls))) with
   | some p => if p.2 < 16384 then (l ++ bJ (49152 ||| p.2), ps) else dH ls (l ++ kU x) ps
   | none => dH ls (l ++ kU x) (ps ++ [(enc (x :: ls), l.length)])
def Keys (ps : List (List UInt8 × Nat)) : Prop := ps.Pairwise fun a b => a.1 ≠ b.1
theorem IP {ps : List (List UInt8 × Nat)} (hk : Keys ps) {i : Nat} {p : List UInt8 × Nat} (h : ps[i]? = some p) : ps.find? (fun q => decide (q.1 = p.1)) = some p := by
 induction ps generalizing i with
 | nil => simp at h
 | cons q ps ih =>
  obtain ⟨h1, h2⟩ := List.pairwise_cons.1 hk
  cases i with
  | zero =>
   simp at h
   subst h
   simp
  | succ i =>
   simp at h
   rw [List.find?_cons_of_neg (by simpa using h1 p (List.mem_of_getElem? h))]
   exact ih h2 h
theorem ND {ps : List (List UInt8 × Nat)} {i : Nat} {n : List UInt8} {v : Value} (h : (NA ps)[i]? = some (aH n, v)) : ∃ k, ps[i]? = some (n, k) ∧ v = .int .i64 (k : Nat) := by
 simp only [NA, List.getElem?_map] at h
 cases hp : ps[i]? with
 | none => rw [hp] at h; cases h
 | some p =>
  rw [hp] at h
  simp only [Option.map_some, Option.some.injEq, Prod.mk.injEq] at h
  obtain ⟨h1, h2⟩ := h
  exact ⟨p.2, by rw [← (show p.1 = n by simpa [aH] using h1)], h2.symm⟩
theorem DV {ps : List (List UInt8 × Nat)} {n : List UInt8} (h : ∀ (i : Nat) (e : Value × Value), (NA ps)[i]? = some e → e.1 ≠ aH n) : ps.find? (fun q => decide (q.1 = n)) = none := by
 rw [List.find?_eq_none]
 intro q hq e
 obtain ⟨i, hi⟩ := List.getElem?_of_mem hq
 have e : q.1 = n := by simpa using e
 exact h i (aH q.1, .int .i64 (q.2 : Nat)) (by simp [NA, hi]) (by rw [e])
theorem Keys.add {ps : List (List UInt8 × Nat)} {n : List UInt8} {k : Nat} (hk : Keys ps) (h : ps.find? (fun q => decide (q.1 = n)) = none) : Keys (ps ++ [(n, k)]) := by
 unfold Keys
 rw [List.pairwise_append]
 refine ⟨hk, List.pairwise_singleton _ _, ?_⟩
 intro a ha b hb
 simp at hb
 subst hb
 rw [List.find?_eq_none] at h
 simpa using h a ha
def sLen : Value → Nat
 | .string s => s.size
 | _ => 0
set_option maxHeartbeats 2000000 in
theorem DW {w0 w : World} {b m : Nat} {l : List UInt8} {ps : List (List UInt8 × Nat)} (h : WrAt w0 w b m l ps) (hk : Keys ps) (ls : List (List UInt8)) (hf : ls.all jF = true) (hn : (enc ls).length ≤ 1000) (hl : l.length + 2000 ≤ 100000000000000) : Calls Tryz.prog 56 #[.pointer (some ⟨b, 0, none⟩), aH (enc ls)] w (rZ w0 w b m (dH ls l ps).1 (dH ls l ps).2) := by
 have hgo : dH (ls.drop 0) l ps = dH ls l ps := by rw [List.drop_zero]
 generalize dH ls l ps = RES at *
 go_enter Tryz.func56, Tryz.ntmps56
 (repeat' first | ((with_reducible refine aJ ?_); go_step) | ((with_reducible refine aI ?_); first | refine aW ?_ | (refine aL ?_ ?_ <;> intro hc)) | fail)
 go_loopw [1, 4, 5, 6] (fun nv _ _ _ wr => ∃ (k : Nat) (l' : List UInt8) (ps' : List (List UInt8 × Nat)), k ≤ ls.length ∧ nv = aH (enc (ls.drop k)) ∧ WrAt w0 wr b m l' ps' ∧ Keys ps' ∧ l'.length + (enc (ls.drop k)).length ≤ l.length + 1000 ∧ (enc (ls.drop k)).length ≤ 1000 ∧ Kp w wr ∧ dH (ls.drop k) l' ps' = RES) (fun nv _ _ _ _ => sLen nv)
 case atStart => exact ⟨0, l, ps, Nat.zero_le _, by rw [List.drop_zero], h, hk, by rw [List.drop_zero]; omega, by rw [List.drop_zero]; exact hn, Kp.refl _, hgo⟩
 case round =>
  obtain ⟨k, l', ps', hkl, rfl, hW, hK, hle, hle2, hKp, hg⟩ := hrel
  have hfd : (ls.drop k).all jF = true := by
   rw [List.all_eq_true] at hf ⊢
   exact fun x hx => hf x (List.mem_of_mem_drop hx)
  have hdl : (ls.drop k).length = ls.length - k := List.length_drop
  obtain ⟨hb, hm, hbm, hx, ⟨v, hB, ho⟩, hM⟩ := hW
  have hp := aD (cs := vS v m) hB
  have hsl := ho.sl
  cases hd : ls.drop k with
  | nil =>
   rw [hd] at hg hle hle2
   unfold dH at hg
   (repeat' first | ((with_reducible refine aJ ?_); go_step) | ((with_reducible refine aI ?_); first | refine aW ?_ | (refine aL ?_ ?_ <;> intro hc)) | fail)
   all_goals first
    | (exfalso; simp_all [enc]; done)
    | skip
   refine bK (e := 5) (k := 1) (bytes := 1) (xs := [.int .u8 0]) rfl rfl rfl (by simp [Value.cells]) (by decide +kernel) (by simp) ?_
   intro u1 w1 y1 _ sl1 _
   refine aA ?_
   have ho1 := ho.ext y1
   have x1' := hx.trans y1
   have hB1' := y1.at hB
   have hM1' := hM.at (fun o h => y1.at h)
   refine iT (B := w0.heap.size) (k := 1) (e := 5) (bytes := 1) (x := u1) (es := aQ l') (fs := aQ [0]) rfl ho1 rfl sl1 (by decide +kernel) (by simp [aQ, Value.oneCell']) x1'.size (by simp [aQ]; omega) (by simp [aQ]; omega) ?_
   intro v1 w1 o1 m1
   have m1 : Mv v.ownBlock _ w1 := m1
   refine aA ?_
   have hB1 := m1.at hB1' (fun e => (ho1.neBlock hB1' (by decide)) e.symm)
   have hM1 := hM1'.mvr m1 ho1 rfl
   have x1 : Ext w0 w1 := x1'.move m1 (fun k e => (ho1.block k e).1)
   clear hp
   (repeat' first | ((with_reducible refine aJ ?_); go_step) | ((with_reducible refine aI ?_); first | refine aW ?_ | (refine aL ?_ ?_ <;> intro hc)) | fail)
   refine aO (n := 0) (v := v1) hB1 rfl rfl rfl (by simp [vS]) (by decide +kernel) o1.one ?_
   intro w2 p2
   have x2 : Ext w0 w2 := x1.move p2.mv (by rintro k ⟨⟩; exact hb)
   have hB2 : w2.heap[b]? = some (.cells (vS v1 m).toArray 99 (0, 0)) := p2.this
   have o2 := o1.mv p2.mv (.inr (o1.neBlock hB1 (by decide)))
   have hM2 := hM1.at (fun o h => p2.mv.at h (by intro e; exact hbm (Option.some.inj e).symm))
   (repeat' first | ((with_reducible refine aJ ?_); go_step) | ((with_reducible refine aI ?_); first | refine aW ?_ | (refine aL ?_ ?_ <;> intro hc)) | fail)
   go_end0
   rw [← hg]
   exact ⟨rfl, ⟨hb, hm, hbm, x2, ⟨v1, hB2, by simpa [aQ] using o2⟩, hM2⟩, hKp.trans ((y1.kp.trans (Mv.kpRow ho1 m1)).trans (Mv.kpBox hB1 p2.mv))⟩
  | cons x xs =>
   rw [hd] at hg hle hle2 hfd
   have hx1 : 1 ≤ x.length ∧ x.length ≤ 63 := by
    have := (List.all_eq_true.1 hfd) x (by simp)
    simpa [jF] using this
   have hxs : ls.drop (k + 1) = xs := by rw [← List.drop_drop, hd]; rfl
   have hen : enc (x :: xs) = UInt8.ofNat x.length :: (x ++ enc xs) := by simp [enc]
   have hlen : (UInt8.ofNat x.length :: (x ++ enc xs)).length = x.length + (enc xs).length + 1 := by simp
   have hlen2 : (enc (x :: xs)).length = x.length + (enc xs).length + 1 := by rw [hen, hlen]
   have hb0 : (UInt8.ofNat x.length).toNat = x.length := by simp; omega
   have htk : List.take ((UInt8.ofNat x.length).toNat + 1) (UInt8.ofNat x.length :: (x ++ enc xs)) = kU x := by rw [hb0]; simp [kU]
   have hdp : List.drop ((UInt8.ofNat x.length).toNat + 1) (UInt8.ofNat x.length :: (x ++ enc xs)) = enc xs := by rw [hb0]; simp
   obtain ⟨lx, hlx⟩ := KQ (enc (x :: xs)) (by omega)
   have hzv : ∀ w, (zeroValue 3).run Tryz.prog w = .ok (.int .i64 0) w := fun w => by kernel_rfl
   obtain ⟨bv, bb, hrl, hcase⟩ := fW DR (show mF Tryz.prog 96 47 3 = true by decide +kernel) hzv hM hlx true
   simp only [if_true] at hrl
   have hne0 : enc (x :: xs) ≠ [] := by rw [hen]; simp
   (repeat' first | ((with_reducible refine aJ ?_); go_step) | ((with_reducible refine aI ?_); first | refine aW ?_ | (refine aL ?_ ?_ <;> intro hc)) | fail)
   all_goals first
    | (exfalso; exact hne0 (by simpa using ‹_›))
    | skip
   refine cO rfl (Runs.lookup rfl rfl hrl) ?_
   refine aA ?_
   rcases hcase with ⟨i, hie, rfl⟩ | ⟨hno, rfl, rfl⟩
   ·obtain ⟨at_, hat, rfl⟩ := ND hie
    have hfind := IP hK hat
    unfold dH at hg
    dsimp only at hfind
    rw [hfind] at hg
    dsimp only at hg
    by_cases c1 : at_ < 16384
    ·rw [if_pos c1] at hg
     (repeat' first | ((with_reducible refine aJ ?_); go_step) | ((with_reducible refine aI ?_); first | refine aW ?_ | (refine aL ?_ ?_ <;> intro hc)) | fail)
     all_goals first
      | (exfalso; omega)
      | skip
     refine aN (Runs.orN (m := 49152) (n := at_) rfl rfl (by omega) (by omega)) ?_
     refine aA ?_
     have cw := iA (⟨hb, hm, hbm, hx, ⟨v, hB, ho⟩, hM⟩ : WrAt w0 wr b m l' ps') (49152 ||| at_) (by have := Nat.or_lt_two_pow (x := 49152) (y := at_) (n := 16) (by decide) (by omega); omega) (by omega)
     refine aF (vs := [.pointer (some ⟨b, 0, none⟩), .int .i64 ((49152 ||| at_ : Nat) : Int)]) (enters_of Tryz.func54 rfl rfl) rfl rfl cw ?_
     rintro _ w1 ⟨rfl, h1, g1⟩
     refine ⟨_, rfl, ?_⟩
     refine aA ?_
     (repeat' first | ((with_reducible refine aJ ?_); go_step) | ((with_reducible refine aI ?_); first | refine aW ?_ | (refine aL ?_ ?_ <;> intro hc)) | fail)
     refine bodyPost_ret (results_none rfl _ _ _) rfl ?_
     rw [← hg]
     exact ⟨rfl, h1, hKp.trans g1⟩
    ·rw [if_neg c1] at hg
     rw [hen]
     (repeat' first | ((with_reducible refine aJ ?_); go_step) | ((with_reducible refine aI ?_); first | refine aW ?_ | (refine aL ?_ ?_ <;> intro hc)) | fail)
     all_goals first
      | (exfalso; omega)
      | skip
     have hW9 : WrAt w0 _ b m l' ps' := ⟨hb, hm, hbm, hx, ⟨v, hB, ho⟩, hM⟩
     have ct := vB hW9 (kU x) (by simp [kU]; omega)
     refine aF (vs := [.pointer (some ⟨b, 0, none⟩), aH (kU x)]) (enters_of Tryz.func104 rfl rfl) rfl (congrArg (fun z => [Value.pointer (some ⟨b, 0, none⟩), aH z]) htk) ct ?_
     rintro _ w5 ⟨rfl, h5, g5⟩
     refine ⟨_, rfl, ?_⟩
     refine aA ?_
     clear hp hsl
     (repeat' first | ((with_reducible refine aJ ?_); go_step) | ((with_reducible refine aI ?_); first | refine aW ?_ | (refine aL ?_ ?_ <;> intro hc)) | fail)
     refine ⟨⟨k + 1, l' ++ kU x, ps', by have := congrArg List.length hd; simp at this; omega, by rw [hxs]; exact congrArg aH hdp, h5, hK, by rw [hxs]; simp [kU]; omega, by rw [hxs]; omega, hKp.trans g5, by rw [hxs]; exact hg⟩, ?_⟩
     show (List.drop ((UInt8.ofNat x.length).toNat + 1) (UInt8.ofNat x.length :: (x ++ enc xs))).length < (enc (x :: xs)).length
     rw [hdp, hlen2]
     omega
   ·unfold dH at hg
    rw [DV hno] at hg
    dsimp only at hg
    (repeat' first | ((with_reducible refine aJ ?_); go_step) | ((with_reducible refine aI ?_); first | refine aW ?_ | (refine aL ?_ ?_ <;> intro hc)) | fail)
    all_goals first
     | (exfalso; simp_all; done)
     | skip
    refine cA 10 (Ext wr) (by decide +kernel) ?_
    intro w1 x1 _
    refine ⟨x1, ?_⟩
    refine dD 0 ?_; refine dD 1 ?_; refine dD 2 ?_; refine dD 3 ?_; refine dD 4 ?_; refine dD 5 ?_; refine dD 6 ?_; refine dD 7 ?_; refine dD 8 ?_; refine dD 9 ?_
    refine bG (i := 10) (by decide +kernel) rfl rfl ?_
    have hM1 := hM.at (fun o h => x1.at h)
    obtain ⟨w7, o7, hr7, p7, hm7⟩ := iV DR (show mF Tryz.prog 96 47 3 = true by decide +kernel) hM1 hlx (v := .int .i64 ((aQ l').length : Nat)) hno
    refine jS rfl rfl rfl rfl hr7 ?_
    have x7 : Ext w0 w7 := (hx.trans x1).move p7.mv (by rintro k ⟨⟩; exact hm)
    have hB7 := p7.mv.at (x1.at hB) (by intro e; exact hbm (Option.some.inj e))
    obtain ⟨es, ck, hme, _⟩ := hM1.out
    have ho7 := (ho.ext x1).mv p7.mv (.inr ((ho.ext x1).neMap hme))
    have hm8 : MapAt Tryz.prog 47 w7 m (NA (ps' ++ [(enc (x :: xs), l'.length)])) := by simpa [NA, aQ] using hm7
    refine aK ⟨bX rfl, ?_⟩
    refine cR (by decide +kernel) ?_
    rw [hen]
    (repeat' first | ((with_reducible refine aJ ?_); go_step) | ((with_reducible refine aI ?_); first | refine aW ?_ | (refine aL ?_ ?_ <;> intro hc)) | fail)
    have hW9 : WrAt w0 _ b m l' (ps' ++ [(enc (x :: xs), l'.length)]) := ⟨hb, hm, hbm, x7, ⟨v, hB7, ho7⟩, hm8⟩
    have ct := vB hW9 (kU x) (by simp [kU]; omega)
    refine aF (vs := [.pointer (some ⟨b, 0, none⟩), aH (kU x)]) (enters_of Tryz.func104 rfl rfl) rfl (congrArg (fun z => [Value.pointer (some ⟨b, 0, none⟩), aH z]) htk) ct ?_
    rintro _ w5 ⟨rfl, h5, g5⟩
    refine ⟨_, rfl, ?_⟩
    refine aA ?_
    clear hp hsl
    (repeat' first | ((with_reducible refine aJ ?_); go_step) | ((with_reducible refine aI ?_); first | refine aW ?_ | (refine aL ?_ ?_ <;> intro hc)) | fail)
    refine ⟨⟨k + 1, l' ++ kU x, (ps' ++ [(enc (x :: xs), l'.length)]), by have := congrArg List.length hd; simp at this; omega, by rw [hxs]; exact congrArg aH hdp, h5, hK.add (DV hno), by rw [hxs]; simp [kU]; omega, by rw [hxs]; omega, hKp.trans ((x1.kp.trans (Mv.kpMap hM1 p7.mv)).trans g5), by rw [hxs]; exact hg⟩, ?_⟩
    show (List.drop ((UInt8.ofNat x.length).toNat + 1) (UInt8.ofNat x.length :: (x ++ enc xs))).length < (enc (x :: xs)).length
    rw [hdp, hlen2]
    omega
def fO (n : List UInt8) : List (List UInt8) := (aV n).getD []
theorem fC {n : List UInt8} (h : (aV n).isSome = true) : (fO n).all jF = true ∧ enc (fO n) = n ∧ n.length ≤ 254 := by
 cases hl : aV n with
 | none => rw [hl] at h; cases h
 | some ls =>
  have := eA hl
  simpa [fO, hl] using this
theorem qA {w0 w : World} {b m : Nat} {l : List UInt8} {ps : List (List UInt8 × Nat)} (h : WrAt w0 w b m l ps) (hk : Keys ps) (n : List UInt8) (hn : (aV n).isSome = true) (hl : l.length + 2000 ≤ 100000000000000) : Calls Tryz.prog 56 #[.pointer (some ⟨b, 0, none⟩), aH n] w (rZ w0 w b m (dH (fO n) l ps).1 (dH (fO n) l ps).2) := by
 obtain ⟨h1, h2, h3⟩ := fC hn
 have := DW h hk (fO n) h1 (by rw [h2]; omega) hl
 rw [h2] at this
 exact this
theorem fS : ∀ (ls : List (List UInt8)) (l : List UInt8) (ps : List (List UInt8 × Nat)), Keys ps → Keys (dH ls l ps).2 := by
 intro ls
 induction ls with
 | nil => intro l ps h; exact h
 | cons x ls ih =>
  intro l ps h
  unfold dH
  split
  ·split
   ·exact h
   ·exact ih _ _ h
  ·rename_i hn
   exact ih _ _ (h.add hn)
theorem iR : ∀ (ls : List (List UInt8)) (l : List UInt8) (ps : List (List UInt8 × Nat)), ∃ t, (dH ls l ps).1 = l ++ t ∧ t.length ≤ (enc ls).length + 2 := by
 intro ls
 induction ls with
 | nil => intro l ps; exact ⟨[0], rfl, by simp⟩
 | cons x ls ih =>
  intro l ps
  have he : (enc (x :: ls)).length = (kU x).length + (enc ls).length := by simp [enc, kU]; omega
  unfold dH
  split
  ·split
   ·exact ⟨_, rfl, by simp [bJ]⟩
   ·obtain ⟨t, h1, h2⟩ := ih (l ++ kU x) ps
    exact ⟨kU x ++ t, by rw [h1, List.append_assoc], by rw [List.length_append]; omega⟩
  ·obtain ⟨t, h1, h2⟩ := ih (l ++ kU x) (ps ++ [(enc (x :: ls), l.length)])
   exact ⟨kU x ++ t, by rw [h1, List.append_assoc], by rw [List.length_append]; omega⟩
def dN (r : Rec) (l : List UInt8) (ps : List (List UInt8 × Nat)) : List UInt8 × List (List UInt8 × Nat) :=
 if r.kind = 6 then ((dH (fO (fA r.data).mail) (dH (fO (fA r.data).main) l ps).1 (dH (fO (fA r.data).main) l ps).2).1 ++ r.data.drop (r.data.length - 20), (dH (fO (fA r.data).mail) (dH (fO (fA r.data).main) l ps).1 (dH (fO (fA r.data).main) l ps).2).2)
 else if (bE r.kind r.data).2 = 0 ∧ r.kind ≠ 33 then dH (fO (bE r.kind r.data).1) (l ++ r.data.take (r.data.length - (bE r.kind r.data).1.length - 1)) ps
 else (l ++ r.data, ps)
def nB (r : Rec) (l : List UInt8) (ps : List (List UInt8 × Nat)) : List UInt8 × List (List UInt8 × Nat) :=
 (l ++ bJ ((dN r (l ++ bJ 0) ps).1.length - l.length - 2) ++ (dN r (l ++ bJ 0) ps).1.drop (l.length + 2), (dN r (l ++ bJ 0) ps).2)
theorem xO {k : Int} {d : List UInt8} (h : (bE k d).2 = 0) : (aV (bE k d).1).isSome = true ∧ (bE k d).1.length + 1 ≤ d.length := by
 unfold bE at h ⊢
 split at h
 ·cases h
 ·split at h
  ·cases h
  ·rename_i c1 c2
   rw [if_neg c1, if_neg c2]
   cases hh : gX (d.drop (iC k).toNat) with
   | none => rw [hh] at h; cases h
   | some n =>
    obtain ⟨e1, e2⟩ := uD hh
    have := congrArg List.length e1
    simp at this
    exact ⟨e2, by simp; omega⟩
theorem qD (r : Rec) (l2 : List UInt8) (ps : List (List UInt8 × Nat)) (hd : r.data.length ≤ 4000) (hS : r.kind = 6 → (aV (fA r.data).main).isSome = true ∧ (aV (fA r.data).mail).isSome = true ∧ 20 ≤ r.data.length) : ∃ y, (dN r l2 ps).1 = l2 ++ y ∧ y.length ≤ 5000 := by
 unfold dN
 split
 ·rename_i c6
  obtain ⟨s1', s2', s3'⟩ := hS c6
  obtain ⟨y7, e7, n7⟩ := iR (fO (fA r.data).main) l2 ps
  obtain ⟨y8, e8, n8⟩ := iR (fO (fA r.data).mail) (dH (fO (fA r.data).main) l2 ps).1 (dH (fO (fA r.data).main) l2 ps).2
  have a1 := fC s1'
  have a2 := fC s2'
  rw [a1.2.1] at n7
  rw [a2.2.1] at n8
  refine ⟨y7 ++ (y8 ++ r.data.drop (r.data.length - 20)), ?_, ?_⟩
  ·dsimp only
   rw [e8, e7]
   simp
  ·simp only [List.length_append, List.length_drop]
   omega
 ·split
  ·rename_i c0
   obtain ⟨k1, k2⟩ := xO c0.1
   obtain ⟨y7, e7, n7⟩ := iR (fO (bE r.kind r.data).1) (l2 ++ r.data.take (r.data.length - (bE r.kind r.data).1.length - 1)) ps
   have a1 := fC k1
   rw [a1.2.1] at n7
   refine ⟨r.data.take (r.data.length - (bE r.kind r.data).1.length - 1) ++ y7, by rw [e7, List.append_assoc], ?_⟩
   simp only [List.length_append, List.length_take]
   omega
  ·exact ⟨r.data, rfl, by omega⟩
theorem PD (l : List UInt8) (k : Nat) (a : UInt8) : (aQ l).set k [.int .u8 ((a.toNat : Nat) : Int)] = aQ (l.set k a) := by simp [aQ, List.map_set]
theorem IQ (l y : List UInt8) (n : Nat) : ((aQ (l ++ bJ 0 ++ y)).set l.length [.int .u8 (IntKind.u8.wrap ((n : Int) / 2 ^ Int.toNat 8))]).set (l.length + 1) [.int .u8 (IntKind.u8.wrap (n : Int))] = aQ (l ++ bJ n ++ y) := by
 rw [show ((n : Int) / 2 ^ Int.toNat 8) = ((n / 256 : Nat) : Int) by simp, jR, jR, PD, PD]
 congr 1
 simp [bJ, List.set_append]
set_option maxHeartbeats 2000000 in
theorem KY {w0 w : World} {b m : Nat} {l : List UInt8} {ps : List (List UInt8 × Nat)} (h : WrAt w0 w b m l ps) (hk : Keys ps) (r : Rec) (hd : r.data.length ≤ 4000) (hS : r.kind = 6 → (aV (fA r.data).main).isSome = true ∧ (aV (fA r.data).mail).isSome = true ∧ 20 ≤ r.data.length) (hl : l.length + 10000 ≤ 100000000000000) : Calls Tryz.prog 58 #[.pointer (some ⟨b, 0, none⟩), uR r] w (rZ w0 w b m (nB r l ps).1 (nB r l ps).2) := by
 unfold nB
 have hh := xO (k := r.kind) (d := r.data)
 have hpre := qD r (l ++ bJ 0) ps hd hS
 go_enter Tryz.func58, Tryz.ntmps58
 repeat' (first | ((with_reducible refine aJ ?_); go_step) | fail)
 refine dP (vs := [aH r.name, .int .i64 r.kind, .int .i64 r.ttl, aH r.data]) rfl rfl ?_
 intro w1 x1 s1 hb1
 refine aA ?_
 obtain ⟨hb, hm, hbm, hx, ⟨v, hB, ho⟩, hM⟩ := h
 have hp := aD (cs := vS v m) (x1.at hB)
 have hsl := (ho.ext x1).sl
 have hW1 : WrAt w0 w1 b m l ps := ⟨hb, hm, hbm, hx.trans x1, ⟨v, x1.at hB, ho.ext x1⟩, hM.at (fun o h => x1.at h)⟩
 (repeat' first | ((with_reducible refine aJ ?_); go_step) | ((with_reducible refine aI ?_); first | refine aW ?_ | (refine aL ?_ ?_ <;> intro hc)) | fail)
 have cw := iA hW1 0 (by omega) (by omega)
 refine aF (vs := [.pointer (some ⟨b, 0, none⟩), .int .i64 ((0 : Nat) : Int)]) (enters_of Tryz.func54 rfl rfl) rfl rfl cw ?_
 rintro _ w2 ⟨rfl, h2, g2⟩
 refine ⟨_, rfl, ?_⟩
 refine aA ?_
 clear hp
 have hc2 := g2 _ _ _ _ (by decide) (by decide) hb1
 have hpc2 := aD (cs := [aH r.name, .int .i64 r.kind, .int .i64 r.ttl, aH r.data]) hc2
 have hl2 : (l ++ bJ 0).length = l.length + 2 := by simp [bJ]
 generalize hL2 : l ++ bJ 0 = l2 at *
 (repeat' first | ((with_reducible refine aJ ?_); go_step) | ((with_reducible refine aI ?_); first | refine aW ?_ | (refine aL ?_ ?_ <;> intro hc)) | fail)
 refine aE (enters_of Tryz.func105 rfl rfl) rfl rfl (PI r.kind r.data _ (by omega)) ?_; intro w3 x3; refine aA ?_
 have hpc3 := hpc2.ext x3
 have hc3 := x3.at hc2
 obtain ⟨f1, f2, f3, f4, ⟨v2, f5, f6⟩, f7⟩ := h2
 have h3 : WrAt w0 w3 b m l2 ps := ⟨f1, f2, f3, f4.trans x3, ⟨v2, x3.at f5, f6.ext x3⟩, f7.at (fun o h => x3.at h)⟩
 clear hpc2
 have hDe : dN r l2 ps = dN r l2 ps := rfl
 conv at hDe => rhs; unfold dN
 obtain ⟨ht, hte⟩ : ∃ y, y = bE r.kind r.data := ⟨_, rfl⟩
 rw [← hte] at hh hDe
 rw [← hte]
 (repeat' first | ((with_reducible refine aJ ?_); go_step) | ((with_reducible refine aI ?_); first | refine aW ?_ | (refine aL ?_ ?_ <;> intro hc)) | fail)
 all_goals first
  | (have c6 : ¬ r.kind = 6 := by assumption
     have c0 : ¬ (ht.2 = 0 ∧ r.kind ≠ 33) := by
      first
       | (have : ¬ ht.2 = 0 := by assumption
          exact fun h => this h.1)
       | (have : r.kind = 33 := by simpa using ‹(!decide (r.kind = 33)) = false›
          exact fun h => h.2 this)
     have ct := vB h3 r.data (by omega)
     refine aF (vs := [.pointer (some ⟨b, 0, none⟩), aH r.data]) (enters_of Tryz.func104 rfl rfl) rfl rfl ct ?_
     rintro _ w9 ⟨rfl, h9, g9⟩
     refine ⟨_, rfl, ?_⟩
     refine aA ?_
     have hZ : WrAt w0 w9 b m (dN r l2 ps).1 (dN r l2 ps).2 := by
      rw [hDe, if_neg c6, if_neg c0]
      exact h9
     have gZ : Kp w3 w9 := g9)
  | (have c6 : ¬ r.kind = 6 := by assumption
     have c0 : ht.2 = 0 ∧ r.kind ≠ 33 := ⟨by assumption, by simpa using ‹(!decide (r.kind = 33)) = true›⟩
     obtain ⟨k1, k2⟩ := hh c0.1
     have ct := vB h3 (r.data.take (r.data.length - ht.1.length - 1)) (by rw [List.length_take]; omega)
     refine aF (vs := [.pointer (some ⟨b, 0, none⟩), aH (r.data.take (r.data.length - ht.1.length - 1))]) (enters_of Tryz.func104 rfl rfl) rfl (congrArg (fun z => [Value.pointer (some ⟨b, 0, none⟩), aH (r.data.take z)]) (by omega)) ct ?_
     rintro _ w8 ⟨rfl, h8, g8⟩
     refine ⟨_, rfl, ?_⟩
     refine aA ?_
     have hpc8 := aD (cs := [aH r.name, .int .i64 r.kind, .int .i64 r.ttl, aH r.data]) (g8 _ _ _ _ (by decide) (by decide) hc3)
     clear hpc3
     (repeat' first | ((with_reducible refine aJ ?_); go_step) | ((with_reducible refine aI ?_); first | refine aW ?_ | (refine aL ?_ ?_ <;> intro hc)) | fail)
     have cn := qA h8 hk ht.1 k1 (by rw [List.length_append, List.length_take]; omega)
     refine aF (vs := [.pointer (some ⟨b, 0, none⟩), aH ht.1]) (enters_of Tryz.func56 rfl rfl) rfl rfl cn ?_
     rintro _ w9 ⟨rfl, h9, g9⟩
     refine ⟨_, rfl, ?_⟩
     refine aA ?_
     have hZ : WrAt w0 w9 b m (dN r l2 ps).1 (dN r l2 ps).2 := by
      rw [hDe, if_neg c6, if_pos c0]
      exact h9
     have gZ : Kp w3 w9 := g8.trans g9)
  | skip
 ·have c6 : r.kind = 6 := by assumption
  obtain ⟨s1', s2', s3'⟩ := hS c6
  refine aE (enters_of Tryz.func106 rfl rfl) rfl rfl (BD r.data _ (by omega)) ?_; intro w4 x4; refine aA ?_
  (repeat' first | ((with_reducible refine aJ ?_); go_step) | ((with_reducible refine aI ?_); first | refine aW ?_ | (refine aL ?_ ?_ <;> intro hc)) | fail)
  refine aP (z := cK) rfl (by decide +kernel) ?_
  intro w5 x5 s5 h5
  refine aA ?_
  refine aG (v := .agg (fA r.data).cells.toArray) rfl rfl rfl h5 (show aX Tryz.prog 160 7 = true by decide +kernel) rfl (uG _) ?_
  intro w6 p6
  have x46 : Ext w4 w6 := x5.move p6.mv (by rintro k ⟨⟩; exact Nat.le_refl _)
  have x36 := x4.trans x46
  have hb6 : w6.heap[w4.heap.size]? = some (.cells (fA r.data).cells.toArray 160 (0, 0)) := p6.this
  have hs6 := aD (cs := (fA r.data).cells) hb6
  obtain ⟨f1, f2, f3, f4, ⟨v3, f5, f6⟩, f7⟩ := h3
  have h6 : WrAt w0 w6 b m l2 ps := ⟨f1, f2, f3, f4.trans x36, ⟨v3, x36.at f5, f6.ext x36⟩, f7.at (fun o h => x36.at h)⟩
  have hc6 := x36.at hc3
  clear p6 h5
  generalize w4.heap.size = d at *
  (repeat' first | ((with_reducible refine aJ ?_); go_step) | ((with_reducible refine aI ?_); first | refine aW ?_ | (refine aL ?_ ?_ <;> intro hc)) | fail)
  have cn := qA h6 hk (fA r.data).main s1' (by omega)
  have hk7 := fS (fO (fA r.data).main) l2 ps hk
  obtain ⟨y7, e7, n7⟩ := iR (fO (fA r.data).main) l2 ps
  refine aF (vs := [.pointer (some ⟨b, 0, none⟩), aH (fA r.data).main]) (enters_of Tryz.func56 rfl rfl) rfl rfl cn ?_
  rintro _ w7 ⟨rfl, h7, g7⟩
  refine ⟨_, rfl, ?_⟩
  refine aA ?_
  have hb7 := g7 _ _ _ _ (by decide) (by decide) hb6
  have hs7 := aD (cs := (fA r.data).cells) hb7
  have hc7 := g7 _ _ _ _ (by decide) (by decide) hc6
  clear hs6
  (repeat' first | ((with_reducible refine aJ ?_); go_step) | ((with_reducible refine aI ?_); first | refine aW ?_ | (refine aL ?_ ?_ <;> intro hc)) | fail)
  have cn2 := qA h7 hk7 (fA r.data).mail s2' (by rw [e7, List.length_append]; have := (fC s1').2.1; rw [this] at n7; have := (fC s1').2.2; omega)
  obtain ⟨y8, e8, n8⟩ := iR (fO (fA r.data).mail) (dH (fO (fA r.data).main) l2 ps).1 (dH (fO (fA r.data).main) l2 ps).2
  refine aF (vs := [.pointer (some ⟨b, 0, none⟩), aH (fA r.data).mail]) (enters_of Tryz.func56 rfl rfl) rfl rfl cn2 ?_
  rintro _ w8 ⟨rfl, h8, g8⟩
  refine ⟨_, rfl, ?_⟩
  refine aA ?_
  have hc8 := g8 _ _ _ _ (by decide) (by decide) hc7
  have hpc8 := aD (cs := [aH r.name, .int .i64 r.kind, .int .i64 r.ttl, aH r.data]) hc8
  clear hpc3 hs7
  (repeat' first | ((with_reducible refine aJ ?_); go_step) | ((with_reducible refine aI ?_); first | refine aW ?_ | (refine aL ?_ ?_ <;> intro hc)) | fail)
  have ct := vB h8 (r.data.drop (r.data.length - 20)) (by rw [e8, e7, List.length_drop, List.length_append, List.length_append]; rw [(fC s1').2.1] at n7; rw [(fC s2').2.1] at n8; have := (fC s1').2.2; have := (fC s2').2.2; omega)
  refine aF (vs := [.pointer (some ⟨b, 0, none⟩), aH (r.data.drop (r.data.length - 20))]) (enters_of Tryz.func104 rfl rfl) rfl (congrArg (fun z => [Value.pointer (some ⟨b, 0, none⟩), aH (r.data.drop z)]) (by omega)) ct ?_
  rintro _ w9 ⟨rfl, h9, g9⟩
  refine ⟨_, rfl, ?_⟩
  refine aA ?_
  have hZ : WrAt w0 w9 b m (dN r l2 ps).1 (dN r l2 ps).2 := by
   rw [hDe, if_pos c6]
   exact h9
  have gZ : Kp w3 w9 := ((x36.kp.trans g7).trans g8).trans g9
  clear hpc8
  obtain ⟨y, ey, ny⟩ := hpre
  generalize dN r l2 ps = Z at *
  obtain ⟨e1, e2, e3, e4, ⟨vz, e5, e6⟩, e7⟩ := hZ
  have hpz := aD (cs := vS vz m) e5
  have hslz := e6.sl
  have hbz : (aQ Z.1).length = Z.1.length := by simp [aQ]
  have hbl : (aQ l).length = l.length := by simp [aQ]
  have hlz : Z.1.length = l.length + 2 + y.length := by rw [ey, List.length_append, hl2]
  (repeat' first | ((with_reducible refine aJ ?_); go_step) | ((with_reducible refine aI ?_); first | refine aW ?_ | (refine aL ?_ ?_ <;> intro hc)) | fail)
  have hn : ((aQ Z.1).length : Int) - (aQ l).length - 2 = ((Z.1.length - l.length - 2 : Nat) : Int) := by omega
  rw [hn]
  refine cA 19 (fun w' => Pts w' (.pointer (some ⟨b, 0, none⟩)) (vS vz m) ∧ ∃ es : List (List Value), es.length = Z.1.length ∧ Sl 1 w' vz es) (by decide +kernel) ?_
  intro wA xA _
  refine ⟨⟨hpz.ext xA, aQ Z.1, hbz, hslz.ext xA⟩, ?_⟩
  refine dD 0 ?_; refine dD 1 ?_; refine dD 2 ?_
  refine aY (i := 3) (v := vz) rfl rfl (by decide +kernel) (by decide +kernel) (by decide +kernel) (by decide +kernel) (by decide +kernel) rfl (fun w' hF => by obtain ⟨hF, _⟩ := hF; exact JO) (fun _ _ _ h => h) ?_
  refine aA ?_
  refine dD 4 ?_; refine dD 5 ?_; refine dD 6 ?_; refine dD 7 ?_
  refine aY (i := 8) (v := vz) rfl rfl (by decide +kernel) (by decide +kernel) (by decide +kernel) (by decide +kernel) (by decide +kernel) rfl (fun w' hF => by obtain ⟨hF, _⟩ := hF; exact JO) (fun _ _ _ h => h) ?_
  refine aA ?_
  refine dD 9 ?_; refine dD 10 ?_; refine dD 11 ?_; refine dD 12 ?_; refine dD 13 ?_; refine dD 14 ?_; refine dD 15 ?_
  refine aY (i := 16) (v := cZ vz (l.length * 1)) rfl rfl (by decide +kernel) (by decide +kernel) (by decide +kernel) (by decide +kernel) (by decide +kernel) rfl (fun w' hF => by obtain ⟨_, es, h1, h2⟩ := hF; rw [← hbl]; exact Runs.idxT rfl h2 (by omega) (by decide +kernel)) (fun _ _ _ h => h) ?_
  refine aA ?_
  refine bG (i := 17) (by decide +kernel) rfl rfl ?_
  refine eX (c := .int .u8 (IntKind.u8.wrap (((Z.1.length - l.length - 2 : Nat) : Int) / 2 ^ Int.toNat 8))) (i := l.length) rfl rfl rfl (e6.ext xA) (by omega) (by decide +kernel) rfl ?_
  intro wB oB mB
  have pB := aD (cs := vS vz m) (mB.at (xA.at e5) (fun e => (e6.neBlock e5 (by decide)) e.symm))
  refine aK ⟨bW ⟨pB, _, by rw [List.length_set]; exact hbz, oB.sl⟩, ?_⟩
  have hslB := oB.sl
  have hlB : ((aQ Z.1).set l.length [.int .u8 (IntKind.u8.wrap (((Z.1.length - l.length - 2 : Nat) : Int) / 2 ^ Int.toNat 8))]).length = Z.1.length := by rw [List.length_set]; exact hbz
  refine bG (i := 18) (by decide +kernel) rfl rfl ?_
  refine aN (v := cZ vz ((l.length + 1) * 1)) (by rw [← hbl]; exact Runs.idxT rfl hslB (by omega) (by decide +kernel)) ?_
  refine aA ?_
  refine aK ⟨bW ⟨pB, _, hlB, hslB⟩, ?_⟩
  refine bG (i := 19) (by decide +kernel) rfl rfl ?_
  refine eX (c := .int .u8 (IntKind.u8.wrap ((Z.1.length - l.length - 2 : Nat) : Int))) (i := l.length + 1) rfl rfl rfl oB (by omega) (by decide +kernel) rfl ?_
  intro wC oC mC
  refine aK ⟨bX rfl, ?_⟩
  refine cR (by decide +kernel) ?_
  (repeat' first | ((with_reducible refine aJ ?_); go_step) | ((with_reducible refine aI ?_); first | refine aW ?_ | (refine aL ?_ ?_ <;> intro hc)) | fail)
  go_end0
  have hBb := mB.at (xA.at e5) (fun e => (e6.neBlock e5 (by decide)) e.symm)
  have hCb := mC.at hBb (fun e => (oB.neBlock hBb (by decide)) e.symm)
  have xC : Ext w0 wC := ((e4.trans xA).move mB (fun k e => ((e6.ext xA).block k e).1)).move mC (fun k e => (oB.block k e).1)
  have mapC := ((e7.at (fun o h => xA.at h)).mvr mB (e6.ext xA) rfl).mvr mC oB rfl
  have oC' : Own w0.heap.size 1 5 wC vz (aQ (l ++ bJ (Z.1.length - l.length - 2) ++ Z.1.drop (l.length + 2))) := by
   have e0 : Z.1.drop (l.length + 2) = y := by rw [ey, ← hl2, List.drop_left]
   rw [e0, ← IQ]
   rw [hL2, ← ey]
   exact oC
  exact ⟨rfl, ⟨e1, e2, e3, xC, ⟨vz, hCb, oC'⟩, mapC⟩, (((((x1.kp.trans g2).trans x3.kp).trans gZ).trans xA.kp).trans (Mv.kpRow (e6.ext xA) mB)).trans (Mv.kpRow oB mC)⟩
 all_goals obtain ⟨y, ey, ny⟩ := hpre
 all_goals generalize dN r l2 ps = Z at *
 all_goals obtain ⟨e1, e2, e3, e4, ⟨vz, e5, e6⟩, e7⟩ := hZ
 all_goals have hpz := aD (cs := vS vz m) e5
 all_goals have hslz := e6.sl
 all_goals have hbz : (aQ Z.1).length = Z.1.length := by simp [aQ]
 all_goals have hbl : (aQ l).length = l.length := by simp [aQ]
 all_goals have hlz : Z.1.length = l.length + 2 + y.length := by rw [ey, List.length_append, hl2]
 all_goals (repeat' first | ((with_reducible refine aJ ?_); go_step) | ((with_reducible refine aI ?_); first | refine aW ?_ | (refine aL ?_ ?_ <;> intro hc)) | fail)
 all_goals have hn : ((aQ Z.1).length : Int) - (aQ l).length - 2 = ((Z.1.length - l.length - 2 : Nat) : Int) := by omega
 all_goals rw [hn]
 all_goals refine cA 19 (fun w' => Pts w' (.pointer (some ⟨b, 0, none⟩)) (vS vz m) ∧ ∃ es : List (List Value), es.length = Z.1.length ∧ Sl 1 w' vz es) (by decide +kernel) ?_
 all_goals intro wA xA _
 all_goals refine ⟨⟨hpz.ext xA, aQ Z.1, hbz, hslz.ext xA⟩, ?_⟩
 all_goals refine dD 0 ?_; refine dD 1 ?_; refine dD 2 ?_
 all_goals refine aY (i := 3) (v := vz) rfl rfl (by decide +kernel) (by decide +kernel) (by decide +kernel) (by decide +kernel) (by decide +kernel) rfl (fun w' hF => by obtain ⟨hF, _⟩ := hF; exact JO) (fun _ _ _ h => h) ?_
 all_goals refine aA ?_
 all_goals refine dD 4 ?_; refine dD 5 ?_; refine dD 6 ?_; refine dD 7 ?_
 all_goals refine aY (i := 8) (v := vz) rfl rfl (by decide +kernel) (by decide +kernel) (by decide +kernel) (by decide +kernel) (by decide +kernel) rfl (fun w' hF => by obtain ⟨hF, _⟩ := hF; exact JO) (fun _ _ _ h => h) ?_
 all_goals refine aA ?_
 all_goals refine dD 9 ?_; refine dD 10 ?_; refine dD 11 ?_; refine dD 12 ?_; refine dD 13 ?_; refine dD 14 ?_; refine dD 15 ?_
 all_goals refine aY (i := 16) (v := cZ vz (l.length * 1)) rfl rfl (by decide +kernel) (by decide +kernel) (by decide +kernel) (by decide +kernel) (by decide +kernel) rfl (fun w' hF => by obtain ⟨_, es, h1, h2⟩ := hF; rw [← hbl]; exact Runs.idxT rfl h2 (by omega) (by decide +kernel)) (fun _ _ _ h => h) ?_
 all_goals refine aA ?_
 all_goals refine bG (i := 17) (by decide +kernel) rfl rfl ?_
 all_goals refine eX (c := .int .u8 (IntKind.u8.wrap (((Z.1.length - l.length - 2 : Nat) : Int) / 2 ^ Int.toNat 8))) (i := l.length) rfl rfl rfl (e6.ext xA) (by omega) (by decide +kernel) rfl ?_
 all_goals intro wB oB mB
 all_goals have pB := aD (cs := vS vz m) (mB.at (xA.at e5) (fun e => (e6.neBlock e5 (by decide)) e.symm))
 all_goals refine aK ⟨bW ⟨pB, _, by rw [List.length_set]; exact hbz, oB.sl⟩, ?_⟩
 all_goals have hslB := oB.sl
 all_goals have hlB : ((aQ Z.1).set l.length [.int .u8 (IntKind.u8.wrap (((Z.1.length - l.length - 2 : Nat) : Int) / 2 ^ Int.toNat 8))]).length = Z.1.length := by rw [List.length_set]; exact hbz
 all_goals refine bG (i := 18) (by decide +kernel) rfl rfl ?_
 all_goals refine aN (v := cZ vz ((l.length + 1) * 1)) (by rw [← hbl]; exact Runs.idxT rfl hslB (by omega) (by decide +kernel)) ?_
 all_goals refine aA ?_
 all_goals refine aK ⟨bW ⟨pB, _, hlB, hslB⟩, ?_⟩
 all_goals refine bG (i := 19) (by decide +kernel) rfl rfl ?_
 all_goals refine eX (c := .int .u8 (IntKind.u8.wrap ((Z.1.length - l.length - 2 : Nat) : Int))) (i := l.length + 1) rfl rfl rfl oB (by omega) (by decide +kernel) rfl ?_
 all_goals intro wC oC mC
 all_goals refine aK ⟨bX rfl, ?_⟩
 all_goals refine cR (by decide +kernel) ?_
 all_goals (repeat' first | ((with_reducible refine aJ ?_); go_step) | ((with_reducible refine aI ?_); first | refine aW ?_ | (refine aL ?_ ?_ <;> intro hc)) | fail)
 all_goals go_end0
 all_goals have hBb := mB.at (xA.at e5) (fun e => (e6.neBlock e5 (by decide)) e.symm)
 all_goals have hCb := mC.at hBb (fun e => (oB.neBlock hBb (by decide)) e.symm)
 all_goals have xC : Ext w0 wC := ((e4.trans xA).move mB (fun k e => ((e6.ext xA).block k e).1)).move mC (fun k e => (oB.block k e).1)
 all_goals have mapC := ((e7.at (fun o h => xA.at h)).mvr mB (e6.ext xA) rfl).mvr mC oB rfl
 all_goals have oC' : Own w0.heap.size 1 5 wC vz (aQ (l ++ bJ (Z.1.length - l.length - 2) ++ Z.1.drop (l.length + 2))) := by rw [show Z.1.drop (l.length + 2) = y by rw [ey, ← hl2, List.drop_left], ← IQ, hL2, ← ey]; exact oC
 all_goals exact ⟨rfl, ⟨e1, e2, e3, xC, ⟨vz, hCb, oC'⟩, mapC⟩, (((((x1.kp.trans g2).trans x3.kp).trans gZ).trans xA.kp).trans (Mv.kpRow (e6.ext xA) mB)).trans (Mv.kpRow oB mC)⟩
structure RecOk (r : Rec) : Prop where
 nm : (aV r.name).isSome = true
 k0 : 1 ≤ r.kind
 k1 : r.kind ≤ 65535
 t0 : 0 ≤ r.ttl
 t1 : r.ttl ≤ 2147483647
 d : r.data.length ≤ 4000
 soa : r.kind = 6 → (aV (fA r.data).main).isSome = true ∧ (aV (fA r.data).mail).isSome = true ∧ 20 ≤ r.data.length
theorem vT {o : Option (List UInt8)} (h : o.isSome = true) : ∃ n, o = some n ∧ o.getD [] = n := by
 cases o with
 | none => cases h
 | some n => exact ⟨n, rfl, rfl⟩
theorem sA {s : List UInt8} (h : (bZ s).2.2 = true) : (aV (bZ s).1).isSome = true ∧ (bZ s).2.1.length ≤ s.length := by
 unfold bZ at h ⊢
 split
 ·rename_i c
  rw [if_pos c] at h
  cases h
 ·rename_i c
  rw [if_neg c] at h
  dsimp only at h ⊢
  obtain ⟨n, h1, h2⟩ := vT h
  rw [h2]
  exact ⟨(uD h1).2, by rw [List.length_drop]; omega⟩
theorem FT {d : List UInt8} (h : (cS d).isSome = true) : (aV (fA d).main).isSome = true ∧ (aV (fA d).mail).isSome = true ∧ 20 ≤ d.length := by
 unfold fA
 unfold cS at h ⊢
 dsimp only at h ⊢
 split at h
 ·rename_i c
  rw [if_pos c]
  obtain ⟨c1, c2, c3, c4⟩ := c
  have a := sA c1
  have b := sA c2
  refine ⟨a.1, b.1, by omega⟩
 ·cases h
theorem FU {r : Rec} (h : bI r = 0) : RecOk r := by
 unfold bI at h
 split at h
 ·cases h
 ·split at h
  ·cases h
  ·rename_i c1 c2
   split at h
   ·rename_i c3
    refine ⟨c3, by omega, by omega, by omega, by omega, by omega, fun e => ?_⟩
    have hf : fits r.kind r.data = true := by
     cases hf : fits r.kind r.data with
     | true => rfl
     | false => exact absurd (by simp [hf]) c2
    rw [e] at hf
    exact FT (by simpa [fits] using hf)
   ·cases h
def flagN (is : Bool) (n : Nat) : Nat := if is = true then n else 0
def flagsW (m : MsgR) : Nat := (((((flagN m.resp 32768 ||| m.op.toNat * 2048) ||| flagN m.auth 1024) ||| flagN m.trunc 512) ||| flagN m.want 256) ||| flagN m.avail 128) ||| m.rcode.toNat
abbrev JI := List UInt8 × List (List UInt8 × Nat)
def qW (x : JI) (q : mD) : JI := ((dH (fO q.1) x.1 x.2).1 ++ bJ q.2.toNat ++ bJ 1, (dH (fO q.1) x.1 x.2).2)
def jD (x : JI) (r : Rec) : JI := nB r ((dH (fO r.name) x.1 x.2).1 ++ bJ r.kind.toNat ++ bJ 1 ++ nA r.ttl.toNat) (dH (fO r.name) x.1 x.2).2
def hU (m : MsgR) : List UInt8 := bJ m.id.toNat ++ bJ (flagsW m) ++ bJ m.qs.length ++ bJ m.an.length ++ bJ m.au.length ++ bJ (m.ex.length + flagN (!decide (m.size = 0)) 1)
def BK (m : MsgR) : List UInt8 := if m.size = 0 then [] else [0] ++ bJ 41 ++ bJ m.size.toNat ++ nA 0 ++ bJ 0
def sB (m : MsgR) : JI := m.ex.foldl jD (m.au.foldl jD (m.an.foldl jD (m.qs.foldl qW (hU m, []))))
def lO (m : MsgR) : List UInt8 := (sB m).1 ++ BK m
def cG (m : MsgR) : List UInt8 × Int := if cC m ≠ 0 then ([], cC m) else if 65535 < (lO m).length then ([], 4) else (lO m, 0)
theorem KZ (x : JI) (q : mD) (h : Keys x.2) : Keys (qW x q).2 := fS _ _ _ h
theorem BL (r : Rec) (l : List UInt8) (ps : List (List UInt8 × Nat)) (h : Keys ps) : Keys (nB r l ps).2 := by
 unfold nB dN
 dsimp only
 split
 ·exact fS _ _ _ (fS _ _ _ h)
 ·split
  ·exact fS _ _ _ h
  ·exact h
theorem FV (x : JI) (r : Rec) (h : Keys x.2) : Keys (jD x r).2 := BL _ _ _ (fS _ _ _ h)
theorem qE {n : List UInt8} (h : (aV n).isSome = true) (x : JI) : ∃ t, (dH (fO n) x.1 x.2).1 = x.1 ++ t ∧ t.length ≤ 256 := by
 obtain ⟨t, h1, h2⟩ := iR (fO n) x.1 x.2
 have := fC h
 rw [this.2.1] at h2
 exact ⟨t, h1, by omega⟩
theorem NE {q : mD} (h : uV q = true) (x : JI) : (qW x q).1.length ≤ x.1.length + 260 := by
 have hs : (aV q.1).isSome = true := by
  simp only [uV, eI, Bool.and_eq_true, decide_eq_true_eq] at h
  have h := h.1.1
  split at h
  ·assumption
  ·cases h
 obtain ⟨t, h1, h2⟩ := qE hs x
 simp [qW, h1, bJ]
 omega
theorem CW {r : Rec} (h : RecOk r) (l : List UInt8) (ps : List (List UInt8 × Nat)) : ∃ y, (nB r l ps).1 = l ++ y ∧ y.length ≤ 5002 := by
 obtain ⟨y, h1, h2⟩ := qD r (l ++ bJ 0) ps h.d h.soa
 unfold nB
 dsimp only
 rw [h1]
 refine ⟨bJ ((l ++ bJ 0 ++ y).length - l.length - 2) ++ y, ?_, by simp [bJ]; omega⟩
 rw [show (l ++ bJ 0 ++ y).drop (l.length + 2) = y by rw [show l.length + 2 = (l ++ bJ 0).length by simp [bJ], List.drop_left]]
 rw [List.append_assoc]
theorem IR {r : Rec} (h : RecOk r) (x : JI) : (jD x r).1.length ≤ x.1.length + 6000 := by
 obtain ⟨t, h1, h2⟩ := qE h.nm x
 obtain ⟨y, h3, h4⟩ := CW h ((dH (fO r.name) x.1 x.2).1 ++ bJ r.kind.toNat ++ bJ 1 ++ nA r.ttl.toNat) (dH (fO r.name) x.1 x.2).2
 unfold jD
 rw [h3, h1]
 simp [bJ, nA]
 omega
structure MsgOk (m : MsgR) : Prop where
 id : 0 ≤ m.id ∧ m.id ≤ 65535
 op : 0 ≤ m.op ∧ m.op ≤ 15
 rc : 0 ≤ m.rcode ∧ m.rcode ≤ 15
 sz : m.size = 0 ∨ (512 ≤ m.size ∧ m.size ≤ 65535)
 ql : m.qs.length ≤ 10
 qs : ∀ q ∈ m.qs, uV q = true
 nl : m.an.length ≤ 200
 an : ∀ r ∈ m.an, bI r = 0
 ul : m.au.length ≤ 200
 au : ∀ r ∈ m.au, bI r = 0
 el : m.ex.length ≤ 200
 ex : ∀ r ∈ m.ex, bI r = 0
theorem oO {l : List Rec} (h : gE l = true) : l.length ≤ 200 ∧ ∀ r ∈ l, bI r = 0 := by
 simp only [gE, Bool.and_eq_true, decide_eq_true_eq, Bool.not_eq_true', List.any_eq_false] at h
 refine ⟨h.1, fun r hr => ?_⟩
 simpa using h.2 r hr
theorem nI {m : MsgR} (h : cC m = 0) : MsgOk m := by
 unfold cC at h
 split at h
 ·rename_i c
  simp only [Bool.and_eq_true, fQ, decide_eq_true_eq, Bool.or_eq_true, List.all_eq_true] at c
  obtain ⟨⟨⟨⟨⟨c1, c2⟩, c3⟩, c4⟩, c5, c6⟩, ⟨c7, c8⟩, c9⟩ := c
  have c7 := oO c7
  have c8 := oO c8
  have c9 := oO c9
  exact ⟨c1, c2, c3, c4, c5, c6, c7.1, c7.2, c8.1, c8.2, c9.1, c9.2⟩
 ·cases h
theorem kV (is : Bool) (n : Nat) : flagN is n ≤ n := by unfold flagN; split <;> omega
theorem FW {a b : Nat} (ha : a < 65536) (hb : b < 65536) : a ||| b < 65536 := Nat.or_lt_two_pow (x := a) (y := b) (n := 16) ha hb
def vE (m : MsgR) : List Nat := [m.qs.length, m.an.length, m.au.length, m.ex.length + flagN (!decide (m.size = 0)) 1]
theorem NF {q : mD} (h : uV q = true) : (aV q.1).isSome = true ∧ 1 ≤ q.2 ∧ q.2 ≤ 65535 := by
 simp only [uV, eI, Bool.and_eq_true, decide_eq_true_eq] at h
 obtain ⟨⟨h1, h2, h3⟩, _⟩ := h
 refine ⟨?_, h2, h3⟩
 split at h1
 ·assumption
 ·cases h1
end Go.Proofs.X
