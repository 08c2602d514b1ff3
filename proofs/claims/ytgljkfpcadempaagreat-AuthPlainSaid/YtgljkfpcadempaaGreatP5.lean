/- Laws and walks that the proof of the statement is made of (part 5). -/
import Derived.Test.YtgljkfpcadempaaGreatP4
set_option linter.unusedSimpArgs false
set_option linter.unusedVariables false
namespace Go.Proofs.X
open Go.RowKit
set_option maxRecDepth 100000
theorem MJ {α : Type} {R : α → α → Prop} {l : List α} {i : Nat} {c : α} (h : l.Pairwise R) (hi : i < l.length) (h1 : ∀ j (hj : j < i), R l[j] c) (h2 : ∀ j (hj : i < j) (hl : j < l.length), R c l[j]) : (l.set i c).Pairwise R := by
 rw [List.pairwise_iff_getElem] at *
 intro p q hp hq hpq
 simp only [List.length_set] at hp hq
 simp only [List.getElem_set]
 by_cases e1 : i = p
 ·subst e1
  rw [if_pos rfl, if_neg (by omega)]
  exact h2 q hpq hq
 ·by_cases e2 : i = q
  ·subst e2
   rw [if_neg e1, if_pos rfl]
   exact h1 p hpq
  ·rw [if_neg e1, if_neg e2]
   exact h p q hp hq hpq
theorem GS.split {w : World} {B : Nat} {gcs : List GC} (h : GS w B gcs) {i j : Nat} {c c' : GC} (hi : gcs[i]? = some c) (hj : gcs[j]? = some c') (hij : i ≠ j) : c.b ≠ c'.b ∧ (c.v.ownBlock = none ∨ c'.v.ownBlock = none ∨ c.v.ownBlock ≠ c'.v.ownBlock) := by
 have := List.pairwise_iff_getElem.1 h.apart
 obtain ⟨hi2, e1⟩ := List.getElem?_eq_some_iff.1 hi
 obtain ⟨hj2, e2⟩ := List.getElem?_eq_some_iff.1 hj
 subst e1 e2
 rcases Nat.lt_or_ge i j with h1 | h1
 ·exact this i j hi2 hj2 h1
 ·obtain ⟨a, b⟩ := this j i hj2 hi2 (by omega)
  exact ⟨fun e => a e.symm, by rcases b with b | b | b; exact .inr (.inl b); exact .inl b; exact .inr (.inr fun e => b e.symm)⟩
theorem tP {α : Type} {l : List α} {i : Nat} {c x : α} (h : x ∈ l.set i c) : x = c ∨ ∃ j, j ≠ i ∧ l[j]? = some x := by
 obtain ⟨j, hj⟩ := List.mem_iff_getElem?.1 h
 by_cases e : j = i
 ·subst e
  have hl : j < l.length := by simpa using (List.getElem?_eq_some_iff.1 hj).1
  rw [List.getElem?_set_self hl] at hj
  exact .inl (Option.some.inj hj).symm
 ·rw [List.getElem?_set_ne (Ne.symm e)] at hj
  exact .inr ⟨j, e, hj⟩
theorem GS.turn {w w1 w2 : World} {B : Nat} {gcs : List GC} {i : Nat} {c c' : GC} (h : GS w B gcs) (hi : gcs[i]? = some c) (hb : c'.b = c.b) (m : Mv c.v.ownBlock w w1) (o : Own B 1 9 w1 c'.v (aS c'.s.data))
 (kin : c'.v.ownBlock = c.v.ownBlock ∨ c'.v.ownBlock = some w.heap.size) (hp : Put w1 w2 c.b (.cells c'.cells.toArray 131 (0, 0))) : GS w2 B (gcs.set i c') := by
 have hc := h.each c (List.mem_of_getElem? hi)
 have hil := (List.getElem?_eq_some_iff.1 hi).1
 have hcb : c.v.ownBlock ≠ some c.b := hc.own.neBlock hc.blk (by omega)
 have ho : Own B 1 9 w2 c'.v (aS c'.s.data) := o.mv hp.mv (.inr (o.neBlock (cs := c.cells.toArray) (fz := (0, 0)) (m.at hc.blk (fun e => hcb e.symm)) (by omega)))
 have hother : ∀ j x, j ≠ i → gcs[j]? = some x → GOK w2 B x ∧ x.b ≠ c.b ∧ (x.v.ownBlock = none ∨ x.v.ownBlock ≠ c'.v.ownBlock) := by
  intro j x hj hx
  have hxo := h.each x (List.mem_of_getElem? hx)
  obtain ⟨s1, s2⟩ := h.split hx hi hj
  have n1 : some x.b ≠ c.v.ownBlock := fun e => (hc.own.neBlock hxo.blk (by omega)) e.symm
  have n2 : x.v.ownBlock = none ∨ x.v.ownBlock ≠ c.v.ownBlock := by
   rcases s2 with s2 | s2 | s2
   ·exact .inl s2
   ·cases hv : x.v.ownBlock with
    | none => exact .inl rfl
    | some r => rw [s2]; exact .inr (by simp)
   ·exact .inr s2
  have g1 := hxo.mv m n1 n2
  refine ⟨g1.mv hp.mv (fun e => s1 (Option.some.inj e)) (.inr (hxo.own.neBlock hc.blk (by omega))), s1, ?_⟩
  rcases kin with k | k
  ·rw [k]; exact n2
  ·rw [k]
   cases hv : x.v.ownBlock with
   | none => exact .inl rfl
   | some r => exact .inr fun e => by have := (hxo.own.block r hv).2; have := Option.some.inj e; omega
 refine ⟨fun x hx => ?_, MJ h.apart hil (fun j hj => ?_) (fun j hj hl => ?_)⟩
 ·rcases tP hx with rfl | ⟨j, hj, hx⟩
  ·exact ⟨by rw [hb]; exact hp.this, by rw [hb]; exact hc.ge, ho⟩
  ·exact (hother j x hj hx).1
 ·obtain ⟨_, a, b⟩ := hother j gcs[j] (by omega) (List.getElem?_eq_getElem (by omega))
  exact ⟨by rw [hb]; exact a, by rcases b with b | b; exact .inl b; exact .inr (.inr b)⟩
 ·obtain ⟨_, a, b⟩ := hother j gcs[j] (by omega) (List.getElem?_eq_getElem hl)
  exact ⟨by rw [hb]; exact fun e => a e.symm, by rcases b with b | b; exact .inr (.inl b); exact .inr (.inr fun e => b e.symm)⟩
theorem GS.push {w : World} {B : Nat} {gcs : List GC} {c : GC} (h : GS w B gcs) (hc : GOK w B c) (hn : ∀ x ∈ gcs, x.b ≠ c.b) (hv : c.v.ownBlock = none) : GS w B (gcs ++ [c]) := by
 refine ⟨fun x hx => ?_, ?_⟩
 ·rcases List.mem_append.1 hx with hx | hx
  ·exact h.each x hx
  ·rw [List.mem_singleton.1 hx]; exact hc
 ·rw [List.pairwise_append]
  refine ⟨h.apart, by simp, fun x hx y hy => ?_⟩
  rw [List.mem_singleton.1 hy]
  exact ⟨hn x hx, .inr (.inl hv)⟩
theorem GS.mv {w w' : World} {B : Nat} {gcs : List GC} {row : Option Nat} (h : GS w B gcs) (hm : Mv row w w') (h1 : ∀ c ∈ gcs, some c.b ≠ row ∧ (c.v.ownBlock = none ∨ c.v.ownBlock ≠ row)) : GS w' B gcs :=
 ⟨fun c hc => (h.each c hc).mv hm (h1 c hc).1 (h1 c hc).2, h.apart⟩
theorem PX : Tryz.prog.keyTypeAt 2 166 = true := by kernel_rfl
theorem GX : Tryz.prog.tiled 2 166 = true := by kernel_rfl
theorem GY : WideMaps.KeyLaw Tryz.prog 166 := deep_law (m := 2) (by omega) PX GX (by kernel_rfl)
theorem DI (n : List UInt8) (k : Int) (hn : n.length ≤ 1000000) (hk : 0 ≤ k ∧ k ≤ 65535) : ∃ l, keyOf Tryz.prog 166 (.agg #[aH n, .int .i64 k]) = some l := by
 unfold keyOf
 rw [Tryz.underlying166]
 have kt2 : Tryz.prog.keyType 166 = true := by kernel_rfl
 simp only [kt2]
 rw [show Tryz.prog.types.size = 275 from by kernel_rfl]
 have c48 : Tryz.prog.cellsOf 166 = 2 := by kernel_rfl
 have c30 : Tryz.prog.cellsOf 47 = 1 := by kernel_rfl
 have c3 : Tryz.prog.cellsOf 3 = 1 := by kernel_rfl
 have f : Value.formed Tryz.prog 166 (Value.agg #[aH n, Value.int IntKind.i64 k]) = true := by simp [Value.formed, Tryz.underlying166, c48]
 have hs : (ByteArray.mk n.toArray).size ≤ maxLen := by rw [eE]; unfold maxLen; omega
 have hw : (Lit.int .i64 k).wf = true := by simp [Lit.wf, IntKind.min, IntKind.max, IntKind.bits, IntKind.signed]; omega
 have l30 : Tryz.prog.keyLits 275 47 [aH n] = some [.string n] := by simp [Program.keyLits, Tryz.underlying47, aH, -ByteArray.size_data, hs]
 have l3 : Tryz.prog.keyLits 275 3 [Value.int .i64 k] = some [.int .i64 k] := by simp [Program.keyLits, Tryz.underlying3, hw]
 rw [f]
 simp only [Bool.and_self, if_true]
 unfold Program.keyLits
 simp [Tryz.underlying166, c48, c30, c3, Value.cells, l30, l3]
structure L1 (w0 w : World) (kv : Value) (gcs : List GC) : Prop where
 ext : Ext w0 w
 map : MapAt Tryz.prog 166 w w0.heap.size (gcs.map GC.key)
 keys : Own (w0.heap.size + 1) 2 166 w kv (gcs.map GC.kcells)
 sets : GS w (w0.heap.size + 1) gcs
theorem L1.grow {w0 w w' : World} {kv : Value} {gcs : List GC} (h : L1 w0 w kv gcs) (hx : Ext w w') : L1 w0 w' kv gcs :=
 ⟨h.ext.trans hx, h.map.at (fun o ho => hx.at ho), h.keys.ext hx, h.sets.ext hx⟩
def cT (s : SoaR) : List Int := [s.refresh, s.retry, s.expire, s.minimum]
def lH (s : SoaR) : List UInt8 := s.main ++ [0] ++ (s.mail ++ [0]) ++ BY s.serial.toNat
def qQ (l : List Int) : List UInt8 := (l.map fun n => BY n.toNat).flatten
theorem zW (s : SoaR) : s.data = lH s ++ qQ (cT s) := by simp [SoaR.data, lH, qQ, cT]
theorem ET (l : List Int) (k : Nat) (h : k < l.length) : qQ (l.take (k + 1)) = qQ (l.take k) ++ BY l[k].toNat := by
 unfold qQ
 rw [List.take_add_one, List.getElem?_eq_getElem h, Option.toList_some, List.map_append, List.flatten_append]
 simp
theorem GZ (l : List Int) : (qQ l).length = 4 * l.length := by
 induction l with
 | nil => rfl
 | cons x l ih =>
  have : qQ (x :: l) = BY x.toNat ++ qQ l := by simp [qQ]
  rw [this, List.length_append, ih, List.length_cons]
  simp [BY]; omega
theorem MK (s : SoaR) : s.ok = ((aV s.main).isSome && (aV s.mail).isSome && decide (0 ≤ s.serial) && decide (s.serial ≤ 4294967295) && (cT s).all iD) := by
 simp [SoaR.ok, cT, Bool.and_assoc]
set_option maxHeartbeats 1000000 in
theorem SN (s : SoaR) (w : World) (h1 : s.main.length ≤ 4611686018427387904) (h2 : s.mail.length ≤ 4611686018427387904) : Calls Tryz.prog 154 #[.agg s.cells.toArray] w (bO w (if s.ok = true then .tuple #[aH s.data, .int .i64 0] else .tuple #[aH [], .int .i64 1])) := by
 have hA := fun w => PW s.main w (by omega)
 have hB := fun w => PW s.mail w (by omega)
 cases hm : aV s.main with
 | none =>
  simp only [hm, Option.isSome_none, Bool.false_eq_true, if_false] at hA
  have hno : s.ok = false := by simp [SoaR.ok, hm]
  rw [hno]
  go_enter Tryz.func154, Tryz.ntmps154
  refine_lift yA fun _ _ => ?_
  refine bR (vs := s.cells) rfl rfl ?_
  intro p w1 x1 hp
  refine aA ?_
  have hp' : Pts w1 p [aH s.main, aH s.mail, .int .i64 s.serial, .int .i64 s.refresh, .int .i64 s.retry, .int .i64 s.expire, .int .i64 s.minimum] := hp
  refine_lift fD fun _ _ => ?_
  refine aE (enters_of Tryz.func184 rfl rfl) rfl rfl (hA _) ?_
  intro w2 x2
  have hp' := hp'.ext x2
  refine_lift fD fun _ _ => ?_
  refine aE (enters_of Tryz.func184 rfl rfl) rfl rfl (hB _) ?_
  intro w3 x3
  cases hl : (aV s.mail).isSome with
  | true =>
   simp only [hl, if_true]
   have hp' := hp'.ext x3
   refine_lift dE ?_
   go_ret2
   exact ⟨rfl, (x1.trans x2).trans x3⟩
  | false =>
   simp only [hl, Bool.false_eq_true, if_false]
   have hp' := hp'.ext x3
   refine_lift dE ?_
   go_ret2
   exact ⟨rfl, (x1.trans x2).trans x3⟩
 | some ls =>
  simp only [hm, Option.isSome_some, if_true] at hA
  cases hm2 : aV s.mail with
  | none =>
   simp only [hm2, Option.isSome_none, Bool.false_eq_true, if_false] at hB
   have hno : s.ok = false := by simp [SoaR.ok, hm2]
   rw [hno]
   go_enter Tryz.func154, Tryz.ntmps154
   refine_lift yA fun _ _ => ?_
   refine bR (vs := s.cells) rfl rfl ?_
   intro p w1 x1 hp
   refine aA ?_
   have hp' : Pts w1 p [aH s.main, aH s.mail, .int .i64 s.serial, .int .i64 s.refresh, .int .i64 s.retry, .int .i64 s.expire, .int .i64 s.minimum] := hp
   refine_lift fD fun _ _ => ?_
   refine aE (enters_of Tryz.func184 rfl rfl) rfl rfl (hA _) ?_
   intro w2 x2
   have hp' := hp'.ext x2
   refine_lift fD fun _ _ => ?_
   refine aE (enters_of Tryz.func184 rfl rfl) rfl rfl (hB _) ?_
   intro w3 x3
   have hp' := hp'.ext x3
   refine_lift dE ?_
   go_ret2
   exact ⟨rfl, (x1.trans x2).trans x3⟩
  | some ms =>
   simp only [hm2, Option.isSome_some, if_true] at hB
   have hfm := eA hm
   have hfm2 := eA hm2
   rw [MK, hm, hm2]
   simp only [Option.isSome_some, Bool.true_and]
   go_enter Tryz.func154, Tryz.ntmps154
   refine_lift yA fun _ _ => ?_
   refine bR (vs := s.cells) rfl rfl ?_
   intro p w1 x1 hp
   refine aA ?_
   have hp' : Pts w1 p [aH s.main, aH s.mail, .int .i64 s.serial, .int .i64 s.refresh, .int .i64 s.retry, .int .i64 s.expire, .int .i64 s.minimum] := hp
   refine_lift fD fun _ _ => ?_
   refine aE (enters_of Tryz.func184 rfl rfl) rfl rfl (hA _) ?_
   intro w2 x2
   have hp' := hp'.ext x2
   refine_lift fD fun _ _ => ?_
   refine aE (enters_of Tryz.func184 rfl rfl) rfl rfl (hB _) ?_
   intro w3 x3
   have hp' := hp'.ext x3
   have x13 := (x1.trans x2).trans x3
   clear x1 x2 x3 hp hA hB
   refine_lift OC (fun hc _ _ _ => ?_) (fun hc => ?_) (fun hc _ => ?_)
   ·have hc := ‹4294967295 < s.serial›
    go_ret2
    refine ⟨?_, x13⟩
    have hno : (decide (0 ≤ s.serial) && decide (s.serial ≤ 4294967295)) = false := by simp only [Bool.and_eq_false_iff, decide_eq_false_iff_not]; omega
    simp only [hno, Bool.false_and, Bool.false_eq_true, if_false]
    rfl
   ·have hc := ‹s.serial ≤ 4294967295›
    have hc0 := ‹¬s.serial < 0›
    have hser : (decide (0 ≤ s.serial) && decide (s.serial ≤ 4294967295)) = true := by simp; omega
    refine nD (e := 5) (l := s.main ++ [0] ++ (s.mail ++ [0])) rfl rfl (by decide +kernel) (by decide +kernel) (by simp; omega) ?_
    intro v w4 x4 o4
    refine aA ?_
    have hp' := hp'.ext x4
    have hsn : s.serial = ((s.serial.toNat : Nat) : Int) := by omega
    refine_lift dE ?_
    rw [hsn]
    refine aF (enters_of Tryz.func187 rfl rfl) rfl rfl (RQ (B := w3.heap.size) s.serial.toNat o4 x4.size (by omega) (by simp; omega)) ?_
    rintro e w5 ⟨v5, rfl, o5, m5⟩
    refine ⟨_, rfl, ?_⟩
    refine aA ?_
    have x35 := o4.mvx m5 x4 (Nat.le_refl _)
    have hp' := ‹Pts w3 p _›.ext x35
    have x15 := x13.trans x35
    rw [← hsn]
    refine_lift zQ fun _ _ _ _ => ?_
    refine cO (v := .agg ((cT s).map (Value.int .i64)).toArray) rfl (Runs.build rfl (by kernel_rfl)) ?_
    refine aA ?_
    refine_lift dE ?_
    clear hp' m5
    have hbase : s.main ++ [0] ++ (s.mail ++ [0]) ++ BY s.serial.toNat = lH s := rfl
    rw [hbase] at o5
    have hbl : (lH s).length ≤ 600 := by simp [lH, BY]; omega
    go_loopw [8, 55] (fun v6 i wr => ∃ k : Nat, k ≤ 4 ∧ i = .int .i64 k ∧ Ext w wr ∧ w3.heap.size ≤ wr.heap.size ∧ Own w3.heap.size 1 5 wr v6 (aQ (lH s ++ qQ ((cT s).take k))) ∧ ((cT s).take k).all iD = true) (fun _ i _ => 4 - (intOf i).toNat)
    case atStart => exact ⟨0, by omega, rfl, x15, x35.size, by simpa [qQ] using o5, rfl⟩
    case round =>
     obtain ⟨k, hk, rfl, hx, hsz, ho, hall⟩ := hrel
     have hlen : (cT s).length = 4 := rfl
     by_cases hlt : k < 4
     ·have hlt2 : k < (cT s).length := hlt
      have hdata : s.data = lH s ++ qQ (cT s) := zW s
      have hsplit : (cT s).all iD = true → iD (cT s)[k] = true := fun h => List.all_eq_true.1 h _ (List.getElem_mem hlt2)
      refine_lift EQ ?_; intro _ _ _ _ _ _
      refine cO (v := .int .i64 (cT s)[k]) rfl (Runs.idxA (n := 4) (i := k) rfl rfl (by simp [hlt2]) hlt (by decide +kernel)) ?_
      refine aA ?_
      refine_lift LF (fun hc _ => ?_) (fun hc => ?_) (fun hc _ => ?_)
      ·have hc2 := ‹2147483647 < (cT s)[k]›
       go_ret2
       refine ⟨?_, hx⟩
       have hno : (cT s).all iD = false := by
        cases h : (cT s).all iD with
        | false => rfl
        | true => have := hsplit h; simp [iD] at this; omega
       simp only [hser, hno, Bool.and_false, Bool.false_eq_true, if_false]
       rfl
      ·have hc2 := ‹(cT s)[k] ≤ 2147483647›
       have hc1 := ‹¬(cT s)[k] < 0›
       have hnn : (cT s)[k] = (((cT s)[k].toNat : Nat) : Int) := by omega
       have hbs : (qQ ((cT s).take k)).length ≤ 16 := by rw [GZ]; simp; omega
       rw [hnn]
       refine aF (enters_of Tryz.func187 rfl rfl) rfl rfl (RQ (B := w3.heap.size) (cT s)[k].toNat ho hsz (by omega) (by rw [List.length_append]; omega)) ?_
       rintro e w6 ⟨v6, rfl, o6, m6⟩
       refine ⟨_, rfl, ?_⟩
       refine aA ?_
       have hx6 := ho.mvx m6 hx x13.size
       have hs6 : w3.heap.size ≤ w6.heap.size := Nat.le_trans hsz m6.size
       rw [List.append_assoc, ← ET _ _ hlt2] at o6
       refine_lift dE ?_
       refine ⟨⟨k + 1, by omega, rfl, hx6, hs6, o6, ?_⟩, by simp [intOf]; omega⟩
       rw [List.take_add_one, List.getElem?_eq_getElem hlt2, Option.toList_some, List.all_append, hall]
       simp only [List.all_cons, List.all_nil, iD, Bool.true_and, Bool.and_true, Bool.and_eq_true, decide_eq_true_eq]
       omega
      ·have hc2 := ‹(cT s)[k] < 0›
       go_ret2
       refine ⟨?_, hx⟩
       have hno : (cT s).all iD = false := by
        cases h : (cT s).all iD with
        | false => rfl
        | true => have := hsplit h; simp [iD] at this; omega
       simp only [hser, hno, Bool.and_false, Bool.false_eq_true, if_false]
       rfl
     ·have : k = 4 := by omega
      subst this
      have hsl := ho.sl
      rw [show (cT s).take 4 = cT s from rfl] at hsl hall
      refine_lift sM fun _ => ?_
      go_ret2
      refine ⟨?_, hx⟩
      simp only [hser, hall, Bool.and_self, if_true]
      rw [zW]
      rfl
   ·have hc := ‹s.serial < 0›
    go_ret2
    refine ⟨?_, x13⟩
    have hno : (decide (0 ≤ s.serial) && decide (s.serial ≤ 4294967295)) = false := by simp only [Bool.and_eq_false_iff, decide_eq_false_iff_not]; omega
    simp only [hno, Bool.false_and, Bool.false_eq_true, if_false]
    rfl
def cK : List Value := [aH [], aH [], .int .i64 0, .int .i64 0, .int .i64 0, .int .i64 0, .int .i64 0]
theorem tQ (s : List UInt8) : (bZ s).1.length ≤ s.length ∧ (bZ s).2.1.length ≤ s.length := by
 unfold bZ
 split
 ·simp
 ·refine ⟨?_, by simp⟩
  unfold gX
  split
  ·simp only [Option.getD_some]
   have : (Lib.trimSuffix (s.take (kK s + 1)) [0]).length ≤ (s.take (kK s + 1)).length := Lib.trimSuffix_le _ _
   simp at this ⊢
   omega
  ·simp
set_option maxHeartbeats 1000000 in
theorem PY (d : List UInt8) (w : World) (hl : d.length ≤ 4611686018427387904) : Calls Tryz.prog 106 #[aH d] w (bO w (match cS d with | some s => .tuple #[.agg s.cells.toArray, .int .i64 0] | none => .tuple #[.agg cK.toArray, .int .i64 2])) := by
 have hl1 := tQ d
 have hl2 := tQ (bZ d).2.1
 go_enter Tryz.func106, Tryz.ntmps106
 refine_lift NR ?_; intro _ _ _
 refine aP (z := cK) rfl (by decide +kernel) ?_
 intro w1 x1 s1 h1
 refine aA ?_
 refine_lift fD fun _ _ => ?_
 refine aE (enters_of Tryz.func152 rfl rfl) rfl rfl (RP d _ hl) ?_
 intro w2 x2
 refine aA ?_
 have h12 := x2.at h1
 refine_lift dE ?_
 refine aP (z := [aH []]) rfl (by decide +kernel) ?_
 intro w3 x3 s3 h3
 refine aA ?_
 have h13 := x3.at h12
 refine_lift dE ?_
 refine dZ (v := aH (bZ d).2.1) rfl rfl rfl h3 (by decide +kernel) rfl ?_
 intro w4 p4
 have s2 : w.heap.size < w2.heap.size := by have := x2.size; omega
 have h14 := p4.at h13 (by omega)
 have h54 := p4.this
 have x4 : Ext w w4 := ((x1.trans x2).trans x3).move p4.mv (by rintro k ⟨⟩; omega)
 have hp5 := aD (cs := [aH (bZ d).2.1]) h54
 generalize hb5 : w2.heap.size = b5 at *
 clear h1 h12 h13 h3 p4 x1 x2 x3 s3
 refine_lift fD fun _ _ => ?_
 refine aE (enters_of Tryz.func152 rfl rfl) rfl rfl (RP _ _ (by omega)) ?_
 intro w5 x5
 refine aA ?_
 have h15 := x5.at h14
 have h55 := x5.at h54
 have hp5 := hp5.ext x5
 have x5 := x4.trans x5
 refine_lift dE ?_
 refine dZ (v := aH (bZ (bZ d).2.1).2.1) rfl rfl rfl h55 (by decide +kernel) rfl ?_
 intro w6 p6
 have h16 := p6.at h15 (by omega)
 have h56 := p6.this
 have x6 : Ext w w6 := x5.move p6.mv (by rintro k ⟨⟩; omega)
 clear hp5 h54 h14 h15 h55 p6 x4 x5
 have hp5 := aD (cs := [aH (bZ (bZ d).2.1).2.1]) h56
 refine_lift ME (fun hc hc _ _ _ => ?_) (fun _ _ hc hc _ _ => ?_) (fun _ _ hc _ _ => ?_) (fun _ _ hc hc _ _ _ => ?_)
 ·refine cO (v := .agg cK.toArray) rfl (Runs.build (parts := []) (vals := []) rfl (by kernel_rfl)) ?_
  refine aA ?_
  refine aG (v := .agg cK.toArray) rfl rfl rfl h16 (by decide +kernel) rfl (by decide +kernel) ?_
  intro w7 p7
  have x7 : Ext w w7 := x6.move p7.mv (by rintro k ⟨⟩; omega)
  have h17 : w7.heap[w.heap.size]? = some (.cells cK.toArray 160 (0, 0)) := p7.this
  refine_lift dE ?_
  refine bodyPost_ret (bH (cs := cK) rfl rfl h17 (by decide +kernel)) rfl ⟨?_, x7⟩
  have hno : cS d = none := by
   unfold cS
   rw [if_neg]
   rintro ⟨q1, q2, q3, q4⟩
   have := ‹(!decide (((bZ (bZ d).2.1).2.1.length : Int) = 20)) = true›
   simp [q3] at this
  rw [hno]
  rfl
 ·have hc1 := ‹(!(bZ d).2.2) = false›
  have hc2 := ‹(!(bZ (bZ d).2.1).2.2) = false›
  have hc3 := ‹(!decide (((bZ (bZ d).2.1).2.1.length : Int) = 20)) = false›
  have hr : (bZ (bZ d).2.1).2.1.length = 20 := by simp at hc3; omega
  have q1 : (bZ d).2.2 = true := by simpa using hc1
  have q2 : (bZ (bZ d).2.1).2.2 = true := by simpa using hc2
  have hps : cS d = if (eO d).ok = true then some (eO d) else none := by
   unfold cS
   simp only [q1, q2, hr, true_and]
  generalize hrr : (bZ (bZ d).2.1).2.1 = r at *
  refine eK (f := 153) (caps := #[.pointer (some ⟨b5, 0, none⟩)]) (enters_of Tryz.func153 rfl rfl) rfl rfl rfl (OH r 0 _ _ hp5 hr (by omega)) ?_
  rintro e w10 ⟨rfl, y⟩
  refine ⟨_, rfl, ?_⟩
  refine aA ?_
  have hp5 := hp5.ext y
  have h16 := y.at h16
  have x6 := x6.trans y
  clear y
  refine_lift dE ?_
  refine eK (f := 153) (caps := #[.pointer (some ⟨b5, 0, none⟩)]) (enters_of Tryz.func153 rfl rfl) rfl rfl rfl (OH r 1 _ _ hp5 hr (by omega)) ?_
  rintro e w11 ⟨rfl, y⟩
  refine ⟨_, rfl, ?_⟩
  refine aA ?_
  have hp5 := hp5.ext y
  have h16 := y.at h16
  have x6 := x6.trans y
  clear y
  refine_lift dE ?_
  refine eK (f := 153) (caps := #[.pointer (some ⟨b5, 0, none⟩)]) (enters_of Tryz.func153 rfl rfl) rfl rfl rfl (OH r 2 _ _ hp5 hr (by omega)) ?_
  rintro e w12 ⟨rfl, y⟩
  refine ⟨_, rfl, ?_⟩
  refine aA ?_
  have hp5 := hp5.ext y
  have h16 := y.at h16
  have x6 := x6.trans y
  clear y
  refine_lift dE ?_
  refine eK (f := 153) (caps := #[.pointer (some ⟨b5, 0, none⟩)]) (enters_of Tryz.func153 rfl rfl) rfl rfl rfl (OH r 3 _ _ hp5 hr (by omega)) ?_
  rintro e w13 ⟨rfl, y⟩
  refine ⟨_, rfl, ?_⟩
  refine aA ?_
  have hp5 := hp5.ext y
  have h16 := y.at h16
  have x6 := x6.trans y
  clear y
  refine_lift dE ?_
  refine eK (f := 153) (caps := #[.pointer (some ⟨b5, 0, none⟩)]) (enters_of Tryz.func153 rfl rfl) rfl rfl rfl (OH r 4 _ _ hp5 hr (by omega)) ?_
  rintro e w14 ⟨rfl, y⟩
  refine ⟨_, rfl, ?_⟩
  refine aA ?_
  have hp5 := hp5.ext y
  have h16 := y.at h16
  have x6 := x6.trans y
  clear y
  refine_lift dE ?_
  have hsc : (eO d).cells = [aH (bZ d).1, aH (bZ (bZ d).2.1).1, .int .i64 (numP r 0 4 : Nat), .int .i64 (numP r 1 4 : Nat), .int .i64 (numP r 2 4 : Nat), .int .i64 (numP r 3 4 : Nat), .int .i64 (numP r 4 4 : Nat)] := by
   simp only [SoaR.cells, eO, hrr]
  refine cO (v := .agg (eO d).cells.toArray) rfl (by rw [hsc]; exact Runs.build rfl (by kernel_rfl)) ?_
  refine aA ?_
  refine aP (z := cK) rfl (by decide +kernel) ?_
  intro w15 x15 s15 h15
  refine aA ?_
  have h16 := x15.at h16
  have x6 := x6.trans x15
  have hlt16 : w.heap.size < w14.heap.size := (Array.getElem?_eq_some_iff.1 ‹w14.heap[w.heap.size]? = _›).1
  refine aG (v := .agg (eO d).cells.toArray) rfl rfl rfl h15 (show aX Tryz.prog 160 7 = true by decide +kernel) rfl (by rw [hsc]; simp [Value.cells, Value.oneCell', aH]) ?_
  intro w16 p16
  have h16 := p16.at h16 (by omega)
  have x6 := x6.move p16.mv (by rintro k ⟨⟩; omega)
  have hb10 : w16.heap[w14.heap.size]? = some (.cells (eO d).cells.toArray 160 (0, 0)) := p16.this
  have hp10 := aD hb10
  refine_lift zQ fun _ _ _ _ => ?_
  refine cO (v := .agg (eO d).cells.toArray) rfl (Runs.loadN (n := 7) hp10 rfl (by decide +kernel)) ?_
  refine aA ?_
  have hm1 : (eO d).main.length ≤ 4611686018427387904 := by simp only [eO]; omega
  have hm2 : (eO d).mail.length ≤ 4611686018427387904 := by simp only [eO]; omega
  refine aE (enters_of Tryz.func154 rfl rfl) rfl rfl (SN (eO d) _ hm1 hm2) ?_
  intro w17 x17
  refine aA ?_
  have h16 := x17.at h16
  have hb10 := x17.at hb10
  have x6 := x6.trans x17
  have hp10 := hp10.ext x17
  cases hok : (eO d).ok with
  | false =>
   simp only [hok, Bool.false_eq_true, if_false] at hps ⊢
   refine_lift JS fun _ _ _ => ?_
   refine cO (v := .agg cK.toArray) rfl (Runs.build (parts := []) (vals := []) rfl (by kernel_rfl)) ?_
   refine aA ?_
   refine aG (v := .agg cK.toArray) rfl rfl rfl h16 (by decide +kernel) rfl (by decide +kernel) ?_
   intro w7 p7
   have x7 : Ext w w7 := x6.move p7.mv (by rintro k ⟨⟩; omega)
   have h17 : w7.heap[w.heap.size]? = some (.cells cK.toArray 160 (0, 0)) := p7.this
   refine_lift dE ?_
   refine bodyPost_ret (bH (cs := cK) rfl rfl h17 (by decide +kernel)) rfl ⟨?_, x7⟩
   rw [hps]
   rfl
  | true =>
   simp only [hok, if_true] at hps ⊢
   refine_lift fD fun _ _ => ?_
   refine cO (v := .agg (eO d).cells.toArray) rfl (Runs.loadN (n := 7) hp10 rfl (by decide +kernel)) ?_
   refine aA ?_
   refine aG (v := .agg (eO d).cells.toArray) rfl rfl rfl h16 (show aX Tryz.prog 160 7 = true by decide +kernel) rfl (by rw [hsc]; simp [Value.cells, Value.oneCell', aH]) ?_
   intro w7 p7
   have x7 : Ext w w7 := x6.move p7.mv (by rintro k ⟨⟩; omega)
   have h17 : w7.heap[w.heap.size]? = some (.cells (eO d).cells.toArray 160 (0, 0)) := p7.this
   refine_lift dE ?_
   refine bodyPost_ret (bH (cs := (eO d).cells) rfl rfl h17 (show dS Tryz.prog 160 7 = true by decide +kernel)) rfl ⟨?_, x7⟩
   rw [hps]
   rfl
 ·refine cO (v := .agg cK.toArray) rfl (Runs.build (parts := []) (vals := []) rfl (by kernel_rfl)) ?_
  refine aA ?_
  refine aG (v := .agg cK.toArray) rfl rfl rfl h16 (by decide +kernel) rfl (by decide +kernel) ?_
  intro w7 p7
  have x7 : Ext w w7 := x6.move p7.mv (by rintro k ⟨⟩; omega)
  have h17 : w7.heap[w.heap.size]? = some (.cells cK.toArray 160 (0, 0)) := p7.this
  refine_lift dE ?_
  refine bodyPost_ret (bH (cs := cK) rfl rfl h17 (by decide +kernel)) rfl ⟨?_, x7⟩
  have hno : cS d = none := by
   unfold cS
   rw [if_neg]
   rintro ⟨q1, q2, q3, q4⟩
   have := ‹(!(bZ (bZ d).2.1).2.2) = true›
   simp [q2] at this
  rw [hno]
  rfl
 ·refine cO (v := .agg cK.toArray) rfl (Runs.build (parts := []) (vals := []) rfl (by kernel_rfl)) ?_
  refine aA ?_
  refine aG (v := .agg cK.toArray) rfl rfl rfl h16 (by decide +kernel) rfl (by decide +kernel) ?_
  intro w7 p7
  have x7 : Ext w w7 := x6.move p7.mv (by rintro k ⟨⟩; omega)
  have h17 : w7.heap[w.heap.size]? = some (.cells cK.toArray 160 (0, 0)) := p7.this
  refine_lift dE ?_
  refine bodyPost_ret (bH (cs := cK) rfl rfl h17 (by decide +kernel)) rfl ⟨?_, x7⟩
  have hno : cS d = none := by
   unfold cS
   rw [if_neg]
   rintro ⟨q1, q2, q3, q4⟩
   have := ‹(!(bZ d).2.2) = true›
   simp [q1] at this
  rw [hno]
  rfl
set_option maxHeartbeats 1000000 in
theorem SP (k : Int) (d : List UInt8) (w : World) (hl : d.length ≤ 4000) : Calls Tryz.prog 148 #[.int .i64 k, aH d] w (bO w (.bool (fits k d))) := by
 have h38 := fun w => PY d w (by omega)
 go_enter Tryz.func148, Tryz.ntmps148
 (repeat' first | ((with_reducible refine aJ ?_); go_step) | ((with_reducible refine aI ?_); first | refine bM ?_ | (refine aL ?_ ?_ <;> intro hc)) | fail)
 ·have h1 := ‹k = 1›
  go_ret
  refine ⟨?_, Ext.refl _⟩
  rw [fits, if_pos h1]
  have e : decide ((d.length : Int) = 4) = decide (d.length = 4) := by apply decide_eq_decide.2; omega
  exact congrArg (fun b => Ending.returned (Value.bool b)) e
 ·have h1 := ‹¬k = 1›
  have h2 := ‹k = 28›
  go_ret
  refine ⟨?_, Ext.refl _⟩
  rw [fits, if_neg h1, if_pos h2]
  have e : decide ((d.length : Int) = 16) = decide (d.length = 16) := by apply decide_eq_decide.2; omega
  exact congrArg (fun b => Ending.returned (Value.bool b)) e
 ·have h1 := ‹¬k = 1›
  have h2 := ‹¬k = 28›
  have h3 := ‹k = 16›
  refine aE (enters_of Tryz.func185 rfl rfl) rfl rfl (SJ _ _ (by omega)) ?_
  intro w2 x2
  refine aA ?_
  refine_lift dE ?_
  go_ret
  refine ⟨?_, x2⟩
  rw [fits, if_neg h1, if_neg h2, if_pos h3]
  rfl
 ·have h1 := ‹¬k = 1›
  have h2 := ‹¬k = 28›
  have h3 := ‹¬k = 16›
  have h4 := ‹k = 6›
  have hF : fits k d = (cS d).isSome := by rw [fits, if_neg h1, if_neg h2, if_neg h3, if_pos h4]
  refine aE (enters_of Tryz.func106 rfl rfl) rfl rfl (h38 _) ?_
  intro w2 x2
  refine aA ?_
  cases hp : cS d with
  | none =>
   simp only [hp] at hF
   refine_lift dE ?_
   refine aP (z := cK) rfl (by decide +kernel) ?_
   intro w3 x3 s3 h3b
   refine aA ?_
   refine aG (v := .agg cK.toArray) rfl rfl rfl h3b (by decide +kernel) rfl (by decide +kernel) ?_
   intro w4 p4
   refine_lift dE ?_
   go_ret
   refine ⟨?_, (x2.trans x3).move p4.mv (by rintro k ⟨⟩; exact x2.size)⟩
   rw [hF]
   rfl
  | some s =>
   simp only [hp] at hF
   have hsc : ∀ s : SoaR, s.cells = [aH s.main, aH s.mail, .int .i64 s.serial, .int .i64 s.refresh, .int .i64 s.retry, .int .i64 s.expire, .int .i64 s.minimum] := fun _ => rfl
   refine_lift dE ?_
   refine aP (z := cK) rfl (by decide +kernel) ?_
   intro w3 x3 s3 h3b
   refine aA ?_
   refine aG (v := .agg s.cells.toArray) rfl rfl rfl h3b (show aX Tryz.prog 160 7 = true by decide +kernel) rfl (by rw [hsc]; simp [Value.cells, Value.oneCell', aH]) ?_
   intro w4 p4
   refine_lift dE ?_
   go_ret
   refine ⟨?_, (x2.trans x3).move p4.mv (by rintro k ⟨⟩; exact x2.size)⟩
   rw [hF]
   rfl
 ·have h1 := ‹¬k = 1›
  have h2 := ‹¬k = 28›
  have h3 := ‹¬k = 16›
  have h4 := ‹¬k = 6›
  refine aE (enters_of Tryz.func105 rfl rfl) rfl rfl (PI k d _ (by omega)) ?_
  intro w2 x2
  refine aA ?_
  refine_lift dE ?_
  go_ret
  refine ⟨?_, x2⟩
  rw [fits, if_neg h1, if_neg h2, if_neg h3, if_neg h4]
  simp
set_option maxHeartbeats 20000000 in
theorem PJ (r : Rec) (w : World) : Calls Tryz.prog 100 #[.agg #[aH r.name, .int .i64 r.kind, .int .i64 r.ttl, aH r.data]] w (bO w (.int .i64 (bI r))) := by
 have hf : r.data.length ≤ 4000 → ∀ w, Calls Tryz.prog 148 #[.int .i64 r.kind, aH r.data] w (bO w (.bool (fits r.kind r.data))) := fun h w => SP _ _ w h
 go_enter Tryz.func100, Tryz.ntmps100
 refine_lift yA fun _ _ => ?_
 refine bR (vs := [aH r.name, .int .i64 r.kind, .int .i64 r.ttl, aH r.data]) rfl rfl ?_
 intro p w1 x1 hp
 refine aA ?_
 (repeat' first | ((with_reducible refine aJ ?_); go_step) | ((with_reducible refine aI ?_); refine bM ?_) | fail)
 all_goals try (go_ret; refine ⟨?_, x1⟩; first | (rw [bI, if_pos (by omega)]; rfl) | (rw [bI, if_neg (by omega), if_pos (by omega)]; rfl))
 ((with_reducible refine aI ?_); refine lY ?_; ((first | refine DB ?_ ?_ | refine DC ?_ ?_) <;> intro hc))
 all_goals refine_lift LD ?_
 all_goals try (go_ret; refine ⟨?_, x1⟩; first | (rw [bI, if_pos (by omega)]; rfl) | (rw [bI, if_neg (by omega), if_pos (by omega)]; rfl))
 ((with_reducible refine aI ?_); refine lY ?_; ((first | refine DB ?_ ?_ | refine DC ?_ ?_) <;> intro hc))
 all_goals refine_lift LD ?_
 all_goals try (go_ret; refine ⟨?_, x1⟩; first | (rw [bI, if_pos (by omega)]; rfl) | (rw [bI, if_neg (by omega), if_pos (by omega)]; rfl))
 ((with_reducible refine aI ?_); refine lY ?_; ((first | refine DB ?_ ?_ | refine DC ?_ ?_) <;> intro hc))
 all_goals refine_lift LD ?_
 all_goals try (go_ret; refine ⟨?_, x1⟩; first | (rw [bI, if_pos (by omega)]; rfl) | (rw [bI, if_neg (by omega), if_pos (by omega)]; rfl))
 ((with_reducible refine aI ?_); refine lY ?_; ((first | refine DB ?_ ?_ | refine DC ?_ ?_) <;> intro hc))
 all_goals refine_lift LD ?_
 all_goals try (go_ret; refine ⟨?_, x1⟩; first | (rw [bI, if_pos (by omega)]; rfl) | (rw [bI, if_neg (by omega), if_pos (by omega)]; rfl))
 (apply vW; (rfl)) <;> intro hc
 ·have hlen : r.data.length ≤ 4000 := by simp at hc; omega
  rw [hc]
  refine_lift LD ?_
  refine aE (enters_of Tryz.func148 rfl rfl) rfl rfl (hf hlen _) ?_
  intro w2 x2
  refine aA ?_
  have hp := hp.ext x2
  cases hfit : fits r.kind r.data with
  | true =>
   refine_lift RW fun _ _ => ?_
   refine aE (enters_of Tryz.func65 rfl rfl) rfl rfl (MH _ _) ?_
   intro w3 x3
   refine aA ?_
   refine_lift LD ?_
   go_ret
   refine ⟨?_, (x1.trans x2).trans x3⟩
   have e : bI r = if (aV r.name).isSome = true then 0 else 1 := by
    rw [bI, if_neg (by omega), if_neg (by rw [hfit]; simp; omega)]
   rw [e]
   rfl
  | false =>
   refine_lift LD ?_
   go_ret
   refine ⟨?_, x1.trans x2⟩
   rw [bI, if_neg (by omega), if_pos (by rw [hfit]; simp)]
   rfl
 ·have hc4 : 4000 < r.data.length := by simp at hc; omega
  rw [hc]
  simp only [Act.put, List.setIfInBounds_toArray, List.set_cons_succ, List.set_cons_zero, Bool.not_true, Bool.not_false]
  refine_lift LD ?_
  go_ret
  refine ⟨?_, x1⟩
  rw [bI, if_neg (by omega), if_pos (by omega)]
  rfl
end Go.Proofs.X
set_option linter.unusedSimpArgs false
set_option linter.unusedVariables false
namespace Go.Proofs.X
open Go.RowKit
def jI (r : Rec) : Bool := decide (r.name.length ≤ 300) && decide (r.data.length ≤ 300)
def fX (l : List Rec) : Bool := decide (l.length ≤ 25) && l.all jI
theorem mM {α : Type} {p : α → Bool} {l : List α} {k : Nat} (h : k < l.length) (hp : p l[k] = false) : l.all p = false := by
 rw [List.all_eq_false]
 exact ⟨l[k], List.getElem_mem h, by simp [hp]⟩
theorem kN {α : Type} {p : α → Bool} {l : List α} {k : Nat} (h : k < l.length) (ha : (l.take k).all p = true) (hp : p l[k] = true) : (l.take (k + 1)).all p = true := by
 rw [List.take_add_one, List.getElem?_eq_getElem h, List.all_append, ha]
 simp [hp]
set_option maxHeartbeats 1000000 in
theorem t7 (v : Value) (l : List Rec) (w : World) (hv : Sl 4 w v (aT l)) : Calls Tryz.prog 25 #[v] w (bO w (.bool (fX l))) := by
 have hl := bA l
 have hle := hv.le
 go_enter Tryz.func25, Tryz.ntmps25
 (repeat' first | ((with_reducible refine aJ ?_); go_step) | ((with_reducible refine aI ?_); first | refine bM ?_ | (refine aL ?_ ?_ <;> intro hc)) | fail)
 ·have hne := ‹25 < ((aT l).length : Int)›
  go_ret
  refine ⟨?_, Ext.refl _⟩
  have : decide (l.length ≤ 25) = false := decide_eq_false (by omega)
  simp [fX, this]
 ·have h25 : decide (l.length ≤ 25) = true := decide_eq_true (by omega)
  go_loopw [3] (fun i wr => ∃ k : Nat, k ≤ l.length ∧ i = .int .i64 k ∧ Ext w wr ∧ (l.take k).all jI = true) (fun i _ => l.length - (intOf i).toNat)
  case atStart => exact ⟨0, Nat.zero_le _, rfl, Ext.refl _, rfl⟩
  case round =>
   obtain ⟨k, hk, rfl, hx, hall⟩ := hrel
   have hv2 := hv.ext hx
   by_cases hlt : k < l.length
   ·have h1 := hv2.elem (gN hlt)
    (repeat' first | ((with_reducible refine aJ ?_); go_step) | ((with_reducible refine aI ?_); first | refine bM ?_ | (refine aL ?_ ?_ <;> intro hc)) | fail)
    ·go_ret
     refine ⟨?_, by exact eH⟩
     have : jI l[k] = false := by have : decide (l[k].data.length ≤ 300) = false := decide_eq_false (by omega)
                                  simp [jI, this]
     simp [fX, mM hlt this]
    ·have ha : jI l[k] = true := by
      have e1 : decide (l[k].data.length ≤ 300) = true := decide_eq_true (by omega)
      have e2 : decide (l[k].name.length ≤ 300) = true := decide_eq_true (by omega)
      rw [jI, e1, e2]; rfl
     exact ⟨⟨k + 1, by omega, rfl, by exact eH, kN hlt hall ha⟩, by simp [intOf]; omega⟩
    ·go_ret
     refine ⟨?_, by exact eH⟩
     have : jI l[k] = false := by have : decide (l[k].name.length ≤ 300) = false := decide_eq_false (by omega)
                                  simp [jI, this]
     simp [fX, mM hlt this]
   ·have hk2 : k = l.length := by omega
    subst hk2
    (repeat' first | ((with_reducible refine aJ ?_); go_step) | ((with_reducible refine aI ?_); first | refine bM ?_ | (refine aL ?_ ?_ <;> intro hc)) | fail)
    go_ret
    refine ⟨?_, by exact eH⟩
    rw [List.take_length] at hall
    rw [fX, h25, hall]
    rfl
def nQ (s : RSet) : Bool := decide (s.data.length ≤ 12) && decide (s.name.length ≤ 300) && s.data.all fun d => decide (d.length ≤ 300)
def pI (l : List RSet) : Bool := decide (l.length ≤ 25) && l.all nQ
set_option maxHeartbeats 2000000 in
theorem SQ (v : Value) (l : List RSet) (w : World) (hv : SetsAt w v l) : Calls Tryz.prog 59 #[v] w (bO w (.bool (pI l))) := by
 obtain ⟨cv, hv1, hvl⟩ := hv.sl
 have hle := hv1.le
 go_enter Tryz.func59, Tryz.ntmps59
 (repeat' first | ((with_reducible refine aJ ?_); go_step) | ((with_reducible refine aI ?_); first | refine bM ?_ | (refine aL ?_ ?_ <;> intro hc)) | fail)
 ·go_ret
  refine ⟨?_, Ext.refl _⟩
  have : decide (l.length ≤ 25) = false := decide_eq_false (by omega)
  simp [pI, this]
 ·have h25 : decide (l.length ≤ 25) = true := decide_eq_true (by omega)
  go_loopw [3, 4] (fun i _ wr => ∃ k : Nat, k ≤ l.length ∧ i = .int .i64 k ∧ Ext w wr ∧ (l.take k).all nQ = true) (fun i _ _ => l.length - (intOf i).toNat)
  case atStart => exact ⟨0, Nat.zero_le _, rfl, Ext.refl _, rfl⟩
  case round =>
   obtain ⟨k, hk, rfl, hx, hall⟩ := hrel
   have hv2 := hv1.ext hx
   by_cases hlt : k < l.length
   ·obtain ⟨x, h1, h1d⟩ := (hv.ext hx).elem (List.getElem?_eq_getElem hlt)
    have hdl := bC l[k].data
    have hdle := h1d.le
    (repeat' first | ((with_reducible refine aJ ?_); go_step) | ((with_reducible refine aI ?_); first | refine bM ?_ | (refine aL ?_ ?_ <;> intro hc)) | fail)
    ·go_ret
     refine ⟨?_, by exact eH⟩
     have : nQ l[k] = false := by
      have : decide (l[k].name.length ≤ 300) = false := decide_eq_false (by omega)
      simp [nQ, this]
     simp [pI, mM hlt this]
    ·have e1 : decide (l[k].data.length ≤ 12) = true := decide_eq_true (by omega)
     have e2 : decide (l[k].name.length ≤ 300) = true := decide_eq_true (by omega)
     go_loopw [4] (fun i wq => ∃ j : Nat, j ≤ l[k].data.length ∧ i = .int .i64 j ∧ Ext wr wq ∧ (l[k].data.take j).all (fun d => decide (d.length ≤ 300)) = true) (fun i _ => l[k].data.length - (intOf i).toNat)
     case atStart => exact ⟨0, Nat.zero_le _, rfl, Ext.refl _, rfl⟩
     case round =>
      obtain ⟨j, hj, rfl, hx2, hall2⟩ := hrel
      have hv3 := hv2.ext hx2
      have h1b := h1.ext hx2
      have h1c := h1d.ext hx2
      by_cases hlt2 : j < l[k].data.length
      ·have h3 := h1c.elem (gM hlt2)
       (repeat' first | ((with_reducible refine aJ ?_); go_step) | ((with_reducible refine aI ?_); first | refine bM ?_ | (refine aL ?_ ?_ <;> intro hc)) | fail)
       ·go_ret
        refine ⟨?_, by exact eH⟩
        have : nQ l[k] = false := by
         have : l[k].data.all (fun d => decide (d.length ≤ 300)) = false := mM hlt2 (decide_eq_false (by omega))
         simp only [nQ, this, Bool.and_false]
        simp [pI, mM hlt this]
       ·exact ⟨⟨j + 1, by omega, rfl, by exact eH, kN hlt2 hall2 (decide_eq_true (by omega))⟩, by simp [intOf]; omega⟩
      ·have hj2 : j = l[k].data.length := by omega
       subst hj2
       (repeat' first | ((with_reducible refine aJ ?_); go_step) | ((with_reducible refine aI ?_); first | refine bM ?_ | (refine aL ?_ ?_ <;> intro hc)) | fail)
       rw [List.take_length] at hall2
       exact ⟨⟨k + 1, by omega, rfl, by exact eH, kN hlt hall (by rw [nQ, e1, e2, hall2]; rfl)⟩, by simp [intOf]; omega⟩
    ·go_ret
     refine ⟨?_, by exact eH⟩
     have : nQ l[k] = false := by
      have : decide (l[k].data.length ≤ 12) = false := decide_eq_false (by omega)
      simp [nQ, this]
     simp [pI, mM hlt this]
   ·have hk2 : k = l.length := by omega
    subst hk2
    (repeat' first | ((with_reducible refine aJ ?_); go_step) | ((with_reducible refine aI ?_); first | refine bM ?_ | (refine aL ?_ ?_ <;> intro hc)) | fail)
    go_ret
    refine ⟨?_, by exact eH⟩
    rw [List.take_length] at hall
    rw [pI, h25, hall]
    rfl
end Go.Proofs.X
set_option linter.unusedSimpArgs false
set_option linter.unusedVariables false
namespace Go.Proofs.X
open Go.RowKit
set_option maxRecDepth 100000
def rN (s : RSet) (i : Nat) : Bool := decide (bI ⟨s.name, s.kind, s.ttl, s.data.getD i []⟩ ≠ 0) || (decide (0 < i) && !Op.bytesLess (s.data.getD (i - 1) []) (s.data.getD i []))
def jU (s : RSet) : Bool := decide (fold s.name = s.name) && decide (1 ≤ s.data.length) && decide (s.data.length ≤ 20) && (List.range s.data.length).all fun i => !rN s i
theorem zX {s : RSet} {i : Nat} (hi : i < s.data.length) (h : rN s i = true) : jU s = false := by
 have : (List.range s.data.length).all (fun i => !rN s i) = false := by
  rw [List.all_eq_false]
  exact ⟨i, by simpa using hi, by simp [h]⟩
 simp [jU, this]
set_option maxHeartbeats 2400000 in
theorem ST (s : RSet) (v : Value) (w : World) (hv : Sl 1 w v (aS s.data)) : Calls Tryz.prog 161 #[.agg #[aH s.name, .int .i64 s.kind, .int .i64 s.ttl, v]] w (bO w (.bool (jU s))) := by
 have hlen := bC s.data
 go_enter Tryz.func161, Tryz.ntmps161
 refine_lift yA fun _ _ => ?_
 refine bR (vs := [aH s.name, .int .i64 s.kind, .int .i64 s.ttl, v]) rfl rfl ?_
 intro p w1 x1 hp
 refine aA ?_
 refine_lift zQ fun _ _ _ _ => ?_
 refine dB (S := Ext w1) (by decide +kernel) ?_
 intro w2 x2 _
 refine tk 0 ?_; refine aA ?_; refine tk 1 ?_; refine aA ?_; refine tk 3 ?_; refine aA ?_; refine tk 4 ?_; refine aA ?_
 refine dO (i := 2) (by decide +kernel) rfl rfl ?_
 refine aE (enters_of Tryz.func32 rfl rfl) rfl rfl (GP _ _) ?_; intro w3 x3; refine aA ?_
 refine aK ⟨by exact eH, ?_⟩
 refine tk 5 ?_; refine aA ?_
 by_cases hf : fold s.name = s.name
 ·have e1 : (decide (fold s.name = s.name)) = true := by simpa using hf
  simp only [e1, Bool.not_true]
  refine tk 6 ?_; refine aA ?_; refine tk 7 ?_; refine aA ?_; refine tk 8 ?_; refine aA ?_; refine tk 9 ?_; refine aA ?_; refine tk 10 ?_; refine aA ?_
  by_cases h1 : s.data.length < 1
  ·have e2 : decide (((aS s.data).length : Int) < 1) = true := decide_eq_true (by omega)
   simp only [e2]
   refine tk 11 ?_; refine aA ?_; refine tk 12 ?_; refine aA ?_
   refine fG 13 ?_; refine aA ?_
   refine fG 14 ?_; refine aA ?_
   refine fG 15 ?_; refine aA ?_
   refine fG 16 ?_; refine aA ?_
   refine tk 17 ?_; refine aA ?_
   refine cW (by decide +kernel) ?_
   refine_lift dE ?_
   go_ret
   refine ⟨?_, by exact eH⟩
   have : decide (1 ≤ s.data.length) = false := decide_eq_false (by omega)
   simp [jU, this]
  ·have e2 : decide (((aS s.data).length : Int) < 1) = false := decide_eq_false (by omega)
   simp only [e2]
   refine tk 11 ?_; refine aA ?_; refine tk 12 ?_; refine aA ?_; refine tk 13 ?_; refine aA ?_; refine tk 14 ?_; refine aA ?_; refine tk 15 ?_; refine aA ?_; refine tk 16 ?_; refine aA ?_; refine tk 17 ?_; refine aA ?_
   refine cW (by decide +kernel) ?_
   by_cases h2 : 20 < s.data.length
   ·have e3 : decide ((20 : Int) < ((aS s.data).length : Int)) = true := decide_eq_true (by omega)
    simp only [e3]
    refine_lift dE ?_
    go_ret
    refine ⟨?_, by exact eH⟩
    have : decide (s.data.length ≤ 20) = false := decide_eq_false (by omega)
    simp [jU, this]
   ·have e3 : decide ((20 : Int) < ((aS s.data).length : Int)) = false := decide_eq_false (by omega)
    simp only [e3]
    refine_lift fD fun _ _ => ?_
    have hxx : Ext w w3 := by exact eH
    go_loopw [3, 4, 26] (fun _ _ i wr => ∃ k : Nat, k ≤ s.data.length ∧ i = .int .i64 k ∧ Ext w3 wr ∧ ∀ j, j < k → rN s j = false) (fun _ _ i _ => s.data.length - (intOf i).toNat)
    case atStart => exact ⟨0, Nat.zero_le _, rfl, Ext.refl _, by omega⟩
    case round =>
     obtain ⟨k, hk, rfl, hx, hall⟩ := hrel
     by_cases hlt : k < s.data.length
     ·have hvr : Sl 1 wr v (aS s.data) := hv.ext (hxx.trans hx)
      have he : (aS s.data)[k]? = some [aH s.data[k]] := by simp [aS, hlt]
      have hpe := hvr.elem he
      have hpr : Pts wr p _ := hp.ext ((x2.trans x3).trans hx)
      have hbad : rN s k = (decide (bI ⟨s.name, s.kind, s.ttl, s.data[k]⟩ ≠ 0) || (decide (0 < k) && !Op.bytesLess (s.data.getD (k - 1) []) s.data[k])) := by
       have : s.data.getD k [] = s.data[k] := by simp [hlt]
       rw [rN, this]
      refine_lift EQ ?_; intro _ _ _ _ _ _
      refine aE (enters_of Tryz.func172 rfl rfl) rfl rfl (RS _ _ _ _) ?_; intro w7 x7; refine aA ?_
      refine_lift dE ?_
      refine aE (enters_of Tryz.func100 rfl rfl) rfl rfl (PJ ⟨s.name, s.kind, s.ttl, s.data[k]⟩ _) ?_; intro w8 x8; refine aA ?_
      by_cases hc : bI ⟨s.name, s.kind, s.ttl, s.data[k]⟩ = 0
      ·have e4 : decide (bI ⟨s.name, s.kind, s.ttl, s.data[k]⟩ = 0) = true := decide_eq_true hc
       generalize bI ⟨s.name, s.kind, s.ttl, s.data[k]⟩ = cr at hc e4 hbad ⊢
       ((with_reducible refine aI ?_); (first | (refine hV ?_; refine BX ?_) | (refine lY ?_; refine nP ?_; (with_reducible refine aI ?_); refine hV ?_; refine BX ?_)))
       simp only [e4, Bool.not_true]
       refine_lift zP (fun hc => ?_) (fun hc => ?_)
       ·have hpp : Pts wr (cZ v (((k : Int) - 1).toNat * 1)) [aH (s.data.getD (k - 1) [])] := by
         have e : ((k : Int) - 1).toNat = k - 1 := by omega
         rw [e]
         refine hvr.elem ?_
         have : k - 1 < s.data.length := by omega
         simp [aS, this]
        refine_lift zP (fun _ => ?_) (fun _ => ?_)
        ·have hl := ‹(!Op.bytesLess (s.data.getD (k - 1) []) s.data[k]) = true›
         go_ret
         refine ⟨?_, by exact eH⟩
         rw [zX hlt (by rw [hbad, hl]; have : 0 < k := by omega
                        simp [this])]
         rfl
        ·have hl := ‹(!Op.bytesLess (s.data.getD (k - 1) []) s.data[k]) = false›
         exact ⟨⟨k + 1, by omega, rfl, by exact eH, fun j hj => by
          rcases Nat.lt_or_ge j k with h | h
          ·exact hall j h
          ·have : j = k := by omega
           subst this
           rw [hbad, hl]; simp [‹cr = 0›]⟩, by simp [intOf]; omega⟩
       ·exact ⟨⟨k + 1, by omega, rfl, by exact eH, fun j hj => by
         rcases Nat.lt_or_ge j k with h | h
         ·exact hall j h
         ·have : j = k := by omega
          subst this
          have : ¬ (0 < j) := by omega
          rw [hbad]; simp [‹cr = 0›, this]⟩, by simp [intOf]; omega⟩
      ·have e4 : decide (bI ⟨s.name, s.kind, s.ttl, s.data[k]⟩ = 0) = false := decide_eq_false hc
       generalize bI ⟨s.name, s.kind, s.ttl, s.data[k]⟩ = cr at hc e4 hbad ⊢
       ((with_reducible refine aI ?_); (first | (refine hV ?_; refine BX ?_) | (refine lY ?_; refine nP ?_; (with_reducible refine aI ?_); refine hV ?_; refine BX ?_)))
       simp only [e4, Bool.not_false]
       refine_lift dE ?_
       go_ret
       refine ⟨?_, by exact eH⟩
       rw [zX hlt (by rw [hbad]; simp [hc])]
       rfl
     ·have : k = s.data.length := by omega
      subst this
      refine_lift sM fun _ => ?_
      go_ret
      refine ⟨?_, by exact eH⟩
      have h20 : decide (s.data.length ≤ 20) = true := decide_eq_true (by omega)
      have h10 : decide (1 ≤ s.data.length) = true := decide_eq_true (by omega)
      have hal : (List.range s.data.length).all (fun i => !rN s i) = true := by
       rw [List.all_eq_true]
       intro i hi
       simp [hall i (by simpa using hi)]
      have : jU s = true := by rw [jU, hal, h20, h10, e1]; rfl
      rw [this]
      rfl
 ·have e1 : (decide (fold s.name = s.name)) = false := by simpa using hf
  simp only [e1, Bool.not_false]
  refine tk 6 ?_; refine aA ?_
  refine fG 7 ?_; refine aA ?_
  refine fG 8 ?_; refine aA ?_
  refine fG 9 ?_; refine aA ?_
  refine fG 10 ?_; refine aA ?_
  refine tk 11 ?_; refine aA ?_; refine tk 12 ?_; refine aA ?_
  refine fG 13 ?_; refine aA ?_
  refine fG 14 ?_; refine aA ?_
  refine fG 15 ?_; refine aA ?_
  refine fG 16 ?_; refine aA ?_
  refine tk 17 ?_; refine aA ?_
  refine cW (by decide +kernel) ?_
  refine_lift dE ?_
  go_ret
  refine ⟨?_, by exact eH⟩
  simp [jU, hf]
set_option maxHeartbeats 6000000 in
theorem SU (v : Value) (l : List (List UInt8)) (w : World) (hv : Sl 1 w v (aS l)) (hl : l.length ≤ 8796093022208) : Calls Tryz.prog 162 #[v] w (oT w fun v' w' => Own w.heap.size 1 9 w' v' (aS l)) := by
 have hlen := bC l
 go_enter Tryz.func162, Tryz.ntmps162
 (repeat' first | ((with_reducible refine aJ ?_); go_step) | ((with_reducible refine aI ?_); first | refine bM ?_ | (refine aL ?_ ?_ <;> intro hc)) | fail)
 ·have hn := ‹zI v = true›
  go_ret
  have : aS l = [] := hv.isNil hn
  refine ⟨_, rfl, Ext.refl _, ?_⟩
  rw [this]
  exact Own.nil _ _ _ _
 ·refine nY (t := 93) (e := 9) (k := 1) (bytes := 16) (by decide +kernel) rfl ?_
  intro v2 w2 x2 s2 o2
  refine aA ?_
  refine_lift dE ?_
  refine iT (B := w.heap.size) (e := 9) (k := 1) (bytes := 16) (es := []) (fs := aS l) rfl o2 rfl (hv.ext x2) (by decide +kernel) (by simp [aS, aH, Value.oneCell']) (by omega) (by simp; omega) (by simp; omega) ?_
  intro v3 w3 o3 m3
  have x3 := o2.mvx m3 x2 (Nat.le_refl _)
  refine_lift dE ?_
  go_ret
  exact ⟨_, rfl, x3, o3⟩
def jV (l : List RSet) (i : Nat) : Bool := match l[i]? with
 | none => false
 | some s => !jU s || (decide (0 < i) && decide (0 ≤ dL (l.getD (i - 1) default).name s.name (l.getD (i - 1) default).kind s.kind))
def dI (l : List RSet) : Int := if 200 < l.length then 1 else if (List.range l.length).all (fun i => !jV l i) = true then 0 else 1
theorem tR {l : List RSet} {i : Nat} (hi : i < l.length) (h : jV l i = true) : dI l = 1 := by
 have : (List.range l.length).all (fun i => !jV l i) = false := by
  rw [List.all_eq_false]
  exact ⟨i, by simpa using hi, by simp [h]⟩
 rw [dI, this]
 split <;> rfl
set_option maxHeartbeats 12000000 in
theorem SV (v : Value) (l : List RSet) (w : World) (hv : SetsAt w v l) : Calls Tryz.prog 111 #[v] w (bO w (.int .i64 (dI l))) := by
 obtain ⟨cv, hv1, hvl⟩ := hv.sl
 have hle := hv1.le
 go_enter Tryz.func111, Tryz.ntmps111
 refine_lift EP (fun _ _ _ => ?_) (fun _ => ?_)
 ·go_ret
  refine ⟨?_, Ext.refl _⟩
  rw [dI, if_pos (by omega)]
  rfl
 ·go_loopw [3, 4, 10] (fun _ _ i wr => ∃ k : Nat, k ≤ l.length ∧ i = .int .i64 k ∧ Ext w wr ∧ ∀ j, j < k → jV l j = false) (fun _ _ i _ => l.length - (intOf i).toNat)
  case atStart => exact ⟨0, Nat.zero_le _, rfl, Ext.refl _, by omega⟩
  case round =>
   obtain ⟨k, hk, rfl, hx, hall⟩ := hrel
   have hv2 := hv1.ext hx
   by_cases hlt : k < l.length
   ·obtain ⟨x, h1, h1d⟩ := (hv.ext hx).elem (List.getElem?_eq_getElem hlt)
    have hbad : jV l k = (!jU l[k] || (decide (0 < k) && decide (0 ≤ dL (l.getD (k - 1) default).name l[k].name (l.getD (k - 1) default).kind l[k].kind))) := by
     rw [jV, List.getElem?_eq_getElem hlt]
    refine_lift EQ ?_; intro _ _ _ _ _ _
    refine aP (z := [aH [], .int .i64 0, .int .i64 0, .slice none 0 0]) rfl (by decide +kernel) ?_
    intro w2 x2 s2 h2
    refine_lift dE ?_
    refine aG (v := .agg #[aH l[k].name, .int .i64 l[k].kind, .int .i64 l[k].ttl, x]) rfl rfl rfl h2 (show aX Tryz.prog 131 4 = true by decide +kernel) rfl ?_ ?_
    ·exact iI rfl rfl rfl h1d.one
    intro w3 p3
    have x3 : Ext wr w3 := x2.move p3.mv (by rintro k ⟨⟩; exact Nat.le_refl _)
    have hp4 := aD (cs := [aH l[k].name, .int .i64 l[k].kind, .int .i64 l[k].ttl, x]) p3.this
    clear p3 h2 x2
    refine_lift fD fun _ _ => ?_
    refine dB (S := Ext w3) (by decide +kernel) ?_
    intro w4 x4 _
    refine tk 0 ?_; refine aA ?_
    refine dO (i := 1) (by decide +kernel) rfl rfl ?_
    refine aE (enters_of Tryz.func161 rfl rfl) rfl rfl (ST l[k] _ _ (h1d.ext (x3.trans x4))) ?_; intro w5 x5; refine aA ?_
    refine aK ⟨by exact eH, ?_⟩
    cases hm : jU l[k] with
    | false =>
     rw [hm] at hbad
     refine tk 2 ?_; refine aA ?_
     try simp only [Bool.not_false]
     refine tk 3 ?_; refine aA ?_
     refine fG 4 ?_; refine aA ?_; refine fG 5 ?_; refine aA ?_; refine fG 6 ?_; refine aA ?_; refine fG 7 ?_; refine aA ?_; refine fG 8 ?_; refine aA ?_; refine fG 9 ?_; refine aA ?_; refine fG 10 ?_; refine aA ?_; refine fG 11 ?_; refine aA ?_; refine fG 12 ?_; refine aA ?_; refine fG 13 ?_; refine aA ?_; refine fG 14 ?_; refine aA ?_; refine fG 15 ?_; refine aA ?_
     refine tk 16 ?_; refine aA ?_
     refine cW (by decide +kernel) ?_
     refine_lift dE ?_
     go_ret
     refine ⟨?_, by exact eH⟩
     rw [tR hlt (by rw [hbad]; rfl)]
     rfl
    | true =>
     rw [hm] at hbad
     refine tk 2 ?_; refine aA ?_
     try simp only [Bool.not_true]
     refine tk 3 ?_; refine aA ?_; refine tk 4 ?_; refine aA ?_; refine tk 5 ?_; refine aA ?_
     by_cases hk0 : 0 < k
     ·have e5 : decide ((0 : Int) < (k : Int)) = true := decide_eq_true (by omega)
      have e6 : decide (0 < k) = true := decide_eq_true hk0
      simp only [e5]
      rw [e6] at hbad
      have hkl : k - 1 < l.length := by omega
      have hgd : l.getD (k - 1) default = l[k - 1] := by simp [hkl]
      obtain ⟨y, h9', h9d⟩ := (hv.ext hx).elem (List.getElem?_eq_getElem hkl)
      have e9 : ((k : Int) - 1).toNat = k - 1 := by omega
      have h9 : Pts wr (cZ v (((k : Int) - 1).toNat * 4)) [aH l[k - 1].name, .int .i64 l[k - 1].kind, .int .i64 l[k - 1].ttl, y] := by rw [e9]; exact h9'
      rw [hgd] at hbad
      refine tk 6 ?_; refine aA ?_; refine tk 7 ?_; refine aA ?_; refine tk 8 ?_; refine aA ?_; refine tk 9 ?_; refine aA ?_; refine tk 10 ?_; refine aA ?_; refine tk 11 ?_; refine aA ?_; refine tk 12 ?_; refine aA ?_
      refine dO (i := 13) (by decide +kernel) rfl rfl ?_
      refine aE (enters_of Tryz.func110 rfl rfl) rfl rfl (RT _ _ _ _ _ _ _ _ _) ?_; intro w6 x6; refine aA ?_
      refine aK ⟨by exact eH, ?_⟩
      refine tk 14 ?_; refine aA ?_; refine tk 15 ?_; refine aA ?_; refine tk 16 ?_; refine aA ?_
      refine cW (by decide +kernel) ?_
      by_cases hc : 0 ≤ dL l[k - 1].name l[k].name l[k - 1].kind l[k].kind
      ·have e7 : decide (0 ≤ dL l[k - 1].name l[k].name l[k - 1].kind l[k].kind) = true := decide_eq_true hc
       simp only [e7]
       refine_lift dE ?_
       go_ret
       refine ⟨?_, by exact eH⟩
       rw [tR hlt (by rw [hbad, e7]; rfl)]
       rfl
      ·have e7 : decide (0 ≤ dL l[k - 1].name l[k].name l[k - 1].kind l[k].kind) = false := decide_eq_false hc
       simp only [e7]
       refine_lift dE ?_
       exact ⟨⟨k + 1, by omega, rfl, by exact eH, fun j hj => by
        rcases Nat.lt_or_ge j k with h | h
        ·exact hall j h
        ·have : j = k := by omega
         subst this
         rw [hbad, e7]; rfl⟩, by simp [intOf]; omega⟩
     ·have e5 : decide ((0 : Int) < (k : Int)) = false := decide_eq_false (by omega)
      have e6 : decide (0 < k) = false := decide_eq_false hk0
      simp only [e5]
      rw [e6] at hbad
      refine tk 6 ?_; refine aA ?_
      refine fG 7 ?_; refine aA ?_; refine fG 8 ?_; refine aA ?_; refine fG 9 ?_; refine aA ?_; refine fG 10 ?_; refine aA ?_; refine fG 11 ?_; refine aA ?_; refine fG 12 ?_; refine aA ?_; refine fG 13 ?_; refine aA ?_; refine fG 14 ?_; refine aA ?_
      refine tk 15 ?_; refine aA ?_; refine tk 16 ?_; refine aA ?_
      refine cW (by decide +kernel) ?_
      refine_lift dE ?_
      exact ⟨⟨k + 1, by omega, rfl, by exact eH, fun j hj => by
       rcases Nat.lt_or_ge j k with h | h
       ·exact hall j h
       ·have : j = k := by omega
        subst this
        rw [hbad]; rfl⟩, by simp [intOf]; omega⟩
   ·have hk2 : k = l.length := by omega
    subst hk2
    refine_lift sM fun _ => ?_
    go_ret
    refine ⟨?_, by exact eH⟩
    have : (List.range l.length).all (fun i => !jV l i) = true := by
     rw [List.all_eq_true]
     intro i hi
     simp [hall i (by simpa using hi)]
    rw [dI, this, if_neg (by omega)]
    rfl
def LJ (n : List UInt8) (k : Int) (s : RSet) : Bool := decide (s.name = n) && decide (s.kind = k)
def cB (l : List RSet) (n : List UInt8) (k : Int) : Option RSet := l.find? (LJ (fold n) k)
def mN : List Value := [aH [], .int .i64 0, .int .i64 0, .slice none 0 0]
theorem wL {α : Type} {p : α → Bool} {l : List α} {k : Nat} (h : k < l.length) (ha : (l.take k).find? p = none) (hp : p l[k] = false) : (l.take (k + 1)).find? p = none := by
 rw [List.take_add_one, List.getElem?_eq_getElem h, List.find?_append, ha]
 simp [hp]
theorem DJ {α : Type} {p : α → Bool} {l : List α} {k : Nat} (h : k < l.length) (ha : (l.take k).find? p = none) (hp : p l[k] = true) : l.find? p = some l[k] := by
 have e : l = l.take k ++ (l[k] :: l.drop (k + 1)) := by rw [← List.drop_eq_getElem_cons h, List.take_append_drop]
 have : l.find? p = (l.take k ++ (l[k] :: l.drop (k + 1))).find? p := congrArg _ e
 rw [this, List.find?_append, ha, List.find?_cons, hp]
 rfl
set_option maxHeartbeats 12000000 in
theorem NU (v : Value) (l : List RSet) (n : List UInt8) (kd : Int) (w : World) (hv : SetsAt w v l) (hb : ∀ s ∈ l, s.data.length ≤ 8796093022208) : Calls Tryz.prog 112 #[v, aH n, .int .i64 kd] w (oT w fun r w' => match cB l n kd with
 | some s => ∃ x, r = .tuple #[.agg #[aH s.name, .int .i64 s.kind, .int .i64 s.ttl, x], .bool true] ∧ Own w.heap.size 1 9 w' x (aS s.data)
 | none => r = .tuple #[.agg mN.toArray, .bool false]) := by
 obtain ⟨cv, hv1, hvl⟩ := hv.sl
 have hle := hv1.le
 go_enter Tryz.func112, Tryz.ntmps112
 refine_lift NR ?_; intro _ _ _
 refine aP (z := mN) rfl (by decide +kernel) ?_
 intro w1 x1 s1 h1
 refine_lift fD fun _ _ => ?_
 refine aE (enters_of Tryz.func32 rfl rfl) rfl rfl (GP _ _) ?_; intro w2 x2; refine aA ?_
 have h2 := x2.at h1
 have x12 : Ext w w2 := x1.trans x2
 refine_lift fD fun _ _ => ?_
 have hv2 := hv1.ext x12
 refine_lift dE ?_
 go_loopw [9, 14] (fun _ i wr => ∃ k : Nat, k ≤ l.length ∧ i = .int .i64 k ∧ Ext w2 wr ∧ (l.take k).find? (LJ (fold n) kd) = none) (fun _ i _ => l.length - (intOf i).toNat)
 case atStart => exact ⟨0, Nat.zero_le _, rfl, Ext.refl _, rfl⟩
 case round =>
  obtain ⟨k, hk, rfl, hx, hall⟩ := hrel
  have hxw : Ext w wr := x12.trans hx
  have hv2 := hv1.ext hxw
  have h3 := hx.at h2
  by_cases hlt : k < l.length
  ·obtain ⟨x, h4, h4d⟩ := (hv.ext hxw).elem (List.getElem?_eq_getElem hlt)
   have hbk := hb _ (List.getElem_mem hlt)
   refine_lift EQ ?_; intro _ _ _ _ _ _
   refine aP (z := mN) rfl (by decide +kernel) ?_
   intro w5 x5 s5 h5
   refine_lift dE ?_
   refine aG (v := .agg #[aH l[k].name, .int .i64 l[k].kind, .int .i64 l[k].ttl, x]) rfl rfl rfl h5 (show aX Tryz.prog 131 4 = true by decide +kernel) rfl (iI rfl rfl rfl h4d.one) ?_
   intro w6 p6
   have x6 : Ext wr w6 := x5.move p6.mv (by rintro k ⟨⟩; exact Nat.le_refl _)
   have b6 := p6.this
   have hp6 := aD (cs := [aH l[k].name, .int .i64 l[k].kind, .int .i64 l[k].ttl, x]) b6
   have z6 : w6.heap.size = wr.heap.size + 1 := p6.size.trans s5
   clear p6 h5 x5
   refine_lift LG (fun hc _ => ?_) (fun hc => ?_) (fun hc _ _ _ => ?_)
   ·have hh : cB l n kd = some l[k] := DJ hlt hall (by have h1 := ‹l[k].name = fold n›; have h2 := ‹l[k].kind = kd›; simp [LJ, h1, h2])
    refine aR (enters_of Tryz.func162 rfl rfl) rfl rfl (SU x l[k].data _ (h4d.ext x6) hbk) ?_
    intro y w7 x7 o7
    refine aA ?_
    refine_lift dE ?_
    have b7 := x7.at b6
    refine aO (cs := [aH l[k].name, .int .i64 l[k].kind, .int .i64 l[k].ttl, x]) b7 rfl rfl rfl (by simp) (by decide +kernel) o7.one ?_
    intro w8 p8
    have x68 : Ext wr w8 := (x6.trans x7).move p8.mv (by rintro k ⟨⟩; exact Nat.le_refl _)
    have hp8 := aD (cs := [aH l[k].name, .int .i64 l[k].kind, .int .i64 l[k].ttl, y]) p8.this
    have h8 := x68.at h3
    have o8 : Own (w.heap.size + 1) 1 9 w8 y (aS l[k].data) := (o7.put p8 (by omega)).weaken (by have := hx.size; have := x2.size; omega)
    clear hp6 b6 b7 p8
    refine_lift fD fun _ _ => ?_
    refine aG (v := .agg #[aH l[k].name, .int .i64 l[k].kind, .int .i64 l[k].ttl, y]) rfl rfl rfl h8 (show aX Tryz.prog 131 4 = true by decide +kernel) rfl (iI rfl rfl rfl o7.one) ?_
    intro w9 p9
    have x9 : Ext w w9 := (hxw.trans x68).move p9.mv (by rintro k ⟨⟩; exact Nat.le_refl _)
    have o9 : Own (w.heap.size + 1) 1 9 w9 y (aS l[k].data) := o8.put p9 (by omega)
    refine_lift dE ?_
    refine bodyPost_ret (bH (cs := [aH l[k].name, .int .i64 l[k].kind, .int .i64 l[k].ttl, y]) rfl rfl p9.this (show dS Tryz.prog 131 4 = true by decide +kernel)) rfl ⟨_, rfl, x9, ?_⟩
    rw [hh]
    exact ⟨y, rfl, o9.weaken (by omega)⟩
   ·exact ⟨⟨k + 1, by omega, rfl, by exact eH, wL hlt hall (by have h2 := ‹¬l[k].kind = kd›; simp [LJ, h2])⟩, by simp [intOf]; omega⟩
   ·exact ⟨⟨k + 1, by omega, rfl, by exact eH, wL hlt hall (by have h2 := ‹¬l[k].name = fold n›; simp [LJ, h2])⟩, by simp [intOf]; omega⟩
  ·have hk2 : k = l.length := by omega
   subst hk2
   rw [List.take_length] at hall
   refine_lift JS fun _ _ _ => ?_
   refine cO rfl (Runs.build0 (cells := mN.toArray) (by kernel_rfl)) ?_
   refine aA ?_
   refine aG (v := .agg mN.toArray) rfl rfl rfl h3 (show aX Tryz.prog 131 4 = true by decide +kernel) rfl (iI rfl rfl rfl rfl) ?_
   intro w4 p4
   have x4 : Ext w w4 := hxw.move p4.mv (by rintro k ⟨⟩; exact Nat.le_refl _)
   refine_lift dE ?_
   refine bodyPost_ret (bH (cs := mN) rfl rfl p4.this (by decide +kernel)) rfl ⟨_, rfl, x4, ?_⟩
   have hh : cB l n kd = none := hall
   rw [hh]
   rfl
def pJ (s : RSet) (d : List UInt8) : Rec := ⟨s.name, s.kind, s.ttl, d⟩
def dM (s : RSet) : List Rec := s.data.map (pJ s)
def bD (l : List RSet) : List Rec := (l.map dM).flatten
theorem fM {α β : Type} {f : α → β} {l : List α} {k : Nat} (h : k < l.length) : (l.take (k + 1)).map f = (l.take k).map f ++ [f l[k]] := by
 rw [List.take_add_one, List.getElem?_eq_getElem h, List.map_append]
 simp
theorem yD {α : Type} (L : List (List α)) (k : Nat) : (L.take k).flatten.length ≤ L.flatten.length := by
 conv => rhs; rw [← List.take_append_drop k L, List.flatten_append]
 simp
def lU (l : List RSet) (k : Nat) : List Rec := ((l.take k).map dM).flatten
theorem tS {l : List RSet} {k : Nat} (h : k < l.length) : lU l (k + 1) = lU l k ++ dM l[k] := by
 rw [lU, fM h, List.flatten_append]
 simp [lU]
theorem HA (l : List RSet) (k : Nat) : (lU l k).length ≤ (bD l).length := by
 rw [lU, bD, List.map_take]
 exact yD _ _
theorem EU (l : List RSet) : lU l l.length = bD l := by rw [lU, List.take_length, bD]
set_option maxHeartbeats 12000000 in
theorem OI (v : Value) (l : List RSet) (w : World) (hv : SetsAt w v l) (hb : (bD l).length ≤ 1000000) : Calls Tryz.prog 119 #[v] w (oT w fun r w' => Own w.heap.size 4 106 w' r (aT (bD l))) := by
 obtain ⟨cv, hv1, hvl⟩ := hv.sl
 have hle := hv1.le
 go_enter Tryz.func119, Tryz.ntmps119
 refine_lift JS ?_; intro _ _ _
 go_loopw [3, 5, 7, 10, 17] (fun o _ _ i _ wr => ∃ k : Nat, k ≤ l.length ∧ i = .int .i64 k ∧ Ext w wr ∧ Own w.heap.size 4 106 wr o (aT (lU l k))) (fun _ _ _ i _ _ => l.length - (intOf i).toNat)
 case atStart => exact ⟨0, Nat.zero_le _, rfl, Ext.refl _, Own.nil _ _ _ _⟩
 case round =>
  obtain ⟨k, hk, rfl, hx, ho⟩ := hrel
  have hv2 := hv1.ext hx
  by_cases hlt : k < l.length
  ·obtain ⟨x, h4, h4d⟩ := hv.elem (List.getElem?_eq_getElem hlt)
   have hdl := bC l[k].data
   have hdle := h4d.le
   have hlo := hx.size
   refine_lift EQ ?_; intro _ _ _ _ _ _
   refine aP (z := mN) rfl (by decide +kernel) ?_
   intro w5 x5 s5 h5
   refine_lift dE ?_
   refine aG (v := .agg #[aH l[k].name, .int .i64 l[k].kind, .int .i64 l[k].ttl, x]) rfl rfl rfl h5 (show aX Tryz.prog 131 4 = true by decide +kernel) rfl (iI rfl rfl rfl h4d.one) ?_
   intro w6 p6
   have x6 : Ext wr w6 := x5.move p6.mv (by rintro k ⟨⟩; exact Nat.le_refl _)
   have b6 : w6.heap[wr.heap.size]? = some (.cells [aH l[k].name, .int .i64 l[k].kind, .int .i64 l[k].ttl, x].toArray 131 (0, 0)) := p6.this
   have z6 : wr.heap.size < w6.heap.size := by have := p6.size; omega
   have o6 := ho.ext x6
   have xw6 := hx.trans x6
   have hne6 : u3.ownBlock ≠ some wr.heap.size := fun e => by have := ho.block _ e; omega
   clear p6 h5 x5 s5
   have hp6 := aD b6
   refine_lift dE ?_
   clear hp6
   generalize wr.heap.size = b at b6 z6 hne6 hlo ⊢
   go_loopw [3, 7, 17] (fun o _ i wq => ∃ j : Nat, j ≤ l[k].data.length ∧ i = .int .i64 j ∧ Ext w wq ∧ b < wq.heap.size ∧ wq.heap[b]? = some (.cells [aH l[k].name, .int .i64 l[k].kind, .int .i64 l[k].ttl, x].toArray 131 (0, 0)) ∧ o.ownBlock ≠ some b ∧ Own w.heap.size 4 106 wq o (aT (lU l k ++ (l[k].data.take j).map (pJ l[k])))) (fun _ _ i _ => l[k].data.length - (intOf i).toNat)
   case atStart => exact ⟨0, Nat.zero_le _, rfl, xw6, z6, b6, hne6, by simpa using o6⟩
   case round =>
    obtain ⟨j, hj, rfl, hxq, hz, hbq, hne, hoq⟩ := hrel
    have hpq := aD hbq
    by_cases hlt2 : j < l[k].data.length
    ·have h3 := h4d.elem (gM hlt2)
     have hle1 := HA l (k + 1)
     rw [tS hlt, List.length_append] at hle1
     have hle2 : (dM l[k]).length = l[k].data.length := by simp [dM]
     have hcl : (aT (lU l k ++ (l[k].data.take j).map (pJ l[k]))).length = (lU l k).length + j := by simp [aT]; omega
     refine_lift zQ ?_; intro _ _ _ _
     refine aE (enters_of Tryz.func172 rfl rfl) rfl rfl (RS l[k] x l[k].data[j] _) ?_; intro w7 x7; refine aA ?_
     refine_lift dE ?_
     refine bK (e := 106) (k := 4) (bytes := 48) (xs := [.agg #[aH l[k].name, .int .i64 l[k].kind, .int .i64 l[k].ttl, aH l[k].data[j]]]) rfl rfl rfl (by simp [Value.cells]) (by decide +kernel) (by simp) ?_
     intro v8 w8 x8 s8 sl8 _
     refine aA ?_
     refine_lift dE ?_
     refine eW (B := w.heap.size) (e := 106) (k := 4) (bytes := 48) rfl (hoq.ext (x7.trans x8)) rfl sl8 (by decide +kernel) (by simp [Value.cells, aH, Value.oneCell']) (by have := hxq.size; have := x7.size; omega) (by rw [hcl]; simp; omega) (by rw [hcl]; simp; omega) ?_
     intro v9 w9 o9 m9 k9
     have hb8 := (x7.trans x8).at hbq
     have hb9 := m9.at hb8 (fun e => hne e.symm)
     have x9 : Ext w w9 := (hoq.ext (x7.trans x8)).mvx m9 (hxq.trans (x7.trans x8)) (Nat.le_refl _)
     refine_lift dE ?_
     refine ⟨⟨j + 1, by omega, rfl, x9, ?_, hb9, ?_, ?_⟩, by simp [intOf]; omega⟩
     ·have := x7.size; have := x8.size; have := m9.size; omega
     ·rcases k9 with h | h
      ·rw [h]; exact hne
      ·rw [h]; intro e; have := Option.some.inj e; have := x7.size; omega
     ·rw [fM hlt2, ← List.append_assoc]
      simpa [aT, pJ, Rec.cells, Value.cells] using o9
    ·have hj2 : j = l[k].data.length := by omega
     subst hj2
     refine_lift sM fun _ => ?_
     exact ⟨⟨k + 1, by omega, rfl, hxq, by rw [tS hlt]; rw [List.take_length] at hoq; exact hoq⟩, by simp [intOf]; omega⟩
  ·have hk2 : k = l.length := by omega
   subst hk2
   refine_lift sM fun _ => ?_
   go_ret
   refine ⟨_, rfl, hx, ?_⟩
   rw [EU] at ho
   exact ho
end Go.Proofs.X
