/- Laws and walks that the proof of the statement is made of (part 5). -/
import Derived.Test.YteofaejlmdplhaaGreatP4
set_option linter.unusedSimpArgs false
set_option linter.unusedVariables false
namespace Go.Proofs.X
open Go.RowKit
set_option maxRecDepth 100000
theorem QS {α : Type} {R : α → α → Prop} {l : List α} {i : Nat} {c : α} (h : l.Pairwise R) (hi : i < l.length) (h1 : ∀ j (hj : j < i), R l[j] c) (h2 : ∀ j (hj : i < j) (hl : j < l.length), R c l[j]) : (l.set i c).Pairwise R := by
 rw [List.pairwise_iff_getElem] at *
 intro p q hp hq hpq
 simp only [List.length_set] at hp hq
 simp only [List.getElem_set]
 by_cases e1 : i = p
 ·subst e1
  rw [if_pos rfl, if_neg (by omega)]
  exact h2 q hpq hq
 ·by_cases e2 : i = q
  ·subst e2
   rw [if_neg e1, if_pos rfl]
   exact h1 p hpq
  ·rw [if_neg e1, if_neg e2]
   exact h p q hp hq hpq
theorem GS.split {w : World} {B : Nat} {gcs : List GC} (h : GS w B gcs) {i j : Nat} {c c' : GC} (hi : gcs[i]? = some c) (hj : gcs[j]? = some c') (hij : i ≠ j) : c.b ≠ c'.b ∧ (c.v.ownBlock = none ∨ c'.v.ownBlock = none ∨ c.v.ownBlock ≠ c'.v.ownBlock) := by
 have := List.pairwise_iff_getElem.1 h.apart
 obtain ⟨hi2, e1⟩ := List.getElem?_eq_some_iff.1 hi
 obtain ⟨hj2, e2⟩ := List.getElem?_eq_some_iff.1 hj
 subst e1 e2
 rcases Nat.lt_or_ge i j with h1 | h1
 ·exact this i j hi2 hj2 h1
 ·obtain ⟨a, b⟩ := this j i hj2 hi2 (by omega)
  exact ⟨fun e => a e.symm, by rcases b with b | b | b; exact .inr (.inl b); exact .inl b; exact .inr (.inr fun e => b e.symm)⟩
theorem vP {α : Type} {l : List α} {i : Nat} {c x : α} (h : x ∈ l.set i c) : x = c ∨ ∃ j, j ≠ i ∧ l[j]? = some x := by
 obtain ⟨j, hj⟩ := List.mem_iff_getElem?.1 h
 by_cases e : j = i
 ·subst e
  have hl : j < l.length := by simpa using (List.getElem?_eq_some_iff.1 hj).1
  rw [List.getElem?_set_self hl] at hj
  exact .inl (Option.some.inj hj).symm
 ·rw [List.getElem?_set_ne (Ne.symm e)] at hj
  exact .inr ⟨j, e, hj⟩
theorem GS.turn {w w1 w2 : World} {B : Nat} {gcs : List GC} {i : Nat} {c c' : GC} (h : GS w B gcs) (hi : gcs[i]? = some c) (hb : c'.b = c.b) (m : Mv c.v.ownBlock w w1) (o : Own B 1 9 w1 c'.v (aN c'.s.data))
 (kin : c'.v.ownBlock = c.v.ownBlock ∨ c'.v.ownBlock = some w.heap.size) (hp : Put w1 w2 c.b (.cells c'.cells.toArray 119 (0, 0))) : GS w2 B (gcs.set i c') := by
 have hc := h.each c (List.mem_of_getElem? hi)
 have hil := (List.getElem?_eq_some_iff.1 hi).1
 have hcb : c.v.ownBlock ≠ some c.b := hc.own.neBlock hc.blk (by omega)
 have ho : Own B 1 9 w2 c'.v (aN c'.s.data) := o.mv hp.mv (.inr (o.neBlock (cs := c.cells.toArray) (fz := (0, 0)) (m.at hc.blk (fun e => hcb e.symm)) (by omega)))
 have hother : ∀ j x, j ≠ i → gcs[j]? = some x → GOK w2 B x ∧ x.b ≠ c.b ∧ (x.v.ownBlock = none ∨ x.v.ownBlock ≠ c'.v.ownBlock) := by
  intro j x hj hx
  have hxo := h.each x (List.mem_of_getElem? hx)
  obtain ⟨s1, s2⟩ := h.split hx hi hj
  have n1 : some x.b ≠ c.v.ownBlock := fun e => (hc.own.neBlock hxo.blk (by omega)) e.symm
  have n2 : x.v.ownBlock = none ∨ x.v.ownBlock ≠ c.v.ownBlock := by
   rcases s2 with s2 | s2 | s2
   ·exact .inl s2
   ·cases hv : x.v.ownBlock with
    | none => exact .inl rfl
    | some r => rw [s2]; exact .inr (by simp)
   ·exact .inr s2
  have g1 := hxo.mv m n1 n2
  refine ⟨g1.mv hp.mv (fun e => s1 (Option.some.inj e)) (.inr (hxo.own.neBlock hc.blk (by omega))), s1, ?_⟩
  rcases kin with k | k
  ·rw [k]; exact n2
  ·rw [k]
   cases hv : x.v.ownBlock with
   | none => exact .inl rfl
   | some r => exact .inr fun e => by have := (hxo.own.block r hv).2; have := Option.some.inj e; omega
 refine ⟨fun x hx => ?_, QS h.apart hil (fun j hj => ?_) (fun j hj hl => ?_)⟩
 ·rcases vP hx with rfl | ⟨j, hj, hx⟩
  ·exact ⟨by rw [hb]; exact hp.this, by rw [hb]; exact hc.ge, ho⟩
  ·exact (hother j x hj hx).1
 ·obtain ⟨_, a, b⟩ := hother j gcs[j] (by omega) (List.getElem?_eq_getElem (by omega))
  exact ⟨by rw [hb]; exact a, by rcases b with b | b; exact .inl b; exact .inr (.inr b)⟩
 ·obtain ⟨_, a, b⟩ := hother j gcs[j] (by omega) (List.getElem?_eq_getElem hl)
  exact ⟨by rw [hb]; exact fun e => a e.symm, by rcases b with b | b; exact .inr (.inl b); exact .inr (.inr fun e => b e.symm)⟩
theorem GS.push {w : World} {B : Nat} {gcs : List GC} {c : GC} (h : GS w B gcs) (hc : GOK w B c) (hn : ∀ x ∈ gcs, x.b ≠ c.b) (hv : c.v.ownBlock = none) : GS w B (gcs ++ [c]) := by
 refine ⟨fun x hx => ?_, ?_⟩
 ·rcases List.mem_append.1 hx with hx | hx
  ·exact h.each x hx
  ·rw [List.mem_singleton.1 hx]; exact hc
 ·rw [List.pairwise_append]
  refine ⟨h.apart, by simp, fun x hx y hy => ?_⟩
  rw [List.mem_singleton.1 hy]
  exact ⟨hn x hx, .inr (.inl hv)⟩
theorem GS.mv {w w' : World} {B : Nat} {gcs : List GC} {row : Option Nat} (h : GS w B gcs) (hm : Mv row w w') (h1 : ∀ c ∈ gcs, some c.b ≠ row ∧ (c.v.ownBlock = none ∨ c.v.ownBlock ≠ row)) : GS w' B gcs :=
 ⟨fun c hc => (h.each c hc).mv hm (h1 c hc).1 (h1 c hc).2, h.apart⟩
theorem UL : Tryz.prog.keyTypeAt 2 175 = true := by kernel_rfl
theorem LB : Tryz.prog.tiled 2 175 = true := by kernel_rfl
theorem LC : WideMaps.KeyLaw Tryz.prog 175 := deep_law (m := 2) (by omega) UL LB (by kernel_rfl)
theorem HR (n : List UInt8) (k : Int) (hn : n.length ≤ 1000000) (hk : 0 ≤ k ∧ k ≤ 65535) : ∃ l, keyOf Tryz.prog 175 (.agg #[aI n, .int .i64 k]) = some l := by
 unfold keyOf
 rw [Tryz.underlying175]
 have kt2 : Tryz.prog.keyType 175 = true := by kernel_rfl
 simp only [kt2]
 rw [show Tryz.prog.types.size = 278 from by kernel_rfl]
 have c48 : Tryz.prog.cellsOf 175 = 2 := by kernel_rfl
 have c30 : Tryz.prog.cellsOf 22 = 1 := by kernel_rfl
 have c3 : Tryz.prog.cellsOf 3 = 1 := by kernel_rfl
 have f : Value.formed Tryz.prog 175 (Value.agg #[aI n, Value.int IntKind.i64 k]) = true := by simp [Value.formed, Tryz.underlying175, c48]
 have hs : (ByteArray.mk n.toArray).size ≤ maxLen := by rw [fI]; unfold maxLen; omega
 have hw : (Lit.int .i64 k).wf = true := by simp [Lit.wf, IntKind.min, IntKind.max, IntKind.bits, IntKind.signed]; omega
 have l30 : Tryz.prog.keyLits 278 22 [aI n] = some [.string n] := by simp [Program.keyLits, Tryz.underlying22, aI, -ByteArray.size_data, hs]
 have l3 : Tryz.prog.keyLits 278 3 [Value.int .i64 k] = some [.int .i64 k] := by simp [Program.keyLits, Tryz.underlying3, hw]
 rw [f]
 simp only [Bool.and_self, if_true]
 unfold Program.keyLits
 simp [Tryz.underlying175, c48, c30, c3, Value.cells, l30, l3]
structure L1 (w0 w : World) (kv : Value) (gcs : List GC) : Prop where
 ext : Ext w0 w
 map : MapAt Tryz.prog 175 w w0.heap.size (gcs.map GC.key)
 keys : Own (w0.heap.size + 1) 2 175 w kv (gcs.map GC.kcells)
 sets : GS w (w0.heap.size + 1) gcs
theorem L1.grow {w0 w w' : World} {kv : Value} {gcs : List GC} (h : L1 w0 w kv gcs) (hx : Ext w w') : L1 w0 w' kv gcs :=
 ⟨h.ext.trans hx, h.map.at (fun o ho => hx.at ho), h.keys.ext hx, h.sets.ext hx⟩
def bK (s : SoaR) : List Int := [s.refresh, s.retry, s.expire, s.minimum]
def gD (s : SoaR) : List UInt8 := s.main ++ [0] ++ (s.mail ++ [0]) ++ yP s.serial.toNat
def nB (l : List Int) : List UInt8 := (l.map fun n => yP n.toNat).flatten
theorem vQ (s : SoaR) : s.data = gD s ++ nB (bK s) := by simp [SoaR.data, gD, nB, bK]
theorem zV (l : List Int) (k : Nat) (h : k < l.length) : nB (l.take (k + 1)) = nB (l.take k) ++ yP l[k].toNat := by
 unfold nB
 rw [List.take_add_one, List.getElem?_eq_getElem h, Option.toList_some, List.map_append, List.flatten_append]
 simp
theorem DP (l : List Int) : (nB l).length = 4 * l.length := by
 induction l with
 | nil => rfl
 | cons x l ih =>
  have : nB (x :: l) = yP x.toNat ++ nB l := by simp [nB]
  rw [this, List.length_append, ih, List.length_cons]
  simp [yP]; omega
theorem LD (s : SoaR) : s.ok = ((bF s.main).isSome && (bF s.mail).isSome && decide (0 ≤ s.serial) && decide (s.serial ≤ 4294967295) && (bK s).all fV) := by
 simp [SoaR.ok, bK, Bool.and_assoc]
set_option maxHeartbeats 1000000 in
theorem VU (s : SoaR) (w : World) (h1 : s.main.length ≤ 4611686018427387904) (h2 : s.mail.length ≤ 4611686018427387904) : Calls Tryz.prog 86 #[.agg s.cells.toArray] w (bG w (if s.ok = true then .tuple #[aI s.data, .int .i64 0] else .tuple #[aI [], .int .i64 1])) := by
 have hA := fun w => VO s.main w (by omega)
 have hB := fun w => VO s.mail w (by omega)
 cases hm : bF s.main with
 | none =>
  simp only [hm, Option.isSome_none, Bool.false_eq_true, if_false] at hA
  have hno : s.ok = false := by simp [SoaR.ok, hm]
  rw [hno]
  go_enter Tryz.func86, Tryz.ntmps86
  refine_lift hY fun _ _ => ?_
  refine aZ (vs := s.cells) rfl rfl ?_
  intro p w1 x1 hp
  refine aA ?_
  have hp' : Pts w1 p [aI s.main, aI s.mail, .int .i64 s.serial, .int .i64 s.refresh, .int .i64 s.retry, .int .i64 s.expire, .int .i64 s.minimum] := hp
  refine_lift bY fun _ _ => ?_
  refine aB (enters_of Tryz.func145 rfl rfl) rfl rfl (hA _) ?_
  intro w2 x2
  have hp' := hp'.ext x2
  refine_lift bY fun _ _ => ?_
  refine aB (enters_of Tryz.func145 rfl rfl) rfl rfl (hB _) ?_
  intro w3 x3
  cases hl : (bF s.mail).isSome with
  | true =>
   simp only [hl, if_true]
   have hp' := hp'.ext x3
   refine_lift aS ?_
   go_ret2
   exact ⟨rfl, (x1.trans x2).trans x3⟩
  | false =>
   simp only [hl, Bool.false_eq_true, if_false]
   have hp' := hp'.ext x3
   refine_lift aS ?_
   go_ret2
   exact ⟨rfl, (x1.trans x2).trans x3⟩
 | some ls =>
  simp only [hm, Option.isSome_some, if_true] at hA
  cases hm2 : bF s.mail with
  | none =>
   simp only [hm2, Option.isSome_none, Bool.false_eq_true, if_false] at hB
   have hno : s.ok = false := by simp [SoaR.ok, hm2]
   rw [hno]
   go_enter Tryz.func86, Tryz.ntmps86
   refine_lift hY fun _ _ => ?_
   refine aZ (vs := s.cells) rfl rfl ?_
   intro p w1 x1 hp
   refine aA ?_
   have hp' : Pts w1 p [aI s.main, aI s.mail, .int .i64 s.serial, .int .i64 s.refresh, .int .i64 s.retry, .int .i64 s.expire, .int .i64 s.minimum] := hp
   refine_lift bY fun _ _ => ?_
   refine aB (enters_of Tryz.func145 rfl rfl) rfl rfl (hA _) ?_
   intro w2 x2
   have hp' := hp'.ext x2
   refine_lift bY fun _ _ => ?_
   refine aB (enters_of Tryz.func145 rfl rfl) rfl rfl (hB _) ?_
   intro w3 x3
   have hp' := hp'.ext x3
   refine_lift aS ?_
   go_ret2
   exact ⟨rfl, (x1.trans x2).trans x3⟩
  | some ms =>
   simp only [hm2, Option.isSome_some, if_true] at hB
   have hfm := eC hm
   have hfm2 := eC hm2
   rw [LD, hm, hm2]
   simp only [Option.isSome_some, Bool.true_and]
   go_enter Tryz.func86, Tryz.ntmps86
   refine_lift hY fun _ _ => ?_
   refine aZ (vs := s.cells) rfl rfl ?_
   intro p w1 x1 hp
   refine aA ?_
   have hp' : Pts w1 p [aI s.main, aI s.mail, .int .i64 s.serial, .int .i64 s.refresh, .int .i64 s.retry, .int .i64 s.expire, .int .i64 s.minimum] := hp
   refine_lift bY fun _ _ => ?_
   refine aB (enters_of Tryz.func145 rfl rfl) rfl rfl (hA _) ?_
   intro w2 x2
   have hp' := hp'.ext x2
   refine_lift bY fun _ _ => ?_
   refine aB (enters_of Tryz.func145 rfl rfl) rfl rfl (hB _) ?_
   intro w3 x3
   have hp' := hp'.ext x3
   have x13 := (x1.trans x2).trans x3
   clear x1 x2 x3 hp hA hB
   refine_lift PL (fun hc _ _ _ => ?_) (fun hc => ?_) (fun hc _ => ?_)
   ·have hc := ‹4294967295 < s.serial›
    go_ret2
    refine ⟨?_, x13⟩
    have hno : (decide (0 ≤ s.serial) && decide (s.serial ≤ 4294967295)) = false := by simp only [Bool.and_eq_false_iff, decide_eq_false_iff_not]; omega
    simp only [hno, Bool.false_and, Bool.false_eq_true, if_false]
    rfl
   ·have hc := ‹s.serial ≤ 4294967295›
    have hc0 := ‹¬s.serial < 0›
    have hser : (decide (0 ≤ s.serial) && decide (s.serial ≤ 4294967295)) = true := by simp; omega
    refine sK (e := 5) (l := s.main ++ [0] ++ (s.mail ++ [0])) rfl rfl (by decide +kernel) (by decide +kernel) (by simp; omega) ?_
    intro v w4 x4 o4
    refine aA ?_
    have hp' := hp'.ext x4
    have hsn : s.serial = ((s.serial.toNat : Nat) : Int) := by omega
    refine_lift aS ?_
    rw [hsn]
    refine bH (enters_of Tryz.func146 rfl rfl) rfl rfl (VR (B := w3.heap.size) s.serial.toNat o4 x4.size (by omega) (by simp; omega)) ?_
    rintro e w5 ⟨v5, rfl, o5, m5⟩
    refine ⟨_, rfl, ?_⟩
    refine aA ?_
    have x35 := o4.mvx m5 x4 (Nat.le_refl _)
    have hp' := ‹Pts w3 p _›.ext x35
    have x15 := x13.trans x35
    rw [← hsn]
    refine_lift gV fun _ _ _ _ => ?_
    refine aQ (v := .agg ((bK s).map (Value.int .i64)).toArray) rfl (Runs.build rfl (by kernel_rfl)) ?_
    refine aA ?_
    refine_lift aS ?_
    clear hp' m5
    have hbase : s.main ++ [0] ++ (s.mail ++ [0]) ++ yP s.serial.toNat = gD s := rfl
    rw [hbase] at o5
    have hbl : (gD s).length ≤ 600 := by simp [gD, yP]; omega
    go_loopw [8, 55] (fun v6 i wr => ∃ k : Nat, k ≤ 4 ∧ i = .int .i64 k ∧ Ext w wr ∧ w3.heap.size ≤ wr.heap.size ∧ Own w3.heap.size 1 5 wr v6 (bJ (gD s ++ nB ((bK s).take k))) ∧ ((bK s).take k).all fV = true) (fun _ i _ => 4 - (intOf i).toNat)
    case atStart => exact ⟨0, by omega, rfl, x15, x35.size, by simpa [nB] using o5, rfl⟩
    case round =>
     obtain ⟨k, hk, rfl, hx, hsz, ho, hall⟩ := hrel
     have hlen : (bK s).length = 4 := rfl
     by_cases hlt : k < 4
     ·have hlt2 : k < (bK s).length := hlt
      have hdata : s.data = gD s ++ nB (bK s) := vQ s
      have hsplit : (bK s).all fV = true → fV (bK s)[k] = true := fun h => List.all_eq_true.1 h _ (List.getElem_mem hlt2)
      refine_lift oM ?_; intro _ _ _ _ _ _
      refine aQ (v := .int .i64 (bK s)[k]) rfl (Runs.idxA (n := 4) (i := k) rfl rfl (by simp [hlt2]) hlt (by decide +kernel)) ?_
      refine aA ?_
      refine_lift KU (fun hc _ => ?_) (fun hc => ?_) (fun hc _ => ?_)
      ·have hc2 := ‹2147483647 < (bK s)[k]›
       go_ret2
       refine ⟨?_, hx⟩
       have hno : (bK s).all fV = false := by
        cases h : (bK s).all fV with
        | false => rfl
        | true => have := hsplit h; simp [fV] at this; omega
       simp only [hser, hno, Bool.and_false, Bool.false_eq_true, if_false]
       rfl
      ·have hc2 := ‹(bK s)[k] ≤ 2147483647›
       have hc1 := ‹¬(bK s)[k] < 0›
       have hnn : (bK s)[k] = (((bK s)[k].toNat : Nat) : Int) := by omega
       have hbs : (nB ((bK s).take k)).length ≤ 16 := by rw [DP]; simp; omega
       rw [hnn]
       refine bH (enters_of Tryz.func146 rfl rfl) rfl rfl (VR (B := w3.heap.size) (bK s)[k].toNat ho hsz (by omega) (by rw [List.length_append]; omega)) ?_
       rintro e w6 ⟨v6, rfl, o6, m6⟩
       refine ⟨_, rfl, ?_⟩
       refine aA ?_
       have hx6 := ho.mvx m6 hx x13.size
       have hs6 : w3.heap.size ≤ w6.heap.size := Nat.le_trans hsz m6.size
       rw [List.append_assoc, ← zV _ _ hlt2] at o6
       refine_lift aS ?_
       refine ⟨⟨k + 1, by omega, rfl, hx6, hs6, o6, ?_⟩, by simp [intOf]; omega⟩
       rw [List.take_add_one, List.getElem?_eq_getElem hlt2, Option.toList_some, List.all_append, hall]
       simp only [List.all_cons, List.all_nil, fV, Bool.true_and, Bool.and_true, Bool.and_eq_true, decide_eq_true_eq]
       omega
      ·have hc2 := ‹(bK s)[k] < 0›
       go_ret2
       refine ⟨?_, hx⟩
       have hno : (bK s).all fV = false := by
        cases h : (bK s).all fV with
        | false => rfl
        | true => have := hsplit h; simp [fV] at this; omega
       simp only [hser, hno, Bool.and_false, Bool.false_eq_true, if_false]
       rfl
     ·have : k = 4 := by omega
      subst this
      have hsl := ho.sl
      rw [show (bK s).take 4 = bK s from rfl] at hsl hall
      refine_lift fP fun _ => ?_
      go_ret2
      refine ⟨?_, hx⟩
      simp only [hser, hall, Bool.and_self, if_true]
      rw [vQ]
      rfl
   ·have hc := ‹s.serial < 0›
    go_ret2
    refine ⟨?_, x13⟩
    have hno : (decide (0 ≤ s.serial) && decide (s.serial ≤ 4294967295)) = false := by simp only [Bool.and_eq_false_iff, decide_eq_false_iff_not]; omega
    simp only [hno, Bool.false_and, Bool.false_eq_true, if_false]
    rfl
def aV : List Value := [aI [], aI [], .int .i64 0, .int .i64 0, .int .i64 0, .int .i64 0, .int .i64 0]
theorem mB (s : List UInt8) : (bU s).1.length ≤ s.length ∧ (bU s).2.1.length ≤ s.length := by
 unfold bU
 split
 ·simp
 ·refine ⟨?_, by simp⟩
  unfold fE
  split
  ·simp only [Option.getD_some]
   have : (Lib.trimSuffix (s.take (fN s + 1)) [0]).length ≤ (s.take (fN s + 1)).length := Lib.trimSuffix_le _ _
   simp at this ⊢
   omega
  ·simp
set_option maxHeartbeats 1000000 in
theorem UM (d : List UInt8) (w : World) (hl : d.length ≤ 4611686018427387904) : Calls Tryz.prog 80 #[aI d] w (bG w (match cD d with | some s => .tuple #[.agg s.cells.toArray, .int .i64 0] | none => .tuple #[.agg aV.toArray, .int .i64 2])) := by
 have hl1 := mB d
 have hl2 := mB (bU d).2.1
 go_enter Tryz.func80, Tryz.ntmps80
 refine_lift uL ?_; intro _ _ _
 refine aG (z := aV) rfl (by decide +kernel) ?_
 intro w1 x1 s1 h1
 refine aA ?_
 refine_lift bY fun _ _ => ?_
 refine aB (enters_of Tryz.func128 rfl rfl) rfl rfl (VQ d _ hl) ?_
 intro w2 x2
 refine aA ?_
 have h12 := x2.at h1
 refine_lift aS ?_
 refine aG (z := [aI []]) rfl (by decide +kernel) ?_
 intro w3 x3 s3 h3
 refine aA ?_
 have h13 := x3.at h12
 refine_lift aS ?_
 refine cI (v := aI (bU d).2.1) rfl rfl rfl h3 (by decide +kernel) rfl ?_
 intro w4 p4
 have s2 : w.heap.size < w2.heap.size := by have := x2.size; omega
 have h14 := p4.at h13 (by omega)
 have h54 := p4.this
 have x4 : Ext w w4 := ((x1.trans x2).trans x3).move p4.mv (by rintro k ⟨⟩; omega)
 have hp5 := aE (cs := [aI (bU d).2.1]) h54
 generalize hb5 : w2.heap.size = b5 at *
 clear h1 h12 h13 h3 p4 x1 x2 x3 s3
 refine_lift bY fun _ _ => ?_
 refine aB (enters_of Tryz.func128 rfl rfl) rfl rfl (VQ _ _ (by omega)) ?_
 intro w5 x5
 refine aA ?_
 have h15 := x5.at h14
 have h55 := x5.at h54
 have hp5 := hp5.ext x5
 have x5 := x4.trans x5
 refine_lift aS ?_
 refine cI (v := aI (bU (bU d).2.1).2.1) rfl rfl rfl h55 (by decide +kernel) rfl ?_
 intro w6 p6
 have h16 := p6.at h15 (by omega)
 have h56 := p6.this
 have x6 : Ext w w6 := x5.move p6.mv (by rintro k ⟨⟩; omega)
 clear hp5 h54 h14 h15 h55 p6 x4 x5
 have hp5 := aE (cs := [aI (bU (bU d).2.1).2.1]) h56
 refine_lift QN (fun hc hc _ _ _ => ?_) (fun _ _ hc hc _ _ => ?_) (fun _ _ hc _ _ => ?_) (fun _ _ hc hc _ _ _ => ?_)
 ·refine aQ (v := .agg aV.toArray) rfl (Runs.build (parts := []) (vals := []) rfl (by kernel_rfl)) ?_
  refine aA ?_
  refine aC (v := .agg aV.toArray) rfl rfl rfl h16 (by decide +kernel) rfl (by decide +kernel) ?_
  intro w7 p7
  have x7 : Ext w w7 := x6.move p7.mv (by rintro k ⟨⟩; omega)
  have h17 : w7.heap[w.heap.size]? = some (.cells aV.toArray 67 (0, 0)) := p7.this
  refine_lift aS ?_
  refine bodyPost_ret (aH (cs := aV) rfl rfl h17 (by decide +kernel)) rfl ⟨?_, x7⟩
  have hno : cD d = none := by
   unfold cD
   rw [if_neg]
   rintro ⟨q1, q2, q3, q4⟩
   have := ‹(!decide (((bU (bU d).2.1).2.1.length : Int) = 20)) = true›
   simp [q3] at this
  rw [hno]
  rfl
 ·have hc1 := ‹(!(bU d).2.2) = false›
  have hc2 := ‹(!(bU (bU d).2.1).2.2) = false›
  have hc3 := ‹(!decide (((bU (bU d).2.1).2.1.length : Int) = 20)) = false›
  have hr : (bU (bU d).2.1).2.1.length = 20 := by simp at hc3; omega
  have q1 : (bU d).2.2 = true := by simpa using hc1
  have q2 : (bU (bU d).2.1).2.2 = true := by simpa using hc2
  have hps : cD d = if (cO d).ok = true then some (cO d) else none := by
   unfold cD
   simp only [q1, q2, hr, true_and]
  generalize hrr : (bU (bU d).2.1).2.1 = r at *
  refine eK (f := 129) (caps := #[.pointer (some ⟨b5, 0, none⟩)]) (enters_of Tryz.func129 rfl rfl) rfl rfl rfl (SV r 0 _ _ hp5 hr (by omega)) ?_
  rintro e w10 ⟨rfl, y⟩
  refine ⟨_, rfl, ?_⟩
  refine aA ?_
  have hp5 := hp5.ext y
  have h16 := y.at h16
  have x6 := x6.trans y
  clear y
  refine_lift aS ?_
  refine eK (f := 129) (caps := #[.pointer (some ⟨b5, 0, none⟩)]) (enters_of Tryz.func129 rfl rfl) rfl rfl rfl (SV r 1 _ _ hp5 hr (by omega)) ?_
  rintro e w11 ⟨rfl, y⟩
  refine ⟨_, rfl, ?_⟩
  refine aA ?_
  have hp5 := hp5.ext y
  have h16 := y.at h16
  have x6 := x6.trans y
  clear y
  refine_lift aS ?_
  refine eK (f := 129) (caps := #[.pointer (some ⟨b5, 0, none⟩)]) (enters_of Tryz.func129 rfl rfl) rfl rfl rfl (SV r 2 _ _ hp5 hr (by omega)) ?_
  rintro e w12 ⟨rfl, y⟩
  refine ⟨_, rfl, ?_⟩
  refine aA ?_
  have hp5 := hp5.ext y
  have h16 := y.at h16
  have x6 := x6.trans y
  clear y
  refine_lift aS ?_
  refine eK (f := 129) (caps := #[.pointer (some ⟨b5, 0, none⟩)]) (enters_of Tryz.func129 rfl rfl) rfl rfl rfl (SV r 3 _ _ hp5 hr (by omega)) ?_
  rintro e w13 ⟨rfl, y⟩
  refine ⟨_, rfl, ?_⟩
  refine aA ?_
  have hp5 := hp5.ext y
  have h16 := y.at h16
  have x6 := x6.trans y
  clear y
  refine_lift aS ?_
  refine eK (f := 129) (caps := #[.pointer (some ⟨b5, 0, none⟩)]) (enters_of Tryz.func129 rfl rfl) rfl rfl rfl (SV r 4 _ _ hp5 hr (by omega)) ?_
  rintro e w14 ⟨rfl, y⟩
  refine ⟨_, rfl, ?_⟩
  refine aA ?_
  have hp5 := hp5.ext y
  have h16 := y.at h16
  have x6 := x6.trans y
  clear y
  refine_lift aS ?_
  have hsc : (cO d).cells = [aI (bU d).1, aI (bU (bU d).2.1).1, .int .i64 (numP r 0 4 : Nat), .int .i64 (numP r 1 4 : Nat), .int .i64 (numP r 2 4 : Nat), .int .i64 (numP r 3 4 : Nat), .int .i64 (numP r 4 4 : Nat)] := by
   simp only [SoaR.cells, cO, hrr]
  refine aQ (v := .agg (cO d).cells.toArray) rfl (by rw [hsc]; exact Runs.build rfl (by kernel_rfl)) ?_
  refine aA ?_
  refine aG (z := aV) rfl (by decide +kernel) ?_
  intro w15 x15 s15 h15
  refine aA ?_
  have h16 := x15.at h16
  have x6 := x6.trans x15
  have hlt16 : w.heap.size < w14.heap.size := (Array.getElem?_eq_some_iff.1 ‹w14.heap[w.heap.size]? = _›).1
  refine aC (v := .agg (cO d).cells.toArray) rfl rfl rfl h15 (show aO Tryz.prog 67 7 = true by decide +kernel) rfl (by rw [hsc]; simp [Value.cells, Value.oneCell', aI]) ?_
  intro w16 p16
  have h16 := p16.at h16 (by omega)
  have x6 := x6.move p16.mv (by rintro k ⟨⟩; omega)
  have hb10 : w16.heap[w14.heap.size]? = some (.cells (cO d).cells.toArray 67 (0, 0)) := p16.this
  have hp10 := aE hb10
  refine_lift gV fun _ _ _ _ => ?_
  refine aQ (v := .agg (cO d).cells.toArray) rfl (Runs.loadN (n := 7) hp10 rfl (by decide +kernel)) ?_
  refine aA ?_
  have hm1 : (cO d).main.length ≤ 4611686018427387904 := by simp only [cO]; omega
  have hm2 : (cO d).mail.length ≤ 4611686018427387904 := by simp only [cO]; omega
  refine aB (enters_of Tryz.func86 rfl rfl) rfl rfl (VU (cO d) _ hm1 hm2) ?_
  intro w17 x17
  refine aA ?_
  have h16 := x17.at h16
  have hb10 := x17.at hb10
  have x6 := x6.trans x17
  have hp10 := hp10.ext x17
  cases hok : (cO d).ok with
  | false =>
   simp only [hok, Bool.false_eq_true, if_false] at hps ⊢
   refine_lift kL fun _ _ _ => ?_
   refine aQ (v := .agg aV.toArray) rfl (Runs.build (parts := []) (vals := []) rfl (by kernel_rfl)) ?_
   refine aA ?_
   refine aC (v := .agg aV.toArray) rfl rfl rfl h16 (by decide +kernel) rfl (by decide +kernel) ?_
   intro w7 p7
   have x7 : Ext w w7 := x6.move p7.mv (by rintro k ⟨⟩; omega)
   have h17 : w7.heap[w.heap.size]? = some (.cells aV.toArray 67 (0, 0)) := p7.this
   refine_lift aS ?_
   refine bodyPost_ret (aH (cs := aV) rfl rfl h17 (by decide +kernel)) rfl ⟨?_, x7⟩
   rw [hps]
   rfl
  | true =>
   simp only [hok, if_true] at hps ⊢
   refine_lift bY fun _ _ => ?_
   refine aQ (v := .agg (cO d).cells.toArray) rfl (Runs.loadN (n := 7) hp10 rfl (by decide +kernel)) ?_
   refine aA ?_
   refine aC (v := .agg (cO d).cells.toArray) rfl rfl rfl h16 (show aO Tryz.prog 67 7 = true by decide +kernel) rfl (by rw [hsc]; simp [Value.cells, Value.oneCell', aI]) ?_
   intro w7 p7
   have x7 : Ext w w7 := x6.move p7.mv (by rintro k ⟨⟩; omega)
   have h17 : w7.heap[w.heap.size]? = some (.cells (cO d).cells.toArray 67 (0, 0)) := p7.this
   refine_lift aS ?_
   refine bodyPost_ret (aH (cs := (cO d).cells) rfl rfl h17 (show dY Tryz.prog 67 7 = true by decide +kernel)) rfl ⟨?_, x7⟩
   rw [hps]
   rfl
 ·refine aQ (v := .agg aV.toArray) rfl (Runs.build (parts := []) (vals := []) rfl (by kernel_rfl)) ?_
  refine aA ?_
  refine aC (v := .agg aV.toArray) rfl rfl rfl h16 (by decide +kernel) rfl (by decide +kernel) ?_
  intro w7 p7
  have x7 : Ext w w7 := x6.move p7.mv (by rintro k ⟨⟩; omega)
  have h17 : w7.heap[w.heap.size]? = some (.cells aV.toArray 67 (0, 0)) := p7.this
  refine_lift aS ?_
  refine bodyPost_ret (aH (cs := aV) rfl rfl h17 (by decide +kernel)) rfl ⟨?_, x7⟩
  have hno : cD d = none := by
   unfold cD
   rw [if_neg]
   rintro ⟨q1, q2, q3, q4⟩
   have := ‹(!(bU (bU d).2.1).2.2) = true›
   simp [q2] at this
  rw [hno]
  rfl
 ·refine aQ (v := .agg aV.toArray) rfl (Runs.build (parts := []) (vals := []) rfl (by kernel_rfl)) ?_
  refine aA ?_
  refine aC (v := .agg aV.toArray) rfl rfl rfl h16 (by decide +kernel) rfl (by decide +kernel) ?_
  intro w7 p7
  have x7 : Ext w w7 := x6.move p7.mv (by rintro k ⟨⟩; omega)
  have h17 : w7.heap[w.heap.size]? = some (.cells aV.toArray 67 (0, 0)) := p7.this
  refine_lift aS ?_
  refine bodyPost_ret (aH (cs := aV) rfl rfl h17 (by decide +kernel)) rfl ⟨?_, x7⟩
  have hno : cD d = none := by
   unfold cD
   rw [if_neg]
   rintro ⟨q1, q2, q3, q4⟩
   have := ‹(!(bU d).2.2) = true›
   simp [q1] at this
  rw [hno]
  rfl
set_option maxHeartbeats 1000000 in
theorem WR (k : Int) (d : List UInt8) (w : World) (hl : d.length ≤ 4000) : Calls Tryz.prog 108 #[.int .i64 k, aI d] w (bG w (.bool (fits k d))) := by
 have h38 := fun w => UM d w (by omega)
 go_enter Tryz.func108, Tryz.ntmps108
 (repeat' first | ((with_reducible refine cY ?_); go_step) | ((with_reducible refine bR ?_); first | refine fM ?_ | (refine dN ?_ ?_ <;> intro hc)) | fail)
 ·have h1 := ‹k = 1›
  go_ret
  refine ⟨?_, Ext.refl _⟩
  rw [fits, if_pos h1]
  have e : decide ((d.length : Int) = 4) = decide (d.length = 4) := by apply decide_eq_decide.2; omega
  exact congrArg (fun b => Ending.returned (Value.bool b)) e
 ·have h1 := ‹¬k = 1›
  have h2 := ‹k = 28›
  go_ret
  refine ⟨?_, Ext.refl _⟩
  rw [fits, if_neg h1, if_pos h2]
  have e : decide ((d.length : Int) = 16) = decide (d.length = 16) := by apply decide_eq_decide.2; omega
  exact congrArg (fun b => Ending.returned (Value.bool b)) e
 ·have h1 := ‹¬k = 1›
  have h2 := ‹¬k = 28›
  have h3 := ‹k = 16›
  refine aB (enters_of Tryz.func161 rfl rfl) rfl rfl (WL _ _ (by omega)) ?_
  intro w2 x2
  refine aA ?_
  refine_lift aS ?_
  go_ret
  refine ⟨?_, x2⟩
  rw [fits, if_neg h1, if_neg h2, if_pos h3]
  rfl
 ·have h1 := ‹¬k = 1›
  have h2 := ‹¬k = 28›
  have h3 := ‹¬k = 16›
  have h4 := ‹k = 6›
  have hF : fits k d = (cD d).isSome := by rw [fits, if_neg h1, if_neg h2, if_neg h3, if_pos h4]
  refine aB (enters_of Tryz.func80 rfl rfl) rfl rfl (h38 _) ?_
  intro w2 x2
  refine aA ?_
  cases hp : cD d with
  | none =>
   simp only [hp] at hF
   refine_lift aS ?_
   refine aG (z := aV) rfl (by decide +kernel) ?_
   intro w3 x3 s3 h3b
   refine aA ?_
   refine aC (v := .agg aV.toArray) rfl rfl rfl h3b (by decide +kernel) rfl (by decide +kernel) ?_
   intro w4 p4
   refine_lift aS ?_
   go_ret
   refine ⟨?_, (x2.trans x3).move p4.mv (by rintro k ⟨⟩; exact x2.size)⟩
   rw [hF]
   rfl
  | some s =>
   simp only [hp] at hF
   have hsc : ∀ s : SoaR, s.cells = [aI s.main, aI s.mail, .int .i64 s.serial, .int .i64 s.refresh, .int .i64 s.retry, .int .i64 s.expire, .int .i64 s.minimum] := fun _ => rfl
   refine_lift aS ?_
   refine aG (z := aV) rfl (by decide +kernel) ?_
   intro w3 x3 s3 h3b
   refine aA ?_
   refine aC (v := .agg s.cells.toArray) rfl rfl rfl h3b (show aO Tryz.prog 67 7 = true by decide +kernel) rfl (by rw [hsc]; simp [Value.cells, Value.oneCell', aI]) ?_
   intro w4 p4
   refine_lift aS ?_
   go_ret
   refine ⟨?_, (x2.trans x3).move p4.mv (by rintro k ⟨⟩; exact x2.size)⟩
   rw [hF]
   rfl
 ·have h1 := ‹¬k = 1›
  have h2 := ‹¬k = 28›
  have h3 := ‹¬k = 16›
  have h4 := ‹¬k = 6›
  refine aB (enters_of Tryz.func162 rfl rfl) rfl rfl (WM k d _ (by omega)) ?_
  intro w2 x2
  refine aA ?_
  refine_lift aS ?_
  go_ret
  refine ⟨?_, x2⟩
  rw [fits, if_neg h1, if_neg h2, if_neg h3, if_neg h4]
  simp
set_option maxHeartbeats 20000000 in
theorem SW (r : Rec) (w : World) : Calls Tryz.prog 60 #[.agg #[aI r.name, .int .i64 r.kind, .int .i64 r.ttl, aI r.data]] w (bG w (.int .i64 (aW r))) := by
 have hf : r.data.length ≤ 4000 → ∀ w, Calls Tryz.prog 108 #[.int .i64 r.kind, aI r.data] w (bG w (.bool (fits r.kind r.data))) := fun h w => WR _ _ w h
 go_enter Tryz.func60, Tryz.ntmps60
 refine_lift hY fun _ _ => ?_
 refine aZ (vs := [aI r.name, .int .i64 r.kind, .int .i64 r.ttl, aI r.data]) rfl rfl ?_
 intro p w1 x1 hp
 refine aA ?_
 (repeat' first | ((with_reducible refine cY ?_); go_step) | ((with_reducible refine bR ?_); refine fM ?_) | fail)
 all_goals try (go_ret; refine ⟨?_, x1⟩; first | (rw [aW, if_pos (by omega)]; rfl) | (rw [aW, if_neg (by omega), if_pos (by omega)]; rfl))
 ((with_reducible refine bR ?_); refine jG ?_; ((first | refine pG ?_ ?_ | refine pH ?_ ?_) <;> intro hc))
 all_goals refine_lift zO ?_
 all_goals try (go_ret; refine ⟨?_, x1⟩; first | (rw [aW, if_pos (by omega)]; rfl) | (rw [aW, if_neg (by omega), if_pos (by omega)]; rfl))
 ((with_reducible refine bR ?_); refine jG ?_; ((first | refine pG ?_ ?_ | refine pH ?_ ?_) <;> intro hc))
 all_goals refine_lift zO ?_
 all_goals try (go_ret; refine ⟨?_, x1⟩; first | (rw [aW, if_pos (by omega)]; rfl) | (rw [aW, if_neg (by omega), if_pos (by omega)]; rfl))
 ((with_reducible refine bR ?_); refine jG ?_; ((first | refine pG ?_ ?_ | refine pH ?_ ?_) <;> intro hc))
 all_goals refine_lift zO ?_
 all_goals try (go_ret; refine ⟨?_, x1⟩; first | (rw [aW, if_pos (by omega)]; rfl) | (rw [aW, if_neg (by omega), if_pos (by omega)]; rfl))
 ((with_reducible refine bR ?_); refine jG ?_; ((first | refine pG ?_ ?_ | refine pH ?_ ?_) <;> intro hc))
 all_goals refine_lift zO ?_
 all_goals try (go_ret; refine ⟨?_, x1⟩; first | (rw [aW, if_pos (by omega)]; rfl) | (rw [aW, if_neg (by omega), if_pos (by omega)]; rfl))
 (apply zD; (rfl)) <;> intro hc
 ·have hlen : r.data.length ≤ 4000 := by simp at hc; omega
  rw [hc]
  refine_lift zO ?_
  refine aB (enters_of Tryz.func108 rfl rfl) rfl rfl (hf hlen _) ?_
  intro w2 x2
  refine aA ?_
  have hp := hp.ext x2
  cases hfit : fits r.kind r.data with
  | true =>
   refine_lift SE fun _ _ => ?_
   refine aB (enters_of Tryz.func57 rfl rfl) rfl rfl (RX _ _) ?_
   intro w3 x3
   refine aA ?_
   refine_lift zO ?_
   go_ret
   refine ⟨?_, (x1.trans x2).trans x3⟩
   have e : aW r = if (bF r.name).isSome = true then 0 else 1 := by
    rw [aW, if_neg (by omega), if_neg (by rw [hfit]; simp; omega)]
   rw [e]
   rfl
  | false =>
   refine_lift zO ?_
   go_ret
   refine ⟨?_, x1.trans x2⟩
   rw [aW, if_neg (by omega), if_pos (by rw [hfit]; simp)]
   rfl
 ·have hc4 : 4000 < r.data.length := by simp at hc; omega
  rw [hc]
  simp only [Act.put, List.setIfInBounds_toArray, List.set_cons_succ, List.set_cons_zero, Bool.not_true, Bool.not_false]
  refine_lift zO ?_
  go_ret
  refine ⟨?_, x1⟩
  rw [aW, if_neg (by omega), if_pos (by omega)]
  rfl
set_option maxHeartbeats 1000000 in
theorem WS (a b : RSet) (u v : Value) (w : World) (hu : Sl 1 w u (aN a.data)) (hv : Sl 1 w v (aN b.data)) : Calls Tryz.prog 119 #[.agg #[aI a.name, .int .i64 a.kind, .int .i64 a.ttl, u], .agg #[aI b.name, .int .i64 b.kind, .int .i64 b.ttl, v]] w (bG w (.bool (decide (a = b)))) := by
 have hab : a = b ↔ a.name = b.name ∧ a.kind = b.kind ∧ a.ttl = b.ttl ∧ a.data = b.data := by
  cases a; cases b; simp
 go_enter Tryz.func119, Tryz.ntmps119
 refine_lift hY fun _ _ => ?_
 refine aZ (vs := [aI a.name, .int .i64 a.kind, .int .i64 a.ttl, u]) rfl rfl ?_
 intro p w1 x1 hp
 refine aA ?_
 refine aZ (vs := [aI b.name, .int .i64 b.kind, .int .i64 b.ttl, v]) rfl rfl ?_
 intro q w2 x2 hq
 refine aA ?_
 have hu2 := hu.ext (x1.trans x2)
 have hv2 := hv.ext (x1.trans x2)
 refine_lift QM (fun hc hc hc => ?_) (fun hc hc => ?_) (fun hc => ?_) (fun _ _ hc hc hc => ?_)
 ·refine aB (enters_of Tryz.func174 rfl rfl) rfl rfl (WO _ _ _ _ _ hu2 hv2) ?_; intro w3 x3; refine aA ?_
  refine_lift aS ?_
  go_ret
  refine ⟨?_, by exact dV⟩
  have : decide (a = b) = decide (a.data = b.data) := by
   apply decide_eq_decide.2
   rw [hab]
   simp only [‹a.name = b.name›, ‹a.kind = b.kind›, ‹a.ttl = b.ttl›, true_and]
  rw [this]
  rfl
 ·go_ret
  refine ⟨?_, by exact dV⟩
  have : ¬ a = b := by rw [hab]; have := ‹¬a.ttl = b.ttl›; simp [this]
  simp [this]
 ·go_ret
  refine ⟨?_, by exact dV⟩
  have : ¬ a = b := by rw [hab]; have := ‹¬a.kind = b.kind›; simp [this]
  simp [this]
 ·go_ret
  refine ⟨?_, by exact dV⟩
  have : ¬ a = b := by rw [hab]; have := ‹¬a.name = b.name›; simp [this]
  simp [this]
set_option maxHeartbeats 1000000 in
theorem WT (u v : Value) (a b : List RSet) (w : World) (hu : SetsAt w u a) (hv : SetsAt w v b) : Calls Tryz.prog 71 #[u, v] w (bG w (.bool (decide (a = b)))) := by
 obtain ⟨cu, hu1, hul⟩ := hu.sl
 obtain ⟨cv, hv1, hvl⟩ := hv.sl
 have hal := hu1.le
 go_enter Tryz.func71, Tryz.ntmps71
 refine_lift vF (fun _ _ _ => ?_) (fun _ => ?_)
 ·have hne := ‹(!decide ((cu.length : Int) = (cv.length : Int))) = true›
  go_ret
  refine ⟨?_, Ext.refl _⟩
  have : a ≠ b := by rintro rfl; simp at hne; omega
  simp [this]
 ·have hne := ‹(!decide ((cu.length : Int) = (cv.length : Int))) = false›
  have hlen : a.length = b.length := by simp at hne; omega
  go_loopw [5] (fun i wr => ∃ k : Nat, k ≤ a.length ∧ i = .int .i64 k ∧ Ext w wr ∧ a.take k = b.take k) (fun i _ => a.length - (intOf i).toNat)
  case atStart => exact ⟨0, Nat.zero_le _, rfl, Ext.refl _, rfl⟩
  case round =>
   obtain ⟨k, hk, rfl, hx, hall⟩ := hrel
   by_cases hlt : k < a.length
   ·have hlt2 : k < b.length := by omega
    obtain ⟨x, h1, h1d⟩ := (hu.ext hx).elem (List.getElem?_eq_getElem hlt)
    obtain ⟨y, h2, h2d⟩ := (hv.ext hx).elem (List.getElem?_eq_getElem hlt2)
    have hu2 := hu1.ext hx
    have hv2 := hv1.ext hx
    refine_lift oM ?_; intro _ _ _ _ _ _
    refine cC (S := Ext wr) (by decide +kernel) ?_
    intro w2 x2 _
    refine tk 0 ?_; refine aA ?_; refine tk 1 ?_; refine aA ?_; refine tk 2 ?_; refine aA ?_; refine tk 3 ?_; refine aA ?_; refine tk 4 ?_; refine aA ?_; refine tk 5 ?_; refine aA ?_; refine tk 6 ?_; refine aA ?_; refine tk 7 ?_; refine aA ?_
    refine aT (i := 8) (by decide +kernel) rfl rfl ?_
    refine aB (enters_of Tryz.func119 rfl rfl) rfl rfl (WS a[k] b[k] _ _ _ (h1d.ext x2) (h2d.ext x2)) ?_; intro w3 x3; refine aA ?_
    refine aJ ⟨by exact dV, ?_⟩
    refine tk 9 ?_; refine aA ?_
    refine cB (by decide +kernel) ?_
    by_cases he : a[k] = b[k]
    ·have e1 : decide (a[k] = b[k]) = true := decide_eq_true he
     simp only [e1, Bool.not_true]
     refine_lift aS ?_
     exact ⟨⟨k + 1, by omega, rfl, by exact dV, gC hall hlt hlt2 he⟩, by simp [intOf]; omega⟩
    ·have e1 : decide (a[k] = b[k]) = false := decide_eq_false he
     simp only [e1, Bool.not_false]
     refine_lift aS ?_
     go_ret
     refine ⟨?_, by exact dV⟩
     simp [rI hlt hlt2 he]
   ·have hk2 : k = a.length := by omega
    subst hk2
    refine_lift fP fun _ => ?_
    go_ret
    refine ⟨?_, by exact dV⟩
    rw [List.take_length, hlen, List.take_length] at hall
    simp [hall]
theorem iA {α : Type} {p : α → Bool} {l : List α} {k : Nat} (h : k < l.length) (hp : p l[k] = false) : l.all p = false := by
 rw [List.all_eq_false]
 exact ⟨l[k], List.getElem_mem h, by simp [hp]⟩
theorem jB {α : Type} {p : α → Bool} {l : List α} {k : Nat} (h : k < l.length) (ha : (l.take k).all p = true) (hp : p l[k] = true) : (l.take (k + 1)).all p = true := by
 rw [List.take_add_one, List.getElem?_eq_getElem h, List.all_append, ha]
 simp [hp]
def pS (s : RSet) : Bool := decide (s.data.length ≤ 12) && decide (s.name.length ≤ 300) && s.data.all fun d => decide (d.length ≤ 300)
def pI (l : List RSet) : Bool := decide (l.length ≤ 25) && l.all pS
set_option maxHeartbeats 2000000 in
theorem WU (v : Value) (l : List RSet) (w : World) (hv : SetsAt w v l) : Calls Tryz.prog 35 #[v] w (bG w (.bool (pI l))) := by
 obtain ⟨cv, hv1, hvl⟩ := hv.sl
 have hle := hv1.le
 go_enter Tryz.func35, Tryz.ntmps35
 refine_lift vF (fun _ _ _ => ?_) (fun _ => ?_)
 ·go_ret
  refine ⟨?_, Ext.refl _⟩
  have : decide (l.length ≤ 25) = false := decide_eq_false (by omega)
  simp [pI, this]
 ·have h25 : decide (l.length ≤ 25) = true := decide_eq_true (by omega)
  go_loopw [3, 4] (fun i _ wr => ∃ k : Nat, k ≤ l.length ∧ i = .int .i64 k ∧ Ext w wr ∧ (l.take k).all pS = true) (fun i _ _ => l.length - (intOf i).toNat)
  case atStart => exact ⟨0, Nat.zero_le _, rfl, Ext.refl _, rfl⟩
  case round =>
   obtain ⟨k, hk, rfl, hx, hall⟩ := hrel
   have hv2 := hv1.ext hx
   by_cases hlt : k < l.length
   ·obtain ⟨x, h1, h1d⟩ := (hv.ext hx).elem (List.getElem?_eq_getElem hlt)
    have hdl := aR l[k].data
    have hdle := h1d.le
    (repeat' first | ((with_reducible refine cY ?_); go_step) | ((with_reducible refine bR ?_); first | refine fM ?_ | (refine dN ?_ ?_ <;> intro hc)) | fail)
    ·go_ret
     refine ⟨?_, by exact dV⟩
     have : pS l[k] = false := by
      have : decide (l[k].name.length ≤ 300) = false := decide_eq_false (by omega)
      simp [pS, this]
     simp [pI, iA hlt this]
    ·have e1 : decide (l[k].data.length ≤ 12) = true := decide_eq_true (by omega)
     have e2 : decide (l[k].name.length ≤ 300) = true := decide_eq_true (by omega)
     go_loopw [4] (fun i wq => ∃ j : Nat, j ≤ l[k].data.length ∧ i = .int .i64 j ∧ Ext wr wq ∧ (l[k].data.take j).all (fun d => decide (d.length ≤ 300)) = true) (fun i _ => l[k].data.length - (intOf i).toNat)
     case atStart => exact ⟨0, Nat.zero_le _, rfl, Ext.refl _, rfl⟩
     case round =>
      obtain ⟨j, hj, rfl, hx2, hall2⟩ := hrel
      have hv3 := hv2.ext hx2
      have h1b := h1.ext hx2
      have h1c := h1d.ext hx2
      by_cases hlt2 : j < l[k].data.length
      ·have h3 := h1c.elem (eA hlt2)
       refine_lift DK (fun _ _ => ?_) (fun _ _ _ _ => ?_)
       ·go_ret
        refine ⟨?_, by exact dV⟩
        have : pS l[k] = false := by
         have : l[k].data.all (fun d => decide (d.length ≤ 300)) = false := iA hlt2 (decide_eq_false (by omega))
         simp only [pS, this, Bool.and_false]
        simp [pI, iA hlt this]
       ·exact ⟨⟨j + 1, by omega, rfl, by exact dV, jB hlt2 hall2 (decide_eq_true (by omega))⟩, by simp [intOf]; omega⟩
      ·have hj2 : j = l[k].data.length := by omega
       subst hj2
       refine_lift fP fun _ => ?_
       rw [List.take_length] at hall2
       exact ⟨⟨k + 1, by omega, rfl, by exact dV, jB hlt hall (by rw [pS, e1, e2, hall2]; rfl)⟩, by simp [intOf]; omega⟩
    ·go_ret
     refine ⟨?_, by exact dV⟩
     have : pS l[k] = false := by
      have : decide (l[k].data.length ≤ 12) = false := decide_eq_false (by omega)
      simp [pS, this]
     simp [pI, iA hlt this]
   ·have hk2 : k = l.length := by omega
    subst hk2
    refine_lift fP fun _ => ?_
    go_ret
    refine ⟨?_, by exact dV⟩
    rw [List.take_length] at hall
    rw [pI, h25, hall]
    rfl
def jZ (s : RSet) (i : Nat) : Bool := decide (aW ⟨s.name, s.kind, s.ttl, s.data.getD i []⟩ ≠ 0) || (decide (0 < i) && !Op.bytesLess (s.data.getD (i - 1) []) (s.data.getD i []))
def fC (s : RSet) : Bool := decide (fold s.name = s.name) && decide (1 ≤ s.data.length) && decide (s.data.length ≤ 20) && (List.range s.data.length).all fun i => !jZ s i
theorem rK {s : RSet} {i : Nat} (hi : i < s.data.length) (h : jZ s i = true) : fC s = false := by
 have : (List.range s.data.length).all (fun i => !jZ s i) = false := by
  rw [List.all_eq_false]
  exact ⟨i, by simpa using hi, by simp [h]⟩
 simp [fC, this]
set_option maxHeartbeats 2400000 in
theorem WV (s : RSet) (v : Value) (w : World) (hv : Sl 1 w v (aN s.data)) : Calls Tryz.prog 130 #[.agg #[aI s.name, .int .i64 s.kind, .int .i64 s.ttl, v]] w (bG w (.bool (fC s))) := by
 have hlen := aR s.data
 go_enter Tryz.func130, Tryz.ntmps130
 refine_lift hY fun _ _ => ?_
 refine aZ (vs := [aI s.name, .int .i64 s.kind, .int .i64 s.ttl, v]) rfl rfl ?_
 intro p w1 x1 hp
 refine aA ?_
 refine_lift gV fun _ _ _ _ => ?_
 refine cC (S := Ext w1) (by decide +kernel) ?_
 intro w2 x2 _
 refine tk 0 ?_; refine aA ?_; refine tk 1 ?_; refine aA ?_; refine tk 3 ?_; refine aA ?_; refine tk 4 ?_; refine aA ?_
 refine aT (i := 2) (by decide +kernel) rfl rfl ?_
 refine aB (enters_of Tryz.func62 rfl rfl) rfl rfl (NV _ _) ?_; intro w3 x3; refine aA ?_
 refine aJ ⟨by exact dV, ?_⟩
 refine tk 5 ?_; refine aA ?_
 by_cases hf : fold s.name = s.name
 ·have e1 : (decide (fold s.name = s.name)) = true := by simpa using hf
  simp only [e1, Bool.not_true]
  refine tk 6 ?_; refine aA ?_; refine tk 7 ?_; refine aA ?_; refine tk 8 ?_; refine aA ?_; refine tk 9 ?_; refine aA ?_; refine tk 10 ?_; refine aA ?_
  by_cases h1 : s.data.length < 1
  ·have e2 : decide (((aN s.data).length : Int) < 1) = true := decide_eq_true (by omega)
   simp only [e2]
   refine tk 11 ?_; refine aA ?_; refine tk 12 ?_; refine aA ?_
   refine nA 13 ?_; refine aA ?_
   refine nA 14 ?_; refine aA ?_
   refine nA 15 ?_; refine aA ?_
   refine nA 16 ?_; refine aA ?_
   refine tk 17 ?_; refine aA ?_
   refine cB (by decide +kernel) ?_
   refine_lift aS ?_
   go_ret
   refine ⟨?_, by exact dV⟩
   have : decide (1 ≤ s.data.length) = false := decide_eq_false (by omega)
   simp [fC, this]
  ·have e2 : decide (((aN s.data).length : Int) < 1) = false := decide_eq_false (by omega)
   simp only [e2]
   refine tk 11 ?_; refine aA ?_; refine tk 12 ?_; refine aA ?_; refine tk 13 ?_; refine aA ?_; refine tk 14 ?_; refine aA ?_; refine tk 15 ?_; refine aA ?_; refine tk 16 ?_; refine aA ?_; refine tk 17 ?_; refine aA ?_
   refine cB (by decide +kernel) ?_
   by_cases h2 : 20 < s.data.length
   ·have e3 : decide ((20 : Int) < ((aN s.data).length : Int)) = true := decide_eq_true (by omega)
    simp only [e3]
    refine_lift aS ?_
    go_ret
    refine ⟨?_, by exact dV⟩
    have : decide (s.data.length ≤ 20) = false := decide_eq_false (by omega)
    simp [fC, this]
   ·have e3 : decide ((20 : Int) < ((aN s.data).length : Int)) = false := decide_eq_false (by omega)
    simp only [e3]
    refine_lift bY fun _ _ => ?_
    have hxx : Ext w w3 := by exact dV
    go_loopw [3, 4, 26] (fun _ _ i wr => ∃ k : Nat, k ≤ s.data.length ∧ i = .int .i64 k ∧ Ext w3 wr ∧ ∀ j, j < k → jZ s j = false) (fun _ _ i _ => s.data.length - (intOf i).toNat)
    case atStart => exact ⟨0, Nat.zero_le _, rfl, Ext.refl _, by omega⟩
    case round =>
     obtain ⟨k, hk, rfl, hx, hall⟩ := hrel
     by_cases hlt : k < s.data.length
     ·have hvr : Sl 1 wr v (aN s.data) := hv.ext (hxx.trans hx)
      have he : (aN s.data)[k]? = some [aI s.data[k]] := by simp [aN, hlt]
      have hpe := hvr.elem he
      have hpr : Pts wr p _ := hp.ext ((x2.trans x3).trans hx)
      have hbad : jZ s k = (decide (aW ⟨s.name, s.kind, s.ttl, s.data[k]⟩ ≠ 0) || (decide (0 < k) && !Op.bytesLess (s.data.getD (k - 1) []) s.data[k])) := by
       have : s.data.getD k [] = s.data[k] := by simp [hlt]
       rw [jZ, this]
      refine_lift oM ?_; intro _ _ _ _ _ _
      refine aB (enters_of Tryz.func91 rfl rfl) rfl rfl (VS _ _ _ _) ?_; intro w7 x7; refine aA ?_
      refine_lift aS ?_
      refine aB (enters_of Tryz.func60 rfl rfl) rfl rfl (SW ⟨s.name, s.kind, s.ttl, s.data[k]⟩ _) ?_; intro w8 x8; refine aA ?_
      by_cases hc : aW ⟨s.name, s.kind, s.ttl, s.data[k]⟩ = 0
      ·have e4 : decide (aW ⟨s.name, s.kind, s.ttl, s.data[k]⟩ = 0) = true := decide_eq_true hc
       generalize aW ⟨s.name, s.kind, s.ttl, s.data[k]⟩ = cr at hc e4 hbad ⊢
       ((with_reducible refine bR ?_); (first | (refine gW ?_; refine jA ?_) | (refine jG ?_; refine kJ ?_; (with_reducible refine bR ?_); refine gW ?_; refine jA ?_)))
       simp only [e4, Bool.not_true]
       refine_lift rF (fun hc => ?_) (fun hc => ?_)
       ·have hpp : Pts wr (bX v (((k : Int) - 1).toNat * 1)) [aI (s.data.getD (k - 1) [])] := by
         have e : ((k : Int) - 1).toNat = k - 1 := by omega
         rw [e]
         refine hvr.elem ?_
         have : k - 1 < s.data.length := by omega
         simp [aN, this]
        refine_lift rF (fun _ => ?_) (fun _ => ?_)
        ·have hl := ‹(!Op.bytesLess (s.data.getD (k - 1) []) s.data[k]) = true›
         go_ret
         refine ⟨?_, by exact dV⟩
         rw [rK hlt (by rw [hbad, hl]; have : 0 < k := by omega
                        simp [this])]
         rfl
        ·have hl := ‹(!Op.bytesLess (s.data.getD (k - 1) []) s.data[k]) = false›
         exact ⟨⟨k + 1, by omega, rfl, by exact dV, fun j hj => by
          rcases Nat.lt_or_ge j k with h | h
          ·exact hall j h
          ·have : j = k := by omega
           subst this
           rw [hbad, hl]; simp [‹cr = 0›]⟩, by simp [intOf]; omega⟩
       ·exact ⟨⟨k + 1, by omega, rfl, by exact dV, fun j hj => by
         rcases Nat.lt_or_ge j k with h | h
         ·exact hall j h
         ·have : j = k := by omega
          subst this
          have : ¬ (0 < j) := by omega
          rw [hbad]; simp [‹cr = 0›, this]⟩, by simp [intOf]; omega⟩
      ·have e4 : decide (aW ⟨s.name, s.kind, s.ttl, s.data[k]⟩ = 0) = false := decide_eq_false hc
       generalize aW ⟨s.name, s.kind, s.ttl, s.data[k]⟩ = cr at hc e4 hbad ⊢
       ((with_reducible refine bR ?_); (first | (refine gW ?_; refine jA ?_) | (refine jG ?_; refine kJ ?_; (with_reducible refine bR ?_); refine gW ?_; refine jA ?_)))
       simp only [e4, Bool.not_false]
       refine_lift aS ?_
       go_ret
       refine ⟨?_, by exact dV⟩
       rw [rK hlt (by rw [hbad]; simp [hc])]
       rfl
     ·have : k = s.data.length := by omega
      subst this
      refine_lift fP fun _ => ?_
      go_ret
      refine ⟨?_, by exact dV⟩
      have h20 : decide (s.data.length ≤ 20) = true := decide_eq_true (by omega)
      have h10 : decide (1 ≤ s.data.length) = true := decide_eq_true (by omega)
      have hal : (List.range s.data.length).all (fun i => !jZ s i) = true := by
       rw [List.all_eq_true]
       intro i hi
       simp [hall i (by simpa using hi)]
      have : fC s = true := by rw [fC, hal, h20, h10, e1]; rfl
      rw [this]
      rfl
 ·have e1 : (decide (fold s.name = s.name)) = false := by simpa using hf
  simp only [e1, Bool.not_false]
  refine tk 6 ?_; refine aA ?_
  refine nA 7 ?_; refine aA ?_
  refine nA 8 ?_; refine aA ?_
  refine nA 9 ?_; refine aA ?_
  refine nA 10 ?_; refine aA ?_
  refine tk 11 ?_; refine aA ?_; refine tk 12 ?_; refine aA ?_
  refine nA 13 ?_; refine aA ?_
  refine nA 14 ?_; refine aA ?_
  refine nA 15 ?_; refine aA ?_
  refine nA 16 ?_; refine aA ?_
  refine tk 17 ?_; refine aA ?_
  refine cB (by decide +kernel) ?_
  refine_lift aS ?_
  go_ret
  refine ⟨?_, by exact dV⟩
  simp [fC, hf]
set_option maxHeartbeats 6000000 in
theorem UN (v : Value) (l : List (List UInt8)) (w : World) (hv : Sl 1 w v (aN l)) (hl : l.length ≤ 8796093022208) : Calls Tryz.prog 88 #[v] w (jE w fun v' w' => Own w.heap.size 1 9 w' v' (aN l)) := by
 have hlen := aR l
 go_enter Tryz.func88, Tryz.ntmps88
 (repeat' first | ((with_reducible refine cY ?_); go_step) | ((with_reducible refine bR ?_); first | refine fM ?_ | (refine dN ?_ ?_ <;> intro hc)) | fail)
 ·have hn := ‹uS v = true›
  go_ret
  have : aN l = [] := hv.isNil hn
  refine ⟨_, rfl, Ext.refl _, ?_⟩
  rw [this]
  exact Own.nil _ _ _ _
 ·refine jX (t := 117) (e := 9) (k := 1) (bytes := 16) (by decide +kernel) rfl ?_
  intro v2 w2 x2 s2 o2
  refine aA ?_
  refine_lift aS ?_
  refine qE (B := w.heap.size) (e := 9) (k := 1) (bytes := 16) (es := []) (fs := aN l) rfl o2 rfl (hv.ext x2) (by decide +kernel) (by simp [aN, aI, Value.oneCell']) (by omega) (by simp; omega) (by simp; omega) ?_
  intro v3 w3 o3 m3
  have x3 := o2.mvx m3 x2 (Nat.le_refl _)
  refine_lift aS ?_
  go_ret
  exact ⟨_, rfl, x3, o3⟩
def gQ (l : List RSet) (i : Nat) : Bool := match l[i]? with
 | none => false
 | some s => !fC s || (decide (0 < i) && decide (0 ≤ dQ (l.getD (i - 1) default).name s.name (l.getD (i - 1) default).kind s.kind))
def dC (l : List RSet) : Int := if 200 < l.length then 1 else if (List.range l.length).all (fun i => !gQ l i) = true then 0 else 1
theorem mC {l : List RSet} {i : Nat} (hi : i < l.length) (h : gQ l i = true) : dC l = 1 := by
 have : (List.range l.length).all (fun i => !gQ l i) = false := by
  rw [List.all_eq_false]
  exact ⟨i, by simpa using hi, by simp [h]⟩
 rw [dC, this]
 split <;> rfl
set_option maxHeartbeats 12000000 in
theorem WW (v : Value) (l : List RSet) (w : World) (hv : SetsAt w v l) : Calls Tryz.prog 81 #[v] w (bG w (.int .i64 (dC l))) := by
 obtain ⟨cv, hv1, hvl⟩ := hv.sl
 have hle := hv1.le
 go_enter Tryz.func81, Tryz.ntmps81
 refine_lift vF (fun _ _ _ => ?_) (fun _ => ?_)
 ·go_ret
  refine ⟨?_, Ext.refl _⟩
  rw [dC, if_pos (by omega)]
  rfl
 ·go_loopw [3, 4, 10] (fun _ _ i wr => ∃ k : Nat, k ≤ l.length ∧ i = .int .i64 k ∧ Ext w wr ∧ ∀ j, j < k → gQ l j = false) (fun _ _ i _ => l.length - (intOf i).toNat)
  case atStart => exact ⟨0, Nat.zero_le _, rfl, Ext.refl _, by omega⟩
  case round =>
   obtain ⟨k, hk, rfl, hx, hall⟩ := hrel
   have hv2 := hv1.ext hx
   by_cases hlt : k < l.length
   ·obtain ⟨x, h1, h1d⟩ := (hv.ext hx).elem (List.getElem?_eq_getElem hlt)
    have hbad : gQ l k = (!fC l[k] || (decide (0 < k) && decide (0 ≤ dQ (l.getD (k - 1) default).name l[k].name (l.getD (k - 1) default).kind l[k].kind))) := by
     rw [gQ, List.getElem?_eq_getElem hlt]
    refine_lift oM ?_; intro _ _ _ _ _ _
    refine aG (z := [aI [], .int .i64 0, .int .i64 0, .slice none 0 0]) rfl (by decide +kernel) ?_
    intro w2 x2 s2 h2
    refine_lift aS ?_
    refine aC (v := .agg #[aI l[k].name, .int .i64 l[k].kind, .int .i64 l[k].ttl, x]) rfl rfl rfl h2 (show aO Tryz.prog 119 4 = true by decide +kernel) rfl ?_ ?_
    ·exact iM rfl rfl rfl h1d.one
    intro w3 p3
    have x3 : Ext wr w3 := x2.move p3.mv (by rintro k ⟨⟩; exact Nat.le_refl _)
    have hp4 := aE (cs := [aI l[k].name, .int .i64 l[k].kind, .int .i64 l[k].ttl, x]) p3.this
    clear p3 h2 x2
    refine_lift bY fun _ _ => ?_
    refine cC (S := Ext w3) (by decide +kernel) ?_
    intro w4 x4 _
    refine tk 0 ?_; refine aA ?_
    refine aT (i := 1) (by decide +kernel) rfl rfl ?_
    refine aB (enters_of Tryz.func130 rfl rfl) rfl rfl (WV l[k] _ _ (h1d.ext (x3.trans x4))) ?_; intro w5 x5; refine aA ?_
    refine aJ ⟨by exact dV, ?_⟩
    cases hm : fC l[k] with
    | false =>
     rw [hm] at hbad
     refine tk 2 ?_; refine aA ?_
     try simp only [Bool.not_false]
     refine tk 3 ?_; refine aA ?_
     refine nA 4 ?_; refine aA ?_; refine nA 5 ?_; refine aA ?_; refine nA 6 ?_; refine aA ?_; refine nA 7 ?_; refine aA ?_; refine nA 8 ?_; refine aA ?_; refine nA 9 ?_; refine aA ?_; refine nA 10 ?_; refine aA ?_; refine nA 11 ?_; refine aA ?_; refine nA 12 ?_; refine aA ?_; refine nA 13 ?_; refine aA ?_; refine nA 14 ?_; refine aA ?_; refine nA 15 ?_; refine aA ?_
     refine tk 16 ?_; refine aA ?_
     refine cB (by decide +kernel) ?_
     refine_lift aS ?_
     go_ret
     refine ⟨?_, by exact dV⟩
     rw [mC hlt (by rw [hbad]; rfl)]
     rfl
    | true =>
     rw [hm] at hbad
     refine tk 2 ?_; refine aA ?_
     try simp only [Bool.not_true]
     refine tk 3 ?_; refine aA ?_; refine tk 4 ?_; refine aA ?_; refine tk 5 ?_; refine aA ?_
     by_cases hk0 : 0 < k
     ·have e5 : decide ((0 : Int) < (k : Int)) = true := decide_eq_true (by omega)
      have e6 : decide (0 < k) = true := decide_eq_true hk0
      simp only [e5]
      rw [e6] at hbad
      have hkl : k - 1 < l.length := by omega
      have hgd : l.getD (k - 1) default = l[k - 1] := by simp [hkl]
      obtain ⟨y, h9', h9d⟩ := (hv.ext hx).elem (List.getElem?_eq_getElem hkl)
      have e9 : ((k : Int) - 1).toNat = k - 1 := by omega
      have h9 : Pts wr (bX v (((k : Int) - 1).toNat * 4)) [aI l[k - 1].name, .int .i64 l[k - 1].kind, .int .i64 l[k - 1].ttl, y] := by rw [e9]; exact h9'
      rw [hgd] at hbad
      refine tk 6 ?_; refine aA ?_; refine tk 7 ?_; refine aA ?_; refine tk 8 ?_; refine aA ?_; refine tk 9 ?_; refine aA ?_; refine tk 10 ?_; refine aA ?_; refine tk 11 ?_; refine aA ?_; refine tk 12 ?_; refine aA ?_
      refine aT (i := 13) (by decide +kernel) rfl rfl ?_
      refine aB (enters_of Tryz.func131 rfl rfl) rfl rfl (VT _ _ _ _ _ _ _ _ _) ?_; intro w6 x6; refine aA ?_
      refine aJ ⟨by exact dV, ?_⟩
      refine tk 14 ?_; refine aA ?_; refine tk 15 ?_; refine aA ?_; refine tk 16 ?_; refine aA ?_
      refine cB (by decide +kernel) ?_
      by_cases hc : 0 ≤ dQ l[k - 1].name l[k].name l[k - 1].kind l[k].kind
      ·have e7 : decide (0 ≤ dQ l[k - 1].name l[k].name l[k - 1].kind l[k].kind) = true := decide_eq_true hc
       simp only [e7]
       refine_lift aS ?_
       go_ret
       refine ⟨?_, by exact dV⟩
       rw [mC hlt (by rw [hbad, e7]; rfl)]
       rfl
      ·have e7 : decide (0 ≤ dQ l[k - 1].name l[k].name l[k - 1].kind l[k].kind) = false := decide_eq_false hc
       simp only [e7]
       refine_lift aS ?_
       exact ⟨⟨k + 1, by omega, rfl, by exact dV, fun j hj => by
        rcases Nat.lt_or_ge j k with h | h
        ·exact hall j h
        ·have : j = k := by omega
         subst this
         rw [hbad, e7]; rfl⟩, by simp [intOf]; omega⟩
     ·have e5 : decide ((0 : Int) < (k : Int)) = false := decide_eq_false (by omega)
      have e6 : decide (0 < k) = false := decide_eq_false hk0
      simp only [e5]
      rw [e6] at hbad
      refine tk 6 ?_; refine aA ?_
      refine nA 7 ?_; refine aA ?_; refine nA 8 ?_; refine aA ?_; refine nA 9 ?_; refine aA ?_; refine nA 10 ?_; refine aA ?_; refine nA 11 ?_; refine aA ?_; refine nA 12 ?_; refine aA ?_; refine nA 13 ?_; refine aA ?_; refine nA 14 ?_; refine aA ?_
      refine tk 15 ?_; refine aA ?_; refine tk 16 ?_; refine aA ?_
      refine cB (by decide +kernel) ?_
      refine_lift aS ?_
      exact ⟨⟨k + 1, by omega, rfl, by exact dV, fun j hj => by
       rcases Nat.lt_or_ge j k with h | h
       ·exact hall j h
       ·have : j = k := by omega
        subst this
        rw [hbad]; rfl⟩, by simp [intOf]; omega⟩
   ·have hk2 : k = l.length := by omega
    subst hk2
    refine_lift fP fun _ => ?_
    go_ret
    refine ⟨?_, by exact dV⟩
    have : (List.range l.length).all (fun i => !gQ l i) = true := by
     rw [List.all_eq_true]
     intro i hi
     simp [hall i (by simpa using hi)]
    rw [dC, this, if_neg (by omega)]
    rfl
def FX (n : List UInt8) (k : Int) (s : RSet) : Bool := decide (s.name = n) && decide (s.kind = k)
def fK (l : List RSet) (n : List UInt8) (k : Int) : Option RSet := l.find? (FX (fold n) k)
def gR : List Value := [aI [], .int .i64 0, .int .i64 0, .slice none 0 0]
theorem oN {α : Type} {p : α → Bool} {l : List α} {k : Nat} (h : k < l.length) (ha : (l.take k).find? p = none) (hp : p l[k] = false) : (l.take (k + 1)).find? p = none := by
 rw [List.take_add_one, List.getElem?_eq_getElem h, List.find?_append, ha]
 simp [hp]
theorem BP {α : Type} {p : α → Bool} {l : List α} {k : Nat} (h : k < l.length) (ha : (l.take k).find? p = none) (hp : p l[k] = true) : l.find? p = some l[k] := by
 have e : l = l.take k ++ (l[k] :: l.drop (k + 1)) := by rw [← List.drop_eq_getElem_cons h, List.take_append_drop]
 have : l.find? p = (l.take k ++ (l[k] :: l.drop (k + 1))).find? p := congrArg _ e
 rw [this, List.find?_append, ha, List.find?_cons, hp]
 rfl
set_option maxHeartbeats 12000000 in
theorem UO (v : Value) (l : List RSet) (n : List UInt8) (kd : Int) (w : World) (hv : SetsAt w v l) (hb : ∀ s ∈ l, s.data.length ≤ 8796093022208) : Calls Tryz.prog 79 #[v, aI n, .int .i64 kd] w (jE w fun r w' => match fK l n kd with
 | some s => ∃ x, r = .tuple #[.agg #[aI s.name, .int .i64 s.kind, .int .i64 s.ttl, x], .bool true] ∧ Own w.heap.size 1 9 w' x (aN s.data)
 | none => r = .tuple #[.agg gR.toArray, .bool false]) := by
 obtain ⟨cv, hv1, hvl⟩ := hv.sl
 have hle := hv1.le
 go_enter Tryz.func79, Tryz.ntmps79
 refine_lift uL ?_; intro _ _ _
 refine aG (z := gR) rfl (by decide +kernel) ?_
 intro w1 x1 s1 h1
 refine_lift bY fun _ _ => ?_
 refine aB (enters_of Tryz.func62 rfl rfl) rfl rfl (NV _ _) ?_; intro w2 x2; refine aA ?_
 have h2 := x2.at h1
 have x12 : Ext w w2 := x1.trans x2
 refine_lift bY fun _ _ => ?_
 have hv2 := hv1.ext x12
 refine_lift aS ?_
 go_loopw [9, 14] (fun _ i wr => ∃ k : Nat, k ≤ l.length ∧ i = .int .i64 k ∧ Ext w2 wr ∧ (l.take k).find? (FX (fold n) kd) = none) (fun _ i _ => l.length - (intOf i).toNat)
 case atStart => exact ⟨0, Nat.zero_le _, rfl, Ext.refl _, rfl⟩
 case round =>
  obtain ⟨k, hk, rfl, hx, hall⟩ := hrel
  have hxw : Ext w wr := x12.trans hx
  have hv2 := hv1.ext hxw
  have h3 := hx.at h2
  by_cases hlt : k < l.length
  ·obtain ⟨x, h4, h4d⟩ := (hv.ext hxw).elem (List.getElem?_eq_getElem hlt)
   have hbk := hb _ (List.getElem_mem hlt)
   refine_lift oM ?_; intro _ _ _ _ _ _
   refine aG (z := gR) rfl (by decide +kernel) ?_
   intro w5 x5 s5 h5
   refine_lift aS ?_
   refine aC (v := .agg #[aI l[k].name, .int .i64 l[k].kind, .int .i64 l[k].ttl, x]) rfl rfl rfl h5 (show aO Tryz.prog 119 4 = true by decide +kernel) rfl (iM rfl rfl rfl h4d.one) ?_
   intro w6 p6
   have x6 : Ext wr w6 := x5.move p6.mv (by rintro k ⟨⟩; exact Nat.le_refl _)
   have b6 := p6.this
   have hp6 := aE (cs := [aI l[k].name, .int .i64 l[k].kind, .int .i64 l[k].ttl, x]) b6
   have z6 : w6.heap.size = wr.heap.size + 1 := p6.size.trans s5
   clear p6 h5 x5
   refine_lift DL (fun hc _ => ?_) (fun hc => ?_) (fun hc _ _ _ => ?_)
   ·have hh : fK l n kd = some l[k] := BP hlt hall (by have h1 := ‹l[k].name = fold n›; have h2 := ‹l[k].kind = kd›; simp [FX, h1, h2])
    refine aK (enters_of Tryz.func88 rfl rfl) rfl rfl (UN x l[k].data _ (h4d.ext x6) hbk) ?_
    intro y w7 x7 o7
    refine aA ?_
    refine_lift aS ?_
    have b7 := x7.at b6
    refine dP (cs := [aI l[k].name, .int .i64 l[k].kind, .int .i64 l[k].ttl, x]) b7 rfl rfl rfl (by simp) (by decide +kernel) o7.one ?_
    intro w8 p8
    have x68 : Ext wr w8 := (x6.trans x7).move p8.mv (by rintro k ⟨⟩; exact Nat.le_refl _)
    have hp8 := aE (cs := [aI l[k].name, .int .i64 l[k].kind, .int .i64 l[k].ttl, y]) p8.this
    have h8 := x68.at h3
    have o8 : Own (w.heap.size + 1) 1 9 w8 y (aN l[k].data) := (o7.put p8 (by omega)).weaken (by have := hx.size; have := x2.size; omega)
    clear hp6 b6 b7 p8
    refine_lift bY fun _ _ => ?_
    refine aC (v := .agg #[aI l[k].name, .int .i64 l[k].kind, .int .i64 l[k].ttl, y]) rfl rfl rfl h8 (show aO Tryz.prog 119 4 = true by decide +kernel) rfl (iM rfl rfl rfl o7.one) ?_
    intro w9 p9
    have x9 : Ext w w9 := (hxw.trans x68).move p9.mv (by rintro k ⟨⟩; exact Nat.le_refl _)
    have o9 : Own (w.heap.size + 1) 1 9 w9 y (aN l[k].data) := o8.put p9 (by omega)
    refine_lift aS ?_
    refine bodyPost_ret (aH (cs := [aI l[k].name, .int .i64 l[k].kind, .int .i64 l[k].ttl, y]) rfl rfl p9.this (show dY Tryz.prog 119 4 = true by decide +kernel)) rfl ⟨_, rfl, x9, ?_⟩
    rw [hh]
    exact ⟨y, rfl, o9.weaken (by omega)⟩
   ·exact ⟨⟨k + 1, by omega, rfl, by exact dV, oN hlt hall (by have h2 := ‹¬l[k].kind = kd›; simp [FX, h2])⟩, by simp [intOf]; omega⟩
   ·exact ⟨⟨k + 1, by omega, rfl, by exact dV, oN hlt hall (by have h2 := ‹¬l[k].name = fold n›; simp [FX, h2])⟩, by simp [intOf]; omega⟩
  ·have hk2 : k = l.length := by omega
   subst hk2
   rw [List.take_length] at hall
   refine_lift kL fun _ _ _ => ?_
   refine aQ rfl (Runs.build0 (cells := gR.toArray) (by kernel_rfl)) ?_
   refine aA ?_
   refine aC (v := .agg gR.toArray) rfl rfl rfl h3 (show aO Tryz.prog 119 4 = true by decide +kernel) rfl (iM rfl rfl rfl rfl) ?_
   intro w4 p4
   have x4 : Ext w w4 := hxw.move p4.mv (by rintro k ⟨⟩; exact Nat.le_refl _)
   refine_lift aS ?_
   refine bodyPost_ret (aH (cs := gR) rfl rfl p4.this (by decide +kernel)) rfl ⟨_, rfl, x4, ?_⟩
   have hh : fK l n kd = none := hall
   rw [hh]
   rfl
def eM (s : RSet) (d : List UInt8) : Rec := ⟨s.name, s.kind, s.ttl, d⟩
def dZ (s : RSet) : List Rec := s.data.map (eM s)
def aF (l : List RSet) : List Rec := (l.map dZ).flatten
theorem eS {α β : Type} {f : α → β} {l : List α} {k : Nat} (h : k < l.length) : (l.take (k + 1)).map f = (l.take k).map f ++ [f l[k]] := by
 rw [List.take_add_one, List.getElem?_eq_getElem h, List.map_append]
 simp
theorem BQ {α : Type} (L : List (List α)) (k : Nat) : (L.take k).flatten.length ≤ L.flatten.length := by
 conv => rhs; rw [← List.take_append_drop k L, List.flatten_append]
 simp
def iB (l : List RSet) (k : Nat) : List Rec := ((l.take k).map dZ).flatten
theorem kE {l : List RSet} {k : Nat} (h : k < l.length) : iB l (k + 1) = iB l k ++ dZ l[k] := by
 rw [iB, eS h, List.flatten_append]
 simp [iB]
theorem DQ (l : List RSet) (k : Nat) : (iB l k).length ≤ (aF l).length := by
 rw [iB, aF, List.map_take]
 exact BQ _ _
theorem sR (l : List RSet) : iB l l.length = aF l := by rw [iB, List.take_length, aF]
set_option maxHeartbeats 12000000 in
theorem SX (v : Value) (l : List RSet) (w : World) (hv : SetsAt w v l) (hb : (aF l).length ≤ 1000000) : Calls Tryz.prog 40 #[v] w (jE w fun r w' => Own w.heap.size 4 47 w' r (aD (aF l))) := by
 obtain ⟨cv, hv1, hvl⟩ := hv.sl
 have hle := hv1.le
 go_enter Tryz.func40, Tryz.ntmps40
 refine_lift kL ?_; intro _ _ _
 go_loopw [3, 5, 7, 10, 17] (fun o _ _ i _ wr => ∃ k : Nat, k ≤ l.length ∧ i = .int .i64 k ∧ Ext w wr ∧ Own w.heap.size 4 47 wr o (aD (iB l k))) (fun _ _ _ i _ _ => l.length - (intOf i).toNat)
 case atStart => exact ⟨0, Nat.zero_le _, rfl, Ext.refl _, Own.nil _ _ _ _⟩
 case round =>
  obtain ⟨k, hk, rfl, hx, ho⟩ := hrel
  have hv2 := hv1.ext hx
  by_cases hlt : k < l.length
  ·obtain ⟨x, h4, h4d⟩ := hv.elem (List.getElem?_eq_getElem hlt)
   have hdl := aR l[k].data
   have hdle := h4d.le
   have hlo := hx.size
   refine_lift oM ?_; intro _ _ _ _ _ _
   refine aG (z := gR) rfl (by decide +kernel) ?_
   intro w5 x5 s5 h5
   refine_lift aS ?_
   refine aC (v := .agg #[aI l[k].name, .int .i64 l[k].kind, .int .i64 l[k].ttl, x]) rfl rfl rfl h5 (show aO Tryz.prog 119 4 = true by decide +kernel) rfl (iM rfl rfl rfl h4d.one) ?_
   intro w6 p6
   have x6 : Ext wr w6 := x5.move p6.mv (by rintro k ⟨⟩; exact Nat.le_refl _)
   have b6 : w6.heap[wr.heap.size]? = some (.cells [aI l[k].name, .int .i64 l[k].kind, .int .i64 l[k].ttl, x].toArray 119 (0, 0)) := p6.this
   have z6 : wr.heap.size < w6.heap.size := by have := p6.size; omega
   have o6 := ho.ext x6
   have xw6 := hx.trans x6
   have hne6 : u3.ownBlock ≠ some wr.heap.size := fun e => by have := ho.block _ e; omega
   clear p6 h5 x5 s5
   have hp6 := aE b6
   refine_lift aS ?_
   clear hp6
   generalize wr.heap.size = b at b6 z6 hne6 hlo ⊢
   go_loopw [3, 7, 17] (fun o _ i wq => ∃ j : Nat, j ≤ l[k].data.length ∧ i = .int .i64 j ∧ Ext w wq ∧ b < wq.heap.size ∧ wq.heap[b]? = some (.cells [aI l[k].name, .int .i64 l[k].kind, .int .i64 l[k].ttl, x].toArray 119 (0, 0)) ∧ o.ownBlock ≠ some b ∧ Own w.heap.size 4 47 wq o (aD (iB l k ++ (l[k].data.take j).map (eM l[k])))) (fun _ _ i _ => l[k].data.length - (intOf i).toNat)
   case atStart => exact ⟨0, Nat.zero_le _, rfl, xw6, z6, b6, hne6, by simpa using o6⟩
   case round =>
    obtain ⟨j, hj, rfl, hxq, hz, hbq, hne, hoq⟩ := hrel
    have hpq := aE hbq
    by_cases hlt2 : j < l[k].data.length
    ·have h3 := h4d.elem (eA hlt2)
     have hle1 := DQ l (k + 1)
     rw [kE hlt, List.length_append] at hle1
     have hle2 : (dZ l[k]).length = l[k].data.length := by simp [dZ]
     have hcl : (aD (iB l k ++ (l[k].data.take j).map (eM l[k]))).length = (iB l k).length + j := by simp [aD]; omega
     refine_lift gV ?_; intro _ _ _ _
     refine aB (enters_of Tryz.func91 rfl rfl) rfl rfl (VS l[k] x l[k].data[j] _) ?_; intro w7 x7; refine aA ?_
     refine_lift aS ?_
     refine bZ (e := 47) (k := 4) (bytes := 48) (xs := [.agg #[aI l[k].name, .int .i64 l[k].kind, .int .i64 l[k].ttl, aI l[k].data[j]]]) rfl rfl rfl (by simp [Value.cells]) (by decide +kernel) (by simp) ?_
     intro v8 w8 x8 s8 sl8 _
     refine aA ?_
     refine_lift aS ?_
     refine fT (B := w.heap.size) (e := 47) (k := 4) (bytes := 48) rfl (hoq.ext (x7.trans x8)) rfl sl8 (by decide +kernel) (by simp [Value.cells, aI, Value.oneCell']) (by have := hxq.size; have := x7.size; omega) (by rw [hcl]; simp; omega) (by rw [hcl]; simp; omega) ?_
     intro v9 w9 o9 m9 k9
     have hb8 := (x7.trans x8).at hbq
     have hb9 := m9.at hb8 (fun e => hne e.symm)
     have x9 : Ext w w9 := (hoq.ext (x7.trans x8)).mvx m9 (hxq.trans (x7.trans x8)) (Nat.le_refl _)
     refine_lift aS ?_
     refine ⟨⟨j + 1, by omega, rfl, x9, ?_, hb9, ?_, ?_⟩, by simp [intOf]; omega⟩
     ·have := x7.size; have := x8.size; have := m9.size; omega
     ·rcases k9 with h | h
      ·rw [h]; exact hne
      ·rw [h]; intro e; have := Option.some.inj e; have := x7.size; omega
     ·rw [eS hlt2, ← List.append_assoc]
      simpa [aD, eM, Rec.cells, Value.cells] using o9
    ·have hj2 : j = l[k].data.length := by omega
     subst hj2
     refine_lift fP fun _ => ?_
     exact ⟨⟨k + 1, by omega, rfl, hxq, by rw [kE hlt]; rw [List.take_length] at hoq; exact hoq⟩, by simp [intOf]; omega⟩
  ·have hk2 : k = l.length := by omega
   subst hk2
   refine_lift fP fun _ => ?_
   go_ret
   refine ⟨_, rfl, hx, ?_⟩
   rw [sR] at ho
   exact ho
end Go.Proofs.X
