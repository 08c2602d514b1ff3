/- Laws and walks that the proof of the statement is made of (part 6). -/
import Derived.Test.YtgljkfpcadempaaGreatP5
set_option linter.unusedSimpArgs false
set_option linter.unusedVariables false
namespace Go.Proofs.X
open Go.RowKit
set_option maxRecDepth 100000
def xJ (r : Rec) : Bool := decide (bF r = 0)
def kV (s : RSet) : RSet := ⟨s.name, s.kind, s.ttl, Lib.compact (s.data.mergeSort fun x y => decide (x ≤ y))⟩
theorem iX {n : List UInt8} {r : Rec} (h : bF r = 0) : (aX r.name).isSome = true ∧ 1 ≤ r.kind ∧ r.kind ≤ 65535 := by
 unfold bF at h
 split at h
 ·omega
 ·split at h
  ·omega
  ·split at h
   ·rename_i h1; exact ⟨h1, by omega, by omega⟩
   ·omega
theorem pW (n : List UInt8) (h : (aX n).isSome = true) : (fold n).length ≤ 254 := by
 unfold fold
 cases hl : aX n with
 | none => rw [hl] at h; cases h
 | some ls =>
  simp only
  cases hj : nP (ls.map low) with
  | none => simp
  | some m =>
   unfold nP at hj
   split at hj
   ·rename_i hh; cases hj; simpa using hh.2
   ·cases hj
theorem AT {w : World} {a b t t' : Nat} {x y : Array Value} {f f' : Nat × Nat} (ha : w.heap[a]? = some (.cells x t f)) (hb : w.heap[b]? = some (.cells y t' f')) (h : t ≠ t') : a ≠ b := by
 rintro rfl
 rw [ha] at hb
 simp only [Option.some.injEq, Obj.cells.injEq] at hb
 exact h hb.2.1
theorem jI {gcs : List GC} {i : Nat} {c c' : GC} (hi : gcs[i]? = some c) (h : c'.key = c.key) : (gcs.set i c').map GC.key = gcs.map GC.key := by
 rw [List.map_set, h]
 apply List.ext_getElem?
 intro j
 by_cases e : i = j
 ·subst e
  rw [List.getElem?_set_self (by simpa using (List.getElem?_eq_some_iff.1 hi).1), List.getElem?_map, hi]; rfl
 ·rw [List.getElem?_set_ne e]
theorem lP {gcs : List GC} {i : Nat} {c c' : GC} (hi : gcs[i]? = some c) (h : c'.kcells = c.kcells) : (gcs.set i c').map GC.kcells = gcs.map GC.kcells := by
 rw [List.map_set, h]
 apply List.ext_getElem?
 intro j
 by_cases e : i = j
 ·subst e
  rw [List.getElem?_set_self (by simpa using (List.getElem?_eq_some_iff.1 hi).1), List.getElem?_map, hi]; rfl
 ·rw [List.getElem?_set_ne e]
theorem uP (l : List Rec) : ∀ (l2 : List Rec) (gs : List RSet), (∀ s : RSet, s ∈ gs → ∃ r ∈ l, s.name = fold r.name ∧ s.kind = r.kind) → (∀ r ∈ l2, r ∈ l) → ∀ s : RSet, s ∈ l2.foldl dG gs → ∃ r ∈ l, s.name = fold r.name ∧ s.kind = r.kind
 | [], gs, h, _ => h
 | r :: l2, gs, h, hsub => by
   refine uP l l2 _ (fun s hs => ?_) (fun r hr => hsub r (by simp [hr]))
   rcases oH hs with ⟨t, ht, e1, e2⟩ | ⟨e1, e2⟩
   ·obtain ⟨r, hr, f1, f2⟩ := h t ht
    exact ⟨r, hr, by rw [← e1, f1], by rw [← e2, f2]⟩
   ·exact ⟨r, hsub r (by simp), e1, e2⟩
theorem xK {l : List Rec} {s : RSet} (h : s ∈ cK l) : ∃ r ∈ l, s.name = fold r.name ∧ s.kind = r.kind :=
 uP l l [] (by simp) (fun _ h => h) s h
theorem GB (r : Rec) : bF r = 0 ∨ bF r = 1 := by
 unfold bF
 split
 ·exact .inr rfl
 ·split
  ·exact .inr rfl
  ·split
   ·exact .inl rfl
   ·exact .inr rfl
def dW (l : List Rec) : List RSet := (cK l).map kV
def IR (s : RSet) : Bool := decide (20 < s.data.length)
def gL (l : List Rec) : Int := if l.all xJ = false then 1 else if (dW l).any IR = true then 4 else if 200 < (dW l).length then 4 else 0
def oI (l : List RSet) : Prop := ∀ (i j : Nat) (s t : RSet), i < j → l[i]? = some s → l[j]? = some t → 0 ≤ dS t.name s.name t.kind s.kind
def CX (l : List Rec) (r : Value) (w' : World) : Prop :=
 if gL l = 0 then ∃ out v, r = .tuple #[v, .int .i64 0] ∧ out.Perm (dW l) ∧ oI out ∧ SetsAt w' v out else r = .tuple #[.slice none 0 0, .int .i64 (gL l)]
def GroupO (B : Nat) (l : List Rec) (r : Value) (w' : World) : Prop :=
 if gL l = 0 then ∃ out v, r = .tuple #[v, .int .i64 0] ∧ out.Perm (dW l) ∧ oI out ∧ SetsO B w' v out else r = .tuple #[.slice none 0 0, .int .i64 (gL l)]
theorem GroupO.group {B : Nat} {l : List Rec} {r : Value} {w' : World} (h : GroupO B l r w') : CX l r w' := by
 unfold GroupO at h
 unfold CX
 split at h
 ·rename_i h0
  rw [if_pos h0]
  obtain ⟨out, v, h1, h2, h3, h4⟩ := h
  exact ⟨out, v, h1, h2, h3, h4.sets⟩
 ·rename_i h0
  rw [if_neg h0]
  exact h
def vA : Value → Option Addr | .slice a _ _ => a | _ => none
def vN : Value → Nat | .slice _ n _ => n | _ => 0
def vC : Value → Nat | .slice _ _ c => c | _ => 0
def GC.toC (c : GC) : SetC := ⟨c.s.name, c.s.kind, c.s.ttl, vA c.v, vN c.v, vC c.v, c.s.data⟩
def SetC.toS (s : SetC) : RSet := ⟨s.name, s.kind, s.ttl, s.d⟩
theorem Sl.isSlice {k : Nat} {w : World} {v : Value} {es : List (List Value)} (h : Sl k w v es) : v = .slice (vA v) (vN v) (vC v) := by
 obtain ⟨a, cap, rfl, _⟩ := h; rfl
theorem GC.toC_cells {w : World} {B : Nat} {c : GC} (h : GOK w B c) : c.toC.cells = c.cells := by
 simp only [SetC.cells, GC.toC, GC.cells, SetC.v, ← h.own.sl.isSlice]
theorem L1.mvOut {w0 w w' : World} {kv out : Value} {gcs : List GC} {es : List (List Value)} (h : L1 w0 w kv gcs) (m : Mv out.ownBlock w w') (ho : Own (w0.heap.size + 1) 4 131 w out es) (hob : ∀ c ∈ gcs, out.ownBlock ≠ some c.b) : L1 w0 w' kv gcs := by
 obtain ⟨es', ck, hm1, _⟩ := h.map.out
 refine ⟨h.ext.move m (fun k hk => by have := (ho.block k hk).1; omega), h.map.at (fun o hh => m.at hh (fun e => ho.neMap hm1 e.symm)), h.keys.mv m (h.keys.ne ho (by omega)), h.sets.mv m fun c hc => ⟨fun e => hob c hc e.symm, (h.sets.each c hc).own.ne ho (by omega)⟩⟩
set_option maxHeartbeats 24000000 in
theorem SZ (v : Value) (l : List Rec) (w : World) (hv : Sl 4 w v (aR l)) (hl : l.length ≤ 10000) : Calls Tryz.prog 60 #[v] w (sX w (GroupO w.heap.size l)) := by
 have hle := bD l
 go_enter Tryz.func60, Tryz.ntmps60
 refine_lift zW fun _ _ => ?_
 refine_lift gA fun _ _ => ?_
 refine mN (kt := 166) rfl ?_
 intro w1 x1 s1 h1
 refine aA ?_
 refine_lift gA fun _ _ => ?_
 go_loopw [5, 7, 8, 9, 10, 11, 19] (fun kv _ _ _ _ _ i wr => ∃ (k : Nat) (gcs : List GC), k ≤ l.length ∧ i = .int .i64 k ∧ L1 w wr kv gcs ∧ (l.take k).all xJ = true ∧ gcs.map GC.s = cK (l.take k)) (fun _ _ _ _ _ _ i _ => l.length - (intOf i).toNat)
 case atStart => exact ⟨0, [], Nat.zero_le _, rfl, ⟨x1, h1, Own.nil _ _ _ _, ⟨by simp, by simp⟩⟩, rfl, rfl⟩
 case round =>
  obtain ⟨k, gcs, hk, rfl, hL, hall, hgs⟩ := hrel
  have hx := hL.ext
  have hv2 := hv.ext hx
  by_cases hlt : k < l.length
  ·have hp := hv2.elem (jB hlt)
   refine_lift HW ?_; intro _ _ _ _ _ _
   refine aN (z := [aI [], .int .i64 0, .int .i64 0, aI []]) rfl (by decide +kernel) ?_
   intro w5 x5 s5 h5
   refine_lift dL ?_
   refine aG (v := .agg #[aI l[k].name, .int .i64 l[k].kind, .int .i64 l[k].ttl, aI l[k].data]) rfl rfl rfl h5 (show aZ Tryz.prog 106 4 = true by decide +kernel) rfl (iV rfl rfl rfl rfl) ?_
   intro w6 p6
   have x6 : Ext wr w6 := x5.move p6.mv (by rintro k ⟨⟩; exact Nat.le_refl _)
   have hp6 := aD (cs := [aI l[k].name, .int .i64 l[k].kind, .int .i64 l[k].ttl, aI l[k].data]) p6.this
   have z6 : w6.heap.size = wr.heap.size + 1 := p6.size.trans s5
   have b6 : w6.heap[wr.heap.size]? = some (.cells [aI l[k].name, .int .i64 l[k].kind, .int .i64 l[k].ttl, aI l[k].data].toArray 106 (0, 0)) := p6.this
   have hL6 := hL.grow x6
   clear p6 h5 x5
   refine_lift CI fun _ _ _ _ => ?_
   refine aE (enters_of Tryz.func100 rfl rfl) rfl rfl (QR l[k] _) ?_; intro w7 x7; refine aA ?_
   refine_lift FX (fun _ _ _ => ?_) (fun _ => ?_)
   ·have hbad := ‹(!decide (bF l[k] = 0)) = true›
    have hne : bF l[k] ≠ 0 := by simpa using hbad
    have h1 : bF l[k] = 1 := (GB _).resolve_left hne
    go_ret2
    refine ⟨_, rfl, hx.trans (x6.trans x7), ?_⟩
    have hE : gL l = 1 := by rw [gL, if_pos (uM hlt (by simp [xJ, hne]))]
    unfold GroupO
    rw [hE, if_neg (by omega), ← h1]
    rfl
   ·have hc0 : bF l[k] = 0 := by have := ‹(!decide (bF l[k] = 0)) = false›; simpa using this
    obtain ⟨hlab, hk1, hk2⟩ := iX (n := []) hc0
    have hL7 := hL6.grow x7
    apply PF (F := fun (kb : Nat) w' => Ext w7 w' ∧ w7.heap.size ≤ kb ∧ w'.heap[kb]? = some (.cells [aI (fold l[k].name), .int .i64 l[k].kind].toArray 166 (0, 0)))
    ·intro hK
     refine dU (S := Ext w7) (by decide +kernel) ?_
     intro w8 x8 _
     refine tk 0 ?_; refine aA ?_; refine tk 1 ?_; refine aA ?_; refine tk 3 ?_; refine aA ?_; refine tk 4 ?_; refine aA ?_
     refine KW (i := 2) (j := 6) (by decide +kernel) rfl rfl rfl ?_ ?_
     ·refine aE (enters_of Tryz.func32 rfl rfl) rfl rfl (IK _ _) ?_; intro w9 x9; refine aA ?_
      refine aL ⟨by exact fC, ?_⟩
      refine dK (i := 5) (v := .agg #[aI (fold l[k].name), .int .i64 l[k].kind]) rfl rfl (by decide +kernel) (by decide +kernel) (by decide +kernel) rfl (by exact fC) (fun w' _ => Runs.build rfl (by kernel_rfl)) (fun _ _ _ h => h) ?_
      refine aA ?_
      refine eO (i := 6) (by decide +kernel) rfl rfl ?_
      refine aN (z := [aI [], .int .i64 0]) rfl (by decide +kernel) ?_
      intro w10 x10 s10 h10
      refine aA ?_
      refine aL ⟨by exact fC, ?_⟩
      refine eO (i := 7) (by decide +kernel) rfl rfl ?_
      refine aG (v := .agg #[aI (fold l[k].name), .int .i64 l[k].kind]) rfl rfl rfl h10 (show aZ Tryz.prog 166 2 = true by decide +kernel) rfl (by simp [Value.cells, aI, Value.oneCell']) ?_
      intro w11 p11
      have x11 : Ext w7 w11 := ((x8.trans x9).trans x10).move p11.mv (by rintro k ⟨⟩; have := x8.size; have := x9.size; omega)
      refine aL ⟨x11, ?_⟩
      refine dR (by decide +kernel) ?_
      have b11 := p11.this
      clear p11 h10
      have z11 : w7.heap.size ≤ w9.heap.size := Nat.le_trans x8.size x9.size
      generalize w9.heap.size = kb at b11 z11 ⊢
      exact hK kb w11 ⟨x11, z11, b11⟩
     ·refine aN (z := [aI [], .int .i64 0]) rfl (by decide +kernel) ?_
      intro w9 x9 s9 h9
      refine aA ?_
      refine aL ⟨by exact fC, ?_⟩
      refine eO (i := 2) (by decide +kernel) rfl rfl ?_
      refine aE (enters_of Tryz.func32 rfl rfl) rfl rfl (IK _ _) ?_; intro w10 x10; refine aA ?_
      refine aL ⟨by exact fC, ?_⟩
      refine dK (i := 5) (v := .agg #[aI (fold l[k].name), .int .i64 l[k].kind]) rfl rfl (by decide +kernel) (by decide +kernel) (by decide +kernel) rfl (by exact fC) (fun w' _ => Runs.build rfl (by kernel_rfl)) (fun _ _ _ h => h) ?_
      refine aA ?_
      refine eO (i := 7) (by decide +kernel) rfl rfl ?_
      refine aG (v := .agg #[aI (fold l[k].name), .int .i64 l[k].kind]) rfl rfl rfl (x10.at h9) (show aZ Tryz.prog 166 2 = true by decide +kernel) rfl (by simp [Value.cells, aI, Value.oneCell']) ?_
      intro w11 p11
      have x11 : Ext w7 w11 := ((x8.trans x9).trans x10).move p11.mv (by rintro k ⟨⟩; have := x8.size; omega)
      refine aL ⟨x11, ?_⟩
      refine dR (by decide +kernel) ?_
      have b11 := p11.this
      clear p11 h9
      have z11 : w7.heap.size ≤ w8.heap.size := x8.size
      generalize w8.heap.size = kb at b11 z11 ⊢
      exact hK kb w11 ⟨x11, z11, b11⟩
    ·rintro kb w8 ⟨x8, zkb, hkb⟩
     have hpk := aD hkb
     refine_lift gA fun _ _ => ?_
     have hL8 := hL7.grow x8
     have hr8 := (x7.trans x8).at b6
     have hfl := pW _ hlab
     obtain ⟨lx, hlx⟩ := EL (fold l[k].name) l[k].kind (by omega) (by omega)
     have hzv : ∀ w, (zeroValue 167).run Tryz.prog w = .ok (.pointer none) w := fun w => by kernel_rfl
     obtain ⟨u, bb, hrl, hcase⟩ := gJ IN (show mM Tryz.prog 163 166 167 = true by decide +kernel) hzv hL8.map hlx true
     refine cT rfl (Runs.lookup rfl rfl hrl) ?_
     refine aA ?_
     rcases hcase with ⟨i, hie, rfl⟩ | ⟨hno, rfl, rfl⟩
     ·rw [List.getElem?_map] at hie
      cases hi : gcs[i]? with
      | none => rw [hi] at hie; cases hie
      | some c =>
      rw [hi, Option.map_some] at hie
      simp only [GC.key, Option.some.injEq, Prod.mk.injEq, Value.agg.injEq] at hie
      obtain ⟨hie1, rfl⟩ := hie
      have hcn : c.s.name = fold l[k].name ∧ c.s.kind = l[k].kind := by
       have := congrArg Array.toList hie1
       simp only [List.cons.injEq, aI, Value.string.injEq, Value.int.injEq, true_and, and_true, ByteArray.mk.injEq] at this
       exact ⟨by simpa using this.1, this.2⟩
      have hgi : (cK (l.take k))[i]? = some c.s := by rw [← hgs, List.getElem?_map, hi]; rfl
      refine_lift gA fun _ _ => ?_
      have hdl : (aS c.s.data).length ≤ 20000 := by
       have h1 := AQ (List.mem_of_getElem? hgi)
       rw [pO, List.length_take] at h1
       rw [bN]; omega
      have hfin : List.set (gcs.map GC.s) i (iM c.s l[k]) = cK (l.take (k + 1)) := by
       rw [hgs, mR hlt]
       exact (xG hgi (by simp [bH, hcn.1, hcn.2]) (iW _)).symm
      have hM := hL8
      have hr9 := hr8
      obtain ⟨w9, hw9⟩ : ∃ w9, w9 = w8 := ⟨_, rfl⟩
      rw [← hw9] at hM hr9 ⊢
      obtain ⟨gcs1, hg1⟩ : ∃ g, g = gcs := ⟨_, rfl⟩
      obtain ⟨kv, hkv⟩ : ∃ g, g = u5 := ⟨_, rfl⟩
      rw [← hg1] at hM hi hfin
      rw [← hkv] at hM ⊢
      have hc := hM.sets.each c (List.mem_of_getElem? hi)
      have hpc := aD (cs := c.cells) hc.blk
      have hpr := aD hr9
      refine cA 10 (Ext w9) (by decide +kernel) ?_
      intro w10 x10 _
      refine ⟨x10, ?_⟩
      ((with_reducible apply bB (i := 0)); (rfl); (rfl); (rfl); (decide +kernel); (decide +kernel); (decide +kernel); (decide +kernel); (rfl); (intro _ _; exact rn); (exact fun _ _ _ h => h); (refine aA ?_)); ((with_reducible apply bB (i := 1)); (rfl); (rfl); (rfl); (decide +kernel); (decide +kernel); (decide +kernel); (decide +kernel); (rfl); (intro _ _; exact rn); (exact fun _ _ _ h => h); (refine aA ?_)); ((with_reducible apply bB (i := 2)); (rfl); (rfl); (rfl); (decide +kernel); (decide +kernel); (decide +kernel); (decide +kernel); (rfl); (intro _ _; exact rn); (exact fun _ _ _ h => h); (refine aA ?_)); ((with_reducible apply bB (i := 3)); (rfl); (rfl); (rfl); (decide +kernel); (decide +kernel); (decide +kernel); (decide +kernel); (rfl); (intro _ _; exact rn); (exact fun _ _ _ h => h); (refine aA ?_)); ((with_reducible apply bB (i := 4)); (rfl); (rfl); (rfl); (decide +kernel); (decide +kernel); (decide +kernel); (decide +kernel); (rfl); (intro _ _; exact rn); (exact fun _ _ _ h => h); (refine aA ?_)); ((with_reducible apply bB (i := 5)); (rfl); (rfl); (rfl); (decide +kernel); (decide +kernel); (decide +kernel); (decide +kernel); (rfl); (intro _ _; exact rn); (exact fun _ _ _ h => h); (refine aA ?_)); ((with_reducible apply bB (i := 6)); (rfl); (rfl); (rfl); (decide +kernel); (decide +kernel); (decide +kernel); (decide +kernel); (rfl); (intro _ _; exact rn); (exact fun _ _ _ h => h); (refine aA ?_)); ((with_reducible apply bB (i := 7)); (rfl); (rfl); (rfl); (decide +kernel); (decide +kernel); (decide +kernel); (decide +kernel); (rfl); (intro _ _; exact rn); (exact fun _ _ _ h => h); (refine aA ?_)); ((with_reducible apply bB (i := 8)); (rfl); (rfl); (rfl); (decide +kernel); (decide +kernel); (decide +kernel); (decide +kernel); (rfl); (intro _ _; exact rn); (exact fun _ _ _ h => h); (refine aA ?_)); ((with_reducible apply bB (i := 9)); (rfl); (rfl); (rfl); (decide +kernel); (decide +kernel); (decide +kernel); (decide +kernel); (rfl); (intro _ _; exact rn); (exact fun _ _ _ h => h); (refine aA ?_))
      refine bJ (i := 10) (by decide +kernel) rfl rfl ?_
      refine aO (cs := c.cells) (x10.at hc.blk) rfl rfl rfl (show 2 < 4 by omega) (by decide +kernel) rfl ?_
      intro w11 p11
      refine aL ⟨bZ rfl, ?_⟩
      refine cV (by decide +kernel) ?_
      have hr11 := p11.at (x10.at hr9) (AT hr9 hc.blk (by omega))
      have hM11 : L1 w w11 kv (gcs1.set i ⟨c.b, c.v, ⟨c.s.name, c.s.kind, min c.s.ttl l[k].ttl, c.s.data⟩⟩) := by
       have hg := (hM.sets.ext x10).turn (c' := ⟨c.b, c.v, ⟨c.s.name, c.s.kind, min c.s.ttl l[k].ttl, c.s.data⟩⟩) hi rfl (Mv.refl _ _) (hc.own.ext x10) (.inl rfl) p11
       have hM10 := hM.grow x10
       obtain ⟨es, ck, hm1, hm2, hm3⟩ := hM10.map.out
       refine ⟨hM10.ext.move p11.mv (by rintro k ⟨⟩; have := hc.ge; omega), ?_, ?_, hg⟩
       ·rw [jI (c' := ⟨c.b, c.v, ⟨c.s.name, c.s.kind, min c.s.ttl l[k].ttl, c.s.data⟩⟩) hi rfl]
        refine hM10.map.at (fun o ho => p11.at ho (fun e => ?_))
        rw [e, x10.at hc.blk] at hm1; cases hm1
       ·rw [lP (c' := ⟨c.b, c.v, ⟨c.s.name, c.s.kind, min c.s.ttl l[k].ttl, c.s.data⟩⟩) hi rfl]
        exact hM10.keys.mv p11.mv (.inr (hM10.keys.neBlock (x10.at hc.blk) (by omega)))
      clear hpc hpr p11 x10
      have hi1 : (gcs1.set i ⟨c.b, c.v, ⟨c.s.name, c.s.kind, min c.s.ttl l[k].ttl, c.s.data⟩⟩)[i]? = some ⟨c.b, c.v, ⟨c.s.name, c.s.kind, min c.s.ttl l[k].ttl, c.s.data⟩⟩ := List.getElem?_set_self (List.getElem?_eq_some_iff.1 hi).1
      have hc1 := hM11.sets.each _ (List.mem_of_getElem? hi1)
      have hpc := aD (cs := [aI c.s.name, .int .i64 c.s.kind, .int .i64 (min c.s.ttl l[k].ttl), c.v]) hc1.blk
      have hpr := aD hr11
      refine_lift dL ?_
      refine cA 8 (Ext w11) (by decide +kernel) ?_
      intro w12 x12 _
      refine ⟨x12, ?_⟩
      ((with_reducible apply bB (i := 1)); (rfl); (rfl); (rfl); (decide +kernel); (decide +kernel); (decide +kernel); (decide +kernel); (rfl); (intro _ _; exact rn); (exact fun _ _ _ h => h); (refine aA ?_)); ((with_reducible apply bB (i := 2)); (rfl); (rfl); (rfl); (decide +kernel); (decide +kernel); (decide +kernel); (decide +kernel); (rfl); (intro _ _; exact rn); (exact fun _ _ _ h => h); (refine aA ?_)); ((with_reducible apply bB (i := 3)); (rfl); (rfl); (rfl); (decide +kernel); (decide +kernel); (decide +kernel); (decide +kernel); (rfl); (intro _ _; exact rn); (exact fun _ _ _ h => h); (refine aA ?_)); ((with_reducible apply bB (i := 4)); (rfl); (rfl); (rfl); (decide +kernel); (decide +kernel); (decide +kernel); (decide +kernel); (rfl); (intro _ _; exact rn); (exact fun _ _ _ h => h); (refine aA ?_)); ((with_reducible apply bB (i := 5)); (rfl); (rfl); (rfl); (decide +kernel); (decide +kernel); (decide +kernel); (decide +kernel); (rfl); (intro _ _; exact rn); (exact fun _ _ _ h => h); (refine aA ?_)); ((with_reducible apply bB (i := 6)); (rfl); (rfl); (rfl); (decide +kernel); (decide +kernel); (decide +kernel); (decide +kernel); (rfl); (intro _ _; exact rn); (exact fun _ _ _ h => h); (refine aA ?_))
      ((with_reducible apply cU (i := 0)); (rfl); (rfl); (rfl); (decide +kernel); (decide +kernel); (decide +kernel); (rfl); (intro _; exact rn); (exact fun _ _ _ h => h); (refine aA ?_))
      refine bJ (i := 7) (by decide +kernel) rfl rfl ?_
      refine bT (e := 9) (k := 1) (bytes := 16) (xs := [aI l[k].data]) rfl rfl rfl (by simp [Value.cells, aI]) (by decide +kernel) (by simp) ?_
      intro v13 w13 x13 s13 sl13 _
      refine aA ?_
      refine aL ⟨bY (x12.trans x13), ?_⟩
      refine bJ (i := 8) (by decide +kernel) rfl rfl ?_
      have x113 := x12.trans x13
      refine fO (B := w.heap.size + 1) (e := 9) (k := 1) (bytes := 16) rfl (hc1.own.ext x113) rfl sl13 (by decide +kernel) (by simp [Value.cells, aI, Value.oneCell']) (by have := (hM11.grow x113).map.lt; omega) (by simp only [List.length_map, List.length_cons, List.length_nil]; omega) (by simp only [List.length_map, List.length_cons, List.length_nil]; omega) ?_
      intro v14 w14 o14 m14 k14
      refine aA ?_
      refine aL ⟨bZ rfl, ?_⟩
      ((with_reducible apply cU (i := 9)); (rfl); (rfl); (rfl); (decide +kernel); (decide +kernel); (decide +kernel); (rfl); (intro _; exact rn); (exact fun _ _ _ h => h); (refine aA ?_)); ((with_reducible apply cU (i := 10)); (rfl); (rfl); (rfl); (decide +kernel); (decide +kernel); (decide +kernel); (rfl); (intro _; exact rn); (exact fun _ _ _ h => h); (refine aA ?_))
      refine bJ (i := 11) (by decide +kernel) rfl rfl ?_
      have hM13 := hM11.grow x113
      have hc13 := hM13.sets.each _ (List.mem_of_getElem? hi1)
      have b14 := m14.at hc13.blk (fun e => (hc13.own.neBlock hc13.blk (by omega)) e.symm)
      refine aO (cs := [aI c.s.name, .int .i64 c.s.kind, .int .i64 (min c.s.ttl l[k].ttl), c.v]) b14 rfl rfl rfl (show 3 < 4 by omega) (by decide +kernel) o14.one ?_
      intro w15 p15
      refine aL ⟨bZ rfl, ?_⟩
      refine cV (by decide +kernel) ?_
      have e14 : aS c.s.data ++ List.map (fun x => x.cells.toList) [aI l[k].data] = aS (iM c.s l[k]).data := by simp [aS, iM, Value.cells, aI]
      rw [e14] at o14
      have hM16 : L1 w w15 kv (gcs1.set i ⟨c.b, v14, iM c.s l[k]⟩) := by
       have hg := hM13.sets.turn (c' := ⟨c.b, v14, iM c.s l[k]⟩) hi1 rfl m14 o14 k14 p15
       rw [List.set_set] at hg
       obtain ⟨es, ck, hm1, hm2, hm3⟩ := hM13.map.out
       have hnm : c.v.ownBlock ≠ some w.heap.size := hc13.own.neMap hm1
       have hm14 := m14.at hm1 (fun e => hnm e.symm)
       refine ⟨?_, ?_, ?_, hg⟩
       ·refine (hM13.ext.move m14 (fun k hk => by have := (hc13.own.block k hk).1; omega)).move p15.mv (by rintro k ⟨⟩; have := hc13.ge; omega)
       ·have hm := hM13.map.at (w' := w15) (fun o ho => by
         rw [hm1] at ho; cases ho
         exact p15.at hm14 (fun e => by have b := b14; have h := hm14; rw [e] at h; rw [b] at h; cases h))
        rw [jI (c' := ⟨c.b, c.v, ⟨c.s.name, c.s.kind, min c.s.ttl l[k].ttl, c.s.data⟩⟩) hi rfl] at hm
        rw [jI (c' := ⟨c.b, v14, iM c.s l[k]⟩) hi rfl]
        exact hm
       ·have hk13 := hM13.keys
        rw [lP (c' := ⟨c.b, c.v, ⟨c.s.name, c.s.kind, min c.s.ttl l[k].ttl, c.s.data⟩⟩) hi rfl] at hk13
        rw [lP (c' := ⟨c.b, v14, iM c.s l[k]⟩) hi rfl]
        have hk14 := hk13.mv m14 (hk13.ne hc13.own (by omega))
        exact hk14.mv p15.mv (.inr (hk14.neBlock b14 (by omega)))
      clear hpc hpr p15 m14 x12 x13 x113
      refine_lift dL ?_
      refine ⟨⟨k + 1, _, by omega, rfl, hM16, pP hlt hall (by simp [xJ, hc0]), ?_⟩, by simp [intOf]; omega⟩
      rw [List.map_set]
      exact hfin
     ·have hmiss : ∀ s ∈ cK (l.take k), bH s l[k] = false := by
       intro s hs
       rw [← hgs] at hs
       obtain ⟨c, hc, rfl⟩ := List.mem_map.1 hs
       obtain ⟨i, hi⟩ := List.mem_iff_getElem?.1 hc
       have := hno i c.key (by rw [List.getElem?_map, hi]; rfl)
       cases hm : bH c.s l[k] with
       | false => rfl
       | true =>
        exfalso
        simp only [bH, Bool.and_eq_true, decide_eq_true_eq] at hm
        exact this (by simp only [GC.key]; rw [hm.1, hm.2])
      refine_lift CI fun _ _ _ _ => ?_
      refine cT (v := .agg #[aI (fold l[k].name), .int .i64 l[k].kind, .int .i64 l[k].ttl, .slice none 0 0]) rfl (Runs.build rfl (by kernel_rfl)) ?_
      refine aA ?_
      refine fF (vs := [aI (fold l[k].name), .int .i64 l[k].kind, .int .i64 l[k].ttl, .slice none 0 0]) rfl rfl ?_
      intro w9 x9 s9 hb9
      refine aA ?_
      refine_lift dL ?_
      have hL9 := hL8.grow x9
      have hkb9 := x9.at hkb
      have hrb9 := x9.at hr8
      refine dU (S := fun w' => w'.heap[kb]? = some (.cells [aI (fold l[k].name), .int .i64 l[k].kind].toArray 166 (0, 0))) (by decide +kernel) ?_
      intro w10 x10 _
      have hS := x10.at hkb9
      ((with_reducible apply dK (i := 0)); (rfl); (rfl); (decide +kernel); (decide +kernel); (decide +kernel); (rfl); (exact hS); (intro w9 hS9; (have hpk9 := aD hS9); exact rn); (exact fun _ _ _ h => h); (refine aA ?_)); ((with_reducible apply dK (i := 1)); (rfl); (rfl); (decide +kernel); (decide +kernel); (decide +kernel); (rfl); (exact hS); (intro w9 hS9; (have hpk9 := aD hS9); exact rn); (exact fun _ _ _ h => h); (refine aA ?_)); ((with_reducible apply dK (i := 2)); (rfl); (rfl); (decide +kernel); (decide +kernel); (decide +kernel); (rfl); (exact hS); (intro w9 hS9; (have hpk9 := aD hS9); exact rn); (exact fun _ _ _ h => h); (refine aA ?_)); ((with_reducible apply dK (i := 3)); (rfl); (rfl); (decide +kernel); (decide +kernel); (decide +kernel); (rfl); (exact hS); (intro w9 hS9; (have hpk9 := aD hS9); exact rn); (exact fun _ _ _ h => h); (refine aA ?_)); ((with_reducible apply dK (i := 4)); (rfl); (rfl); (decide +kernel); (decide +kernel); (decide +kernel); (rfl); (exact hS); (intro w9 hS9; (have hpk9 := aD hS9); exact rn); (exact fun _ _ _ h => h); (refine aA ?_))
      refine eO (i := 5) (by decide +kernel) rfl rfl ?_
      refine bT (e := 166) (k := 2) (bytes := 24) (xs := [.agg #[aI (fold l[k].name), .int .i64 l[k].kind]]) rfl rfl rfl (by simp [Value.cells]) (by decide +kernel) (by simp) ?_
      intro v11 w11 x11 s11 sl11 _
      refine aA ?_
      refine aL ⟨x11.at hS, ?_⟩
      have x911 := x10.trans x11
      have hL11 := hL9.grow x911
      have hb11 := x911.at hb9
      have hrb11 := x911.at hrb9
      have hkb11 := x911.at hkb9
      refine eO (i := 6) (by decide +kernel) rfl rfl ?_
      have hgl : gcs.length ≤ 10000 := by
       have h1 := uJ (l.take k)
       rw [← hgs, List.length_map, List.length_take] at h1
       omega
      refine fO (B := w.heap.size + 1) (e := 166) (k := 2) (bytes := 24) rfl hL11.keys rfl sl11 (by decide +kernel) (by simp [Value.cells, aI, Value.oneCell']) (by have := hL11.map.lt; omega) (by simp only [List.length_map, List.length_cons, List.length_nil]; omega) (by simp only [List.length_map, List.length_cons, List.length_nil]; omega) ?_
      intro v12 w12 o12 m12 k12
      refine aA ?_
      have hnk : some kb ≠ u5.ownBlock := fun e => by have := (hL7.keys.block kb e.symm).2; omega
      have hkb12 := m12.at hkb11 hnk
      refine aL ⟨hkb12, ?_⟩
      refine eO (i := 7) (by decide +kernel) rfl rfl ?_
      obtain ⟨es, ck, hm1, hm2, hm3⟩ := hL11.map.out
      have hnm : u5.ownBlock ≠ some w.heap.size := hL11.keys.neMap hm1
      have hm12 := hL11.map.at (w' := w12) (fun o ho => m12.at ho (fun e => hnm e.symm))
      obtain ⟨w13, o13, hr13, p13, hm13⟩ := jG IN (show mM Tryz.prog 163 166 167 = true by decide +kernel) hm12 hlx (v := .pointer (some ⟨w8.heap.size, 0, none⟩)) hno
      refine kH rfl rfl rfl rfl hr13 ?_
      have hkb13 := p13.at hkb12 (fun e => by rw [← e] at hm1; rw [hkb11] at hm1; cases hm1)
      refine aL ⟨hkb13, ?_⟩
      refine dK (i := 8) (v := v12) rfl rfl (by decide +kernel) (by decide +kernel) (by decide +kernel) rfl hkb13 (fun w' _ => Runs.assignT _) (fun _ _ _ h => h) ?_
      refine aA ?_
      refine dR (by decide +kernel) ?_
      have hnb : u5.ownBlock ≠ some w8.heap.size := hL11.keys.neBlock hb11 (by omega)
      have hb13 := p13.at (m12.at hb11 (fun e => hnb e.symm)) (fun e => by rw [← e] at hm1; rw [hb11] at hm1; cases hm1)
      have hnr : u5.ownBlock ≠ some wr.heap.size := hL11.keys.neBlock hrb11 (by omega)
      have hr9 := p13.at (m12.at hrb11 (fun e => hnr e.symm)) (fun e => by rw [← e] at hm1; rw [hrb11] at hm1; cases hm1)
      have hM : L1 w w13 v12 (gcs ++ [⟨w8.heap.size, .slice none 0 0, ⟨fold l[k].name, l[k].kind, l[k].ttl, []⟩⟩]) := by
       have hne : ∀ c ∈ gcs, c.b ≠ w8.heap.size := fun c hc e => by
        have := (hL8.sets.each c hc).blk
        rw [e, Array.getElem?_eq_none (Nat.le_refl _)] at this
        cases this
       have hs12 : GS w12 (w.heap.size + 1) gcs := hL11.sets.mv m12 fun c hc => ⟨fun e => hL11.keys.neBlock (hL11.sets.each c hc).blk (by omega) e.symm, ((hL11.sets.each c hc).own.ne hL11.keys (by omega))⟩
       have hm12' := hm12.out
       obtain ⟨es2, ck2, hm21, _, _⟩ := hm12'
       have hs13 : GS w13 (w.heap.size + 1) gcs := hs12.mv p13.mv fun c hc => ⟨(fun e => by
        have hb := (hs12.each c hc).blk
        rw [Option.some.inj e] at hb
        rw [hb] at hm21; cases hm21), .inr ((hs12.each c hc).own.neMap hm21)⟩
       refine ⟨(hL11.ext.move m12 (fun k hk => by have := (hL11.keys.block k hk).1; omega)).move p13.mv (by rintro k ⟨⟩; exact Nat.le_refl _), by simpa [GC.key] using hm13, ?_, hs13.push ⟨hb13, (show w.heap.size + 1 ≤ w8.heap.size by have := hL8.map.lt; omega), Own.nil _ _ _ _⟩ hne rfl⟩
       have : List.map GC.kcells gcs ++ List.map (fun x => x.cells.toList) [Value.agg #[aI (fold l[k].name), Value.int IntKind.i64 l[k].kind]] = List.map GC.kcells (gcs ++ [⟨w8.heap.size, .slice none 0 0, ⟨fold l[k].name, l[k].kind, l[k].ttl, []⟩⟩]) := by simp [GC.kcells, Value.cells]
       rw [this] at o12
       exact o12.mv p13.mv (.inr (o12.neMap hm21))
      clear hL9 hL11 x10 x11 x911 hb11 hrb11 hkb11 m12 p13 hr13 hkb12 hkb13 hm12
      refine_lift gA fun _ _ => ?_
      obtain ⟨c, hcd⟩ : ∃ c : GC, c = ⟨w8.heap.size, .slice none 0 0, ⟨fold l[k].name, l[k].kind, l[k].ttl, []⟩⟩ := ⟨_, rfl⟩
      obtain ⟨gcs1, hg1⟩ : ∃ g, g = gcs ++ [c] := ⟨_, rfl⟩
      obtain ⟨i, hil⟩ : ∃ i, i = gcs.length := ⟨_, rfl⟩
      have hi : gcs1[i]? = some c := by rw [hg1, hil]; simp
      rw [← hcd, ← hg1] at hM
      have ecb : w8.heap.size = c.b := by rw [hcd]
      have hdl : (aS c.s.data).length ≤ 20000 := by rw [hcd]; simp [aS]
      have hfin : List.set (gcs1.map GC.s) i (iM c.s l[k]) = cK (l.take (k + 1)) := by
       rw [mR hlt, uI hmiss, ← hgs, hg1, hil, hcd]
       simp [iM]
      rw [ecb]
      obtain ⟨w9, hw9⟩ : ∃ w9, w9 = w13 := ⟨_, rfl⟩
      rw [← hw9] at hM hr9 ⊢
      obtain ⟨kv, hkv⟩ : ∃ g, g = v12 := ⟨_, rfl⟩
      rw [← hkv] at hM ⊢
      have hc := hM.sets.each c (List.mem_of_getElem? hi)
      have hpc := aD (cs := c.cells) hc.blk
      have hpr := aD hr9
      refine cA 10 (Ext w9) (by decide +kernel) ?_
      intro w10 x10 _
      refine ⟨x10, ?_⟩
      ((with_reducible apply bB (i := 0)); (rfl); (rfl); (rfl); (decide +kernel); (decide +kernel); (decide +kernel); (decide +kernel); (rfl); (intro _ _; exact rn); (exact fun _ _ _ h => h); (refine aA ?_)); ((with_reducible apply bB (i := 1)); (rfl); (rfl); (rfl); (decide +kernel); (decide +kernel); (decide +kernel); (decide +kernel); (rfl); (intro _ _; exact rn); (exact fun _ _ _ h => h); (refine aA ?_)); ((with_reducible apply bB (i := 2)); (rfl); (rfl); (rfl); (decide +kernel); (decide +kernel); (decide +kernel); (decide +kernel); (rfl); (intro _ _; exact rn); (exact fun _ _ _ h => h); (refine aA ?_)); ((with_reducible apply bB (i := 3)); (rfl); (rfl); (rfl); (decide +kernel); (decide +kernel); (decide +kernel); (decide +kernel); (rfl); (intro _ _; exact rn); (exact fun _ _ _ h => h); (refine aA ?_)); ((with_reducible apply bB (i := 4)); (rfl); (rfl); (rfl); (decide +kernel); (decide +kernel); (decide +kernel); (decide +kernel); (rfl); (intro _ _; exact rn); (exact fun _ _ _ h => h); (refine aA ?_)); ((with_reducible apply bB (i := 5)); (rfl); (rfl); (rfl); (decide +kernel); (decide +kernel); (decide +kernel); (decide +kernel); (rfl); (intro _ _; exact rn); (exact fun _ _ _ h => h); (refine aA ?_)); ((with_reducible apply bB (i := 6)); (rfl); (rfl); (rfl); (decide +kernel); (decide +kernel); (decide +kernel); (decide +kernel); (rfl); (intro _ _; exact rn); (exact fun _ _ _ h => h); (refine aA ?_)); ((with_reducible apply bB (i := 7)); (rfl); (rfl); (rfl); (decide +kernel); (decide +kernel); (decide +kernel); (decide +kernel); (rfl); (intro _ _; exact rn); (exact fun _ _ _ h => h); (refine aA ?_)); ((with_reducible apply bB (i := 8)); (rfl); (rfl); (rfl); (decide +kernel); (decide +kernel); (decide +kernel); (decide +kernel); (rfl); (intro _ _; exact rn); (exact fun _ _ _ h => h); (refine aA ?_)); ((with_reducible apply bB (i := 9)); (rfl); (rfl); (rfl); (decide +kernel); (decide +kernel); (decide +kernel); (decide +kernel); (rfl); (intro _ _; exact rn); (exact fun _ _ _ h => h); (refine aA ?_))
      refine bJ (i := 10) (by decide +kernel) rfl rfl ?_
      refine aO (cs := c.cells) (x10.at hc.blk) rfl rfl rfl (show 2 < 4 by omega) (by decide +kernel) rfl ?_
      intro w11 p11
      refine aL ⟨bZ rfl, ?_⟩
      refine cV (by decide +kernel) ?_
      have hr11 := p11.at (x10.at hr9) (AT hr9 hc.blk (by omega))
      have hM11 : L1 w w11 kv (gcs1.set i ⟨c.b, c.v, ⟨c.s.name, c.s.kind, min c.s.ttl l[k].ttl, c.s.data⟩⟩) := by
       have hg := (hM.sets.ext x10).turn (c' := ⟨c.b, c.v, ⟨c.s.name, c.s.kind, min c.s.ttl l[k].ttl, c.s.data⟩⟩) hi rfl (Mv.refl _ _) (hc.own.ext x10) (.inl rfl) p11
       have hM10 := hM.grow x10
       obtain ⟨es, ck, hm1, hm2, hm3⟩ := hM10.map.out
       refine ⟨hM10.ext.move p11.mv (by rintro k ⟨⟩; have := hc.ge; omega), ?_, ?_, hg⟩
       ·rw [jI (c' := ⟨c.b, c.v, ⟨c.s.name, c.s.kind, min c.s.ttl l[k].ttl, c.s.data⟩⟩) hi rfl]
        refine hM10.map.at (fun o ho => p11.at ho (fun e => ?_))
        rw [e, x10.at hc.blk] at hm1; cases hm1
       ·rw [lP (c' := ⟨c.b, c.v, ⟨c.s.name, c.s.kind, min c.s.ttl l[k].ttl, c.s.data⟩⟩) hi rfl]
        exact hM10.keys.mv p11.mv (.inr (hM10.keys.neBlock (x10.at hc.blk) (by omega)))
      clear hpc hpr p11 x10
      have hi1 : (gcs1.set i ⟨c.b, c.v, ⟨c.s.name, c.s.kind, min c.s.ttl l[k].ttl, c.s.data⟩⟩)[i]? = some ⟨c.b, c.v, ⟨c.s.name, c.s.kind, min c.s.ttl l[k].ttl, c.s.data⟩⟩ := List.getElem?_set_self (List.getElem?_eq_some_iff.1 hi).1
      have hc1 := hM11.sets.each _ (List.mem_of_getElem? hi1)
      have hpc := aD (cs := [aI c.s.name, .int .i64 c.s.kind, .int .i64 (min c.s.ttl l[k].ttl), c.v]) hc1.blk
      have hpr := aD hr11
      refine_lift dL ?_
      refine cA 8 (Ext w11) (by decide +kernel) ?_
      intro w12 x12 _
      refine ⟨x12, ?_⟩
      ((with_reducible apply bB (i := 1)); (rfl); (rfl); (rfl); (decide +kernel); (decide +kernel); (decide +kernel); (decide +kernel); (rfl); (intro _ _; exact rn); (exact fun _ _ _ h => h); (refine aA ?_)); ((with_reducible apply bB (i := 2)); (rfl); (rfl); (rfl); (decide +kernel); (decide +kernel); (decide +kernel); (decide +kernel); (rfl); (intro _ _; exact rn); (exact fun _ _ _ h => h); (refine aA ?_)); ((with_reducible apply bB (i := 3)); (rfl); (rfl); (rfl); (decide +kernel); (decide +kernel); (decide +kernel); (decide +kernel); (rfl); (intro _ _; exact rn); (exact fun _ _ _ h => h); (refine aA ?_)); ((with_reducible apply bB (i := 4)); (rfl); (rfl); (rfl); (decide +kernel); (decide +kernel); (decide +kernel); (decide +kernel); (rfl); (intro _ _; exact rn); (exact fun _ _ _ h => h); (refine aA ?_)); ((with_reducible apply bB (i := 5)); (rfl); (rfl); (rfl); (decide +kernel); (decide +kernel); (decide +kernel); (decide +kernel); (rfl); (intro _ _; exact rn); (exact fun _ _ _ h => h); (refine aA ?_)); ((with_reducible apply bB (i := 6)); (rfl); (rfl); (rfl); (decide +kernel); (decide +kernel); (decide +kernel); (decide +kernel); (rfl); (intro _ _; exact rn); (exact fun _ _ _ h => h); (refine aA ?_))
      ((with_reducible apply cU (i := 0)); (rfl); (rfl); (rfl); (decide +kernel); (decide +kernel); (decide +kernel); (rfl); (intro _; exact rn); (exact fun _ _ _ h => h); (refine aA ?_))
      refine bJ (i := 7) (by decide +kernel) rfl rfl ?_
      refine bT (e := 9) (k := 1) (bytes := 16) (xs := [aI l[k].data]) rfl rfl rfl (by simp [Value.cells, aI]) (by decide +kernel) (by simp) ?_
      intro v13 w13 x13 s13 sl13 _
      refine aA ?_
      refine aL ⟨bY (x12.trans x13), ?_⟩
      refine bJ (i := 8) (by decide +kernel) rfl rfl ?_
      have x113 := x12.trans x13
      refine fO (B := w.heap.size + 1) (e := 9) (k := 1) (bytes := 16) rfl (hc1.own.ext x113) rfl sl13 (by decide +kernel) (by simp [Value.cells, aI, Value.oneCell']) (by have := (hM11.grow x113).map.lt; omega) (by simp only [List.length_map, List.length_cons, List.length_nil]; omega) (by simp only [List.length_map, List.length_cons, List.length_nil]; omega) ?_
      intro v14 w14 o14 m14 k14
      refine aA ?_
      refine aL ⟨bZ rfl, ?_⟩
      ((with_reducible apply cU (i := 9)); (rfl); (rfl); (rfl); (decide +kernel); (decide +kernel); (decide +kernel); (rfl); (intro _; exact rn); (exact fun _ _ _ h => h); (refine aA ?_)); ((with_reducible apply cU (i := 10)); (rfl); (rfl); (rfl); (decide +kernel); (decide +kernel); (decide +kernel); (rfl); (intro _; exact rn); (exact fun _ _ _ h => h); (refine aA ?_))
      refine bJ (i := 11) (by decide +kernel) rfl rfl ?_
      have hM13 := hM11.grow x113
      have hc13 := hM13.sets.each _ (List.mem_of_getElem? hi1)
      have b14 := m14.at hc13.blk (fun e => (hc13.own.neBlock hc13.blk (by omega)) e.symm)
      refine aO (cs := [aI c.s.name, .int .i64 c.s.kind, .int .i64 (min c.s.ttl l[k].ttl), c.v]) b14 rfl rfl rfl (show 3 < 4 by omega) (by decide +kernel) o14.one ?_
      intro w15 p15
      refine aL ⟨bZ rfl, ?_⟩
      refine cV (by decide +kernel) ?_
      have e14 : aS c.s.data ++ List.map (fun x => x.cells.toList) [aI l[k].data] = aS (iM c.s l[k]).data := by simp [aS, iM, Value.cells, aI]
      rw [e14] at o14
      have hM16 : L1 w w15 kv (gcs1.set i ⟨c.b, v14, iM c.s l[k]⟩) := by
       have hg := hM13.sets.turn (c' := ⟨c.b, v14, iM c.s l[k]⟩) hi1 rfl m14 o14 k14 p15
       rw [List.set_set] at hg
       obtain ⟨es, ck, hm1, hm2, hm3⟩ := hM13.map.out
       have hnm : c.v.ownBlock ≠ some w.heap.size := hc13.own.neMap hm1
       have hm14 := m14.at hm1 (fun e => hnm e.symm)
       refine ⟨?_, ?_, ?_, hg⟩
       ·refine (hM13.ext.move m14 (fun k hk => by have := (hc13.own.block k hk).1; omega)).move p15.mv (by rintro k ⟨⟩; have := hc13.ge; omega)
       ·have hm := hM13.map.at (w' := w15) (fun o ho => by
         rw [hm1] at ho; cases ho
         exact p15.at hm14 (fun e => by have b := b14; have h := hm14; rw [e] at h; rw [b] at h; cases h))
        rw [jI (c' := ⟨c.b, c.v, ⟨c.s.name, c.s.kind, min c.s.ttl l[k].ttl, c.s.data⟩⟩) hi rfl] at hm
        rw [jI (c' := ⟨c.b, v14, iM c.s l[k]⟩) hi rfl]
        exact hm
       ·have hk13 := hM13.keys
        rw [lP (c' := ⟨c.b, c.v, ⟨c.s.name, c.s.kind, min c.s.ttl l[k].ttl, c.s.data⟩⟩) hi rfl] at hk13
        rw [lP (c' := ⟨c.b, v14, iM c.s l[k]⟩) hi rfl]
        have hk14 := hk13.mv m14 (hk13.ne hc13.own (by omega))
        exact hk14.mv p15.mv (.inr (hk14.neBlock b14 (by omega)))
      clear hpc hpr p15 m14 x12 x13 x113
      refine_lift dL ?_
      refine ⟨⟨k + 1, _, by omega, rfl, hM16, pP hlt hall (by simp [xJ, hc0]), ?_⟩, by simp [intOf]; omega⟩
      rw [List.map_set]
      exact hfin
  ·have hk2 : k = l.length := by omega
   subst hk2
   refine_lift SK fun _ _ _ _ _ => ?_
   rw [List.take_length] at hall hgs
   have hks := hL.keys.sl
   refine_lift dL ?_
   clear hks
   have hgsl : (cK l).length = gcs.length := by rw [← hgs, List.length_map]
   have hkl : (gcs.map GC.kcells).length = (cK l).length := by rw [List.length_map, hgsl]
   have hgl := uJ l
   have hx0 := hL.ext
   rw [← hgsl]
   clear hkl hv2 hx
   go_loopw [12, 14, 15, 81] (fun out _ _ i wq => ∃ (j : Nat) (gcs2 : List GC), j ≤ (cK l).length ∧ i = .int .i64 j ∧ L1 w wq u5 gcs2 ∧ gcs2.map GC.s = ((cK l).take j).map kV ++ (cK l).drop j ∧ (((cK l).take j).map kV).any IR = false ∧ Own (w.heap.size + 1) 4 131 wq out ((gcs2.take j).map GC.cells) ∧ ∀ c ∈ gcs2, out.ownBlock ≠ some c.b) (fun _ _ _ i _ => (cK l).length - (intOf i).toNat)
   case atStart => exact ⟨0, gcs, Nat.zero_le _, rfl, hL, by simpa using hgs, rfl, Own.nil _ _ _ _, fun c _ => by simp [Value.ownBlock]⟩
   case round =>
    obtain ⟨j, gcs2, hj, rfl, hM, hs2, hbig, hout, hob⟩ := hrel
    have hl2 : gcs2.length = (cK l).length := by
     have := congrArg List.length hs2
     simp only [List.length_map, List.length_append, List.length_take, List.length_drop] at this
     omega
    have hkeys := hM.keys.sl
    by_cases hlt2 : j < (cK l).length
    ·have hjl : j < gcs2.length := by omega
     have hcj : gcs2[j].s = (cK l)[j] := by
      have h1 : (gcs2.map GC.s)[j]? = some gcs2[j].s := by rw [List.getElem?_map, List.getElem?_eq_getElem hjl]; rfl
      rw [hs2, List.getElem?_append_right (by simp; omega)] at h1
      simp only [List.length_map, List.length_take, List.getElem?_drop] at h1
      rw [show j + (j - min j (cK l).length) = j by omega, List.getElem?_eq_getElem hlt2] at h1
      exact (Option.some.inj h1).symm
     have hi : gcs2[j]? = some gcs2[j] := List.getElem?_eq_getElem hjl
     obtain ⟨c, hcd⟩ : ∃ c, c = gcs2[j] := ⟨_, rfl⟩
     rw [← hcd] at hi hcj
     have hkp := hkeys.elem (i := j) (e := [aI c.s.name, .int .i64 c.s.kind]) (by rw [List.getElem?_map, hi]; rfl)
     have hkll : (gcs2.map GC.kcells).length = (cK l).length := by rw [List.length_map, hl2]
     refine_lift HW ?_; intro _ _ _ _ _ _
     refine aN (z := [aI [], .int .i64 0]) rfl (by decide +kernel) ?_
     intro w5 x5 s5 h5
     refine_lift dL ?_
     refine aG (v := .agg #[aI c.s.name, .int .i64 c.s.kind]) rfl rfl rfl h5 (show aZ Tryz.prog 166 2 = true by decide +kernel) rfl (by simp [Value.cells, aI, Value.oneCell']) ?_
     intro w6 p6
     have x6 : Ext wr w6 := x5.move p6.mv (by rintro k ⟨⟩; exact Nat.le_refl _)
     have hp6 := aD (cs := [aI c.s.name, .int .i64 c.s.kind]) p6.this
     have hM6 := hM.grow x6
     have hout6 := hout.ext x6
     clear p6 h5 x5
     refine_lift gA fun _ _ => ?_
     obtain ⟨r, hrl0, hrn, hrk⟩ := xK (List.getElem_mem hlt2)
     have hrc : bF r = 0 := by simpa [xJ] using List.all_eq_true.1 hall r hrl0
     obtain ⟨hlab, hk1, hk2⟩ := iX (n := []) hrc
     have hfl := pW _ hlab
     rw [← hcj] at hrn hrk
     obtain ⟨lx, hlx⟩ := EL c.s.name c.s.kind (by rw [hrn]; omega) (by rw [hrk]; omega)
     have hzv : ∀ w, (zeroValue 167).run Tryz.prog w = .ok (.pointer none) w := fun w => by kernel_rfl
     obtain ⟨u, bb, hrl, hcase⟩ := gJ IN (show mM Tryz.prog 163 166 167 = true by decide +kernel) hzv hM6.map hlx false
     have hu : u = .pointer (some ⟨c.b, 0, none⟩) := by
      rcases hcase with ⟨i, hie, _⟩ | ⟨hno, _, _⟩
      ·rw [List.getElem?_map] at hie
       cases hi2 : gcs2[i]? with
       | none => rw [hi2] at hie; cases hie
       | some c2 =>
        rw [hi2, Option.map_some] at hie
        simp only [GC.key, Option.some.injEq, Prod.mk.injEq, Value.agg.injEq] at hie
        obtain ⟨hie1, hie2⟩ := hie
        have hkk := congrArg Array.toList hie1
        simp only [List.cons.injEq, aI, Value.string.injEq, Value.int.injEq, true_and, and_true, ByteArray.mk.injEq] at hkk
        have hn2 : c2.s.name = c.s.name := by simpa using hkk.1
        have hij : i = j := by
         by_cases e : i = j
         ·exact e
         ·exfalso
          have hap : (gcs2.map GC.s).Pairwise fun s t => ¬ (s.name = t.name ∧ s.kind = t.kind) := by
           have := gB.1 (iW l)
           rw [hs2]
           have e2 : (cK l).take j ++ (cK l).drop j = cK l := List.take_append_drop _ _
           rw [← e2] at this
           rw [List.pairwise_append] at this ⊢
           refine ⟨List.pairwise_map.2 this.1, this.2.1, fun x hx y hy => ?_⟩
           obtain ⟨x', hx', rfl⟩ := List.mem_map.1 hx
           exact this.2.2 x' hx' y hy
          have h3 := gB.2 hap i j c2.s c.s (by rw [List.getElem?_map, hi2]; rfl) (by rw [List.getElem?_map, hi]; rfl) e
          exact h3 ⟨hn2, hkk.2⟩
        subst hij
        rw [hi] at hi2
        cases hi2
        exact hie2.symm
      ·exact absurd rfl (hno j c.key (by rw [List.getElem?_map, hi]; rfl))
     subst hu
     refine cT (v := .pointer (some ⟨c.b, 0, none⟩)) rfl (Runs.lookup rfl rfl (by simp only [Bool.false_eq_true, if_false] at hrl; exact hrl)) ?_
     refine aA ?_
     have hc := hM6.sets.each c (List.mem_of_getElem? hi)
     have hpc := aD (cs := c.cells) hc.blk
     refine_lift gA fun _ _ => ?_
     have hdl : c.s.data.length ≤ 10000 := by
      have h1 := AQ (List.getElem_mem hlt2)
      rw [pO, ← hcj] at h1
      omega
     refine aF (enters_of Tryz.func107 rfl rfl) rfl rfl (TJ hc.own (by omega)) ?_
     rintro e w7 ⟨rfl, o7, m7⟩
     refine ⟨_, rfl, ?_⟩
     refine aA ?_
     have b7 := m7.at hc.blk (fun e => (hc.own.neBlock hc.blk (by omega)) e.symm)
     clear hpc
     have hpc := aD (cs := c.cells) b7
     refine_lift gA fun _ _ => ?_
     refine aF (enters_of Tryz.func108 rfl rfl) rfl rfl (TK o7) ?_
     rintro e w8 ⟨v8, rfl, o8, m8, k8⟩
     refine ⟨_, rfl, ?_⟩
     refine aA ?_
     have b8 := m8.at b7 (fun e => (o7.neBlock b7 (by omega)) e.symm)
     clear hpc
     have hpc := aD (cs := c.cells) b8
     refine_lift dL ?_
     refine aO (cs := c.cells) b8 rfl rfl rfl (show 3 < 4 by omega) (by decide +kernel) o8.one ?_
     intro w9 p9
     have hM9 : L1 w w9 u5 (gcs2.set j ⟨c.b, v8, kV c.s⟩) := by
      have m78 : Mv c.v.ownBlock w6 w8 := m7.trans m8
      have hg := hM6.sets.turn (c' := ⟨c.b, v8, kV c.s⟩) hi rfl m78 o8 (.inl k8) p9
      obtain ⟨es, ck, hm1, hm2, hm3⟩ := hM6.map.out
      have hnm : c.v.ownBlock ≠ some w.heap.size := hc.own.neMap hm1
      have hm8 := m78.at hm1 (fun e => hnm e.symm)
      refine ⟨?_, ?_, ?_, hg⟩
      ·refine (hM6.ext.move m78 (fun k hk => by have := (hc.own.block k hk).1; omega)).move p9.mv (by rintro k ⟨⟩; have := hc.ge; omega)
      ·have hm := hM6.map.at (w' := w9) (fun o ho => by
        rw [hm1] at ho; cases ho
        exact p9.at hm8 (fun e => by have b := b8; have h := hm8; rw [e] at h; rw [b] at h; cases h))
       rw [jI (c' := ⟨c.b, v8, kV c.s⟩) hi rfl]
       exact hm
      ·have hk13 := hM6.keys
       rw [lP (c' := ⟨c.b, v8, kV c.s⟩) hi rfl]
       have hk14 := hk13.mv m78 (hk13.ne hc.own (by omega))
       exact hk14.mv p9.mv (.inr (hk14.neBlock b8 (by omega)))
     have hout9 : Own (w.heap.size + 1) 4 131 w9 u12 ((gcs2.take j).map GC.cells) := by
      have h1 := hout6.mv (m7.trans m8) (hout6.ne hc.own (by omega))
      exact h1.mv p9.mv (.inr (hob c (List.mem_of_getElem? hi)))
     have b9 : w9.heap[c.b]? = some (.cells [aI c.s.name, .int .i64 c.s.kind, .int .i64 c.s.ttl, v8].toArray 131 (0, 0)) := p9.this
     have o9 : Own (w.heap.size + 1) 1 9 w9 v8 (aS (kV c.s).data) := (hM9.sets.each ⟨c.b, v8, kV c.s⟩ (List.mem_of_getElem? (List.getElem?_set_self hjl))).own
     have hnl : (aS (kV c.s).data).length = (kV c.s).data.length := bN _
     clear hpc m7 m8 p9 x6 hp6 b7 b8 o7 o8
     have hpc := aD b9
     have hsl9 := o9.sl
     refine_lift CR (fun _ => ?_) (fun _ => ?_)
     ·have hlong := ‹20 < ((aS (kV c.s).data).length : Int)›
      go_ret2
      refine ⟨_, rfl, hM9.ext, ?_⟩
      have hE : gL l = 4 := by
       have h1 : (dW l).any IR = true := by
        rw [List.any_eq_true]
        refine ⟨kV c.s, ?_, by simp [IR]; omega⟩
        rw [hcj, dW]
        exact List.mem_map.2 ⟨_, List.getElem_mem hlt2, rfl⟩
       rw [gL, if_neg (by rw [hall]; simp), if_pos h1]
      unfold GroupO
      rw [hE, if_neg (by omega)]
      rfl
     ·have hshort := ‹((aS (kV c.s).data).length : Int) ≤ 20›
      refine_lift dL ?_
      refine bT (e := 131) (k := 4) (bytes := 56) (xs := [.agg #[aI c.s.name, .int .i64 c.s.kind, .int .i64 c.s.ttl, v8]]) rfl rfl rfl (by simp [Value.cells]) (by decide +kernel) (by simp) ?_
      intro v10 w10 x10 s10 sl10 _
      refine aA ?_
      refine_lift dL ?_
      have hM10 := hM9.grow x10
      have hol : ((gcs2.take j).map GC.cells).length = j := by rw [List.length_map, List.length_take]; omega
      refine fO (B := w.heap.size + 1) (e := 131) (k := 4) (bytes := 56) rfl (hout9.ext x10) rfl sl10 (by decide +kernel) (by intro f hf u hu; simp only [List.map_cons, List.map_nil, List.mem_singleton] at hf; subst hf; simp only [Value.cells, List.mem_cons, List.not_mem_nil, or_false] at hu; rcases hu with rfl | rfl | rfl | rfl; rfl; rfl; rfl; exact o9.one) (by have := hM10.map.lt; omega) (by rw [hol]; simp; omega) (by rw [hol]; simp; omega) ?_
      intro v11 w11 o11 m11 k11
      have hob2 : ∀ x ∈ gcs2.set j ⟨c.b, v8, kV c.s⟩, u12.ownBlock ≠ some x.b := by
       intro x hx
       rcases uK hx with rfl | ⟨i, _, hx⟩
       ·exact hob c (List.mem_of_getElem? hi)
       ·exact hob x (List.mem_of_getElem? hx)
      have hM11 : L1 w w11 u5 (gcs2.set j ⟨c.b, v8, kV c.s⟩) := hM10.mvOut m11 (hout9.ext x10) hob2
      refine_lift dL ?_
      refine ⟨⟨j + 1, _, by omega, rfl, hM11, ?_, ?_, ?_, ?_⟩, by simp [intOf]; omega⟩
      ·rw [List.map_set, hs2, gC hlt2]
       have hA : (((cK l).take j).map kV).length = j := by rw [List.length_map, List.length_take]; omega
       rw [List.set_append_right _ _ (by omega), hA, Nat.sub_self, List.drop_eq_getElem_cons hlt2, List.set_cons_zero, List.append_assoc, hcj]
       rfl
      ·rw [gC hlt2, List.any_append, hbig, ← hcj]
       simp [IR]; omega
      ·have e1 : ((gcs2.set j ⟨c.b, v8, kV c.s⟩).take (j + 1)).map GC.cells = (gcs2.take j).map GC.cells ++ [[aI c.s.name, .int .i64 c.s.kind, .int .i64 c.s.ttl, v8]] := by
        rw [gC (by rw [List.length_set]; exact hjl)]
        congr 1
        ·rw [List.take_set_of_le (Nat.le_refl _)]
        ·rw [List.getElem_set_self]; rfl
       rw [e1]
       simpa [Value.cells] using o11
      ·intro x hx
       have hxb : x.b < w9.heap.size := (Array.getElem?_eq_some_iff.1 (hM9.sets.each x hx).blk).1
       rcases k11 with h | h
       ·rw [h]; exact hob2 x hx
       ·rw [h]; intro e; have := Option.some.inj e; omega
    ·have hj2 : j = (cK l).length := by omega
     subst hj2
     rw [List.take_length, List.drop_length, List.append_nil] at hs2
     rw [List.take_length] at hbig
     rw [← hl2, List.take_length] at hout
     have hosl := hout.sl
     have hol : (gcs2.map GC.cells).length = (cK l).length := by rw [List.length_map, hl2]
     have hbig2 : (dW l).any IR = false := hbig
     have hgl2 : (dW l).length = (cK l).length := by rw [dW, List.length_map]
     refine_lift QZ (fun _ _ _ _ => ?_) (fun _ _ _ _ => ?_)
     ·have h200 := ‹200 < (gcs2.length : Int)›
      go_ret2
      refine ⟨_, rfl, hM.ext, ?_⟩
      have hE : gL l = 4 := by rw [gL, if_neg (by rw [hall]; simp), if_neg (by rw [hbig2]; simp), if_pos (by omega)]
      unfold GroupO
      rw [hE, if_neg (by omega)]
      rfl
     ·have h200 := ‹(gcs2.length : Int) ≤ 200›
      have hE : gL l = 0 := by rw [gL, if_neg (by rw [hall]; simp), if_neg (by rw [hbig2]; simp), if_neg (by omega)]
      rcases hout.form with ⟨rfl, h0⟩ | ⟨g, cap, hform, hgs3, hgB, hgc, hg63⟩
      ·have hg0 : gcs2 = [] := by simpa using h0
       subst hg0
       refine aF (enters_of Tryz.func109 rfl rfl) rfl rfl (NW _ _) ?_
       rintro e w7 ⟨rfl, rfl⟩
       refine ⟨_, rfl, ?_⟩
       refine aA ?_
       refine_lift dL ?_
       go_ret2
       refine ⟨_, rfl, hM.ext, ?_⟩
       unfold GroupO
       rw [hE, if_pos rfl]
       refine ⟨[], .slice none 0 0, rfl, ?_, ?_, SetsO.nil _ _⟩
       ·have : dW l = [] := by rw [dW, ← hs2]; rfl
        rw [this]
       ·intro i j s t _ hs; simp at hs
      ·have hcells : (gcs2.map GC.toC).map SetC.cells = gcs2.map GC.cells := by
        rw [List.map_map]
        apply List.map_congr_left
        intro c hc
        exact GC.toC_cells (hM.sets.each c hc)
       have hlen : (gcs2.map GC.cells).length = (gcs2.map GC.toC).length := by simp
       rw [hlen] at hform
       have hout2 := hout
       rw [← hcells, hform] at hout2
       rw [hform]
       refine aF (enters_of Tryz.func109 rfl rfl) rfl rfl (TT _ _ hout2 (by rw [List.length_map]; omega)) ?_
       rintro e w7 ⟨rfl, l', hperm, hsort, o7, m7⟩
       refine ⟨_, rfl, ?_⟩
       refine aA ?_
       refine_lift dL ?_
       have hob7 : ∀ c ∈ gcs2, (Value.slice (some ⟨g, 0, none⟩) (gcs2.map GC.toC).length cap).ownBlock ≠ some c.b := by
        intro c hc; rw [← hform]; exact hob c hc
       have hM7 : L1 w w7 u5 gcs2 := hM.mvOut (out := .slice (some ⟨g, 0, none⟩) (gcs2.map GC.toC).length cap) m7 hout2 hob7
       go_ret2
       refine ⟨_, rfl, hM7.ext, ?_⟩
       unfold GroupO
       rw [hE, if_pos rfl]
       have hll : l'.length = (gcs2.map GC.toC).length := hperm.length_eq
       refine ⟨l'.map SetC.toS, .slice (some ⟨g, 0, none⟩) gcs2.length cap, rfl, ?_, ?_, ⟨l'.map SetC.cells, by rw [hll, List.length_map] at o7; exact o7.sl, by rw [hll, List.length_map] at o7; exact o7.from' (Nat.le_succ _), ⟨by simp, ?_⟩, ?_⟩⟩
       ·have h1 := hperm.map SetC.toS
        have h2 : (gcs2.map GC.toC).map SetC.toS = dW l := by
         rw [dW, ← hs2, List.map_map]
         apply List.map_congr_left
         intro c hc
         rfl
        rw [h2] at h1
        exact h1
       ·intro i j s t hij hs ht
        rw [List.getElem?_map] at hs ht
        cases hi : l'[i]? with
        | none => rw [hi] at hs; cases hs
        | some a =>
         cases hj3 : l'[j]? with
         | none => rw [hj3] at ht; cases ht
         | some b =>
          rw [hi] at hs; rw [hj3] at ht
          cases hs; cases ht
          obtain ⟨hi1, rfl⟩ := List.getElem?_eq_some_iff.1 hi
          obtain ⟨hj1, rfl⟩ := List.getElem?_eq_some_iff.1 hj3
          exact hsort i j hij hj1
       ·intro i s hs
        rw [List.getElem?_map] at hs
        cases hi : l'[i]? with
        | none => rw [hi] at hs; cases hs
        | some a =>
         rw [hi] at hs
         cases hs
         have hmem := hperm.mem_iff.1 (List.mem_of_getElem? hi)
         obtain ⟨c, hc, rfl⟩ := List.mem_map.1 hmem
         have hck := hM7.sets.each c hc
         refine ⟨c.v, by rw [List.getElem?_map, hi, Option.map_some, GC.toC_cells hck]; rfl, hck.own.sl⟩
       ·intro f hf u hu
        obtain ⟨a, ha, rfl⟩ := List.mem_map.1 hf
        obtain ⟨c, hc, rfl⟩ := List.mem_map.1 (hperm.mem_iff.1 ha)
        have hck := hM7.sets.each c hc
        rw [GC.toC_cells hck] at hu
        simp only [GC.cells, List.mem_cons, List.not_mem_nil, or_false] at hu
        rcases hu with rfl | rfl | rfl | rfl
        ·intro b o s n c e; cases e
        ·intro b o s n c e; cases e
        ·intro b o s n c e; cases e
        ·exact hck.own.from' (Nat.le_succ _)
theorem t9 (v : Value) (l : List Rec) (w : World) (hv : Sl 4 w v (aR l)) (hl : l.length ≤ 10000) : Calls Tryz.prog 60 #[v] w (sX w (CX l)) := by
 refine (SZ v l w hv hl).mono ?_
 rintro e w' ⟨r, h1, h2, h3⟩
 exact ⟨r, h1, h2, h3.group⟩
theorem uQ (d : Array (List UInt8)) (x : List UInt8) : ∀ m, x ∈ Lib.compactUpTo d m ↔ ∃ j, j < m ∧ d[j]! = x
 | 0 => by simp [Lib.compactUpTo]
 | m + 1 => by
   have ih := uQ d x m
   rw [Lib.compactUpTo_succ, List.mem_append, ih]
   constructor
   ·rintro (⟨j, h1, h2⟩ | h)
    ·exact ⟨j, by omega, h2⟩
    ·split at h
     ·exact ⟨m, by omega, (List.mem_singleton.1 h).symm⟩
     ·cases h
   ·rintro ⟨j, h1, h2⟩
    by_cases hj : j < m
    ·exact .inl ⟨j, hj, h2⟩
    ·have : j = m := by omega
     subst this
     by_cases hk : Lib.keeps d j = true
     ·right; rw [if_pos hk]; simp [h2]
     ·left
      simp only [Lib.keeps, decide_eq_true_eq, not_or, ne_eq, Classical.not_not] at hk
      exact ⟨j - 1, by omega, by rw [← hk.2]; exact h2⟩
theorem sG {a b : List UInt8} (h : a ≤ b) (hn : a ≠ b) : a < b := by
 rcases Std.lt_trichotomy a b with h1 | h1 | h1
 ·exact h1
 ·exact absurd h1 hn
 ·exact absurd h (List.not_le.2 h1)
theorem sH (d : Array (List UInt8)) (hd : ∀ i j, i < j → j < d.size → d[i]! ≤ d[j]!) : ∀ m, m ≤ d.size → (Lib.compactUpTo d m).Pairwise (· < ·)
 | 0, _ => by simp [Lib.compactUpTo]
 | m + 1, hm => by
   have ih := sH d hd m (by omega)
   rw [Lib.compactUpTo_succ, List.pairwise_append]
   refine ⟨ih, by split <;> simp, fun x hx y hy => ?_⟩
   split at hy
   ·rename_i hk
    have hy := List.mem_singleton.1 hy
    subst hy
    obtain ⟨j, hj, rfl⟩ := (uQ d x m).1 hx
    simp only [Lib.keeps, decide_eq_true_eq] at hk
    have hne : d[m]! ≠ d[m - 1]! := hk.resolve_left (by omega)
    have h1 : d[j]! ≤ d[m - 1]! := by
     by_cases e : j = m - 1
     ·rw [e]; exact List.le_refl _
     ·exact hd j (m - 1) (by omega) (by omega)
    have h2 := sG (hd (m - 1) m (by omega) (by omega)) (Ne.symm hne)
    exact Std.lt_of_le_of_lt h1 h2
   ·cases hy
def PQ (l : List (List UInt8)) : List (List UInt8) := Lib.compact (l.mergeSort fun x y => decide (x ≤ y))
theorem LG {l : List (List UInt8)} {x : List UInt8} : x ∈ PQ l ↔ x ∈ l := by
 unfold PQ Lib.compact
 rw [uQ]
 rw [← List.mem_mergeSort (le := fun x y : List UInt8 => decide (x ≤ y)) (l := l)]
 generalize l.mergeSort (fun x y => decide (x ≤ y)) = s
 constructor
 ·rintro ⟨j, hj, h⟩
  rw [getElem!_pos s.toArray j (by simpa using hj)] at h
  rw [← h]
  simp
 ·intro h
  obtain ⟨j, hj⟩ := List.mem_iff_getElem?.1 h
  obtain ⟨hj1, hj2⟩ := List.getElem?_eq_some_iff.1 hj
  exact ⟨j, hj1, by rw [getElem!_pos s.toArray j (by simpa using hj1)]; simpa using hj2⟩
theorem CY (l : List (List UInt8)) : (PQ l).Pairwise (· < ·) := by
 unfold PQ Lib.compact
 have hs := List.pairwise_mergeSort (le := fun x y : List UInt8 => decide (x ≤ y)) (fun a b c h1 h2 => by simp at *; exact Std.le_trans h1 h2) (fun a b => by simp; exact Std.le_total) l
 generalize l.mergeSort (fun x y => decide (x ≤ y)) = s at hs ⊢
 refine sH _ (fun i j hij hj => ?_) _ (by simp)
 have hj' : j < s.length := by simpa using hj
 rw [getElem!_pos s.toArray j hj, getElem!_pos s.toArray i (by simp; omega)]
 have := List.pairwise_iff_getElem.1 hs i j (by omega) hj' hij
 simpa using this
theorem GD : ∀ {a b : List (List UInt8)}, a.Pairwise (· < ·) → b.Pairwise (· < ·) → (∀ x, x ∈ a ↔ x ∈ b) → a = b := by
 intro a b ha hb h
 have na : a.Nodup := ha.imp (fun h e => by subst e; exact Std.lt_irrefl h)
 have nb : b.Nodup := hb.imp (fun h e => by subst e; exact Std.lt_irrefl h)
 have hp : a.Perm b := (List.perm_ext_iff_of_nodup na nb).2 h
 exact hp.eq_of_pairwise (le := (· < ·)) (fun x y _ _ h1 h2 => absurd (Std.lt_trans h1 h2) (Std.lt_irrefl)) ha hb
def NZ (gs : List RSet) (r : Rec) : Prop := ∃ s ∈ gs, bH s r = true ∧ s.ttl ≤ r.ttl ∧ r.data ∈ s.data
theorem sI {s : RSet} {r q : Rec} : bH (iM s r) q = bH s q := rfl
theorem nT : ∀ {gs : List RSet} {r : Rec}, NZ (dG gs r) r
 | [], r => ⟨⟨fold r.name, r.kind, r.ttl, [r.data]⟩, by simp [dG], by simp [bH], Int.le_refl _, by simp⟩
 | a :: l, r => by
   by_cases h : bH a r = true
   ·exact ⟨iM a r, by simp [dG, h], by rw [sI]; exact h, Int.min_le_right _ _, by simp [iM]⟩
   ·obtain ⟨s, h1, h2⟩ := nT (gs := l) (r := r)
    exact ⟨s, by simp [dG, h, h1], h2⟩
theorem xL : ∀ {gs : List RSet} {r q : Rec}, NZ gs q → NZ (dG gs r) q
 | [], r, q, ⟨s, h, _⟩ => by simp at h
 | a :: l, r, q, ⟨s, h1, h2, h3, h4⟩ => by
   by_cases h : bH a r = true
   ·rcases List.mem_cons.1 h1 with rfl | h1
    ·exact ⟨iM s r, by simp [dG, h], by rw [sI]; exact h2, Int.le_trans (Int.min_le_left _ _) h3, by simp [iM, h4]⟩
    ·exact ⟨s, by simp [dG, h, h1], h2, h3, h4⟩
   ·rcases List.mem_cons.1 h1 with rfl | h1
    ·exact ⟨s, by simp [dG, h], h2, h3, h4⟩
    ·obtain ⟨t, g1, g2⟩ := xL (gs := l) (r := r) ⟨s, h1, h2, h3, h4⟩
     exact ⟨t, by simp [dG, h, g1], g2⟩
theorem uR (l : List Rec) : ∀ gs, (∀ q, NZ gs q → NZ (l.foldl dG gs) q) ∧ ∀ q ∈ l, NZ (l.foldl dG gs) q := by
 induction l with
 | nil => intro gs; exact ⟨fun _ h => h, by simp⟩
 | cons r l ih =>
  intro gs
  obtain ⟨h1, h2⟩ := ih (dG gs r)
  refine ⟨fun q h => h1 q (xL h), fun q hq => ?_⟩
  rcases List.mem_cons.1 hq with rfl | hq
  ·exact h1 q nT
  ·exact h2 q hq
theorem uS {l : List Rec} {q : Rec} (h : q ∈ l) : NZ (cK l) q := (uR l []).2 q h
theorem nF : ∀ {ls : List (List UInt8)}, ls.all gK = true → iP (enc ls) = some ls
 | [], _ => rfl
 | x :: ls, h => by
   simp only [List.all_cons, Bool.and_eq_true] at h
   obtain ⟨hx, hl⟩ := h
   have e : enc (x :: ls) = UInt8.ofNat x.length :: (x ++ enc ls) := by simp [enc]
   simp only [gK, Bool.and_eq_true, decide_eq_true_eq] at hx
   have hn : (UInt8.ofNat x.length).toNat = x.length := by rw [UInt8.toNat_ofNat']; exact Nat.mod_eq_of_lt (by omega)
   rw [e, lI, hn, if_neg (by rw [List.length_append]; omega), List.drop_left, List.take_left, nF hl]
   rfl
theorem oJ {ls : List (List UInt8)} (h : ls.all gK = true) (hl : (enc ls).length ≤ 254) : aX (enc ls) = some ls := by
 rw [aX, if_neg (by omega), nF h]
theorem GE (b : UInt8) : tZ (tZ b) = tZ b := by
 unfold tZ
 by_cases h : 65 ≤ b.toNat ∧ b.toNat ≤ 90
 ·rw [if_pos h, if_neg]
  have : (b + 32).toNat = b.toNat + 32 := by rw [UInt8.toNat_add]; have : (32 : UInt8).toNat = 32 := rfl; rw [this]; omega
  omega
 ·rw [if_neg h, if_neg h]
theorem IS (l : List UInt8) : low (low l) = low l := by simp [low, GE]
theorem LH {ls : List (List UInt8)} (h : ls.all gK = true) : (ls.map low).all gK = true := by
 simp only [List.all_map, List.all_eq_true] at *
 intro x hx
 have := h x hx
 simpa [gK, uA] using this
theorem oK {n : List UInt8} {ls : List (List UInt8)} (h : aX n = some ls) : fold n = enc (ls.map low) ∧ aX (fold n) = some (ls.map low) ∧ fold (fold n) = fold n := by
 obtain ⟨h1, h2, h3⟩ := fD h
 have hf := LH h1
 have hl : (enc (ls.map low)).length ≤ 254 := by rw [uD, h2]; exact h3
 have e1 : fold n = enc (ls.map low) := by
  unfold fold
  rw [h]
  simp only [nP]
  rw [if_pos ⟨hf, hl⟩]
  rfl
 have e2 : aX (fold n) = some (ls.map low) := by rw [e1]; exact oJ hf hl
 refine ⟨e1, e2, ?_⟩
 have hmm : (ls.map low).map low = ls.map low := by simp [List.map_map, Function.comp_def, IS]
 show (match aX (fold n) with | none => fold n | some ls => (nP (ls.map low)).getD []) = fold n
 rw [e2]
 simp only [hmm, nP]
 rw [if_pos ⟨hf, hl⟩, e1]
 rfl
def Small (n : List UInt8) : Prop := ∃ m ls, aX m = some ls ∧ n = fold m
theorem Small.turned {n : List UInt8} (h : Small n) : ∃ ls, dD n = some ls.reverse ∧ n = enc ls := by
 obtain ⟨m, ls, h1, rfl⟩ := h
 obtain ⟨e1, e2, e3⟩ := oK h1
 exact ⟨ls.map low, by rw [X.dD, e3, e2]; rfl, e1⟩
theorem GF {a b : List UInt8} (h : mP a b = 0) : a = b := by
 rw [kU] at h
 split at h
 ·omega
 ·split at h
  ·assumption
  ·omega
theorem xM : ∀ {a b : List (List UInt8)}, gH a b = 0 → a = b
 | [], [], _ => rfl
 | [], _ :: _, h => by simp [gH] at h
 | _ :: _, [], h => by simp [gH] at h
 | x :: xs, y :: ys, h => by
   simp only [gH] at h
   split at h
   ·rename_i hn; exact absurd h hn
   ·rename_i hn
    have hz : mP x y = 0 := by omega
    rw [GF hz, xM h]
theorem GG {a b : List UInt8} (ha : Small a) (hb : Small b) (h : lL a b = 0) : a = b := by
 obtain ⟨x, hx, rfl⟩ := ha.turned
 obtain ⟨y, hy, rfl⟩ := hb.turned
 unfold lL at h
 rw [hx, hy] at h
 have := xM h
 rw [List.reverse_inj.1 this]
theorem jT {a b : List UInt8} {j k : Int} (ha : Small a) (hb : Small b) (h : dS a b j k = 0) : a = b ∧ j = k := by
 unfold dS at h
 split at h
 ·rename_i hn; exact absurd h hn
 ·rename_i hn
  refine ⟨GG ha hb (by omega), ?_⟩
  unfold FY at h
  split at h
  ·omega
  ·split at h <;> omega
theorem pX {l : List Rec} (h : l.all xJ = true) {s : RSet} (hs : s ∈ dW l) : Small s.name := by
 obtain ⟨t, ht, rfl⟩ := List.mem_map.1 hs
 obtain ⟨r, hr, e1, _⟩ := xK ht
 have hrc : bF r = 0 := by simpa [xJ] using List.all_eq_true.1 h r hr
 obtain ⟨hlab, _⟩ := iX (n := []) hrc
 obtain ⟨ls, hls⟩ := Option.isSome_iff_exists.1 hlab
 exact ⟨r.name, ls, hls, e1⟩
theorem pY (l : List Rec) : (dW l).Pairwise fun s t => ¬ (s.name = t.name ∧ s.kind = t.kind) := List.pairwise_map.2 (gB.1 (iW l))
def RI (s t : RSet) : Prop := 0 ≤ dS t.name s.name t.kind s.kind
theorem xN {l : List RSet} (h : oI l) : l.Pairwise RI := by
 rw [List.pairwise_iff_getElem]
 intro i j hi hj hij
 exact h i j _ _ hij (List.getElem?_eq_getElem hi) (List.getElem?_eq_getElem hj)
theorem CZ {l : List Rec} (hok : l.all xJ = true) {a b : List RSet} (ha : a.Perm (dW l)) (hb : b.Perm (dW l)) (sa : oI a) (sb : oI b) : a = b := by
 have key : ∀ s t, s ∈ a → t ∈ b → RI s t → RI t s → s = t := by
  intro s t hs ht h1 h2
  have hs' := ha.mem_iff.1 hs
  have ht' := hb.mem_iff.1 ht
  have an : dS t.name s.name t.kind s.kind = - dS s.name t.name s.kind t.kind := jH.anti (s.name, s.kind) (t.name, t.kind)
  have h1' : 0 ≤ dS t.name s.name t.kind s.kind := h1
  have h2' : 0 ≤ dS s.name t.name s.kind t.kind := h2
  clear h1 h2
  have hz : dS s.name t.name s.kind t.kind = 0 := by
   generalize dS s.name t.name s.kind t.kind = p at *
   generalize dS t.name s.name t.kind s.kind = q at *
   omega
  obtain ⟨e1, e2⟩ := jT (pX hok hs') (pX hok ht') hz
  by_cases e : s = t
  ·exact e
  ·exfalso
   obtain ⟨i, hi⟩ := List.mem_iff_getElem?.1 hs'
   obtain ⟨j, hj⟩ := List.mem_iff_getElem?.1 ht'
   have hij : i ≠ j := by
    rintro rfl
    rw [hi] at hj
    exact e (Option.some.inj hj)
   exact gB.2 (pY l) i j s t hi hj hij ⟨e1, e2⟩
 exact List.Perm.eq_of_pairwise key (xN sa) (xN sb) (ha.trans hb.symm)
theorem xO (n : List UInt8) : dD n = (aX n).map fun ls => (ls.map low).reverse := by
 cases h : aX n with
 | none => simp [dD, fold, h]
 | some ls => simp [dD, (oK h).2.1]
def cW (n t : List UInt8) : Bool := match dD n with
 | none => false
 | some a => match dD t with
   | none => false
   | some b => decide (a.take b.length = b)
theorem xP : ∀ (k : Nat) (a b : List (List UInt8)), a.take k = b.take k → k ≤ a.length → k ≤ b.length → gH a b = gH (a.drop k) (b.drop k)
 | 0, a, b, _, _, _ => by simp
 | k + 1, x :: a, y :: b, h, h1, h2 => by
   simp only [List.take_succ_cons, List.cons.injEq] at h
   obtain ⟨rfl, h⟩ := h
   have e : mP x x = 0 := fZ.refl x
   rw [gH, e]
   simp only [ne_eq, not_true_eq_false, if_false, List.drop_succ_cons]
   exact xP k a b h (by simpa using h1) (by simpa using h2)
 | k + 1, [], _, _, h1, _ => by simp at h1
 | k + 1, _ :: _, [], _, _, h2 => by simp at h2
theorem AU {k : Nat} {a b : List (List UInt8)} (h : a.take k = b.take k) (h1 : k ≤ a.length) (h2 : k ≤ b.length) (he : k = a.length ∨ k = b.length) : gH a b = if a.length < b.length then -1 else if b.length < a.length then 1 else 0 := by
 rw [xP k a b h h1 h2]
 rcases he with rfl | rfl
 ·rw [List.drop_length]
  cases hd : b.drop a.length with
  | nil =>
   have := List.drop_eq_nil_iff.1 hd
   rw [gH, if_neg (by omega), if_neg (by omega)]
  | cons y l =>
   have : a.length < b.length := by
    rcases Nat.lt_or_ge a.length b.length with h | h
    ·exact h
    ·rw [List.drop_eq_nil_iff.2 h] at hd; cases hd
   rw [gH, if_pos this]
 ·rw [List.drop_length]
  cases hd : a.drop b.length with
  | nil =>
   have := List.drop_eq_nil_iff.1 hd
   rw [gH, if_neg (by omega), if_neg (by omega)]
  | cons y l =>
   have : b.length < a.length := by
    rcases Nat.lt_or_ge b.length a.length with h | h
    ·exact h
    ·rw [List.drop_eq_nil_iff.2 h] at hd; cases hd
   rw [gH, if_neg (by omega), if_pos this]
theorem pZ {α : Type} {p : α → Bool} {l : List α} {k : Nat} (hk : k < l.length) (h : (l.take k).any p = false) (hp : p l[k] = false) : (l.take (k + 1)).any p = false := by
 rw [List.take_succ_eq_append_getElem hk, List.any_append, h]; simp [hp]
theorem OA {α : Type} {p : α → Bool} {l : List α} {k : Nat} (hk : k < l.length) (hp : p l[k] = true) : l.any p = true :=
 List.any_eq_true.mpr ⟨_, List.getElem_mem hk, hp⟩
theorem GH {r q : Rec} {w : World} : (Op.equalIn 10000 106 (.agg #[aI r.name, .int .i64 r.kind, .int .i64 r.ttl, aI r.data]) (.agg #[aI q.name, .int .i64 q.kind, .int .i64 q.ttl, aI q.data])).run Tryz.prog w = .ok (decide (r = q)) w := by
 have hS : Tryz.prog.underlying 106 = some (.struct (Tryz.prog.fieldsOf 106)) := by kernel_rfl
 rw [show (10000 : Nat) = 9999 + 1 from rfl, run_equalIn_agg w 9999 106 _ _ hS (by kernel_rfl)]
 simp only [Program.fieldsOf, Tryz.underlying106]
 have u3 := Tryz.underlying3
 have u9 := Tryz.underlying9
 have u31 := Tryz.underlying47
 have a3 := Tryz.isAgg3
 have a9 := Tryz.isAgg9
 have a31 := Tryz.isAgg47
 have z3 := Tryz.sizeOf3
 have z9 := Tryz.sizeOf9
 have z31 := Tryz.sizeOf47
 unfold aI
 go_simp
 obtain ⟨a1, a2, a3, a4⟩ := r
 obtain ⟨b1, b2, b3, b4⟩ := q
 simp only [Rec.mk.injEq]
 by_cases h1 : a1 = b1 <;> by_cases h2 : a2 = b2 <;> by_cases h3 : a3 = b3 <;> by_cases h4 : a4 = b4 <;> simp [h1, h2, h3, h4]
theorem Runs.neqRec {r q : Rec} {x y : Operand} {a : Act} {w : World} {d : Option Nat} {u ty : TypeId} {ps : String} {af : Array Edge} {g : Option (Nat × Bool)}
 (hx : a.eval x = .agg #[aI r.name, .int .i64 r.kind, .int .i64 r.ttl, aI r.data]) (hy : a.eval y = .agg #[aI q.name, .int .i64 q.kind, .int .i64 q.ttl, aI q.data]) :
 Runs Tryz.prog (Oper.mk d (.binOp .neq 106 x y u) ty ps af g) a w (.bool (!decide (r = q))) := by
 constructor
 have hg := run_eqGuard_agg (P := Tryz.prog) w .neq 106 x y #[aI r.name, .int .i64 r.kind, .int .i64 r.ttl, aI r.data] #[aI q.name, .int .i64 q.kind, .int .i64 q.ttl, aI q.data] (by kernel_rfl)
 simp only [execOp, hx, hy, Sem.run_bind, hg, Result.andThen_ok, run_neq_struct, GH, Sem.run_pure]
set_option maxHeartbeats 12000000 in
theorem yX (u v : Value) (a b : List Rec) (w : World) (hu : Sl 4 w u (aR a)) (hv : Sl 4 w v (aR b)) : Calls Tryz.prog 28 #[u, v] w (bS w (.bool (decide (a = b)))) := by
 have la := bD a
 have lb := bD b
 have hla := hu.le
 have hlb := hv.le
 by_cases hl : a.length = b.length
 ·go_enter Tryz.func28, Tryz.ntmps28
  refine_lift FX (fun _ _ _ => ?_) (fun _ => ?_)
  ·have hbad := ‹(!decide (((aR a).length : Int) = ((aR b).length : Int))) = true›
   exfalso; simp at hbad; omega
  go_loopw [5] (fun i wr => ∃ k : Nat, k ≤ a.length ∧ i = .int .i64 k ∧ Ext w wr ∧ a.take k = b.take k) (fun i _ => a.length - (intOf i).toNat)
  case atStart => exact ⟨0, Nat.zero_le _, rfl, Ext.refl _, rfl⟩
  case round =>
   obtain ⟨k, hk, rfl, hx, hall⟩ := hrel
   by_cases hlt : k < a.length
   ·have hlt2 : k < b.length := by omega
    have hpa := (hu.ext hx).elem (jB hlt)
    have hpb := (hv.ext hx).elem (jB hlt2)
    have hua := hu.ext hx
    have hvb := hv.ext hx
    refine_lift HW ?_; intro _ _ _ _ _ _
    refine fN (by decide +kernel) (by decide +kernel) ?_
    refine_lift SI ?_
    refine yQ (v := .bool (!decide (a[k] = b[k]))) rfl (fun w' _ => Runs.neqRec rfl rfl) ?_
    refine aA ?_
    refine_lift SI ?_
    intro w3 x3
    refine_lift CR (fun _ => ?_) (fun _ => ?_)
    ·have hne := ‹(!decide (a[k] = b[k])) = true›
     have hab : a ≠ b := uH hlt hlt2 (by simpa using hne)
     go_ret
     exact ⟨by rw [decide_eq_false hab]; rfl, hx.trans x3⟩
    ·have heq := ‹(!decide (a[k] = b[k])) = false›
     exact ⟨⟨k + 1, by omega, by go_num, hx.trans x3, lN hall hlt hlt2 (by simpa using heq)⟩, by simp [intOf]; omega⟩
   ·have : k = a.length := by omega
    subst this
    have hab : a = b := by rw [List.take_length, hl, List.take_length] at hall; exact hall
    refine_lift yU fun _ => ?_
    go_ret
    exact ⟨by rw [decide_eq_true hab]; rfl, hx⟩
 ·have hab : a ≠ b := fun h => hl (by rw [h])
  go_enter Tryz.func28, Tryz.ntmps28
  refine_lift FX (fun _ _ _ => ?_) (fun _ => ?_)
  ·go_ret
   exact ⟨by rw [decide_eq_false hab]; rfl, Ext.refl _⟩
  ·have hbad := ‹(!decide (((aR a).length : Int) = ((aR b).length : Int))) = false›
   exfalso; simp at hbad; omega
def mT (n : List UInt8) : Nat := ((aX n).getD []).length
def jU (o n : List UInt8) (b : List UInt8 × Bool) (s : RSet) : List UInt8 × Bool :=
 if s.kind = 2 ∧ s.name ≠ o ∧ cW n s.name = true ∧ (b.2 = false ∨ mT s.name < mT b.1) then (s.name, true) else b
def yY (o : List UInt8) (l : List RSet) (n : List UInt8) : List UInt8 × Bool := l.foldl (jU o n) ([], false)
def IT (o : List UInt8) (l : List RSet) (s : RSet) : Bool :=
 !(yY o l s.name).2 || decide (s.kind = 1) || decide (s.kind = 28) || (decide (s.kind = 2) && decide (s.name = (yY o l s.name).1))
def uT (s t : RSet) : Bool := decide (t.name = s.name) && decide (t.kind ≠ 5)
def gM (o : List UInt8) (l : List RSet) (s : RSet) : Bool :=
 cW s.name o && !(decide (s.kind = 6) && (decide (s.name ≠ o) || decide (s.data.length ≠ 1))) && !(decide (s.kind = 5) && (decide (s.data.length ≠ 1) || l.any (uT s))) && IT o l s
def uU (a b : RSet) : Bool := decide (lL a.name b.name < 0) || (decide (lL a.name b.name = 0) && decide (a.kind < b.kind))
end Go.Proofs.X
