/- Laws and walks that the proof of the statement is made of (part 6). -/
import Derived.Test.YteofaejlmdplhaaGreatP5
set_option linter.unusedSimpArgs false
set_option linter.unusedVariables false
namespace Go.Proofs.X
open Go.RowKit
set_option maxRecDepth 100000
def mT (r : Rec) : Bool := decide (aW r = 0)
def lI (s : RSet) : RSet := ⟨s.name, s.kind, s.ttl, Lib.compact (s.data.mergeSort fun x y => decide (x ≤ y))⟩
theorem jS {n : List UInt8} {r : Rec} (h : aW r = 0) : (bF r.name).isSome = true ∧ 1 ≤ r.kind ∧ r.kind ≤ 65535 := by
 unfold aW at h
 split at h
 ·omega
 ·split at h
  ·omega
  ·split at h
   ·rename_i h1; exact ⟨h1, by omega, by omega⟩
   ·omega
theorem DR (n : List UInt8) (h : (bF n).isSome = true) : (fold n).length ≤ 254 := by
 unfold fold
 cases hl : bF n with
 | none => rw [hl] at h; cases h
 | some ls =>
  simp only
  cases hj : lW (ls.map low) with
  | none => simp
  | some m =>
   unfold lW at hj
   split at hj
   ·rename_i hh; cases hj; simpa using hh.2
   ·cases hj
theorem DS {w : World} {a b t t' : Nat} {x y : Array Value} {f f' : Nat × Nat} (ha : w.heap[a]? = some (.cells x t f)) (hb : w.heap[b]? = some (.cells y t' f')) (h : t ≠ t') : a ≠ b := by
 rintro rfl
 rw [ha] at hb
 simp only [Option.some.injEq, Obj.cells.injEq] at hb
 exact h hb.2.1
theorem kF {gcs : List GC} {i : Nat} {c c' : GC} (hi : gcs[i]? = some c) (h : c'.key = c.key) : (gcs.set i c').map GC.key = gcs.map GC.key := by
 rw [List.map_set, h]
 apply List.ext_getElem?
 intro j
 by_cases e : i = j
 ·subst e
  rw [List.getElem?_set_self (by simpa using (List.getElem?_eq_some_iff.1 hi).1), List.getElem?_map, hi]; rfl
 ·rw [List.getElem?_set_ne e]
theorem mE {gcs : List GC} {i : Nat} {c c' : GC} (hi : gcs[i]? = some c) (h : c'.kcells = c.kcells) : (gcs.set i c').map GC.kcells = gcs.map GC.kcells := by
 rw [List.map_set, h]
 apply List.ext_getElem?
 intro j
 by_cases e : i = j
 ·subst e
  rw [List.getElem?_set_self (by simpa using (List.getElem?_eq_some_iff.1 hi).1), List.getElem?_map, hi]; rfl
 ·rw [List.getElem?_set_ne e]
theorem vR (l : List Rec) : ∀ (l2 : List Rec) (gs : List RSet), (∀ s : RSet, s ∈ gs → ∃ r ∈ l, s.name = fold r.name ∧ s.kind = r.kind) → (∀ r ∈ l2, r ∈ l) → ∀ s : RSet, s ∈ l2.foldl dG gs → ∃ r ∈ l, s.name = fold r.name ∧ s.kind = r.kind
 | [], gs, h, _ => h
 | r :: l2, gs, h, hsub => by
   refine vR l l2 _ (fun s hs => ?_) (fun r hr => hsub r (by simp [hr]))
   rcases qO hs with ⟨t, ht, e1, e2⟩ | ⟨e1, e2⟩
   ·obtain ⟨r, hr, f1, f2⟩ := h t ht
    exact ⟨r, hr, by rw [← e1, f1], by rw [← e2, f2]⟩
   ·exact ⟨r, hsub r (by simp), e1, e2⟩
theorem zW {l : List Rec} {s : RSet} (h : s ∈ cL l) : ∃ r ∈ l, s.name = fold r.name ∧ s.kind = r.kind :=
 vR l l [] (by simp) (fun _ h => h) s h
theorem JD (r : Rec) : aW r = 0 ∨ aW r = 1 := by
 unfold aW
 split
 ·exact .inr rfl
 ·split
  ·exact .inr rfl
  ·split
   ·exact .inl rfl
   ·exact .inr rfl
def eI (l : List Rec) : List RSet := (cL l).map lI
def BR (s : RSet) : Bool := decide (20 < s.data.length)
def jJ (l : List Rec) : Int := if l.all mT = false then 1 else if (eI l).any BR = true then 4 else if 200 < (eI l).length then 4 else 0
def sS (l : List RSet) : Prop := ∀ (i j : Nat) (s t : RSet), i < j → l[i]? = some s → l[j]? = some t → 0 ≤ dQ t.name s.name t.kind s.kind
def GroupO (B : Nat) (l : List Rec) (r : Value) (w' : World) : Prop :=
 if jJ l = 0 then ∃ out v, r = .tuple #[v, .int .i64 0] ∧ out.Perm (eI l) ∧ sS out ∧ SetsO B w' v out else r = .tuple #[.slice none 0 0, .int .i64 (jJ l)]
def vA : Value → Option Addr | .slice a _ _ => a | _ => none
def vN : Value → Nat | .slice _ n _ => n | _ => 0
def vC : Value → Nat | .slice _ _ c => c | _ => 0
def GC.toC (c : GC) : SetC := ⟨c.s.name, c.s.kind, c.s.ttl, vA c.v, vN c.v, vC c.v, c.s.data⟩
def SetC.toS (s : SetC) : RSet := ⟨s.name, s.kind, s.ttl, s.d⟩
theorem Sl.isSlice {k : Nat} {w : World} {v : Value} {es : List (List Value)} (h : Sl k w v es) : v = .slice (vA v) (vN v) (vC v) := by
 obtain ⟨a, cap, rfl, _⟩ := h; rfl
theorem GC.toC_cells {w : World} {B : Nat} {c : GC} (h : GOK w B c) : c.toC.cells = c.cells := by
 simp only [SetC.cells, GC.toC, GC.cells, SetC.v, ← h.own.sl.isSlice]
theorem L1.mvOut {w0 w w' : World} {kv out : Value} {gcs : List GC} {es : List (List Value)} (h : L1 w0 w kv gcs) (m : Mv out.ownBlock w w') (ho : Own (w0.heap.size + 1) 4 119 w out es) (hob : ∀ c ∈ gcs, out.ownBlock ≠ some c.b) : L1 w0 w' kv gcs := by
 obtain ⟨es', ck, hm1, _⟩ := h.map.out
 refine ⟨h.ext.move m (fun k hk => by have := (ho.block k hk).1; omega), h.map.at (fun o hh => m.at hh (fun e => ho.neMap hm1 e.symm)), h.keys.mv m (h.keys.ne ho (by omega)), h.sets.mv m fun c hc => ⟨fun e => hob c hc e.symm, (h.sets.each c hc).own.ne ho (by omega)⟩⟩
set_option maxHeartbeats 24000000 in
theorem WX (v : Value) (l : List Rec) (w : World) (hv : Sl 4 w v (aD l)) (hl : l.length ≤ 10000) : Calls Tryz.prog 85 #[v] w (jE w (GroupO w.heap.size l)) := by
 have hle := aL l
 go_enter Tryz.func85, Tryz.ntmps85
 refine_lift hY fun _ _ => ?_
 refine_lift bY fun _ _ => ?_
 refine DC (kt := 175) rfl ?_
 intro w1 x1 s1 h1
 refine aA ?_
 refine_lift bY fun _ _ => ?_
 go_loopw [5, 7, 8, 9, 10, 11, 19] (fun kv _ _ _ _ _ i wr => ∃ (k : Nat) (gcs : List GC), k ≤ l.length ∧ i = .int .i64 k ∧ L1 w wr kv gcs ∧ (l.take k).all mT = true ∧ gcs.map GC.s = cL (l.take k)) (fun _ _ _ _ _ _ i _ => l.length - (intOf i).toNat)
 case atStart => exact ⟨0, [], Nat.zero_le _, rfl, ⟨x1, h1, Own.nil _ _ _ _, ⟨by simp, by simp⟩⟩, rfl, rfl⟩
 case round =>
  obtain ⟨k, gcs, hk, rfl, hL, hall, hgs⟩ := hrel
  have hx := hL.ext
  have hv2 := hv.ext hx
  by_cases hlt : k < l.length
  ·have hp := hv2.elem (cT hlt)
   refine_lift oM ?_; intro _ _ _ _ _ _
   refine aG (z := [aI [], .int .i64 0, .int .i64 0, aI []]) rfl (by decide +kernel) ?_
   intro w5 x5 s5 h5
   refine_lift aS ?_
   refine aC (v := .agg #[aI l[k].name, .int .i64 l[k].kind, .int .i64 l[k].ttl, aI l[k].data]) rfl rfl rfl h5 (show aO Tryz.prog 47 4 = true by decide +kernel) rfl (iM rfl rfl rfl rfl) ?_
   intro w6 p6
   have x6 : Ext wr w6 := x5.move p6.mv (by rintro k ⟨⟩; exact Nat.le_refl _)
   have hp6 := aE (cs := [aI l[k].name, .int .i64 l[k].kind, .int .i64 l[k].ttl, aI l[k].data]) p6.this
   have z6 : w6.heap.size = wr.heap.size + 1 := p6.size.trans s5
   have b6 : w6.heap[wr.heap.size]? = some (.cells [aI l[k].name, .int .i64 l[k].kind, .int .i64 l[k].ttl, aI l[k].data].toArray 47 (0, 0)) := p6.this
   have hL6 := hL.grow x6
   clear p6 h5 x5
   refine_lift gV fun _ _ _ _ => ?_
   refine aB (enters_of Tryz.func60 rfl rfl) rfl rfl (SW l[k] _) ?_; intro w7 x7; refine aA ?_
   refine_lift vF (fun _ _ _ => ?_) (fun _ => ?_)
   ·have hbad := ‹(!decide (aW l[k] = 0)) = true›
    have hne : aW l[k] ≠ 0 := by simpa using hbad
    have h1 : aW l[k] = 1 := (JD _).resolve_left hne
    go_ret2
    refine ⟨_, rfl, hx.trans (x6.trans x7), ?_⟩
    have hE : jJ l = 1 := by rw [jJ, if_pos (iA hlt (by simp [mT, hne]))]
    unfold GroupO
    rw [hE, if_neg (by omega), ← h1]
    rfl
   ·have hc0 : aW l[k] = 0 := by have := ‹(!decide (aW l[k] = 0)) = false›; simpa using this
    obtain ⟨hlab, hk1, hk2⟩ := jS (n := []) hc0
    have hL7 := hL6.grow x7
    apply PH (F := fun (kb : Nat) w' => Ext w7 w' ∧ w7.heap.size ≤ kb ∧ w'.heap[kb]? = some (.cells [aI (fold l[k].name), .int .i64 l[k].kind].toArray 175 (0, 0)))
    ·intro hK
     refine cC (S := Ext w7) (by decide +kernel) ?_
     intro w8 x8 _
     refine tk 0 ?_; refine aA ?_; refine tk 1 ?_; refine aA ?_; refine tk 3 ?_; refine aA ?_; refine tk 4 ?_; refine aA ?_
     refine fJ (i := 2) (j := 6) (by decide +kernel) rfl rfl rfl ?_ ?_
     ·refine aB (enters_of Tryz.func62 rfl rfl) rfl rfl (NV _ _) ?_; intro w9 x9; refine aA ?_
      refine aJ ⟨by exact dV, ?_⟩
      refine bP (i := 5) (v := .agg #[aI (fold l[k].name), .int .i64 l[k].kind]) rfl rfl (by decide +kernel) (by decide +kernel) (by decide +kernel) rfl (by exact dV) (fun w' _ => Runs.build rfl (by kernel_rfl)) (fun _ _ _ h => h) ?_
      refine aA ?_
      refine aT (i := 6) (by decide +kernel) rfl rfl ?_
      refine aG (z := [aI [], .int .i64 0]) rfl (by decide +kernel) ?_
      intro w10 x10 s10 h10
      refine aA ?_
      refine aJ ⟨by exact dV, ?_⟩
      refine aT (i := 7) (by decide +kernel) rfl rfl ?_
      refine aC (v := .agg #[aI (fold l[k].name), .int .i64 l[k].kind]) rfl rfl rfl h10 (show aO Tryz.prog 175 2 = true by decide +kernel) rfl (by simp [Value.cells, aI, Value.oneCell']) ?_
      intro w11 p11
      have x11 : Ext w7 w11 := ((x8.trans x9).trans x10).move p11.mv (by rintro k ⟨⟩; have := x8.size; have := x9.size; omega)
      refine aJ ⟨x11, ?_⟩
      refine cB (by decide +kernel) ?_
      have b11 := p11.this
      clear p11 h10
      have z11 : w7.heap.size ≤ w9.heap.size := Nat.le_trans x8.size x9.size
      generalize w9.heap.size = kb at b11 z11 ⊢
      exact hK kb w11 ⟨x11, z11, b11⟩
     ·refine aG (z := [aI [], .int .i64 0]) rfl (by decide +kernel) ?_
      intro w9 x9 s9 h9
      refine aA ?_
      refine aJ ⟨by exact dV, ?_⟩
      refine aT (i := 2) (by decide +kernel) rfl rfl ?_
      refine aB (enters_of Tryz.func62 rfl rfl) rfl rfl (NV _ _) ?_; intro w10 x10; refine aA ?_
      refine aJ ⟨by exact dV, ?_⟩
      refine bP (i := 5) (v := .agg #[aI (fold l[k].name), .int .i64 l[k].kind]) rfl rfl (by decide +kernel) (by decide +kernel) (by decide +kernel) rfl (by exact dV) (fun w' _ => Runs.build rfl (by kernel_rfl)) (fun _ _ _ h => h) ?_
      refine aA ?_
      refine aT (i := 7) (by decide +kernel) rfl rfl ?_
      refine aC (v := .agg #[aI (fold l[k].name), .int .i64 l[k].kind]) rfl rfl rfl (x10.at h9) (show aO Tryz.prog 175 2 = true by decide +kernel) rfl (by simp [Value.cells, aI, Value.oneCell']) ?_
      intro w11 p11
      have x11 : Ext w7 w11 := ((x8.trans x9).trans x10).move p11.mv (by rintro k ⟨⟩; have := x8.size; omega)
      refine aJ ⟨x11, ?_⟩
      refine cB (by decide +kernel) ?_
      have b11 := p11.this
      clear p11 h9
      have z11 : w7.heap.size ≤ w8.heap.size := x8.size
      generalize w8.heap.size = kb at b11 z11 ⊢
      exact hK kb w11 ⟨x11, z11, b11⟩
    ·rintro kb w8 ⟨x8, zkb, hkb⟩
     have hpk := aE hkb
     refine_lift bY fun _ _ => ?_
     have hL8 := hL7.grow x8
     have hr8 := (x7.trans x8).at b6
     have hfl := DR _ hlab
     obtain ⟨lx, hlx⟩ := HR (fold l[k].name) l[k].kind (by omega) (by omega)
     have hzv : ∀ w, (zeroValue 176).run Tryz.prog w = .ok (.pointer none) w := fun w => by kernel_rfl
     obtain ⟨u, bb, hrl, hcase⟩ := nF LC (show uU Tryz.prog 172 175 176 = true by decide +kernel) hzv hL8.map hlx true
     refine aQ rfl (Runs.lookup rfl rfl hrl) ?_
     refine aA ?_
     rcases hcase with ⟨i, hie, rfl⟩ | ⟨hno, rfl, rfl⟩
     ·rw [List.getElem?_map] at hie
      cases hi : gcs[i]? with
      | none => rw [hi] at hie; cases hie
      | some c =>
      rw [hi, Option.map_some] at hie
      simp only [GC.key, Option.some.injEq, Prod.mk.injEq, Value.agg.injEq] at hie
      obtain ⟨hie1, rfl⟩ := hie
      have hcn : c.s.name = fold l[k].name ∧ c.s.kind = l[k].kind := by
       have := congrArg Array.toList hie1
       simp only [List.cons.injEq, aI, Value.string.injEq, Value.int.injEq, true_and, and_true, ByteArray.mk.injEq] at this
       exact ⟨by simpa using this.1, this.2⟩
      have hgi : (cL (l.take k))[i]? = some c.s := by rw [← hgs, List.getElem?_map, hi]; rfl
      refine_lift bY fun _ _ => ?_
      have hdl : (aN c.s.data).length ≤ 20000 := by
       have h1 := DN (List.mem_of_getElem? hgi)
       rw [rJ, List.length_take] at h1
       rw [aR]; omega
      have hfin : List.set (gcs.map GC.s) i (jI c.s l[k]) = cL (l.take (k + 1)) := by
       rw [hgs, nN hlt]
       exact (zS hgi (by simp [bI, hcn.1, hcn.2]) (jR _)).symm
      have hM := hL8
      have hr9 := hr8
      obtain ⟨w9, hw9⟩ : ∃ w9, w9 = w8 := ⟨_, rfl⟩
      rw [← hw9] at hM hr9 ⊢
      obtain ⟨gcs1, hg1⟩ : ∃ g, g = gcs := ⟨_, rfl⟩
      obtain ⟨kv, hkv⟩ : ∃ g, g = u5 := ⟨_, rfl⟩
      rw [← hg1] at hM hi hfin
      rw [← hkv] at hM ⊢
      have hc := hM.sets.each c (List.mem_of_getElem? hi)
      have hpc := aE (cs := c.cells) hc.blk
      have hpr := aE hr9
      refine cG 10 (Ext w9) (by decide +kernel) ?_
      intro w10 x10 _
      refine ⟨x10, ?_⟩
      ((with_reducible apply bQ (i := 0)); (rfl); (rfl); (rfl); (decide +kernel); (decide +kernel); (decide +kernel); (decide +kernel); (rfl); (intro _ _; exact rn); (exact fun _ _ _ h => h); (refine aA ?_)); ((with_reducible apply bQ (i := 1)); (rfl); (rfl); (rfl); (decide +kernel); (decide +kernel); (decide +kernel); (decide +kernel); (rfl); (intro _ _; exact rn); (exact fun _ _ _ h => h); (refine aA ?_)); ((with_reducible apply bQ (i := 2)); (rfl); (rfl); (rfl); (decide +kernel); (decide +kernel); (decide +kernel); (decide +kernel); (rfl); (intro _ _; exact rn); (exact fun _ _ _ h => h); (refine aA ?_)); ((with_reducible apply bQ (i := 3)); (rfl); (rfl); (rfl); (decide +kernel); (decide +kernel); (decide +kernel); (decide +kernel); (rfl); (intro _ _; exact rn); (exact fun _ _ _ h => h); (refine aA ?_)); ((with_reducible apply bQ (i := 4)); (rfl); (rfl); (rfl); (decide +kernel); (decide +kernel); (decide +kernel); (decide +kernel); (rfl); (intro _ _; exact rn); (exact fun _ _ _ h => h); (refine aA ?_)); ((with_reducible apply bQ (i := 5)); (rfl); (rfl); (rfl); (decide +kernel); (decide +kernel); (decide +kernel); (decide +kernel); (rfl); (intro _ _; exact rn); (exact fun _ _ _ h => h); (refine aA ?_)); ((with_reducible apply bQ (i := 6)); (rfl); (rfl); (rfl); (decide +kernel); (decide +kernel); (decide +kernel); (decide +kernel); (rfl); (intro _ _; exact rn); (exact fun _ _ _ h => h); (refine aA ?_)); ((with_reducible apply bQ (i := 7)); (rfl); (rfl); (rfl); (decide +kernel); (decide +kernel); (decide +kernel); (decide +kernel); (rfl); (intro _ _; exact rn); (exact fun _ _ _ h => h); (refine aA ?_)); ((with_reducible apply bQ (i := 8)); (rfl); (rfl); (rfl); (decide +kernel); (decide +kernel); (decide +kernel); (decide +kernel); (rfl); (intro _ _; exact rn); (exact fun _ _ _ h => h); (refine aA ?_)); ((with_reducible apply bQ (i := 9)); (rfl); (rfl); (rfl); (decide +kernel); (decide +kernel); (decide +kernel); (decide +kernel); (rfl); (intro _ _; exact rn); (exact fun _ _ _ h => h); (refine aA ?_))
      refine bV (i := 10) (by decide +kernel) rfl rfl ?_
      refine dP (cs := c.cells) (x10.at hc.blk) rfl rfl rfl (show 2 < 4 by omega) (by decide +kernel) rfl ?_
      intro w11 p11
      refine aJ ⟨cJ rfl, ?_⟩
      refine cZ (by decide +kernel) ?_
      have hr11 := p11.at (x10.at hr9) (DS hr9 hc.blk (by omega))
      have hM11 : L1 w w11 kv (gcs1.set i ⟨c.b, c.v, ⟨c.s.name, c.s.kind, min c.s.ttl l[k].ttl, c.s.data⟩⟩) := by
       have hg := (hM.sets.ext x10).turn (c' := ⟨c.b, c.v, ⟨c.s.name, c.s.kind, min c.s.ttl l[k].ttl, c.s.data⟩⟩) hi rfl (Mv.refl _ _) (hc.own.ext x10) (.inl rfl) p11
       have hM10 := hM.grow x10
       obtain ⟨es, ck, hm1, hm2, hm3⟩ := hM10.map.out
       refine ⟨hM10.ext.move p11.mv (by rintro k ⟨⟩; have := hc.ge; omega), ?_, ?_, hg⟩
       ·rw [kF (c' := ⟨c.b, c.v, ⟨c.s.name, c.s.kind, min c.s.ttl l[k].ttl, c.s.data⟩⟩) hi rfl]
        refine hM10.map.at (fun o ho => p11.at ho (fun e => ?_))
        rw [e, x10.at hc.blk] at hm1; cases hm1
       ·rw [mE (c' := ⟨c.b, c.v, ⟨c.s.name, c.s.kind, min c.s.ttl l[k].ttl, c.s.data⟩⟩) hi rfl]
        exact hM10.keys.mv p11.mv (.inr (hM10.keys.neBlock (x10.at hc.blk) (by omega)))
      clear hpc hpr p11 x10
      have hi1 : (gcs1.set i ⟨c.b, c.v, ⟨c.s.name, c.s.kind, min c.s.ttl l[k].ttl, c.s.data⟩⟩)[i]? = some ⟨c.b, c.v, ⟨c.s.name, c.s.kind, min c.s.ttl l[k].ttl, c.s.data⟩⟩ := List.getElem?_set_self (List.getElem?_eq_some_iff.1 hi).1
      have hc1 := hM11.sets.each _ (List.mem_of_getElem? hi1)
      have hpc := aE (cs := [aI c.s.name, .int .i64 c.s.kind, .int .i64 (min c.s.ttl l[k].ttl), c.v]) hc1.blk
      have hpr := aE hr11
      refine_lift aS ?_
      refine cG 8 (Ext w11) (by decide +kernel) ?_
      intro w12 x12 _
      refine ⟨x12, ?_⟩
      ((with_reducible apply bQ (i := 1)); (rfl); (rfl); (rfl); (decide +kernel); (decide +kernel); (decide +kernel); (decide +kernel); (rfl); (intro _ _; exact rn); (exact fun _ _ _ h => h); (refine aA ?_)); ((with_reducible apply bQ (i := 2)); (rfl); (rfl); (rfl); (decide +kernel); (decide +kernel); (decide +kernel); (decide +kernel); (rfl); (intro _ _; exact rn); (exact fun _ _ _ h => h); (refine aA ?_)); ((with_reducible apply bQ (i := 3)); (rfl); (rfl); (rfl); (decide +kernel); (decide +kernel); (decide +kernel); (decide +kernel); (rfl); (intro _ _; exact rn); (exact fun _ _ _ h => h); (refine aA ?_)); ((with_reducible apply bQ (i := 4)); (rfl); (rfl); (rfl); (decide +kernel); (decide +kernel); (decide +kernel); (decide +kernel); (rfl); (intro _ _; exact rn); (exact fun _ _ _ h => h); (refine aA ?_)); ((with_reducible apply bQ (i := 5)); (rfl); (rfl); (rfl); (decide +kernel); (decide +kernel); (decide +kernel); (decide +kernel); (rfl); (intro _ _; exact rn); (exact fun _ _ _ h => h); (refine aA ?_)); ((with_reducible apply bQ (i := 6)); (rfl); (rfl); (rfl); (decide +kernel); (decide +kernel); (decide +kernel); (decide +kernel); (rfl); (intro _ _; exact rn); (exact fun _ _ _ h => h); (refine aA ?_))
      ((with_reducible apply dU (i := 0)); (rfl); (rfl); (rfl); (decide +kernel); (decide +kernel); (decide +kernel); (rfl); (intro _; exact rn); (exact fun _ _ _ h => h); (refine aA ?_))
      refine bV (i := 7) (by decide +kernel) rfl rfl ?_
      refine bZ (e := 9) (k := 1) (bytes := 16) (xs := [aI l[k].data]) rfl rfl rfl (by simp [Value.cells, aI]) (by decide +kernel) (by simp) ?_
      intro v13 w13 x13 s13 sl13 _
      refine aA ?_
      refine aJ ⟨dF (x12.trans x13), ?_⟩
      refine bV (i := 8) (by decide +kernel) rfl rfl ?_
      have x113 := x12.trans x13
      refine fT (B := w.heap.size + 1) (e := 9) (k := 1) (bytes := 16) rfl (hc1.own.ext x113) rfl sl13 (by decide +kernel) (by simp [Value.cells, aI, Value.oneCell']) (by have := (hM11.grow x113).map.lt; omega) (by simp only [List.length_map, List.length_cons, List.length_nil]; omega) (by simp only [List.length_map, List.length_cons, List.length_nil]; omega) ?_
      intro v14 w14 o14 m14 k14
      refine aA ?_
      refine aJ ⟨cJ rfl, ?_⟩
      ((with_reducible apply dU (i := 9)); (rfl); (rfl); (rfl); (decide +kernel); (decide +kernel); (decide +kernel); (rfl); (intro _; exact rn); (exact fun _ _ _ h => h); (refine aA ?_)); ((with_reducible apply dU (i := 10)); (rfl); (rfl); (rfl); (decide +kernel); (decide +kernel); (decide +kernel); (rfl); (intro _; exact rn); (exact fun _ _ _ h => h); (refine aA ?_))
      refine bV (i := 11) (by decide +kernel) rfl rfl ?_
      have hM13 := hM11.grow x113
      have hc13 := hM13.sets.each _ (List.mem_of_getElem? hi1)
      have b14 := m14.at hc13.blk (fun e => (hc13.own.neBlock hc13.blk (by omega)) e.symm)
      refine dP (cs := [aI c.s.name, .int .i64 c.s.kind, .int .i64 (min c.s.ttl l[k].ttl), c.v]) b14 rfl rfl rfl (show 3 < 4 by omega) (by decide +kernel) o14.one ?_
      intro w15 p15
      refine aJ ⟨cJ rfl, ?_⟩
      refine cZ (by decide +kernel) ?_
      have e14 : aN c.s.data ++ List.map (fun x => x.cells.toList) [aI l[k].data] = aN (jI c.s l[k]).data := by simp [aN, jI, Value.cells, aI]
      rw [e14] at o14
      have hM16 : L1 w w15 kv (gcs1.set i ⟨c.b, v14, jI c.s l[k]⟩) := by
       have hg := hM13.sets.turn (c' := ⟨c.b, v14, jI c.s l[k]⟩) hi1 rfl m14 o14 k14 p15
       rw [List.set_set] at hg
       obtain ⟨es, ck, hm1, hm2, hm3⟩ := hM13.map.out
       have hnm : c.v.ownBlock ≠ some w.heap.size := hc13.own.neMap hm1
       have hm14 := m14.at hm1 (fun e => hnm e.symm)
       refine ⟨?_, ?_, ?_, hg⟩
       ·refine (hM13.ext.move m14 (fun k hk => by have := (hc13.own.block k hk).1; omega)).move p15.mv (by rintro k ⟨⟩; have := hc13.ge; omega)
       ·have hm := hM13.map.at (w' := w15) (fun o ho => by
         rw [hm1] at ho; cases ho
         exact p15.at hm14 (fun e => by have b := b14; have h := hm14; rw [e] at h; rw [b] at h; cases h))
        rw [kF (c' := ⟨c.b, c.v, ⟨c.s.name, c.s.kind, min c.s.ttl l[k].ttl, c.s.data⟩⟩) hi rfl] at hm
        rw [kF (c' := ⟨c.b, v14, jI c.s l[k]⟩) hi rfl]
        exact hm
       ·have hk13 := hM13.keys
        rw [mE (c' := ⟨c.b, c.v, ⟨c.s.name, c.s.kind, min c.s.ttl l[k].ttl, c.s.data⟩⟩) hi rfl] at hk13
        rw [mE (c' := ⟨c.b, v14, jI c.s l[k]⟩) hi rfl]
        have hk14 := hk13.mv m14 (hk13.ne hc13.own (by omega))
        exact hk14.mv p15.mv (.inr (hk14.neBlock b14 (by omega)))
      clear hpc hpr p15 m14 x12 x13 x113
      refine_lift aS ?_
      refine ⟨⟨k + 1, _, by omega, rfl, hM16, jB hlt hall (by simp [mT, hc0]), ?_⟩, by simp [intOf]; omega⟩
      rw [List.map_set]
      exact hfin
     ·have hmiss : ∀ s ∈ cL (l.take k), bI s l[k] = false := by
       intro s hs
       rw [← hgs] at hs
       obtain ⟨c, hc, rfl⟩ := List.mem_map.1 hs
       obtain ⟨i, hi⟩ := List.mem_iff_getElem?.1 hc
       have := hno i c.key (by rw [List.getElem?_map, hi]; rfl)
       cases hm : bI c.s l[k] with
       | false => rfl
       | true =>
        exfalso
        simp only [bI, Bool.and_eq_true, decide_eq_true_eq] at hm
        exact this (by simp only [GC.key]; rw [hm.1, hm.2])
      refine_lift gV fun _ _ _ _ => ?_
      refine aQ (v := .agg #[aI (fold l[k].name), .int .i64 l[k].kind, .int .i64 l[k].ttl, .slice none 0 0]) rfl (Runs.build rfl (by kernel_rfl)) ?_
      refine aA ?_
      refine eD (vs := [aI (fold l[k].name), .int .i64 l[k].kind, .int .i64 l[k].ttl, .slice none 0 0]) rfl rfl ?_
      intro w9 x9 s9 hb9
      refine aA ?_
      refine_lift aS ?_
      have hL9 := hL8.grow x9
      have hkb9 := x9.at hkb
      have hrb9 := x9.at hr8
      refine cC (S := fun w' => w'.heap[kb]? = some (.cells [aI (fold l[k].name), .int .i64 l[k].kind].toArray 175 (0, 0))) (by decide +kernel) ?_
      intro w10 x10 _
      have hS := x10.at hkb9
      ((with_reducible apply bP (i := 0)); (rfl); (rfl); (decide +kernel); (decide +kernel); (decide +kernel); (rfl); (exact hS); (intro w9 hS9; (have hpk9 := aE hS9); exact rn); (exact fun _ _ _ h => h); (refine aA ?_)); ((with_reducible apply bP (i := 1)); (rfl); (rfl); (decide +kernel); (decide +kernel); (decide +kernel); (rfl); (exact hS); (intro w9 hS9; (have hpk9 := aE hS9); exact rn); (exact fun _ _ _ h => h); (refine aA ?_)); ((with_reducible apply bP (i := 2)); (rfl); (rfl); (decide +kernel); (decide +kernel); (decide +kernel); (rfl); (exact hS); (intro w9 hS9; (have hpk9 := aE hS9); exact rn); (exact fun _ _ _ h => h); (refine aA ?_)); ((with_reducible apply bP (i := 3)); (rfl); (rfl); (decide +kernel); (decide +kernel); (decide +kernel); (rfl); (exact hS); (intro w9 hS9; (have hpk9 := aE hS9); exact rn); (exact fun _ _ _ h => h); (refine aA ?_)); ((with_reducible apply bP (i := 4)); (rfl); (rfl); (decide +kernel); (decide +kernel); (decide +kernel); (rfl); (exact hS); (intro w9 hS9; (have hpk9 := aE hS9); exact rn); (exact fun _ _ _ h => h); (refine aA ?_))
      refine aT (i := 5) (by decide +kernel) rfl rfl ?_
      refine bZ (e := 175) (k := 2) (bytes := 24) (xs := [.agg #[aI (fold l[k].name), .int .i64 l[k].kind]]) rfl rfl rfl (by simp [Value.cells]) (by decide +kernel) (by simp) ?_
      intro v11 w11 x11 s11 sl11 _
      refine aA ?_
      refine aJ ⟨x11.at hS, ?_⟩
      have x911 := x10.trans x11
      have hL11 := hL9.grow x911
      have hb11 := x911.at hb9
      have hrb11 := x911.at hrb9
      have hkb11 := x911.at hkb9
      refine aT (i := 6) (by decide +kernel) rfl rfl ?_
      have hgl : gcs.length ≤ 10000 := by
       have h1 := vO (l.take k)
       rw [← hgs, List.length_map, List.length_take] at h1
       omega
      refine fT (B := w.heap.size + 1) (e := 175) (k := 2) (bytes := 24) rfl hL11.keys rfl sl11 (by decide +kernel) (by simp [Value.cells, aI, Value.oneCell']) (by have := hL11.map.lt; omega) (by simp only [List.length_map, List.length_cons, List.length_nil]; omega) (by simp only [List.length_map, List.length_cons, List.length_nil]; omega) ?_
      intro v12 w12 o12 m12 k12
      refine aA ?_
      have hnk : some kb ≠ u5.ownBlock := fun e => by have := (hL7.keys.block kb e.symm).2; omega
      have hkb12 := m12.at hkb11 hnk
      refine aJ ⟨hkb12, ?_⟩
      refine aT (i := 7) (by decide +kernel) rfl rfl ?_
      obtain ⟨es, ck, hm1, hm2, hm3⟩ := hL11.map.out
      have hnm : u5.ownBlock ≠ some w.heap.size := hL11.keys.neMap hm1
      have hm12 := hL11.map.at (w' := w12) (fun o ho => m12.at ho (fun e => hnm e.symm))
      obtain ⟨w13, o13, hr13, p13, hm13⟩ := uW LC (show uU Tryz.prog 172 175 176 = true by decide +kernel) hm12 hlx (v := .pointer (some ⟨w8.heap.size, 0, none⟩)) hno
      refine yQ rfl rfl rfl rfl hr13 ?_
      have hkb13 := p13.at hkb12 (fun e => by rw [← e] at hm1; rw [hkb11] at hm1; cases hm1)
      refine aJ ⟨hkb13, ?_⟩
      refine bP (i := 8) (v := v12) rfl rfl (by decide +kernel) (by decide +kernel) (by decide +kernel) rfl hkb13 (fun w' _ => Runs.assignT _) (fun _ _ _ h => h) ?_
      refine aA ?_
      refine cB (by decide +kernel) ?_
      have hnb : u5.ownBlock ≠ some w8.heap.size := hL11.keys.neBlock hb11 (by omega)
      have hb13 := p13.at (m12.at hb11 (fun e => hnb e.symm)) (fun e => by rw [← e] at hm1; rw [hb11] at hm1; cases hm1)
      have hnr : u5.ownBlock ≠ some wr.heap.size := hL11.keys.neBlock hrb11 (by omega)
      have hr9 := p13.at (m12.at hrb11 (fun e => hnr e.symm)) (fun e => by rw [← e] at hm1; rw [hrb11] at hm1; cases hm1)
      have hM : L1 w w13 v12 (gcs ++ [⟨w8.heap.size, .slice none 0 0, ⟨fold l[k].name, l[k].kind, l[k].ttl, []⟩⟩]) := by
       have hne : ∀ c ∈ gcs, c.b ≠ w8.heap.size := fun c hc e => by
        have := (hL8.sets.each c hc).blk
        rw [e, Array.getElem?_eq_none (Nat.le_refl _)] at this
        cases this
       have hs12 : GS w12 (w.heap.size + 1) gcs := hL11.sets.mv m12 fun c hc => ⟨fun e => hL11.keys.neBlock (hL11.sets.each c hc).blk (by omega) e.symm, ((hL11.sets.each c hc).own.ne hL11.keys (by omega))⟩
       have hm12' := hm12.out
       obtain ⟨es2, ck2, hm21, _, _⟩ := hm12'
       have hs13 : GS w13 (w.heap.size + 1) gcs := hs12.mv p13.mv fun c hc => ⟨(fun e => by
        have hb := (hs12.each c hc).blk
        rw [Option.some.inj e] at hb
        rw [hb] at hm21; cases hm21), .inr ((hs12.each c hc).own.neMap hm21)⟩
       refine ⟨(hL11.ext.move m12 (fun k hk => by have := (hL11.keys.block k hk).1; omega)).move p13.mv (by rintro k ⟨⟩; exact Nat.le_refl _), by simpa [GC.key] using hm13, ?_, hs13.push ⟨hb13, (show w.heap.size + 1 ≤ w8.heap.size by have := hL8.map.lt; omega), Own.nil _ _ _ _⟩ hne rfl⟩
       have : List.map GC.kcells gcs ++ List.map (fun x => x.cells.toList) [Value.agg #[aI (fold l[k].name), Value.int IntKind.i64 l[k].kind]] = List.map GC.kcells (gcs ++ [⟨w8.heap.size, .slice none 0 0, ⟨fold l[k].name, l[k].kind, l[k].ttl, []⟩⟩]) := by simp [GC.kcells, Value.cells]
       rw [this] at o12
       exact o12.mv p13.mv (.inr (o12.neMap hm21))
      clear hL9 hL11 x10 x11 x911 hb11 hrb11 hkb11 m12 p13 hr13 hkb12 hkb13 hm12
      refine_lift bY fun _ _ => ?_
      obtain ⟨c, hcd⟩ : ∃ c : GC, c = ⟨w8.heap.size, .slice none 0 0, ⟨fold l[k].name, l[k].kind, l[k].ttl, []⟩⟩ := ⟨_, rfl⟩
      obtain ⟨gcs1, hg1⟩ : ∃ g, g = gcs ++ [c] := ⟨_, rfl⟩
      obtain ⟨i, hil⟩ : ∃ i, i = gcs.length := ⟨_, rfl⟩
      have hi : gcs1[i]? = some c := by rw [hg1, hil]; simp
      rw [← hcd, ← hg1] at hM
      have ecb : w8.heap.size = c.b := by rw [hcd]
      have hdl : (aN c.s.data).length ≤ 20000 := by rw [hcd]; simp [aN]
      have hfin : List.set (gcs1.map GC.s) i (jI c.s l[k]) = cL (l.take (k + 1)) := by
       rw [nN hlt, vM hmiss, ← hgs, hg1, hil, hcd]
       simp [jI]
      rw [ecb]
      obtain ⟨w9, hw9⟩ : ∃ w9, w9 = w13 := ⟨_, rfl⟩
      rw [← hw9] at hM hr9 ⊢
      obtain ⟨kv, hkv⟩ : ∃ g, g = v12 := ⟨_, rfl⟩
      rw [← hkv] at hM ⊢
      have hc := hM.sets.each c (List.mem_of_getElem? hi)
      have hpc := aE (cs := c.cells) hc.blk
      have hpr := aE hr9
      refine cG 10 (Ext w9) (by decide +kernel) ?_
      intro w10 x10 _
      refine ⟨x10, ?_⟩
      ((with_reducible apply bQ (i := 0)); (rfl); (rfl); (rfl); (decide +kernel); (decide +kernel); (decide +kernel); (decide +kernel); (rfl); (intro _ _; exact rn); (exact fun _ _ _ h => h); (refine aA ?_)); ((with_reducible apply bQ (i := 1)); (rfl); (rfl); (rfl); (decide +kernel); (decide +kernel); (decide +kernel); (decide +kernel); (rfl); (intro _ _; exact rn); (exact fun _ _ _ h => h); (refine aA ?_)); ((with_reducible apply bQ (i := 2)); (rfl); (rfl); (rfl); (decide +kernel); (decide +kernel); (decide +kernel); (decide +kernel); (rfl); (intro _ _; exact rn); (exact fun _ _ _ h => h); (refine aA ?_)); ((with_reducible apply bQ (i := 3)); (rfl); (rfl); (rfl); (decide +kernel); (decide +kernel); (decide +kernel); (decide +kernel); (rfl); (intro _ _; exact rn); (exact fun _ _ _ h => h); (refine aA ?_)); ((with_reducible apply bQ (i := 4)); (rfl); (rfl); (rfl); (decide +kernel); (decide +kernel); (decide +kernel); (decide +kernel); (rfl); (intro _ _; exact rn); (exact fun _ _ _ h => h); (refine aA ?_)); ((with_reducible apply bQ (i := 5)); (rfl); (rfl); (rfl); (decide +kernel); (decide +kernel); (decide +kernel); (decide +kernel); (rfl); (intro _ _; exact rn); (exact fun _ _ _ h => h); (refine aA ?_)); ((with_reducible apply bQ (i := 6)); (rfl); (rfl); (rfl); (decide +kernel); (decide +kernel); (decide +kernel); (decide +kernel); (rfl); (intro _ _; exact rn); (exact fun _ _ _ h => h); (refine aA ?_)); ((with_reducible apply bQ (i := 7)); (rfl); (rfl); (rfl); (decide +kernel); (decide +kernel); (decide +kernel); (decide +kernel); (rfl); (intro _ _; exact rn); (exact fun _ _ _ h => h); (refine aA ?_)); ((with_reducible apply bQ (i := 8)); (rfl); (rfl); (rfl); (decide +kernel); (decide +kernel); (decide +kernel); (decide +kernel); (rfl); (intro _ _; exact rn); (exact fun _ _ _ h => h); (refine aA ?_)); ((with_reducible apply bQ (i := 9)); (rfl); (rfl); (rfl); (decide +kernel); (decide +kernel); (decide +kernel); (decide +kernel); (rfl); (intro _ _; exact rn); (exact fun _ _ _ h => h); (refine aA ?_))
      refine bV (i := 10) (by decide +kernel) rfl rfl ?_
      refine dP (cs := c.cells) (x10.at hc.blk) rfl rfl rfl (show 2 < 4 by omega) (by decide +kernel) rfl ?_
      intro w11 p11
      refine aJ ⟨cJ rfl, ?_⟩
      refine cZ (by decide +kernel) ?_
      have hr11 := p11.at (x10.at hr9) (DS hr9 hc.blk (by omega))
      have hM11 : L1 w w11 kv (gcs1.set i ⟨c.b, c.v, ⟨c.s.name, c.s.kind, min c.s.ttl l[k].ttl, c.s.data⟩⟩) := by
       have hg := (hM.sets.ext x10).turn (c' := ⟨c.b, c.v, ⟨c.s.name, c.s.kind, min c.s.ttl l[k].ttl, c.s.data⟩⟩) hi rfl (Mv.refl _ _) (hc.own.ext x10) (.inl rfl) p11
       have hM10 := hM.grow x10
       obtain ⟨es, ck, hm1, hm2, hm3⟩ := hM10.map.out
       refine ⟨hM10.ext.move p11.mv (by rintro k ⟨⟩; have := hc.ge; omega), ?_, ?_, hg⟩
       ·rw [kF (c' := ⟨c.b, c.v, ⟨c.s.name, c.s.kind, min c.s.ttl l[k].ttl, c.s.data⟩⟩) hi rfl]
        refine hM10.map.at (fun o ho => p11.at ho (fun e => ?_))
        rw [e, x10.at hc.blk] at hm1; cases hm1
       ·rw [mE (c' := ⟨c.b, c.v, ⟨c.s.name, c.s.kind, min c.s.ttl l[k].ttl, c.s.data⟩⟩) hi rfl]
        exact hM10.keys.mv p11.mv (.inr (hM10.keys.neBlock (x10.at hc.blk) (by omega)))
      clear hpc hpr p11 x10
      have hi1 : (gcs1.set i ⟨c.b, c.v, ⟨c.s.name, c.s.kind, min c.s.ttl l[k].ttl, c.s.data⟩⟩)[i]? = some ⟨c.b, c.v, ⟨c.s.name, c.s.kind, min c.s.ttl l[k].ttl, c.s.data⟩⟩ := List.getElem?_set_self (List.getElem?_eq_some_iff.1 hi).1
      have hc1 := hM11.sets.each _ (List.mem_of_getElem? hi1)
      have hpc := aE (cs := [aI c.s.name, .int .i64 c.s.kind, .int .i64 (min c.s.ttl l[k].ttl), c.v]) hc1.blk
      have hpr := aE hr11
      refine_lift aS ?_
      refine cG 8 (Ext w11) (by decide +kernel) ?_
      intro w12 x12 _
      refine ⟨x12, ?_⟩
      ((with_reducible apply bQ (i := 1)); (rfl); (rfl); (rfl); (decide +kernel); (decide +kernel); (decide +kernel); (decide +kernel); (rfl); (intro _ _; exact rn); (exact fun _ _ _ h => h); (refine aA ?_)); ((with_reducible apply bQ (i := 2)); (rfl); (rfl); (rfl); (decide +kernel); (decide +kernel); (decide +kernel); (decide +kernel); (rfl); (intro _ _; exact rn); (exact fun _ _ _ h => h); (refine aA ?_)); ((with_reducible apply bQ (i := 3)); (rfl); (rfl); (rfl); (decide +kernel); (decide +kernel); (decide +kernel); (decide +kernel); (rfl); (intro _ _; exact rn); (exact fun _ _ _ h => h); (refine aA ?_)); ((with_reducible apply bQ (i := 4)); (rfl); (rfl); (rfl); (decide +kernel); (decide +kernel); (decide +kernel); (decide +kernel); (rfl); (intro _ _; exact rn); (exact fun _ _ _ h => h); (refine aA ?_)); ((with_reducible apply bQ (i := 5)); (rfl); (rfl); (rfl); (decide +kernel); (decide +kernel); (decide +kernel); (decide +kernel); (rfl); (intro _ _; exact rn); (exact fun _ _ _ h => h); (refine aA ?_)); ((with_reducible apply bQ (i := 6)); (rfl); (rfl); (rfl); (decide +kernel); (decide +kernel); (decide +kernel); (decide +kernel); (rfl); (intro _ _; exact rn); (exact fun _ _ _ h => h); (refine aA ?_))
      ((with_reducible apply dU (i := 0)); (rfl); (rfl); (rfl); (decide +kernel); (decide +kernel); (decide +kernel); (rfl); (intro _; exact rn); (exact fun _ _ _ h => h); (refine aA ?_))
      refine bV (i := 7) (by decide +kernel) rfl rfl ?_
      refine bZ (e := 9) (k := 1) (bytes := 16) (xs := [aI l[k].data]) rfl rfl rfl (by simp [Value.cells, aI]) (by decide +kernel) (by simp) ?_
      intro v13 w13 x13 s13 sl13 _
      refine aA ?_
      refine aJ ⟨dF (x12.trans x13), ?_⟩
      refine bV (i := 8) (by decide +kernel) rfl rfl ?_
      have x113 := x12.trans x13
      refine fT (B := w.heap.size + 1) (e := 9) (k := 1) (bytes := 16) rfl (hc1.own.ext x113) rfl sl13 (by decide +kernel) (by simp [Value.cells, aI, Value.oneCell']) (by have := (hM11.grow x113).map.lt; omega) (by simp only [List.length_map, List.length_cons, List.length_nil]; omega) (by simp only [List.length_map, List.length_cons, List.length_nil]; omega) ?_
      intro v14 w14 o14 m14 k14
      refine aA ?_
      refine aJ ⟨cJ rfl, ?_⟩
      ((with_reducible apply dU (i := 9)); (rfl); (rfl); (rfl); (decide +kernel); (decide +kernel); (decide +kernel); (rfl); (intro _; exact rn); (exact fun _ _ _ h => h); (refine aA ?_)); ((with_reducible apply dU (i := 10)); (rfl); (rfl); (rfl); (decide +kernel); (decide +kernel); (decide +kernel); (rfl); (intro _; exact rn); (exact fun _ _ _ h => h); (refine aA ?_))
      refine bV (i := 11) (by decide +kernel) rfl rfl ?_
      have hM13 := hM11.grow x113
      have hc13 := hM13.sets.each _ (List.mem_of_getElem? hi1)
      have b14 := m14.at hc13.blk (fun e => (hc13.own.neBlock hc13.blk (by omega)) e.symm)
      refine dP (cs := [aI c.s.name, .int .i64 c.s.kind, .int .i64 (min c.s.ttl l[k].ttl), c.v]) b14 rfl rfl rfl (show 3 < 4 by omega) (by decide +kernel) o14.one ?_
      intro w15 p15
      refine aJ ⟨cJ rfl, ?_⟩
      refine cZ (by decide +kernel) ?_
      have e14 : aN c.s.data ++ List.map (fun x => x.cells.toList) [aI l[k].data] = aN (jI c.s l[k]).data := by simp [aN, jI, Value.cells, aI]
      rw [e14] at o14
      have hM16 : L1 w w15 kv (gcs1.set i ⟨c.b, v14, jI c.s l[k]⟩) := by
       have hg := hM13.sets.turn (c' := ⟨c.b, v14, jI c.s l[k]⟩) hi1 rfl m14 o14 k14 p15
       rw [List.set_set] at hg
       obtain ⟨es, ck, hm1, hm2, hm3⟩ := hM13.map.out
       have hnm : c.v.ownBlock ≠ some w.heap.size := hc13.own.neMap hm1
       have hm14 := m14.at hm1 (fun e => hnm e.symm)
       refine ⟨?_, ?_, ?_, hg⟩
       ·refine (hM13.ext.move m14 (fun k hk => by have := (hc13.own.block k hk).1; omega)).move p15.mv (by rintro k ⟨⟩; have := hc13.ge; omega)
       ·have hm := hM13.map.at (w' := w15) (fun o ho => by
         rw [hm1] at ho; cases ho
         exact p15.at hm14 (fun e => by have b := b14; have h := hm14; rw [e] at h; rw [b] at h; cases h))
        rw [kF (c' := ⟨c.b, c.v, ⟨c.s.name, c.s.kind, min c.s.ttl l[k].ttl, c.s.data⟩⟩) hi rfl] at hm
        rw [kF (c' := ⟨c.b, v14, jI c.s l[k]⟩) hi rfl]
        exact hm
       ·have hk13 := hM13.keys
        rw [mE (c' := ⟨c.b, c.v, ⟨c.s.name, c.s.kind, min c.s.ttl l[k].ttl, c.s.data⟩⟩) hi rfl] at hk13
        rw [mE (c' := ⟨c.b, v14, jI c.s l[k]⟩) hi rfl]
        have hk14 := hk13.mv m14 (hk13.ne hc13.own (by omega))
        exact hk14.mv p15.mv (.inr (hk14.neBlock b14 (by omega)))
      clear hpc hpr p15 m14 x12 x13 x113
      refine_lift aS ?_
      refine ⟨⟨k + 1, _, by omega, rfl, hM16, jB hlt hall (by simp [mT, hc0]), ?_⟩, by simp [intOf]; omega⟩
      rw [List.map_set]
      exact hfin
  ·have hk2 : k = l.length := by omega
   subst hk2
   refine_lift QL fun _ _ _ _ _ => ?_
   rw [List.take_length] at hall hgs
   have hks := hL.keys.sl
   refine_lift aS ?_
   clear hks
   have hgsl : (cL l).length = gcs.length := by rw [← hgs, List.length_map]
   have hkl : (gcs.map GC.kcells).length = (cL l).length := by rw [List.length_map, hgsl]
   have hgl := vO l
   have hx0 := hL.ext
   rw [← hgsl]
   clear hkl hv2 hx
   go_loopw [12, 14, 15, 81] (fun out _ _ i wq => ∃ (j : Nat) (gcs2 : List GC), j ≤ (cL l).length ∧ i = .int .i64 j ∧ L1 w wq u5 gcs2 ∧ gcs2.map GC.s = ((cL l).take j).map lI ++ (cL l).drop j ∧ (((cL l).take j).map lI).any BR = false ∧ Own (w.heap.size + 1) 4 119 wq out ((gcs2.take j).map GC.cells) ∧ ∀ c ∈ gcs2, out.ownBlock ≠ some c.b) (fun _ _ _ i _ => (cL l).length - (intOf i).toNat)
   case atStart => exact ⟨0, gcs, Nat.zero_le _, rfl, hL, by simpa using hgs, rfl, Own.nil _ _ _ _, fun c _ => by simp [Value.ownBlock]⟩
   case round =>
    obtain ⟨j, gcs2, hj, rfl, hM, hs2, hbig, hout, hob⟩ := hrel
    have hl2 : gcs2.length = (cL l).length := by
     have := congrArg List.length hs2
     simp only [List.length_map, List.length_append, List.length_take, List.length_drop] at this
     omega
    have hkeys := hM.keys.sl
    by_cases hlt2 : j < (cL l).length
    ·have hjl : j < gcs2.length := by omega
     have hcj : gcs2[j].s = (cL l)[j] := by
      have h1 : (gcs2.map GC.s)[j]? = some gcs2[j].s := by rw [List.getElem?_map, List.getElem?_eq_getElem hjl]; rfl
      rw [hs2, List.getElem?_append_right (by simp; omega)] at h1
      simp only [List.length_map, List.length_take, List.getElem?_drop] at h1
      rw [show j + (j - min j (cL l).length) = j by omega, List.getElem?_eq_getElem hlt2] at h1
      exact (Option.some.inj h1).symm
     have hi : gcs2[j]? = some gcs2[j] := List.getElem?_eq_getElem hjl
     obtain ⟨c, hcd⟩ : ∃ c, c = gcs2[j] := ⟨_, rfl⟩
     rw [← hcd] at hi hcj
     have hkp := hkeys.elem (i := j) (e := [aI c.s.name, .int .i64 c.s.kind]) (by rw [List.getElem?_map, hi]; rfl)
     have hkll : (gcs2.map GC.kcells).length = (cL l).length := by rw [List.length_map, hl2]
     refine_lift oM ?_; intro _ _ _ _ _ _
     refine aG (z := [aI [], .int .i64 0]) rfl (by decide +kernel) ?_
     intro w5 x5 s5 h5
     refine_lift aS ?_
     refine aC (v := .agg #[aI c.s.name, .int .i64 c.s.kind]) rfl rfl rfl h5 (show aO Tryz.prog 175 2 = true by decide +kernel) rfl (by simp [Value.cells, aI, Value.oneCell']) ?_
     intro w6 p6
     have x6 : Ext wr w6 := x5.move p6.mv (by rintro k ⟨⟩; exact Nat.le_refl _)
     have hp6 := aE (cs := [aI c.s.name, .int .i64 c.s.kind]) p6.this
     have hM6 := hM.grow x6
     have hout6 := hout.ext x6
     clear p6 h5 x5
     refine_lift bY fun _ _ => ?_
     obtain ⟨r, hrl0, hrn, hrk⟩ := zW (List.getElem_mem hlt2)
     have hrc : aW r = 0 := by simpa [mT] using List.all_eq_true.1 hall r hrl0
     obtain ⟨hlab, hk1, hk2⟩ := jS (n := []) hrc
     have hfl := DR _ hlab
     rw [← hcj] at hrn hrk
     obtain ⟨lx, hlx⟩ := HR c.s.name c.s.kind (by rw [hrn]; omega) (by rw [hrk]; omega)
     have hzv : ∀ w, (zeroValue 176).run Tryz.prog w = .ok (.pointer none) w := fun w => by kernel_rfl
     obtain ⟨u, bb, hrl, hcase⟩ := nF LC (show uU Tryz.prog 172 175 176 = true by decide +kernel) hzv hM6.map hlx false
     have hu : u = .pointer (some ⟨c.b, 0, none⟩) := by
      rcases hcase with ⟨i, hie, _⟩ | ⟨hno, _, _⟩
      ·rw [List.getElem?_map] at hie
       cases hi2 : gcs2[i]? with
       | none => rw [hi2] at hie; cases hie
       | some c2 =>
        rw [hi2, Option.map_some] at hie
        simp only [GC.key, Option.some.injEq, Prod.mk.injEq, Value.agg.injEq] at hie
        obtain ⟨hie1, hie2⟩ := hie
        have hkk := congrArg Array.toList hie1
        simp only [List.cons.injEq, aI, Value.string.injEq, Value.int.injEq, true_and, and_true, ByteArray.mk.injEq] at hkk
        have hn2 : c2.s.name = c.s.name := by simpa using hkk.1
        have hij : i = j := by
         by_cases e : i = j
         ·exact e
         ·exfalso
          have hap : (gcs2.map GC.s).Pairwise fun s t => ¬ (s.name = t.name ∧ s.kind = t.kind) := by
           have := gJ.1 (jR l)
           rw [hs2]
           have e2 : (cL l).take j ++ (cL l).drop j = cL l := List.take_append_drop _ _
           rw [← e2] at this
           rw [List.pairwise_append] at this ⊢
           refine ⟨List.pairwise_map.2 this.1, this.2.1, fun x hx y hy => ?_⟩
           obtain ⟨x', hx', rfl⟩ := List.mem_map.1 hx
           exact this.2.2 x' hx' y hy
          have h3 := gJ.2 hap i j c2.s c.s (by rw [List.getElem?_map, hi2]; rfl) (by rw [List.getElem?_map, hi]; rfl) e
          exact h3 ⟨hn2, hkk.2⟩
        subst hij
        rw [hi] at hi2
        cases hi2
        exact hie2.symm
      ·exact absurd rfl (hno j c.key (by rw [List.getElem?_map, hi]; rfl))
     subst hu
     refine aQ (v := .pointer (some ⟨c.b, 0, none⟩)) rfl (Runs.lookup rfl rfl (by simp only [Bool.false_eq_true, if_false] at hrl; exact hrl)) ?_
     refine aA ?_
     have hc := hM6.sets.each c (List.mem_of_getElem? hi)
     have hpc := aE (cs := c.cells) hc.blk
     refine_lift bY fun _ _ => ?_
     have hdl : c.s.data.length ≤ 10000 := by
      have h1 := DN (List.getElem_mem hlt2)
      rw [rJ, ← hcj] at h1
      omega
     refine bH (enters_of Tryz.func142 rfl rfl) rfl rfl (WE hc.own (by omega)) ?_
     rintro e w7 ⟨rfl, o7, m7⟩
     refine ⟨_, rfl, ?_⟩
     refine aA ?_
     have b7 := m7.at hc.blk (fun e => (hc.own.neBlock hc.blk (by omega)) e.symm)
     clear hpc
     have hpc := aE (cs := c.cells) b7
     refine_lift bY fun _ _ => ?_
     refine bH (enters_of Tryz.func143 rfl rfl) rfl rfl (WF o7) ?_
     rintro e w8 ⟨v8, rfl, o8, m8, k8⟩
     refine ⟨_, rfl, ?_⟩
     refine aA ?_
     have b8 := m8.at b7 (fun e => (o7.neBlock b7 (by omega)) e.symm)
     clear hpc
     have hpc := aE (cs := c.cells) b8
     refine_lift aS ?_
     refine dP (cs := c.cells) b8 rfl rfl rfl (show 3 < 4 by omega) (by decide +kernel) o8.one ?_
     intro w9 p9
     have hM9 : L1 w w9 u5 (gcs2.set j ⟨c.b, v8, lI c.s⟩) := by
      have m78 : Mv c.v.ownBlock w6 w8 := m7.trans m8
      have hg := hM6.sets.turn (c' := ⟨c.b, v8, lI c.s⟩) hi rfl m78 o8 (.inl k8) p9
      obtain ⟨es, ck, hm1, hm2, hm3⟩ := hM6.map.out
      have hnm : c.v.ownBlock ≠ some w.heap.size := hc.own.neMap hm1
      have hm8 := m78.at hm1 (fun e => hnm e.symm)
      refine ⟨?_, ?_, ?_, hg⟩
      ·refine (hM6.ext.move m78 (fun k hk => by have := (hc.own.block k hk).1; omega)).move p9.mv (by rintro k ⟨⟩; have := hc.ge; omega)
      ·have hm := hM6.map.at (w' := w9) (fun o ho => by
        rw [hm1] at ho; cases ho
        exact p9.at hm8 (fun e => by have b := b8; have h := hm8; rw [e] at h; rw [b] at h; cases h))
       rw [kF (c' := ⟨c.b, v8, lI c.s⟩) hi rfl]
       exact hm
      ·have hk13 := hM6.keys
       rw [mE (c' := ⟨c.b, v8, lI c.s⟩) hi rfl]
       have hk14 := hk13.mv m78 (hk13.ne hc.own (by omega))
       exact hk14.mv p9.mv (.inr (hk14.neBlock b8 (by omega)))
     have hout9 : Own (w.heap.size + 1) 4 119 w9 u12 ((gcs2.take j).map GC.cells) := by
      have h1 := hout6.mv (m7.trans m8) (hout6.ne hc.own (by omega))
      exact h1.mv p9.mv (.inr (hob c (List.mem_of_getElem? hi)))
     have b9 : w9.heap[c.b]? = some (.cells [aI c.s.name, .int .i64 c.s.kind, .int .i64 c.s.ttl, v8].toArray 119 (0, 0)) := p9.this
     have o9 : Own (w.heap.size + 1) 1 9 w9 v8 (aN (lI c.s).data) := (hM9.sets.each ⟨c.b, v8, lI c.s⟩ (List.mem_of_getElem? (List.getElem?_set_self hjl))).own
     have hnl : (aN (lI c.s).data).length = (lI c.s).data.length := aR _
     clear hpc m7 m8 p9 x6 hp6 b7 b8 o7 o8
     have hpc := aE b9
     have hsl9 := o9.sl
     refine_lift rF (fun _ => ?_) (fun _ => ?_)
     ·have hlong := ‹20 < ((aN (lI c.s).data).length : Int)›
      go_ret2
      refine ⟨_, rfl, hM9.ext, ?_⟩
      have hE : jJ l = 4 := by
       have h1 : (eI l).any BR = true := by
        rw [List.any_eq_true]
        refine ⟨lI c.s, ?_, by simp [BR]; omega⟩
        rw [hcj, eI]
        exact List.mem_map.2 ⟨_, List.getElem_mem hlt2, rfl⟩
       rw [jJ, if_neg (by rw [hall]; simp), if_pos h1]
      unfold GroupO
      rw [hE, if_neg (by omega)]
      rfl
     ·have hshort := ‹((aN (lI c.s).data).length : Int) ≤ 20›
      refine_lift aS ?_
      refine bZ (e := 119) (k := 4) (bytes := 56) (xs := [.agg #[aI c.s.name, .int .i64 c.s.kind, .int .i64 c.s.ttl, v8]]) rfl rfl rfl (by simp [Value.cells]) (by decide +kernel) (by simp) ?_
      intro v10 w10 x10 s10 sl10 _
      refine aA ?_
      refine_lift aS ?_
      have hM10 := hM9.grow x10
      have hol : ((gcs2.take j).map GC.cells).length = j := by rw [List.length_map, List.length_take]; omega
      refine fT (B := w.heap.size + 1) (e := 119) (k := 4) (bytes := 56) rfl (hout9.ext x10) rfl sl10 (by decide +kernel) (by intro f hf u hu; simp only [List.map_cons, List.map_nil, List.mem_singleton] at hf; subst hf; simp only [Value.cells, List.mem_cons, List.not_mem_nil, or_false] at hu; rcases hu with rfl | rfl | rfl | rfl; rfl; rfl; rfl; exact o9.one) (by have := hM10.map.lt; omega) (by rw [hol]; simp; omega) (by rw [hol]; simp; omega) ?_
      intro v11 w11 o11 m11 k11
      have hob2 : ∀ x ∈ gcs2.set j ⟨c.b, v8, lI c.s⟩, u12.ownBlock ≠ some x.b := by
       intro x hx
       rcases vP hx with rfl | ⟨i, _, hx⟩
       ·exact hob c (List.mem_of_getElem? hi)
       ·exact hob x (List.mem_of_getElem? hx)
      have hM11 : L1 w w11 u5 (gcs2.set j ⟨c.b, v8, lI c.s⟩) := hM10.mvOut m11 (hout9.ext x10) hob2
      refine_lift aS ?_
      refine ⟨⟨j + 1, _, by omega, rfl, hM11, ?_, ?_, ?_, ?_⟩, by simp [intOf]; omega⟩
      ·rw [List.map_set, hs2, eS hlt2]
       have hA : (((cL l).take j).map lI).length = j := by rw [List.length_map, List.length_take]; omega
       rw [List.set_append_right _ _ (by omega), hA, Nat.sub_self, List.drop_eq_getElem_cons hlt2, List.set_cons_zero, List.append_assoc, hcj]
       rfl
      ·rw [eS hlt2, List.any_append, hbig, ← hcj]
       simp [BR]; omega
      ·have e1 : ((gcs2.set j ⟨c.b, v8, lI c.s⟩).take (j + 1)).map GC.cells = (gcs2.take j).map GC.cells ++ [[aI c.s.name, .int .i64 c.s.kind, .int .i64 c.s.ttl, v8]] := by
        rw [eS (by rw [List.length_set]; exact hjl)]
        congr 1
        ·rw [List.take_set_of_le (Nat.le_refl _)]
        ·rw [List.getElem_set_self]; rfl
       rw [e1]
       simpa [Value.cells] using o11
      ·intro x hx
       have hxb : x.b < w9.heap.size := (Array.getElem?_eq_some_iff.1 (hM9.sets.each x hx).blk).1
       rcases k11 with h | h
       ·rw [h]; exact hob2 x hx
       ·rw [h]; intro e; have := Option.some.inj e; omega
    ·have hj2 : j = (cL l).length := by omega
     subst hj2
     rw [List.take_length, List.drop_length, List.append_nil] at hs2
     rw [List.take_length] at hbig
     rw [← hl2, List.take_length] at hout
     have hosl := hout.sl
     have hol : (gcs2.map GC.cells).length = (cL l).length := by rw [List.length_map, hl2]
     have hbig2 : (eI l).any BR = false := hbig
     have hgl2 : (eI l).length = (cL l).length := by rw [eI, List.length_map]
     refine_lift QK (fun _ _ _ _ => ?_) (fun _ _ _ _ => ?_)
     ·have h200 := ‹200 < (gcs2.length : Int)›
      go_ret2
      refine ⟨_, rfl, hM.ext, ?_⟩
      have hE : jJ l = 4 := by rw [jJ, if_neg (by rw [hall]; simp), if_neg (by rw [hbig2]; simp), if_pos (by omega)]
      unfold GroupO
      rw [hE, if_neg (by omega)]
      rfl
     ·have h200 := ‹(gcs2.length : Int) ≤ 200›
      have hE : jJ l = 0 := by rw [jJ, if_neg (by rw [hall]; simp), if_neg (by rw [hbig2]; simp), if_neg (by omega)]
      rcases hout.form with ⟨rfl, h0⟩ | ⟨g, cap, hform, hgs3, hgB, hgc, hg63⟩
      ·have hg0 : gcs2 = [] := by simpa using h0
       subst hg0
       refine bH (enters_of Tryz.func144 rfl rfl) rfl rfl (QP _ _) ?_
       rintro e w7 ⟨rfl, rfl⟩
       refine ⟨_, rfl, ?_⟩
       refine aA ?_
       refine_lift aS ?_
       go_ret2
       refine ⟨_, rfl, hM.ext, ?_⟩
       unfold GroupO
       rw [hE, if_pos rfl]
       refine ⟨[], .slice none 0 0, rfl, ?_, ?_, SetsO.nil _ _⟩
       ·have : eI l = [] := by rw [eI, ← hs2]; rfl
        rw [this]
       ·intro i j s t _ hs; simp at hs
      ·have hcells : (gcs2.map GC.toC).map SetC.cells = gcs2.map GC.cells := by
        rw [List.map_map]
        apply List.map_congr_left
        intro c hc
        exact GC.toC_cells (hM.sets.each c hc)
       have hlen : (gcs2.map GC.cells).length = (gcs2.map GC.toC).length := by simp
       rw [hlen] at hform
       have hout2 := hout
       rw [← hcells, hform] at hout2
       rw [hform]
       refine bH (enters_of Tryz.func144 rfl rfl) rfl rfl (WQ _ _ hout2 (by rw [List.length_map]; omega)) ?_
       rintro e w7 ⟨rfl, l', hperm, hsort, o7, m7⟩
       refine ⟨_, rfl, ?_⟩
       refine aA ?_
       refine_lift aS ?_
       have hob7 : ∀ c ∈ gcs2, (Value.slice (some ⟨g, 0, none⟩) (gcs2.map GC.toC).length cap).ownBlock ≠ some c.b := by
        intro c hc; rw [← hform]; exact hob c hc
       have hM7 : L1 w w7 u5 gcs2 := hM.mvOut (out := .slice (some ⟨g, 0, none⟩) (gcs2.map GC.toC).length cap) m7 hout2 hob7
       go_ret2
       refine ⟨_, rfl, hM7.ext, ?_⟩
       unfold GroupO
       rw [hE, if_pos rfl]
       have hll : l'.length = (gcs2.map GC.toC).length := hperm.length_eq
       refine ⟨l'.map SetC.toS, .slice (some ⟨g, 0, none⟩) gcs2.length cap, rfl, ?_, ?_, ⟨l'.map SetC.cells, by rw [hll, List.length_map] at o7; exact o7.sl, by rw [hll, List.length_map] at o7; exact o7.from' (Nat.le_succ _), ⟨by simp, ?_⟩, ?_⟩⟩
       ·have h1 := hperm.map SetC.toS
        have h2 : (gcs2.map GC.toC).map SetC.toS = eI l := by
         rw [eI, ← hs2, List.map_map]
         apply List.map_congr_left
         intro c hc
         rfl
        rw [h2] at h1
        exact h1
       ·intro i j s t hij hs ht
        rw [List.getElem?_map] at hs ht
        cases hi : l'[i]? with
        | none => rw [hi] at hs; cases hs
        | some a =>
         cases hj3 : l'[j]? with
         | none => rw [hj3] at ht; cases ht
         | some b =>
          rw [hi] at hs; rw [hj3] at ht
          cases hs; cases ht
          obtain ⟨hi1, rfl⟩ := List.getElem?_eq_some_iff.1 hi
          obtain ⟨hj1, rfl⟩ := List.getElem?_eq_some_iff.1 hj3
          exact hsort i j hij hj1
       ·intro i s hs
        rw [List.getElem?_map] at hs
        cases hi : l'[i]? with
        | none => rw [hi] at hs; cases hs
        | some a =>
         rw [hi] at hs
         cases hs
         have hmem := hperm.mem_iff.1 (List.mem_of_getElem? hi)
         obtain ⟨c, hc, rfl⟩ := List.mem_map.1 hmem
         have hck := hM7.sets.each c hc
         refine ⟨c.v, by rw [List.getElem?_map, hi, Option.map_some, GC.toC_cells hck]; rfl, hck.own.sl⟩
       ·intro f hf u hu
        obtain ⟨a, ha, rfl⟩ := List.mem_map.1 hf
        obtain ⟨c, hc, rfl⟩ := List.mem_map.1 (hperm.mem_iff.1 ha)
        have hck := hM7.sets.each c hc
        rw [GC.toC_cells hck] at hu
        simp only [GC.cells, List.mem_cons, List.not_mem_nil, or_false] at hu
        rcases hu with rfl | rfl | rfl | rfl
        ·intro b o s n c e; cases e
        ·intro b o s n c e; cases e
        ·intro b o s n c e; cases e
        ·exact hck.own.from' (Nat.le_succ _)
theorem vT (d : Array (List UInt8)) (x : List UInt8) : ∀ m, x ∈ Lib.compactUpTo d m ↔ ∃ j, j < m ∧ d[j]! = x
 | 0 => by simp [Lib.compactUpTo]
 | m + 1 => by
   have ih := vT d x m
   rw [Lib.compactUpTo_succ, List.mem_append, ih]
   constructor
   ·rintro (⟨j, h1, h2⟩ | h)
    ·exact ⟨j, by omega, h2⟩
    ·split at h
     ·exact ⟨m, by omega, (List.mem_singleton.1 h).symm⟩
     ·cases h
   ·rintro ⟨j, h1, h2⟩
    by_cases hj : j < m
    ·exact .inl ⟨j, hj, h2⟩
    ·have : j = m := by omega
     subst this
     by_cases hk : Lib.keeps d j = true
     ·right; rw [if_pos hk]; simp [h2]
     ·left
      simp only [Lib.keeps, decide_eq_true_eq, not_or, ne_eq, Classical.not_not] at hk
      exact ⟨j - 1, by omega, by rw [← hk.2]; exact h2⟩
theorem tO {a b : List UInt8} (h : a ≤ b) (hn : a ≠ b) : a < b := by
 rcases Std.lt_trichotomy a b with h1 | h1 | h1
 ·exact h1
 ·exact absurd h1 hn
 ·exact absurd h (List.not_le.2 h1)
theorem tP (d : Array (List UInt8)) (hd : ∀ i j, i < j → j < d.size → d[i]! ≤ d[j]!) : ∀ m, m ≤ d.size → (Lib.compactUpTo d m).Pairwise (· < ·)
 | 0, _ => by simp [Lib.compactUpTo]
 | m + 1, hm => by
   have ih := tP d hd m (by omega)
   rw [Lib.compactUpTo_succ, List.pairwise_append]
   refine ⟨ih, by split <;> simp, fun x hx y hy => ?_⟩
   split at hy
   ·rename_i hk
    have hy := List.mem_singleton.1 hy
    subst hy
    obtain ⟨j, hj, rfl⟩ := (vT d x m).1 hx
    simp only [Lib.keeps, decide_eq_true_eq] at hk
    have hne : d[m]! ≠ d[m - 1]! := hk.resolve_left (by omega)
    have h1 : d[j]! ≤ d[m - 1]! := by
     by_cases e : j = m - 1
     ·rw [e]; exact List.le_refl _
     ·exact hd j (m - 1) (by omega) (by omega)
    have h2 := tO (hd (m - 1) m (by omega) (by omega)) (Ne.symm hne)
    exact Std.lt_of_le_of_lt h1 h2
   ·cases hy
def SY (l : List (List UInt8)) : List (List UInt8) := Lib.compact (l.mergeSort fun x y => decide (x ≤ y))
theorem NZ {l : List (List UInt8)} {x : List UInt8} : x ∈ SY l ↔ x ∈ l := by
 unfold SY Lib.compact
 rw [vT]
 rw [← List.mem_mergeSort (le := fun x y : List UInt8 => decide (x ≤ y)) (l := l)]
 generalize l.mergeSort (fun x y => decide (x ≤ y)) = s
 constructor
 ·rintro ⟨j, hj, h⟩
  rw [getElem!_pos s.toArray j (by simpa using hj)] at h
  rw [← h]
  simp
 ·intro h
  obtain ⟨j, hj⟩ := List.mem_iff_getElem?.1 h
  obtain ⟨hj1, hj2⟩ := List.getElem?_eq_some_iff.1 hj
  exact ⟨j, hj1, by rw [getElem!_pos s.toArray j (by simpa using hj1)]; simpa using hj2⟩
theorem FY (l : List (List UInt8)) : (SY l).Pairwise (· < ·) := by
 unfold SY Lib.compact
 have hs := List.pairwise_mergeSort (le := fun x y : List UInt8 => decide (x ≤ y)) (fun a b c h1 h2 => by simp at *; exact Std.le_trans h1 h2) (fun a b => by simp; exact Std.le_total) l
 generalize l.mergeSort (fun x y => decide (x ≤ y)) = s at hs ⊢
 refine tP _ (fun i j hij hj => ?_) _ (by simp)
 have hj' : j < s.length := by simpa using hj
 rw [getElem!_pos s.toArray j hj, getElem!_pos s.toArray i (by simp; omega)]
 have := List.pairwise_iff_getElem.1 hs i j (by omega) hj' hij
 simpa using this
theorem JE : ∀ {a b : List (List UInt8)}, a.Pairwise (· < ·) → b.Pairwise (· < ·) → (∀ x, x ∈ a ↔ x ∈ b) → a = b := by
 intro a b ha hb h
 have na : a.Nodup := ha.imp (fun h e => by subst e; exact Std.lt_irrefl h)
 have nb : b.Nodup := hb.imp (fun h e => by subst e; exact Std.lt_irrefl h)
 have hp : a.Perm b := (List.perm_ext_iff_of_nodup na nb).2 h
 exact hp.eq_of_pairwise (le := (· < ·)) (fun x y _ _ h1 h2 => absurd (Std.lt_trans h1 h2) (Std.lt_irrefl)) ha hb
def QT (gs : List RSet) (r : Rec) : Prop := ∃ s ∈ gs, bI s r = true ∧ s.ttl ≤ r.ttl ∧ r.data ∈ s.data
theorem tQ {s : RSet} {r q : Rec} : bI (jI s r) q = bI s q := rfl
theorem pT : ∀ {gs : List RSet} {r : Rec}, QT (dG gs r) r
 | [], r => ⟨⟨fold r.name, r.kind, r.ttl, [r.data]⟩, by simp [dG], by simp [bI], Int.le_refl _, by simp⟩
 | a :: l, r => by
   by_cases h : bI a r = true
   ·exact ⟨jI a r, by simp [dG, h], by rw [tQ]; exact h, Int.min_le_right _ _, by simp [jI]⟩
   ·obtain ⟨s, h1, h2⟩ := pT (gs := l) (r := r)
    exact ⟨s, by simp [dG, h, h1], h2⟩
theorem zX : ∀ {gs : List RSet} {r q : Rec}, QT gs q → QT (dG gs r) q
 | [], r, q, ⟨s, h, _⟩ => by simp at h
 | a :: l, r, q, ⟨s, h1, h2, h3, h4⟩ => by
   by_cases h : bI a r = true
   ·rcases List.mem_cons.1 h1 with rfl | h1
    ·exact ⟨jI s r, by simp [dG, h], by rw [tQ]; exact h2, Int.le_trans (Int.min_le_left _ _) h3, by simp [jI, h4]⟩
    ·exact ⟨s, by simp [dG, h, h1], h2, h3, h4⟩
   ·rcases List.mem_cons.1 h1 with rfl | h1
    ·exact ⟨s, by simp [dG, h], h2, h3, h4⟩
    ·obtain ⟨t, g1, g2⟩ := zX (gs := l) (r := r) ⟨s, h1, h2, h3, h4⟩
     exact ⟨t, by simp [dG, h, g1], g2⟩
theorem vU (l : List Rec) : ∀ gs, (∀ q, QT gs q → QT (l.foldl dG gs) q) ∧ ∀ q ∈ l, QT (l.foldl dG gs) q := by
 induction l with
 | nil => intro gs; exact ⟨fun _ h => h, by simp⟩
 | cons r l ih =>
  intro gs
  obtain ⟨h1, h2⟩ := ih (dG gs r)
  refine ⟨fun q h => h1 q (zX h), fun q hq => ?_⟩
  rcases List.mem_cons.1 hq with rfl | hq
  ·exact h1 q pT
  ·exact h2 q hq
theorem vV {l : List Rec} {q : Rec} (h : q ∈ l) : QT (cL l) q := (vU l []).2 q h
theorem zY : ∀ {ls : List (List UInt8)}, ls.all kS = true → gH (enc ls) = some ls
 | [], _ => rfl
 | x :: ls, h => by
   simp only [List.all_cons, Bool.and_eq_true] at h
   obtain ⟨hx, hl⟩ := h
   have e : enc (x :: ls) = UInt8.ofNat x.length :: (x ++ enc ls) := by simp [enc]
   simp only [kS, Bool.and_eq_true, decide_eq_true_eq] at hx
   have hn : (UInt8.ofNat x.length).toNat = x.length := by rw [UInt8.toNat_ofNat']; exact Nat.mod_eq_of_lt (by omega)
   rw [e, jY, hn, if_neg (by rw [List.length_append]; omega), List.drop_left, List.take_left, zY hl]
   rfl
theorem FZ {ls : List (List UInt8)} (h : ls.all kS = true) (hl : (enc ls).length ≤ 254) : bF (enc ls) = some ls := by
 rw [bF, if_neg (by omega), zY h]
theorem JF (b : UInt8) : sN (sN b) = sN b := by
 unfold sN
 by_cases h : 65 ≤ b.toNat ∧ b.toNat ≤ 90
 ·rw [if_pos h, if_neg]
  have : (b + 32).toNat = b.toNat + 32 := by rw [UInt8.toNat_add]; have : (32 : UInt8).toNat = 32 := rfl; rw [this]; omega
  omega
 ·rw [if_neg h, if_neg h]
theorem LE (l : List UInt8) : low (low l) = low l := by simp [low, JF]
theorem OA {ls : List (List UInt8)} (h : ls.all kS = true) : (ls.map low).all kS = true := by
 simp only [List.all_map, List.all_eq_true] at *
 intro x hx
 have := h x hx
 simpa [kS, uZ] using this
theorem vW {n : List UInt8} {ls : List (List UInt8)} (h : bF n = some ls) : fold n = enc (ls.map low) ∧ bF (fold n) = some (ls.map low) ∧ fold (fold n) = fold n := by
 obtain ⟨h1, h2, h3⟩ := eC h
 have hf := OA h1
 have hl : (enc (ls.map low)).length ≤ 254 := by rw [vD, h2]; exact h3
 have e1 : fold n = enc (ls.map low) := by
  unfold fold
  rw [h]
  simp only [lW]
  rw [if_pos ⟨hf, hl⟩]
  rfl
 have e2 : bF (fold n) = some (ls.map low) := by rw [e1]; exact FZ hf hl
 refine ⟨e1, e2, ?_⟩
 have hmm : (ls.map low).map low = ls.map low := by simp [List.map_map, Function.comp_def, LE]
 show (match bF (fold n) with | none => fold n | some ls => (lW (ls.map low)).getD []) = fold n
 rw [e2]
 simp only [hmm, lW]
 rw [if_pos ⟨hf, hl⟩, e1]
 rfl
def Small (n : List UInt8) : Prop := ∃ m ls, bF m = some ls ∧ n = fold m
theorem Small.turned {n : List UInt8} (h : Small n) : ∃ ls, dJ n = some ls.reverse ∧ n = enc ls := by
 obtain ⟨m, ls, h1, rfl⟩ := h
 obtain ⟨e1, e2, e3⟩ := vW h1
 exact ⟨ls.map low, by rw [X.dJ, e3, e2]; rfl, e1⟩
theorem zZ {a b : List UInt8} (h : jH a b = 0) : a = b := by
 rw [lH] at h
 split at h
 ·omega
 ·split at h
  ·assumption
  ·omega
theorem AA : ∀ {a b : List (List UInt8)}, gG a b = 0 → a = b
 | [], [], _ => rfl
 | [], _ :: _, h => by simp [gG] at h
 | _ :: _, [], h => by simp [gG] at h
 | x :: xs, y :: ys, h => by
   simp only [gG] at h
   split at h
   ·rename_i hn; exact absurd h hn
   ·rename_i hn
    have hz : jH x y = 0 := by omega
    rw [zZ hz, AA h]
theorem JG {a b : List UInt8} (ha : Small a) (hb : Small b) (h : gP a b = 0) : a = b := by
 obtain ⟨x, hx, rfl⟩ := ha.turned
 obtain ⟨y, hy, rfl⟩ := hb.turned
 unfold gP at h
 rw [hx, hy] at h
 have := AA h
 rw [List.reverse_inj.1 this]
theorem kQ {a b : List UInt8} {j k : Int} (ha : Small a) (hb : Small b) (h : dQ a b j k = 0) : a = b ∧ j = k := by
 unfold dQ at h
 split at h
 ·rename_i hn; exact absurd h hn
 ·rename_i hn
  refine ⟨JG ha hb (by omega), ?_⟩
  unfold FW at h
  split at h
  ·omega
  ·split at h <;> omega
theorem rL {l : List Rec} (h : l.all mT = true) {s : RSet} (hs : s ∈ eI l) : Small s.name := by
 obtain ⟨t, ht, rfl⟩ := List.mem_map.1 hs
 obtain ⟨r, hr, e1, _⟩ := zW ht
 have hrc : aW r = 0 := by simpa [mT] using List.all_eq_true.1 h r hr
 obtain ⟨hlab, _⟩ := jS (n := []) hrc
 obtain ⟨ls, hls⟩ := Option.isSome_iff_exists.1 hlab
 exact ⟨r.name, ls, hls, e1⟩
theorem rM (l : List Rec) : (eI l).Pairwise fun s t => ¬ (s.name = t.name ∧ s.kind = t.kind) := List.pairwise_map.2 (gJ.1 (jR l))
def UP (s t : RSet) : Prop := 0 ≤ dQ t.name s.name t.kind s.kind
theorem AB {l : List RSet} (h : sS l) : l.Pairwise UP := by
 rw [List.pairwise_iff_getElem]
 intro i j hi hj hij
 exact h i j _ _ hij (List.getElem?_eq_getElem hi) (List.getElem?_eq_getElem hj)
theorem GA {l : List Rec} (hok : l.all mT = true) {a b : List RSet} (ha : a.Perm (eI l)) (hb : b.Perm (eI l)) (sa : sS a) (sb : sS b) : a = b := by
 have key : ∀ s t, s ∈ a → t ∈ b → UP s t → UP t s → s = t := by
  intro s t hs ht h1 h2
  have hs' := ha.mem_iff.1 hs
  have ht' := hb.mem_iff.1 ht
  have an : dQ t.name s.name t.kind s.kind = - dQ s.name t.name s.kind t.kind := iO.anti (s.name, s.kind) (t.name, t.kind)
  have h1' : 0 ≤ dQ t.name s.name t.kind s.kind := h1
  have h2' : 0 ≤ dQ s.name t.name s.kind t.kind := h2
  clear h1 h2
  have hz : dQ s.name t.name s.kind t.kind = 0 := by
   generalize dQ s.name t.name s.kind t.kind = p at *
   generalize dQ t.name s.name t.kind s.kind = q at *
   omega
  obtain ⟨e1, e2⟩ := kQ (rL hok hs') (rL hok ht') hz
  by_cases e : s = t
  ·exact e
  ·exfalso
   obtain ⟨i, hi⟩ := List.mem_iff_getElem?.1 hs'
   obtain ⟨j, hj⟩ := List.mem_iff_getElem?.1 ht'
   have hij : i ≠ j := by
    rintro rfl
    rw [hi] at hj
    exact e (Option.some.inj hj)
   exact gJ.2 (rM l) i j s t hi hj hij ⟨e1, e2⟩
 exact List.Perm.eq_of_pairwise key (AB sa) (AB sb) (ha.trans hb.symm)
end Go.Proofs.X
